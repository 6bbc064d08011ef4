/- A small separation logic over the model: how lists, rows and structs of Go read in memory ('Rep'), what a call owns ('Sat'), and the laws of the walk for them. Program-independent. -/
import Derived.WalkKit
import Derived.ProofKit
import Derived.WalkLawsBesides
import Derived.Outline
import Derived.Lib.Hide
import Derived.Deep.Quiet
import Derived.Deep.LoopGhost
import Derived.IntWalk
import Derived.Test.YtnipkopfefkojaaGreatRows
import Derived.OpenShut
import Derived.Lib.SmallJoins
import Derived.Laws.BytesString
namespace Go.Proofs.YtnipkopfefkojaaGreat
open Go.RowKit
abbrev Ext (w w':World):Prop:=Below w.heap.size w w'

theorem Ext.refl (w:World):Ext w w:=Below.refl _ _
theorem Ext.trans {a b c:World} (h:Ext a b) (k:Ext b c):Ext a c:=Below.trans h (k.mono h.size)
theorem Below.andExt {B:Nat} {a b c:World} (h:Below B a b) (hB:B≤b.heap.size) (k:Ext b c):Below B a c:=Below.trans h (k.mono hB)

structure Chg (fp:List Nat) (w w':World):Prop where
 os:w'.os=w.os
 tape:w'.tape=w.tape
 output:w'.output=w.output
 size:w.heap.size≤w'.heap.size
 block:∀ k,k<w.heap.size→k∉fp→w'.heap[k]? = w.heap[k]?

theorem Chg.of_ext {w w':World} (h:Ext w w') (fp:List Nat):Chg fp w w':=⟨h.os,h.tape,h.output,h.size,fun k hk _=>h.block k hk⟩
theorem Chg.trans {fp:List Nat} {a b c:World} (h:Chg fp a b) (k:Chg fp b c):Chg fp a c :=
 ⟨k.os.trans h.os,k.tape.trans h.tape,k.output.trans h.output,Nat.le_trans h.size k.size,fun i hi hn=>(k.block i (Nat.lt_of_lt_of_le hi h.size) hn).trans (h.block i hi hn)⟩
theorem Chg.mono {fp fp':List Nat} {a b:World} (h:Chg fp a b) (hs:∀ x∈fp,x∈fp'):Chg fp' a b :=
 ⟨h.os,h.tape,h.output,h.size,fun k hk hn=>h.block k hk (fun hm=>hn (hs k hm))⟩
theorem Chg.ext {a b:World} (h:Chg [] a b):Ext a b:=⟨h.os,h.tape,h.output,h.size,fun k hk=>h.block k hk (by simp)⟩
theorem Chg.refl (fp:List Nat) (w:World):Chg fp w w:=⟨rfl,rfl,rfl,Nat.le_refl _,fun _ _ _=>rfl⟩
theorem Chg.alloc (w:World) (o:Obj):Chg [] w (w.alloc o):=Chg.of_ext ((Below.refl _ _).alloc (Nat.le_refl _) o) _

theorem wP {B:Nat} {a b c:World} {fp:List Nat} (h:Below B a b) (hB:B≤b.heap.size) (k:Chg fp b c) (hf:∀ x∈fp,B≤x):Below B a c :=
  ⟨k.os.trans h.os,k.tape.trans h.tape,k.output.trans h.output,Nat.le_trans h.size k.size,
   fun i hi=>(k.block i (Nat.lt_of_lt_of_le hi hB) (fun hm=>by have:=hf i hm;omega)).trans (h.block i hi)⟩

structure Rep (α:Type) where
 sz:Nat
 rd:World→List Value→α→Prop
 own:World→List Value→α→List Nat→Prop
 rd_len:∀ {w cs x},rd w cs x→cs.length=sz
 rd_one:∀ {w cs x},rd w cs x→∀ c∈cs,c.oneCell'=true
 rd_ext:∀ {w w' cs x},rd w cs x→Ext w w'→rd w' cs x
 own_rd:∀ {w cs x fp},own w cs x fp→rd w cs x
 own_ext:∀ {w w' cs x fp},own w cs x fp→(∀ b∈fp,w'.heap[b]? = w.heap[b]?)→own w' cs x fp
 own_lt:∀ {w cs x fp},own w cs x fp→∀ b∈fp,b<w.heap.size

def bN:Rep Int where
 sz:=1
 rd _ cs n:=cs=[.int .i64 n]
 own _ cs n fp:=cs=[.int .i64 n]∧fp=[]
 rd_len h:=by subst h;rfl
 rd_one h:=by subst h;simp [Value.oneCell']
 rd_ext h _:=h
 own_rd h:=h.1
 own_ext h _:=h
 own_lt h:=by rw [h.2];simp

def jj:Rep ByteArray where
 sz:=1
 rd _ cs s:=cs=[.string s]∧s.size≤9223372036854775807
 own _ cs s fp:=(cs=[.string s]∧s.size≤9223372036854775807)∧fp=[]
 rd_len h:=by rw [h.1];rfl
 rd_one h:=by rw [h.1];simp [Value.oneCell']
 rd_ext h _:=h
 own_rd h:=h.1
 own_ext h _:=h
 own_lt h:=by rw [h.2];simp

def og {α β:Type} (R:Rep α) (S:Rep β):Rep (α × β) where
 sz:=R.sz+S.sz
 rd w cs x:=∃ c1 c2,cs=c1++c2∧R.rd w c1 x.1∧S.rd w c2 x.2
 own w cs x fp:=∃ c1 c2 f1 f2,cs=c1++c2∧fp=f1++f2∧R.own w c1 x.1 f1∧S.own w c2 x.2 f2
 rd_len h:=by obtain ⟨c1,c2,rfl,h1,h2⟩:=h;rw [List.length_append,R.rd_len h1,S.rd_len h2]
 rd_one h:=by
  obtain ⟨c1,c2,rfl,h1,h2⟩:=h
  intro c hc
  rcases List.mem_append.1 hc with h | h
  ·exact R.rd_one h1 c h
  ·exact S.rd_one h2 c h
 rd_ext h he:=by obtain ⟨c1,c2,rfl,h1,h2⟩:=h;exact ⟨c1,c2,rfl,R.rd_ext h1 he,S.rd_ext h2 he⟩
 own_rd h:=by obtain ⟨c1,c2,f1,f2,rfl,rfl,h1,h2⟩:=h;exact ⟨c1,c2,rfl,R.own_rd h1,S.own_rd h2⟩
 own_ext h he:=by
  obtain ⟨c1,c2,f1,f2,rfl,rfl,h1,h2⟩:=h
  exact ⟨c1,c2,f1,f2,rfl,rfl,R.own_ext h1 (fun b hb=>he b (List.mem_append_left _ hb)),S.own_ext h2 (fun b hb=>he b (List.mem_append_right _ hb))⟩
 own_lt h:=by
  obtain ⟨c1,c2,f1,f2,rfl,rfl,h1,h2⟩:=h
  intro b hb
  rcases List.mem_append.1 hb with h | h
  ·exact R.own_lt h1 b h
  ·exact S.own_lt h2 b h

def m4 (w:World) (ao:Option Addr) (ccs:List Value):Prop :=
 ccs=[]∨∃ b off,ao=some ⟨b,off,none⟩∧∀ j c,ccs[j]? = some c→w.cell? ⟨b,off+j,none⟩=some c

section
variable {α:Type} (R:Rep α)
def rdL (w:World):List Value→List α→Prop
 | ccs,[]=>ccs=[]
 | ccs,x :: xs=>∃ ec rest,ccs=ec++rest∧R.rd w ec x∧rdL w rest xs
def dN (w:World):List Value→List α→List Nat→Prop
 | ccs,[],fp=>ccs=[]∧fp=[]
 | ccs,x :: xs,fp=>∃ ec rest f1 f2,ccs=ec++rest∧fp=f1++f2∧R.own w ec x f1∧dN w rest xs f2
variable {R}
theorem gk {w:World}:∀ {xs:List α} {ccs:List Value},rdL R w ccs xs→ccs.length=xs.length*R.sz
 | [],_,h=>by simp only [rdL] at h;subst h;simp
 | x :: xs,_,h=>by
  obtain ⟨ec,rest,rfl,h1,h2⟩:=h
  rw [List.length_append,R.rd_len h1,gk h2,List.length_cons,Nat.add_mul,Nat.one_mul,Nat.add_comm]
theorem uR {w:World}:∀ {xs:List α} {ccs:List Value},rdL R w ccs xs→∀ c∈ccs,c.oneCell'=true
 | [],_,h=>by simp only [rdL] at h;subst h;simp
 | x :: xs,_,h=>by
  obtain ⟨ec,rest,rfl,h1,h2⟩:=h
  intro c hc
  rcases List.mem_append.1 hc with h | h
  ·exact R.rd_one h1 c h
  ·exact uR h2 c h
theorem vh {w w':World} (he:Ext w w'):∀ {xs:List α} {ccs:List Value},rdL R w ccs xs→rdL R w' ccs xs
 | [],_,h=>h
 | x :: xs,_,h=>by
  obtain ⟨ec,rest,rfl,h1,h2⟩:=h
  exact ⟨ec,rest,rfl,R.rd_ext h1 he,vh he h2⟩
theorem fD {w:World}:∀ {xs:List α} {ccs:List Value} {fp:List Nat},dN R w ccs xs fp→rdL R w ccs xs
 | [],_,_,h=>h.1
 | x :: xs,_,_,h=>by
  obtain ⟨ec,rest,f1,f2,rfl,rfl,h1,h2⟩:=h
  exact ⟨ec,rest,rfl,R.own_rd h1,fD h2⟩
theorem fz {w w':World}:∀ {xs:List α} {ccs:List Value} {fp:List Nat},dN R w ccs xs fp→(∀ b∈fp,w'.heap[b]? = w.heap[b]?)→dN R w' ccs xs fp
 | [],_,_,h,_=>h
 | x :: xs,_,_,h,he=>by
  obtain ⟨ec,rest,f1,f2,rfl,rfl,h1,h2⟩:=h
  exact ⟨ec,rest,f1,f2,rfl,rfl,R.own_ext h1 (fun b hb=>he b (List.mem_append_left _ hb)),fz h2 (fun b hb=>he b (List.mem_append_right _ hb))⟩
theorem fJ {w:World}:∀ {xs:List α} {ccs:List Value} {fp:List Nat},dN R w ccs xs fp→∀ b∈fp,b<w.heap.size
 | [],_,_,h=>by rw [h.2];simp
 | x :: xs,_,_,h=>by
  obtain ⟨ec,rest,f1,f2,rfl,rfl,h1,h2⟩:=h
  intro b hb
  rcases List.mem_append.1 hb with h | h
  ·exact R.own_lt h1 b h
  ·exact fJ h2 b h
theorem m9 {w:World} {ys:List α} {ccs':List Value} {fp':List Nat} (h':dN R w ccs' ys fp') :
  ∀ {xs:List α} {ccs:List Value} {fp:List Nat},dN R w ccs xs fp→dN R w (ccs++ccs') (xs++ys) (fp++fp')
 | [],_,_,h=>by obtain ⟨rfl,rfl⟩:=h;simpa using h'
 | x :: xs,_,_,h=>by
  obtain ⟨ec,rest,f1,f2,rfl,rfl,h1,h2⟩:=h
  exact ⟨ec,rest++ccs',f1,f2++fp',by simp,by simp,h1,m9 h' h2⟩
theorem rM {w:World} {ys:List α} {ccs':List Value} (h':rdL R w ccs' ys) :
  ∀ {xs:List α} {ccs:List Value},rdL R w ccs xs→rdL R w (ccs++ccs') (xs++ys)
 | [],_,h=>by simp only [rdL] at h;subst h;simpa using h'
 | x :: xs,_,h=>by
  obtain ⟨ec,rest,rfl,h1,h2⟩:=h
  exact ⟨ec,rest++ccs',by simp,h1,rM h' h2⟩
theorem mz {w:World}:∀ {xs:List α} {ccs:List Value},rdL R w ccs xs→∀ (i:Nat) (h:i<xs.length),
  ∃ ec,R.rd w ec xs[i]∧∀ j c,ec[j]? = some c→ccs[i*R.sz+j]? = some c
 | [],_,_,i,h=>absurd h (by simp)
 | x :: xs,_,hr,i,h=>by
  obtain ⟨ec,rest,rfl,h1,h2⟩:=hr
  cases i with
  | zero =>
   refine ⟨ec,h1,fun j c hj=>?_⟩
   have hlt:j<ec.length:=(List.getElem?_eq_some_iff.1 hj).1
   rw [Nat.zero_mul,Nat.zero_add,List.getElem?_append_left hlt]
   exact hj
  | succ i =>
   obtain ⟨ec',h3,h4⟩:=mz h2 i (by simpa using h)
   refine ⟨ec',by simpa using h3,fun j c hj=>?_⟩
   have e:(i+1)*R.sz+j=ec.length+(i*R.sz+j):=by rw [R.rd_len h1,Nat.add_mul];omega
   rw [e,List.getElem?_append_right (by omega),Nat.add_sub_cancel_left]
   exact h4 j c hj
theorem ma {w:World}:∀ (k:Nat) {xs:List α} {ccs:List Value},rdL R w ccs xs→rdL R w (ccs.take (k*R.sz)) (xs.take k)∧rdL R w (ccs.drop (k*R.sz)) (xs.drop k)
 | 0,xs,ccs,h=>by simp [rdL];simpa using h
 | k+1,[],ccs,h=>by simp only [rdL] at h;subst h;simp [rdL]
 | k+1,x :: xs,ccs,h=>by
  obtain ⟨ec,rest,rfl,h1,h2⟩:=h
  obtain ⟨i1,i2⟩:=ma k h2
  have e:(k+1)*R.sz=ec.length+k*R.sz:=by rw [R.rd_len h1,Nat.add_mul];omega
  constructor
  ·refine ⟨ec,rest.take (k*R.sz),?_,h1,i1⟩
   rw [e,List.take_append,List.take_of_length_le (by omega),Nat.add_sub_cancel_left]
  ·rw [e,List.drop_append,List.drop_of_length_le (by omega),Nat.add_sub_cancel_left]
   simpa using i2
end

def ay {α:Type} (R:Rep α) (E:TypeId):Rep (List α) where
 sz:=1
 rd w cs xs:=∃ ao cap ccs,cs=[.slice ao xs.length cap]∧xs.length≤cap∧cap≤maxLen∧(ao=none→cap=0)∧rdL R w ccs xs∧m4 w ao ccs
 own w cs xs fp:=(cs=[.slice none 0 0]∧xs=[]∧fp=[]) ∨
  ∃ g cap cur ccs f2,cs=[.slice (some ⟨g,0,none⟩) xs.length cap]∧w.heap[g]? = some (.cells cur E (0,0))∧xs.length≤cap∧cap≤maxLen∧cur.size=cap*R.sz ∧
   cur.toList.take (xs.length*R.sz)=ccs∧dN R w ccs xs f2∧fp=g :: f2
 rd_len h:=by obtain ⟨_,_,_,rfl,_⟩:=h;rfl
 rd_one h:=by obtain ⟨_,_,_,rfl,_⟩:=h;simp [Value.oneCell']
 rd_ext h he:=by
  obtain ⟨ao,cap,ccs,rfl,h1,h2,h3,h4,h5⟩:=h
  refine ⟨ao,cap,ccs,rfl,h1,h2,h3,vh he h4,?_⟩
  rcases h5 with h5 | ⟨b,off,rfl,h5⟩
  ·exact .inl h5
  ·exact .inr ⟨b,off,rfl,fun j c hj=>by have:=h5 j c hj;rw [he.cell (block_lt_of_cell this)];exact this⟩
 own_rd h:=by
  rcases h with ⟨rfl,rfl,rfl⟩ | ⟨g,cap,cur,ccs,f2,rfl,hg,h1,h2,h3,h4,h5,rfl⟩
  ·exact ⟨none,0,[],rfl,Nat.le_refl _,Nat.zero_le _,fun _=>rfl,rfl,.inl rfl⟩
  ·refine ⟨_,cap,ccs,rfl,h1,h2,by simp,fD h5,.inr ⟨g,0,rfl,fun j c hj=>?_⟩⟩
   rw [Nat.zero_add,cell_of_row _ g j cur E (0,0) hg,← Array.getElem?_toList]
   rw [← h4,List.getElem?_take] at hj
   split at hj
   ·exact hj
   ·cases hj
 own_ext h he:=by
  rcases h with h | ⟨g,cap,cur,ccs,f2,rfl,hg,h1,h2,h3,h4,h5,rfl⟩
  ·exact .inl h
  ·exact .inr ⟨g,cap,cur,ccs,f2,rfl,by rw [he g (by simp)];exact hg,h1,h2,h3,h4,fz h5 (fun b hb=>he b (by simp [hb])),rfl⟩
 own_lt h:=by
  rcases h with ⟨_,_,rfl⟩ | ⟨g,cap,cur,ccs,f2,rfl,hg,h1,h2,h3,h4,h5,rfl⟩
  ·simp
  ·intro b hb
   rcases List.mem_cons.1 hb with rfl | hb
   ·exact (Array.getElem?_eq_some_iff.1 hg).1
   ·exact fJ h5 b hb

structure Asn where
 holds:World→List Nat→Prop
 ext:∀ {w w' fp},holds w fp→(∀ b∈fp,w'.heap[b]? = w.heap[b]?)→holds w' fp
 lt:∀ {w fp},holds w fp→∀ b∈fp,b<w.heap.size

def Own {α:Type} (R:Rep α) (cs:List Value) (x:α):Asn:=⟨fun w fp=>R.own w cs x fp,R.own_ext,R.own_lt⟩
def Box (b:Nat) (E:TypeId) (cs:List Value):Asn where
 holds w fp:=fp=[b]∧w.heap[b]? = some (.cells cs.toArray E (0,0))
 ext h he:=by obtain ⟨rfl,h⟩:=h;exact ⟨rfl,by rw [he b (by simp)];exact h⟩
 lt h:=by obtain ⟨rfl,h⟩:=h;intro b' hb;simp at hb;subst hb;exact (Array.getElem?_eq_some_iff.1 h).1

def iy (w:World):List Asn→List Nat→Prop
 | [],fp=>fp=[]
 | A :: Γ,fp=>∃ f1 f2,fp=f1++f2∧A.holds w f1∧iy w Γ f2

structure Sat (w0 w:World) (Γ:List Asn):Prop where
 below:Below w0.heap.size w0 w
 sat:∃ fp,iy w Γ fp∧fp.Nodup∧∀ b∈fp,w0.heap.size≤b

theorem iy.ext {w w':World}:∀ {Γ:List Asn} {fp:List Nat},iy w Γ fp→(∀ b∈fp,w'.heap[b]? = w.heap[b]?)→iy w' Γ fp
 | [],_,h,_=>h
 | A :: Γ,_,h,he=>by
  obtain ⟨f1,f2,rfl,h1,h2⟩:=h
  exact ⟨f1,f2,rfl,A.ext h1 (fun b hb=>he b (List.mem_append_left _ hb)),iy.ext h2 (fun b hb=>he b (List.mem_append_right _ hb))⟩
theorem iy.lt {w:World}:∀ {Γ:List Asn} {fp:List Nat},iy w Γ fp→∀ b∈fp,b<w.heap.size
 | [],_,h=>by simp only [iy] at h;subst h;simp
 | A :: Γ,_,h=>by
  obtain ⟨f1,f2,rfl,h1,h2⟩:=h
  intro b hb
  rcases List.mem_append.1 hb with h | h
  ·exact A.lt h1 b h
  ·exact iy.lt h2 b h
theorem iy.append {w:World} {Δ:List Asn} {g:List Nat} (k:iy w Δ g):∀ {Γ:List Asn} {fp:List Nat},iy w Γ fp→iy w (Γ++Δ) (fp++g)
 | [],_,h=>by simp only [iy] at h;subst h;simpa using k
 | A :: Γ,_,h=>by
  obtain ⟨f1,f2,rfl,h1,h2⟩:=h
  exact ⟨f1,f2++g,by simp,h1,iy.append k h2⟩
theorem iy.perm {w:World} {Γ Δ:List Asn} (hp:Γ.Perm Δ):∀ {fp:List Nat},iy w Γ fp→∃ fp',fp.Perm fp'∧iy w Δ fp':=by
 induction hp with
 | nil=>intro fp h;exact ⟨fp,.refl _,h⟩
 | cons A _ ih =>
  rintro _ ⟨f1,f2,rfl,h1,h2⟩
  obtain ⟨f2',p,h2'⟩:=ih h2
  exact ⟨f1++f2',List.Perm.append_left _ p,f1,f2',rfl,h1,h2'⟩
 | swap A B Γ =>
  rintro _ ⟨f1,_,rfl,h1,f2,f3,rfl,h2,h3⟩
  refine ⟨f2++(f1++f3),?_,f2,f1++f3,rfl,h2,f1,f3,rfl,h1,h3⟩
  rw [← List.append_assoc,← List.append_assoc]
  exact List.Perm.append_right _ List.perm_append_comm
 | trans _ _ ih1 ih2 =>
  intro fp h
  obtain ⟨f1,p1,h1⟩:=ih1 h
  obtain ⟨f2,p2,h2⟩:=ih2 h1
  exact ⟨f2,p1.trans p2,h2⟩

theorem Sat.start (w:World):Sat w w []:=⟨Below.refl _ _,[],rfl,by simp,by simp⟩
theorem Sat.le {w0 w:World} {Γ:List Asn} (h:Sat w0 w Γ):w0.heap.size≤w.heap.size:=h.below.size
theorem Sat.ext {w0 w w':World} {Γ:List Asn} (h:Sat w0 w Γ) (he:Ext w w'):Sat w0 w' Γ:=by
 obtain ⟨hb,fp,h1,h2,h3⟩:=h
 exact ⟨Below.andExt hb hb.size he,fp,h1.ext (fun b hb'=>he.block b (h1.lt b hb')),h2,h3⟩
theorem Sat.call {w0 w w':World} {Γ Δ:List Asn} (h:Sat w0 w Γ) (k:Sat w w' Δ):Sat w0 w' (Δ++Γ):=by
 obtain ⟨hb,fp,h1,h2,h3⟩:=h
 obtain ⟨kb,fk,k1,k2,k3⟩:=k
 refine ⟨Below.andExt hb hb.size kb,fk++fp,iy.append (h1.ext (fun b hb'=>kb.block b (h1.lt b hb'))) k1,?_,?_⟩
 ·rw [List.nodup_append]
  exact ⟨k2,h2,fun a ha b hb' e=>by have:=k3 a ha;have:=h1.lt b hb';omega⟩
 ·intro b hb'
  rcases List.mem_append.1 hb' with h | h
  ·have:=k3 b h;have:=hb.size;omega
  ·exact h3 b h
theorem Sat.call1 {w0 w w':World} {Γ:List Asn} {A:Asn} (h:Sat w0 w Γ) (k:Sat w w' [A]):Sat w0 w' (A :: Γ):=h.call k
theorem Sat.call2 {w0 w w':World} {Γ:List Asn} {A B:Asn} (h:Sat w0 w Γ) (k:Sat w w' [A,B]):Sat w0 w' (A :: B :: Γ):=h.call k
theorem Sat.perm {w0 w:World} {Γ Δ:List Asn} (h:Sat w0 w Γ) (hp:Γ.Perm Δ):Sat w0 w Δ:=by
 obtain ⟨hb,fp,h1,h2,h3⟩:=h
 obtain ⟨fp',p,h1'⟩:=iy.perm hp h1
 exact ⟨hb,fp',h1',p.nodup_iff.1 h2,fun b hb'=>h3 b (p.mem_iff.2 hb')⟩
theorem Sat.tail {w0 w:World} {A:Asn} {Γ:List Asn} (h:Sat w0 w (A :: Γ)):Sat w0 w Γ:=by
 obtain ⟨hb,_,⟨f1,f2,rfl,_,h2⟩,hn,h3⟩:=h
 exact ⟨hb,f2,h2,(List.nodup_append.1 hn).2.1,fun b hb'=>h3 b (List.mem_append_right _ hb')⟩
theorem Sat.head {w0 w:World} {A:Asn} {Γ:List Asn} (h:Sat w0 w (A :: Γ)):∃ fp,A.holds w fp∧fp.Nodup∧∀ b∈fp,w0.heap.size≤b:=by
 obtain ⟨_,_,⟨f1,f2,rfl,h1,_⟩,hn,h3⟩:=h
 exact ⟨f1,h1,(List.nodup_append.1 hn).1,fun b hb'=>h3 b (List.mem_append_left _ hb')⟩
theorem Sat.take {w0 w:World} {Γ:List Asn} (h:Sat w0 w Γ) (Δ Θ:List Asn) (hp:Γ.Perm (Δ++Θ)):Sat w0 w Δ:=by
 have h':=h.perm (hp.trans List.perm_append_comm)
 clear h hp
 induction Θ with
 | nil=>simpa using h'
 | cons A Θ ih=>exact ih h'.tail
theorem Sat.upd {w0 w w':World} {A B:Asn} {Γ:List Asn} (h:Sat w0 w (A :: Γ))
  (k:∀ fp,A.holds w fp→fp.Nodup→∃ fp',B.holds w' fp'∧fp'.Nodup∧Chg fp w w'∧∀ b∈fp',b∈fp∨w.heap.size≤b):Sat w0 w' (B :: Γ):=by
 obtain ⟨hb,_,⟨f1,f2,rfl,h1,h2⟩,hn,h3⟩:=h
 obtain ⟨n1,n2,n3⟩:=List.nodup_append.1 hn
 obtain ⟨f1',k1,k2,k3,k4⟩:=k f1 h1 n1
 refine ⟨wP hb hb.size k3 (fun x hx=>h3 x (List.mem_append_left _ hx)),f1'++f2,⟨f1',f2,rfl,k1,h2.ext (fun b hb'=>k3.block b (h2.lt b hb') (fun hm=>n3 b hm b hb' rfl))⟩,?_,?_⟩
 ·rw [List.nodup_append]
  refine ⟨k2,n2,fun a ha b hb' e=>?_⟩
  subst e
  rcases k4 a ha with h | h
  ·exact n3 a h a hb' rfl
  ·have:=h2.lt a hb';omega
 ·intro b hb'
  rcases List.mem_append.1 hb' with h | h
  ·rcases k4 b h with h | h
   ·exact h3 b (List.mem_append_left _ h)
   ·have:=hb.size;omega
  ·exact h3 b (List.mem_append_right _ h)
theorem Sat.join {w0 w:World} {A B C:Asn} {Γ:List Asn} (h:Sat w0 w (A :: B :: Γ)) (k:∀ f g,A.holds w f→B.holds w g→C.holds w (f++g)):Sat w0 w (C :: Γ):=by
 obtain ⟨hb,_,⟨f1,_,rfl,h1,f2,f3,rfl,h2,h4⟩,hn,h3⟩:=h
 exact ⟨hb,(f1++f2)++f3,⟨f1++f2,f3,rfl,k _ _ h1 h2,h4⟩,by simpa using hn,by simpa using h3⟩
theorem Sat.conv {w0 w:World} {A B:Asn} {Γ:List Asn} (h:Sat w0 w (A :: Γ)) (k:∀ f,A.holds w f→B.holds w f):Sat w0 w (B :: Γ):=by
 obtain ⟨hb,_,⟨f1,f2,rfl,h1,h2⟩,hn,h3⟩:=h
 exact ⟨hb,_,⟨f1,f2,rfl,k _ h1,h2⟩,hn,h3⟩
theorem Sat.add {w0 w:World} {A:Asn} {Γ:List Asn} (h:Sat w0 w Γ) (k:A.holds w []):Sat w0 w (A :: Γ):=by
 obtain ⟨hb,fp,h1,h2,h3⟩:=h
 exact ⟨hb,fp,⟨[],fp,rfl,k,h1⟩,h2,h3⟩
theorem Sat.box {w0 w:World} {Γ:List Asn} (h:Sat w0 w Γ) (E:TypeId) (cs:List Value):Sat w0 (w.alloc (.cells cs.toArray E)) (Box w.heap.size E cs :: Γ):=by
 have k:Sat w (w.alloc (.cells cs.toArray E)) [Box w.heap.size E cs] :=
  ⟨(Below.refl _ _).alloc (Nat.le_refl _) _,[w.heap.size],⟨[w.heap.size],[],by simp,⟨rfl,heap_alloc_new w _⟩,rfl⟩,by simp,by simp⟩
 simpa using h.call k
theorem jG (w:World) (o:Obj):Ext w (w.alloc o):=(Below.refl _ _).alloc (Nat.le_refl _) _
theorem Sat.rd {α:Type} {R:Rep α} {w0 w:World} {cs:List Value} {x:α} {Γ:List Asn} (h:Sat w0 w (Own R cs x :: Γ)):R.rd w cs x:=by
 obtain ⟨fp,h,_⟩:=h.head
 exact R.own_rd h

class AtBox (Γ:List Asn) (b:Nat) (E:outParam TypeId) (cs:outParam (List Value)) (rest:outParam (List Asn)):Prop where
 perm:Γ.Perm (Box b E cs :: rest)
instance (Γ:List Asn) (b:Nat) (E:TypeId) (cs:List Value):AtBox (Box b E cs :: Γ) b E cs Γ:=⟨.refl _⟩
instance (A:Asn) (Γ:List Asn) (b:Nat) (E:TypeId) (cs:List Value) (rest:List Asn) [h:AtBox Γ b E cs rest]:AtBox (A :: Γ) b E cs (A :: rest) :=
 ⟨(List.Perm.cons A h.perm).trans (.swap _ _ _)⟩
class AtOwn (Γ:List Asn) (v:Value) (α:outParam Type) (R:outParam (Rep α)) (x:outParam α) (rest:outParam (List Asn)):Prop where
 perm:Γ.Perm (Own R [v] x :: rest)
instance {α:Type} (Γ:List Asn) (v:Value) (R:Rep α) (x:α):AtOwn (Own R [v] x :: Γ) v α R x Γ:=⟨.refl _⟩
instance {α:Type} (A:Asn) (Γ:List Asn) (v:Value) (R:Rep α) (x:α) (rest:List Asn) [h:AtOwn Γ v α R x rest]:AtOwn (A :: Γ) v α R x (A :: rest) :=
 ⟨(List.Perm.cons A h.perm).trans (.swap _ _ _)⟩
theorem Sat.own {α:Type} {R:Rep α} {w0 w:World} {v:Value} {x:α} {Γ rest:List Asn} (h:Sat w0 w Γ) [k:AtOwn Γ v α R x rest]:Sat w0 w (Own R [v] x :: rest):=h.perm k.perm
theorem Sat.read {α:Type} {R:Rep α} {w0 w:World} {v:Value} {x:α} {Γ rest:List Asn} (h:Sat w0 w Γ) [AtOwn Γ v α R x rest]:R.rd w [v] x:=h.own.rd

theorem Sat.keep {w0 w:World} {Γ:List Asn} (n:Nat) (h:Sat w0 w Γ):Sat w0 w (Γ.take n):=h.take (Γ.take n) (Γ.drop n) (by rw [List.take_append_drop])
class PlainT (P:Program) (t:TypeId):Prop where
 h:∃ d,P.underlying t=some d∧(match d with | .struct _ | .array _ _=>False | _=>True)
class AggT (P:Program) (t:TypeId) (n:outParam Nat):Prop where
 h:∃ d,P.underlying t=some d∧(match d with | .struct _ | .array _ _=>True | _=>False)
 size:(P.info? t).map (·.size)=some n
class SliceT (P:Program) (t:TypeId) (e:outParam TypeId):Prop where
 h:P.underlying t=some (.slice e)
class ElemT (P:Program) (t:TypeId) (z:outParam (List Value)) (n bytes:outParam Nat):Prop where
 h:(P.info? t).map (fun i=>(i.zero.map fun v=>v.cells.toList,i.size,i.bytes))=some (some z,n,bytes)

section laws
variable {P:Program} {ops:Array Oper} {rest:List Oper} {o:Oper} {a:Act} {Q:Exit→Act→World→Prop} {w w0:World} {Γ rΓ:List Asn}

theorem yf (hg:o.guard=none) {t:TypeId} {x:Operand} (ho:o.op=.box t x) (cs:List Value) (hx:(a.eval x).cells=cs.toArray) (hS:Sat w0 w Γ)
  (hK:∀ w' b,Sat w0 w' (Box b t cs :: Γ)→Ext w w'→wpList P ops Q rest (a.put o.dst (.pointer (some ⟨b,0,none⟩))) w'):wpList P ops Q (o :: rest) a w:=by
 refine wpList_plain hg fun K hK'=>?_
 unfold Oper.wp execOp
 simp only [ho,Instr.box,newVar,newRow,hx,Sem.run_bind,Sem.run_pure,run_newObj,Result.andThen_ok,Oper.upon_value]
 exact hK' _ _ (hK _ _ (hS.box t cs) (jG _ _))

theorem w6 (hg:o.guard=none) {t:TypeId} (ho:o.op=.alloc t) {cs:List Value} {n bytes:Nat} [hz:ElemT P t cs n bytes] (hS:Sat w0 w Γ)
  (hK:∀ w' b,Sat w0 w' (Box b t cs :: Γ)→Ext w w'→wpList P ops Q rest (a.put o.dst (.pointer (some ⟨b,0,none⟩))) w'):wpList P ops Q (o :: rest) a w:=by
 refine wpList_plain hg fun K hK'=>?_
 have hz:=hz.h
 cases hi:P.info? t with
 | none=>simp [hi] at hz
 | some i =>
  cases hzz:i.zero with
  | none=>simp [hi,hzz] at hz
  | some z =>
   simp [hi,hzz] at hz
   have hzc:z.cells=cs.toArray:=by rw [← hz.1]
   unfold Oper.wp execOp
   simp only [ho,Instr.alloc,zeroValue,typeInfo,hi,hzz,newVar,newRow,hzc,Sem.run_bind,Sem.run_pure,run_newObj,run_program,Result.andThen_ok,Oper.upon_value]
   exact hK' _ _ (hK _ _ (hS.box t cs) (jG _ _))

theorem pV {t:TypeId} [hT:PlainT P t] {ad:Addr} {c:Value} (hc:w.cell? ad=some c):(loadVar t ad).run P w=.ok c w:=by
 obtain ⟨d,hd,hk⟩:=hT.h
 have hagg:(isAgg t).run P w=.ok false w:=by
  unfold isAgg
  rw [Sem.run_bind,run_underlying hd w]
  cases d <;> simp_all
 simp [loadVar,Sem.run_bind,hagg,hc]

theorem dJ {t:TypeId} {n:Nat} [hT:AggT P t n] {b off:Nat} {cs:List Value} (hn:cs.length=n) (hc:∀ j c,cs[j]? = some c→w.cell? ⟨b,off+j,none⟩=some c) :
  (loadVar t ⟨b,off,none⟩).run P w=.ok (.agg cs.toArray) w:=by
 obtain ⟨d,hd,hk⟩:=hT.h
 have hagg:(isAgg t).run P w=.ok true w:=by
  unfold isAgg
  rw [Sem.run_bind,run_underlying hd w]
  cases d <;> simp_all
 have hs:=hT.size
 cases hi:P.info? t with
 | none=>simp [hi] at hs
 | some i =>
  simp [hi] at hs
  have hl:=run_loadCells_list (P:=P) w ⟨b,off,none⟩ cs (fun j c hj=>by rw [Addr.add_lit];exact hc j c hj)
  rw [hn,← hs] at hl
  simp [loadVar,Sem.run_bind,hagg,sizeOf,typeInfo,hi,hl]

theorem Sat.boxCell {b:Nat} {E:TypeId} {cs:List Value} (hS:Sat w0 w Γ) [k:AtBox Γ b E cs rΓ]:∀ j c,cs[j]? = some c→w.cell? ⟨b,j,none⟩=some c:=by
 obtain ⟨fp,⟨_,hh⟩,_⟩:=(hS.perm k.perm).head
 intro j c hj
 rw [cell_of_row w b j _ E (0,0) hh]
 simpa using hj

theorem gc {b:Nat} {E:TypeId}:∀ (vs:List Value) (off i:Nat) (cur:List Value) (w:World),w.heap[b]? = some (.cells cur.toArray E (0,0))→off+i+vs.length≤cur.length→(∀ v∈vs,v.oneCell'=true) →
  ∃ w',(storeCells ⟨b,off,none⟩ vs i).run P w=.ok () w'∧w'.heap[b]? = some (.cells (cur.take (off+i)++vs++cur.drop (off+i+vs.length)).toArray E (0,0))∧Chg [b] w w'
 | [],off,i,cur,w,hb,_,_=>by
  refine ⟨w,rfl,?_,Chg.refl _ _⟩
  rw [hb];simp
 | v :: vs,off,i,cur,w,hb,hl,h1=>by
  simp only [List.length_cons] at hl
  have hi:off+i<cur.length:=by omega
  have hcell:w.cell? ⟨b,off+i,none⟩=some cur[off+i]:=by rw [cell_of_row w b _ _ E (0,0) hb];simp [hi]
  have hfro:w.frozen? ⟨b,off+i,none⟩=false:=frozen_of_row w b _ _ E hb
  have hst:(store ((⟨b,off,none⟩:Addr).add i) v).run P w=.ok () (w.setCell ⟨b,off+i,none⟩ v):=by
   rw [Addr.add_lit,run_store P w _ v _ (h1 v (by simp)),hcell]
   simp [hfro]
  have hb':(w.setCell ⟨b,off+i,none⟩ v).heap[b]? = some (.cells ((cur.set (off+i) v).toArray) E (0,0)):=by
   rw [heap_setCell_same w b (off+i) _ E v hb];simp
  obtain ⟨w',h2,h3,h4⟩:=gc vs off (i+1) (cur.set (off+i) v) _ hb' (by simp;omega) (fun x hx=>h1 x (by simp [hx]))
  refine ⟨w',?_,?_,?_⟩
  ·simp only [storeCells,Sem.run_bind,hst,Result.andThen_ok];exact h2
  ·rw [h3]
   congr 3
   have e1:(cur.set (off+i) v).take (off+(i+1))=cur.take (off+i)++[v]:=by
    rw [show off+(i+1)=(off+i)+1 by omega,List.take_set,List.take_succ_eq_append_getElem hi,List.set_append_right _ _ (by simp;omega)]
    simp [show min (off+i) cur.length=off+i by omega]
   have e2:(cur.set (off+i) v).drop (off+(i+1)+vs.length)=cur.drop (off+i+(v :: vs).length):=by
    rw [List.drop_set_of_lt (by omega)]
    congr 1
    simp only [List.length_cons];omega
   rw [e1,e2];simp
  ·exact Chg.trans (show Chg [b] w (w.setCell ⟨b,off+i,none⟩ v) from ⟨rfl,rfl,rfl,by simp,fun k _ hk=>Below.heap_setCell _ _ _ _ (by simpa using hk)⟩) h4

theorem vD {t:TypeId} {x y:Operand} (hg:o.guard=none) (ho:o.op=.store t x y) {z:List Value} {n bytes:Nat} [hz:ElemT P t z n bytes] (hS:Sat w0 w Γ) {b j:Nat} (hx:a.eval x=.pointer (some ⟨b,j,none⟩))
  {E:TypeId} {cs:List Value} [k:AtBox Γ b E cs rΓ] (vs:List Value) (hy:(a.eval y).cells=vs.toArray) (hn:vs.length=n) (hl:j+n≤cs.length) (h1:vs.all (·.oneCell')=true)
  (hK:∀ w',Sat w0 w' (Box b E (cs.take j++vs++cs.drop (j+n)) :: rΓ)→wpList P ops Q rest (a.put o.dst undef) w'):wpList P ops Q (o :: rest) a w:=by
 refine wpList_plain hg fun K hK'=>?_
 have hz:=hz.h
 cases hi:P.info? t with
 | none=>simp [hi] at hz
 | some i =>
  simp [hi] at hz
  obtain ⟨fp,⟨_,hh⟩,_⟩:=(hS.perm k.perm).head
  obtain ⟨w',hr,hh',hc⟩:=gc (P:=P) vs j 0 cs w hh (by omega) (by simpa using h1)
  have hsz:¬ (vs.toArray.size≠i.size):=by simp;omega
  unfold Oper.wp execOp
  simp only [ho,hx,Instr.storeAt,Instr.sureAddr,storeVar,sizeOf,typeInfo,hi,hy,Sem.run_bind,Sem.run_pure,run_program,Result.andThen_ok,hsz,if_false,Sem.run_ite,List.toList_toArray,hr,Oper.upon_skip]
  refine hK' _ _ (hK w' ?_)
  refine Sat.upd (hS.perm k.perm) fun fp hfp hnd=>?_
  obtain ⟨rfl,_⟩:=hfp
  refine ⟨[b],⟨rfl,?_⟩,by simp,hc,fun x hx=>.inl hx⟩
  rw [hh']
  simp [hn]
theorem wj {v:Value} (h:v.oneCell'=true):v.cells=[v].toArray:=by cases v <;> first | rfl | simp [Value.oneCell'] at h
end laws

section laws2
variable {P:Program} {ops:Array Oper} {rest:List Oper} {o:Oper} {a:Act} {Q:Exit→Act→World→Prop} {w w0 wA:World} {Γ rΓ:List Asn} {α:Type} {R:Rep α} {E:TypeId}

theorem s9 {w:World} {v:Value} {xs:List α} (h:(ay R E).rd w [v] xs):∃ ao cap,v=.slice ao xs.length cap:=by
 obtain ⟨ao,cap,ccs,hv,_⟩:=h
 exact ⟨ao,cap,by simpa using hv⟩

def nW (R:Rep α) (ccs:List Value) (ys:List α):Asn:=⟨fun w fp=>dN R w ccs ys fp,fun h he=>fz h he,fun h=>fJ h⟩
def v5 (A B:Asn):Asn where
 holds w fp:=∃ f g,fp=f++g∧A.holds w f∧B.holds w g
 ext h he:=by
  obtain ⟨f,g,rfl,h1,h2⟩:=h
  exact ⟨f,g,rfl,A.ext h1 (fun b hb=>he b (List.mem_append_left _ hb)),B.ext h2 (fun b hb=>he b (List.mem_append_right _ hb))⟩
 lt h:=by
  obtain ⟨f,g,rfl,h1,h2⟩:=h
  intro b hb
  rcases List.mem_append.1 hb with h | h
  ·exact A.lt h1 b h
  ·exact B.lt h2 b h

theorem nz (z:Value) (k:Nat):(Builtin.zeroCells z.cells k).size=k*z.cells.size:=size_zeroCells _ _

theorem uW {w:World} {cur:Array Value} {xs:List α} {ccs:List Value} {f:List Nat} {cap:Nat} (h:dN R w ccs xs f) (hcap:xs.length≤cap) (hm:cap≤maxLen) (hs:cur.size=cap*R.sz)
  (ht:cur.toList.take ccs.length=ccs):(ay R E).own (w.drew.alloc (.cells cur E)) [.slice (some ⟨w.heap.size,0,none⟩) xs.length cap] xs (w.heap.size :: f):=by
 refine .inr ⟨w.heap.size,cap,cur,ccs,f,rfl,heap_alloc_new w.drew _,hcap,hm,hs,by rw [← gk (fD h)];exact ht,fz h (fun b hb=>?_),rfl⟩
 exact Below.heap_alloc w.drew _ b (fJ h b hb)

theorem oJ {t ty:TypeId} [ht:SliceT P t E] {z:List Value} {n bytes:Nat} [hz:ElemT P E z n bytes] (hn:R.sz=n) (hpos:0<n) (hzl:z.length=n) (hb0:0<bytes)
  {v:Value} {xs:List α} {f:List Nat} (hv:(ay R E).own w [v] xs f) {ccs:List Value} {ys:List α} {fy:List Nat} (hy:dN R w ccs ys fy) (hnd:(fy++f).Nodup)
  {ao:Option Addr} {c:Nat} (hnone:ao=none→c=0) (hrow:m4 w ao ccs) (hby:(xs.length+ys.length)*bytes≤140737488355328) :
  ∃ v' w' f',(Builtin.append_ #[t,t] ty #[v,.slice ao ys.length c]).run P w=.ok v' w'∧(ay R E).own w' [v'] (xs++ys) f'∧f'.Nodup∧Chg (fy++f) w w'∧∀ b∈f',b∈fy++f∨w.heap.size≤b:=by
 have hz:=hz.h
 have hmax:xs.length+ys.length≤140737488355328:=Nat.le_trans (Nat.le_mul_of_pos_right _ hb0) hby
 have hyl:ccs.length=ys.length*R.sz:=gk (fD hy)
 have hy1:∀ u∈ccs,u.oneCell'=true:=uR (fD hy)
 cases hi:P.info? E with
 | none=>simp [hi] at hz
 | some i =>
 cases hzz:i.zero with
 | none=>simp [hi,hzz] at hz
 | some zv =>
 simp [hi,hzz] at hz
 obtain ⟨hz1,hz2,hz3⟩:=hz
 have hzs:zv.cells.size=R.sz:=by rw [← Array.length_toList,hz1,hzl,hn]
 have hsz:i.size=R.sz:=by omega
 have hdrew:Chg (fy++f) w w.drew:=⟨rfl,rfl,rfl,Nat.le_refl _,fun _ _ _=>rfl⟩
 have hgrow:∀ cur:Array Value,Chg (fy++f) w (w.drew.alloc (.cells cur E)):=fun cur=>hdrew.trans ((Chg.alloc w.drew _).mono (by simp))
 have hlt:∀ b∈fy++f,b<w.heap.size:=fun b hb=>by
  rcases List.mem_append.1 hb with h | h
  ·exact fJ hy b h
  ·exact (ay R E).own_lt hv b h
 obtain ⟨nd1,nd2,nd3⟩:=List.nodup_append.1 hnd
 -- nothing is appended
 by_cases hy0:ys=[]
 ·subst hy0
  have hccs:ccs=[]:=by simp only [dN] at hy;exact hy.1
  have hfy:fy=[]:=by simp only [dN] at hy;exact hy.2
  subst hccs;subst hfy
  refine ⟨v,w,f,?_,by simpa using hv,by simpa using hnd,Chg.refl _ _,fun b hb=>.inl (by simpa using hb)⟩
  rcases hv with ⟨hv,rfl,rfl⟩ | ⟨g,cap,cur,cs,f2,hv,hg,h1,h2,h3,h4,h5,rfl⟩
  ·obtain rfl:v=.slice none 0 0:=by simpa using hv
   cases ao <;> simp [Builtin.append_,run_underlying ht.h,sizeOf,typeInfo,hi,Builtin.lenOf,Builtin.firstCells,loadCells,loadCellsFrom]
  ·obtain rfl:v=.slice (some ⟨g,0,none⟩) xs.length cap:=by simpa using hv
   cases ao <;> simp [Builtin.append_,run_underlying ht.h,sizeOf,typeInfo,hi,Builtin.lenOf,Builtin.firstCells,loadCells,loadCellsFrom,h1,storeCells]
 have hyp:0<ys.length:=List.length_pos_iff.2 hy0
 obtain ⟨b,off,rfl,hcell⟩:∃ b off,ao=some ⟨b,off,none⟩∧∀ j c,ccs[j]? = some c→w.cell? ⟨b,off+j,none⟩=some c:=by
  rcases hrow with rfl | h
  ·exfalso
   have:0<ys.length*R.sz:=Nat.mul_pos hyp (by omega)
   simp at hyl;omega
  ·exact h
 have hnews:∀ j u,ccs[j]? = some u→w.cell? ((⟨b,off,none⟩:Addr).add j)=some u:=fun j u hj=>by rw [Addr.add_lit];exact hcell j u hj
 rcases hv with ⟨hv,rfl,rfl⟩ | ⟨g,cap,cur,cs,f2,hv,hg,h1,h2,h3,h4,h5,rfl⟩
 ·obtain rfl:v=.slice none 0 0:=by simpa using hv
  simp only [List.length_nil,Nat.zero_add] at hby hmax
  have hr:=run_append_nil (P:=P) w t ty E i zv ht.h hi hzz ⟨b,off,none⟩ ys.length c ccs (by rw [hyl,hsz]) hnews hyp (by omega) (by rw [hz3];omega)
  refine ⟨_,_,w.heap.size :: fy,hr,?_,?_,hgrow _,?_⟩
  ·have hge:=grownCap_ge w ys.length 0 E
   rw [List.nil_append]
   refine uW hy hge (grownCap_le_maxLen w ys.length 0 E (by unfold maxLen;omega)) ?_ ?_
   ·rw [Array.size_append,nz,hzs,List.size_toArray,hyl,← Nat.add_mul]
    congr 1;omega
   ·rw [Array.toList_append,List.toList_toArray,List.take_left']
    rfl
  ·refine List.nodup_cons.2 ⟨fun hm=>?_,nd1⟩
   have:=hlt _ (List.mem_append_left _ hm);omega
  ·intro x hx
   rcases List.mem_cons.1 hx with rfl | hx
   ·exact .inr (Nat.le_refl _)
   ·exact .inl (List.mem_append_left _ hx)
 ·obtain rfl:v=.slice (some ⟨g,0,none⟩) xs.length cap:=by simpa using hv
  have hcl:cs.length=xs.length*R.sz:=gk (fD h5)
  have hfit:xs.length*R.sz≤cur.size:=by rw [h3];exact Nat.mul_le_mul_right _ h1
  obtain ⟨ng,nf2⟩:=List.nodup_cons.1 nd2
  by_cases hroom:xs.length+ys.length≤cap
  ·have hfit2:xs.length*i.size+ccs.length≤cur.size:=by rw [hsz,hyl,h3,← Nat.add_mul];exact Nat.mul_le_mul_right _ hroom
   have hr:=run_append_room (P:=P) w t ty E i ht.h hi g xs.length cap cur hg ⟨b,off,none⟩ ys.length c ccs (by rw [hyl,hsz]) hnews hy1 hroom hfit2
   have hoth:∀ k,k≠g→(w.setRow g (cur.toList.take (xs.length*i.size)++ccs++cur.toList.drop (xs.length*i.size+ccs.length)).toArray).heap[k]? = w.heap[k]?:=fun k hk=>setRow_other w g k _ hk
   refine ⟨_,_,g :: (f2++fy),hr,?_,?_,⟨rfl,rfl,rfl,by simp,fun k _ hk=>hoth k (fun e=>hk (by simp [e]))⟩,?_⟩
   ·rw [show xs.length+ys.length=(xs++ys).length by simp]
    refine .inr ⟨g,cap,_,cs++ccs,f2++fy,rfl,setRow_heap w g cur _ E _ hg,by simpa using hroom,h2,?_,?_,?_,rfl⟩
    ·simp only [List.size_toArray,List.length_append,List.length_take,List.length_drop,Array.length_toList]
     rw [hsz] at hfit2 ⊢
     omega
    ·rw [hsz,h4,List.length_append,Nat.add_mul,← hcl,← hyl,← List.length_append]
     exact List.take_left' rfl
    ·refine m9 (fz hy fun x hx=>hoth x fun e=>?_) (fz h5 fun x hx=>hoth x fun e=>?_)
     ·subst e;exact nd3 x hx x (by simp) rfl
     ·subst e;exact ng hx
   ·refine List.nodup_cons.2 ⟨fun hm=>?_,List.nodup_append.2 ⟨nf2,nd1,fun a ha b hb e=>nd3 b hb a (by simp [ha]) e.symm⟩⟩
    rcases List.mem_append.1 hm with h | h
    ·exact ng h
    ·exact nd3 g h g (by simp) rfl
   ·intro x hx
    refine .inl ?_
    simp only [List.mem_cons,List.mem_append] at hx ⊢
    rcases hx with h | h | h <;> simp [h]
  ·have hcells:∀ j u,cs[j]? = some u→w.cell? ((⟨g,0,none⟩:Addr).add j)=some u:=fun j u hj=>by
    rw [Addr.add_lit,Nat.zero_add,cell_of_row w g j cur E (0,0) hg,← Array.getElem?_toList]
    rw [← h4,List.getElem?_take] at hj
    split at hj
    ·exact hj
    ·cases hj
   have hr:=run_append_grow (P:=P) w t ty E i zv ht.h hi hzz ⟨g,0,none⟩ xs.length cap cs (by rw [hcl,hsz]) hcells ⟨b,off,none⟩ ys.length c ccs (by rw [hyl,hsz]) hnews (by omega) (by omega) (growslice_fits (by omega) (by rw [hz3];exact hby))
   refine ⟨_,_,w.heap.size :: (f2++fy),hr,?_,?_,hgrow _,?_⟩
   ·have hge:=grownCap_ge w (xs.length+ys.length) cap E
    rw [show (xs.length+ys.length:Nat)=(xs++ys).length by simp] at hge ⊢
    refine uW (m9 hy h5) hge (grownCap_le_maxLen w _ cap E (by unfold maxLen;simp;omega)) ?_ ?_
    ·rw [Array.size_append,Array.size_append,nz,hzs,List.size_toArray,List.size_toArray,hyl,hcl,← Nat.add_mul,← Nat.add_mul]
     congr 1;simp at hge ⊢;omega
    ·rw [Array.toList_append,Array.toList_append,List.toList_toArray,List.toList_toArray,List.take_left']
     rfl
   ·refine List.nodup_cons.2 ⟨fun hm=>?_,List.nodup_append.2 ⟨nf2,nd1,fun a ha b hb e=>nd3 b hb a (by simp [ha]) e.symm⟩⟩
    have:=hlt w.heap.size (by
     rcases List.mem_append.1 hm with h | h
     ·exact List.mem_append_right _ (by simp [h])
     ·exact List.mem_append_left _ h)
    omega
   ·intro x hx
    simp only [List.mem_cons,List.mem_append] at hx ⊢
    rcases hx with h | h | h
    ·exact .inr (by omega)
    ·exact .inl (by simp [h])
    ·exact .inl (by simp [h])

theorem vx (hg:o.guard=none) {t:TypeId} {s x:Operand} (ho:o.op=.call { callee:=.builtin .append,args:=#[s,x],argTypes:=#[t,t] })
  [SliceT P t E] {z:List Value} {n bytes:Nat} [ElemT P E z n bytes] (hn:R.sz=n) (hpos:0<n) (hzl:z.length=n) (hb0:0<bytes)
  {v:Value} {xs:List α} {ccs:List Value} {ys:List α} (hS:Sat w0 w (nW R ccs ys :: Own (ay R E) [v] xs :: Γ)) (hs:a.eval s=v)
  {ao:Option Addr} {m c:Nat} (hx:a.eval x=.slice ao m c) (hm:m=ys.length) (hnone:ao=none→c=0) (hrow:m4 w ao ccs) (hby:(xs.length+ys.length)*bytes≤140737488355328)
  (hK:∀ v' w',Sat w0 w' (Own (ay R E) [v'] (xs++ys) :: Γ)→wpList P ops Q rest (a.put o.dst v') w'):wpList P ops Q (o :: rest) a w:=by
 subst hm
 refine wpList_plain hg fun K hK'=>?_
 have hS':Sat w0 w (v5 (nW R ccs ys) (Own (ay R E) [v] xs) :: Γ):=hS.join fun f g h1 h2=>⟨f,g,rfl,h1,h2⟩
 obtain ⟨fp,⟨fy,f,rfl,hy,hv⟩,hnd,_⟩:=hS'.head
 obtain ⟨v',w',f',hr,k1,k2,k3,k4⟩:=oJ (P:=P) (t:=t) (ty:=o.type) hn hpos hzl hb0 hv hy hnd hnone hrow hby
 unfold Oper.wp execOp
 simp only [ho,resolve,invoke,builtin,Sem.run_bind,Sem.run_pure,Result.andThen_ok,List.map_toArray,List.map_cons,List.map_nil,hs,hx,hr,Oper.upon_value]
 refine hK' _ _ (hK v' w' ?_)
 have hex:∀ fp,(v5 (nW R ccs ys) (Own (ay R E) [v] xs)).holds w fp→fp.Nodup→∃ fp',(Own (ay R E) [v'] (xs++ys)).holds w' fp'∧fp'.Nodup∧Chg fp w w'∧∀ b∈fp',b∈fp∨w.heap.size≤b:=by
  rintro _ ⟨gy,g,rfl,hy2,hv2⟩ hnd2
  obtain ⟨v2,w2,f2,hr2,l1,l2,l3,l4⟩:=oJ (P:=P) (t:=t) (ty:=o.type) hn hpos hzl hb0 hv2 hy2 hnd2 hnone hrow hby
  rw [hr] at hr2
  obtain ⟨rfl,rfl⟩:v'=v2∧w'=w2:=by simpa using hr2
  exact ⟨f2,l1,l2,l3,l4⟩
 exact hS'.upd hex

theorem oL (z:Array Value) (h:0<z.size):∀ k,(madeCells z (k*z.size)).toList=(List.replicate k z.toList).flatten
 | 0=>by simp [madeCells]
 | k+1=>by
  have ih:=oL z h k
  rw [List.replicate_succ',List.flatten_append,← ih]
  unfold madeCells
  rw [Nat.add_mul,Nat.one_mul]
  simp only [Array.toList_map,Array.toList_range,List.range_add,List.map_append,List.map_map,List.flatten_cons,List.flatten_nil,List.append_nil]
  congr 1
  apply List.ext_getElem
  ·simp
  ·intro j h1 h2
   have hj:j<z.size:=by simpa using h1
   simp only [List.getElem_map,List.getElem_range,Function.comp]
   rw [Nat.mul_add_mod_self_right,Nat.mod_eq_of_lt hj]
   simp [hj]
theorem xd (hg:o.guard=none) {t:TypeId} {l c:Operand} (ho:o.op=.makeSlice t l c) [ht:SliceT P t E] {z:List Value} {n bytes:Nat} [hz:ElemT P E z n bytes] (hn:R.sz=n) (hpos:0<n) (hzl:z.length=n)
  {x0:α} (hx0:∀ w,R.own w z x0 []) {L C:Int} (hl:a.eval l=.int .i64 L) (hc:a.eval c=.int .i64 C) (k:Nat) (hL:L=(k:Int)) (hC:C=(k:Int)) (hby:k*bytes≤281474976710656) (hk:k≤140737488355328) (hS:Sat w0 w Γ)
  (hK:∀ w' g,Sat w0 w' (Own (ay R E) [.slice (some ⟨g,0,none⟩) k k] (List.replicate k x0) :: Γ)→Ext w w'→wpList P ops Q rest (a.put o.dst (.slice (some ⟨g,0,none⟩) k k)) w'):wpList P ops Q (o :: rest) a w:=by
 refine wpList_plain hg fun K hK'=>?_
 have hz:=hz.h
 cases hi:P.info? E with
 | none=>simp [hi] at hz
 | some i =>
 cases hzz:i.zero with
 | none=>simp [hi,hzz] at hz
 | some zv =>
 simp [hi,hzz] at hz
 obtain ⟨hz1,hz2,hz3⟩:=hz
 subst hL;subst hC
 have hr:=run_make (P:=P) w t E i zv ht.h hi hzz .i64 .i64 k k (by omega) (by omega) (by rw [hz3];have:=hby;rw [Nat.mul_comm] at this;omega) (by omega)
 simp only [Int.toNat_natCast] at hr
 unfold Oper.wp execOp
 simp only [ho,hl,hc,Sem.run_bind,hr,Sem.run_pure,Result.andThen_ok,Oper.upon_value]
 have hzs:zv.cells.size=n:=by rw [← Array.length_toList,hz1,hzl]
 have hcur:(madeCells zv.cells (k*i.size)).toList=(List.replicate k z).flatten:=by
  rw [← hz1,hz2,← hzs]
  exact oL _ (by omega) k
 refine hK' _ _ (hK _ _ ?_ (jG _ _))
 have hown:∀ k',dN R (w.alloc (.cells (madeCells zv.cells (k*i.size)) E)) (List.replicate k' z).flatten (List.replicate k' x0) []:=by
  intro k'
  induction k' with
  | zero=>exact ⟨rfl,rfl⟩
  | succ k' ih=>exact ⟨z,_,[],[],by simp [List.replicate_succ],rfl,hx0 _,ih⟩
 have kk:Sat w (w.alloc (.cells (madeCells zv.cells (k*i.size)) E)) [Own (ay R E) [.slice (some ⟨w.heap.size,0,none⟩) k k] (List.replicate k x0)]:=by
  refine ⟨jG _ _,[w.heap.size],⟨[w.heap.size],[],rfl,.inr ⟨w.heap.size,k,_,_,[],by simp,heap_alloc_new w _,by simp,by unfold maxLen;omega,?_,rfl,?_,rfl⟩,rfl⟩,by simp,by simp⟩
  ·rw [← Array.length_toList,hcur];simp [hzl,hn]
  ·rw [hcur,List.take_of_length_le (by simp [hzl,hn])]
   exact hown k
 simpa using hS.call kk

theorem wv {v:Value} {xs:List α} {fp:List Nat} (h:(ay R E).own w [v] xs fp):(v=.slice none 0 0∧xs=[])∨∃ g cap,v=.slice (some ⟨g,0,none⟩) xs.length cap:=by
 rcases h with ⟨h,h2,_⟩ | ⟨g,cap,_,_,_,h,_⟩
 ·exact .inl ⟨by simpa using h,h2⟩
 ·exact .inr ⟨g,cap,by simpa using h⟩
theorem Sat.shape {v:Value} {xs:List α} (h:Sat w0 w (Own (ay R E) [v] xs :: Γ)):(v=.slice none 0 0∧xs=[])∨∃ g cap,v=.slice (some ⟨g,0,none⟩) xs.length cap:=by
 obtain ⟨fp,h,_⟩:=h.head
 exact wv h

theorem tP {w:World}:∀ {xs:List α} {ccs:List Value} {fp:List Nat},dN R w ccs xs fp→∀ (k:Nat) (_:k<xs.length) {ec:List Value} {y:α} {fy:List Nat},R.own w ec y fy →
  ∃ fl fk fr,fp=fl++fk++fr∧dN R w (ccs.take (k*R.sz)++ec++ccs.drop (k*R.sz+R.sz)) (xs.set k y) (fl++fy++fr)
 | [],_,_,_,k,hk,_,_,_,_=>absurd hk (by simp)
 | x :: xs,_,_,h,0,_,ec,y,fy,hy=>by
  obtain ⟨e0,rest,f1,f2,rfl,rfl,h1,h2⟩:=h
  refine ⟨[],f1,f2,by simp,ec,rest,fy,f2,?_,by simp,hy,h2⟩
  have:=R.rd_len (R.own_rd h1)
  simp [← this]
 | x :: xs,_,_,h,k+1,hk,ec,y,fy,hy=>by
  obtain ⟨e0,rest,f1,f2,rfl,rfl,h1,h2⟩:=h
  obtain ⟨fl,fk,fr,rfl,h3⟩:=tP h2 k (by simpa using hk) hy
  refine ⟨f1++fl,fk,fr,by simp,e0,_,f1,fl++fy++fr,?_,by simp,h1,h3⟩
  have hl:=R.rd_len (R.own_rd h1)
  have e:(k+1)*R.sz=e0.length+k*R.sz:=by rw [hl,Nat.add_mul];omega
  rw [e,List.take_append,List.take_of_length_le (by omega),Nat.add_sub_cancel_left,show e0.length+k*R.sz+R.sz=e0.length+(k*R.sz+R.sz) by omega,List.drop_append,List.drop_of_length_le (by omega),Nat.add_sub_cancel_left]
  simp

theorem nb (L ec:List Value) (p s N:Nat) (h1:p+s≤N) (h2:N≤L.length) (h3:ec.length=s):(L.take (p+0)++ec++L.drop (p+0+s)).take N=(L.take N).take p++ec++(L.take N).drop (p+s):=by
 rw [Nat.add_zero,List.take_append,List.take_of_length_le (by simp;omega),List.take_take,Nat.min_eq_left (by omega:p≤N),List.drop_take]
 congr 2
 simp;omega
theorem vt {t:TypeId} {x y:Operand} (hg:o.guard=none) (ho:o.op=.store t x y) {z:List Value} {n bytes:Nat} [hz:ElemT P t z n bytes] (hn:R.sz=n) {ec:List Value} {yv:α} {xs:List α} {g m cap:Nat}
  (hS:Sat w0 w (Own R ec yv :: Own (ay R E) [.slice (some ⟨g,0,none⟩) m cap] xs :: Γ)) (k off:Nat) (hk:k<xs.length) (hoff:off=k*n) (hx:a.eval x=.pointer (some ⟨g,off,none⟩)) (hy:(a.eval y).cells=ec.toArray)
  (hK:∀ w',Sat w0 w' (Own (ay R E) [.slice (some ⟨g,0,none⟩) m cap] (xs.set k yv) :: Γ)→wpList P ops Q rest (a.put o.dst undef) w'):wpList P ops Q (o :: rest) a w:=by
 refine wpList_plain hg fun K hK'=>?_
 have hz:=hz.h
 cases hi:P.info? t with
 | none=>simp [hi] at hz
 | some i =>
  simp [hi] at hz
  have hS':Sat w0 w (v5 (Own R ec yv) (Own (ay R E) [.slice (some ⟨g,0,none⟩) m cap] xs) :: Γ):=hS.join fun f g h1 h2=>⟨f,g,rfl,h1,h2⟩
  obtain ⟨fp,⟨fy,f,rfl,hyo,hv⟩,hnd,_⟩:=hS'.head
  have hel:ec.length=R.sz:=R.rd_len (R.own_rd hyo)
  obtain ⟨cur,hh,hcs⟩:∃ cur,w.heap[g]? = some (.cells cur E (0,0))∧xs.length*R.sz≤cur.size:=by
   rcases hv with ⟨h,_⟩ | ⟨g',cap',cur,ccs,f2,h,hg',h1,h2,h3,_⟩
   ·simp at h
   ·simp at h
    obtain ⟨rfl,_⟩:=h
    exact ⟨cur,hg',by rw [h3];exact Nat.mul_le_mul_right _ h1⟩
  have hkk:k*R.sz+R.sz≤xs.length*R.sz:=by have:=Nat.mul_le_mul_right R.sz hk;rw [Nat.succ_mul] at this;exact this
  have hh':w.heap[g]? = some (.cells cur.toList.toArray E (0,0)):=by simpa using hh
  obtain ⟨w',hr,hnew,hc⟩:=gc (P:=P) ec off 0 cur.toList w hh' (by rw [hoff,hel,← hn];simp;omega) (R.rd_one (R.own_rd hyo))
  have hsz:¬ (ec.toArray.size≠i.size):=by simp;omega
  unfold Oper.wp execOp
  simp only [ho,hx,Instr.storeAt,Instr.sureAddr,storeVar,sizeOf,typeInfo,hi,hy,Sem.run_bind,Sem.run_pure,run_program,Result.andThen_ok,hsz,if_false,Sem.run_ite,List.toList_toArray,hr,Oper.upon_skip]
  refine hK' _ _ (hK w' ?_)
  refine hS'.upd ?_
  rintro _ ⟨gy,gf,rfl,hy2,hv2⟩ hnd2
  rcases hv2 with ⟨h,_⟩ | ⟨g',cap',cur',ccs,f2,h,hg',h1,h2,h3,h4,h5,rfl⟩
  ·simp at h
  ·simp at h
   obtain ⟨rfl,rfl,rfl⟩:=h
   obtain ⟨rfl⟩:cur'=cur:=by rw [hh] at hg';simpa using hg'.symm
   obtain ⟨fl,fk,fr,rfl,h6⟩:=tP h5 k hk hy2
   have hoth:∀ x,x≠g→x<w.heap.size→w'.heap[x]? = w.heap[x]?:=fun x hx hlt=>hc.block x hlt (by simpa using hx)
   have hnd3:(gy++g :: (fl++fk++fr)).Nodup:=hnd2
   simp only [List.nodup_append,List.nodup_cons,List.mem_append,List.mem_cons] at hnd3
   have hgn:g∉fl++gy++fr:=by
    simp only [List.mem_append,not_or]
    refine ⟨⟨fun hm=>hnd3.2.1.1 (.inl (.inl hm)),fun hm=>hnd3.2.2 g hm g (.inl rfl) rfl⟩,fun hm=>hnd3.2.1.1 (.inr hm)⟩
   refine ⟨g :: (fl++gy++fr),.inr ⟨g,cap,_,ccs.take (k*R.sz)++ec++ccs.drop (k*R.sz+R.sz),fl++gy++fr,by simp,hnew,by simpa using h1,h2,?_,?_,fz h6 (fun b hb=>hoth b (fun e=>hgn (e ▸ hb)) ?_),rfl⟩,?_,hc.mono (by simp),?_⟩
   ·simp only [List.size_toArray,List.length_append,List.length_take,List.length_drop,Array.length_toList]
    rw [hoff,← hn]
    omega
   ·have hcl:ccs.length=xs.length*R.sz:=gk (fD h5)
    rw [← h4,hoff,← hn,hel,List.length_set]
    exact nb _ _ _ _ _ hkk (by simpa using hcs) hel
   ·exact fJ h6 b hb
   ·refine List.nodup_cons.2 ⟨hgn,?_⟩
    have hs:(gy++(fl++fr)).Nodup:=List.Nodup.sublist (List.Sublist.append (List.Sublist.refl gy) (List.Sublist.cons g (List.Sublist.append (List.sublist_append_left fl fk) (List.Sublist.refl fr)))) hnd2
    rw [← List.append_assoc] at hs
    exact (List.Perm.append_right fr List.perm_append_comm).nodup_iff.1 hs
   ·intro b hb
    refine .inl ?_
    simp only [List.mem_cons,List.mem_append] at hb ⊢
    rcases hb with h | (h | h) | h <;> simp [h]

theorem rO {t e:TypeId} [ht:SliceT P t e] {z:List Value} {n bytes:Nat} [hz:ElemT P e z n bytes] {v:Value} {cs:List Value} (hcs:v.cells=cs.toArray) (hl:cs.length=n) (hpos:0<n) (hzl:z.length=n) (hn:n≤16) :
  (Instr.buildSlice t 1 #[(0,v)]).run P w=.ok (.slice (some ⟨w.heap.size,0,none⟩) 1 1) (w.alloc (.cells cs.toArray e)):=by
 have hz:=hz.h
 cases hi:P.info? e with
 | none=>simp [hi] at hz
 | some i =>
 cases hzz:i.zero with
 | none=>simp [hi,hzz] at hz
 | some zv =>
 simp [hi,hzz] at hz
 obtain ⟨hz1,hz2,hz3⟩:=hz
 have h24:¬ (n > 2 ^ 24):=by omega
 have hn0:¬ (n=0):=by omega
 have hfill:Instr.fill (fun i=>some (i*n,n)) ((Array.range n).map (zv.cells[· % zv.cells.size]!)) [(0,v)]=some cs.toArray:=by
  have hsz:((Array.range n).map (zv.cells[· % zv.cells.size]!)).size=n:=by simp
  have hfold:∀ (l:List Value) (pre:List Value) (A:Array Value),A.size=pre.length+l.length→A.toList.take pre.length=pre →
    ((l.zipIdx pre.length).foldl (fun A (c:Value × Nat)=>A.setIfInBounds c.2 c.1) A).toList=pre++l:=by
   intro l
   induction l with
   | nil=>intro pre A h1 h2;simp;rw [← h2,List.take_of_length_le (by simp at h1 ⊢;omega)]
   | cons x l ih =>
    intro pre A h1 h2
    simp only [List.zipIdx_cons,List.foldl_cons]
    have:=ih (pre++[x]) (A.setIfInBounds pre.length x) (by simp at h1 ⊢;omega) (by
     simp only [Array.toList_setIfInBounds,List.length_append,List.length_singleton]
     rw [List.take_set,List.take_succ_eq_append_getElem (by simp at h1 ⊢;omega),h2,List.set_append_right _ _ (Nat.le_refl _)]
     simp)
    simpa using this
  have h0:=hfold cs [] ((Array.range n).map (zv.cells[· % zv.cells.size]!)) (by simp [hl]) (by simp)
  simp only [Instr.fill,hcs,List.size_toArray,hl,hsz,Nat.zero_mul,Nat.zero_add,ne_eq,not_true_eq_false,decide_false,Bool.false_or,gt_iff_lt,Nat.lt_irrefl,Bool.false_eq_true,if_false]
  congr 1
  apply Array.ext'
  simpa using h0
 simp [Instr.buildSlice,run_underlying ht.h,sizeOf,typeInfo,hi,hz2,h24,hn0,zeroValue,hzz,hfill,newRow]

theorem rz (hg:o.guard=none) {t e:TypeId} {x:Operand} (ho:o.op=.buildSlice t 1 #[(0,x)]) [SliceT P t e] {z:List Value} {n bytes:Nat} [ElemT P e z n bytes] {cs:List Value} (hcs:(a.eval x).cells=cs.toArray) (hl:cs.length=n) (hpos:0<n) (hzl:z.length=n) (hn:n≤16)
  (hS:Sat w0 w Γ) (hK:∀ w' b,Sat w0 w' (Box b e cs :: Γ)→Ext w w'→wpList P ops Q rest (a.put o.dst (.slice (some ⟨b,0,none⟩) 1 1)) w'):wpList P ops Q (o :: rest) a w:=by
 refine wpList_plain hg fun K hK'=>?_
 have hr:=rO (P:=P) (w:=w) (t:=t) (e:=e) hcs hl hpos hzl hn
 unfold Oper.wp execOp
 simp only [ho,List.map_toArray,List.map_cons,List.map_nil,hr,Sem.run_bind,Sem.run_pure,Result.andThen_ok,Oper.upon_value]
 exact hK' _ _ (hK _ _ (hS.box e cs) (jG _ _))

theorem ry (R:Rep α) (hg:o.guard=none) {t:TypeId} (ho:o.op=.buildSlice t 0 #[]) [ht:SliceT P t E] {z:List Value} {n bytes:Nat} [hz:ElemT P E z n bytes]
  (hS:Sat w0 w Γ) (hK:∀ w' b,Sat w0 w' (Own (ay R E) [.slice (some ⟨b,0,none⟩) 0 0] [] :: Γ)→Ext w w'→wpList P ops Q rest (a.put o.dst (.slice (some ⟨b,0,none⟩) 0 0)) w'):wpList P ops Q (o :: rest) a w:=by
 refine wpList_plain hg fun K hK'=>?_
 have hz:=hz.h
 cases hi:P.info? E with
 | none=>simp [hi] at hz
 | some i =>
 have hr:(Instr.buildSlice t 0 #[]).run P w=.ok (.slice (some ⟨w.heap.size,0,none⟩) 0 0) (w.alloc (.cells #[] E)):=by
  simp [Instr.buildSlice,run_underlying ht.h,sizeOf,typeInfo,hi,Instr.fill,newRow,Array.range_zero']
 unfold Oper.wp execOp
 simp only [ho,List.map_toArray,List.map_nil,hr,Sem.run_bind,Sem.run_pure,Result.andThen_ok,Oper.upon_value]
 have hB:=hS.box E []
 refine hK' _ _ (hK _ _ (hB.conv (B:=Own (ay R E) [.slice (some ⟨w.heap.size,0,none⟩) 0 0] []) fun f hf=>?_) (jG _ _))
 obtain ⟨rfl,hf⟩:=hf
 exact .inr ⟨w.heap.size,0,#[],[],[],rfl,hf,Nat.le_refl _,Nat.zero_le _,by simp,by simp,⟨rfl,rfl⟩,rfl⟩

theorem Sat.one {ec:List Value} {y:α} (h:Sat w0 w (Own R ec y :: Γ)):Sat w0 w (nW R ec [y] :: Γ) :=
 h.conv fun f hf=>⟨ec,[],f,[],by simp,by simp,hf,rfl,rfl⟩
theorem Sat.str (h:Sat w0 w Γ) (s:ByteArray) (hs:s.size≤9223372036854775807):Sat w0 w (Own jj [.string s] s :: Γ):=h.add ⟨⟨rfl,hs⟩,rfl⟩
theorem Sat.int (h:Sat w0 w Γ) (n:Int):Sat w0 w (Own bN [.int .i64 n] n :: Γ):=h.add ⟨rfl,rfl⟩
theorem Sat.pair {α β:Type} {R:Rep α} {S:Rep β} {c d:List Value} {x:α} {y:β} (h:Sat w0 w (Own R c x :: Own S d y :: Γ)):Sat w0 w (Own (og R S) (c++d) (x,y) :: Γ) :=
 h.join fun f g h1 h2=>⟨c,d,f,g,rfl,rfl,h1,h2⟩
theorem Sat.ints {xs:List Int} (h:Sat w0 w Γ):Sat w0 w (nW bN (xs.map (Value.int .i64)) xs :: Γ):=by
 refine h.add ?_
 induction xs with
 | nil=>exact ⟨rfl,rfl⟩
 | cons x xs ih=>exact ⟨[.int .i64 x],_,[],[],rfl,rfl,⟨rfl,rfl⟩,ih⟩
end laws2
abbrev Env:=Nat→Value
def upd (e:Env) (d:Nat) (v:Value):Env:=fun t=>bif Nat.beq t d then v else e t
def ev (e:Env):Operand→Value
 | .tmp t=>e t
 | .const v=>v
 | .global g=>.pointer (some ⟨g,0,none⟩)
 | .func f=>.func (.func f) #[] #[]
theorem nC {a b:Nat} (h:¬ a=b):Nat.beq a b=false:=by
 cases hb:Nat.beq a b
 ·rfl
 ·exact absurd (Nat.eq_of_beq_eq_true hb) h
structure Mt (n:Nat) (e:Env) (a:Act):Prop where
 size:a.tmps.size=n
 defers:a.defers=[]
 get:∀ t,a.tmps.getD t undef=e t
theorem Mt.eval {n:Nat} {e:Env} {a:Act} (h:Mt n e a):a.eval=ev e:=by
 funext x
 cases x <;> simp only [Act.eval,ev]
 exact h.get _
theorem Mt.put {n:Nat} {e:Env} {a:Act} (h:Mt n e a) {d:Nat} (hd:d<n) (v:Value):Mt n (upd e d v) (a.put (some d) v):=by
 refine ⟨by simp [Act.put,h.size],by simpa [Act.put] using h.defers,fun t=>?_⟩
 have hg:=h.get t
 have hs:=h.size
 simp only [Act.put,upd]
 by_cases ht:t=d
 ·subst ht
  simp [Array.getD,hs,hd]
 ·have:Nat.beq t d=false:=nC ht
  rw [this]
  simp only [cond_false,← hg,Array.getD,Array.size_setIfInBounds]
  split
  ·rename_i hlt
   have:=Array.getElem_setIfInBounds (xs:=a.tmps) (i:=d) (a:=v) (j:=t) (by simpa using hlt)
   rw [if_neg (fun e=>ht e.symm)] at this
   exact this
  ·rfl
theorem xF {e:Env} {d:Nat} {v:Value} (h:e d=v):upd e d v=e:=by
 funext t
 unfold upd
 by_cases ht:t=d
 ·subst ht;simp [h]
 ·have:Nat.beq t d=false:=nC ht
  rw [this];rfl
theorem keep {e e':Env} {d:Nat} {v:Value} (h:e' d=v) (h2:e=e'):e=upd e' d v:=by rw [xF h,h2]
def PV (P:Program) (o:Oper) (e:Env) (w:World) (v:Value):Prop:=∀ w',Ext w w'→(execOp (ev e) o).run P w'=.ok (.value v) w'
theorem PV.ext {P:Program} {o:Oper} {e:Env} {w w1:World} {v:Value} (h:PV P o e w v) (hx:Ext w w1):PV P o e w1 v:=fun w' h'=>h w' (hx.trans h')

def nrm (n:Nat) (K:Env→World→Prop):Exit→Act→World→Prop:=fun x a w=>x=.normal∧∃ e,Mt n e a∧K e w
def EL (P:Program) (n:Nat) (ops:Array Oper) (K:Env→World→Prop) (rest:List Oper) (e:Env) (w:World):Prop:=∀ a,Mt n e a→wpList P ops (nrm n K) rest a w
def QL (P:Program) (n:Nat) (ops:Array Oper) (w:World) (K:Env→Prop) (rest:List Oper) (e:Env):Prop:=∀ a,Mt n e a→wpQuiet P ops (fun w'=>Ext w w') (fun a'=>∃ e',Mt n e' a'∧K e') rest a

structure Goes (P:Program) (f:FuncId):Prop where
 h:∃ fn,P.funcs[f]? = some fn∧(fn.name == "runtime.NumGoroutine")=false∧fn.body.isNone=false
theorem Goes.run {P:Program} {f:FuncId} (h:Goes P f) (args:Array Value) (w:World):(callFunc f args).run P w=.ok (.enter f args) w:=by
 obtain ⟨fn,h1,h2,h3⟩:=h.h
 simp only [callFunc,Sem.run_bind,run_program,Result.andThen_ok,h1,h2,h3,Bool.false_eq_true,if_false]
 rfl

section
variable {P:Program} {n:Nat} {ops:Array Oper} {K:Env→World→Prop} {KQ:Env→Prop} {rest:List Oper} {e:Env} {w w0:World} {v:Value} {d:Nat} {op:Op} {ty:TypeId} {pos:String} {af:Array Edge} {Γ rΓ:List Asn}

theorem ah (h:K e w):EL P n ops K [] e w:=fun _ ha=>⟨rfl,e,ha,h⟩
theorem bc (h:KQ e):QL P n ops w KQ [] e:=fun _ ha=>⟨e,ha,h⟩
theorem lL (hp:PV P ⟨some d,op,ty,pos,af,none⟩ e w v) (hd:d<n) (hK:EL P n ops K rest (upd e d v) w):EL P n ops K (⟨some d,op,ty,pos,af,none⟩ :: rest) e w:=by
 intro a ha
 refine wpList_plain rfl fun K' hK'=>?_
 unfold Oper.wp
 rw [ha.eval,hp w (Ext.refl w)]
 exact hK' _ _ (hK _ (ha.put hd v))
theorem pR (hp:PV P ⟨some d,op,ty,pos,af,none⟩ e w v) (hd:d<n) (hK:QL P n ops w KQ rest (upd e d v)):QL P n ops w KQ (⟨some d,op,ty,pos,af,none⟩ :: rest) e:=by
 intro a ha
 unfold wpQuiet
 rw [if_pos (by rfl)]
 refine ⟨v,fun w' hw'=>?_,hK _ (ha.put hd v)⟩
 unfold Oper.quietAt
 rw [ha.eval,hp w' hw']
 exact ⟨rfl,rfl⟩
theorem aU {f:FuncId} {args:Array Operand} {tys:Array TypeId} {vals:Array Value} {R:Ending→World→Prop} (hg:Goes P f) (hc:Calls P f vals w R) (hv:(args.toList.map (ev e)).toArray=vals) (hd:d<n)
  (hK:∀ x w',R x w'→∃ v,x=.returned v∧EL P n ops K rest (upd e d v) w'):EL P n ops K (⟨some d,.call ⟨.value (.func f),args,tys⟩,ty,pos,af,none⟩ :: rest) e w:=by
 intro a ha
 refine wpList_plain rfl fun K' hK'=>?_
 unfold Oper.wp execOp
 have he:args.map (ev e)=vals:=by rw [← hv];apply Array.ext';simp
 simp only [ha.eval,resolve,ev,Deferred.ofValue,Sem.run_bind,Sem.run_pure,Result.andThen_ok,Array.empty_append,Array.append_empty,he,invoke,hg.run,Oper.upon_enter]
 refine hc.mono fun x w' hx=>?_
 obtain ⟨v,rfl,h⟩:=hK x w' hx
 exact hK' _ _ (h _ (ha.put hd v))
theorem cK {f:FuncId} {args:Array Operand} {tys:Array TypeId} {vals:Array Value} (v:Value) (hg:Goes P f)
  (hc:∀ w',Ext w w'→Calls P f vals w' fun x w''=>x=.returned v∧Ext w' w'') (hv:(args.toList.map (ev e)).toArray=vals) (hd:d<n)
  (hK:QL P n ops w KQ rest (upd e d v)):QL P n ops w KQ (⟨some d,.call ⟨.value (.func f),args,tys⟩,ty,pos,af,none⟩ :: rest) e:=by
 intro a ha
 unfold wpQuiet
 rw [if_pos (by rfl)]
 refine ⟨v,fun w' hw'=>?_,hK _ (ha.put hd v)⟩
 unfold Oper.quietAt execOp
 have he:args.map (ev e)=vals:=by rw [← hv];apply Array.ext';simp
 simp only [ha.eval,resolve,ev,Deferred.ofValue,Sem.run_bind,Sem.run_pure,Result.andThen_ok,Array.empty_append,Array.append_empty,he,invoke,hg.run]
 exact ⟨rfl,(hc w' hw').mono fun x w'' ⟨h1,h2⟩=>⟨h1,hw'.trans h2⟩⟩
def yld (ops:Array Oper) (e:Env) (j:Nat):Option Bool :=
 match (ops[j]?).bind (·.dst) with
 | some t=>match e t with | .bool b=>some b | _=>none
 | none=>none
theorem mo {a:Act} (ha:Mt n e a) {j:Nat} {b:Bool} (h:yld ops e j=some b):yielded ops a.tmps j=some b:=by
 unfold yld at h
 unfold yielded
 cases hj:(ops[j]?).bind (·.dst) with
 | none=>simp [hj] at h
 | some t =>
  simp only [hj] at h
  have hg:=ha.get t
  simp only [Option.bind_some]
  cases hv:e t with
  | bool c =>
   rw [hv] at h hg
   simp only [Option.some.injEq] at h
   subst h
   unfold Array.getD at hg
   split at hg
   ·rename_i hlt
    rw [Array.getElem?_eq_getElem hlt]
    have:a.tmps[t]=.bool c:=hg
    rw [this]
   ·simp [undef] at hg
  | _=>simp [hv] at h
theorem pD {a:Act} (ha:Mt n e a) {j:Nat} (h:(match (ops[j]?).bind (·.dst) with | some t=>e t | none=>undef)=undef):yielded ops a.tmps j=none:=by
 unfold yielded
 cases hj:(ops[j]?).bind (·.dst) with
 | none=>rfl
 | some t =>
  simp only [hj] at h
  have hg:=ha.get t
  rw [h] at hg
  simp only [Option.bind_some]
  cases hv:a.tmps[t]? with
  | none=>rfl
  | some v =>
   have:a.tmps.getD t undef=v:=by
    obtain ⟨h1,h2⟩:=Array.getElem?_eq_some_iff.1 hv
    simp [Array.getD,h1,h2]
   rw [this] at hg
   subst hg
   rfl
theorem An {j:Nat} {b c:Bool} {dst:Option Nat} (h:yld ops e j=some c) (hc:c=b) (hK:EL P n ops K (⟨dst,op,ty,pos,af,none⟩ :: rest) e w):EL P n ops K (⟨dst,op,ty,pos,af,some (j,b)⟩ :: rest) e w:=by
 subst hc
 intro a ha
 have:=hK a ha
 unfold wpList at this ⊢
 rw [if_pos (by simp [Region.wanted])] at this
 rw [if_pos (by simp [Region.wanted,mo ha h])]
 exact this
theorem zG {j:Nat} {b b' c:Bool} {d:Nat} (h:yld ops e j=some c) (hc:c=b) (hb:(b == b')=false) (hd:d<n) (hK:EL P n ops K rest (upd e d undef) w):EL P n ops K (⟨some d,op,ty,pos,af,some (j,b')⟩ :: rest) e w:=by
 subst hc
 intro a ha
 unfold wpList
 rw [if_neg (by simp [Region.wanted,mo ha h];simpa using hb)]
 exact hK _ (ha.put hd _)
theorem Am {j:Nat} {b c:Bool} {dst:Option Nat} (h:yld ops e j=some c) (hc:c=b) (hK:QL P n ops w KQ (⟨dst,op,ty,pos,af,none⟩ :: rest) e):QL P n ops w KQ (⟨dst,op,ty,pos,af,some (j,b)⟩ :: rest) e:=by
 subst hc
 intro a ha
 have:=hK a ha
 unfold wpQuiet at this ⊢
 rw [if_pos (by simp [Region.wanted])] at this
 rw [if_pos (by simp [Region.wanted,mo ha h])]
 exact this
theorem zQ {j:Nat} {b b' c:Bool} {d:Nat} (h:yld ops e j=some c) (hc:c=b) (hb:(b == b')=false) (hd:d<n) (hK:QL P n ops w KQ rest (upd e d undef)):QL P n ops w KQ (⟨some d,op,ty,pos,af,some (j,b')⟩ :: rest) e:=by
 subst hc
 intro a ha
 unfold wpQuiet
 rw [if_neg (by simp [Region.wanted,mo ha h];simpa using hb)]
 exact hK _ (ha.put hd _)
end

def Lf (n:Nat) (Q:Exit→Env→World→Prop):Exit→Act→World→Prop:=fun x a w=>∃ e,Mt n e a∧Q x e w
def CW (P:Program) (n:Nat) (c:Code) (Q:Exit→Env→World→Prop) (e:Env) (w:World):Prop:=∀ a,Mt n e a→c.wp P (Lf n Q) a w
def thn (K:Env→World→Prop) (Q:Exit→Env→World→Prop):Exit→Env→World→Prop
 | .normal,e,w=>K e w
 | x,e,w=>Q x e w
def inb (id:Nat) (Q:Exit→Env→World→Prop):Exit→Env→World→Prop
 | .exit id',e,w=>bif Nat.beq id' id then Q .normal e w else Q (.exit id') e w
 | x,e,w=>Q x e w
section
variable {P:Program} {n:Nat} {Q:Exit→Env→World→Prop} {K:Env→World→Prop} {e:Env} {w:World} {c x y:Code}
theorem rg (h:∀ Q',(∀ x e w,Q x e w→Q' x e w)→CW P n c Q' e w):CW P n c Q e w:=h Q fun _ _ _ h=>h
theorem Ap {i:Nat} (h:Q .normal e w):inb i Q (.exit i) e w:=by
 have:Nat.beq i i=true:=by simp
 show (bif Nat.beq i i then _ else _)
 rw [this];exact h
theorem xR {i j:Nat} (hij:Nat.beq j i=false) (h:Q (.exit j) e w):inb i Q (.exit j) e w:=by
 show (bif Nat.beq j i then _ else _)
 rw [hij];exact h
theorem wU (h:CW P n x (thn (fun e w=>CW P n y Q e w) Q) e w):CW P n (.seq x y) Q e w:=by
 intro a ha
 refine wp_seq (wp_mono (h a ha) ?_)
 rintro x' a' w' ⟨e',he',hq⟩
 cases x' with
 | normal=>exact hq a' he'
 | _=>exact ⟨e',he',hq⟩
theorem aT (h:Q .normal e w):CW P n .skip Q e w:=fun _ ha=>wp_skip ⟨e,ha,h⟩
theorem aG {i:Nat} (h:Q (.exit i) e w):CW P n (.exit i) Q e w:=fun _ ha=>wp_exit ⟨e,ha,h⟩
theorem aj (h:Q .ret e w):CW P n .ret Q e w:=fun _ ha=>wp_ret ⟨e,ha,h⟩
theorem wz {o:Operand} {b:Bool} (hc:ev e o=.bool b) (hb:b=true) (h:CW P n x Q e w):CW P n (.cond o x y) Q e w :=
 fun a ha=>wp_cond_true (by rw [ha.eval,hc,hb]) (h a ha)
theorem wi {o:Operand} {b:Bool} (hc:ev e o=.bool b) (hb:b=false) (h:CW P n y Q e w):CW P n (.cond o x y) Q e w :=
 fun a ha=>wp_cond_false (by rw [ha.eval,hc,hb]) (h a ha)
theorem xf {i:Nat} (h:CW P n c (inb i Q) e w):CW P n (.block i c) Q e w:=by
 intro a ha
 refine wp_block (wp_mono (h a ha) ?_)
 rintro x' a' w' ⟨e',he',hq⟩
 cases x' with
 | exit id' =>
  by_cases hi:id'=i
  ·subst hi
   have:Nat.beq id' id'=true:=by simp
   have hq':(bif Nat.beq id' id' then Q .normal e' w' else Q (.exit id') e' w'):=hq
   rw [this] at hq'
   simp only [Exit.inBlock,if_true]
   exact ⟨e',he',hq'⟩
  ·have:Nat.beq id' i=false:=nC hi
   have hq':(bif Nat.beq id' i then Q .normal e' w' else Q (.exit id') e' w'):=hq
   rw [this] at hq'
   simp only [Exit.inBlock,hi,if_false]
   exact ⟨e',he',hq'⟩
 | _=>exact ⟨e',he',hq⟩
theorem ag {id:Nat} {l:List Oper} (h:EL P n l.toArray (fun e w=>Q .normal e w) l e w):CW P n (.region id l.toArray false) Q e w:=by
 intro a ha
 refine wp_mono (wp_region_lit (h a ha)) ?_
 rintro x a w ⟨rfl,e,he,hk⟩
 exact ⟨e,he,hk⟩
theorem bM {id:Nat} {l:List Oper} (hm:P.follows .mixedOrders=true) (hB:Region.lexB .any l.toArray=true) (h:QL P n l.toArray w (fun e=>∀ w',Ext w w'→Q .normal e w') l e):CW P n (.region id l.toArray true) Q e w:=by
 intro a ha
 refine wp_region_quiet (C:=fun w'=>Ext w w') hm hB ⟨rfl,rfl,rfl,Nat.le_refl _,fun _ _=>rfl⟩ ?_
 have:=h a ha
 have key:∀ (r:List Oper) (a:Act),wpQuiet P l.toArray (fun w'=>Ext w w') (fun a'=>∃ e',Mt n e' a'∧∀ w',Ext w w'→Q .normal e' w') r a→wpQuiet P l.toArray (fun w'=>Ext w w') (fun a'=>∀ w',Ext w w'→Lf n Q .normal a' w') r a:=by
  intro r
  induction r with
  | nil=>rintro a ⟨e',h1,h2⟩ w' hw';exact ⟨e',h1,h2 w' hw'⟩
  | cons o r ih =>
   intro a h
   unfold wpQuiet at h ⊢
   split
   ·rename_i hw
    rw [if_pos hw] at h
    exact Oper.quiet_mono ih h
   ·rename_i hw
    rw [if_neg hw] at h
    exact ih _ h
 exact key _ _ this
theorem yO (I:Nat→Env→World→Prop) (k0:Nat) (h0:I k0 e w)
  (hr:∀ k e w,I k e w→CW P n c (thn (fun e w=>∃ k',k'<k∧I k' e w) Q) e w):CW P n (.loop c) Q e w:=by
 intro a ha
 refine wp_loop_ghost (fun k a w=>∃ e,Mt n e a∧I k e w) k0 ⟨e,ha,h0⟩ ?_
 rintro k a w ⟨e,he,hI⟩
 refine wp_mono (hr k e w hI a he) ?_
 rintro x' a' w' ⟨e',he',hq⟩
 cases x' with
 | normal =>
  obtain ⟨k',hk',hI'⟩:=hq
  exact ⟨k',hk',e',he',hI'⟩
 | _=>exact ⟨e',he',hq⟩
theorem aH (I:Nat→Env→World→Prop) (k0:Nat) (h0:I k0 e w) (hz:∀ e w,¬ I 0 e w)
  (hr:∀ k e w,I (k+1) e w→CW P n c (thn (fun e w=>I k e w) Q) e w):CW P n (.loop c) Q e w:=by
 refine yO I k0 h0 ?_
 intro k e w hI
 cases k with
 | zero=>exact absurd hI (hz e w)
 | succ k =>
  intro a ha
  refine wp_mono (hr k e w hI a ha) ?_
  rintro x' a' w' ⟨e',he',hq⟩
  cases x' with
  | normal=>exact ⟨e',he',k,Nat.lt_succ_self k,hq⟩
  | _=>exact ⟨e',he',hq⟩
end

def Fin (P:Program) (fn:Func) (n:Nat) (R:Ending→World→Prop):Exit→Env→World→Prop
 | .normal,e,w=>∃ v,(∀ a,Mt n e a→(results fn a.tmps).run P w=.ok v w)∧R (.returned v) w
 | .ret,e,w=>∃ v,(∀ a,Mt n e a→(results fn a.tmps).run P w=.ok v w)∧R (.returned v) w
 | _,_,_=>False
def rv:List Value→Nat→Env
 | [],_=>fun _=>undef
 | v :: l,k=>upd (rv l (k+1)) k v
theorem sC:∀ (l:List Value) (k t:Nat),rv l k t=if k≤t then l.getD (t-k) undef else undef
 | [],k,t=>by simp [rv]
 | v :: l,k,t=>by
  unfold rv upd
  by_cases h:t=k
  ·subst h;simp
  ·have hb:Nat.beq t k=false:=nC h
   rw [hb,cond_false,sC l (k+1) t]
   by_cases hk:k+1≤t
   ·rw [if_pos hk,if_pos (by omega),show t-k=(t-(k+1))+1 by omega]
    simp
   ·rw [if_neg hk]
    by_cases hk2:k≤t
    ·omega
    ·rw [if_neg hk2]
theorem aK {P:Program} {f:FuncId} {fn:Func} {c:Code} {l:List Value} {w:World} {R:Ending→World→Prop} (hf:P.funcs[f]? = some fn) (hb:fn.body=some c) {n:Nat} (hn:fn.ntmps=n) (hl:l.length≤n)
  (h:CW P n c (Fin P fn n R) (rv l 0) w):Calls P f l.toArray w R:=by
 refine calls_of_wp hf hb (wp_mono (h _ ?_) ?_)
 ·refine ⟨by simp;omega,rfl,fun t=>?_⟩
  rw [sC]
  simp only [Nat.zero_le,if_true,Nat.sub_zero,Array.getD,Array.size_append,List.size_toArray,Array.size_replicate]
  by_cases h1:t<l.length
  ·rw [dif_pos (by omega)]
   simp [h1]
  ·have h2:l.getD t undef=undef:=by simp [h1]
   rw [h2]
   split
   ·rename_i h3
    have:=Array.getElem_append_right (xs:=l.toArray) (ys:=Array.replicate (fn.ntmps-l.length) undef) (i:=t) (by simpa using h1) (h:=by simpa using h3)
    simpa using this
   ·rfl
 ·rintro x a w' ⟨e,he,hq⟩
  cases x with
  | normal=>obtain ⟨v,h1,h2⟩:=hq;exact bodyPost_end (h1 a he) he.defers h2
  | ret=>obtain ⟨v,h1,h2⟩:=hq;exact bodyPost_ret (h1 a he) he.defers h2
  | _=>exact hq.elim
def rng (n:Int):Bool:=decide (-9223372036854775808≤n)&&decide (n≤9223372036854775807)
def ad (a b:Int):Option Int:=if rng (a+b) then some (a+b) else none
def sb (a b:Int):Option Int:=if rng (a-b) then some (a-b) else none
def ml (a b:Int):Option Int:=if rng (a*b) then some (a*b) else none
def qt (a b:Int):Option Int:=if b≠0∧rng (a.tdiv b) then some (a.tdiv b) else none
def rm (a b:Int):Option Int:=if b≠0 then some (a.tmod b) else none
def ix {α:Type} (xs:List α) (i:Int):Option α:=if 0≤i then xs[i.toNat]? else none
def bx (s:ByteArray) (i:Int):Option Int:=if 0≤i then (s[i.toNat]?).map (fun b=>(b.toNat:Int)) else none
def slc {α:Type} (xs:List α) (lo hi:Int):Option (List α):=if 0≤lo∧lo≤hi∧hi≤xs.length then some ((xs.take hi.toNat).drop lo.toNat) else none
def apd {α:Type} (bytes:Nat) (xs ys:List α):Option (List α):=if (xs.length+ys.length)*bytes≤140737488355328 then some (xs++ys) else none
def mk {α:Type} (bytes:Nat) (z:α) (n:Int):Option (List α):=if 0≤n∧n.toNat*bytes≤281474976710656∧n.toNat≤140737488355328 then some (List.replicate n.toNat z) else none
def sto {α:Type} (xs:List α) (i:Int) (y:α):Option (List α):=if 0≤i∧i.toNat<xs.length then some (xs.set i.toNat y) else none

theorem ob {α β:Type} {o:Option α} {f:α→Option β} {r:β} (h:o.bind f=some r):∃ x,o=some x∧f x=some r:=Option.bind_eq_some_iff.1 h
theorem oif {α:Type} {c:Bool} {x y:Option α} {r:α} (h:(bif c then x else y)=some r):(c=true∧x=some r)∨(c=false∧y=some r):=by
 cases c
 ·exact .inr ⟨rfl,h⟩
 ·exact .inl ⟨rfl,h⟩
theorem kr {n:Int} (h:rng n=true):IntKind.i64.wrap n=n:=by
 simp only [rng,Bool.and_eq_true,decide_eq_true_eq] at h
 exact IntWalk.i64_in n h
theorem yB {a b c:Int} (h:ad a b=some c):rng (a+b)=true∧c=a+b:=by
 unfold ad at h;split at h
 ·exact ⟨by assumption,by simpa using h.symm⟩
 ·cases h
theorem yw {a b c:Int} (h:sb a b=some c):rng (a-b)=true∧c=a-b:=by
 unfold sb at h;split at h
 ·exact ⟨by assumption,by simpa using h.symm⟩
 ·cases h
theorem yM {a b c:Int} (h:ml a b=some c):rng (a*b)=true∧c=a*b:=by
 unfold ml at h;split at h
 ·exact ⟨by assumption,by simpa using h.symm⟩
 ·cases h
theorem gi {α:Type} {xs:List α} {i:Int} {x:α} (h:ix xs i=some x):∃ k:Nat,i=(k:Int)∧∃ h:k<xs.length,xs[k]=x:=by
 unfold ix at h
 split at h
 ·rename_i h0
  obtain ⟨h1,h2⟩:=List.getElem?_eq_some_iff.1 h
  exact ⟨i.toNat,by omega,h1,h2⟩
 ·cases h

section
variable {P:Program} {e:Env} {w w0:World} {d:Option Nat} {ty:TypeId} {pos:String} {af:Array Edge} {x y z:Operand} {Γ rΓ:List Asn}

theorem aX {v:Value} (hx:ev e x=v):PV P ⟨d,.move x,ty,pos,af,none⟩ e w v:=fun w' _=>by
 unfold execOp;simp only [hx];rfl
theorem cJ {v:Value} (hx:ev e x=v):PV P ⟨d,.assign x,ty,pos,af,none⟩ e w v:=fun w' _=>by
 unfold execOp;simp only [hx];rfl
theorem av {b:Bool} {v:Value} (hx:ev e x=.bool b) (hb:b=true) (hy:ev e y=v):PV P ⟨d,.pick x y z,ty,pos,af,none⟩ e w v:=fun w' _=>by
 unfold execOp;subst hb;simp [hx,hy,asBool]
theorem aA {b:Bool} {v:Value} (hx:ev e x=.bool b) (hb:b=false) (hz:ev e z=v):PV P ⟨d,.pick x y z,ty,pos,af,none⟩ e w v:=fun w' _=>by
 unfold execOp;subst hb;simp [hx,hz,asBool]
theorem bb {t:TypeId} {b:Bool} (hx:ev e x=.bool b):PV P ⟨d,.unOp .not t x,ty,pos,af,none⟩ e w (.bool (!b)):=fun w' _=>by
 unfold execOp;simp [hx,Op.unary]
section
variable {t u:TypeId} {a b c:Int}
theorem aE (hx:ev e x=.int .i64 a) (hy:ev e y=.int .i64 b) (h:ad a b=some c):PV P ⟨d,.binOp .add t x y u,ty,pos,af,none⟩ e w (.int .i64 c):=fun w' _=>by
 obtain ⟨h1,rfl⟩:=yB h
 unfold execOp;simp [hx,hy,eqGuard,binOp,Op.intArith,kr h1]
theorem cx (hx:ev e x=.int .i64 a) (hy:ev e y=.int .i64 b) (h:sb a b=some c):PV P ⟨d,.binOp .sub t x y u,ty,pos,af,none⟩ e w (.int .i64 c):=fun w' _=>by
 obtain ⟨h1,rfl⟩:=yw h
 unfold execOp;simp [hx,hy,eqGuard,binOp,Op.intArith,kr h1]
theorem rx (hx:ev e x=.int .i64 a) (hy:ev e y=.int .i64 b) (h:ml a b=some c):PV P ⟨d,.binOp .mul t x y u,ty,pos,af,none⟩ e w (.int .i64 c):=fun w' _=>by
 obtain ⟨h1,rfl⟩:=yM h
 unfold execOp;simp [hx,hy,eqGuard,binOp,Op.intArith,kr h1]
theorem tb (hx:ev e x=.int .i64 a) (hy:ev e y=.int .i64 b) (h:qt a b=some c):PV P ⟨d,.binOp .quo t x y u,ty,pos,af,none⟩ e w (.int .i64 c):=fun w' _=>by
 unfold qt at h;split at h
 ·rename_i h1
  obtain rfl:=Option.some.inj h
  unfold execOp;simp [hx,hy,eqGuard,binOp,Op.intDiv,h1.1,kr h1.2]
 ·cases h
theorem nx (hx:ev e x=.int .i64 a) (hy:ev e y=.int .i64 b) (h:rm a b=some c):PV P ⟨d,.binOp .rem t x y u,ty,pos,af,none⟩ e w (.int .i64 c):=fun w' _=>by
 unfold rm at h;split at h
 ·rename_i h1
  obtain rfl:=Option.some.inj h
  unfold execOp;simp [hx,hy,eqGuard,binOp,Op.intDiv,h1]
 ·cases h
theorem sa {k:IntKind} (hx:ev e x=.int k a) (hy:ev e y=.int k b):PV P ⟨d,.binOp .add t x y u,ty,pos,af,none⟩ e w (.int k (k.wrap (a+b))):=fun w' _=>by
 unfold execOp;simp [hx,hy,eqGuard,binOp,Op.intArith]
theorem yy {k:IntKind} (hx:ev e x=.int k a) (hy:ev e y=.int k b):PV P ⟨d,.binOp .mul t x y u,ty,pos,af,none⟩ e w (.int k (k.wrap (a*b))):=fun w' _=>by
 unfold execOp;simp [hx,hy,eqGuard,binOp,Op.intArith]
theorem bu {k:IntKind} (hx:ev e x=.int k a) (hy:ev e y=.int k b):PV P ⟨d,.binOp .eql t x y u,ty,pos,af,none⟩ e w (.bool (a == b)):=fun w' _=>by
 unfold execOp;simp [hx,hy,eqGuard,binOp,Op.intCmp]
theorem dD {k:IntKind} (hx:ev e x=.int k a) (hy:ev e y=.int k b):PV P ⟨d,.binOp .neq t x y u,ty,pos,af,none⟩ e w (.bool (a != b)):=fun w' _=>by
 unfold execOp;simp [hx,hy,eqGuard,binOp,Op.intCmp]
theorem aL {k:IntKind} (hx:ev e x=.int k a) (hy:ev e y=.int k b):PV P ⟨d,.binOp .lss t x y u,ty,pos,af,none⟩ e w (.bool (decide (a<b))):=fun w' _=>by
 unfold execOp;simp [hx,hy,eqGuard,binOp,Op.intCmp]
theorem ik {k:IntKind} (hx:ev e x=.int k a) (hy:ev e y=.int k b):PV P ⟨d,.binOp .leq t x y u,ty,pos,af,none⟩ e w (.bool (decide (a≤b))):=fun w' _=>by
 unfold execOp;simp [hx,hy,eqGuard,binOp,Op.intCmp]
theorem bq {k:IntKind} (hx:ev e x=.int k a) (hy:ev e y=.int k b):PV P ⟨d,.binOp .gtr t x y u,ty,pos,af,none⟩ e w (.bool (decide (b<a))):=fun w' _=>by
 unfold execOp;simp [hx,hy,eqGuard,binOp,Op.intCmp]
theorem dU {k:IntKind} (hx:ev e x=.int k a) (hy:ev e y=.int k b):PV P ⟨d,.binOp .geq t x y u,ty,pos,af,none⟩ e w (.bool (decide (b≤a))):=fun w' _=>by
 unfold execOp;simp [hx,hy,eqGuard,binOp,Op.intCmp]
end
def eqS (s r:ByteArray):Bool:=s.toList == r.toList
def ltS (s r:ByteArray):Bool:=Op.bytesLess s.toList r.toList
section
variable {t u:TypeId} {s r:ByteArray}
theorem mw (hx:ev e x=.string s) (hy:ev e y=.string r):PV P ⟨d,.binOp .eql t x y u,ty,pos,af,none⟩ e w (.bool (eqS s r)):=fun w' _=>by
 unfold execOp eqS;simp [hx,hy,eqGuard,binOp,Op.stringOp]
theorem yh (hx:ev e x=.string s) (hy:ev e y=.string r):PV P ⟨d,.binOp .neq t x y u,ty,pos,af,none⟩ e w (.bool (!(eqS s r))):=fun w' _=>by
 unfold execOp eqS;simp [hx,hy,eqGuard,binOp,Op.stringOp]
theorem uY (hx:ev e x=.string s) (hy:ev e y=.string r):PV P ⟨d,.binOp .geq t x y u,ty,pos,af,none⟩ e w (.bool (!(ltS s r))):=fun w' _=>by
 unfold execOp ltS;simp [hx,hy,eqGuard,binOp,Op.stringOp]
end
theorem aD {k:Nat} {vs:Array Value} {v:Value} (hx:ev e x=.tuple vs) (h:vs[k]? = some v):PV P ⟨d,.extract x k,ty,pos,af,none⟩ e w v:=fun w' _=>by
 unfold execOp;simp [hx,Instr.extract,h]
theorem tD {s t:TypeId} {k k2:IntKind} {a:Int} {u:TypeDesc} (hs:P.underlying s=some u) (ht:P.underlying t=some (.int k2)) (hx:ev e x=.int k a):PV P ⟨d,.convert s t x,ty,pos,af,none⟩ e w (.int k2 (k2.wrap a)):=fun w' _=>by
 unfold execOp;simp [hx,convert,run_underlying ht,run_underlying hs,Conv.intToInt]
theorem kC {t:TypeId} {s:ByteArray} (ht:P.underlying t=some .string) (hx:ev e x=.string s):PV P ⟨d,.call ⟨.builtin .len,#[x],#[t]⟩,ty,pos,af,none⟩ e w (.int .i64 s.size):=fun w' _=>by
 unfold execOp;simp [resolve,invoke,builtin,hx,Builtin.len_,run_underlying ht,goInt]
def imn (a b:Int):Int:=if b<a then b else a
def imx (a b:Int):Int:=if a<b then b else a
theorem fq {p:Addr} (hx:ev e x=.pointer (some p)):PV P ⟨d,.nilCheck x,ty,pos,af,none⟩ e w (.pointer (some p)):=fun w' _=>by
 unfold execOp;simp [hx]
theorem rL {t t2:TypeId} {a b:Int} (hx:ev e x=.int .i64 a) (hy:ev e y=.int .i64 b):PV P ⟨d,.call ⟨.builtin .min,#[x,y],#[t,t2]⟩,ty,pos,af,none⟩ e w (.int .i64 (imn a b)):=fun w' _=>by
 unfold execOp imn;simp [resolve,invoke,builtin,hx,hy,Builtin.min_,Builtin.min2]
theorem mx {t t2:TypeId} {a b:Int} (hx:ev e x=.int .i64 a) (hy:ev e y=.int .i64 b):PV P ⟨d,.call ⟨.builtin .max,#[x,y],#[t,t2]⟩,ty,pos,af,none⟩ e w (.int .i64 (imx a b)):=fun w' _=>by
 unfold execOp imx;simp [resolve,invoke,builtin,hx,hy,Builtin.max_,Builtin.max2]
theorem rf {t:TypeId} {s:ByteArray} {i:Int} {k:IntKind} {b:Int} (ht:P.underlying t=some .string) (hx:ev e x=.string s) (hy:ev e y=.int k i) (h:bx s i=some b):PV P ⟨d,.index t x y,ty,pos,af,none⟩ e w (.int .u8 b):=fun w' _=>by
 unfold bx at h
 split at h
 ·rename_i h0
  cases hb:s[i.toNat]? with
  | none=>simp [hb] at h
  | some c =>
   simp [hb] at h;subst h
   unfold execOp;simp [hx,hy,Instr.index,asIntOf,run_underlying ht,h0,hb]
 ·cases h
class FldT (P:Program) (t:TypeId) (k:Nat) (off:outParam Nat):Prop where
 h:∃ fs f,P.underlying t=some (.struct fs)∧fs[k]? = some f∧f.offset=off∧((P.info? f.type).map fun i=>Nat.beq i.size 0)=some false
theorem ae {t:TypeId} {k off b o:Nat} [ht:FldT P t k off] (hx:ev e x=.pointer (some ⟨b,o,none⟩)):PV P ⟨d,.fieldAddr t x k,ty,pos,af,none⟩ e w (.pointer (some ⟨b,o+off,none⟩)):=fun w' _=>by
 obtain ⟨fs,f,h1,h2,h3,h4⟩:=ht.h
 cases hi:P.info? f.type with
 | none=>simp [hi] at h4
 | some i =>
  have h5:¬ i.size=0:=by
   intro e0
   simp [hi,e0] at h4
  unfold execOp
  simp [hx,Instr.fieldAt,run_underlying h1,h2,Instr.sureAddr,fieldPlace,sizeOf,typeInfo,hi,h5,h3,Addr.add_lit]
theorem ui {w w':World} {p:Addr} {c:Value} (hE:Ext w w') (h:w.cell? p=some c):w'.cell? p=some c:=by rw [hE.cell (block_lt_of_cell h)];exact h
theorem ak {w w':World} {b off:Nat} {ec:List Value} (hE:Ext w w') (h:∀ j c,ec[j]? = some c→w.cell? ⟨b,off+j,none⟩=some c):∀ j c,ec[j]? = some c→w'.cell? ⟨b,off+j,none⟩=some c :=
 fun j c hj=>ui hE (h j c hj)
theorem ac {t:TypeId} [PlainT P t] {p:Addr} {c:Value} (hx:ev e x=.pointer (some p)) (hc:w.cell? p=some c):PV P ⟨d,.load t x,ty,pos,af,none⟩ e w c:=fun w' hw'=>by
 unfold execOp
 simp only [hx,Instr.loadAt,Instr.sureAddr,Sem.run_bind,Sem.run_pure,Result.andThen_ok,pV (ui hw' hc)]
theorem ax {t:TypeId} {n b off:Nat} [AggT P t n] {cs:List Value} (hx:ev e x=.pointer (some ⟨b,off,none⟩)) (hn:cs.length=n) (hc:∀ j c,cs[j]? = some c→w.cell? ⟨b,off+j,none⟩=some c) :
  PV P ⟨d,.load t x,ty,pos,af,none⟩ e w (.agg cs.toArray):=fun w' hw'=>by
 unfold execOp
 simp only [hx,Instr.loadAt,Instr.sureAddr,Sem.run_bind,Sem.run_pure,Result.andThen_ok,dJ hn (ak hw' hc)]
theorem au {α:Type} {R:Rep α} {E E':TypeId} {t:TypeId} [ht:SliceT P t E'] {wA:World} {v:Value} {xs:List α} (hx:ev e x=v) (hr:(ay R E).rd wA [v] xs) :
  PV P ⟨d,.call ⟨.builtin .len,#[x],#[t]⟩,ty,pos,af,none⟩ e w (.int .i64 xs.length):=fun w' _=>by
 obtain ⟨ao,cap,rfl⟩:=s9 hr
 unfold execOp;simp [resolve,invoke,builtin,hx,Builtin.len_,run_underlying ht.h,goInt]
theorem qH {α:Type} {R:Rep α} {E E':TypeId} {t:TypeId} [ht:SliceT P t E'] {zz:List Value} {n bytes:Nat} [hz:ElemT P E' zz n bytes] {wA:World} {v:Value} {xs:List α} (hs:ev e x=v) (hr:(ay R E).rd wA [v] xs)
  (hn:R.sz=n) (hpos:0<n) {k:IntKind} {i:Int} (hi:ev e y=.int k i) {u:α} (h:ix xs i=some u) :
  ∃ b off ec,R.rd wA ec u∧(∀ j c,ec[j]? = some c→wA.cell? ⟨b,off+j,none⟩=some c)∧∀ w,PV P ⟨d,.indexAddr t x y,ty,pos,af,none⟩ e w (.pointer (some ⟨b,off,none⟩)):=by
 obtain ⟨k',rfl,hk,rfl⟩:=gi h
 obtain ⟨ao,cap,ccs,hv,h1,h2,h3,h4,h5⟩:=hr
 obtain rfl:v=.slice ao xs.length cap:=by simpa using hv
 obtain ⟨ec,hec,hcc⟩:=mz h4 k' hk
 have hz:=hz.h
 have hlen:=gk h4
 cases hq:P.info? E' with
 | none=>simp [hq] at hz
 | some inf =>
  simp [hq] at hz
  obtain ⟨b,off,rfl,hc⟩:∃ b off,ao=some ⟨b,off,none⟩∧∀ j c,ccs[j]? = some c→wA.cell? ⟨b,off+j,none⟩=some c:=by
   rcases h5 with rfl | ⟨b,off,rfl,hc⟩
   ·have:0<xs.length*R.sz:=Nat.mul_pos (by omega) (by omega)
    simp at hlen
    omega
   ·exact ⟨b,off,rfl,hc⟩
  have hsz:inf.size=R.sz:=by rw [hn];exact hz.2.1
  refine ⟨b,off+k'*R.sz,ec,hec,fun j c hj=>by rw [Nat.add_assoc];exact hc _ _ (hcc j c hj),fun w w' _=>?_⟩
  unfold execOp
  simp [hs,hi,Instr.indexAt,asIntOf,run_underlying ht.h,sizeOf,typeInfo,hq,hk,Addr.add_lit,hsz]
end

section
variable {P:Program} {n:Nat} {ops:Array Oper} {K:Env→World→Prop} {KQ:Env→Prop} {rest:List Oper} {e:Env} {w w0 wA:World} {v:Value} {d:Nat} {ty:TypeId} {pos:String} {af:Array Edge} {Γ rΓ:List Asn} {x y:Operand} {α:Type} {R:Rep α} {E E':TypeId}
theorem aI {t:TypeId} [SliceT P t E'] {zz:List Value} {m bytes:Nat} [ElemT P E' zz m bytes] {xs:List α} (hs:ev e x=v) (hr:(ay R E).rd wA [v] xs)
  (hn:R.sz=m) (hpos:0<m) {k:IntKind} {i:Int} (hi:ev e y=.int k i) {u:α} (h:ix xs i=some u) (hd:d<n)
  (hK:∀ b off ec,R.rd wA ec u→(∀ j c,ec[j]? = some c→wA.cell? ⟨b,off+j,none⟩=some c)→EL P n ops K rest (upd e d (.pointer (some ⟨b,off,none⟩))) w):EL P n ops K (⟨some d,.indexAddr t x y,ty,pos,af,none⟩ :: rest) e w:=by
 obtain ⟨b,off,ec,h1,h2,h3⟩:=qH (P:=P) (d:=some d) (ty:=ty) (pos:=pos) (af:=af) (t:=t) hs hr hn hpos hi h
 exact lL (h3 _) hd (hK b off ec h1 h2)
theorem aZ {t:TypeId} [SliceT P t E'] {zz:List Value} {m bytes:Nat} [ElemT P E' zz m bytes] {xs:List α} (hs:ev e x=v) (hr:(ay R E).rd wA [v] xs)
  (hn:R.sz=m) (hpos:0<m) {k:IntKind} {i:Int} (hi:ev e y=.int k i) {u:α} (h:ix xs i=some u) (hd:d<n)
  (hK:∀ b off ec,R.rd wA ec u→(∀ j c,ec[j]? = some c→wA.cell? ⟨b,off+j,none⟩=some c)→QL P n ops w KQ rest (upd e d (.pointer (some ⟨b,off,none⟩)))):QL P n ops w KQ (⟨some d,.indexAddr t x y,ty,pos,af,none⟩ :: rest) e:=by
 obtain ⟨b,off,ec,h1,h2,h3⟩:=qH (P:=P) (d:=some d) (ty:=ty) (pos:=pos) (af:=af) (t:=t) hs hr hn hpos hi h
 exact pR (h3 _) hd (hK b off ec h1 h2)
theorem bo {t:TypeId} (cs:List Value) (hx:(ev e x).cells=cs.toArray) (hS:Sat w0 w Γ) (hd:d<n)
  (hK:∀ w' b,Sat w0 w' (Box b t cs :: Γ)→Ext w w'→EL P n ops K rest (upd e d (.pointer (some ⟨b,0,none⟩))) w'):EL P n ops K (⟨some d,.box t x,ty,pos,af,none⟩ :: rest) e w :=
 fun a ha=>yf rfl rfl cs (by rw [ha.eval];exact hx) hS fun w' b h1 h2=>hK w' b h1 h2 _ (ha.put hd _)
theorem aR {t:TypeId} {cs:List Value} {m bytes:Nat} [ElemT P t cs m bytes] (hS:Sat w0 w Γ) (hd:d<n)
  (hK:∀ w' b,Sat w0 w' (Box b t cs :: Γ)→Ext w w'→EL P n ops K rest (upd e d (.pointer (some ⟨b,0,none⟩))) w'):EL P n ops K (⟨some d,.alloc t,ty,pos,af,none⟩ :: rest) e w :=
 fun _ ha=>w6 rfl rfl hS fun w' b h1 h2=>hK w' b h1 h2 _ (ha.put hd _)
theorem aq {t:TypeId} {z:List Value} {m bytes:Nat} [ElemT P t z m bytes] (hS:Sat w0 w Γ) {b j:Nat} (hx:ev e x=.pointer (some ⟨b,j,none⟩))
  {E:TypeId} {cs:List Value} [AtBox Γ b E cs rΓ] (vs:List Value) (hy:(ev e y).cells=vs.toArray) (hn:vs.length=m) (hl:j+m≤cs.length) (h1:vs.all (·.oneCell')=true)
  (hK:∀ w',Sat w0 w' (Box b E (cs.take j++vs++cs.drop (j+m)) :: rΓ)→EL P n ops K rest e w'):EL P n ops K (⟨none,.store t x y,ty,pos,af,none⟩ :: rest) e w :=
 fun _ ha=>vD rfl rfl hS (by rw [ha.eval];exact hx) vs (by rw [ha.eval];exact hy) hn hl h1 fun w' h1=>hK w' h1 _ ha
theorem w4 {t:TypeId} {z:List Value} {m bytes:Nat} [ElemT P t z m bytes] (hn:R.sz=m) {ec:List Value} {yv:α} {xs ys:List α} {g ln cap:Nat}
  (hS:Sat w0 w (Own R ec yv :: Own (ay R E) [.slice (some ⟨g,0,none⟩) ln cap] xs :: Γ)) (k off:Nat) {i:Int} (hi:i=(k:Int)) (h:sto xs i yv=some ys) (hoff:off=k*m) (hx:ev e x=.pointer (some ⟨g,off,none⟩)) (hy:(ev e y).cells=ec.toArray)
  (hK:∀ w',Sat w0 w' (Own (ay R E) [.slice (some ⟨g,0,none⟩) ln cap] ys :: Γ)→EL P n ops K rest e w'):EL P n ops K (⟨none,.store t x y,ty,pos,af,none⟩ :: rest) e w:=by
 intro a ha
 subst hi
 unfold sto at h
 split at h
 ·rename_i h0
  obtain rfl:=Option.some.inj h
  simp only [Int.toNat_natCast] at h0 hK
  exact vt rfl rfl hn hS k off h0.2 hoff (by rw [ha.eval];exact hx) (by rw [ha.eval];exact hy) fun w' h1=>hK w' h1 _ ha
 ·cases h
theorem az {t:TypeId} [SliceT P t E] {z:List Value} {m bytes:Nat} [ElemT P E z m bytes] (hn:R.sz=m) (hpos:0<m) (hzl:z.length=m) (hb0:0<bytes)
  {xs:List α} {ccs:List Value} {ys zs:List α} (hS:Sat w0 w (nW R ccs ys :: Own (ay R E) [v] xs :: Γ)) (hs:ev e x=v)
  {ao:Option Addr} {ln c:Nat} (hx:ev e y=.slice ao ln c) (hm:ln=ys.length) (hnone:ao=none→c=0) (hrow:m4 w ao ccs) (h:apd bytes xs ys=some zs) (hd:d<n)
  (hK:∀ w' v',Sat w0 w' (Own (ay R E) [v'] zs :: Γ)→EL P n ops K rest (upd e d v') w'):EL P n ops K (⟨some d,.call ⟨.builtin .append,#[x,y],#[t,t]⟩,ty,pos,af,none⟩ :: rest) e w:=by
 intro a ha
 unfold apd at h
 split at h
 ·rename_i hby
  obtain rfl:=Option.some.inj h
  exact vx rfl rfl hn hpos hzl hb0 hS (by rw [ha.eval];exact hs) (by rw [ha.eval];exact hx) hm hnone hrow hby fun v' w' h1=>hK w' v' h1 _ (ha.put hd _)
 ·cases h
theorem pP {t:TypeId} [SliceT P t E] {z:List Value} {m bytes:Nat} [ElemT P E z m bytes] (hn:R.sz=m) (hpos:0<m) (hzl:z.length=m) {x0:α} (hx0:∀ w,R.own w z x0 []) {i:Int} {xs:List α}
  (hl:ev e x=.int .i64 i) (hc:ev e y=.int .i64 i) (h:mk bytes x0 i=some xs) (hS:Sat w0 w Γ) (hd:d<n)
  (hK:∀ w' g k,Sat w0 w' (Own (ay R E) [.slice (some ⟨g,0,none⟩) k k] xs :: Γ)→Ext w w'→xs.length=k→EL P n ops K rest (upd e d (.slice (some ⟨g,0,none⟩) k k)) w'):EL P n ops K (⟨some d,.makeSlice t x y,ty,pos,af,none⟩ :: rest) e w:=by
 intro a ha
 unfold mk at h
 split at h
 ·rename_i h0
  obtain rfl:=Option.some.inj h
  exact xd rfl rfl hn hpos hzl hx0 (by rw [ha.eval];exact hl) (by rw [ha.eval];exact hc) i.toNat (by omega) (by omega) h0.2.1 h0.2.2 hS fun w' g h1 h2=>hK w' g _ h1 h2 (by simp) _ (ha.put hd _)
 ·cases h
theorem ap {t u:TypeId} [SliceT P t u] {z:List Value} {m bytes:Nat} [ElemT P u z m bytes] (cs:List Value) (hcs:(ev e x).cells=cs.toArray) (hl:cs.length=m) (hpos:0<m) (hzl:z.length=m) (hn:m≤16)
  (hS:Sat w0 w Γ) (hd:d<n) (hK:∀ w' b,Sat w0 w' (Box b u cs :: Γ)→Ext w w'→EL P n ops K rest (upd e d (.slice (some ⟨b,0,none⟩) 1 1)) w'):EL P n ops K (⟨some d,.buildSlice t 1 #[(0,x)],ty,pos,af,none⟩ :: rest) e w :=
 fun _ ha=>rz rfl rfl (by rw [ha.eval];exact hcs) hl hpos hzl hn hS fun w' b h1 h2=>hK w' b h1 h2 _ (ha.put hd _)
theorem aN (R:Rep α) {t:TypeId} [SliceT P t E] {z:List Value} {m bytes:Nat} [ElemT P E z m bytes] (hS:Sat w0 w Γ) (hd:d<n)
  (hK:∀ w' v,Sat w0 w' (Own (ay R E) [v] [] :: Γ)→Ext w w'→EL P n ops K rest (upd e d v) w'):EL P n ops K (⟨some d,.buildSlice t 0 #[],ty,pos,af,none⟩ :: rest) e w :=
 fun _ ha=>ry R rfl rfl hS fun w' b h1 h2=>hK w' _ h1 h2 _ (ha.put hd _)
theorem qE {t:TypeId} {lo hi:Option Operand} [ht:SliceT P t E'] {z:List Value} {m bytes:Nat} [hz:ElemT P E' z m bytes] (hn:R.sz=m) {d:Option Nat}
    (hx:ev e x=v) {xs ys:List α} (hr:(ay R E).rd wA [v] xs) {l h:Int} (hlo:(lo.map (ev e)=some (.int .i64 l))∨(lo=none∧l=0)) (hhi:(hi.map (ev e)=some (.int .i64 h))∨(hi=none∧h=xs.length)) (hq:slc xs l h=some ys) :
    ∃ v',(ay R E).rd wA [v'] ys∧∀ w,PV P ⟨d,.slice t x lo hi none,ty,pos,af,none⟩ e w v':=by
  unfold slc at hq
  split at hq
  case isFalse=>cases hq
  rename_i h0
  obtain rfl:=Option.some.inj hq
  obtain ⟨l',rfl⟩:=Int.eq_ofNat_of_zero_le h0.1
  obtain ⟨h',rfl⟩:=Int.eq_ofNat_of_zero_le (Int.le_trans h0.1 h0.2.1)
  obtain ⟨_,hlh,hh⟩:=h0
  replace hlh:l'≤h':=by omega
  replace hh:h'≤xs.length:=by omega
  simp only [Int.toNat_natCast]
  obtain ⟨ao,cap,ccs,hv,h1,h2,h3,h4,h5⟩:=hr
  obtain rfl:v=.slice ao xs.length cap:=by simpa using hv
  have hz:=hz.h
  cases hq:P.info? E' with
  | none=>simp [hq] at hz
  | some inf =>
    simp [hq] at hz
    have hcap:h'≤cap:=by omega
    have hsz:inf.size=R.sz:=by rw [hn];exact hz.2.1
    have hlen:((xs.take h').drop l').length=h' - l':=by simp;omega
    have hccl:=gk h4
    have hrd:=(ma l' (ma h' h4).1).2
    refine ⟨.slice (if cap=l' then ao else ao.map (·.add (l'*inf.size))) (h' - l') (cap-l'),⟨_,cap-l',_,by rw [hlen],by rw [hlen];omega,by omega,?_,hrd,?_⟩,fun w w' _=>?_⟩
    · intro e
      split at e
      · omega
      · cases ao with
        | none=>have:=h3 rfl;omega
        | some _=>simp at e
    · by_cases hcl:cap=l'
      · left
        have:h'=l':=by omega
        subst this
        apply List.eq_nil_of_length_eq_zero
        simp
      · rw [if_neg hcl]
        rcases h5 with rfl | ⟨b,off,rfl,h5⟩
        · left;simp
        · right
          refine ⟨b,off+l'*R.sz,by rw [hsz];simp [Addr.add_lit],fun j c hj=>?_⟩
          rw [List.getElem?_drop,List.getElem?_take] at hj
          split at hj
          · rw [Nat.add_assoc];exact h5 _ c hj
          · cases hj
    · have hb:(Instr.sliceBounds true xs.length cap (lo.map (ev e)) (hi.map (ev e)) none).run P w'=.ok (l',h',cap) w':=by
        rcases hlo with e1 | ⟨e1,e1'⟩ <;> rcases hhi with e2 | ⟨e2,e2'⟩
        all_goals
          (try rw [e1]);(try rw [e2])
          first
            | (simp [Instr.sliceBounds,Instr.sliceBound,asIntOf,hcap,hlh];done)
            | (have:l'=0:=by omega
               subst this
               simp [Instr.sliceBounds,Instr.sliceBound,asIntOf,hcap,hlh];done)
            | (have:h'=xs.length:=by omega
               subst this
               simp [Instr.sliceBounds,Instr.sliceBound,asIntOf,hcap,hlh];done)
            | (have:l'=0:=by omega
               have:h'=xs.length:=by omega
               subst_vars
               simp [Instr.sliceBounds,Instr.sliceBound,asIntOf])
      unfold execOp
      simp only [hx,Instr.sliceAt,Sem.run_bind,run_underlying ht.h,Result.andThen_ok,Instr.slice,hb,sizeOf,typeInfo,hq,run_program,Sem.run_pure,Option.map_none]
theorem dE {t:TypeId} {lo hi:Option Operand} [SliceT P t E'] {z:List Value} {m bytes:Nat} [ElemT P E' z m bytes] (hn:R.sz=m)
  (hx:ev e x=v) {xs ys:List α} (hr:(ay R E).rd wA [v] xs) {l h:Int} (hlo:(lo.map (ev e)=some (.int .i64 l))∨(lo=none∧l=0)) (hhi:(hi.map (ev e)=some (.int .i64 h))∨(hi=none∧h=xs.length)) (hq:slc xs l h=some ys) (hd:d<n)
  (hK:∀ v',(ay R E).rd wA [v'] ys→EL P n ops K rest (upd e d v') w):EL P n ops K (⟨some d,.slice t x lo hi none,ty,pos,af,none⟩ :: rest) e w:=by
 obtain ⟨v',h1,h2⟩:=qE (P:=P) (d:=some d) (ty:=ty) (pos:=pos) (af:=af) (t:=t) hn hx hr hlo hhi hq
 exact lL (h2 _) hd (hK v' h1)
theorem tU {t:TypeId} {lo hi:Option Operand} [SliceT P t E'] {z:List Value} {m bytes:Nat} [ElemT P E' z m bytes] (hn:R.sz=m)
  (hx:ev e x=v) {xs ys:List α} (hr:(ay R E).rd wA [v] xs) {l h:Int} (hlo:(lo.map (ev e)=some (.int .i64 l))∨(lo=none∧l=0)) (hhi:(hi.map (ev e)=some (.int .i64 h))∨(hi=none∧h=xs.length)) (hq:slc xs l h=some ys) (hd:d<n)
  (hK:∀ v',(ay R E).rd wA [v'] ys→QL P n ops w KQ rest (upd e d v')):QL P n ops w KQ (⟨some d,.slice t x lo hi none,ty,pos,af,none⟩ :: rest) e:=by
 obtain ⟨v',h1,h2⟩:=qE (P:=P) (d:=some d) (ty:=ty) (pos:=pos) (af:=af) (t:=t) hn hx hr hlo hhi hq
 exact pR (h2 _) hd (hK v' h1)
end
section
variable {P:Program} {fn:Func} {n:Nat} {e:Env} {w:World} {R:Ending→World→Prop}
theorem aJ {t:Tmp} (h:fn.results=#[.tmp t]) {v:Value} (ht:e t=v) (hR:R (.returned v) w):Fin P fn n R .ret e w :=
 ⟨v,fun a ha=>by rw [results_tmp h,ha.get,ht],hR⟩
theorem dQ {t u:Tmp} (h:fn.results=#[.tmp t,.tmp u]) {v v2:Value} (ht:e t=v) (hu:e u=v2) (hR:R (.returned (.tuple #[v,v2])) w):Fin P fn n R .ret e w :=
 ⟨_,fun a ha=>by rw [results_tmp2 h,ha.get,ha.get,ht,hu],hR⟩
theorem AA {t u s:Tmp} (h:fn.results=#[.tmp t,.tmp u,.tmp s]) {v v2 v3:Value} (ht:e t=v) (hu:e u=v2) (hs:e s=v3) (hR:R (.returned (.tuple #[v,v2,v3])) w):Fin P fn n R .ret e w:=by
 refine ⟨_,fun a ha=>?_,hR⟩
 have h1:=ha.get t;have h2:=ha.get u;have h3:=ha.get s
 simp only [ht,hu,hs] at h1 h2 h3
 have h1':a.tmps[t]?.getD undef=v:=by simpa using h1
 have h2':a.tmps[u]?.getD undef=v2:=by simpa using h2
 have h3':a.tmps[s]?.getD undef=v3:=by simpa using h3
 simp [results,h,h1',h2',h3']
theorem ee {p:Tmp} {ty:TypeId} {m:Nat} [AggT P ty m] (h:fn.results=#[.cell p ty]) {b off:Nat} {cs:List Value} (hp:e p=.pointer (some ⟨b,off,none⟩)) (hm:cs.length=m) (hc:∀ j c,cs[j]? = some c→w.cell? ⟨b,off+j,none⟩=some c) (hR:R (.returned (.agg cs.toArray)) w) :
  Fin P fn n R .ret e w:=by
 refine ⟨_,fun a ha=>?_,hR⟩
 have h1:a.tmps.getD p undef=.pointer (some ⟨b,off,none⟩):=by rw [ha.get,hp]
 have h1':a.tmps[p]?.getD undef=.pointer (some ⟨b,off,none⟩):=by simpa using h1
 simp [results,h,h1',asAddr,dJ (P:=P) (t:=ty) hm hc]
theorem dB {p t:Tmp} {ty:TypeId} {m:Nat} [AggT P ty m] (h:fn.results=#[.cell p ty,.tmp t]) {b off:Nat} {cs:List Value} {v2:Value} (hp:e p=.pointer (some ⟨b,off,none⟩)) (hm:cs.length=m) (hc:∀ j c,cs[j]? = some c→w.cell? ⟨b,off+j,none⟩=some c) (ht:e t=v2) (hR:R (.returned (.tuple #[.agg cs.toArray,v2])) w) :
  Fin P fn n R .ret e w:=by
 refine ⟨_,fun a ha=>?_,hR⟩
 have h1:a.tmps.getD p undef=.pointer (some ⟨b,off,none⟩):=by rw [ha.get,hp]
 have h1':a.tmps[p]?.getD undef=.pointer (some ⟨b,off,none⟩):=by simpa using h1
 have h2:a.tmps.getD t undef=v2:=by rw [ha.get,ht]
 have h2':a.tmps[t]?.getD undef=v2:=by simpa using h2
 simp [results,h,h1',h2',asAddr,dJ (P:=P) (t:=ty) hm hc]
theorem l7 {p t u:Tmp} {ty:TypeId} {m:Nat} [AggT P ty m] (h:fn.results=#[.cell p ty,.tmp t,.tmp u]) {b off:Nat} {cs:List Value} {v2 v3:Value} (hp:e p=.pointer (some ⟨b,off,none⟩)) (hm:cs.length=m) (hc:∀ j c,cs[j]? = some c→w.cell? ⟨b,off+j,none⟩=some c) (ht:e t=v2) (hu:e u=v3) (hR:R (.returned (.tuple #[.agg cs.toArray,v2,v3])) w) :
  Fin P fn n R .ret e w:=by
 refine ⟨_,fun a ha=>?_,hR⟩
 have h1:a.tmps.getD p undef=.pointer (some ⟨b,off,none⟩):=by rw [ha.get,hp]
 have h1':a.tmps[p]?.getD undef=.pointer (some ⟨b,off,none⟩):=by simpa using h1
 have h2:a.tmps.getD t undef=v2:=by rw [ha.get,ht]
 have h2':a.tmps[t]?.getD undef=v2:=by simpa using h2
 have h3:a.tmps.getD u undef=v3:=by rw [ha.get,hu]
 have h3':a.tmps[u]?.getD undef=v3:=by simpa using h3
 simp [results,h,h1',h2',h3',asAddr,dJ (P:=P) (t:=ty) hm hc]
theorem vG {p0:Tmp} {ty0:TypeId} {m0:Nat} [AggT P ty0 m0] {b0 off0:Nat} {cs0:List Value} {p1:Tmp} {ty1:TypeId} {m1:Nat} [AggT P ty1 m1] {b1 off1:Nat} {cs1:List Value} (h:fn.results=#[.cell p0 ty0,.cell p1 ty1]) (hp0:e p0=.pointer (some ⟨b0,off0,none⟩)) (hm0:cs0.length=m0) (hc0:∀ j c,cs0[j]? = some c→w.cell? ⟨b0,off0+j,none⟩=some c) (hp1:e p1=.pointer (some ⟨b1,off1,none⟩)) (hm1:cs1.length=m1) (hc1:∀ j c,cs1[j]? = some c→w.cell? ⟨b1,off1+j,none⟩=some c) (hR:R (.returned (.tuple #[.agg cs0.toArray,.agg cs1.toArray])) w):Fin P fn n R .ret e w:=by
 refine ⟨_,fun a ha=>?_,hR⟩
 have k0:a.tmps[p0]?.getD undef=.pointer (some ⟨b0,off0,none⟩):=by simpa using (show a.tmps.getD p0 undef=.pointer (some ⟨b0,off0,none⟩) by rw [ha.get,hp0])
 have k1:a.tmps[p1]?.getD undef=.pointer (some ⟨b1,off1,none⟩):=by simpa using (show a.tmps.getD p1 undef=.pointer (some ⟨b1,off1,none⟩) by rw [ha.get,hp1])
 simp [results,h,k0,dJ (P:=P) (t:=ty0) hm0 hc0,k1,dJ (P:=P) (t:=ty1) hm1 hc1,asAddr]
theorem zN {p0:Tmp} {ty0:TypeId} {m0:Nat} [AggT P ty0 m0] {b0 off0:Nat} {cs0:List Value} {p1:Tmp} {ty1:TypeId} {m1:Nat} [AggT P ty1 m1] {b1 off1:Nat} {cs1:List Value} {t2:Tmp} {v2:Value} (h:fn.results=#[.cell p0 ty0,.cell p1 ty1,.tmp t2]) (hp0:e p0=.pointer (some ⟨b0,off0,none⟩)) (hm0:cs0.length=m0) (hc0:∀ j c,cs0[j]? = some c→w.cell? ⟨b0,off0+j,none⟩=some c) (hp1:e p1=.pointer (some ⟨b1,off1,none⟩)) (hm1:cs1.length=m1) (hc1:∀ j c,cs1[j]? = some c→w.cell? ⟨b1,off1+j,none⟩=some c) (ht2:e t2=v2) (hR:R (.returned (.tuple #[.agg cs0.toArray,.agg cs1.toArray,v2])) w):Fin P fn n R .ret e w:=by
 refine ⟨_,fun a ha=>?_,hR⟩
 have k0:a.tmps[p0]?.getD undef=.pointer (some ⟨b0,off0,none⟩):=by simpa using (show a.tmps.getD p0 undef=.pointer (some ⟨b0,off0,none⟩) by rw [ha.get,hp0])
 have k1:a.tmps[p1]?.getD undef=.pointer (some ⟨b1,off1,none⟩):=by simpa using (show a.tmps.getD p1 undef=.pointer (some ⟨b1,off1,none⟩) by rw [ha.get,hp1])
 have k2:a.tmps[t2]?.getD undef=v2:=by simpa using (show a.tmps.getD t2 undef=v2 by rw [ha.get,ht2])
 simp [results,h,k0,dJ (P:=P) (t:=ty0) hm0 hc0,k1,dJ (P:=P) (t:=ty1) hm1 hc1,k2,asAddr]
theorem xo {p0:Tmp} {ty0:TypeId} {m0:Nat} [AggT P ty0 m0] {b0 off0:Nat} {cs0:List Value} {p1:Tmp} {ty1:TypeId} {m1:Nat} [AggT P ty1 m1] {b1 off1:Nat} {cs1:List Value} {t2:Tmp} {v2:Value} {t3:Tmp} {v3:Value} {t4:Tmp} {v4:Value} (h:fn.results=#[.cell p0 ty0,.cell p1 ty1,.tmp t2,.tmp t3,.tmp t4]) (hp0:e p0=.pointer (some ⟨b0,off0,none⟩)) (hm0:cs0.length=m0) (hc0:∀ j c,cs0[j]? = some c→w.cell? ⟨b0,off0+j,none⟩=some c) (hp1:e p1=.pointer (some ⟨b1,off1,none⟩)) (hm1:cs1.length=m1) (hc1:∀ j c,cs1[j]? = some c→w.cell? ⟨b1,off1+j,none⟩=some c) (ht2:e t2=v2) (ht3:e t3=v3) (ht4:e t4=v4) (hR:R (.returned (.tuple #[.agg cs0.toArray,.agg cs1.toArray,v2,v3,v4])) w):Fin P fn n R .ret e w:=by
 refine ⟨_,fun a ha=>?_,hR⟩
 have k0:a.tmps[p0]?.getD undef=.pointer (some ⟨b0,off0,none⟩):=by simpa using (show a.tmps.getD p0 undef=.pointer (some ⟨b0,off0,none⟩) by rw [ha.get,hp0])
 have k1:a.tmps[p1]?.getD undef=.pointer (some ⟨b1,off1,none⟩):=by simpa using (show a.tmps.getD p1 undef=.pointer (some ⟨b1,off1,none⟩) by rw [ha.get,hp1])
 have k2:a.tmps[t2]?.getD undef=v2:=by simpa using (show a.tmps.getD t2 undef=v2 by rw [ha.get,ht2])
 have k3:a.tmps[t3]?.getD undef=v3:=by simpa using (show a.tmps.getD t3 undef=v3 by rw [ha.get,ht3])
 have k4:a.tmps[t4]?.getD undef=v4:=by simpa using (show a.tmps.getD t4 undef=v4 by rw [ha.get,ht4])
 simp [results,h,k0,dJ (P:=P) (t:=ty0) hm0 hc0,k1,dJ (P:=P) (t:=ty1) hm1 hc1,k2,k3,k4,asAddr]
end
def mW:Rep Bool where
 sz:=1
 rd _ cs b:=cs=[.bool b]
 own _ cs b fp:=cs=[.bool b]∧fp=[]
 rd_len h:=by subst h;rfl
 rd_one h:=by subst h;simp [Value.oneCell']
 rd_ext h _:=h
 own_rd h:=h.1
 own_ext h _:=h
 own_lt h:=by rw [h.2];simp
def u8R:Rep Int where
 sz:=1
 rd _ cs n:=cs=[.int .u8 n]
 own _ cs n fp:=cs=[.int .u8 n]∧fp=[]
 rd_len h:=by subst h;rfl
 rd_one h:=by subst h;simp [Value.oneCell']
 rd_ext h _:=h
 own_rd h:=h.1
 own_ext h _:=h
 own_lt h:=by rw [h.2];simp

def lpS {R V S:Type} (s:Sum R V) (f:R→Option S) (g:V→Option S):Option S:=match s with | .inl r=>f r | .inr v=>g v
def lpB {V S:Type} (s:V) (g:V→Option S):Option S:=g s
theorem exA {R V S:Type} {s:Sum R V} {v:V} {f:R→Option S} {g:V→Option S} {r:S} (h:some (Sum.inr v)=some s) (hK:lpS s f g=some r):g v=some r:=by cases h;exact hK
theorem exL {R V S:Type} {s:Sum R V} {q:R} {f:R→Option S} {g:V→Option S} {r:S} (h:some (Sum.inl q)=some s) (hK:lpS s f g=some r):f q=some r:=by cases h;exact hK
theorem exB {V S:Type} {s v:V} {g:V→Option S} {r:S} (h:some v=some s) (hK:lpB s g=some r):g v=some r:=by cases h;exact hK
theorem ai {α β:Type} {f:α→β} {a:α} {b:β} {l:List α} {m:List β} (h:f a=b) (t:l.map f=m):(a :: l).map f=b :: m:=by rw [List.map_cons,h,t]
theorem am {x:Bool} (h:x=true):(!x)=false:=by rw [h];rfl
theorem an {x:Bool} (h:x=false):(!x)=true:=by rw [h];rfl

theorem d5 {P:Program} {n:Nat} {ops:Array Oper} {K:Env→World→Prop} {rest:List Oper} {e:Env} {w:World} {op:Op} {ty:TypeId} {pos:String} {af:Array Edge} {j:Nat} {b':Bool} {d:Nat} (h:(match (ops[j]?).bind (·.dst) with | some t=>e t | none=>undef)=undef) (hd:d<n) (hK:EL P n ops K rest (upd e d undef) w):EL P n ops K (⟨some d,op,ty,pos,af,some (j,b')⟩ :: rest) e w:=by
 intro a ha
 have hy:yielded ops a.tmps j=none:=pD ha h
 unfold wpList
 rw [if_neg (by simp [Region.wanted,hy])]
 exact hK _ (ha.put hd _)
theorem aV {P:Program} {n:Nat} {ops:Array Oper} {KQ:Env→Prop} {rest:List Oper} {e:Env} {w:World} {op:Op} {ty:TypeId} {pos:String} {af:Array Edge} {j:Nat} {b':Bool} {d:Nat} (h:(match (ops[j]?).bind (·.dst) with | some t=>e t | none=>undef)=undef) (hd:d<n) (hK:QL P n ops w KQ rest (upd e d undef)):QL P n ops w KQ (⟨some d,op,ty,pos,af,some (j,b')⟩ :: rest) e:=by
 intro a ha
 have hy:yielded ops a.tmps j=none:=pD ha h
 unfold wpQuiet
 rw [if_neg (by simp [Region.wanted,hy])]
 exact hK _ (ha.put hd _)
theorem oc {w:World} {α:Type} {R:Rep α} {E:TypeId} {v:Value} {xs:List α} (h:(ay R E).rd w [v] xs):v.oneCell'=true:=(ay R E).rd_one h v (List.mem_singleton.2 rfl)
theorem aM {e:Env} {x:Operand} {v:Value} (h:ev e x=v) (h1:v.oneCell'=true):(ev e x).cells=[v].toArray:=by rw [h];exact wj h1
theorem all_cons {α:Type} {p:α→Bool} {a:α} {l:List α} (h:p a=true) (t:l.all p=true):(a :: l).all p=true:=by simp [h,t]
theorem wF {w:World} {b off:Nat} {cs:List Value} (h:∀ j c,cs[j]? = some c→w.cell? ⟨b,off+j,none⟩=some c) (k n:Nat):∀ j c,((cs.drop k).take n)[j]? = some c→w.cell? ⟨b,off+k+j,none⟩=some c:=by
 intro j c hj
 rw [List.getElem?_take] at hj
 split at hj
 ·rw [List.getElem?_drop] at hj;rw [Nat.add_assoc];exact h _ c hj
 ·cases hj
section
variable {w w0 wA:World} {Γ rest:List Asn} {α:Type} {R:Rep α} {E:TypeId} {v:Value} {xs:List α}
theorem Sat.top (i:Nat) {A:Asn} (h:Sat w0 w Γ) (hi:Γ[i]? = some A):Sat w0 w (A :: Γ.eraseIdx i):=by
 refine h.perm ?_
 clear h
 induction Γ generalizing i with
 | nil=>simp at hi
 | cons B Γ ih =>
  cases i with
  | zero=>simp at hi;subst hi;exact .refl _
  | succ i =>
   simp at hi
   exact (List.Perm.cons B (ih i hi)).trans (.swap _ _ _)
theorem Sat.rem (i:Nat) {A:Asn} (h:Sat w0 w Γ) (hi:Γ[i]? = some A):Sat w0 w (Γ.eraseIdx i):=(h.top i hi).tail
theorem Sat.rdAt (i:Nat) {cs:List Value} {x:α} {R:Rep α} (h:Sat w0 w Γ) (hi:Γ[i]? = some (Own R cs x)):R.rd w cs x:=(h.top i hi).rd
theorem Sat.nil (R:Rep α) (E:TypeId) (h:Sat w0 w Γ):Sat w0 w (Own (ay R E) [.slice none 0 0] [] :: Γ):=h.add (.inl ⟨rfl,rfl,rfl⟩)
theorem Sat.bool (h:Sat w0 w Γ) (b:Bool):Sat w0 w (Own mW [.bool b] b :: Γ):=h.add ⟨rfl,rfl⟩
theorem Sat.u8 (h:Sat w0 w Γ) (n:Int):Sat w0 w (Own u8R [.int .u8 n] n :: Γ):=h.add ⟨rfl,rfl⟩
theorem aw {cs:List Value} (h:(ay R E).rd w cs xs):∃ v,cs=[v]:=List.length_eq_one_iff.1 ((ay R E).rd_len h)
theorem bF {cs:List Value} {x:α} (h:R.rd w0 cs x) (hx:Ext w0 w):R.rd w cs x:=R.rd_ext h hx
theorem Sat.up {cs:List Value} {x:α} (hS:Sat w0 w Γ) (h:R.rd w0 cs x):R.rd w cs x:=R.rd_ext h hS.below
theorem Sat.boxAt (i:Nat) {b:Nat} {cs:List Value} (h:Sat w0 w Γ) (hi:Γ[i]? = some (Box b E cs)):∀ j c,cs[j]? = some c→w.cell? ⟨b,j,none⟩=some c:=by
 have h2:=h.top i hi
 exact h2.boxCell
theorem tm {b:Nat} {cs:List Value} (h:∀ j c,cs[j]? = some c→w.cell? ⟨b,j,none⟩=some c) (k n:Nat):∀ j c,((cs.drop k).take n)[j]? = some c→w.cell? ⟨b,k+j,none⟩=some c:=by
 intro j c hj
 rw [List.getElem?_take] at hj
 split at hj
 ·rw [List.getElem?_drop] at hj;exact h _ c hj
 ·cases hj
theorem aB {b:Nat} {cs:List Value} (h:∀ j c,cs[j]? = some c→w.cell? ⟨b,j,none⟩=some c):∀ j c,cs[j]? = some c→w.cell? ⟨b,0+j,none⟩=some c:=by
 intro j c hj;rw [Nat.zero_add];exact h j c hj
theorem Sat.boxRow (i:Nat) {b:Nat} {cs:List Value} (h:Sat w0 w Γ) (hi:Γ[i]? = some (Box b E cs)):m4 w (some ⟨b,0,none⟩) cs :=
 .inr ⟨b,0,rfl,aB (h.boxAt i hi)⟩
theorem Sat.lit1 {b:Nat} {cs:List Value} {y:α} (h:Sat w0 w (Box b E cs :: Own R cs y :: Γ)):Sat w0 w (Own (ay R E) [.slice (some ⟨b,0,none⟩) 1 1] [y] :: Γ):=by
 refine h.join ?_
 rintro f g ⟨rfl,h1⟩ h2
 have hl:=R.rd_len (R.own_rd h2)
 refine .inr ⟨b,1,cs.toArray,cs,g,rfl,h1,by simp,by unfold maxLen;omega,by simp [hl],by simp [← hl],⟨cs,[],g,[],by simp,by simp,h2,rfl,rfl⟩,by simp⟩
theorem xc {ccs:List Value} {ys:List Int} (h:rdL bN w ccs ys):ccs=ys.map (Value.int .i64):=by
 induction ys generalizing ccs with
 | nil=>simpa [rdL] using h
 | cons y ys ih =>
  obtain ⟨ec,r,rfl,h1,h2⟩:=h
  obtain rfl:=ih h2
  have:ec=[.int .i64 y]:=h1
  rw [this];rfl
theorem dq {v:Value} {ys:List Int} (h:(ay bN E).rd w [v] ys):∃ ao c,v=.slice ao ys.length c∧(ao=none→c=0)∧m4 w ao (ys.map (Value.int .i64)):=by
 obtain ⟨ao,cap,ccs,hv,h1,h2,h3,h4,h5⟩:=h
 obtain rfl:=xc h4
 exact ⟨ao,cap,by simpa using hv,h3,h5⟩
end
section
variable {P:Program} {n:Nat} {ops:Array Oper} {K:Env→World→Prop} {rest:List Oper} {e:Env} {w w0 wA:World} {v:Value} {d:Nat} {ty:TypeId} {pos:String} {af:Array Edge} {Γ rΓ:List Asn} {x y:Operand} {α:Type} {R:Rep α} {E E':TypeId}
theorem iV {t:TypeId} [ht:SliceT P t E] {zz:List Value} {m bytes:Nat} [hz:ElemT P E zz m bytes] {xs:List α} (hS:Sat w0 w (Own (ay R E) [v] xs :: Γ)) (hs:ev e x=v)
  (hn:R.sz=m) (hpos:0<m) {k:IntKind} {i:Int} (hi:ev e y=.int k i) {u:α} (h:ix xs i=some u) (hd:d<n)
  (hK:∀ g cap ec,v=.slice (some ⟨g,0,none⟩) xs.length cap→R.rd w ec u→(∀ j c,ec[j]? = some c→w.cell? ⟨g,i.toNat*m+j,none⟩=some c)→EL P n ops K rest (upd e d (.pointer (some ⟨g,i.toNat*m,none⟩))) w) :
  EL P n ops K (⟨some d,.indexAddr t x y,ty,pos,af,none⟩ :: rest) e w:=by
 obtain ⟨k',rfl,hk,rfl⟩:=gi h
 obtain ⟨fp,hv,_⟩:=hS.head
 rcases hv with ⟨_,h2,_⟩ | ⟨g,cap,cur,ccs,f2,hv,hg,h1,h2,h3,h4,h5,rfl⟩
 ·subst h2;simp at hk
 obtain rfl:v=.slice (some ⟨g,0,none⟩) xs.length cap:=by simpa using hv
 obtain ⟨ec,hec,hcc⟩:=mz (fD h5) k' hk
 have hz:=hz.h
 cases hq:P.info? E with
 | none=>simp [hq] at hz
 | some inf =>
  simp [hq] at hz
  have hsz:inf.size=m:=hz.2.1
  refine lL (v:=.pointer (some ⟨g,k'*m,none⟩)) ?_ hd ?_
  ·intro w' _
   unfold execOp
   simp [hs,hi,Instr.indexAt,asIntOf,run_underlying ht.h,sizeOf,typeInfo,hq,hk,Addr.add_lit,hsz]
  ·refine hK g cap ec rfl hec ?_
   intro j c hj
   have h0:=hcc j c hj
   simp only [Int.toNat_natCast]
   rw [cell_of_row w g _ cur E (0,0) hg,← Array.getElem?_toList]
   rw [← h4,List.getElem?_take] at h0
   rw [← hn]
   split at h0
   ·exact h0
   ·cases h0
theorem gO {t:TypeId} {z:List Value} {m bytes:Nat} [ElemT P t z m bytes] (hn:R.sz=m) {ec:List Value} {yv:α} {xs ys:List α} {g ln cap:Nat} (hv:v=.slice (some ⟨g,0,none⟩) ln cap)
  (hS:Sat w0 w (Own R ec yv :: Own (ay R E) [v] xs :: Γ)) {i:Int} (h:sto xs i yv=some ys) (hx:ev e x=.pointer (some ⟨g,i.toNat*m,none⟩)) (hy:(ev e y).cells=ec.toArray)
  (hK:∀ w',Sat w0 w' (Own (ay R E) [v] ys :: Γ)→EL P n ops K rest e w'):EL P n ops K (⟨none,.store t x y,ty,pos,af,none⟩ :: rest) e w:=by
 subst hv
 have h0:0≤i:=by
  unfold sto at h;split at h
  ·rename_i h1;exact h1.1
  ·cases h
 exact w4 hn hS i.toNat (i.toNat*m) (by omega) h rfl hx hy hK
end
class BldT (P:Program) (t:TypeId) (pl:outParam (Array (Nat × Nat))):Prop where
 h:∃ fs,P.underlying t=some (.struct fs)∧∀ w,(fs.mapM (fun f=>do pure (f.offset,← sizeOf f.type)):Sem (Array (Nat × Nat))).run P w=.ok pl w
def n9 (place:Nat→Option (Nat × Nat)) (cells:List Value):List (Nat × List Value)→Option (List Value)
  | []=>some cells
  | (i,v) :: rest=>match place i with
    | none=>none
    | some (off,size)=>bif Nat.beq v.length size&&Nat.ble (off+v.length) cells.length then n9 place (cells.take off++v++cells.drop (off+v.length)) rest else none
theorem sH:∀ (v:List Value) (off k:Nat) (cells:List Value),off+k+v.length≤cells.length →
  ((v.zipIdx k).foldl (fun (cs:Array Value) (c:Value × Nat)=>cs.setIfInBounds (off+c.2) c.1) cells.toArray)=(cells.take (off+k)++v++cells.drop (off+k+v.length)).toArray
 | [],off,k,cells,h=>by simp
 | x :: v,off,k,cells,h=>by
  simp only [List.length_cons] at h
  have hi:off+k<cells.length:=by omega
  simp only [List.zipIdx_cons,List.foldl_cons,List.setIfInBounds_toArray]
  rw [sH v off (k+1) (cells.set (off+k) x) (by simp;omega)]
  have e1:(cells.set (off+k) x).take (off+(k+1))=cells.take (off+k)++[x]:=by
   rw [show off+(k+1)=(off+k)+1 by omega,List.take_set,List.take_succ_eq_append_getElem hi,List.set_append_right _ _ (by simp;omega)]
   simp [show min (off+k) cells.length=off+k by omega]
  have e2:(cells.set (off+k) x).drop (off+(k+1)+v.length)=cells.drop (off+k+(x :: v).length):=by
   rw [List.drop_set_of_lt (by omega)]
   congr 1
   simp only [List.length_cons];omega
  rw [e1,e2];simp
theorem rU (place:Nat→Option (Nat × Nat)):∀ (ps:List (Nat × Value)) (qs:List (Nat × List Value)) (cells:List Value) {r:List Value},ps.map (fun p=>(p.1,p.2.cells))=qs.map (fun q=>(q.1,q.2.toArray))→n9 place cells qs=some r→Instr.fill place cells.toArray ps=some r.toArray
  | [],[],cells,r,_,h=>by simp only [n9,Option.some.injEq] at h;subst h;rfl
  | [],_ :: _,_,_,h,_=>by simp at h
  | _ :: _,[],_,_,h,_=>by simp at h
  | (i,v) :: ps,(j,c) :: qs,cells,r,h,hf=>by
    simp only [List.map_cons,List.cons.injEq,Prod.mk.injEq] at h
    obtain ⟨⟨rfl,hc⟩,ht⟩:=h
    unfold n9 at hf
    unfold Instr.fill
    cases hp:place i with
    | none=>simp [hp] at hf
    | some os =>
      obtain ⟨off,size⟩:=os
      simp only [hp] at hf ⊢
      cases hb:(Nat.beq c.length size&&Nat.ble (off+c.length) cells.length) with
      | false=>rw [hb] at hf;cases hf
      | true =>
        rw [hb] at hf
        simp only [Bool.and_eq_true] at hb
        have h1:=Nat.eq_of_beq_eq_true hb.1
        have h2:=Nat.le_of_ble_eq_true hb.2
        rw [hc]
        have hn:(decide (c.toArray.size≠size)||decide (off+c.toArray.size > cells.toArray.size))=false:=by simp;omega
        rw [if_neg (by simp only [hn];simp)]
        have:=sH c off 0 cells (by omega)
        simp only [Nat.add_zero] at this
        have e:c.toArray.zipIdx.foldl (fun cs (c,j)=>cs.setIfInBounds (off+j) c) cells.toArray=(cells.take off++c++cells.drop (off+c.length)).toArray:=by
          rw [← this]
          simp
        rw [e]
        exact rU place ps qs _ ht hf
theorem bi {P:Program} {e:Env} {w:World} {d:Option Nat} {ty:TypeId} {pos:String} {af:Array Edge} {t:TypeId} {z:List Value} {n bytes:Nat} {pl:Array (Nat × Nat)} [hz:ElemT P t z n bytes] [hb:BldT P t pl] {parts:Array (Nat × Operand)} (qs:List (Nat × List Value)) (r:List Value)
  (hp:parts.toList.map (fun p=>(p.1,(ev e p.2).cells))=qs.map (fun q=>(q.1,q.2.toArray))) (hf:n9 (pl[·]?) z qs=some r):PV P ⟨d,.build t parts,ty,pos,af,none⟩ e w (.agg r.toArray):=fun w' _=>by
 have hz:=hz.h
 obtain ⟨fs,h1,h2⟩:=hb.h
 cases hi:P.info? t with
 | none=>simp [hi] at hz
 | some i =>
 cases hzz:i.zero with
 | none=>simp [hi,hzz] at hz
 | some zv =>
 simp [hi,hzz] at hz
 have hzc:zv.cells=z.toArray:=by rw [← hz.1]
 have hff:=rU (pl[·]?) (parts.toList.map fun p=>(p.1,ev e p.2)) qs z (by rw [List.map_map];exact hp) hf
 unfold execOp
 simp only [Instr.build,zeroValue,typeInfo,hi,hzz,Sem.run_bind,Sem.run_pure,run_program,Result.andThen_ok,run_underlying h1,h2,hzc,Array.toList_map]
 rw [hff]
 simp
theorem cM {e:Env} {i:Nat} {x:Operand} {c:List Value} {l:List (Nat × Operand)} {m:List (Nat × List Value)} (h:(ev e x).cells=c.toArray) (t:l.map (fun p=>(p.1,(ev e p.2).cells))=m.map (fun q=>(q.1,q.2.toArray))) :
  ((i,x) :: l).map (fun p=>(p.1,(ev e p.2).cells))=((i,c) :: m).map (fun q=>(q.1,q.2.toArray)):=by
 rw [List.map_cons,List.map_cons,t,h]
-- int64
instance:PlainT Tryz.prog 2:=⟨_,Tryz.underlying2,trivial⟩
instance:ElemT Tryz.prog 2 [.int .i64 0] 1 8:=⟨by kernel_rfl⟩
-- int
instance:PlainT Tryz.prog 3:=⟨_,Tryz.underlying3,trivial⟩
instance:ElemT Tryz.prog 3 [.int .i64 0] 1 8:=⟨by kernel_rfl⟩
-- bool
instance:PlainT Tryz.prog 4:=⟨_,Tryz.underlying4,trivial⟩
instance:ElemT Tryz.prog 4 [.bool false] 1 1:=⟨by kernel_rfl⟩
-- uint8
instance:PlainT Tryz.prog 5:=⟨_,Tryz.underlying5,trivial⟩
instance:ElemT Tryz.prog 5 [.int .u8 0] 1 1:=⟨by kernel_rfl⟩
-- string
instance:PlainT Tryz.prog 9:=⟨_,Tryz.underlying9,trivial⟩
instance:ElemT Tryz.prog 9 [.string ByteArray.empty] 1 16:=⟨by kernel_rfl⟩
-- uintptr
instance:PlainT Tryz.prog 12:=⟨_,Tryz.underlying12,trivial⟩
instance:ElemT Tryz.prog 12 [.int .u64 0] 1 8:=⟨by kernel_rfl⟩
-- int32
instance:PlainT Tryz.prog 21:=⟨_,Tryz.underlying21,trivial⟩
instance:ElemT Tryz.prog 21 [.int .i32 0] 1 4:=⟨by kernel_rfl⟩
-- []uint8
instance:PlainT Tryz.prog 22:=⟨_,Tryz.underlying22,trivial⟩
instance:SliceT Tryz.prog 22 5:=⟨Tryz.underlying22⟩
instance:ElemT Tryz.prog 22 [.slice none 0 0] 1 24:=⟨by kernel_rfl⟩
-- []impl.Table
instance:PlainT Tryz.prog 24:=⟨_,Tryz.underlying24,trivial⟩
instance:SliceT Tryz.prog 24 131:=⟨Tryz.underlying24⟩
instance:ElemT Tryz.prog 24 [.slice none 0 0] 1 24:=⟨by kernel_rfl⟩
-- struct { Tables []impl.Table }
instance:AggT Tryz.prog 25 1:=⟨⟨_,Tryz.underlying25,trivial⟩,by kernel_rfl⟩
instance:FldT Tryz.prog 25 0 0:=⟨_,_,Tryz.underlying25,rfl,rfl,by kernel_rfl⟩
instance:BldT Tryz.prog 25 #[(0,1)]:=⟨_,Tryz.underlying25,fun w=>by kernel_rfl⟩
instance:ElemT Tryz.prog 25 [.slice none 0 0] 1 24:=⟨by kernel_rfl⟩
-- impl.Database
instance:AggT Tryz.prog 26 1:=⟨⟨_,Tryz.underlying26,trivial⟩,by kernel_rfl⟩
instance:FldT Tryz.prog 26 0 0:=⟨_,_,Tryz.underlying26,rfl,rfl,by kernel_rfl⟩
instance:BldT Tryz.prog 26 #[(0,1)]:=⟨_,Tryz.underlying26,fun w=>by kernel_rfl⟩
instance:ElemT Tryz.prog 26 [.slice none 0 0] 1 24:=⟨by kernel_rfl⟩
-- []impl.Atom
instance:PlainT Tryz.prog 27:=⟨_,Tryz.underlying27,trivial⟩
instance:SliceT Tryz.prog 27 95:=⟨Tryz.underlying27⟩
instance:ElemT Tryz.prog 27 [.slice none 0 0] 1 24:=⟨by kernel_rfl⟩
-- []int
instance:PlainT Tryz.prog 28:=⟨_,Tryz.underlying28,trivial⟩
instance:SliceT Tryz.prog 28 3:=⟨Tryz.underlying28⟩
instance:ElemT Tryz.prog 28 [.slice none 0 0] 1 24:=⟨by kernel_rfl⟩
-- struct { VariableCount int;Atoms []impl.Atom;Output []int }
instance:AggT Tryz.prog 29 3:=⟨⟨_,Tryz.underlying29,trivial⟩,by kernel_rfl⟩
instance:FldT Tryz.prog 29 0 0:=⟨_,_,Tryz.underlying29,rfl,rfl,by kernel_rfl⟩
instance:FldT Tryz.prog 29 1 1:=⟨_,_,Tryz.underlying29,rfl,rfl,by kernel_rfl⟩
instance:FldT Tryz.prog 29 2 2:=⟨_,_,Tryz.underlying29,rfl,rfl,by kernel_rfl⟩
instance:BldT Tryz.prog 29 #[(0,1),(1,1),(2,1)]:=⟨_,Tryz.underlying29,fun w=>by kernel_rfl⟩
instance:ElemT Tryz.prog 29 [.int .i64 0,.slice none 0 0,.slice none 0 0] 3 56:=⟨by kernel_rfl⟩
-- impl.Query
instance:AggT Tryz.prog 30 3:=⟨⟨_,Tryz.underlying30,trivial⟩,by kernel_rfl⟩
instance:FldT Tryz.prog 30 0 0:=⟨_,_,Tryz.underlying30,rfl,rfl,by kernel_rfl⟩
instance:FldT Tryz.prog 30 1 1:=⟨_,_,Tryz.underlying30,rfl,rfl,by kernel_rfl⟩
instance:FldT Tryz.prog 30 2 2:=⟨_,_,Tryz.underlying30,rfl,rfl,by kernel_rfl⟩
instance:BldT Tryz.prog 30 #[(0,1),(1,1),(2,1)]:=⟨_,Tryz.underlying30,fun w=>by kernel_rfl⟩
instance:ElemT Tryz.prog 30 [.int .i64 0,.slice none 0 0,.slice none 0 0] 3 56:=⟨by kernel_rfl⟩
-- [][]int
instance:PlainT Tryz.prog 33:=⟨_,Tryz.underlying33,trivial⟩
instance:SliceT Tryz.prog 33 28:=⟨Tryz.underlying33⟩
instance:ElemT Tryz.prog 33 [.slice none 0 0] 1 24:=⟨by kernel_rfl⟩
-- struct { Arity int;Rows [][]int }
instance:AggT Tryz.prog 38 2:=⟨⟨_,Tryz.underlying38,trivial⟩,by kernel_rfl⟩
instance:FldT Tryz.prog 38 0 0:=⟨_,_,Tryz.underlying38,rfl,rfl,by kernel_rfl⟩
instance:FldT Tryz.prog 38 1 1:=⟨_,_,Tryz.underlying38,rfl,rfl,by kernel_rfl⟩
instance:BldT Tryz.prog 38 #[(0,1),(1,1)]:=⟨_,Tryz.underlying38,fun w=>by kernel_rfl⟩
instance:ElemT Tryz.prog 38 [.int .i64 0,.slice none 0 0] 2 32:=⟨by kernel_rfl⟩
-- impl.Relation
instance:AggT Tryz.prog 39 2:=⟨⟨_,Tryz.underlying39,trivial⟩,by kernel_rfl⟩
instance:FldT Tryz.prog 39 0 0:=⟨_,_,Tryz.underlying39,rfl,rfl,by kernel_rfl⟩
instance:FldT Tryz.prog 39 1 1:=⟨_,_,Tryz.underlying39,rfl,rfl,by kernel_rfl⟩
instance:BldT Tryz.prog 39 #[(0,1),(1,1)]:=⟨_,Tryz.underlying39,fun w=>by kernel_rfl⟩
instance:ElemT Tryz.prog 39 [.int .i64 0,.slice none 0 0] 2 32:=⟨by kernel_rfl⟩
-- []impl.FactorNode
instance:PlainT Tryz.prog 44:=⟨_,Tryz.underlying44,trivial⟩
instance:SliceT Tryz.prog 44 72:=⟨Tryz.underlying44⟩
instance:ElemT Tryz.prog 44 [.slice none 0 0] 1 24:=⟨by kernel_rfl⟩
-- struct { Order []int;Nodes []impl.FactorNode }
instance:AggT Tryz.prog 45 2:=⟨⟨_,Tryz.underlying45,trivial⟩,by kernel_rfl⟩
instance:FldT Tryz.prog 45 0 0:=⟨_,_,Tryz.underlying45,rfl,rfl,by kernel_rfl⟩
instance:FldT Tryz.prog 45 1 1:=⟨_,_,Tryz.underlying45,rfl,rfl,by kernel_rfl⟩
instance:BldT Tryz.prog 45 #[(0,1),(1,1)]:=⟨_,Tryz.underlying45,fun w=>by kernel_rfl⟩
instance:ElemT Tryz.prog 45 [.slice none 0 0,.slice none 0 0] 2 48:=⟨by kernel_rfl⟩
-- impl.Factorization
instance:AggT Tryz.prog 46 2:=⟨⟨_,Tryz.underlying46,trivial⟩,by kernel_rfl⟩
instance:FldT Tryz.prog 46 0 0:=⟨_,_,Tryz.underlying46,rfl,rfl,by kernel_rfl⟩
instance:FldT Tryz.prog 46 1 1:=⟨_,_,Tryz.underlying46,rfl,rfl,by kernel_rfl⟩
instance:BldT Tryz.prog 46 #[(0,1),(1,1)]:=⟨_,Tryz.underlying46,fun w=>by kernel_rfl⟩
instance:ElemT Tryz.prog 46 [.slice none 0 0,.slice none 0 0] 2 48:=⟨by kernel_rfl⟩
-- []impl.Trie
instance:PlainT Tryz.prog 60:=⟨_,Tryz.underlying60,trivial⟩
instance:SliceT Tryz.prog 60 90:=⟨Tryz.underlying60⟩
instance:ElemT Tryz.prog 60 [.slice none 0 0] 1 24:=⟨by kernel_rfl⟩
-- struct { Values []int;Children []int }
instance:AggT Tryz.prog 71 2:=⟨⟨_,Tryz.underlying71,trivial⟩,by kernel_rfl⟩
instance:FldT Tryz.prog 71 0 0:=⟨_,_,Tryz.underlying71,rfl,rfl,by kernel_rfl⟩
instance:FldT Tryz.prog 71 1 1:=⟨_,_,Tryz.underlying71,rfl,rfl,by kernel_rfl⟩
instance:BldT Tryz.prog 71 #[(0,1),(1,1)]:=⟨_,Tryz.underlying71,fun w=>by kernel_rfl⟩
instance:ElemT Tryz.prog 71 [.slice none 0 0,.slice none 0 0] 2 48:=⟨by kernel_rfl⟩
-- impl.FactorNode
instance:AggT Tryz.prog 72 2:=⟨⟨_,Tryz.underlying72,trivial⟩,by kernel_rfl⟩
instance:FldT Tryz.prog 72 0 0:=⟨_,_,Tryz.underlying72,rfl,rfl,by kernel_rfl⟩
instance:FldT Tryz.prog 72 1 1:=⟨_,_,Tryz.underlying72,rfl,rfl,by kernel_rfl⟩
instance:BldT Tryz.prog 72 #[(0,1),(1,1)]:=⟨_,Tryz.underlying72,fun w=>by kernel_rfl⟩
instance:ElemT Tryz.prog 72 [.slice none 0 0,.slice none 0 0] 2 48:=⟨by kernel_rfl⟩
-- struct { b []uint8;i int;h int }
instance:AggT Tryz.prog 76 3:=⟨⟨_,Tryz.underlying76,trivial⟩,by kernel_rfl⟩
instance:FldT Tryz.prog 76 0 0:=⟨_,_,Tryz.underlying76,rfl,rfl,by kernel_rfl⟩
instance:FldT Tryz.prog 76 1 1:=⟨_,_,Tryz.underlying76,rfl,rfl,by kernel_rfl⟩
instance:FldT Tryz.prog 76 2 2:=⟨_,_,Tryz.underlying76,rfl,rfl,by kernel_rfl⟩
instance:BldT Tryz.prog 76 #[(0,1),(1,1),(2,1)]:=⟨_,Tryz.underlying76,fun w=>by kernel_rfl⟩
instance:ElemT Tryz.prog 76 [.slice none 0 0,.int .i64 0,.int .i64 0] 3 40:=⟨by kernel_rfl⟩
-- spec.l1Cur
instance:AggT Tryz.prog 77 3:=⟨⟨_,Tryz.underlying77,trivial⟩,by kernel_rfl⟩
instance:FldT Tryz.prog 77 0 0:=⟨_,_,Tryz.underlying77,rfl,rfl,by kernel_rfl⟩
instance:FldT Tryz.prog 77 1 1:=⟨_,_,Tryz.underlying77,rfl,rfl,by kernel_rfl⟩
instance:FldT Tryz.prog 77 2 2:=⟨_,_,Tryz.underlying77,rfl,rfl,by kernel_rfl⟩
instance:BldT Tryz.prog 77 #[(0,1),(1,1),(2,1)]:=⟨_,Tryz.underlying77,fun w=>by kernel_rfl⟩
instance:ElemT Tryz.prog 77 [.slice none 0 0,.int .i64 0,.int .i64 0] 3 40:=⟨by kernel_rfl⟩
-- impl.Trie
instance:AggT Tryz.prog 90 2:=⟨⟨_,Tryz.underlying90,trivial⟩,by kernel_rfl⟩
instance:FldT Tryz.prog 90 0 0:=⟨_,_,Tryz.underlying90,rfl,rfl,by kernel_rfl⟩
instance:FldT Tryz.prog 90 1 1:=⟨_,_,Tryz.underlying90,rfl,rfl,by kernel_rfl⟩
instance:BldT Tryz.prog 90 #[(0,1),(1,1)]:=⟨_,Tryz.underlying90,fun w=>by kernel_rfl⟩
instance:ElemT Tryz.prog 90 [.int .i64 0,.slice none 0 0] 2 32:=⟨by kernel_rfl⟩
-- struct { Relation string;Vars []int }
instance:AggT Tryz.prog 94 2:=⟨⟨_,Tryz.underlying94,trivial⟩,by kernel_rfl⟩
instance:FldT Tryz.prog 94 0 0:=⟨_,_,Tryz.underlying94,rfl,rfl,by kernel_rfl⟩
instance:FldT Tryz.prog 94 1 1:=⟨_,_,Tryz.underlying94,rfl,rfl,by kernel_rfl⟩
instance:BldT Tryz.prog 94 #[(0,1),(1,1)]:=⟨_,Tryz.underlying94,fun w=>by kernel_rfl⟩
instance:ElemT Tryz.prog 94 [.string ByteArray.empty,.slice none 0 0] 2 40:=⟨by kernel_rfl⟩
-- impl.Atom
instance:AggT Tryz.prog 95 2:=⟨⟨_,Tryz.underlying95,trivial⟩,by kernel_rfl⟩
instance:FldT Tryz.prog 95 0 0:=⟨_,_,Tryz.underlying95,rfl,rfl,by kernel_rfl⟩
instance:FldT Tryz.prog 95 1 1:=⟨_,_,Tryz.underlying95,rfl,rfl,by kernel_rfl⟩
instance:BldT Tryz.prog 95 #[(0,1),(1,1)]:=⟨_,Tryz.underlying95,fun w=>by kernel_rfl⟩
instance:ElemT Tryz.prog 95 [.string ByteArray.empty,.slice none 0 0] 2 40:=⟨by kernel_rfl⟩
-- struct { nodes []impl.FactorNode }
instance:AggT Tryz.prog 103 1:=⟨⟨_,Tryz.underlying103,trivial⟩,by kernel_rfl⟩
instance:FldT Tryz.prog 103 0 0:=⟨_,_,Tryz.underlying103,rfl,rfl,by kernel_rfl⟩
instance:BldT Tryz.prog 103 #[(0,1)]:=⟨_,Tryz.underlying103,fun w=>by kernel_rfl⟩
instance:ElemT Tryz.prog 103 [.slice none 0 0] 1 24:=⟨by kernel_rfl⟩
-- impl.builder
instance:AggT Tryz.prog 104 1:=⟨⟨_,Tryz.underlying104,trivial⟩,by kernel_rfl⟩
instance:FldT Tryz.prog 104 0 0:=⟨_,_,Tryz.underlying104,rfl,rfl,by kernel_rfl⟩
instance:BldT Tryz.prog 104 #[(0,1)]:=⟨_,Tryz.underlying104,fun w=>by kernel_rfl⟩
instance:ElemT Tryz.prog 104 [.slice none 0 0] 1 24:=⟨by kernel_rfl⟩
-- uint
instance:PlainT Tryz.prog 113:=⟨_,Tryz.underlying113,trivial⟩
instance:ElemT Tryz.prog 113 [.int .u64 0] 1 8:=⟨by kernel_rfl⟩
-- []string
instance:PlainT Tryz.prog 128:=⟨_,Tryz.underlying128,trivial⟩
instance:SliceT Tryz.prog 128 9:=⟨Tryz.underlying128⟩
instance:ElemT Tryz.prog 128 [.slice none 0 0] 1 24:=⟨by kernel_rfl⟩
-- struct { Name string;Relation impl.Relation }
instance:AggT Tryz.prog 130 3:=⟨⟨_,Tryz.underlying130,trivial⟩,by kernel_rfl⟩
instance:FldT Tryz.prog 130 0 0:=⟨_,_,Tryz.underlying130,rfl,rfl,by kernel_rfl⟩
instance:FldT Tryz.prog 130 1 1:=⟨_,_,Tryz.underlying130,rfl,rfl,by kernel_rfl⟩
instance:BldT Tryz.prog 130 #[(0,1),(1,2)]:=⟨_,Tryz.underlying130,fun w=>by kernel_rfl⟩
instance:ElemT Tryz.prog 130 [.string ByteArray.empty,.int .i64 0,.slice none 0 0] 3 48:=⟨by kernel_rfl⟩
-- impl.Table
instance:AggT Tryz.prog 131 3:=⟨⟨_,Tryz.underlying131,trivial⟩,by kernel_rfl⟩
instance:FldT Tryz.prog 131 0 0:=⟨_,_,Tryz.underlying131,rfl,rfl,by kernel_rfl⟩
instance:FldT Tryz.prog 131 1 1:=⟨_,_,Tryz.underlying131,rfl,rfl,by kernel_rfl⟩
instance:BldT Tryz.prog 131 #[(0,1),(1,2)]:=⟨_,Tryz.underlying131,fun w=>by kernel_rfl⟩
instance:ElemT Tryz.prog 131 [.string ByteArray.empty,.int .i64 0,.slice none 0 0] 3 48:=⟨by kernel_rfl⟩
-- []bool
instance:PlainT Tryz.prog 147:=⟨_,Tryz.underlying147,trivial⟩
instance:SliceT Tryz.prog 147 4:=⟨Tryz.underlying147⟩
instance:ElemT Tryz.prog 147 [.slice none 0 0] 1 24:=⟨by kernel_rfl⟩
-- uint32
instance:PlainT Tryz.prog 160:=⟨_,Tryz.underlying160,trivial⟩
instance:ElemT Tryz.prog 160 [.int .u32 0] 1 4:=⟨by kernel_rfl⟩
def AL (P:Program) (n:Nat) (ops:Array Oper) (X:List Nat) (C:World→Prop) (K:Env→World→Prop):Nat→Array Bool→Env→World→Prop
 | 0,L,e,w=>Region.ready .any ops L=[]∧K e w
 | f+1,L,e,w=>(Region.ready .any ops L=[]→K e w) ∧
  ∀ i∈Region.ready .any ops L,∃ o,ops[i]? = some o∧EL P n ops (fun e' w'=>(X.contains i=true→C w')∧AL P n ops X C K f (L.setIfInBounds i true) e' w') [o] e w

section
variable {P:Program} {n:Nat} {ops:Array Oper} {X:List Nat} {C:World→Prop} {K:Env→World→Prop}
theorem zw {o:Oper} {a:Act} {w:World} {N N2:Act→World→Prop} {K1 K2:Env→World→Prop} (h:∀ a w,N a w→N2 a w) (hh:o.wp P a w N (nrm n K1)):o.wp P a w N2 (nrm n K2):=by
  unfold Oper.wp at *
  generalize (execOp a.eval o).run P w=r at *
  cases r with
  | ok m w' =>
    cases m <;> simp only [Oper.upon] at hh ⊢ <;>
      first
        | exact h _ _ hh
        | exact Calls.mono hh (fun e w'' he=>by
            cases e with
            | returned v=>exact h _ _ he
            | panicked ch=>exact absurd he.1 (by simp)
            | outgrown=>obtain ⟨_,_,hx,_⟩:=he;exact absurd hx (by simp))
        | exact Rows.mono hh (fun _ _ he=>h _ _ he)
  | halt x w' =>
    cases x <;> simp only [Oper.upon] at hh ⊢
    exact absurd hh.1 (by simp)
theorem tC {K:Env→World→Prop}:¬ LetsOut (nrm n K):=by
 rintro ⟨_,_,h,_⟩;exact absurd h (by simp)
theorem AL.any:∀ (f:Nat) (L:Array Bool) (e:Env) (a:Act) (w:World),Mt n e a→AL P n ops X C K f L e w→wpAny P .any ops (nrm n K) f L a w
 | 0,_,e,a,_,ha,h=>⟨h.1,rfl,e,ha,h.2⟩
 | f+1,L,e,a,w,ha,h=>by
  refine ⟨fun h0=>⟨rfl,e,ha,h.1 h0⟩,fun i hi=>?_⟩
  obtain ⟨o,ho,hE⟩:=h.2 i hi
  have:=hE a ha
  unfold wpOp
  simp only [ho]
  unfold wpList at this
  have key:∀ a w,wpList P ops (nrm n fun e' w'=>(X.contains i=true→C w')∧AL P n ops X C K f (L.setIfInBounds i true) e' w') [] a w→wpAny P .any ops (nrm n K) f (L.setIfInBounds i true) a w:=by
   rintro a w ⟨_,e',ha',_,h2⟩
   exact AL.any f _ e' a w ha' h2
  split
  ·rename_i hw
   rw [if_pos hw] at this
   rcases this with h1 | ⟨_,h1⟩
   ·exact .inl (zw key h1)
   ·exact absurd h1 tC
  ·rename_i hw
   rw [if_neg hw] at this
   exact key _ _ this
theorem cr {id:Nat} {l:List Oper} {Q:Exit→Env→World→Prop} {e:Env} {w:World} (X:List Nat) (C:World→Prop) (hm:P.follows .mixedOrders=true)
  (hx:∀ w',Ext w w'→AL P n l.toArray X C (fun e w=>Q .normal e w) l.length (Array.replicate l.length false) e w'):CW P n (.region id l.toArray true) Q e w:=by
 intro a ha
 have h2:=hx { w with drawn:=w.drawn+1 } ⟨rfl,rfl,rfl,Nat.le_refl _,fun _ _=>rfl⟩
 have:=AL.any _ _ _ a _ ha h2
 refine wp_mono (wp_region_any (Q:=nrm n fun e w=>Q .normal e w) hm (by simpa using this)) ?_
 rintro x a w ⟨rfl,e,he,hk⟩
 exact ⟨e,he,hk⟩

def SV (P:Program) (n:Nat) (ops:Array Oper) (C:World→Prop) (o:Oper) (e:Env) (v:Value):Prop :=
 ∀ a,Mt n e a→(Region.wanted o (yielded ops a.tmps)=true∧∀ w',C w'→(execOp a.eval o).run P w'=.ok (.value v) w')∨(Region.wanted o (yielded ops a.tmps)=false∧v=undef)
def ni (ops:Array Oper) (X:List Nat) (L:Array Bool) (i:Nat) (o:Oper):Bool :=
 (List.range ops.size).all fun j=>Nat.beq j i||L.getD j true||(match ops[j]? with
  | some oj=>oj.after.any (fun e=>Region.binds .any e&&Nat.beq e.on i)||(o.apart ops oj&&X.contains j)
  | none=>true)
theorem kE {L:Array Bool} {i:Nat}:i∈Region.ready .any ops L↔L.getD i true=false∧∃ o,ops[i]? = some o∧∀ e∈o.after,Region.binds .any e=true→L.getD e.on false=true:=by
 unfold Region.ready
 simp only [List.mem_filter,List.mem_range,Bool.and_eq_true,Bool.not_eq_true']
 constructor
 ·rintro ⟨h1,h2,h3⟩
  refine ⟨h2,ops[i],Array.getElem?_eq_getElem h1,fun e he hb=>?_⟩
  rw [Array.getElem?_eq_getElem h1] at h3
  simp only [Option.map_some,Option.getD_some,Array.all_eq_true_iff_forall_mem] at h3
  have:=h3 e he
  simpa [hb] using this
 ·rintro ⟨h2,o,h1,h3⟩
  obtain ⟨hlt,rfl⟩:=Array.getElem?_eq_some_iff.1 h1
  refine ⟨hlt,h2,?_⟩
  rw [h1]
  simp only [Option.map_some,Option.getD_some,Array.all_eq_true_iff_forall_mem]
  intro e he
  by_cases hb:Region.binds .any e=true
  ·simp [h3 e he hb]
  ·simp [hb]
theorem lJ {L:Array Bool} {i j:Nat} {d:Bool} (h:j≠i):(L.setIfInBounds i true).getD j d=L.getD j d:=by
 simp [Array.getElem?_setIfInBounds_ne (Ne.symm h)]
theorem ux {L:Array Bool} {i j:Nat} (h:L.getD j false=true):(L.setIfInBounds i true).getD j false=true:=by
 by_cases hj:j=i
 ·subst hj
  have:j<L.size:=by
   rcases Nat.lt_or_ge j L.size with h1 | h1
   ·exact h1
   ·simp [Array.getElem?_eq_none h1] at h
  simp [this]
 ·rw [lJ hj];exact h
theorem kz {L:Array Bool} {i j:Nat} (hij:j≠i) (h:j∈Region.ready .any ops L):j∈Region.ready .any ops (L.setIfInBounds i true):=by
 obtain ⟨h1,o,h2,h3⟩:=kE.1 h
 exact kE.2 ⟨by rw [lJ hij];exact h1,o,h2,fun e he hb=>ux (h3 e he hb)⟩
theorem tg (L:Array Bool) (i j:Nat):(L.setIfInBounds i true).setIfInBounds j true=(L.setIfInBounds j true).setIfInBounds i true:=by
 by_cases h:i=j
 ·subst h;rfl
 ·exact Array.setIfInBounds_comm _ _ h
theorem xL {L:Array Bool} {i j:Nat} {o:Oper} (h:ni ops X L i o=true):ni ops X (L.setIfInBounds j true) i o=true:=by
 unfold ni at *
 rw [List.all_eq_true] at *
 intro k hk
 have:=h k hk
 by_cases hkj:k=j
 ·subst hkj
  have:k<ops.size:=by simpa using hk
  by_cases hkl:k<L.size
  ·simp [hkl]
  ·have hn:L[k]? = none:=Array.getElem?_eq_none (by omega)
   simp [hkl]
 ·rw [lJ hkj];exact this
def vR (a:Act):Env:=fun t=>a.tmps.getD t undef
theorem xN {a:Act} (h1:a.tmps.size=n) (h2:a.defers=[]):Mt n (vR a) a:=⟨h1,h2,fun _=>rfl⟩
theorem Mt.uniq {a:Act} {e e':Env} (h:Mt n e a) (h':Mt n e' a):e=e':=by funext t;rw [← h.get,← h'.get]
theorem ua (a:Act) (d:Option Nat) (v:Value):(a.put d v).tmps.size=a.tmps.size:=by cases d <;> simp [Act.put]
theorem vi (a:Act) (d:Option Nat) (v:Value):(a.put d v).defers=a.defers:=by cases d <;> rfl
theorem pf {a b:Act} (h:∀ t,a.tmps.getD t undef=b.tmps.getD t undef) (hs:a.tmps.size=b.tmps.size):a.tmps=b.tmps:=by
 apply Array.ext hs
 intro i h1 h2
 have:=h i
 simpa [Array.getD,h1,h2] using this
theorem uc {o:Oper} {a a':Act} {N N2:Act→World→Prop} {K1 K2:Env→World→Prop} (h:∀ u w,N (a'.put o.dst u) w→N2 (a.put o.dst u) w) (hd:∀ d u w,¬ N (({ a' with defers:=d :: a'.defers }:Act).put o.dst u) w) {r:Result Next}
    (hh:o.upon P a' N (nrm n K1) r):o.upon P a N2 (nrm n K2) r:=by
  cases r with
  | ok m w' =>
    cases m <;> simp only [Oper.upon] at hh ⊢ <;>
      first
        | exact h _ _ hh
        | exact absurd hh (hd _ _ _)
        | exact Calls.mono hh (fun e w'' he=>by
            cases e with
            | returned v=>exact h _ _ he
            | panicked ch=>exact absurd he.1 (by simp)
            | outgrown=>obtain ⟨_,_,hx,_⟩:=he;exact absurd hx (by simp))
        | exact Rows.mono hh (fun _ _ he=>h _ _ he)
  | halt x w' =>
    cases x <;> simp only [Oper.upon] at hh ⊢
    exact absurd hh.1 (by simp)
def lO (ops:Array Oper):Bool:=ops.all fun o=>match o.op with | .select ..=>false | _=>true
theorem oo (h:lO ops=true) {i:Nat} {o:Oper} (hi:ops[i]? = some o):∀ cs b,o.op≠.select cs b:=by
 intro cs b e
 unfold lO at h
 rw [Array.all_eq_true_iff_forall_mem] at h
 have:=h o (Array.mem_of_getElem? hi)
 simp [e] at this
theorem xZ (hsel:lO ops=true) (i:Nat) {o:Oper} {d:Nat} {v:Value} (hi:ops[i]? = some o) (hdst:o.dst=some d) (hdn:d<n) :
  ∀ (f:Nat) (L:Array Bool) (e:Env) (w:World),C w→ni ops X L i o=true→i∈Region.ready .any ops L→SV P n ops C o e v→AL P n ops X C K f (L.setIfInBounds i true) (upd e d v) w→AL P n ops X C K (f+1) L e w:=by
 intro f
 induction f with
 | zero =>
  intro L e w hC hf hr hy H
  refine ⟨fun h=>(by rw [h] at hr;cases hr),fun j hj=>?_⟩
  by_cases hji:j=i
  ·subst hji
   refine ⟨o,hi,fun a ha=>?_⟩
   unfold wpList
   rcases hy a ha with ⟨hw,hv⟩ | ⟨hw,rfl⟩
   ·rw [if_pos hw]
    refine .inl ?_
    unfold Oper.wp
    rw [hv w hC]
    simp only [Oper.upon,hdst]
    exact ⟨rfl,_,ha.put hdn v,fun _=>hC,H⟩
   ·rw [if_neg (by simp [hw])]
    rw [hdst]
    exact ⟨rfl,_,ha.put hdn _,fun _=>hC,H⟩
  ·have:=kz (i:=i) hji hj
   rw [H.1] at this;cases this
 | succ f ih =>
  intro L e w hC hf hr hy H
  refine ⟨fun h=>(by rw [h] at hr;cases hr),fun j hj=>?_⟩
  by_cases hji:j=i
  ·subst hji
   refine ⟨o,hi,fun a ha=>?_⟩
   unfold wpList
   rcases hy a ha with ⟨hw,hv⟩ | ⟨hw,rfl⟩
   ·rw [if_pos hw]
    refine .inl ?_
    unfold Oper.wp
    rw [hv w hC]
    simp only [Oper.upon,hdst]
    exact ⟨rfl,_,ha.put hdn v,fun _=>hC,H⟩
   ·rw [if_neg (by simp [hw])]
    rw [hdst]
    exact ⟨rfl,_,ha.put hdn _,fun _=>hC,H⟩
  ·obtain ⟨oj,hoj,hE⟩:=H.2 j (kz hji hj)
   have hjL:=(kE.1 hj)
   have hiL:=(kE.1 hr)
   have hap:o.apart ops oj=true∧X.contains j=true:=by
    have h1:=hf
    unfold ni at h1
    rw [List.all_eq_true] at h1
    have h2:=h1 j (by simp [(Array.getElem?_eq_some_iff.1 hoj).1])
    have hb:Nat.beq j i=false:=nC hji
    simp only [hb,hjL.1,hoj,Bool.false_or,Bool.or_eq_true,Bool.and_eq_true] at h2
    rcases h2 with h2 | h2
    ·exfalso
     obtain ⟨_,h3,h4⟩:=hjL.2
     rw [hoj] at h3;obtain rfl:=Option.some.inj h3
     rw [Array.any_eq_true'] at h2
     obtain ⟨ed,hm,h5⟩:=h2
     simp only [Bool.and_eq_true] at h5
     have h6:=h4 ed hm h5.1
     have h7:ed.on=i:=Nat.eq_of_beq_eq_true h5.2
     rw [h7] at h6
     have:=hiL.1
     cases hx:L[i]? with
     | none=>simp [Array.getD_eq_getD_getElem?,hx] at this
     | some b=>simp [Array.getD_eq_getD_getElem?,hx] at this h6;simp [this] at h6
    ·exact h2
   obtain ⟨h1,h2,h3⟩:=Oper.apart_spec hap.1
   have hso:=oo hsel hi
   have hsj:=oo hsel hoj
   refine ⟨oj,hoj,fun a ha=>?_⟩
   have h4:=hE _ (ha.put hdn v)
   have key:∀ u w',nrm n (fun e' w'=>(X.contains j=true→C w')∧AL P n ops X C K f ((L.setIfInBounds i true).setIfInBounds j true) e' w') .normal ((a.put (some d) v).put oj.dst u) w' →
     nrm n (fun e' w'=>(X.contains j=true→C w')∧AL P n ops X C K (f+1) (L.setIfInBounds j true) e' w') .normal (a.put oj.dst u) w':=by
    rintro u w' ⟨_,e1,he1,hc1,hA1⟩
    have hm2:Mt n (vR (a.put oj.dst u)) (a.put oj.dst u):=xN (by rw [ua,ha.size]) (by rw [vi,ha.defers])
    have hcm:(a.put (some d) v).put oj.dst u=(a.put oj.dst u).put (some d) v:=Act.put_comm a v u (fun x hx=>by
     have:=h2 d hdst
     simp only [Option.some.injEq] at hx;subst hx;exact this)
    rw [hcm] at he1
    obtain rfl:=he1.uniq (hm2.put hdn v)
    refine ⟨rfl,_,hm2,hc1,ih _ _ _ (hc1 hap.2) (xL hf) (kz (Ne.symm hji) hr) ?_ (by rw [← tg];exact hA1)⟩
    intro b hb
    have hbt:b.tmps=(a.put oj.dst u).tmps:=pf (fun t=>by rw [hb.get t];rfl) (by rw [hb.size,hm2.size])
    have hbe:b.eval=(a.put oj.dst u).eval:=by rw [hb.eval,hm2.eval]
    rw [hbt,hbe,execOp_put o hso a oj.dst u h3,wanted_put o a oj.dst u h3]
    exact hy a ha
   unfold wpList at h4 ⊢
   have hwe:=wanted_put (ops:=ops) oj a (some d) v (fun x hx=>by simp only [Option.some.injEq] at hx;subst hx;exact h1 d hdst)
   have hxe:=execOp_put oj hsj a (some d) v (fun x hx=>by simp only [Option.some.injEq] at hx;subst hx;exact h1 d hdst)
   rw [hwe] at h4
   split
   ·rename_i hw
    rw [if_pos hw] at h4
    rcases h4 with h5 | ⟨_,h5⟩
    ·refine .inl ?_
     unfold Oper.wp at h5 ⊢
     rw [hxe] at h5
     refine uc key ?_ h5
     rintro dd u w' ⟨_,e1,he1,_⟩
     have:=he1.defers
     cases hdj:oj.dst <;> simp [Act.put,hdj] at this
    ·exact absurd h5 tC
   ·rename_i hw
    rw [if_neg hw] at h4
    exact key _ _ h4
def pO (ops:Array Oper) (X T:List Nat) (L:Array Bool) (i:Nat) (o:Oper):Bool :=
 (List.range ops.size).all fun j=>Nat.beq j i||(match ops[j]? with
  | some oj=>if T.contains j then !L.getD j true&&oj.after.any (fun e=>Region.binds .any e&&Nat.blt e.on ops.size&&(Nat.beq e.on i||T.contains e.on)) else L.getD j true||(o.apart ops oj&&X.contains j)
  | none=>true)
theorem wd {T:List Nat} {L:Array Bool} {i j:Nat} {o:Oper} (hT:T.contains j=false) (h:pO ops X T L i o=true):pO ops X T (L.setIfInBounds j true) i o=true:=by
 unfold pO at *
 rw [List.all_eq_true] at *
 intro k hk
 have:=h k hk
 by_cases hkj:k=j
 ·subst hkj
  have hlt:k<ops.size:=by simpa using hk
  rw [Array.getElem?_eq_getElem hlt]
  dsimp only
  rw [hT,if_neg (by decide),Bool.or_eq_true]
  refine .inr ?_
  by_cases hkl:k<L.size
  ·simp [hkl]
  ·have hn:L[k]? = none:=Array.getElem?_eq_none (by omega)
   simp [hkl]
 ·rw [lJ hkj];exact this
theorem xq (T:List Nat) (hsel:lO ops=true) (i:Nat) {o:Oper} {d:Nat} {v:Value} (hi:ops[i]? = some o) (hdst:o.dst=some d) (hdn:d<n) :
  ∀ (f:Nat) (L:Array Bool) (e:Env) (w:World),C w→pO ops X T L i o=true→i∈Region.ready .any ops L→SV P n ops C o e v→AL P n ops X C K f (L.setIfInBounds i true) (upd e d v) w→AL P n ops X C K (f+1) L e w:=by
 intro f
 induction f with
 | zero =>
  intro L e w hC hf hr hy H
  refine ⟨fun h=>(by rw [h] at hr;cases hr),fun j hj=>?_⟩
  by_cases hji:j=i
  ·subst hji
   refine ⟨o,hi,fun a ha=>?_⟩
   unfold wpList
   rcases hy a ha with ⟨hw,hv⟩ | ⟨hw,rfl⟩
   ·rw [if_pos hw]
    refine .inl ?_
    unfold Oper.wp
    rw [hv w hC]
    simp only [Oper.upon,hdst]
    exact ⟨rfl,_,ha.put hdn v,fun _=>hC,H⟩
   ·rw [if_neg (by simp [hw])]
    rw [hdst]
    exact ⟨rfl,_,ha.put hdn _,fun _=>hC,H⟩
  ·have:=kz (i:=i) hji hj
   rw [H.1] at this;cases this
 | succ f ih =>
  intro L e w hC hf hr hy H
  refine ⟨fun h=>(by rw [h] at hr;cases hr),fun j hj=>?_⟩
  by_cases hji:j=i
  ·subst hji
   refine ⟨o,hi,fun a ha=>?_⟩
   unfold wpList
   rcases hy a ha with ⟨hw,hv⟩ | ⟨hw,rfl⟩
   ·rw [if_pos hw]
    refine .inl ?_
    unfold Oper.wp
    rw [hv w hC]
    simp only [Oper.upon,hdst]
    exact ⟨rfl,_,ha.put hdn v,fun _=>hC,H⟩
   ·rw [if_neg (by simp [hw])]
    rw [hdst]
    exact ⟨rfl,_,ha.put hdn _,fun _=>hC,H⟩
  ·obtain ⟨oj,hoj,hE⟩:=H.2 j (kz hji hj)
   have hjL:=(kE.1 hj)
   have hiL:=(kE.1 hr)
   have hpend:L.getD i false≠true:=fun h6=>by
    have:=hiL.1
    cases hx:L[i]? with
    | none=>simp [Array.getD_eq_getD_getElem?,hx] at this
    | some b=>simp [Array.getD_eq_getD_getElem?,hx] at this h6;simp [this] at h6
   have hap:T.contains j=false∧o.apart ops oj=true∧X.contains j=true:=by
    have h1:=hf
    unfold pO at h1
    rw [List.all_eq_true] at h1
    have h2:=h1 j (by simp [(Array.getElem?_eq_some_iff.1 hoj).1])
    have hb:Nat.beq j i=false:=nC hji
    rw [hb,Bool.false_or,hoj] at h2
    dsimp only at h2
    cases hT:T.contains j with
    | true =>
     exfalso
     rw [hT,if_pos rfl,Bool.and_eq_true] at h2
     obtain ⟨_,h3,h4⟩:=hjL.2
     rw [hoj] at h3;obtain rfl:=Option.some.inj h3
     have h2':=h2.2
     rw [Array.any_eq_true'] at h2'
     obtain ⟨ed,hm,h5⟩:=h2'
     rw [Bool.and_eq_true,Bool.and_eq_true,Bool.or_eq_true] at h5
     have h6:=h4 ed hm h5.1.1
     rcases h5.2 with h7 | h7
     ·rw [Nat.eq_of_beq_eq_true h7] at h6;exact hpend h6
     ·have hlt:ed.on<ops.size:=by simpa using h5.1.2
      have h8:=h1 ed.on (by simpa using hlt)
      rw [Array.getElem?_eq_getElem hlt] at h8
      dsimp only at h8
      rw [if_pos h7,Bool.or_eq_true,Bool.and_eq_true] at h8
      rcases h8 with h8 | ⟨h8,_⟩
      ·rw [Nat.eq_of_beq_eq_true h8] at h6;exact hpend h6
      ·cases hx:L[ed.on]? with
       | none=>simp [Array.getD_eq_getD_getElem?,hx] at h6
       | some b=>simp [Array.getD_eq_getD_getElem?,hx] at h8 h6;simp [h6] at h8
    | false =>
     rw [hT,if_neg (by decide),Bool.or_eq_true,Bool.and_eq_true] at h2
     rcases h2 with h2 | h2
     ·rw [hjL.1] at h2;cases h2
     ·exact ⟨rfl,h2⟩
   obtain ⟨h1,h2,h3⟩:=Oper.apart_spec hap.2.1
   have hso:=oo hsel hi
   have hsj:=oo hsel hoj
   refine ⟨oj,hoj,fun a ha=>?_⟩
   have h4:=hE _ (ha.put hdn v)
   have key:∀ u w',nrm n (fun e' w'=>(X.contains j=true→C w')∧AL P n ops X C K f ((L.setIfInBounds i true).setIfInBounds j true) e' w') .normal ((a.put (some d) v).put oj.dst u) w' →
     nrm n (fun e' w'=>(X.contains j=true→C w')∧AL P n ops X C K (f+1) (L.setIfInBounds j true) e' w') .normal (a.put oj.dst u) w':=by
    rintro u w' ⟨_,e1,he1,hc1,hA1⟩
    have hm2:Mt n (vR (a.put oj.dst u)) (a.put oj.dst u):=xN (by rw [ua,ha.size]) (by rw [vi,ha.defers])
    have hcm:(a.put (some d) v).put oj.dst u=(a.put oj.dst u).put (some d) v:=Act.put_comm a v u (fun x hx=>by
     have:=h2 d hdst
     simp only [Option.some.injEq] at hx;subst hx;exact this)
    rw [hcm] at he1
    obtain rfl:=he1.uniq (hm2.put hdn v)
    refine ⟨rfl,_,hm2,hc1,ih _ _ _ (hc1 hap.2.2) (wd hap.1 hf) (kz (Ne.symm hji) hr) ?_ (by rw [← tg];exact hA1)⟩
    intro b hb
    have hbt:b.tmps=(a.put oj.dst u).tmps:=pf (fun t=>by rw [hb.get t];rfl) (by rw [hb.size,hm2.size])
    have hbe:b.eval=(a.put oj.dst u).eval:=by rw [hb.eval,hm2.eval]
    rw [hbt,hbe,execOp_put o hso a oj.dst u h3,wanted_put o a oj.dst u h3]
    exact hy a ha
   unfold wpList at h4 ⊢
   have hwe:=wanted_put (ops:=ops) oj a (some d) v (fun x hx=>by simp only [Option.some.injEq] at hx;subst hx;exact h1 d hdst)
   have hxe:=execOp_put oj hsj a (some d) v (fun x hx=>by simp only [Option.some.injEq] at hx;subst hx;exact h1 d hdst)
   rw [hwe] at h4
   split
   ·rename_i hw
    rw [if_pos hw] at h4
    rcases h4 with h5 | ⟨_,h5⟩
    ·refine .inl ?_
     unfold Oper.wp at h5 ⊢
     rw [hxe] at h5
     refine uc key ?_ h5
     rintro dd u w' ⟨_,e1,he1,_⟩
     have:=he1.defers
     cases hdj:oj.dst <;> simp [Act.put,hdj] at this
    ·exact absurd h5 tC
   ·rename_i hw
    rw [if_neg hw] at h4
    exact key _ _ h4
theorem sX (T:List Nat) (hsel:lO ops=true) (i:Nat) {o:Oper} {d:Nat} {v:Value} {f:Nat} {L:Array Bool} {e:Env} {w:World} (hi:ops[i]? = some o) (hdst:o.dst=some d) (hdn:d<n) (hC:C w) (hf:pO ops X T L i o=true) (hr:(Region.ready .any ops L).contains i=true)
  (hy:SV P n ops C o e v) (hK:AL P n ops X C K f (L.setIfInBounds i true) (upd e d v) w):AL P n ops X C K (f+1) L e w :=
 xq T hsel i hi hdst hdn f L e w hC hf (by simpa using hr) hy hK
theorem bI {f:Nat} {L:Array Bool} {e:Env} {w:World} (h:Region.ready .any ops L=[]) (hK:K e w):AL P n ops X C K f L e w:=by
 cases f with
 | zero=>exact ⟨h,hK⟩
 | succ f=>exact ⟨fun _=>hK,fun i hi=>by rw [h] at hi;cases hi⟩
theorem Ac (i:Nat) {f:Nat} {L:Array Bool} {e:Env} {w:World} {o:Oper} (hr:Region.ready .any ops L=[i]) (ho:ops[i]? = some o)
  (h:EL P n ops (fun e' w'=>(X.contains i=true→C w')∧AL P n ops X C K f (L.setIfInBounds i true) e' w') [o] e w):AL P n ops X C K (f+1) L e w :=
 ⟨fun h0=>(by rw [hr] at h0;cases h0),fun j hj=>by
  rw [hr] at hj
  have e:j=i:=by simpa using hj
  rw [e]
  exact ⟨o,ho,h⟩⟩
theorem aC {o:Oper} {e:Env} {v:Value} (hg:o.guard=none) (h:∀ w',C w'→PV P o e w' v):SV P n ops C o e v:=fun a ha=>.inl ⟨by simp [Region.wanted,hg],fun w' hw'=>by rw [ha.eval];exact h w' hw' w' (Ext.refl _)⟩
theorem vr (hsel:lO ops=true) (i:Nat) {o:Oper} {d:Nat} {v:Value} {f:Nat} {L:Array Bool} {e:Env} {w:World} (hi:ops[i]? = some o) (hdst:o.dst=some d) (hdn:d<n) (hC:C w) (hf:ni ops X L i o=true) (hr:(Region.ready .any ops L).contains i=true)
  (hy:SV P n ops C o e v) (hK:AL P n ops X C K f (L.setIfInBounds i true) (upd e d v) w):AL P n ops X C K (f+1) L e w :=
 xZ hsel i hi hdst hdn f L e w hC hf (by simpa using hr) hy hK
section
variable {wA:World} {v:Value} {d:Nat} {ty:TypeId} {pos:String} {af:Array Edge} {x y:Operand} {α:Type} {R:Rep α} {E E':TypeId} {f:Nat} {L:Array Bool} {e:Env} {w:World}
theorem kq (hsel:lO ops=true) (i:Nat) {t:TypeId} [SliceT P t E'] {zz:List Value} {m bytes:Nat} [ElemT P E' zz m bytes] {xs:List α} (hi':ops[i]? = some ⟨some d,.indexAddr t x y,ty,pos,af,none⟩) (hC:C w) (hf:ni ops X L i ⟨some d,.indexAddr t x y,ty,pos,af,none⟩=true) (hrd:(Region.ready .any ops L).contains i=true)
  (hs:ev e x=v) (hr:(ay R E).rd wA [v] xs) (hn:R.sz=m) (hpos:0<m) {k:IntKind} {j:Int} (hi:ev e y=.int k j) {u:α} (h:ix xs j=some u) (hd:d<n)
  (hK:∀ b off ec,R.rd wA ec u→(∀ j c,ec[j]? = some c→wA.cell? ⟨b,off+j,none⟩=some c)→AL P n ops X C K f (L.setIfInBounds i true) (upd e d (.pointer (some ⟨b,off,none⟩))) w):AL P n ops X C K (f+1) L e w:=by
 obtain ⟨b,off,ec,h1,h2,h3⟩:=qH (P:=P) (d:=some d) (ty:=ty) (pos:=pos) (af:=af) (t:=t) hs hr hn hpos hi h
 exact vr hsel i hi' rfl hd hC hf hrd (aC rfl fun w' _=>h3 w') (hK b off ec h1 h2)
theorem tp (hsel:lO ops=true) (i:Nat) {t:TypeId} {lo hi:Option Operand} [SliceT P t E'] {z:List Value} {m bytes:Nat} [ElemT P E' z m bytes] (hi':ops[i]? = some ⟨some d,.slice t x lo hi none,ty,pos,af,none⟩) (hC:C w) (hf:ni ops X L i ⟨some d,.slice t x lo hi none,ty,pos,af,none⟩=true) (hrd:(Region.ready .any ops L).contains i=true) (hn:R.sz=m)
  (hx:ev e x=v) {xs ys:List α} (hr:(ay R E).rd wA [v] xs) {l h:Int} (hlo:(lo.map (ev e)=some (.int .i64 l))∨(lo=none∧l=0)) (hhi:(hi.map (ev e)=some (.int .i64 h))∨(hi=none∧h=xs.length)) (hq:slc xs l h=some ys) (hd:d<n)
  (hK:∀ v',(ay R E).rd wA [v'] ys→AL P n ops X C K f (L.setIfInBounds i true) (upd e d v') w):AL P n ops X C K (f+1) L e w:=by
 obtain ⟨v',h1,h2⟩:=qE (P:=P) (d:=some d) (ty:=ty) (pos:=pos) (af:=af) (t:=t) hn hx hr hlo hhi hq
 exact vr hsel i hi' rfl hd hC hf hrd (aC rfl fun w' _=>h2 w') (hK v' h1)
end
end
class FlatR {α:Type} (R:Rep α) (f:outParam (α→Value)):Prop where
 h:∀ {w:World} {cs:List Value} {x:α},R.rd w cs x→cs=[f x]
instance:FlatR bN (Value.int .i64):=⟨fun h=>h⟩
instance:FlatR u8R (Value.int .u8):=⟨fun h=>h⟩
instance:FlatR mW Value.bool:=⟨fun h=>h⟩
section
variable {P:Program} {n:Nat} {ops:Array Oper} {K:Env→World→Prop} {KQ:Env→Prop} {rest:List Oper} {e:Env} {w w0:World} {v:Value} {d:Nat} {ty:TypeId} {pos:String} {af:Array Edge} {Γ:List Asn} {x y:Operand} {α:Type} {R:Rep α} {E:TypeId} {f:α→Value}
theorem Sat.ownCell (i:Nat) [hf:FlatR R f] {xs:List α} (hS:Sat w0 w Γ) (hi:Γ[i]? = some (Own (ay R E) [v] xs)) {g cap ln:Nat} (hv:v=.slice (some ⟨g,0,none⟩) ln cap) {j:Int} {u:α} (h:ix xs j=some u):w.cell? ⟨g,j.toNat*1,none⟩=some (f u):=by
 obtain ⟨k,rfl,hk,rfl⟩:=gi h
 obtain ⟨fp,ho,_⟩:=(hS.top i hi).head
 rcases ho with ⟨_,h2,_⟩ | ⟨g',cap',cur,ccs,f2,hv',hg,h1,h2,h3,h4,h5,rfl⟩
 ·subst h2;simp at hk
 subst hv
 simp at hv'
 obtain ⟨rfl,rfl,rfl⟩:=hv'
 obtain ⟨ec,hec,hcc⟩:=mz (fD h5) k hk
 obtain rfl:=hf.h hec
 have hsz:R.sz=1:=by have:=R.rd_len hec;simpa using this.symm
 have h0:=hcc 0 _ rfl
 rw [cell_of_row w g _ cur E (0,0) hg,← Array.getElem?_toList]
 rw [← h4,List.getElem?_take] at h0
 simp only [Int.toNat_natCast]
 rw [hsz] at h0
 split at h0
 ·simpa using h0
 ·cases h0
theorem bH (i:Nat) {xs:List α} (hS:Sat w0 w Γ) (hi:Γ[i]? = some (Own (ay R E) [v] xs)) {j:Int} {u:α} (h:ix xs j=some u):∃ g cap,v=.slice (some ⟨g,0,none⟩) xs.length cap:=by
 obtain ⟨k,rfl,hk,rfl⟩:=gi h
 rcases (hS.top i hi).shape with ⟨_,h2⟩ | ⟨g,cap,h⟩
 ·subst h2;simp at hk
 ·exact ⟨g,cap,h⟩
theorem bA {d:Option Nat} {t:TypeId} [ht:SliceT P t E] {zz:List Value} {bytes:Nat} [hz:ElemT P E zz 1 bytes] {xs:List α} (hs:ev e x=v) {g cap:Nat} (hv:v=.slice (some ⟨g,0,none⟩) xs.length cap) {k:IntKind} {j:Int} (hi:ev e y=.int k j) {u:α} (h:ix xs j=some u) :
  PV P ⟨d,.indexAddr t x y,ty,pos,af,none⟩ e w (.pointer (some ⟨g,j.toNat*1,none⟩)):=fun w' _=>by
 obtain ⟨k',rfl,hk,rfl⟩:=gi h
 subst hv
 have hz:=hz.h
 cases hq:P.info? E with
 | none=>simp [hq] at hz
 | some inf =>
  simp [hq] at hz
  have hsz:inf.size=1:=hz.2.1
  unfold execOp
  simp [hs,hi,Instr.indexAt,asIntOf,run_underlying ht.h,sizeOf,typeInfo,hq,hk,Addr.add_lit,hsz]
end
theorem Aw:Goes Tryz.prog 5:=⟨_,Tryz.func5,by kernel_rfl,by kernel_rfl⟩
theorem Av:Goes Tryz.prog 6:=⟨_,Tryz.func6,by kernel_rfl,by kernel_rfl⟩
theorem xO:Goes Tryz.prog 7:=⟨_,Tryz.func7,by kernel_rfl,by kernel_rfl⟩
theorem Aj:Goes Tryz.prog 8:=⟨_,Tryz.func8,by kernel_rfl,by kernel_rfl⟩
theorem Ar:Goes Tryz.prog 9:=⟨_,Tryz.func9,by kernel_rfl,by kernel_rfl⟩
theorem tO:Goes Tryz.prog 10:=⟨_,Tryz.func10,by kernel_rfl,by kernel_rfl⟩
theorem tW:Goes Tryz.prog 11:=⟨_,Tryz.func11,by kernel_rfl,by kernel_rfl⟩
theorem zI:Goes Tryz.prog 20:=⟨_,Tryz.func20,by kernel_rfl,by kernel_rfl⟩
theorem zA:Goes Tryz.prog 21:=⟨_,Tryz.func21,by kernel_rfl,by kernel_rfl⟩
theorem Ai:Goes Tryz.prog 22:=⟨_,Tryz.func22,by kernel_rfl,by kernel_rfl⟩
theorem dZ:Goes Tryz.prog 23:=⟨_,Tryz.func23,by kernel_rfl,by kernel_rfl⟩
theorem wD:Goes Tryz.prog 24:=⟨_,Tryz.func24,by kernel_rfl,by kernel_rfl⟩
theorem l8:Goes Tryz.prog 25:=⟨_,Tryz.func25,by kernel_rfl,by kernel_rfl⟩
theorem za:Goes Tryz.prog 26:=⟨_,Tryz.func26,by kernel_rfl,by kernel_rfl⟩
theorem yT:Goes Tryz.prog 27:=⟨_,Tryz.func27,by kernel_rfl,by kernel_rfl⟩
theorem zu:Goes Tryz.prog 28:=⟨_,Tryz.func28,by kernel_rfl,by kernel_rfl⟩
theorem rh:Goes Tryz.prog 29:=⟨_,Tryz.func29,by kernel_rfl,by kernel_rfl⟩
theorem ru:Goes Tryz.prog 30:=⟨_,Tryz.func30,by kernel_rfl,by kernel_rfl⟩
theorem zM:Goes Tryz.prog 34:=⟨_,Tryz.func34,by kernel_rfl,by kernel_rfl⟩
theorem l9:Goes Tryz.prog 35:=⟨_,Tryz.func35,by kernel_rfl,by kernel_rfl⟩
theorem wl:Goes Tryz.prog 37:=⟨_,Tryz.func37,by kernel_rfl,by kernel_rfl⟩
theorem zL:Goes Tryz.prog 38:=⟨_,Tryz.func38,by kernel_rfl,by kernel_rfl⟩
theorem ww:Goes Tryz.prog 39:=⟨_,Tryz.func39,by kernel_rfl,by kernel_rfl⟩
theorem ju:Goes Tryz.prog 40:=⟨_,Tryz.func40,by kernel_rfl,by kernel_rfl⟩
theorem gd:Goes Tryz.prog 41:=⟨_,Tryz.func41,by kernel_rfl,by kernel_rfl⟩
theorem zF:Goes Tryz.prog 43:=⟨_,Tryz.func43,by kernel_rfl,by kernel_rfl⟩
theorem zX:Goes Tryz.prog 44:=⟨_,Tryz.func44,by kernel_rfl,by kernel_rfl⟩
theorem mG:Goes Tryz.prog 45:=⟨_,Tryz.func45,by kernel_rfl,by kernel_rfl⟩
theorem rF:Goes Tryz.prog 46:=⟨_,Tryz.func46,by kernel_rfl,by kernel_rfl⟩
theorem oY:Goes Tryz.prog 47:=⟨_,Tryz.func47,by kernel_rfl,by kernel_rfl⟩
theorem zt:Goes Tryz.prog 48:=⟨_,Tryz.func48,by kernel_rfl,by kernel_rfl⟩
theorem zR:Goes Tryz.prog 49:=⟨_,Tryz.func49,by kernel_rfl,by kernel_rfl⟩
theorem zl:Goes Tryz.prog 50:=⟨_,Tryz.func50,by kernel_rfl,by kernel_rfl⟩
theorem zn:Goes Tryz.prog 51:=⟨_,Tryz.func51,by kernel_rfl,by kernel_rfl⟩
theorem tL:Goes Tryz.prog 52:=⟨_,Tryz.func52,by kernel_rfl,by kernel_rfl⟩
theorem zZ:Goes Tryz.prog 53:=⟨_,Tryz.func53,by kernel_rfl,by kernel_rfl⟩
theorem zP:Goes Tryz.prog 54:=⟨_,Tryz.func54,by kernel_rfl,by kernel_rfl⟩
theorem rE:Goes Tryz.prog 55:=⟨_,Tryz.func55,by kernel_rfl,by kernel_rfl⟩
theorem w3:Goes Tryz.prog 56:=⟨_,Tryz.func56,by kernel_rfl,by kernel_rfl⟩
theorem tQ:Goes Tryz.prog 57:=⟨_,Tryz.func57,by kernel_rfl,by kernel_rfl⟩
theorem Ag:Goes Tryz.prog 58:=⟨_,Tryz.func58,by kernel_rfl,by kernel_rfl⟩
theorem w5:Goes Tryz.prog 59:=⟨_,Tryz.func59,by kernel_rfl,by kernel_rfl⟩
theorem tZ:Goes Tryz.prog 60:=⟨_,Tryz.func60,by kernel_rfl,by kernel_rfl⟩
theorem o7:Goes Tryz.prog 61:=⟨_,Tryz.func61,by kernel_rfl,by kernel_rfl⟩
theorem wW:Goes Tryz.prog 63:=⟨_,Tryz.func63,by kernel_rfl,by kernel_rfl⟩
theorem tj:Goes Tryz.prog 64:=⟨_,Tryz.func64,by kernel_rfl,by kernel_rfl⟩
theorem wh:Goes Tryz.prog 65:=⟨_,Tryz.func65,by kernel_rfl,by kernel_rfl⟩
theorem yU:Goes Tryz.prog 66:=⟨_,Tryz.func66,by kernel_rfl,by kernel_rfl⟩
theorem mN:Goes Tryz.prog 68:=⟨_,Tryz.func68,by kernel_rfl,by kernel_rfl⟩
theorem wX:Goes Tryz.prog 69:=⟨_,Tryz.func69,by kernel_rfl,by kernel_rfl⟩
theorem wo:Goes Tryz.prog 70:=⟨_,Tryz.func70,by kernel_rfl,by kernel_rfl⟩
theorem zq:Goes Tryz.prog 71:=⟨_,Tryz.func71,by kernel_rfl,by kernel_rfl⟩
theorem zo:Goes Tryz.prog 72:=⟨_,Tryz.func72,by kernel_rfl,by kernel_rfl⟩
theorem zh:Goes Tryz.prog 73:=⟨_,Tryz.func73,by kernel_rfl,by kernel_rfl⟩
theorem zD:Goes Tryz.prog 74:=⟨_,Tryz.func74,by kernel_rfl,by kernel_rfl⟩
theorem y3:Goes Tryz.prog 75:=⟨_,Tryz.func75,by kernel_rfl,by kernel_rfl⟩
theorem rJ:Goes Tryz.prog 76:=⟨_,Tryz.func76,by kernel_rfl,by kernel_rfl⟩
theorem wC:Goes Tryz.prog 77:=⟨_,Tryz.func77,by kernel_rfl,by kernel_rfl⟩
theorem tX:Goes Tryz.prog 78:=⟨_,Tryz.func78,by kernel_rfl,by kernel_rfl⟩
theorem zk:Goes Tryz.prog 79:=⟨_,Tryz.func79,by kernel_rfl,by kernel_rfl⟩
theorem y8:Goes Tryz.prog 80:=⟨_,Tryz.func80,by kernel_rfl,by kernel_rfl⟩
theorem zy:Goes Tryz.prog 81:=⟨_,Tryz.func81,by kernel_rfl,by kernel_rfl⟩
theorem Ah:Goes Tryz.prog 82:=⟨_,Tryz.func82,by kernel_rfl,by kernel_rfl⟩
theorem ud:Goes Tryz.prog 83:=⟨_,Tryz.func83,by kernel_rfl,by kernel_rfl⟩
theorem pF:Goes Tryz.prog 84:=⟨_,Tryz.func84,by kernel_rfl,by kernel_rfl⟩
theorem wN:Goes Tryz.prog 85:=⟨_,Tryz.func85,by kernel_rfl,by kernel_rfl⟩
theorem y7:Goes Tryz.prog 86:=⟨_,Tryz.func86,by kernel_rfl,by kernel_rfl⟩
theorem wy:Goes Tryz.prog 87:=⟨_,Tryz.func87,by kernel_rfl,by kernel_rfl⟩
theorem zC:Goes Tryz.prog 88:=⟨_,Tryz.func88,by kernel_rfl,by kernel_rfl⟩
theorem yV:Goes Tryz.prog 89:=⟨_,Tryz.func89,by kernel_rfl,by kernel_rfl⟩
theorem zT:Goes Tryz.prog 90:=⟨_,Tryz.func90,by kernel_rfl,by kernel_rfl⟩
theorem yZ:Goes Tryz.prog 91:=⟨_,Tryz.func91,by kernel_rfl,by kernel_rfl⟩
theorem tN:Goes Tryz.prog 93:=⟨_,Tryz.func93,by kernel_rfl,by kernel_rfl⟩
theorem mI:Goes Tryz.prog 95:=⟨_,Tryz.func95,by kernel_rfl,by kernel_rfl⟩
theorem tu:Goes Tryz.prog 96:=⟨_,Tryz.func96,by kernel_rfl,by kernel_rfl⟩
theorem zx:Goes Tryz.prog 97:=⟨_,Tryz.func97,by kernel_rfl,by kernel_rfl⟩
theorem pj:Goes Tryz.prog 98:=⟨_,Tryz.func98,by kernel_rfl,by kernel_rfl⟩
theorem y5:Goes Tryz.prog 99:=⟨_,Tryz.func99,by kernel_rfl,by kernel_rfl⟩
theorem uU:Goes Tryz.prog 100:=⟨_,Tryz.func100,by kernel_rfl,by kernel_rfl⟩
theorem uQ:Goes Tryz.prog 101:=⟨_,Tryz.func101,by kernel_rfl,by kernel_rfl⟩
theorem uS:Goes Tryz.prog 102:=⟨_,Tryz.func102,by kernel_rfl,by kernel_rfl⟩
theorem xW:Goes Tryz.prog 103:=⟨_,Tryz.func103,by kernel_rfl,by kernel_rfl⟩
theorem vk:Goes Tryz.prog 104:=⟨_,Tryz.func104,by kernel_rfl,by kernel_rfl⟩
theorem uL:Goes Tryz.prog 105:=⟨_,Tryz.func105,by kernel_rfl,by kernel_rfl⟩
theorem rW:Goes Tryz.prog 106:=⟨_,Tryz.func106,by kernel_rfl,by kernel_rfl⟩
theorem u9:Goes Tryz.prog 107:=⟨_,Tryz.func107,by kernel_rfl,by kernel_rfl⟩
theorem pL:Goes Tryz.prog 108:=⟨_,Tryz.func108,by kernel_rfl,by kernel_rfl⟩
theorem sk:Goes Tryz.prog 109:=⟨_,Tryz.func109,by kernel_rfl,by kernel_rfl⟩
theorem x8:Goes Tryz.prog 110:=⟨_,Tryz.func110,by kernel_rfl,by kernel_rfl⟩
theorem vo:Goes Tryz.prog 111:=⟨_,Tryz.func111,by kernel_rfl,by kernel_rfl⟩
theorem pN:Goes Tryz.prog 112:=⟨_,Tryz.func112,by kernel_rfl,by kernel_rfl⟩
theorem yg:Goes Tryz.prog 113:=⟨_,Tryz.func113,by kernel_rfl,by kernel_rfl⟩
theorem yE:Goes Tryz.prog 114:=⟨_,Tryz.func114,by kernel_rfl,by kernel_rfl⟩
theorem yJ:Goes Tryz.prog 115:=⟨_,Tryz.func115,by kernel_rfl,by kernel_rfl⟩
theorem x3:Goes Tryz.prog 116:=⟨_,Tryz.func116,by kernel_rfl,by kernel_rfl⟩
theorem yq:Goes Tryz.prog 117:=⟨_,Tryz.func117,by kernel_rfl,by kernel_rfl⟩
theorem xU:Goes Tryz.prog 118:=⟨_,Tryz.func118,by kernel_rfl,by kernel_rfl⟩
theorem sl:Goes Tryz.prog 119:=⟨_,Tryz.func119,by kernel_rfl,by kernel_rfl⟩
theorem vg:Goes Tryz.prog 120:=⟨_,Tryz.func120,by kernel_rfl,by kernel_rfl⟩
theorem rQ:Goes Tryz.prog 121:=⟨_,Tryz.func121,by kernel_rfl,by kernel_rfl⟩
theorem ye:Goes Tryz.prog 122:=⟨_,Tryz.func122,by kernel_rfl,by kernel_rfl⟩
theorem uJ:Goes Tryz.prog 123:=⟨_,Tryz.func123,by kernel_rfl,by kernel_rfl⟩
theorem nF:Goes Tryz.prog 124:=⟨_,Tryz.func124,by kernel_rfl,by kernel_rfl⟩
theorem yH:Goes Tryz.prog 125:=⟨_,Tryz.func125,by kernel_rfl,by kernel_rfl⟩
theorem yG:Goes Tryz.prog 126:=⟨_,Tryz.func126,by kernel_rfl,by kernel_rfl⟩
theorem uO:Goes Tryz.prog 127:=⟨_,Tryz.func127,by kernel_rfl,by kernel_rfl⟩
theorem vn:Goes Tryz.prog 128:=⟨_,Tryz.func128,by kernel_rfl,by kernel_rfl⟩
theorem yF:Goes Tryz.prog 129:=⟨_,Tryz.func129,by kernel_rfl,by kernel_rfl⟩
theorem yl:Goes Tryz.prog 130:=⟨_,Tryz.func130,by kernel_rfl,by kernel_rfl⟩
theorem sh:Goes Tryz.prog 131:=⟨_,Tryz.func131,by kernel_rfl,by kernel_rfl⟩
theorem yd:Goes Tryz.prog 132:=⟨_,Tryz.func132,by kernel_rfl,by kernel_rfl⟩
theorem x4:Goes Tryz.prog 133:=⟨_,Tryz.func133,by kernel_rfl,by kernel_rfl⟩
theorem x5:Goes Tryz.prog 134:=⟨_,Tryz.func134,by kernel_rfl,by kernel_rfl⟩
theorem yu:Goes Tryz.prog 135:=⟨_,Tryz.func135,by kernel_rfl,by kernel_rfl⟩
section
open Go.RowKit Go.ChangeShapes Go.WideShapes Go.ChangeAt
def s4 {α:Type} (P:Program) (R:Rep α) (T:TypeId):Prop :=
 ∀ {H:Type} (enc:TypeId × Value→H) (w:World) (base:Nat) (spare:Nat→Bool) (held:Bool) (fuel:Nat) (cs:List Value) (x:DataW H × List MemPlace),DataW.trod enc P w base spare held fuel T cs=some x→∃ y,R.rd w cs y

theorem us {α:Type} {P:Program} {R:Rep α} {T e E:TypeId} (ht:P.underlying T=some (.slice e)) (hs:P.cellsOf e=R.sz) (hpos:0<R.sz) (ho:s4 P R e):s4 P (ay R E) T:=by
 intro H enc w base spare held fuel cs x h
 rcases DataW.trod_slice ht h with ⟨rfl,_⟩ | ⟨a,len,cap,elems,rst,n,_,rfl,_,hb,hlc,hm,hel,hev,_⟩
 ·exact ⟨[],none,0,[],rfl,Nat.le_refl _,Nat.zero_le _,fun _=>rfl,rfl,.inl rfl⟩
 ·have hone:∀ i,i<len→∃ ec y,R.rd w ec y∧∀ j c,ec[j]? = some c→w.cell? (a.add (i*R.sz) |>.add j)=some c:=by
   intro i hi
   have h1:=hev i hi
   rw [List.getElem?_eq_getElem (by omega),hs] at h1
   obtain ⟨ec,h2,h3⟩:=Option.bind_eq_some_iff.1 h1
   obtain ⟨y,hy⟩:=ho enc w base spare held n ec _ h3
   obtain ⟨_,h4,h5⟩:=World.cells?_some h2
   exact ⟨ec,y,hy,fun j c hj=>by rw [h5 j (by have:=(List.getElem?_eq_some_iff.1 hj).1;omega)];exact hj⟩
  by_cases hl0:len=0
  ·subst hl0
   exact ⟨[],some a,cap,[],rfl,hlc,hm,by simp,rfl,.inl rfl⟩
  obtain ⟨b,off,spot⟩:=a
  have hspot:spot=none:=by
   obtain ⟨ec,y,hy,hc⟩:=hone 0 (by omega)
   have hl:=R.rd_len hy
   have h0:=hc 0 ec[0] (by simp)
   simp only [Nat.zero_mul,Addr.add,if_true] at h0
   cases spot with
   | none=>rfl
   | some s =>
    unfold World.cell? at h0
    split at h0 <;> simp at h0
  subst hspot
  have hall:∀ k,k≤len→∃ ys ccs,ys.length=k∧rdL R w ccs ys∧∀ j c,ccs[j]? = some c→w.cell? ⟨b,off+j,none⟩=some c:=by
   intro k
   induction k with
   | zero=>intro _;exact ⟨[],[],rfl,rfl,by simp⟩
   | succ k ih =>
    intro hk
    obtain ⟨ys,ccs,h1,h2,h3⟩:=ih (by omega)
    obtain ⟨ec,y,hy,hc⟩:=hone k (by omega)
    refine ⟨ys++[y],ccs++ec,by simp [h1],rM (ys:=[y]) ⟨ec,[],by simp,hy,rfl⟩ h2,fun j c hj=>?_⟩
    have hcl:=gk h2
    by_cases hj1:j<ccs.length
    ·rw [List.getElem?_append_left hj1] at hj;exact h3 j c hj
    ·rw [List.getElem?_append_right (by omega)] at hj
     have:=hc (j-ccs.length) c hj
     rw [Addr.add_lit,Addr.add_lit] at this
     rw [show off+j=off+k*R.sz+(j-ccs.length) by rw [hcl,h1] at *;omega]
     exact this
  obtain ⟨ys,ccs,h1,h2,h3⟩:=hall len (Nat.le_refl _)
  exact ⟨ys,some ⟨b,off,none⟩,cap,ccs,by rw [h1],by omega,hm,by simp,h2,.inr ⟨b,off,rfl,h3⟩⟩
def tH (n:Int):Prop:=0≤n∧n≤255
def u8F:Rep Int where
 sz:=1
 rd _ cs n:=cs=[.int .u8 n]∧tH n
 own _ cs n fp:=(cs=[.int .u8 n]∧tH n)∧fp=[]
 rd_len h:=by rw [h.1];rfl
 rd_one h:=by rw [h.1];simp [Value.oneCell']
 rd_ext h _:=h
 own_rd h:=h.1
 own_ext h _:=h
 own_lt h:=by rw [h.2];simp
theorem wf8 {n:Int} (h:(Lit.int .u8 n).wf=true):tH n:=by
 unfold Lit.wf at h
 simp only [Bool.and_eq_true,decide_eq_true_eq] at h
 exact ⟨h.1,h.2⟩
theorem wr {P:Program} {T:TypeId} (ht:P.underlying T=some (.int .u8)):s4 P u8F T:=by
 intro H enc w base spare held fuel cs x h
 obtain ⟨n,rfl,_,hw⟩:=DataW.trod_int ht h
 exact ⟨n,rfl,wf8 hw⟩
theorem wI {w:World}:∀ {xs:List Int} {ccs:List Value},rdL u8F w ccs xs→rdL u8R w ccs xs∧∀ v∈xs,tH v
 | [],_,h=>⟨h,by simp⟩
 | x :: xs,_,h=>by
  obtain ⟨ec,rest,rfl,h1,h2⟩:=h
  obtain ⟨g1,g2⟩:=wI h2
  refine ⟨⟨ec,rest,rfl,h1.1,g1⟩,fun v hv=>?_⟩
  rcases List.mem_cons.1 hv with rfl | hv
  ·exact h1.2
  ·exact g2 v hv
theorem xE {E:TypeId} {w:World} {cs:List Value} {xs:List Int} (h:(ay u8F E).rd w cs xs):(ay u8R E).rd w cs xs∧∀ v∈xs,tH v:=by
 obtain ⟨ao,cap,ccs,rfl,h1,h2,h3,h4,h5⟩:=h
 obtain ⟨g1,g2⟩:=wI h4
 exact ⟨⟨ao,cap,ccs,rfl,h1,h2,h3,g1,h5⟩,g2⟩
end
theorem bs {α β:Type} (a:α) (f:α→Option β):(some a).bind f=f a:=rfl
theorem aS {α:Type} {xs:List α} {i:Nat} (h:i<xs.length):ix xs (i:Int)=some xs[i]:=by
 unfold ix;rw [if_pos (by omega)];simp [h]
theorem iC {α:Type} {xs:List α} {i:Int} (h0:0≤i) (h:i<xs.length):ix xs i=some (xs[i.toNat]'(by omega)):=by
 unfold ix;rw [if_pos h0];simp
theorem mP {n:Int} (h:-4611686018427387904≤n) (h2:n≤4611686018427387904):rng n=true:=by
 unfold rng;simp only [Bool.and_eq_true,decide_eq_true_eq];omega
theorem i6 {a b:Int} (h:-4611686018427387904≤a+b) (h2:a+b≤4611686018427387904):ad a b=some (a+b):=by unfold ad;rw [if_pos (mP h h2)]
theorem eY {a b:Int} (h:-4611686018427387904≤a-b) (h2:a-b≤4611686018427387904):sb a b=some (a-b):=by unfold sb;rw [if_pos (mP h h2)]
theorem sY {a b:Int} (h:-4611686018427387904≤a*b) (h2:a*b≤4611686018427387904):ml a b=some (a*b):=by unfold ml;rw [if_pos (mP h h2)]
theorem ad1 {i:Nat} (h:i<1099511627776):ad (i:Int) 1=some ((i+1:Nat):Int):=by rw [i6 (by omega) (by omega)];simp
theorem dlt {i n:Nat} (h:i<n):decide ((i:Int)<(n:Int))=true:=by simp;omega
theorem dge {i n:Nat} (h:¬ i<n):decide ((i:Int)<(n:Int))=false:=by simp;omega
theorem jR {α:Type} {xs:List α} {i:Nat} {y:α} (h:i<xs.length):sto xs (i:Int) y=some (xs.set i y):=by
 unfold sto;rw [if_pos ⟨by omega,by simpa using h⟩];simp
theorem zU {α:Type} {b:Nat} {xs ys:List α} (h:(xs.length+ys.length)*b≤140737488355328):apd b xs ys=some (xs++ys):=by unfold apd;rw [if_pos h]
theorem bp {α:Type} {b:Nat} {xs ys:List α} (hb:b≤64) (h:xs.length+ys.length≤2199023255552):apd b xs ys=some (xs++ys):=by
 refine zU (Nat.le_trans (Nat.mul_le_mul h hb) (by omega))
theorem s5 {α:Type} {b:Nat} {z:α} {n:Nat} (hb:b≤64) (h:n≤2199023255552):mk b z (n:Int)=some (List.replicate n z):=by
 unfold mk;rw [if_pos ⟨by omega,by simpa using Nat.le_trans (Nat.mul_le_mul h hb) (by omega),by simp;omega⟩];simp
theorem iD {α:Type} {xs:List α} {lo hi:Nat} (h1:lo≤hi) (h2:hi≤xs.length):slc xs (lo:Int) (hi:Int)=some ((xs.take hi).drop lo):=by
 unfold slc;rw [if_pos ⟨by omega,by omega,by omega⟩];simp

theorem gM {R V:Type} (L:Nat→Int→Option (Sum R V)) (n:Nat) (hn:n<1099511627776) (b:R) (p:Nat→Bool) (v:V)
  (hstep:∀ k i,i<n→L (k+1) (i:Int)=bif p i then L k ((i+1:Nat):Int) else some (.inl b))
  (hend:∀ k,L (k+1) (n:Int)=some (.inr v)) :
  ∀ k i,i≤n→n-i<k→L k (i:Int)=some (bif (List.range' i (n-i)).all p then .inr v else .inl b):=by
 intro k
 induction k with
 | zero=>intro i hi hk;omega
 | succ k ih =>
  intro i hi hk
  by_cases h:i<n
  ·rw [hstep k i h,show n-i=(n-(i+1))+1 by omega,List.range'_succ,List.all_cons]
   cases hp:p i with
   | true=>rw [cond_true,Bool.true_and];exact ih (i+1) (by omega) (by omega)
   | false=>rfl
  ·obtain rfl:i=n:=by omega
   rw [hend k,Nat.sub_self];rfl
theorem ge {α:Type} (xs:List α) (p:α→Bool) (q:Nat→Bool) (h:∀ i (hi:i<xs.length),q i=p xs[i]):(List.range' 0 xs.length).all q=xs.all p:=by
 rw [Bool.eq_iff_iff,List.all_eq_true,List.all_eq_true]
 constructor
 ·intro hq x hx
  obtain ⟨i,hi,rfl⟩:=List.getElem_of_mem hx
  rw [← h i hi];exact hq i (by simp;omega)
 ·intro hp i hi
  have hi':i<xs.length:=by simpa using hi
  rw [h i hi'];exact hp _ (List.getElem_mem hi')
theorem xl {α:Type} [DecidableEq α] {xs ys:List α} (hl:xs.length=ys.length) (q:Nat→Bool) (h:∀ i (hi:i<xs.length),q i=decide (xs[i]=ys[i]'(by omega))):(List.range' 0 xs.length).all q=decide (xs=ys):=by
 rw [Bool.eq_iff_iff,List.all_eq_true,decide_eq_true_iff]
 constructor
 ·intro hq
  refine List.ext_getElem hl fun i h1 h2=>?_
  have:=hq i (by simp;omega)
  rw [h i h1] at this
  exact of_decide_eq_true this
 ·rintro rfl i hi
  have hi':i<xs.length:=by simpa using hi
  rw [h i hi'];simp

section
variable {α:Type}
def mL (p:α→Prop) (m:Nat) (xs:List α):Prop:=xs.length≤m∧∀ x∈xs,p x

end
theorem vF (x y:Int):(x != y)=!decide (x=y):=by by_cases h:x=y <;> simp [h]
theorem vA (x y:Int):(x == y)=decide (x=y):=by by_cases h:x=y <;> simp [h]
theorem vb (s r:ByteArray):eqS s r=decide (s=r):=by
 unfold eqS
 rw [Bool.eq_iff_iff,decide_eq_true_iff]
 constructor
 ·intro h
  have h1:s.toList=r.toList:=by simpa using h
  rw [ByteArray.toList_eq,ByteArray.toList_eq] at h1
  cases s;cases r;simp_all
 ·rintro rfl;simp
section
open Go.RowKit Go.ChangeShapes Go.WideShapes Go.ChangeAt
theorem xt:ownKnob Tryz.prog.godebug=none:=by kernel_rfl
theorem xv:laidOutB Tryz.prog=true:=by kernel_rfl
theorem wb {α:Type} {R:Rep α} {E:TypeId} {p:α→Prop} (h:∀ {w:World} {cs:List Value} {x:α},R.rd w cs x→p x) {w:World} {cs:List Value} {xs:List α} (hr:(ay R E).rd w cs xs):mL p 9223372036854775807 xs:=by
 obtain ⟨ao,cap,ccs,rfl,h1,h2,h3,h4,h5⟩:=hr
 refine ⟨by unfold maxLen at h2;omega,fun x hx=>?_⟩
 obtain ⟨j,hj,rfl⟩:=List.getElem_of_mem hx
 obtain ⟨ec,h6,_⟩:=mz h4 j hj
 exact h h6
theorem xw:s4 Tryz.prog (ay u8F 5) 22:=us Tryz.underlying22 (by kernel_rfl) (by decide) (wr Tryz.underlying5)
theorem Aq {w:World} {cs:List Value} {x:List Int} (h:((ay u8R 5)).rd w cs x):(mL (fun _=>True) 9223372036854775807) x:=wb (fun _=>trivial) h
end
theorem Sat.splitp {w0 w:World} {A B C:Asn} {Γ:List Asn} (h:Sat w0 w (A :: Γ)) (k:∀ f,A.holds w f→∃ p q,(p++q).Perm f∧B.holds w p∧C.holds w q):Sat w0 w (B :: C :: Γ):=by
 obtain ⟨hb,_,⟨f1,f2,rfl,h1,h2⟩,hn,h3⟩:=h
 obtain ⟨p,q,hp,k1,k2⟩:=k f1 h1
 have hpp:(p++(q++f2)).Perm (f1++f2):=by rw [← List.append_assoc];exact List.Perm.append_right _ hp
 exact ⟨hb,p++(q++f2),⟨p,q++f2,rfl,k1,q,f2,rfl,k2,h2⟩,hpp.nodup_iff.2 hn,fun b hb'=>h3 b (hpp.mem_iff.1 hb')⟩
theorem Sat.joinp {w0 w:World} {A B C:Asn} {Γ:List Asn} (h:Sat w0 w (A :: B :: Γ)) (k:∀ f g,A.holds w f→B.holds w g→∃ p,p.Perm (f++g)∧C.holds w p):Sat w0 w (C :: Γ):=by
 obtain ⟨hb,_,⟨f1,_,rfl,h1,f2,f3,rfl,h2,h4⟩,hn,h3⟩:=h
 obtain ⟨p,hp,k1⟩:=k f1 f2 h1 h2
 have hpp:(p++f3).Perm (f1++(f2++f3)):=by rw [← List.append_assoc];exact List.Perm.append_right _ hp
 exact ⟨hb,p++f3,⟨p,f3,rfl,k1,h4⟩,hpp.nodup_iff.2 hn,fun b hb'=>h3 b (hpp.mem_iff.1 hb')⟩
section
variable {α β:Type} {R:Rep α} {S:Rep β} {w0 w:World} {Γ:List Asn} {E:TypeId} {v:Value}
def vv (R:Rep α) (E:TypeId) (v:Value) (xs:List α) (i:Nat) (ec:List Value):Asn where
 holds w fp:=(∀ b∈fp,b<w.heap.size)∧∀ w' y f',(∀ b∈fp,w'.heap[b]? = w.heap[b]?)→R.own w' ec y f'→∃ p,p.Perm (f'++fp)∧(ay R E).own w' [v] (xs.set i y) p
 ext h he:=by
  refine ⟨fun b hb=>?_,fun w'' y f' he' ho=>h.2 w'' y f' (fun b hb=>(he' b hb).trans (he b hb)) ho⟩
  have h1:=h.1 b hb
  have h2:=he b hb
  rw [Array.getElem?_eq_getElem h1] at h2
  exact (Array.getElem?_eq_some_iff.1 h2).1
 lt h:=h.1
theorem mu {w:World}:∀ {xs:List α} {ccs:List Value} {f:List Nat},dN R w ccs xs f→∀ (k:Nat) (hk:k<xs.length),
  ∃ ec f1 f2 f3,R.own w ec xs[k] f2∧f=f1++(f2++f3)∧(∀ j c,ec[j]? = some c→ccs[k*R.sz+j]? = some c) ∧
   ∀ w' y f',(∀ b∈f1++f3,w'.heap[b]? = w.heap[b]?)→R.own w' ec y f'→dN R w' ccs (xs.set k y) (f1++(f'++f3))
 | [],_,_,_,k,hk=>absurd hk (by simp)
 | x :: xs,_,_,h,k,hk=>by
  obtain ⟨ec,rest,f1,f2,rfl,rfl,h1,h2⟩:=h
  cases k with
  | zero =>
   refine ⟨ec,[],f1,f2,h1,rfl,fun j c hj=>?_,fun w' y f' he ho=>?_⟩
   ·have hlt:j<ec.length:=(List.getElem?_eq_some_iff.1 hj).1
    rw [Nat.zero_mul,Nat.zero_add,List.getElem?_append_left hlt];exact hj
   ·exact ⟨ec,rest,f',f2,rfl,rfl,ho,fz h2 fun b hb=>he b (by simpa using hb)⟩
  | succ k =>
   obtain ⟨ec',g1,g2,g3,k1,rfl,k3,k4⟩:=mu h2 k (by simpa using hk)
   refine ⟨ec',f1++g1,g2,g3,by simpa using k1,by simp,fun j c hj=>?_,fun w' y f' he ho=>?_⟩
   ·have e:(k+1)*R.sz+j=ec.length+(k*R.sz+j):=by rw [R.rd_len (R.own_rd h1),Nat.add_mul];omega
    rw [e,List.getElem?_append_right (by omega),Nat.add_sub_cancel_left]
    exact k3 j c hj
   ·refine ⟨ec,rest,f1,g1++(f'++g3),rfl,by simp,R.own_ext h1 fun b hb=>he b (by simp [hb]),k4 w' y f' (fun b hb=>he b ?_) ho⟩
    rcases List.mem_append.1 hb with h | h
    ·simp [h]
    ·simp [h]
theorem Sat.takeOut {xs:List α} {g ln cap m:Nat} {i:Int} {u:α} {ec:List Value} (hS:Sat w0 w (Own (ay R E) [v] xs :: Γ)) (hv:v=.slice (some ⟨g,0,none⟩) ln cap) (h:ix xs i=some u) (hn:R.sz=m) (hl:ec.length=m)
  (hm:∀ j c,ec[j]? = some c→w.cell? ⟨g,i.toNat*m+j,none⟩=some c):Sat w0 w (Own R ec u :: vv R E v xs i.toNat ec :: Γ):=by
 obtain ⟨k,rfl,hk,rfl⟩:=gi h
 subst hv hn
 refine hS.splitp fun f hf=>?_
 rcases hf with ⟨_,h2,_⟩ | ⟨g',cap',cur,ccs,fe,hv,hg,h1,h2,h3,h4,h5,rfl⟩
 ·subst h2;simp at hk
 obtain ⟨rfl,rfl,rfl⟩:g=g'∧ln=xs.length∧cap=cap':=by simpa using hv
 obtain ⟨ec',f1,f2,f3,k1,rfl,k3,k4⟩:=mu h5 k hk
 have hec:ec=ec':=by
  refine List.ext_getElem (by rw [hl,R.rd_len (R.own_rd k1)]) fun j hj1 hj2=>?_
  have e1:=hm j ec[j] (List.getElem?_eq_getElem hj1)
  have e2:=k3 j ec'[j] (List.getElem?_eq_getElem hj2)
  simp only [Int.toNat_natCast] at e1
  rw [cell_of_row w g _ cur E (0,0) hg,← Array.getElem?_toList] at e1
  rw [← h4,List.getElem?_take] at e2
  split at e2
  ·rw [e1] at e2;exact Option.some.inj e2
  ·cases e2
 subst hec
 refine ⟨f2,g :: (f1++f3),?_,k1,⟨fun b hb=>?_,fun w' y f' he ho=>⟨g :: (f1++(f'++f3)),?_,.inr ⟨g,cap,cur,ccs,_,by simp,by rw [he g (by simp)];exact hg,by simpa using h1,h2,h3,by simpa using h4,by
  simp only [Int.toNat_natCast]
  exact k4 w' y f' (fun b hb=>he b (List.mem_cons_of_mem _ hb)) ho,rfl⟩⟩⟩⟩
 ·refine List.perm_middle.trans (.cons _ ?_)
  rw [← List.append_assoc,← List.append_assoc]
  exact List.Perm.append_right _ List.perm_append_comm
 ·rcases List.mem_cons.1 hb with rfl | hb
  ·exact (Array.getElem?_eq_some_iff.1 hg).1
  ·refine fJ h5 b ?_
   rcases List.mem_append.1 hb with h | h <;> simp [h]
 ·refine .trans (.cons _ ?_) List.perm_middle.symm
  rw [← List.append_assoc,← List.append_assoc]
  exact List.Perm.append_right _ List.perm_append_comm
theorem Sat.unpair {c d:List Value} {x:α × β} (hS:Sat w0 w (Own (og R S) (c++d) x :: Γ)) (hc:c.length=R.sz):Sat w0 w (Own R c x.1 :: Own S d x.2 :: Γ):=by
 refine hS.splitp fun f hf=>?_
 obtain ⟨c1,c2,f1,f2,hcs,rfl,h1,h2⟩:=hf
 have hl:=R.rd_len (R.own_rd h1)
 obtain ⟨rfl,rfl⟩:=List.append_inj hcs (by omega)
 exact ⟨f1,f2,.refl _,h1,h2⟩
end
theorem Sat.rebase {a b w:World} {Γ:List Asn} (h:Sat b w Γ) (hx:Ext a b):Sat a w Γ:=by
 obtain ⟨hb,fp,h1,h2,h3⟩:=h
 exact ⟨Ext.trans hx hb,fp,h1,h2,fun x hx'=>Nat.le_trans hx.size (h3 x hx')⟩
theorem Sat.drop {w0 w:World} {Γ Δ:List Asn} (h:Sat w0 w (Γ++Δ)):Sat w0 w Δ:=by
 induction Γ with
 | nil=>simpa using h
 | cons A Γ ih=>exact ih h.tail
def roR {α:Type} (W:World) (R:Rep α):Rep α where
 sz:=R.sz
 rd _ cs x:=R.rd W cs x
 own _ cs x fp:=R.rd W cs x∧fp=[]
 rd_len h:=R.rd_len h
 rd_one h:=R.rd_one h
 rd_ext h _:=h
 own_rd h:=h.1
 own_ext h _:=h
 own_lt h:=by rw [h.2];simp
section
variable {α:Type} {R:Rep α} {W w w0 w':World} {E:TypeId} {Γ:List Asn} {v:Value} {xs:List α}
theorem wE (hx:Ext W w):∀ {xs:List α} {ccs:List Value},rdL (roR W R) w ccs xs→rdL R w ccs xs
 | [],_,h=>h
 | x :: xs,_,h=>by
  obtain ⟨ec,rest,rfl,h1,h2⟩:=h
  exact ⟨ec,rest,rfl,R.rd_ext h1 hx,wE hx h2⟩
theorem Au {cs:List Value} (hx:Ext W w) (h:(ay (roR W R) E).rd w cs xs):(ay R E).rd w cs xs:=by
 obtain ⟨ao,cap,ccs,h1,h2,h3,h4,h5,h6⟩:=h
 exact ⟨ao,cap,ccs,h1,h2,h3,h4,wE hx h5,h6⟩
theorem Sat.roOne {cs:List Value} {x:α} (hS:Sat w0 w Γ) (h:R.rd W cs x):Sat w0 w (Own (roR W R) cs x :: Γ):=hS.add ⟨h,rfl⟩
theorem uV {w2:World}:∀ {xs:List α} {ccs:List Value},rdL (roR W R) w ccs xs→dN (roR W R) w2 ccs xs []
 | [],_,h=>⟨h,rfl⟩
 | x :: xs,_,h=>by
  obtain ⟨ec,rest,rfl,h1,h2⟩:=h
  exact ⟨ec,rest,[],[],rfl,rfl,⟨h1,rfl⟩,uV h2⟩
theorem ja (h:(ay (roR W R) E).rd w [v] xs):∃ ao c ccs,v=.slice ao xs.length c∧(ao=none→c=0)∧m4 w ao ccs∧rdL (roR W R) w ccs xs:=by
 obtain ⟨ao,cap,ccs,hv,h1,h2,h3,h4,h5⟩:=h
 exact ⟨ao,cap,ccs,by simpa using hv,h3,h5,h4⟩
theorem Sat.roL {ccs:List Value} {w2:World} (hS:Sat w0 w Γ) (h:rdL (roR W R) w2 ccs xs):Sat w0 w (nW (roR W R) ccs xs :: Γ):=hS.add (uV h)
def xb (w:World) (E:TypeId) (ao:Option Addr) (ccs:List Value) (fp f2:List Nat):Prop :=
 (ccs=[]∧fp=f2)∨∃ g off cur,ao=some ⟨g,off,none⟩∧w.heap[g]? = some (.cells cur E (0,0))∧(∀ j c,ccs[j]? = some c→cur[off+j]? = some c)∧fp=g :: f2
def nN {α:Type} (R:Rep α) (E:TypeId):Rep (List α) where
 sz:=1
 rd w cs xs:=(ay R E).rd w cs xs
 own w cs xs fp:=∃ ao cap ccs f2,cs=[.slice ao xs.length cap]∧xs.length≤cap∧cap≤maxLen∧(ao=none→cap=0)∧dN R w ccs xs f2∧xb w E ao ccs fp f2
 rd_len h:=(ay R E).rd_len h
 rd_one h:=(ay R E).rd_one h
 rd_ext h he:=(ay R E).rd_ext h he
 own_rd h:=by
  obtain ⟨ao,cap,ccs,f2,rfl,h1,h2,h3,h4,h5⟩:=h
  refine ⟨ao,cap,ccs,rfl,h1,h2,h3,fD h4,?_⟩
  rcases h5 with ⟨rfl,_⟩ | ⟨g,off,cur,rfl,hg,hc,_⟩
  ·exact .inl rfl
  ·refine .inr ⟨g,off,rfl,fun j c hj=>?_⟩
   rw [cell_of_row _ g _ cur E (0,0) hg];exact hc j c hj
 own_ext h he:=by
  obtain ⟨ao,cap,ccs,f2,rfl,h1,h2,h3,h4,h5⟩:=h
  rcases h5 with ⟨hc,rfl⟩ | ⟨g,off,cur,rfl,hg,hc,rfl⟩
  ·exact ⟨ao,cap,ccs,_,rfl,h1,h2,h3,fz h4 he,.inl ⟨hc,rfl⟩⟩
  ·exact ⟨_,cap,ccs,f2,rfl,h1,h2,h3,fz h4 (fun b hb=>he b (by simp [hb])),.inr ⟨g,off,cur,rfl,by rw [he g (by simp)];exact hg,hc,rfl⟩⟩
 own_lt h:=by
  obtain ⟨ao,cap,ccs,f2,rfl,h1,h2,h3,h4,h5⟩:=h
  rcases h5 with ⟨hc,rfl⟩ | ⟨g,off,cur,rfl,hg,hc,rfl⟩
  ·exact fJ h4
  ·intro b hb
   rcases List.mem_cons.1 hb with rfl | hb
   ·exact (Array.getElem?_eq_some_iff.1 hg).1
   ·exact fJ h4 b hb
theorem Sat.toTail (hS:Sat w0 w (Own (ay R E) [v] xs :: Γ)):Sat w0 w (Own (nN R E) [v] xs :: Γ):=by
 refine hS.conv fun f hf=>?_
 rcases hf with ⟨hv,rfl,rfl⟩ | ⟨g,cap,cur,ccs,f2,hv,hg,h1,h2,h3,h4,h5,rfl⟩
 ·exact ⟨none,0,[],[],hv,Nat.le_refl _,Nat.zero_le _,fun _=>rfl,⟨rfl,rfl⟩,.inl ⟨rfl,rfl⟩⟩
 ·refine ⟨_,cap,ccs,f2,hv,h1,h2,by simp,h5,.inr ⟨g,0,cur,rfl,hg,fun j c hj=>?_,rfl⟩⟩
  rw [Nat.zero_add,← Array.getElem?_toList]
  rw [← h4,List.getElem?_take] at hj
  split at hj
  ·exact hj
  ·cases hj
def qL (R:Rep α) (E:TypeId) (v:Value) (xs:List α):Asn where
 holds w fp:=∃ ao cap ec rest f2,v=.slice ao xs.length cap∧xs.length≤cap∧cap≤maxLen∧(ao=none→cap=0)∧ec.length=R.sz∧dN R w rest xs.tail f2∧xb w E ao (ec++rest) fp f2
 ext h he:=by
  obtain ⟨ao,cap,ec,rest,f2,rfl,h1,h2,h3,hl,h4,h5⟩:=h
  rcases h5 with ⟨hc,rfl⟩ | ⟨g,off,cur,rfl,hg,hc,rfl⟩
  ·exact ⟨ao,cap,ec,rest,_,rfl,h1,h2,h3,hl,fz h4 he,.inl ⟨hc,rfl⟩⟩
  ·exact ⟨_,cap,ec,rest,f2,rfl,h1,h2,h3,hl,fz h4 (fun b hb=>he b (by simp [hb])),.inr ⟨g,off,cur,rfl,by rw [he g (by simp)];exact hg,hc,rfl⟩⟩
 lt h:=by
  obtain ⟨ao,cap,ec,rest,f2,rfl,h1,h2,h3,hl,h4,h5⟩:=h
  rcases h5 with ⟨hc,rfl⟩ | ⟨g,off,cur,rfl,hg,hc,rfl⟩
  ·exact fJ h4
  ·intro b hb
   rcases List.mem_cons.1 hb with rfl | hb
   ·exact (Array.getElem?_eq_some_iff.1 hg).1
   ·exact fJ h4 b hb
theorem Sat.behead {u:α} {ec:List Value} {m b off:Nat} (hS:Sat w0 w (Own (nN R E) [v] xs :: Γ)) (h:ix xs 0=some u) (hn:R.sz=m) (hpos:0<m) (hl:ec.length=m)
  (hv:∃ ln cap,v=.slice (some ⟨b,off,none⟩) ln cap) (hm:∀ j c,ec[j]? = some c→w.cell? ⟨b,off+j,none⟩=some c):Sat w0 w (Own R ec u :: qL R E v xs :: Γ):=by
 subst hn
 refine hS.splitp fun f hf=>?_
 obtain ⟨ao,cap,ccs,f2,hcs,h1,h2,h3,h4,h5⟩:=hf
 cases xs with
 | nil=>simp [ix] at h
 | cons x xs =>
  obtain rfl:x=u:=by simpa [ix] using h
  obtain ⟨ec',rest,g1,g2,rfl,rfl,k1,k2⟩:=h4
  have hl':=R.rd_len (R.own_rd k1)
  obtain ⟨ln,cap',rfl⟩:=hv
  simp only [List.cons.injEq,and_true,Value.slice.injEq] at hcs
  obtain ⟨rfl,rfl,rfl⟩:=hcs
  rcases h5 with ⟨hc,rfl⟩ | ⟨g,off',cur,hao,hg,hc,rfl⟩
  ·rw [List.append_eq_nil_iff] at hc;rw [hc.1] at hl';simp at hl';omega
  ·simp only [Option.some.injEq,Addr.mk.injEq,and_true] at hao
   obtain ⟨rfl,rfl⟩:=hao
   have hec:ec=ec':=by
    refine List.ext_getElem (by omega) fun j hj1 hj2=>?_
    have e1:=hm j ec[j] (List.getElem?_eq_getElem hj1)
    have e2:=hc j ec'[j] (by rw [List.getElem?_append_left hj2];exact List.getElem?_eq_getElem hj2)
    rw [cell_of_row w b _ cur E (0,0) hg,e2] at e1
    exact (Option.some.inj e1).symm
   subst hec
   exact ⟨g1,b :: g2,List.perm_middle,k1,_,_,ec,rest,g2,rfl,h1,h2,h3,hl,k2,.inr ⟨b,off,cur,rfl,hg,hc,rfl⟩⟩
theorem Sat.behead' (hS:Sat w0 w (Own (nN R E) [v] xs :: Γ)) (h:0<xs.length):Sat w0 w (qL R E v xs :: Γ):=by
 obtain ⟨ao,hao⟩:∃ A,A=Asn.mk (fun w fp=>True∧∀ b∈fp,b<w.heap.size) (fun h he=>⟨trivial,fun b hb=>by
  have h1:=h.2 b hb
  have h2:=he b hb
  rw [Array.getElem?_eq_getElem h1] at h2
  exact (Array.getElem?_eq_some_iff.1 h2).1⟩) (fun h=>h.2):=⟨_,rfl⟩
 refine Sat.tail (A:=ao) ?_
 refine hS.splitp fun f hf=>?_
 obtain ⟨ao',cap,ccs,f2,hcs,h1,h2,h3,h4,h5⟩:=hf
 cases xs with
 | nil=>simp at h
 | cons x xs =>
  obtain ⟨ec',rest,g1,g2,rfl,rfl,k1,k2⟩:=h4
  have hl':=R.rd_len (R.own_rd k1)
  have hv:v=.slice ao' (x :: xs).length cap:=by simpa using hcs
  subst hao
  rcases h5 with ⟨hc,rfl⟩ | ⟨g,off',cur,hao,hg,hc,rfl⟩
  ·exact ⟨g1,g2,.refl _,⟨trivial,R.own_lt k1⟩,ao',cap,ec',rest,g2,hv,h1,h2,h3,hl',k2,.inl ⟨hc,rfl⟩⟩
  ·exact ⟨g1,g :: g2,List.perm_middle,⟨trivial,R.own_lt k1⟩,ao',cap,ec',rest,g2,hv,h1,h2,h3,hl',k2,.inr ⟨g,off',cur,hao,hg,hc,rfl⟩⟩
end
section
variable {P:Program} {n:Nat} {ops:Array Oper} {K:Env→World→Prop} {rest:List Oper} {e:Env} {w w0:World} {v:Value} {d:Nat} {ty:TypeId} {pos:String} {af:Array Edge} {Γ:List Asn} {x y:Operand} {α:Type} {R:Rep α} {E:TypeId}
theorem di {t:TypeId} {lo:Operand} [ht:SliceT P t E] {z:List Value} {m bytes:Nat} [hz:ElemT P E z m bytes] (hn:R.sz=m) (hpos:0<m) {xs ys:List α} (hS:Sat w0 w (qL R E v xs :: Γ)) (hx:ev e x=v) (hlo:ev e lo=.int .i64 1) (hq:slc xs 1 (xs.length:Int)=some ys) (hd:d<n)
  (hK:∀ v',Sat w0 w (Own (nN R E) [v'] ys :: Γ)→EL P n ops K rest (upd e d v') w):EL P n ops K (⟨some d,.slice t x (some lo) none none,ty,pos,af,none⟩ :: rest) e w:=by
 have hlen:1≤xs.length∧ys=xs.tail:=by
  unfold slc at hq
  split at hq
  ·rename_i h0
   refine ⟨by omega,?_⟩
   have:=Option.some.inj hq
   rw [← this];simp
  ·cases hq
 obtain ⟨hl1,rfl⟩:=hlen
 obtain ⟨fp,⟨ao,cap,ec,rs,f2,rfl,h1,h2,h3,hl,h4,h5⟩,_⟩:=hS.head
 have hz:=hz.h
 cases hq':P.info? E with
 | none=>simp [hq'] at hz
 | some inf =>
  simp [hq'] at hz
  have hsz:inf.size=R.sz:=by rw [hn];exact hz.2.1
  refine lL (v:=.slice (if cap=1 then ao else ao.map (·.add (1*inf.size))) (xs.length-1) (cap-1)) ?_ hd (hK _ ?_)
  ·intro w' _
   have hb:(Instr.sliceBounds true xs.length cap (some (.int .i64 1)) none none).run P w'=.ok (1,xs.length,cap) w':=by
    have h9:xs.length≤cap:=h1
    simp [Instr.sliceBounds,Instr.sliceBound,asIntOf,h9,hl1]
    intro h;omega
   unfold execOp
   simp only [hx,Instr.sliceAt,Sem.run_bind,run_underlying ht.h,Result.andThen_ok,Instr.slice,Option.map_some,hlo,Option.map_none,hb,sizeOf,typeInfo,hq',run_program,Sem.run_pure]
  ·refine hS.conv fun f hf=>?_
   obtain ⟨ao',cap',ec',rs',f2',hv,k1,k2,k3,kl,k4,k5⟩:=hf
   simp only [Value.slice.injEq] at hv
   obtain ⟨rfl,_,rfl⟩:=hv
   have hrl:=gk (fD k4)
   refine ⟨(if cap=1 then ao else ao.map (·.add (1*inf.size))),cap-1,rs',f2',by simp,by simp;omega,by omega,?_,k4,?_⟩
   ·intro e0
    split at e0
    ·omega
    ·cases ao with
     | none=>have:=k3 rfl;omega
     | some _=>simp at e0
   ·rcases k5 with ⟨hc,rfl⟩ | ⟨g,off,cur,rfl,hg,hc,rfl⟩
    ·rw [List.append_eq_nil_iff] at hc
     exact .inl ⟨hc.2,rfl⟩
    ·by_cases hc1:cap=1
     ·
      have:xs.tail=[]:=by apply List.eq_nil_of_length_eq_zero;simp;omega
      rw [if_pos hc1]
      have hr0:rs'=[]:=by apply List.eq_nil_of_length_eq_zero;rw [hrl,this];simp
      subst hr0
      exact .inr ⟨g,off,cur,rfl,hg,by simp,rfl⟩
     ·rw [if_neg hc1]
      refine .inr ⟨g,off+inf.size,cur,by simp [Addr.add_lit],hg,fun j c hj=>?_,rfl⟩
      rw [hsz,← kl,Nat.add_assoc]
      exact hc _ c (by rw [List.getElem?_append_right (by omega),Nat.add_sub_cancel_left];exact hj)
theorem fU {t:TypeId} [ht:SliceT P t E] {zz:List Value} {m bytes:Nat} [hz:ElemT P E zz m bytes] {xs:List α} (hS:Sat w0 w (Own (nN R E) [v] xs :: Γ)) (hs:ev e x=v)
  (hn:R.sz=m) (hpos:0<m) {k:IntKind} (hi:ev e y=.int k 0) {u:α} (h:ix xs 0=some u) (hd:d<n)
  (hK:∀ b off ec,(∃ ln cap,v=.slice (some ⟨b,off,none⟩) ln cap)→R.rd w ec u→(∀ j c,ec[j]? = some c→w.cell? ⟨b,off+j,none⟩=some c)→EL P n ops K rest (upd e d (.pointer (some ⟨b,off,none⟩))) w) :
  EL P n ops K (⟨some d,.indexAddr t x y,ty,pos,af,none⟩ :: rest) e w:=by
 have hr:(ay R E).rd w [v] xs:=hS.rd
 obtain ⟨ao,cap,ccs,hv,h1,h2,h3,h4,h5⟩:=hr
 obtain rfl:v=.slice ao xs.length cap:=by simpa using hv
 obtain ⟨k',hk0,hk,rfl⟩:=gi h
 obtain rfl:k'=0:=by omega
 obtain ⟨ec,hec,hcc⟩:=mz h4 0 hk
 have hz:=hz.h
 have hlen:=gk h4
 cases hq:P.info? E with
 | none=>simp [hq] at hz
 | some inf =>
  simp [hq] at hz
  obtain ⟨b,off,rfl,hc⟩:∃ b off,ao=some ⟨b,off,none⟩∧∀ j c,ccs[j]? = some c→w.cell? ⟨b,off+j,none⟩=some c:=by
   rcases h5 with rfl | ⟨b,off,rfl,hc⟩
   ·have:0<xs.length*R.sz:=Nat.mul_pos (by omega) (by omega)
    simp at hlen;omega
   ·exact ⟨b,off,rfl,hc⟩
  refine lL (v:=.pointer (some ⟨b,off,none⟩)) ?_ hd (hK b off ec ⟨_,_,rfl⟩ hec fun j c hj=>hc _ _ (by have:=hcc j c hj;simpa using this))
  intro w' _
  unfold execOp
  simp [hs,hi,Instr.indexAt,asIntOf,run_underlying ht.h,sizeOf,typeInfo,hq,hk,Addr.add_lit]
theorem xk {f:FuncId} {g:Operand} {args:Array Operand} {tys:Array TypeId} {vals:Array Value} {R:Ending→World→Prop} (hf:ev e g=.func (.func f) #[] #[]) (hg:Goes P f) (hc:Calls P f vals w R) (hv:(args.toList.map (ev e)).toArray=vals) (hd:d<n)
  (hK:∀ x w',R x w'→∃ v,x=.returned v∧EL P n ops K rest (upd e d v) w'):EL P n ops K (⟨some d,.call ⟨.value g,args,tys⟩,ty,pos,af,none⟩ :: rest) e w:=by
 intro a ha
 refine wpList_plain rfl fun K' hK'=>?_
 unfold Oper.wp execOp
 have he:args.map (ev e)=vals:=by rw [← hv];apply Array.ext';simp
 simp only [ha.eval,resolve,hf,Deferred.ofValue,Sem.run_bind,Sem.run_pure,Result.andThen_ok,Array.empty_append,Array.append_empty,he,invoke,hg.run,Oper.upon_enter]
 refine hc.mono fun x w' hx=>?_
 obtain ⟨v,rfl,h⟩:=hK x w' hx
 exact hK' _ _ (h _ (ha.put hd v))
end

def fV (a b:Int):Int:=IntKind.i64.wrap ((BitVec.ofInt IntKind.i64.bits a &&& BitVec.ofInt IntKind.i64.bits b).toNat)
def jv (a b:Int):Int:=IntKind.i64.wrap ((BitVec.ofInt IntKind.i64.bits a ^^^ BitVec.ofInt IntKind.i64.bits b).toNat)
def sr (a b:Int):Option Int:=if 0≤b then some (a.fdiv (2 ^ (min b.toNat IntKind.i64.bits))) else none
def mb (s r:ByteArray):Option ByteArray:=if s.size+r.size≤9223372036854775807 then some (s++r) else none
theorem l0 {s r c:ByteArray} (h:mb s r=some c):c.size≤9223372036854775807:=by
 unfold mb at h
 split at h
 ·rename_i h0
  obtain rfl:=Option.some.inj h
  rw [ByteArray.size_append];exact h0
 ·cases h
section
variable {P:Program} {e:Env} {w:World} {d:Option Nat} {ty:TypeId} {pos:String} {af:Array Edge} {x y:Operand}
theorem tY {t u:TypeId} {a b:Int} (hx:ev e x=.int .i64 a) (hy:ev e y=.int .i64 b):PV P ⟨d,.binOp .and t x y u,ty,pos,af,none⟩ e w (.int .i64 (fV a b)):=fun w' _=>by
 unfold execOp fV;simp [hx,hy,eqGuard,binOp,Op.intBits]
theorem zH {t u:TypeId} {a b:Int} (hx:ev e x=.int .i64 a) (hy:ev e y=.int .i64 b):PV P ⟨d,.binOp .xor t x y u,ty,pos,af,none⟩ e w (.int .i64 (jv a b)):=fun w' _=>by
 unfold execOp jv;simp [hx,hy,eqGuard,binOp,Op.intBits]
theorem w8 {t u:TypeId} {k2:IntKind} {a b c:Int} (hx:ev e x=.int .i64 a) (hy:ev e y=.int k2 b) (h:sr a b=some c):PV P ⟨d,.binOp .shr t x y u,ty,pos,af,none⟩ e w (.int .i64 c):=fun w' _=>by
 unfold sr at h
 split at h
 ·rename_i h0
  obtain rfl:=Option.some.inj h
  have h1:¬ b<0:=by omega
  unfold execOp;simp [hx,hy,eqGuard,binOp,Op.shift,h1]
 ·cases h
theorem kH {t u:TypeId} {s r c:ByteArray} (hx:ev e x=.string s) (hy:ev e y=.string r) (h:mb s r=some c):PV P ⟨d,.binOp .add t x y u,ty,pos,af,none⟩ e w (.string c):=fun w' _=>by
 unfold mb at h
 split at h
 ·rename_i h0
  obtain rfl:=Option.some.inj h
  have h1:¬ (((s.size+r.size:Nat):Int) > IntKind.i64.max):=by
   have:IntKind.i64.max=9223372036854775807:=by decide
   rw [this];omega
  unfold execOp;simp only [hx,hy,eqGuard,binOp,Op.stringOp,Sem.run_bind,Sem.run_pure,Result.andThen_ok,if_neg h1]
  simp
 ·cases h
instance flat_str:FlatR jj (fun s=>.string s):=⟨fun h=>h.1⟩
theorem wk {E:TypeId} (i:Nat) {xs:List ByteArray} {v:Value} {w0 w:World} {Γ:List Asn} (hS:Sat w0 w Γ) (hi:Γ[i]? = some (Own (ay jj E) [v] xs)) {j:Int} {u:ByteArray} (h:ix xs j=some u):u.size≤9223372036854775807:=by
 obtain ⟨k,rfl,hk,rfl⟩:=gi h
 obtain ⟨ao,cap,ccs,_,_,_,_,h4,_⟩:=hS.rdAt (R:=ay jj E) i hi
 obtain ⟨ec,hec,_⟩:=mz h4 k hk
 exact hec.2
def ssl (s:ByteArray) (l h:Int):Option ByteArray:=if 0≤l∧l≤h∧h≤(s.size:Int) then some (s.extract l.toNat h.toNat) else none
theorem qJ {s c:ByteArray} {l h:Int} (hs:s.size≤9223372036854775807) (hq:ssl s l h=some c):c.size≤9223372036854775807:=by
 unfold ssl at hq
 split at hq
 ·obtain rfl:=Option.some.inj hq
  rw [ByteArray.size_extract];omega
 ·cases hq
theorem pu {t:TypeId} {lo hi:Option Operand} {s c:ByteArray} (ht:P.underlying t=some .string) (hx:ev e x=.string s) {l h:Int} (hlo:(lo.map (ev e)=some (.int .i64 l))∨(lo=none∧l=0)) (hhi:(hi.map (ev e)=some (.int .i64 h))∨(hi=none∧h=s.size)) (hq:ssl s l h=some c):PV P ⟨d,.slice t x lo hi none,ty,pos,af,none⟩ e w (.string c):=fun w' _=>by
  unfold ssl at hq
  split at hq
  case isFalse=>cases hq
  rename_i h0
  obtain rfl:=Option.some.inj hq
  obtain ⟨l',rfl⟩:=Int.eq_ofNat_of_zero_le h0.1
  obtain ⟨h',rfl⟩:=Int.eq_ofNat_of_zero_le (Int.le_trans h0.1 h0.2.1)
  obtain ⟨_,hlh,hh⟩:=h0
  replace hlh:l'≤h':=by omega
  replace hh:h'≤s.size:=by omega
  simp only [Int.toNat_natCast]
  have hb:(Instr.sliceBounds false s.size s.size (lo.map (ev e)) (hi.map (ev e)) none).run P w'=.ok (l',h',s.size) w':=by
    rcases hlo with e1 | ⟨e1,e1'⟩ <;> rcases hhi with e2 | ⟨e2,e2'⟩
    all_goals
      (try rw [e1]);(try rw [e2])
      first
        | (simp [Instr.sliceBounds,Instr.sliceBound,asIntOf,hh,hlh];done)
        | (have:l'=0:=by omega
           subst this
           simp [Instr.sliceBounds,Instr.sliceBound,asIntOf,hh,hlh];done)
        | (have:h'=s.size:=by omega
           subst this
           simp [Instr.sliceBounds,Instr.sliceBound,asIntOf,hlh];done)
        | (have:l'=0:=by omega
           have:h'=s.size:=by omega
           subst_vars
           simp [Instr.sliceBounds,Instr.sliceBound,asIntOf])
  unfold execOp
  simp only [hx,Instr.sliceAt,Sem.run_bind,run_underlying ht,Result.andThen_ok,Instr.slice,hb,Sem.run_pure,Option.map_none,Option.isSome_none,Bool.false_eq_true,if_false]
end
theorem sG:∀ (vs:List Value) (i:Nat) (cells:List Value),cells.length=i+vs.length→n9 (fun i=>some (i*1,1)) cells ((vs.zipIdx i).map fun p=>(p.2,[p.1]))=some (cells.take i++vs)
 | [],i,cells,h=>by
  simp only [List.length_nil,Nat.add_zero] at h
  show some cells=some (cells.take i++[])
  rw [List.append_nil,List.take_of_length_le (by omega)]
 | v :: vs,i,cells,h=>by
  simp only [List.length_cons] at h
  have e1:i*1=i:=Nat.mul_one i
  simp only [List.zipIdx_cons,List.map_cons,n9,List.length_singleton,e1]
  rw [show Nat.beq 1 1=true from rfl,Bool.true_and]
  have hb:Nat.ble (i+1) cells.length=true:=by rw [Nat.ble_eq];omega
  rw [hb,cond_true,sG vs (i+1) _ (by simp;omega)]
  congr 1
  rw [List.take_append_of_le_length (by simp;omega),List.take_of_length_le (by simp;omega)]
  simp
section
variable {P:Program} {n:Nat} {ops:Array Oper} {K:Env→World→Prop} {rest:List Oper} {e:Env} {w w0:World} {d:Nat} {ty:TypeId} {pos:String} {af:Array Edge} {Γ:List Asn} {E:TypeId} {α:Type} {R:Rep α}
theorem c9 {t:TypeId} [ht:SliceT P t E] {z:List Value} {bytes:Nat} [hz:ElemT P E z 1 bytes] {parts:Array (Nat × Operand)} {k:Nat} (vs:List Value) {xs:List α} (hsz:R.sz=1) (hk:vs.length=k) (hxl:xs.length=k) (hk1:Nat.ble k 16777216=true)
  (hp:parts.toList.map (fun p=>(p.1,(ev e p.2).cells))=((vs.zipIdx 0).map fun p=>(p.2,[p.1].toArray))) (hown:∀ w,dN R w vs xs []) (hS:Sat w0 w Γ) (hd:d<n)
  (hK:∀ w' v,Sat w0 w' (Own (ay R E) [v] xs :: Γ)→Ext w w'→EL P n ops K rest (upd e d v) w'):EL P n ops K (⟨some d,.buildSlice t k parts,ty,pos,af,none⟩ :: rest) e w:=by
 intro a ha
 refine wpList_plain rfl fun K' hK'=>?_
 have hz:=hz.h
 cases hi:P.info? E with
 | none=>simp [hi] at hz
 | some i =>
 cases hzz:i.zero with
 | none=>simp [hi,hzz] at hz
 | some zv =>
 simp [hi,hzz] at hz
 obtain ⟨hz1,hz2,hz3⟩:=hz
 have hk':¬ (k*1 > 2 ^ 24):=by have:=Nat.le_of_ble_eq_true hk1;omega
 have hfill:∀ A:Array Value,A.size=k→Instr.fill (fun i=>some (i*1,1)) A (parts.toList.map fun p=>(p.1,ev e p.2))=some vs.toArray:=by
  intro A hA
  have:=rU (fun i=>some (i*1,1)) (parts.toList.map fun p=>(p.1,ev e p.2)) ((vs.zipIdx 0).map fun p=>(p.2,[p.1])) A.toList (r:=vs) (by
   rw [List.map_map,List.map_map];exact hp) (by rw [sG vs 0 A.toList (by simp;omega)];simp)
  simpa using this
 have hr:(Instr.buildSlice t k (parts.map fun p=>(p.1,ev e p.2))).run P w=.ok (.slice (some ⟨w.heap.size,0,none⟩) k k) (w.alloc (.cells vs.toArray E)):=by
  unfold Instr.buildSlice
  simp only [run_underlying ht.h,sizeOf,typeInfo,hi,hz2,Sem.run_bind,Sem.run_pure,run_program,Result.andThen_ok,if_neg hk',Sem.run_ite,Array.toList_map]
  by_cases h0:k*1=0
  ·simp only [h0,if_true,Sem.run_pure,Result.andThen_ok]
   have hk0:k=0:=by omega
   rw [hfill _ (by simp;omega)]
   simp [newRow,hk0]
  ·simp only [h0,if_false,zeroValue,typeInfo,hi,hzz,Sem.run_bind,Sem.run_pure,run_program,Result.andThen_ok]
   rw [hfill _ (by simp)]
   simp [newRow]
 unfold Oper.wp execOp
 simp only [ha.eval,hr,Sem.run_bind,Sem.run_pure,Result.andThen_ok,Oper.upon_value]
 refine hK' _ _ (hK _ _ ?_ (jG _ _) _ (ha.put hd _))
 refine (hS.box E vs).conv fun f hf=>?_
 obtain ⟨rfl,hf⟩:=hf
 have h2:=Nat.le_of_ble_eq_true hk1
 exact .inr ⟨w.heap.size,k,vs.toArray,vs,[],by rw [hxl],hf,by omega,by unfold maxLen;omega,by simp [hsz,hk],by rw [hsz,hxl,Nat.mul_one];exact List.take_of_length_le (by simp;omega),hown _,by simp⟩
theorem kn (xs:List Int) (w:World):dN bN w (xs.map (Value.int .i64)) xs []:=by
 induction xs with
 | nil=>exact ⟨rfl,rfl⟩
 | cons x xs ih=>exact ⟨[.int .i64 x],_,[],[],rfl,rfl,⟨rfl,rfl⟩,ih⟩
theorem lF {xs:List ByteArray} (h:xs.all (fun s=>Nat.ble s.size 1000000)=true) (w:World):dN jj w (xs.map Value.string) xs []:=by
 induction xs with
 | nil=>exact ⟨rfl,rfl⟩
 | cons x xs ih =>
  rw [List.all_cons,Bool.and_eq_true] at h
  exact ⟨[.string x],_,[],[],rfl,rfl,⟨⟨rfl,by have:=Nat.le_of_ble_eq_true h.1;omega⟩,rfl⟩,ih h.2⟩
end
def nJ {α:Type} (R:Rep α) (j:Nat) (c:Value) (u y:α):Prop:=∀ w ec f,R.own w ec u f→j<ec.length∧R.own w (ec.set j c) y f
theorem zf {s:ByteArray} (hs:s.size≤9223372036854775807) (x:ByteArray):nJ jj 0 (.string s) x s:=fun w ec f h=>by obtain ⟨⟨rfl,_⟩,rfl⟩:=h;exact ⟨by simp,⟨rfl,hs⟩,rfl⟩
theorem yW {α β:Type} {R:Rep α} {S:Rep β} {j:Nat} {c:Value} {x:α × β} {y:α} (h:nJ R j c x.1 y):nJ (og R S) j c x (y,x.2):=fun w ec f hf=>by
 obtain ⟨c1,c2,f1,f2,rfl,rfl,h1,h2⟩:=hf
 obtain ⟨k1,k2⟩:=h w c1 f1 h1
 exact ⟨by simp;omega,c1.set j c,c2,f1,f2,List.set_append_left _ _ k1,rfl,k2,h2⟩
theorem ug {α:Type} {R:Rep α} {w:World} {j:Nat} {c:Value} {y:α}:∀ {xs:List α} {ccs:List Value} {f:List Nat},dN R w ccs xs f→∀ (k:Nat) (hk:k<xs.length),nJ R j c xs[k] y→dN R w (ccs.set (k*R.sz+j) c) (xs.set k y) f
 | [],_,_,_,k,hk,_=>absurd hk (by simp)
 | x :: xs,_,_,h,k,hk,hu=>by
  obtain ⟨ec,rest,f1,f2,rfl,rfl,h1,h2⟩:=h
  cases k with
  | zero =>
   obtain ⟨k1,k2⟩:=hu w ec f1 h1
   exact ⟨ec.set j c,rest,f1,f2,by rw [Nat.zero_mul,Nat.zero_add,List.set_append_left _ _ k1],rfl,k2,h2⟩
  | succ k =>
   have hl:=R.rd_len (R.own_rd h1)
   refine ⟨ec,rest.set (k*R.sz+j) c,f1,f2,?_,rfl,h1,ug h2 k (by simpa using hk) (by simpa using hu)⟩
   rw [List.set_append_right _ _ (by rw [Nat.succ_mul];omega)]
   congr 2;rw [Nat.succ_mul];omega
section
variable {P:Program} {n:Nat} {ops:Array Oper} {K:Env→World→Prop} {rest:List Oper} {e:Env} {w w0:World} {v:Value} {ty:TypeId} {pos:String} {af:Array Edge} {Γ:List Asn} {x y:Operand} {α:Type} {R:Rep α} {E:TypeId}
theorem wL {t:TypeId} {z:List Value} {bytes:Nat} [hz:ElemT P t z 1 bytes] {xs ys:List α} {g ln cap o j m:Nat} {u yv:α} {c:Value} (hv:v=.slice (some ⟨g,0,none⟩) ln cap)
  (hS:Sat w0 w (Own (ay R E) [v] xs :: Γ)) {i:Int} (hix:ix xs i=some u) (h:sto xs i yv=some ys) (hn:R.sz=m) (ho:o=i.toNat*m+j) (hx:ev e x=.pointer (some ⟨g,o,none⟩)) (hy:(ev e y).cells=[c].toArray) (h1:c.oneCell'=true)
  (hup:nJ R j c u yv) (hK:∀ w',Sat w0 w' (Own (ay R E) [v] ys :: Γ)→EL P n ops K rest e w'):EL P n ops K (⟨none,.store t x y,ty,pos,af,none⟩ :: rest) e w:=by
 intro a ha
 refine wpList_plain rfl fun K' hK'=>?_
 obtain ⟨k,rfl,hk,rfl⟩:=gi hix
 have hys:ys=xs.set k yv:=by
  unfold sto at h;split at h
  ·simpa using (Option.some.inj h).symm
  ·cases h
 subst hys hv hn ho
 simp only [Int.toNat_natCast] at hx
 have hz:=hz.h
 cases hi:P.info? t with
 | none=>simp [hi] at hz
 | some inf =>
  simp [hi] at hz
  obtain ⟨fp,hv,_⟩:=hS.head
  obtain ⟨cur,hh,hcs⟩:∃ cur,w.heap[g]? = some (.cells cur E (0,0))∧xs.length*R.sz≤cur.size:=by
   rcases hv with ⟨h,_⟩ | ⟨g',cap',cur,ccs,f2,h,hg',h1,h2,h3,_⟩
   ·simp at h
   ·simp at h
    obtain ⟨rfl,_⟩:=h
    exact ⟨cur,hg',by rw [h3];exact Nat.mul_le_mul_right _ h1⟩
  have hjm:j<R.sz:=by
   rcases hv with ⟨_,h,_⟩ | ⟨g',cap',cur,ccs,f2,_,_,_,_,_,_,h5,_⟩
   ·subst h;simp at hk
   ·obtain ⟨ec,f1,f2,f3,k1,_,_,_⟩:=mu h5 k hk
    have:=(hup w ec f2 k1).1
    rw [R.rd_len (R.own_rd k1)] at this;exact this
  have hkk:k*R.sz+R.sz≤xs.length*R.sz:=by have:=Nat.mul_le_mul_right R.sz hk;rw [Nat.succ_mul] at this;exact this
  have hh':w.heap[g]? = some (.cells cur.toList.toArray E (0,0)):=by simpa using hh
  obtain ⟨w',hr,hnew,hc⟩:=gc (P:=P) [c] (k*R.sz+j) 0 cur.toList w hh' (by simp;omega) (by simpa using h1)
  have hsz:¬ ([c].toArray.size≠inf.size):=by simp;omega
  unfold Oper.wp execOp
  simp only [ha.eval,hx,Instr.storeAt,Instr.sureAddr,storeVar,sizeOf,typeInfo,hi,hy,Sem.run_bind,Sem.run_pure,run_program,Result.andThen_ok,hsz,if_false,Sem.run_ite,List.toList_toArray,hr,Oper.upon_skip]
  refine hK' _ _ (hK w' ?_ _ ha)
  refine hS.upd ?_
  intro fp2 hv2 hnd2
  rcases hv2 with ⟨h,_⟩ | ⟨g',cap',cur',ccs,f2,h,hg',h1,h2,h3,h4,h5,rfl⟩
  ·simp at h
  ·simp at h
   obtain ⟨rfl,rfl,rfl⟩:=h
   obtain ⟨rfl⟩:cur'=cur:=by rw [hh] at hg';simpa using hg'.symm
   have h6:=ug h5 k hk hup
   have hoth:∀ x,x≠g→x<w.heap.size→w'.heap[x]? = w.heap[x]?:=fun x hx hlt=>hc.block x hlt (by simpa using hx)
   have hgn:g∉f2:=(List.nodup_cons.1 hnd2).1
   have hcl:ccs.length=xs.length*R.sz:=gk (fD h5)
   refine ⟨g :: f2,.inr ⟨g,cap,_,ccs.set (k*R.sz+j) c,f2,by simp,hnew,by simpa using h1,h2,?_,?_,fz h6 (fun b hb=>hoth b (fun e=>hgn (e ▸ hb)) (fJ h5 b hb)),rfl⟩,hnd2,hc.mono (by simp),fun b hb=>.inl hb⟩
   ·simp only [List.size_toArray,List.length_append,List.length_take,List.length_drop,Array.length_toList,List.length_singleton,Nat.add_zero]
    omega
   ·rw [← h4,List.length_set]
    have:=nb cur.toList [c] (k*R.sz+j) 1 (xs.length*R.sz) (by omega) (by simpa using hcs) rfl
    simp only [Nat.add_zero,List.length_singleton] at this ⊢
    rw [this,List.set_eq_take_append_cons_drop,if_pos (by simp;omega)]
    simp
end
theorem e9 {P:Program} {n:Nat} {ops:Array Oper} {X:List Nat} {C:World→Prop} {K:Env→World→Prop} (i j:Nat) {f:Nat} {L:Array Bool} {e:Env} {w:World} {o o':Oper} (hr:Region.ready .any ops L=[i,j]) (ho:ops[i]? = some o) (ho':ops[j]? = some o')
  (h:EL P n ops (fun e' w'=>(X.contains i=true→C w')∧AL P n ops X C K f (L.setIfInBounds i true) e' w') [o] e w) (h':EL P n ops (fun e' w'=>(X.contains j=true→C w')∧AL P n ops X C K f (L.setIfInBounds j true) e' w') [o'] e w):AL P n ops X C K (f+1) L e w :=
 ⟨fun h0=>(by rw [h0] at hr;cases hr),fun k hk=>by
  rw [hr] at hk
  rcases List.mem_cons.1 hk with rfl | hk
  ·exact ⟨o,ho,h⟩
  ·obtain rfl:k=j:=by simpa using hk
   exact ⟨o',ho',h'⟩⟩
theorem jZ {P:Program} {n:Nat} {c:Code} {Q:Exit→Env→World→Prop} {e:Env} {w:World} (I:Env→World→Prop) (h1:CW P n c (fun x e w=>x=.normal∧I e w) e w) (h2:∀ e w,I e w→Q .normal e w):CW P n c Q e w:=by
 intro a ha
 refine wp_mono (h1 a ha) ?_
 rintro x' a' w' ⟨e',he',rfl,hI⟩
 exact ⟨e',he',h2 _ _ hI⟩
def fm (m:Nat):Value→Int→Int→Value
 | .slice ao _ cap,lo,hi=>.slice (if cap=lo.toNat then ao else ao.map (·.add (lo.toNat*m))) (hi.toNat-lo.toNat) (cap-lo.toNat)
 | v,_,_=>v
section
variable {α:Type} {R:Rep α} {E:TypeId} {w w0:World} {v:Value} {xs ys:List α} {Γ:List Asn}
theorem nY {xs ys:List α} {lo hi:Int} (h:slc xs lo hi=some ys):∃ l k:Nat,lo=(l:Int)∧hi=(k:Int)∧l≤k∧k≤xs.length∧ys=(xs.take k).drop l:=by
 unfold slc at h
 split at h
 ·rename_i h0
  exact ⟨lo.toNat,hi.toNat,by omega,by omega,by omega,by omega,(Option.some.inj h).symm⟩
 ·cases h
theorem dX {m:Nat} {lo hi:Int} (hn:R.sz=m) (hr:(ay R E).rd w [v] xs) (hq:slc xs lo hi=some ys):(ay R E).rd w [fm m v lo hi] ys:=by
 obtain ⟨l,h,rfl,rfl,hlh,hh,rfl⟩:=nY hq
 obtain ⟨ao,cap,ccs,hv,h1,h2,h3,h4,h5⟩:=hr
 obtain rfl:v=.slice ao xs.length cap:=by simpa using hv
 have hlen:((xs.take h).drop l).length=h-l:=by simp;omega
 have hrd:=(ma l (ma h h4).1).2
 have hccl:=gk h4
 subst hn
 refine ⟨if cap=l then ao else ao.map (·.add (l*R.sz)),cap-l,_,by simp [fm,hlen],by rw [hlen];omega,by omega,?_,hrd,?_⟩
 ·intro e
  split at e
  ·omega
  ·cases ao with
   | none=>have:=h3 rfl;omega
   | some _=>simp at e
 ·by_cases hcl:cap=l
  ·left
   have:h=l:=by omega
   subst this
   apply List.eq_nil_of_length_eq_zero
   simp
  ·rw [if_neg hcl]
   rcases h5 with rfl | ⟨b,off,rfl,h5⟩
   ·left;simp
   ·right
    refine ⟨b,off+l*R.sz,by simp [Addr.add_lit],fun j c hj=>?_⟩
    rw [List.getElem?_drop,List.getElem?_take] at hj
    split at hj
    ·rw [Nat.add_assoc];exact h5 _ c hj
    ·cases hj
theorem sB {w:World}:∀ (k:Nat) {xs:List α} {ccs:List Value} {f:List Nat},dN R w ccs xs f→∃ f1 f2,f=f1++f2∧dN R w (ccs.take (k*R.sz)) (xs.take k) f1∧(∀ b∈f2,b<w.heap.size)
 | 0,xs,ccs,f,h=>⟨[],f,rfl,by simp [dN],fJ h⟩
 | k+1,[],ccs,f,h=>by
  obtain ⟨rfl,rfl⟩:=h
  exact ⟨[],[],rfl,⟨by simp,rfl⟩,by simp⟩
 | k+1,x :: xs,ccs,f,h=>by
  obtain ⟨ec,rest,g1,g2,rfl,rfl,h1,h2⟩:=h
  obtain ⟨f1,f2,rfl,h3,h4⟩:=sB k h2
  refine ⟨g1++f1,f2,by simp,⟨ec,rest.take (k*R.sz),g1,f1,?_,rfl,h1,h3⟩,h4⟩
  have e:(k+1)*R.sz=ec.length+k*R.sz:=by rw [R.rd_len (R.own_rd h1),Nat.add_mul];omega
  rw [e,List.take_append,List.take_of_length_le (by omega),Nat.add_sub_cancel_left]
theorem Sat.prefix {m:Nat} {hi:Int} (hn:R.sz=m) (hS:Sat w0 w (Own (ay R E) [v] xs :: Γ)) (hq:slc xs 0 hi=some ys):Sat w0 w (Own (ay R E) [fm m v 0 hi] ys :: Γ):=by
 obtain ⟨l,k,hl,rfl,hlk,hk,rfl⟩:=nY hq
 obtain rfl:l=0:=by omega
 subst hn
 obtain ⟨ao,hao⟩:∃ A,A=Asn.mk (fun w fp=>True∧∀ b∈fp,b<w.heap.size) (fun h he=>⟨trivial,fun b hb=>by
  have h1:=h.2 b hb
  have h2:=he b hb
  rw [Array.getElem?_eq_getElem h1] at h2
  exact (Array.getElem?_eq_some_iff.1 h2).1⟩) (fun h=>h.2):=⟨_,rfl⟩
 refine Sat.tail (A:=ao) ?_
 refine hS.splitp fun f hf=>?_
 subst hao
 rcases hf with ⟨hv,rfl,rfl⟩ | ⟨g,cap,cur,ccs,f2,hv,hg,h1,h2,h3,h4,h5,rfl⟩
 ·obtain rfl:v=.slice none 0 0:=by simpa using hv
  simp only [List.length_nil,Nat.le_zero] at hk
  subst hk
  exact ⟨[],[],.refl _,⟨trivial,by simp⟩,.inl ⟨by simp [fm],by simp,rfl⟩⟩
 ·obtain rfl:v=.slice (some ⟨g,0,none⟩) xs.length cap:=by simpa using hv
  obtain ⟨f1,f3,rfl,h6,h7⟩:=sB k h5
  refine ⟨f3,g :: f1,?_,⟨trivial,h7⟩,.inr ⟨g,cap,cur,_,f1,?_,hg,?_,h2,h3,?_,h6,rfl⟩⟩
  ·exact List.perm_middle.trans (.cons _ List.perm_append_comm)
  ·have hl:(xs.take k).length=k:=by simp;omega
   simp only [List.drop_zero,hl,fm,Int.toNat_natCast]
   by_cases hc:cap=0
   ·simp [hc]
   ·simp [hc,Addr.add_lit]
  ·simp;omega
  ·rw [← h4]
   simp only [List.drop_zero,List.length_take,List.take_take]
   congr 1
   rw [Nat.min_eq_left hk]
   exact (Nat.min_eq_left (Nat.mul_le_mul_right _ hk)).symm
end
theorem jM {P:Program} {e:Env} {w wA:World} {d:Option Nat} {ty:TypeId} {pos:String} {af:Array Edge} {x:Operand} {v:Value} {α:Type} {R:Rep α} {E E':TypeId} {t:TypeId} {lo hi:Option Operand} [ht:SliceT P t E'] {z:List Value} {m bytes:Nat} [hz:ElemT P E' z m bytes]
    (hx:ev e x=v) {xs ys:List α} (hr:(ay R E).rd wA [v] xs) {l h:Int} (hlo:(lo.map (ev e)=some (.int .i64 l))∨(lo=none∧l=0)) (hhi:(hi.map (ev e)=some (.int .i64 h))∨(hi=none∧h=xs.length)) (hq:slc xs l h=some ys) :
    PV P ⟨d,.slice t x lo hi none,ty,pos,af,none⟩ e w (fm m v l h):=fun w' _=>by
  obtain ⟨l',h',rfl,rfl,hlh,hh,_⟩:=nY hq
  obtain ⟨ao,cap,ccs,hv,h1,h2,h3,h4,h5⟩:=hr
  obtain rfl:v=.slice ao xs.length cap:=by simpa using hv
  have hz:=hz.h
  cases hq':P.info? E' with
  | none=>simp [hq'] at hz
  | some inf =>
    simp [hq'] at hz
    have hcap:h'≤cap:=by omega
    have hsz:inf.size=m:=hz.2.1
    have hb:(Instr.sliceBounds true xs.length cap (lo.map (ev e)) (hi.map (ev e)) none).run P w'=.ok (l',h',cap) w':=by
      rcases hlo with e1 | ⟨e1,e1'⟩ <;> rcases hhi with e2 | ⟨e2,e2'⟩
      all_goals
        (try rw [e1]);(try rw [e2])
        first
          | (simp [Instr.sliceBounds,Instr.sliceBound,asIntOf,hcap,hlh];done)
          | (have:l'=0:=by omega
             subst this
             simp [Instr.sliceBounds,Instr.sliceBound,asIntOf,hcap,hlh];done)
          | (have:h'=xs.length:=by omega
             subst this
             simp [Instr.sliceBounds,Instr.sliceBound,asIntOf,hcap,hlh];done)
          | (have:l'=0:=by omega
             have:h'=xs.length:=by omega
             subst_vars
             simp [Instr.sliceBounds,Instr.sliceBound,asIntOf])
    unfold execOp
    simp only [hx,Instr.sliceAt,Sem.run_bind,run_underlying ht.h,Result.andThen_ok,Instr.slice,hb,sizeOf,typeInfo,hq',run_program,Sem.run_pure,Option.map_none,fm,hsz,Int.toNat_natCast]
theorem jd {α:Type} {R:Rep α} {E:TypeId} {w:World} {cs:List Value} {xs:List α} (h:(nN R E).rd w cs xs):(ay R E).rd w cs xs:=h
theorem ir {α:Type} {xs ys:List α} {hi:Int} (h:slc xs 1 hi=some ys):0<xs.length:=by
 obtain ⟨l,k,h1,h2,h3,h4,_⟩:=nY h;omega
theorem rc {w W:World} {b o:Nat} (h:w.heap[b]? = W.heap[b]?):w.cell? ⟨b,o,none⟩=W.cell? ⟨b,o,none⟩:=by
 unfold World.cell?;simp [h]
def Frz (W:World) (F:List Nat):Asn where
 holds w fp:=fp=F∧(∀ b∈F,w.heap[b]? = W.heap[b]?)∧∀ b∈F,b<W.heap.size
 ext h he:=by obtain ⟨rfl,h1,h2⟩:=h;exact ⟨rfl,fun b hb=>(he b hb).trans (h1 b hb),h2⟩
 lt h:=by
  obtain ⟨rfl,h1,h2⟩:=h
  intro b hb
  have:=h1 b hb
  rw [Array.getElem?_eq_getElem (h2 b hb)] at this
  exact (Array.getElem?_eq_some_iff.1 this).1
section
variable {α:Type} {R:Rep α} {W w w0:World} {Γ:List Asn} {F F':List Nat} {cs:List Value} {x:α}
theorem Sat.frz (hS:Sat w0 w (Own R cs x :: Γ)):∃ F,R.own w cs x F∧Sat w0 w (Frz w F :: Γ):=by
 obtain ⟨hb,_,⟨f1,f2,rfl,h1,h2⟩,hn,h3⟩:=hS
 exact ⟨f1,h1,hb,_,⟨f1,f2,rfl,⟨rfl,fun _ _=>rfl,R.own_lt h1⟩,h2⟩,hn,h3⟩
theorem Sat.frzEq (i:Nat) (hS:Sat w0 w Γ) (hi:Γ[i]? = some (Frz W F)):∀ b∈F,w.heap[b]? = W.heap[b]?:=by
 obtain ⟨fp,⟨rfl,h,_⟩,_⟩:=(hS.top i hi).head
 exact h
theorem Sat.frzRd (i:Nat) (hS:Sat w0 w Γ) (hi:Γ[i]? = some (Frz W F)) (h:R.own W cs x F') (hs:∀ b∈F',b∈F):R.rd w cs x :=
 R.own_rd (R.own_ext h (fun b hb=>hS.frzEq i hi b (hs b hb)))
theorem Sat.frzCells (i:Nat) (hS:Sat w0 w Γ) (hi:Γ[i]? = some (Frz W F)) {b off:Nat} {ec:List Value} (hb:b∈F) (hm:∀ j c,ec[j]? = some c→W.cell? ⟨b,off+j,none⟩=some c):∀ j c,ec[j]? = some c→w.cell? ⟨b,off+j,none⟩=some c :=
 fun j c hj=>by rw [rc (hS.frzEq i hi b hb)];exact hm j c hj
end
section
variable {P:Program} {n:Nat} {ops:Array Oper} {X:List Nat} {C:World→Prop} {K:Env→World→Prop} {KQ:Env→Prop} {rest:List Oper} {e:Env} {w W:World} {v:Value} {d:Nat} {ty:TypeId} {pos:String} {af:Array Edge} {x y:Operand} {α:Type} {R:Rep α} {E:TypeId} {F:List Nat} {fuel:Nat} {L:Array Bool}
theorem pC {d:Option Nat} {t:TypeId} [ht:SliceT P t E] {zz:List Value} {m bytes:Nat} [hz:ElemT P E zz m bytes] {xs:List α} (hs:ev e x=v) (hr:(ay R E).own W [v] xs F)
  (hn:R.sz=m) {k:IntKind} {i:Int} (hi:ev e y=.int k i) {u:α} (h:ix xs i=some u) :
  ∃ b off ec F2,R.own W ec u F2∧(∀ q∈F2,q∈F)∧b∈F∧(∀ j c,ec[j]? = some c→W.cell? ⟨b,off+j,none⟩=some c)∧∀ w,PV P ⟨d,.indexAddr t x y,ty,pos,af,none⟩ e w (.pointer (some ⟨b,off,none⟩)):=by
 obtain ⟨k',rfl,hk,rfl⟩:=gi h
 rcases hr with ⟨_,h2,_⟩ | ⟨g,cap,cur,ccs,f2,hv,hg,h1,h2,h3,h4,h5,rfl⟩
 ·subst h2;simp at hk
 obtain rfl:v=.slice (some ⟨g,0,none⟩) xs.length cap:=by simpa using hv
 obtain ⟨ec,f1,f2',f3,k1,rfl,k3,_⟩:=mu h5 k' hk
 have hz:=hz.h
 cases hq:P.info? E with
 | none=>simp [hq] at hz
 | some inf =>
  simp [hq] at hz
  have hsz:inf.size=m:=hz.2.1
  refine ⟨g,k'*m,ec,f2',k1,fun q hq=>by simp [hq],by simp,fun j c hj=>?_,fun w w' _=>?_⟩
  ·have h0:=k3 j c hj
   rw [cell_of_row W g _ cur E (0,0) hg,← Array.getElem?_toList]
   rw [← h4,List.getElem?_take] at h0
   rw [← hn]
   split at h0
   ·exact h0
   ·cases h0
  ·unfold execOp
   simp [hs,hi,Instr.indexAt,asIntOf,run_underlying ht.h,sizeOf,typeInfo,hq,hk,Addr.add_lit,hsz]
theorem jI {t:TypeId} [SliceT P t E] {zz:List Value} {m bytes:Nat} [ElemT P E zz m bytes] {xs:List α} (hs:ev e x=v) (hr:(ay R E).own W [v] xs F) (hn:R.sz=m) {k:IntKind} {i:Int} (hi:ev e y=.int k i) {u:α} (h:ix xs i=some u) (hd:d<n)
  (hK:∀ b off ec F2,R.own W ec u F2→(∀ q∈F2,q∈F)→b∈F→(∀ j c,ec[j]? = some c→W.cell? ⟨b,off+j,none⟩=some c)→EL P n ops K rest (upd e d (.pointer (some ⟨b,off,none⟩))) w):EL P n ops K (⟨some d,.indexAddr t x y,ty,pos,af,none⟩ :: rest) e w:=by
 obtain ⟨b,off,ec,F2,h1,h2,h3,h4,h5⟩:=pC (P:=P) (d:=some d) (ty:=ty) (pos:=pos) (af:=af) (t:=t) hs hr hn hi h
 exact lL (h5 _) hd (hK b off ec F2 h1 h2 h3 h4)
theorem iT {t:TypeId} [SliceT P t E] {zz:List Value} {m bytes:Nat} [ElemT P E zz m bytes] {xs:List α} (hs:ev e x=v) (hr:(ay R E).own W [v] xs F) (hn:R.sz=m) {k:IntKind} {i:Int} (hi:ev e y=.int k i) {u:α} (h:ix xs i=some u) (hd:d<n)
  (hK:∀ b off ec F2,R.own W ec u F2→(∀ q∈F2,q∈F)→b∈F→(∀ j c,ec[j]? = some c→W.cell? ⟨b,off+j,none⟩=some c)→QL P n ops w KQ rest (upd e d (.pointer (some ⟨b,off,none⟩)))):QL P n ops w KQ (⟨some d,.indexAddr t x y,ty,pos,af,none⟩ :: rest) e:=by
 obtain ⟨b,off,ec,F2,h1,h2,h3,h4,h5⟩:=pC (P:=P) (d:=some d) (ty:=ty) (pos:=pos) (af:=af) (t:=t) hs hr hn hi h
 exact pR (h5 _) hd (hK b off ec F2 h1 h2 h3 h4)
theorem sv (hsel:lO ops=true) (i':Nat) {t:TypeId} [SliceT P t E] {zz:List Value} {m bytes:Nat} [ElemT P E zz m bytes] {xs:List α} (hi':ops[i']? = some ⟨some d,.indexAddr t x y,ty,pos,af,none⟩) (hC:C w) (hf:ni ops X L i' ⟨some d,.indexAddr t x y,ty,pos,af,none⟩=true) (hrd:(Region.ready .any ops L).contains i'=true)
  (hs:ev e x=v) (hr:(ay R E).own W [v] xs F) (hn:R.sz=m) {k:IntKind} {i:Int} (hi:ev e y=.int k i) {u:α} (h:ix xs i=some u) (hd:d<n)
  (hK:∀ b off ec F2,R.own W ec u F2→(∀ q∈F2,q∈F)→b∈F→(∀ j c,ec[j]? = some c→W.cell? ⟨b,off+j,none⟩=some c)→AL P n ops X C K fuel (L.setIfInBounds i' true) (upd e d (.pointer (some ⟨b,off,none⟩))) w):AL P n ops X C K (fuel+1) L e w:=by
 obtain ⟨b,off,ec,F2,h1,h2,h3,h4,h5⟩:=pC (P:=P) (d:=some d) (ty:=ty) (pos:=pos) (af:=af) (t:=t) hs hr hn hi h
 exact vr hsel i' hi' rfl hd hC hf hrd (aC rfl fun w' _=>h5 w') (hK b off ec F2 h1 h2 h3 h4)
end
theorem Sat.unlist {α:Type} {R:Rep α} {E:TypeId} {w w0:World} {v:Value} {xs:List α} {Γ:List Asn} (hS:Sat w0 w (Own (ay R E) [v] xs :: Γ)):∃ ao c ccs,v=.slice ao xs.length c∧(ao=none→c=0)∧m4 w ao ccs∧Sat w0 w (nW R ccs xs :: Γ):=by
 obtain ⟨hb,_,⟨f1,f2,rfl,h1,h2⟩,hn,h3⟩:=hS
 rcases h1 with ⟨hv,rfl,rfl⟩ | ⟨g,cap,cur,ccs,f3,hv,hg,k1,k2,k3,k4,k5,rfl⟩
 ·exact ⟨none,0,[],by simpa using hv,fun _=>rfl,.inl rfl,hb,_,⟨[],f2,rfl,⟨rfl,rfl⟩,h2⟩,hn,h3⟩
 ·refine ⟨some ⟨g,0,none⟩,cap,ccs,by simpa using hv,by simp,.inr ⟨g,0,rfl,fun j c hj=>?_⟩,hb,f3++f2,⟨f3,f2,rfl,k5,h2⟩,(List.nodup_cons.1 hn).2,fun b hb'=>h3 b (List.mem_cons_of_mem _ hb')⟩
  rw [Nat.zero_add,cell_of_row _ g j cur E (0,0) hg,← Array.getElem?_toList]
  rw [← k4,List.getElem?_take] at hj
  split at hj
  ·exact hj
  ·cases hj
section
variable {α:Type} {R:Rep α} {w0 w:World} {Γ:List Asn} {E:TypeId} {v:Value}
def ki (R:Rep α) (E:TypeId) (v:Value) (xs:List α) (i:Nat) (ec:List Value) (g m:Nat):Asn where
 holds w fp:=(vv R E v xs i ec).holds w fp∧g∈fp∧∀ j c,ec[j]? = some c→w.cell? ⟨g,i*m+j,none⟩=some c
 ext h he:=⟨(vv R E v xs i ec).ext h.1 he,h.2.1,fun j c hj=>by rw [rc (he g h.2.1)];exact h.2.2 j c hj⟩
 lt h:=(vv R E v xs i ec).lt h.1
theorem Sat.takeOutC {xs:List α} {m:Nat} {i:Int} {u:α} (hS:Sat w0 w (Own (ay R E) [v] xs :: Γ)) (h:ix xs i=some u) (hn:R.sz=m) :
  ∃ g cap ec,v=.slice (some ⟨g,0,none⟩) xs.length cap∧R.rd w ec u∧Sat w0 w (Own R ec u :: ki R E v xs i.toNat ec g m :: Γ):=by
 obtain ⟨k,rfl,hk,rfl⟩:=gi h
 subst hn
 obtain ⟨fp,ho,_⟩:=hS.head
 rcases ho with ⟨_,h2,_⟩ | ⟨g,cap,cur,ccs,fe,hv,hg,h1,h2,h3,h4,h5,rfl⟩
 ·subst h2;simp at hk
 obtain ⟨ec,f1,f2,f3,k1,rfl,k3,k4⟩:=mu h5 k hk
 have hv:v=.slice (some ⟨g,0,none⟩) xs.length cap:=by simpa using hv
 have hm:∀ j c,ec[j]? = some c→w.cell? ⟨g,(k:Int).toNat*R.sz+j,none⟩=some c:=fun j c hj=>by
  have e2:=k3 j c hj
  simp only [Int.toNat_natCast]
  rw [cell_of_row w g _ cur E (0,0) hg,← Array.getElem?_toList]
  rw [← h4,List.getElem?_take] at e2
  split at e2
  ·exact e2
  ·cases e2
 refine ⟨g,cap,ec,hv,R.own_rd k1,?_⟩
 have hrl:=R.rd_len (R.own_rd k1)
 clear k1 k3 k4 h5 h4 h3 h2 h1 hg
 subst hv
 refine hS.splitp fun f hf=>?_
 rcases hf with ⟨_,h2,_⟩ | ⟨g',cap',cur,ccs,fe,hv,hg,h1,h2,h3,h4,h5,rfl⟩
 ·subst h2;simp at hk
 obtain ⟨rfl,rfl⟩:g=g'∧cap=cap':=by simpa using hv
 obtain ⟨ec',f1,f2,f3,k1,rfl,k3,k4⟩:=mu h5 k hk
 have hec:ec=ec':=by
  refine List.ext_getElem (by rw [hrl,R.rd_len (R.own_rd k1)]) fun j hj1 hj2=>?_
  have e1:=hm j ec[j] (List.getElem?_eq_getElem hj1)
  have e2:=k3 j ec'[j] (List.getElem?_eq_getElem hj2)
  simp only [Int.toNat_natCast] at e1
  rw [cell_of_row w g _ cur E (0,0) hg,← Array.getElem?_toList] at e1
  rw [← h4,List.getElem?_take] at e2
  split at e2
  ·rw [e1] at e2;exact Option.some.inj e2
  ·cases e2
 subst hec
 refine ⟨f2,g :: (f1++f3),?_,k1,⟨⟨fun b hb=>?_,fun w' y f' he ho=>⟨g :: (f1++(f'++f3)),?_,.inr ⟨g,cap,cur,ccs,_,by simp,by rw [he g (by simp)];exact hg,by simpa using h1,h2,h3,by simpa using h4,by
  simp only [Int.toNat_natCast]
  exact k4 w' y f' (fun b hb=>he b (List.mem_cons_of_mem _ hb)) ho,rfl⟩⟩⟩,List.mem_cons_self,hm⟩⟩
 ·refine List.perm_middle.trans (.cons _ ?_)
  rw [← List.append_assoc,← List.append_assoc]
  exact List.Perm.append_right _ List.perm_append_comm
 ·rcases List.mem_cons.1 hb with rfl | hb
  ·exact (Array.getElem?_eq_some_iff.1 hg).1
  ·refine fJ h5 b ?_
   rcases List.mem_append.1 hb with h | h <;> simp [h]
 ·refine .trans (.cons _ ?_) List.perm_middle.symm
  rw [← List.append_assoc,← List.append_assoc]
  exact List.Perm.append_right _ List.perm_append_comm
theorem Sat.putBackC {xs ys:List α} {i:Int} {y:α} {ec:List Value} {g m:Nat} (hS:Sat w0 w (Own R ec y :: ki R E v xs i.toNat ec g m :: Γ)) (h:sto xs i y=some ys):Sat w0 w (Own (ay R E) [v] ys :: Γ):=by
 have e:ys=xs.set i.toNat y:=by
  unfold sto at h;split at h
  ·exact (Option.some.inj h).symm
  ·cases h
 subst e
 exact hS.joinp fun f g h1 h2=>h2.1.2 w y f (fun _ _=>rfl) h1
theorem Sat.holeCells (a:Nat) {xs:List α} {i g m:Nat} {ec:List Value} (hS:Sat w0 w Γ) (hi:Γ[a]? = some (ki R E v xs i ec g m)):∀ j c,ec[j]? = some c→w.cell? ⟨g,i*m+j,none⟩=some c:=by
 obtain ⟨fp,ho,_⟩:=(hS.top a hi).head
 exact ho.2.2
end
theorem pi {P:Program} {e:Env} {w:World} {v:Value} {ty:TypeId} {pos:String} {af:Array Edge} {x y:Operand} {α:Type} {E:TypeId} {d:Option Nat} {t:TypeId} [ht:SliceT P t E] {zz:List Value} {m bytes:Nat} [hz:ElemT P E zz m bytes] {xs:List α} (hs:ev e x=v) {g cap:Nat} (hv:v=.slice (some ⟨g,0,none⟩) xs.length cap) {k:IntKind} {j:Int} (hi:ev e y=.int k j) {u:α} (h:ix xs j=some u) :
  PV P ⟨d,.indexAddr t x y,ty,pos,af,none⟩ e w (.pointer (some ⟨g,j.toNat*m,none⟩)):=fun w' _=>by
 obtain ⟨k',rfl,hk,rfl⟩:=gi h
 subst hv
 have hz:=hz.h
 cases hq:P.info? E with
 | none=>simp [hq] at hz
 | some inf =>
  simp [hq] at hz
  have hsz:inf.size=m:=hz.2.1
  unfold execOp
  simp [hs,hi,Instr.indexAt,asIntOf,run_underlying ht.h,sizeOf,typeInfo,hq,hk,Addr.add_lit,hsz]
def mA {α β:Type} (R:Rep α) (S:Rep β) (j:Nat) (u:α) (z:β) (y:α):Prop :=
 ∀ w ec f cs fa,R.own w ec u f→S.own w cs z fa→j+cs.length≤ec.length∧∃ f' g',R.own w (ec.take j++cs++ec.drop (j+cs.length)) y f'∧(f'++g').Perm (f++fa)
theorem rR {α:Type} {R:Rep α} (u z:α):mA R R 0 u z z:=fun w ec f cs fa h k=>by
 have e1:=R.rd_len (R.own_rd h)
 have e2:=R.rd_len (R.own_rd k)
 refine ⟨by omega,fa,f,?_,List.perm_append_comm⟩
 rw [Nat.zero_add,List.drop_of_length_le (by omega)];simpa using k
theorem rD {α β γ:Type} {R:Rep α} {T:Rep γ} {S:Rep β} {j k':Nat} {u:α × γ} {z:β} {y:γ} (h:mA T S j u.2 z y) (hk:k'=R.sz+j):mA (og R T) S k' u z (u.1,y):=fun w ec f cs fa hf k=>by
 obtain ⟨c1,c2,f1,f2,rfl,rfl,h1,h2⟩:=hf
 obtain ⟨k1,f',g',k2,k3⟩:=h w c2 f2 cs fa h2 k
 have hl:=R.rd_len (R.own_rd h1)
 subst hk
 refine ⟨by simp;omega,f1++f',g',⟨c1,_,f1,f',?_,rfl,h1,k2⟩,List.perm_iff_count.2 fun a=>?_⟩
 ·rw [← hl,List.take_append,List.drop_append,List.take_of_length_le (by omega),List.drop_of_length_le (by omega)]
  simp [Nat.add_assoc]
 ·have:=List.perm_iff_count.1 k3 a
  simp only [List.count_append] at this ⊢;omega
theorem qI {α β:Type} {R:Rep α} {S:Rep β} {w:World} {j:Nat} {cs:List Value} {z:β} {fa:List Nat} (hz:S.own w cs z fa) {y:α}:∀ {xs:List α} {ccs:List Value} {f:List Nat},dN R w ccs xs f→∀ (k:Nat) (hk:k<xs.length),mA R S j xs[k] z y →
  k*R.sz+j+cs.length≤ccs.length∧∃ f' g',dN R w (ccs.take (k*R.sz+j)++cs++ccs.drop (k*R.sz+j+cs.length)) (xs.set k y) f'∧(f'++g').Perm (f++fa)
 | [],_,_,_,k,hk,_=>absurd hk (by simp)
 | x :: xs,_,_,h,k,hk,hu=>by
  obtain ⟨ec,rest,f1,f2,rfl,rfl,h1,h2⟩:=h
  cases k with
  | zero =>
   obtain ⟨k1,f',g',k2,k3⟩:=hu w ec f1 cs fa h1 hz
   refine ⟨by simp;omega,f'++f2,g',⟨_,rest,f',f2,?_,rfl,k2,h2⟩,List.perm_iff_count.2 fun a=>?_⟩
   ·rw [Nat.zero_mul,Nat.zero_add,List.take_append_of_le_length (by omega),List.drop_append_of_le_length (by omega)];simp
   ·have:=List.perm_iff_count.1 k3 a
    simp only [List.count_append] at this ⊢;omega
  | succ k =>
   have hl:=R.rd_len (R.own_rd h1)
   obtain ⟨k1,f',g',k2,k3⟩:=qI hz h2 k (by simpa using hk) (by simpa using hu)
   have e:(k+1)*R.sz+j=ec.length+(k*R.sz+j):=by rw [Nat.succ_mul];omega
   refine ⟨by rw [e,List.length_append];omega,f1++f',g',⟨ec,_,f1,f',?_,rfl,h1,k2⟩,List.perm_iff_count.2 fun a=>?_⟩
   ·rw [e,List.take_append,List.drop_append,List.take_of_length_le (by omega),List.drop_of_length_le (by omega)]
    simp [Nat.add_assoc]
   ·have:=List.perm_iff_count.1 k3 a
    simp only [List.count_append] at this ⊢;omega
section
variable {P:Program} {n:Nat} {ops:Array Oper} {K:Env→World→Prop} {rest:List Oper} {e:Env} {w w0:World} {v:Value} {ty:TypeId} {pos:String} {af:Array Edge} {Γ:List Asn} {x y:Operand} {α β:Type} {R:Rep α} {S:Rep β} {E:TypeId}
theorem pg {t:TypeId} {z:List Value} {m' bytes:Nat} [hz:ElemT P t z m' bytes] {xs ys:List α} {g ln cap o j m:Nat} {u yv:α} {zv:β} {cs:List Value} (hv:v=.slice (some ⟨g,0,none⟩) ln cap)
  (hS:Sat w0 w (Own S cs zv :: Own (ay R E) [v] xs :: Γ)) {i:Int} (hix:ix xs i=some u) (h:sto xs i yv=some ys) (hn:R.sz=m) (hs:S.sz=m') (ho:o=i.toNat*m+j) (hx:ev e x=.pointer (some ⟨g,o,none⟩)) (hy:(ev e y).cells=cs.toArray)
  (hup:mA R S j u zv yv) (hK:∀ w',Sat w0 w' (Own (ay R E) [v] ys :: Γ)→EL P n ops K rest e w'):EL P n ops K (⟨none,.store t x y,ty,pos,af,none⟩ :: rest) e w:=by
 intro a ha
 refine wpList_plain rfl fun K' hK'=>?_
 obtain ⟨k,rfl,hk,rfl⟩:=gi hix
 have hys:ys=xs.set k yv:=by
  unfold sto at h;split at h
  ·simpa using (Option.some.inj h).symm
  ·cases h
 subst hys hv hn ho
 simp only [Int.toNat_natCast] at hx
 have hz:=hz.h
 cases hi:P.info? t with
 | none=>simp [hi] at hz
 | some inf =>
  simp [hi] at hz
  have hS':Sat w0 w (v5 (Own S cs zv) (Own (ay R E) [.slice (some ⟨g,0,none⟩) ln cap] xs) :: Γ):=hS.join fun f g h1 h2=>⟨f,g,rfl,h1,h2⟩
  obtain ⟨fp,⟨fy,f,rfl,hyo,hv⟩,hnd,_⟩:=hS'.head
  have hel:cs.length=S.sz:=S.rd_len (S.own_rd hyo)
  obtain ⟨cur,hh,hcs⟩:∃ cur,w.heap[g]? = some (.cells cur E (0,0))∧k*R.sz+j+cs.length≤cur.size:=by
   rcases hv with ⟨_,h,_⟩ | ⟨g',cap',cur,ccs,f2,h,hg',h1,h2,h3,h4,h5,_⟩
   ·subst h;simp at hk
   ·simp at h
    obtain ⟨rfl,_⟩:=h
    have:=(qI hyo h5 k hk hup).1
    have hcl:ccs.length=xs.length*R.sz:=gk (fD h5)
    exact ⟨cur,hg',by rw [h3];exact Nat.le_trans (by omega) (Nat.mul_le_mul_right _ h1)⟩
  have hh':w.heap[g]? = some (.cells cur.toList.toArray E (0,0)):=by simpa using hh
  obtain ⟨w',hr,hnew,hc⟩:=gc (P:=P) cs (k*R.sz+j) 0 cur.toList w hh' (by simp;omega) (S.rd_one (S.own_rd hyo))
  have hsz:¬ (cs.toArray.size≠inf.size):=by simp;omega
  unfold Oper.wp execOp
  simp only [ha.eval,hx,Instr.storeAt,Instr.sureAddr,storeVar,sizeOf,typeInfo,hi,hy,Sem.run_bind,Sem.run_pure,run_program,Result.andThen_ok,hsz,if_false,Sem.run_ite,List.toList_toArray,hr,Oper.upon_skip]
  refine hK' _ _ (hK w' ?_ _ ha)
  refine hS'.upd ?_
  rintro _ ⟨gy,gf,rfl,hy2,hv2⟩ hnd2
  rcases hv2 with ⟨_,h,_⟩ | ⟨g',cap',cur',ccs,f2,h,hg',h1,h2,h3,h4,h5,rfl⟩
  ·subst h;simp at hk
  ·simp at h
   obtain ⟨rfl,rfl,rfl⟩:=h
   obtain ⟨rfl⟩:cur'=cur:=by rw [hh] at hg';simpa using hg'.symm
   obtain ⟨hle,f',g',h6,hp⟩:=qI hy2 h5 k hk hup
   have hoth:∀ x,x≠g→x<w.heap.size→w'.heap[x]? = w.heap[x]?:=fun x hx hlt=>hc.block x hlt (by simpa using hx)
   have hcl:ccs.length=xs.length*R.sz:=gk (fD h5)
   have hpp:(f'++g'++[g]).Perm (gy++g :: f2):=List.perm_iff_count.2 fun a=>by
    have:=List.perm_iff_count.1 hp a
    simp only [List.count_append,List.count_cons,List.count_nil] at this ⊢;omega
   have hnd3:=hpp.nodup_iff.2 hnd2
   have hgn:g∉f':=fun hm=>by
    have:=(List.nodup_append.1 hnd3).2.2 g (List.mem_append_left _ hm) g (by simp)
    exact this rfl
   refine ⟨g :: f',.inr ⟨g,cap,_,ccs.take (k*R.sz+j)++cs++ccs.drop (k*R.sz+j+cs.length),f',by simp,hnew,by simpa using h1,h2,?_,?_,fz h6 (fun b hb=>hoth b (fun e=>hgn (e ▸ hb)) (fJ h6 b hb)),rfl⟩,?_,hc.mono (by simp),fun b hb=>.inl ?_⟩
   ·simp only [List.size_toArray,List.length_append,List.length_take,List.length_drop,Array.length_toList,Nat.add_zero]
    omega
   ·rw [← h4,List.length_set]
    have:=nb cur.toList cs (k*R.sz+j) cs.length (xs.length*R.sz) (by omega) (by simp;have:=Nat.mul_le_mul_right R.sz h1;omega) rfl
    simp only [Nat.add_zero] at this ⊢
    rw [this]
   ·exact List.nodup_cons.2 ⟨hgn,(List.nodup_append.1 (List.nodup_append.1 hnd3).1).1⟩
   ·refine hpp.mem_iff.1 ?_
    rcases List.mem_cons.1 hb with rfl | hb
    ·simp
    ·simp [hb]
end
theorem nH {e:Env} {i:Nat} {x:Operand} {v:Value} {l:List (Nat × Operand)} {vs:List Value} (h:(ev e x).cells=[v].toArray) (t:l.map (fun p=>(p.1,(ev e p.2).cells))=((vs.zipIdx (i+1)).map fun p=>(p.2,[p.1].toArray))) :
  ((i,x) :: l).map (fun p=>(p.1,(ev e p.2).cells))=(((v :: vs).zipIdx i).map fun p=>(p.2,[p.1].toArray)):=by rw [List.map_cons,List.zipIdx_cons,List.map_cons,h,t]
def fzR {α:Type} (W:World) (F:List Nat) (R:Rep α):Rep α where
 sz:=R.sz
 rd _ cs x:=∃ f,R.own W cs x f∧∀ b∈f,b∈F
 own _ cs x fp:=(∃ f,R.own W cs x f∧∀ b∈f,b∈F)∧fp=[]
 rd_len h:=by obtain ⟨f,h,_⟩:=h;exact R.rd_len (R.own_rd h)
 rd_one h:=by obtain ⟨f,h,_⟩:=h;exact R.rd_one (R.own_rd h)
 rd_ext h _:=h
 own_rd h:=h.1
 own_ext h _:=h
 own_lt h:=by rw [h.2];simp
section
variable {α:Type} {R:Rep α} {W w w0:World} {Γ:List Asn} {F:List Nat} {E:TypeId} {v:Value}
theorem uP:∀ {xs:List α} {ccs:List Value} {f:List Nat},dN R W ccs xs f→(∀ b∈f,b∈F)→dN (fzR W F R) w ccs xs []
 | [],_,_,h,_=>⟨h.1,rfl⟩
 | x :: xs,_,_,h,hs=>by
  obtain ⟨ec,rest,f1,f2,rfl,rfl,h1,h2⟩:=h
  exact ⟨ec,rest,[],[],rfl,rfl,⟨⟨f1,h1,fun b hb=>hs b (List.mem_append_left _ hb)⟩,rfl⟩,uP h2 fun b hb=>hs b (List.mem_append_right _ hb)⟩
theorem sy (he:∀ b∈F,w.heap[b]? = W.heap[b]?):∀ {xs:List α} {ccs:List Value} {f':List Nat},dN (fzR W F R) w ccs xs f'→∃ f,dN R w ccs xs f∧∀ b∈f,b∈F
 | [],_,_,h=>⟨[],⟨h.1,rfl⟩,by simp⟩
 | x :: xs,_,_,h=>by
  obtain ⟨ec,rest,f1,f2,rfl,rfl,⟨⟨f,h1,hs⟩,_⟩,h2⟩:=h
  obtain ⟨f3,h3,h4⟩:=sy he h2
  refine ⟨f++f3,⟨ec,rest,f,f3,rfl,rfl,R.own_ext h1 fun b hb=>he b (hs b hb),h3⟩,fun b hb=>?_⟩
  rcases List.mem_append.1 hb with h | h
  ·exact hs b h
  ·exact h4 b h
theorem Sat.frzEls {xs:List α} (hS:Sat w0 w (Own (ay R E) [v] xs :: Γ)):∃ F,Sat w0 w (Own (ay (fzR w F R) E) [v] xs :: Frz w F :: Γ):=by
 obtain ⟨hb,_,⟨f1,f2,rfl,h1,h2⟩,hn,h3⟩:=hS
 rcases h1 with ⟨k1,rfl,rfl⟩ | ⟨g,cap,cur,ccs,fe,hv,hg,k1,k2,k3,k4,k5,rfl⟩
 ·exact ⟨[],hb,f2,⟨[],f2,rfl,.inl ⟨k1,rfl,rfl⟩,[],f2,rfl,⟨rfl,by simp,by simp⟩,h2⟩,hn,h3⟩
 ·exact ⟨fe,hb,_,⟨[g],fe++f2,rfl,.inr ⟨g,cap,cur,ccs,[],hv,hg,k1,k2,k3,k4,uP k5 (fun _ h=>h),rfl⟩,fe,f2,rfl,⟨rfl,fun _ _=>rfl,fJ k5⟩,h2⟩,hn,h3⟩
theorem Sat.frzAll {xs:List α} (hS:Sat w0 w (Own (ay (fzR W F R) E) [v] xs :: Frz W F :: Γ)):∃ F1 F2,(ay R E).own w [v] xs F1∧(∀ b∈F1,b∈F2)∧Sat w0 w (Frz w F2 :: Γ):=by
 obtain ⟨hb,_,⟨f1,_,rfl,h1,fF,f2,rfl,⟨rfl,he,hlt⟩,h2⟩,hn,h3⟩:=hS
 have hl:∀ b∈fF,b<w.heap.size:=fun b hb=>by
  have:=he b hb
  rw [Array.getElem?_eq_getElem (hlt b hb)] at this
  exact (Array.getElem?_eq_some_iff.1 this).1
 rcases h1 with ⟨k1,rfl,rfl⟩ | ⟨g,cap,cur,ccs,fe,hv,hg,k1,k2,k3,k4,k5,rfl⟩
 ·exact ⟨[],fF,.inl ⟨k1,rfl,rfl⟩,by simp,hb,_,⟨fF,f2,rfl,⟨rfl,fun _ _=>rfl,hl⟩,h2⟩,hn,h3⟩
 ·obtain ⟨f,k6,k7⟩:=sy he k5
  have hfe:fe=[]:=by
   clear hn h3 k4 k3 hg
   suffices ∀ (xs:List α) (ccs:List Value) (f':List Nat),dN (fzR W fF R) w ccs xs f'→f'=[] from this _ _ _ k5
   intro xs
   induction xs with
   | nil=>intro _ _ h;exact h.2
   | cons x xs ih =>
    rintro _ _ ⟨ec,rest,f1,f2,rfl,rfl,⟨_,rfl⟩,h2⟩
    rw [ih _ _ h2];rfl
  subst hfe
  refine ⟨g :: f,g :: fF,.inr ⟨g,cap,cur,ccs,f,hv,hg,k1,k2,k3,k4,k6,rfl⟩,fun b hb=>?_,hb,_,⟨g :: fF,f2,rfl,⟨rfl,fun _ _=>rfl,fun b hb=>?_⟩,h2⟩,by simpa using hn,by simpa using h3⟩
  ·rcases List.mem_cons.1 hb with rfl | h
   ·simp
   ·exact List.mem_cons_of_mem _ (k7 b h)
  ·rcases List.mem_cons.1 hb with rfl | h
   ·exact (Array.getElem?_eq_some_iff.1 hg).1
   ·exact hl b h
end
section
variable {α:Type} {R:Rep α} {W w w0 w1:World} {Γ:List Asn} {F F':List Nat} {E:TypeId} {v:Value} {cs:List Value} {x:α}
theorem Sat.frzOwn (i:Nat) (hS:Sat w0 w Γ) (hi:Γ[i]? = some (Frz W F)) (h:R.own W cs x F') (hs:∀ b∈F',b∈F):R.own w cs x F' :=
 R.own_ext h (fun b hb=>hS.frzEq i hi b (hs b hb))
theorem Sat.refrz (hS:Sat w0 w (Frz W F :: Γ)):Sat w0 w (Frz w F :: Γ) :=
 hS.conv fun f h=>⟨h.1,fun _ _=>rfl,fun b hb=>(Frz W F).lt h b (by rw [h.1];exact hb)⟩
theorem Sat.putBackZ {xs:List α} {i:Int} {u:α} {g m:Nat} (hS:Sat w0 w (Own R cs u :: ki R E v xs i.toNat cs g m :: Γ)) (h:ix xs i=some u):Sat w0 w (Own (ay R E) [v] xs :: Γ):=by
 obtain ⟨k,rfl,hk,rfl⟩:=gi h
 refine hS.putBackC (i:=(k:Int)) ?_
 unfold sto
 rw [if_pos (by omega),Int.toNat_natCast,List.set_getElem_self]
theorem Sat.fzOne (hS:Sat w0 w Γ) (h:(fzR W F R).rd w1 cs x):Sat w0 w (nW (fzR W F R) cs [x] :: Γ) :=
 (hS.add (A:=Own (fzR W F R) cs x) ⟨h,rfl⟩).one
end
def oa (N:Nat) (a0:List Int):Option Bool :=
  some (decide (1048576<(a0.length:Int)))
def gu (N:Nat):Nat→(List Int)→Int→Int→Option (Int × Int)
 | 0,_,_,_=>none
 | k+1,J,U,D =>
  (bif decide (D<(J.length:Int)) then
  (bif decide (D<4000) then
  (ml U 131).bind fun Y =>
  (ix J D).bind fun Z =>
  (ad Y (IntKind.i64.wrap Z)).bind fun AB =>
  (ad AB 7).bind fun AC =>
  (ad D 1).bind fun AD =>
  gu N k J (fV AC 1073741823) AD
  else
  some (U,D))
  else
  some (U,D))
def lb (N:Nat) (a0:List Int):Option (Int × Int) :=
  (ad 10101 (a0.length:Int)).bind fun D =>
  (gu N N a0 D 0).bind fun J =>
  lpB J fun (U,Y) =>
  some (0,U)
def f8 (N:Nat) (a0:List Int) (a1:Int) (a2:Int):Option (Int × Int × Int) :=
  (sr (IntKind.i64.wrap ((IntKind.i64.wrap (a2*6364136223846793005))+1442695040888963407)) 33).bind fun D =>
  (sr (IntKind.i64.wrap ((IntKind.i64.wrap (a2*6364136223846793005))+1442695040888963407)) 45).bind fun J =>
  (bif decide (a1<(a0.length:Int)) then
  (ix a0 a1).bind fun U =>
  some ((fV (IntKind.i64.wrap ((fV (jv D J) 255)+(IntKind.i64.wrap U))) 255),(IntKind.i64.wrap (a1+1)),(IntKind.i64.wrap ((IntKind.i64.wrap (a2*6364136223846793005))+1442695040888963407)))
  else
  some ((fV (jv D J) 255),a1,(IntKind.i64.wrap ((IntKind.i64.wrap (a2*6364136223846793005))+1442695040888963407))))
def bD (N:Nat) (a0:List Int) (a1:Int) (a2:Int) (a3:Int):Option (Int × Int × Int) :=
  (bif decide (a3≤0) then
  some (0,a1,a2)
  else
  (bif decide (a3≤256) then
  (f8 N a0 a1 a2).bind fun D =>
  (rm D.1 a3).bind fun AB =>
  some (AB,D.2.1,D.2.2)
  else
  (f8 N a0 a1 a2).bind fun J =>
  (f8 N a0 J.2.1 J.2.2).bind fun U =>
  (f8 N a0 U.2.1 U.2.2).bind fun Y =>
  (f8 N a0 Y.2.1 Y.2.2).bind fun Z =>
  (ml J.1 16777216).bind fun AC =>
  (ml U.1 65536).bind fun AD =>
  (ad AC AD).bind fun AE =>
  (ml Y.1 256).bind fun AF =>
  (ad AE AF).bind fun AG =>
  (ad AG Z.1).bind fun AH =>
  (rm AH a3).bind fun AI =>
  some (AI,Z.2.1,Z.2.2)))
def eh (N:Nat) (a0:List Int) (a1:Int) (a2:Int) (a3:Int):Option (Bool × Int × Int) :=
  (bD N a0 a1 a2 a3).bind fun D =>
  some ((D.1 == 0),D.2.1,D.2.2)
def dG (N:Nat) (a0:List Int) (a1:Int) (a2:Int) (a3:List Int):Option (Int × Int × Int) :=
  (bD N a0 a1 a2 (a3.length:Int)).bind fun D =>
  (ix a3 D.1).bind fun J =>
  some (J,D.2.1,D.2.2)
def ef (N:Nat) (a0:Int) (a1:Int) (a2:Int):Option Bool :=
  (bif decide (a1≤a0) then
  some (decide (a0≤a2))
  else
  some false)
def c5 (N:Nat):Nat→(List Int)→Int→Option (Sum Bool Int)
 | 0,_,_=>none
 | k+1,J,D =>
  (bif decide (D<(J.length:Int)) then
  (ix J D).bind fun U =>
  (ef N U 0 99).bind fun Y =>
  (bif Y then
  (ad D 1).bind fun Z =>
  c5 N k J Z
  else
  some (.inl false))
  else
  some (.inr D))
def eT (N:Nat) (a0:List Int):Option Bool :=
  (c5 N N a0 0).bind fun D =>
  lpS D (fun q=>some q) fun J =>
  some true
def ez (N:Nat):Nat→Int→(List (List Int))→Int→(List (List Int))→Int→(List (List Int))→Int→Option ((List (List Int)) × Int)
 | 0,_,_,_,_,_,_,_=>none
 | k+1,Y,J,Z,AB,AC,U,D =>
  (bif decide (D<(J.length:Int)) then
  (ix J D).bind fun AD =>
  (apd 8 [] AD).bind fun AE =>
  (apd 24 U [AE]).bind fun AF =>
  (ad D 1).bind fun AG =>
  ez N k Y J Z AB AC AF AG
  else
  some (U,D))
def jh (N:Nat) (a0:Int) (a1:List (List Int)):Option (Int × List (List Int)) :=
  (ez N N a0 a1 0 [] a0 [] 0).bind fun D =>
  lpB D fun (J,U) =>
  some (a0,J)
def fN (N:Nat):Nat→(List Int)→(List Int)→Int→Option (Sum Int Int)
 | 0,_,_,_=>none
 | k+1,J,U,D =>
  (bif decide (D<(J.length:Int)) then
  (bif decide (D<(U.length:Int)) then
  (ix J D).bind fun Y =>
  (ix U D).bind fun Z =>
  (bif decide (Y<Z) then
  some (.inl (-1))
  else
  (ix J D).bind fun AB =>
  (ix U D).bind fun AC =>
  (bif decide (AC<AB) then
  some (.inl 1)
  else
  (ad D 1).bind fun AD =>
  fN N k J U AD))
  else
  some (.inr D))
  else
  some (.inr D))
def bC (N:Nat) (a0:List Int) (a1:List Int):Option Int :=
  (fN N N a0 a1 0).bind fun D =>
  lpS D (fun q=>some q) fun J =>
  (bif decide ((a0.length:Int)<(a1.length:Int)) then
  some (-1)
  else
  (bif decide ((a1.length:Int)<(a0.length:Int)) then
  some 1
  else
  some 0))
def aQ (rec:(List (List Int))→Option (List (List Int))) (N:Nat):Nat→(List (List Int))→(List (List Int))→(List (List Int))→Option ((List (List Int)) × (List (List Int)) × (List (List Int)))
 | 0,_,_,_=>none
 | k+1,J,U,D =>
  (bif decide (0<(J.length:Int)) then
  (bif ((J.length:Int) == 0) then
  (bif decide (0<(1:Int)) then
  (ix U 0).bind fun Y =>
  (slc U 1 (U.length:Int)).bind fun Z =>
  (bif ((D.length:Int) == 0) then
  (apd 24 D [Y]).bind fun AU =>
  aQ rec N k J Z AU
  else
  (sb (D.length:Int) 1).bind fun AV =>
  (ix D AV).bind fun AW =>
  (bC N AW Y).bind fun AX =>
  (bif (AX != 0) then
  (apd 24 D [Y]).bind fun AY =>
  aQ rec N k J Z AY
  else
  aQ rec N k J Z D))
  else
  (ix J 0).bind fun AB =>
  (slc J 1 (J.length:Int)).bind fun AC =>
  (bif ((D.length:Int) == 0) then
  (apd 24 D [AB]).bind fun AZ =>
  aQ rec N k AC U AZ
  else
  (sb (D.length:Int) 1).bind fun A0 =>
  (ix D A0).bind fun A1 =>
  (bC N A1 AB).bind fun A2 =>
  (bif (A2 != 0) then
  (apd 24 D [AB]).bind fun A3 =>
  aQ rec N k AC U A3
  else
  aQ rec N k AC U D)))
  else
  (bif decide (0<(U.length:Int)) then
  (ix J 0).bind fun A4 =>
  (ix U 0).bind fun A5 =>
  (bC N A4 A5).bind fun A6 =>
  (bif decide (0<A6) then
  (ix U 0).bind fun AD =>
  (slc U 1 (U.length:Int)).bind fun AE =>
  (bif ((D.length:Int) == 0) then
  (apd 24 D [AD]).bind fun A7 =>
  aQ rec N k J AE A7
  else
  (sb (D.length:Int) 1).bind fun A8 =>
  (ix D A8).bind fun A9 =>
  (bC N A9 AD).bind fun Ba =>
  (bif (Ba != 0) then
  (apd 24 D [AD]).bind fun Bb =>
  aQ rec N k J AE Bb
  else
  aQ rec N k J AE D))
  else
  (ix J 0).bind fun AF =>
  (slc J 1 (J.length:Int)).bind fun AG =>
  (bif ((D.length:Int) == 0) then
  (apd 24 D [AF]).bind fun Bc =>
  aQ rec N k AG U Bc
  else
  (sb (D.length:Int) 1).bind fun Bd =>
  (ix D Bd).bind fun Be =>
  (bC N Be AF).bind fun Bf =>
  (bif (Bf != 0) then
  (apd 24 D [AF]).bind fun Bg =>
  aQ rec N k AG U Bg
  else
  aQ rec N k AG U D)))
  else
  (bif decide (0<((-1):Int)) then
  (ix U 0).bind fun AH =>
  (slc U 1 (U.length:Int)).bind fun AI =>
  (bif ((D.length:Int) == 0) then
  (apd 24 D [AH]).bind fun Bh =>
  aQ rec N k J AI Bh
  else
  (sb (D.length:Int) 1).bind fun Bi =>
  (ix D Bi).bind fun Bj =>
  (bC N Bj AH).bind fun Bk =>
  (bif (Bk != 0) then
  (apd 24 D [AH]).bind fun Bl =>
  aQ rec N k J AI Bl
  else
  aQ rec N k J AI D))
  else
  (ix J 0).bind fun AJ =>
  (slc J 1 (J.length:Int)).bind fun AK =>
  (bif ((D.length:Int) == 0) then
  (apd 24 D [AJ]).bind fun Bm =>
  aQ rec N k AK U Bm
  else
  (sb (D.length:Int) 1).bind fun Bn =>
  (ix D Bn).bind fun Bo =>
  (bC N Bo AJ).bind fun Bp =>
  (bif (Bp != 0) then
  (apd 24 D [AJ]).bind fun Bq =>
  aQ rec N k AK U Bq
  else
  aQ rec N k AK U D)))))
  else
  (bif decide (0<(U.length:Int)) then
  (bif ((J.length:Int) == 0) then
  (bif decide (0<(1:Int)) then
  (ix U 0).bind fun AM =>
  (slc U 1 (U.length:Int)).bind fun AN =>
  (bif ((D.length:Int) == 0) then
  (apd 24 D [AM]).bind fun Br =>
  aQ rec N k J AN Br
  else
  (sb (D.length:Int) 1).bind fun Bs =>
  (ix D Bs).bind fun Bt =>
  (bC N Bt AM).bind fun Bu =>
  (bif (Bu != 0) then
  (apd 24 D [AM]).bind fun Bv =>
  aQ rec N k J AN Bv
  else
  aQ rec N k J AN D))
  else
  (ix J 0).bind fun AO =>
  (slc J 1 (J.length:Int)).bind fun AP =>
  (bif ((D.length:Int) == 0) then
  (apd 24 D [AO]).bind fun Bw =>
  aQ rec N k AP U Bw
  else
  (sb (D.length:Int) 1).bind fun Bx =>
  (ix D Bx).bind fun By =>
  (bC N By AO).bind fun Bz =>
  (bif (Bz != 0) then
  (apd 24 D [AO]).bind fun BA =>
  aQ rec N k AP U BA
  else
  aQ rec N k AP U D)))
  else
  (ix J 0).bind fun BB =>
  (ix U 0).bind fun BC =>
  (bC N BB BC).bind fun BD =>
  (bif decide (0<BD) then
  (ix U 0).bind fun AQ =>
  (slc U 1 (U.length:Int)).bind fun AR =>
  (bif ((D.length:Int) == 0) then
  (apd 24 D [AQ]).bind fun BE =>
  aQ rec N k J AR BE
  else
  (sb (D.length:Int) 1).bind fun BF =>
  (ix D BF).bind fun BG =>
  (bC N BG AQ).bind fun BH =>
  (bif (BH != 0) then
  (apd 24 D [AQ]).bind fun BI =>
  aQ rec N k J AR BI
  else
  aQ rec N k J AR D))
  else
  (ix J 0).bind fun AS =>
  (slc J 1 (J.length:Int)).bind fun AT =>
  (bif ((D.length:Int) == 0) then
  (apd 24 D [AS]).bind fun BJ =>
  aQ rec N k AT U BJ
  else
  (sb (D.length:Int) 1).bind fun BK =>
  (ix D BK).bind fun BL =>
  (bC N BL AS).bind fun BM =>
  (bif (BM != 0) then
  (apd 24 D [AS]).bind fun BN =>
  aQ rec N k AT U BN
  else
  aQ rec N k AT U D))))
  else
  some (J,U,D)))
def fo:Nat→(List (List Int))→Option (List (List Int))
 | 0,_=>none
 | N+1,a0 =>
  (bif decide ((a0.length:Int)<2) then
  some a0
  else
  (qt (a0.length:Int) 2).bind fun D =>
  (slc a0 0 D).bind fun Y =>
  (fo N Y).bind fun Z =>
  (slc a0 D (a0.length:Int)).bind fun AB =>
  (fo N AB).bind fun AC =>
  (aQ (fo N) N N Z AC []).bind fun J =>
  lpB J fun (AD,AE,U) =>
  some U)
def cv (N:Nat):Nat→Int→(List (List Int))→Int→Option (Sum Bool Int)
 | 0,_,_,_=>none
 | k+1,U,J,D =>
  (bif decide (D<(J.length:Int)) then
  (ix J D).bind fun Y =>
  (bif ((Y.length:Int) != U) then
  some (.inl false)
  else
  (ix J D).bind fun Z =>
  (eT N Z).bind fun AB =>
  (bif AB then
  (bif decide (0<D) then
  (sb D 1).bind fun AC =>
  (ix J AC).bind fun AD =>
  (ix J D).bind fun AE =>
  (bC N AD AE).bind fun AF =>
  (bif decide (0≤AF) then
  some (.inl false)
  else
  (ad D 1).bind fun AG =>
  cv N k U J AG)
  else
  (ad D 1).bind fun AH =>
  cv N k U J AH)
  else
  some (.inl false)))
  else
  some (.inr D))
def cy (N:Nat) (a0:Int) (a1:List (List Int)):Option Bool :=
  (ef N a0 0 5).bind fun D =>
  (bif D then
  (bif decide (4000<(a1.length:Int)) then
  some false
  else
  (cv N N a0 a1 0).bind fun J =>
  lpS J (fun q=>some q) fun U =>
  some true)
  else
  some false)
def de (N:Nat):Nat→Int→(List (List Int))→Int→(List (List Int))→Int→Option (Sum ((Int × List (List Int)) × Bool) Int)
 | 0,_,_,_,_,_=>none
 | k+1,U,J,Y,Z,D =>
  (bif decide (D<(J.length:Int)) then
  (ix J D).bind fun AB =>
  (bif ((AB.length:Int) != U) then
  some (.inl ((0,[]),false))
  else
  (ix J D).bind fun AC =>
  (eT N AC).bind fun AD =>
  (bif AD then
  (ad D 1).bind fun AE =>
  de N k U J Y Z AE
  else
  some (.inl ((0,[]),false))))
  else
  some (.inr D))
def dr (N:Nat) (a0:Int) (a1:List (List Int)):Option ((Int × List (List Int)) × Bool) :=
  (de N N a0 a1 0 [] 0).bind fun J =>
  lpS J (fun q=>some q) fun Z =>
  (fo N a1).bind fun U =>
  (jh N a0 U).bind fun D =>
  (cy N D.1 D.2).bind fun Y =>
  (bif Y then
  some ((D.1,D.2),true)
  else
  some ((0,[]),false))
def hZ (N:Nat):Nat→(List Int)→Int→Int→Int→Int→(List Int)→Option (Int × Int × (List Int))
 | 0,_,_,_,_,_,_=>none
 | k+1,U,Y,Z,AB,AC,D =>
  (bif decide ((D.length:Int)<AB) then
  (bD N U Y Z AC).bind fun J =>
  (apd 8 D [J.1]).bind fun AD =>
  hZ N k U J.2.1 J.2.2 AB AC AD
  else
  some (Y,Z,D))
def gG (N:Nat) (a0:List Int) (a1:Int) (a2:Int) (a3:Int) (a4:Int):Option ((List Int) × Int × Int) :=
  (hZ N N a0 a1 a2 a3 a4 []).bind fun D =>
  lpB D fun (J,U,Y) =>
  some (Y,J,U)
def ic (N:Nat):Nat→(List Int)→Int→Int→Int→Int→Int→(List (List Int))→(List (List Int))→Int→Option (Int × Int × (List (List Int)) × Int)
 | 0,_,_,_,_,_,_,_,_,_=>none
 | k+1,U,Y,Z,AB,AC,AE,AF,AD,D =>
  (bif decide (0<D) then
  (gG N U Y Z AB AC).bind fun J =>
  (apd 24 AD [J.1]).bind fun AG =>
  (sb D 1).bind fun AH =>
  ic N k U J.2.1 J.2.2 AB AC AE AF AG AH
  else
  some (Y,Z,AD,D))
def iY (N:Nat) (a0:List Int) (a1:Int) (a2:Int) (a3:Int) (a4:Int) (a5:Int):Option ((Int × List (List Int)) × Int × Int) :=
  (ad a4 1).bind fun U =>
  (bD N a0 a1 a2 U).bind fun D =>
  (ic N N a0 D.2.1 D.2.2 a3 a5 0 [] [] D.1).bind fun Y =>
  lpB Y fun (Z,AB,AC,AD) =>
  (dr N a3 AC).bind fun J =>
  some ((J.1.1,J.1.2),Z,AB)
def ga (N:Nat):Nat→(List Int)→Int→Int→(List (ByteArray × (Int × List (List Int))))→Int→(List (ByteArray × (Int × List (List Int))))→(List ByteArray)→Int→Int→Option (Int × Int × (List (ByteArray × (Int × List (List Int)))) × Int)
 | 0,_,_,_,_,_,_,_,_,_=>none
 | k+1,D,AB,AC,AJ,U,AD,AE,AF,J =>
  (bif decide (J<AF) then
  (ix AE J).bind fun AG =>
  (bif (eqS AG (⟨#[118]⟩:ByteArray)) then
  (dG N D AB AC ([3,6,9]:List Int)).bind fun AH =>
  (iY N D AH.2.1 AH.2.2 3 AH.1 U).bind fun Y =>
  (apd 48 AD [(AG,(Y.1.1,Y.1.2))]).bind fun AK =>
  (ad J 1).bind fun AM =>
  ga N k D Y.2.1 Y.2.2 AJ U AK AE AF AM
  else
  (dG N D AB AC ([3,6,9]:List Int)).bind fun AI =>
  (iY N D AI.2.1 AI.2.2 2 AI.1 U).bind fun Z =>
  (apd 48 AD [(AG,(Z.1.1,Z.1.2))]).bind fun AN =>
  (ad J 1).bind fun AO =>
  ga N k D Z.2.1 Z.2.2 AJ U AN AE AF AO)
  else
  some (AB,AC,AD,J))
def kB (N:Nat) (a0:List Int) (a1:Int) (a2:Int):Option ((List (ByteArray × (Int × List (List Int)))) × Int × Int) :=
  (dG N a0 a1 a2 ([2,3,4,6]:List Int)).bind fun U =>
  (ga N N a0 U.2.1 U.2.2 [] U.1 [] ([(⟨#[114]⟩:ByteArray),(⟨#[115]⟩:ByteArray),(⟨#[116]⟩:ByteArray),(⟨#[117]⟩:ByteArray),(⟨#[118]⟩:ByteArray)]:List ByteArray) (([(⟨#[114]⟩:ByteArray),(⟨#[115]⟩:ByteArray),(⟨#[116]⟩:ByteArray),(⟨#[117]⟩:ByteArray),(⟨#[118]⟩:ByteArray)]:List ByteArray).length:Int) 0).bind fun AB =>
  lpB AB fun (AC,AD,Y,AF) =>
  (eh N a0 AC AD 8).bind fun D =>
  (bif D.1 then
  (bD N a0 D.2.1 D.2.2 5).bind fun J =>
  (ix Y J.1).bind fun Z =>
  (sto Y J.1 (Z.1,(Z.2.1,[]))).bind fun AE =>
  some (AE,J.2.1,J.2.2)
  else
  some (Y,D.2.1,D.2.2))
def iQ (N:Nat):Nat→(List Int)→Int→Int→Option (Sum Int Int)
 | 0,_,_,_=>none
 | k+1,J,U,D =>
  (bif decide (D<(J.length:Int)) then
  (ix J D).bind fun Y =>
  (bif (Y == U) then
  some (.inl D)
  else
  (ad D 1).bind fun Z =>
  iQ N k J U Z)
  else
  some (.inr D))
def eW (N:Nat) (a0:List Int) (a1:Int):Option Int :=
  (iQ N N a0 a1 0).bind fun D =>
  lpS D (fun q=>some q) fun J =>
  some (-1)
def eM (N:Nat):Nat→ByteArray→Int→Option (Sum Bool Int)
 | 0,_,_=>none
 | k+1,J,D =>
  (bif decide (D<(J.size:Int)) then
  (bx J D).bind fun U =>
  (bif decide (U<97) then
  some (.inl false)
  else
  (bx J D).bind fun Y =>
  (bif decide (122<Y) then
  some (.inl false)
  else
  (ad D 1).bind fun Z =>
  eM N k J Z))
  else
  some (.inr D))
def f6 (N:Nat) (a0:ByteArray):Option Bool :=
  (eM N N a0 0).bind fun D =>
  lpS D (fun q=>some q) fun U =>
  (ef N (a0.size:Int) 1 4).bind fun J =>
  some J
def cm (N:Nat):Nat→Int→ByteArray→(List Int)→Int→Option (Sum Bool Int)
 | 0,_,_,_,_=>none
 | k+1,U,Y,J,D =>
  (bif decide (D<(J.length:Int)) then
  (ix J D).bind fun Z =>
  (bif (Z == U) then
  some (.inl true)
  else
  (ad D 1).bind fun AB =>
  cm N k U Y J AB)
  else
  some (.inr D))
def dg (N:Nat) (a0:ByteArray) (a1:List Int) (a2:Int):Option Bool :=
  (cm N N a2 a0 a1 0).bind fun D =>
  lpS D (fun q=>some q) fun J =>
  some false
def cU (N:Nat):Nat→Int→(List (ByteArray × List Int))→(List Int)→Int→Int→Option (Sum Bool Int)
 | 0,_,_,_,_,_=>none
 | k+1,Y,J,Z,U,D =>
  (ix J U).bind fun AB =>
  (bif decide (D<(AB.2.length:Int)) then
  (ix J U).bind fun AC =>
  (ix AC.2 D).bind fun AD =>
  (sb Y 1).bind fun AE =>
  (ef N AD 0 AE).bind fun AF =>
  (bif AF then
  (ad D 1).bind fun AG =>
  cU N k Y J Z U AG
  else
  some (.inl false))
  else
  some (.inr D))
def cY (N:Nat):Nat→Int→(List (ByteArray × List Int))→(List Int)→Int→Option (Sum Bool Int)
 | 0,_,_,_,_=>none
 | k+1,U,J,Y,D =>
  (bif decide (D<(J.length:Int)) then
  (ix J D).bind fun Z =>
  (f6 N Z.1).bind fun AB =>
  (bif AB then
  (ix J D).bind fun AC =>
  (ef N (AC.2.length:Int) 1 5).bind fun AD =>
  (bif AD then
  (cU N N U J Y D 0).bind fun AE =>
  lpS AE (fun q=>some (.inl q)) fun AG =>
  (ad D 1).bind fun AF =>
  cY N k U J Y AF
  else
  some (.inl false))
  else
  some (.inl false))
  else
  some (.inr D))
def cG (N:Nat):Nat→Int→(List (ByteArray × List Int))→(List Int)→Int→Bool→Int→Option (Bool × Int)
 | 0,_,_,_,_,_,_=>none
 | k+1,Y,J,Z,U,AB,D =>
  (bif decide (D<(J.length:Int)) then
  (bif AB then
  (ad D 1).bind fun AD =>
  cG N k Y J Z U true AD
  else
  (ix J D).bind fun AC =>
  (dg N AC.1 AC.2 U).bind fun AE =>
  (ad D 1).bind fun AF =>
  cG N k Y J Z U AE AF)
  else
  some (AB,D))
def c4 (N:Nat):Nat→Int→(List (ByteArray × List Int))→(List Int)→Int→Option (Sum Bool Int)
 | 0,_,_,_,_=>none
 | k+1,J,U,Y,D =>
  (bif decide (D<J) then
  (cG N N J U Y D false 0).bind fun Z =>
  lpB Z fun (AB,AD) =>
  (bif AB then
  (ad D 1).bind fun AC =>
  c4 N k J U Y AC
  else
  some (.inl false))
  else
  some (.inr D))
def cV (N:Nat):Nat→Int→(List (ByteArray × List Int))→(List Int)→Int→Option (Sum Bool Int)
 | 0,_,_,_,_=>none
 | k+1,U,Y,J,D =>
  (bif decide (D<(J.length:Int)) then
  (ix J D).bind fun Z =>
  (sb U 1).bind fun AB =>
  (ef N Z 0 AB).bind fun AC =>
  (bif AC then
  (slc J 0 D).bind fun AD =>
  (ix J D).bind fun AE =>
  (eW N AD AE).bind fun AF =>
  (bif decide (0≤AF) then
  some (.inl false)
  else
  (ad D 1).bind fun AG =>
  cV N k U Y J AG)
  else
  some (.inl false))
  else
  some (.inr D))
def dz (N:Nat) (a0:Int) (a1:List (ByteArray × List Int)) (a2:List Int):Option Bool :=
  (ef N a0 1 5).bind fun D =>
  (bif D then
  (ef N (a1.length:Int) 1 4).bind fun J =>
  (bif J then
  (bif decide (a0<(a2.length:Int)) then
  some false
  else
  (cY N N a0 a1 a2 0).bind fun U =>
  lpS U (fun q=>some q) fun AB =>
  (c4 N N a0 a1 a2 0).bind fun Y =>
  lpS Y (fun q=>some q) fun AC =>
  (cV N N a0 a1 a2 0).bind fun Z =>
  lpS Z (fun q=>some q) fun AD =>
  some true)
  else
  some false)
  else
  some false)
def kh (N:Nat):Nat→ByteArray→Int→(List ByteArray)→Int→Int→Option ((List ByteArray) × Int × Int)
 | 0,_,_,_,_,_=>none
 | k+1,J,U,Y,Z,D =>
  (bif decide (D<(J.size:Int)) then
  (bx J D).bind fun AB =>
  (bif (AB == U) then
  (ssl J Z D).bind fun AC =>
  (apd 16 Y [AC]).bind fun AD =>
  (ad D 1).bind fun AE =>
  (ad D 1).bind fun AF =>
  kh N k J U AD AE AF
  else
  (ad D 1).bind fun AG =>
  kh N k J U Y Z AG)
  else
  some (Y,Z,D))
def ld (N:Nat) (a0:ByteArray) (a1:Int):Option (List ByteArray) :=
  (kh N N a0 a1 [] 0 0).bind fun D =>
  lpB D fun (J,U,AB) =>
  (ssl a0 U (a0.size:Int)).bind fun Y =>
  (apd 16 J [Y]).bind fun Z =>
  some Z
def gw (N:Nat) (a0:Int):Option ByteArray :=
  (ef N a0 0 4).bind fun D =>
  (bif D then
  (ad a0 1).bind fun J =>
  (ssl (⟨#[88,89,90,85,86]⟩:ByteArray) a0 J).bind fun U =>
  some U
  else
  some ByteArray.empty)
def jL (N:Nat):Nat→ByteArray→(List Int)→Int→Int→Option ((List Int) × Int)
 | 0,_,_,_,_=>none
 | k+1,U,Y,J,D =>
  (bif decide (D<5) then
  (gw N D).bind fun Z =>
  (ad J 1).bind fun AB =>
  (ssl U J AB).bind fun AC =>
  (bif (eqS Z AC) then
  (apd 8 Y [D]).bind fun AD =>
  (ad D 1).bind fun AE =>
  jL N k U AD J AE
  else
  (ad D 1).bind fun AF =>
  jL N k U Y J AF)
  else
  some (Y,D))
def lE (N:Nat):Nat→ByteArray→(List Int)→Int→Option ((List Int) × Int)
 | 0,_,_,_=>none
 | k+1,J,U,D =>
  (bif decide (D<(J.size:Int)) then
  (jL N N J U D 0).bind fun Y =>
  lpB Y fun (Z,AC) =>
  (ad D 1).bind fun AB =>
  lE N k J Z AB
  else
  some (U,D))
def lH (N:Nat) (a0:ByteArray):Option (List Int) :=
  (lE N N a0 [] 0).bind fun D =>
  lpB D fun (J,U) =>
  some J
def lu (N:Nat):Nat→(List Int)→ByteArray→Int→Option (ByteArray × Int)
 | 0,_,_,_=>none
 | k+1,J,U,D =>
  (bif decide (D<(J.length:Int)) then
  (ix J D).bind fun Y =>
  (gw N Y).bind fun Z =>
  (mb U Z).bind fun AB =>
  (ad D 1).bind fun AC =>
  lu N k J AB AC
  else
  some (U,D))
def j6 (N:Nat) (a0:List Int):Option ByteArray :=
  (lu N N a0 (⟨#[40]⟩:ByteArray) 0).bind fun D =>
  lpB D fun (J,Y) =>
  (mb J (⟨#[41]⟩:ByteArray)).bind fun U =>
  some U
def g8 (N:Nat):Nat→Int→(List (ByteArray × List Int))→(List Int)→ByteArray→Int→Option (ByteArray × Int)
 | 0,_,_,_,_,_=>none
 | k+1,Y,J,Z,U,D =>
  (bif decide (D<(J.length:Int)) then
  (bif decide (0<D) then
  (mb U (⟨#[44]⟩:ByteArray)).bind fun AB =>
  (ix J D).bind fun AC =>
  (mb AB AC.1).bind fun AD =>
  (ix J D).bind fun AE =>
  (j6 N AE.2).bind fun AF =>
  (mb AD AF).bind fun AG =>
  (ad D 1).bind fun AH =>
  g8 N k Y J Z AG AH
  else
  (ix J D).bind fun AI =>
  (mb U AI.1).bind fun AJ =>
  (ix J D).bind fun AK =>
  (j6 N AK.2).bind fun AM =>
  (mb AJ AM).bind fun AN =>
  (ad D 1).bind fun AO =>
  g8 N k Y J Z AN AO)
  else
  some (U,D))
def km (N:Nat) (a0:Int) (a1:List (ByteArray × List Int)) (a2:List Int):Option ByteArray :=
  (dz N a0 a1 a2).bind fun D =>
  (bif D then
  (j6 N a2).bind fun J =>
  (mb J (⟨#[61]⟩:ByteArray)).bind fun U =>
  (g8 N N a0 a1 a2 U 0).bind fun Y =>
  lpB Y fun (Z,AB) =>
  some Z
  else
  some ByteArray.empty)
def ij (N:Nat):Nat→ByteArray→Int→(List (ByteArray × List Int))→(List Int)→Int→(List (ByteArray × List Int))→(List Int)→(List ByteArray)→Int→Int→Int→Option (Int × Int)
 | 0,_,_,_,_,_,_,_,_,_,_,_=>none
 | k+1,Z,AB,AC,AD,AE,AF,AG,U,Y,J,D =>
  (bif decide (D<5) then
  (gw N D).bind fun AH =>
  (ix U Y).bind fun AI =>
  (ad J 1).bind fun AJ =>
  (ssl AI J AJ).bind fun AK =>
  (bif (eqS AH AK) then
  (ad D 1).bind fun AM =>
  (ad D 1).bind fun AN =>
  ij N k Z AB AC AD AM AF AG U Y J AN
  else
  (ad D 1).bind fun AO =>
  ij N k Z AB AC AD AE AF AG U Y J AO)
  else
  some (AE,D))
def jy (N:Nat):Nat→ByteArray→Int→(List (ByteArray × List Int))→(List Int)→Int→(List (ByteArray × List Int))→(List Int)→(List ByteArray)→Int→Int→Option (Int × Int)
 | 0,_,_,_,_,_,_,_,_,_,_=>none
 | k+1,Z,AB,AC,AD,J,AE,AF,U,Y,D =>
  (ix U Y).bind fun AG =>
  (bif decide (D<(AG.size:Int)) then
  (ij N N Z AB AC AD J AE AF U Y D J).bind fun AH =>
  lpB AH fun (AI,AK) =>
  (ad D 1).bind fun AJ =>
  jy N k Z AB AC AD AI AE AF U Y AJ
  else
  some (J,D))
def jH (N:Nat):Nat→ByteArray→Int→(List (ByteArray × List Int))→(List Int)→Int→(List (ByteArray × List Int))→(List Int)→(List ByteArray)→Int→Option (Int × (List (ByteArray × List Int)) × Int)
 | 0,_,_,_,_,_,_,_,_,_=>none
 | k+1,U,Y,Z,AB,AC,AD,AE,J,D =>
  (bif decide (D<(J.length:Int)) then
  (ix J D).bind fun AG =>
  (ld N AG 40).bind fun AH =>
  (ix AH 0).bind fun AI =>
  (ix J D).bind fun AJ =>
  (lH N AJ).bind fun AK =>
  (apd 40 AD [(AI,AK)]).bind fun AF =>
  (jy N N U Y Z AB AC AF AE J D 0).bind fun AM =>
  lpB AM fun (AN,AP) =>
  (ad D 1).bind fun AO =>
  jH N k U Y Z AB AN AF AE J AO
  else
  some (AC,AD,D))
def cl (N:Nat) (a0:ByteArray):Option ((Int × List (ByteArray × List Int) × List Int) × Bool) :=
  (ld N a0 61).bind fun D =>
  (bif ((D.length:Int) != 2) then
  some ((0,[],[]),false)
  else
  (ix D 0).bind fun Z =>
  (lH N Z).bind fun J =>
  (ix D 1).bind fun AB =>
  (ld N AB 44).bind fun AC =>
  (jH N N a0 0 [] [] 0 [] J AC 0).bind fun AD =>
  lpB AD fun (U,Y,AF) =>
  (km N U Y J).bind fun AE =>
  (bif (eqS AE a0) then
  (bif (eqS a0 ByteArray.empty) then
  some ((0,[],[]),false)
  else
  some ((U,Y,J),true))
  else
  some ((0,[],[]),false)))
def iu (N:Nat) (a0:List Int) (a1:Int) (a2:Int) (a3:List ByteArray):Option (ByteArray × Int × Int) :=
  (bD N a0 a1 a2 (a3.length:Int)).bind fun D =>
  (ix a3 D.1).bind fun J =>
  some (J,D.2.1,D.2.2)
def gh (N:Nat):Nat→(List Int)→Int→Int→Int→(List (ByteArray × List Int))→(List Int)→Int→(List (ByteArray × List Int))→(List Int)→Int→(List (ByteArray × List Int))→(List Int)→Int→ByteArray→(List Int)→Int→Option (Int × Int × (List Int) × Int)
 | 0,_,_,_,_,_,_,_,_,_,_,_,_,_,_,_,_=>none
 | k+1,U,Y,Z,AD,AE,AF,AG,AH,AI,AB,AJ,AK,AM,AN,AC,D =>
  (bif decide (0<D) then
  (bD N U Y Z AB).bind fun J =>
  (apd 8 AC [J.1]).bind fun AO =>
  (sb D 1).bind fun AP =>
  gh N k U J.2.1 J.2.2 AD AE AF AG AH AI AB AJ AK AM AN AO AP
  else
  some (Y,Z,AC,D))
def gm (N:Nat):Nat→(List Int)→Int→Int→Int→(List (ByteArray × List Int))→(List Int)→Int→(List (ByteArray × List Int))→(List Int)→Int→(List (ByteArray × List Int))→(List Int)→Int→Option (Int × Int × (List (ByteArray × List Int)) × Int)
 | 0,_,_,_,_,_,_,_,_,_,_,_,_,_=>none
 | k+1,U,Z,AB,AC,AD,AE,AF,AG,AH,AI,Y,AJ,D =>
  (bif decide (0<D) then
  (bD N U Z AB 5).bind fun J =>
  (ix ([(⟨#[114]⟩:ByteArray),(⟨#[115]⟩:ByteArray),(⟨#[116]⟩:ByteArray),(⟨#[117]⟩:ByteArray),(⟨#[118]⟩:ByteArray)]:List ByteArray) J.1).bind fun AK =>
  (qt J.1 4).bind fun AM =>
  (ad 2 AM).bind fun AN =>
  (gh N N U J.2.1 J.2.2 AC AD AE AF AG AH AI Y AJ D AK [] AN).bind fun AO =>
  lpB AO fun (AP,AQ,AR,AU) =>
  (apd 40 Y [(AK,AR)]).bind fun AS =>
  (sb D 1).bind fun AT =>
  gm N k U AP AQ AC AD AE AF AG AH AI AS AJ AT
  else
  some (Z,AB,Y,D))
def eI (N:Nat):Nat→(List Int)→Int→Int→Int→(List (ByteArray × List Int))→(List Int)→Int→(List (ByteArray × List Int))→(List Int)→Int→(List (ByteArray × List Int))→(List Int)→Int→Option (Int × Int × (List Int) × Int)
 | 0,_,_,_,_,_,_,_,_,_,_,_,_,_=>none
 | k+1,U,AB,AC,AD,AE,AF,AG,AH,AI,Y,AJ,Z,D =>
  (bif decide (D<Y) then
  (eh N U AB AC 2).bind fun J =>
  (bif J.1 then
  (apd 8 ([D]) Z).bind fun AK =>
  (ad D 1).bind fun AM =>
  eI N k U J.2.1 J.2.2 AD AE AF AG AH AI Y AJ AK AM
  else
  (ad D 1).bind fun AN =>
  eI N k U J.2.1 J.2.2 AD AE AF AG AH AI Y AJ Z AN)
  else
  some (AB,AC,Z,D))
def iM (N:Nat) (a0:List Int) (a1:Int) (a2:Int):Option ((Int × List (ByteArray × List Int) × List Int) × Int × Int) :=
  (iu N a0 a1 a2 ([(⟨#[40,88,89,90,41,61,114,40,88,89,41,44,115,40,89,90,41,44,116,40,90,88,41]⟩:ByteArray),(⟨#[40,88,89,90,85,41,61,114,40,88,89,41,44,115,40,89,90,41,44,116,40,90,85,41,44,117,40,85,88,41]⟩:ByteArray),(⟨#[40,88,89,90,41,61,114,40,88,89,41,44,115,40,89,90,41]⟩:ByteArray),(⟨#[40,88,41,61,114,40,88,89,41,44,115,40,89,90,41,44,116,40,90,85,41]⟩:ByteArray),(⟨#[40,88,89,90,41,61,118,40,88,89,90,41,44,114,40,88,89,41]⟩:ByteArray),(⟨#[40,88,89,41,61,114,40,88,89,41,44,114,40,89,88,41]⟩:ByteArray),(⟨#[40,88,89,90,85,41,61,118,40,88,89,90,41,44,115,40,90,85,41,44,116,40,85,88,41]⟩:ByteArray),(⟨#[40,88,41,61,114,40,88,88,41]⟩:ByteArray),(⟨#[40,88,89,41,61,114,40,88,90,41,44,115,40,90,89,41,44,114,40,88,85,41,44,115,40,85,89,41]⟩:ByteArray),(⟨#[40,41,61,114,40,88,89,41,44,115,40,89,88,41]⟩:ByteArray),(⟨#[40,88,89,90,85,86,41,61,114,40,88,89,41,44,115,40,89,90,41,44,116,40,90,85,41,44,117,40,85,86,41]⟩:ByteArray)]:List ByteArray)).bind fun Y =>
  (cl N Y.1).bind fun D =>
  (eh N a0 Y.2.1 Y.2.2 3).bind fun J =>
  (bif J.1 then
  (bD N a0 J.2.1 J.2.2 4).bind fun Z =>
  (ad 1 Z.1).bind fun U =>
  (bD N a0 Z.2.1 Z.2.2 4).bind fun AB =>
  (ad 1 AB.1).bind fun AG =>
  (gm N N a0 AB.2.1 AB.2.2 0 [] [] D.1.1 D.1.2.1 D.1.2.2 U [] [] AG).bind fun AH =>
  lpB AH fun (AI,AJ,AC,AN) =>
  (eI N N a0 AI AJ 0 [] [] D.1.1 D.1.2.1 D.1.2.2 U AC [] 0).bind fun AK =>
  lpB AK fun (AD,AE,AF,AO) =>
  (dz N U AC AF).bind fun AM =>
  (bif AM then
  some ((U,AC,AF),AD,AE)
  else
  some ((D.1.1,D.1.2.1,D.1.2.2),AD,AE))
  else
  some ((D.1.1,D.1.2.1,D.1.2.2),J.2.1,J.2.2))
def kX (N:Nat) (a0:List Int) (a1:Int) (a2:Int):Option ((Int × List (List Int)) × Int × Int) :=
  (bD N a0 a1 a2 4).bind fun U =>
  (iY N a0 U.2.1 U.2.2 U.1 6 4).bind fun D =>
  (bD N a0 D.2.1 D.2.2 14).bind fun J =>
  (bif (J.1 == 0) then
  (ad D.1.1 1).bind fun AD =>
  (dG N a0 J.2.1 J.2.2 ([(-1),6,AD]:List Int)).bind fun Y =>
  some ((Y.1,D.1.2),Y.2.1,Y.2.2)
  else
  (bif (J.1 == 1) then
  (gG N a0 J.2.1 J.2.2 (imx 0 D.1.1) 4).bind fun Z =>
  (apd 24 D.1.2 [Z.1]).bind fun AE =>
  some ((D.1.1,AE),Z.2.1,Z.2.2)
  else
  (bif (J.1 == 2) then
  (bif decide (0<(D.1.2.length:Int)) then
  (bif decide (0<D.1.1) then
  (ix D.1.2 0).bind fun AC =>
  (dG N a0 J.2.1 J.2.2 ([(-1),100,99]:List Int)).bind fun AB =>
  (ix AC 0).bind fun AH =>
  (sto AC 0 AB.1).bind fun AF =>
  (sto D.1.2 0 AF).bind fun AG =>
  some ((D.1.1,AG),AB.2.1,AB.2.2)
  else
  some ((D.1.1,D.1.2),J.2.1,J.2.2))
  else
  some ((D.1.1,D.1.2),J.2.1,J.2.2))
  else
  some ((D.1.1,D.1.2),J.2.1,J.2.2))))
def kP (N:Nat) (a0:List Int) (a1:Int) (a2:Int):Option ((List (ByteArray × (Int × List (List Int)))) × Int × Int) :=
  (kB N a0 a1 a2).bind fun J =>
  (bD N a0 J.2.1 J.2.2 5).bind fun U =>
  (bD N a0 U.2.1 U.2.2 14).bind fun D =>
  (bif (D.1 == 0) then
  (iu N a0 D.2.1 D.2.2 ([ByteArray.empty,(⟨#[82]⟩:ByteArray),(⟨#[97,98,99,100,101]⟩:ByteArray),(⟨#[97]⟩:ByteArray),(⟨#[122]⟩:ByteArray)]:List ByteArray)).bind fun Z =>
  (ix J.1 U.1).bind fun AC =>
  (sto J.1 U.1 (Z.1,(AC.2.1,AC.2.2))).bind fun AD =>
  some (AD,Z.2.1,Z.2.2)
  else
  (bif (D.1 == 1) then
  (kX N a0 D.2.1 D.2.2).bind fun Y =>
  (ix J.1 U.1).bind fun AE =>
  (sto J.1 U.1 (AE.1,(Y.1.1,Y.1.2))).bind fun AF =>
  some (AF,Y.2.1,Y.2.2)
  else
  (bif (D.1 == 2) then
  (ix J.1 U.1).bind fun AB =>
  (apd 48 J.1 [(AB.1,(AB.2.1,AB.2.2))]).bind fun AG =>
  some (AG,D.2.1,D.2.2)
  else
  (bif (D.1 == 3) then
  (slc J.1 0 U.1).bind fun AH =>
  some (AH,D.2.1,D.2.2)
  else
  some (J.1,D.2.1,D.2.2)))))
def k9 (N:Nat) (a0:List Int) (a1:Int) (a2:Int):Option ((Int × List (ByteArray × List Int) × List Int) × Int × Int) :=
  (iM N a0 a1 a2).bind fun D =>
  (bD N a0 D.2.1 D.2.2 14).bind fun J =>
  (bif (J.1 == 0) then
  (ad D.1.1 1).bind fun AD =>
  (dG N a0 J.2.1 J.2.2 ([0,6,AD]:List Int)).bind fun U =>
  some ((U.1,D.1.2.1,D.1.2.2),U.2.1,U.2.2)
  else
  (bif (J.1 == 1) then
  (iu N a0 J.2.1 J.2.2 ([ByteArray.empty,(⟨#[119]⟩:ByteArray),(⟨#[114]⟩:ByteArray)]:List ByteArray)).bind fun Y =>
  (apd 40 D.1.2.1 [(Y.1,[0])]).bind fun AE =>
  some ((D.1.1,AE,D.1.2.2),Y.2.1,Y.2.2)
  else
  (bif (J.1 == 2) then
  (bD N a0 J.2.1 J.2.2 6).bind fun Z =>
  (sb Z.1 1).bind fun AF =>
  (apd 8 D.1.2.2 [AF]).bind fun AG =>
  some ((D.1.1,D.1.2.1,AG),Z.2.1,Z.2.2)
  else
  (bif (J.1 == 3) then
  (ix D.1.2.1 0).bind fun AH =>
  (sto D.1.2.1 0 (AH.1,[])).bind fun AI =>
  some ((D.1.1,AI,D.1.2.2),J.2.1,J.2.2)
  else
  (bif (J.1 == 4) then
  (ix D.1.2.1 0).bind fun AB =>
  (dG N a0 J.2.1 J.2.2 ([(-1),5]:List Int)).bind fun AC =>
  (ix AB.2 0).bind fun AM =>
  (sto AB.2 0 AC.1).bind fun AJ =>
  (sto D.1.2.1 0 (AB.1,AJ)).bind fun AK =>
  some ((D.1.1,AK,D.1.2.2),AC.2.1,AC.2.2)
  else
  some ((D.1.1,D.1.2.1,D.1.2.2),J.2.1,J.2.2))))))
def kf (N:Nat) (a0:List Int) (a1:Int) (a2:Int):Option ((List (ByteArray × (Int × List (List Int)))) × (Int × List (ByteArray × List Int) × List Int) × Int × Int) :=
  (kB N a0 a1 a2).bind fun Y =>
  (iM N a0 Y.2.1 Y.2.2).bind fun D =>
  (bD N a0 D.2.1 D.2.2 24).bind fun J =>
  (bif (J.1 == 0) then
  (kP N a0 J.2.1 J.2.2).bind fun Z =>
  some (Z.1,(D.1.1,D.1.2.1,D.1.2.2),Z.2.1,Z.2.2)
  else
  (bif (J.1 == 1) then
  (k9 N a0 J.2.1 J.2.2).bind fun U =>
  some (Y.1,(U.1.1,U.1.2.1,U.1.2.2),U.2.1,U.2.2)
  else
  some (Y.1,(D.1.1,D.1.2.1,D.1.2.2),J.2.1,J.2.2)))
def ft (N:Nat):Nat→(List Int)→Int→Int→Int→(List Int)→Int→Option Int
 | 0,_,_,_,_,_,_=>none
 | k+1,Y,Z,AB,J,U,D =>
  (eW N U D).bind fun AC =>
  (bif decide (0≤AC) then
  (ad D 1).bind fun AD =>
  (rm AD J).bind fun AE =>
  ft N k Y Z AB J U AE
  else
  some D)
def gj (N:Nat):Nat→(List Int)→Int→Int→Int→(List Int)→Option (Int × Int × (List Int))
 | 0,_,_,_,_,_=>none
 | k+1,Y,Z,AB,J,U =>
  (bif decide ((U.length:Int)<J) then
  (bD N Y Z AB J).bind fun D =>
  (ft N N Y D.2.1 D.2.2 J U D.1).bind fun AC =>
  lpB AC fun AD =>
  (apd 8 U [AD]).bind fun AE =>
  gj N k Y D.2.1 D.2.2 J AE
  else
  some (Z,AB,U))
def jC (N:Nat) (a0:List Int) (a1:Int) (a2:Int) (a3:Int):Option ((List Int) × Int × Int) :=
  (gj N N a0 a1 a2 a3 []).bind fun D =>
  lpB D fun (J,U,Y) =>
  some (Y,J,U)
def jc (N:Nat) (a0:List Int) (a1:Int) (a2:Int) (a3:Int) (a4:List (ByteArray × List Int)) (a5:List Int):Option ((List Int) × Int × Int) :=
  (jC N a0 a1 a2 (imx 0 (imn 5 a3))).bind fun D =>
  (bif decide (0<(D.1.length:Int)) then
  (eh N a0 D.2.1 D.2.2 14).bind fun J =>
  (bif J.1 then
  (bD N a0 J.2.1 J.2.2 6).bind fun U =>
  (ix D.1 0).bind fun Z =>
  (sto D.1 0 U.1).bind fun Y =>
  some (Y,U.2.1,U.2.2)
  else
  some (D.1,J.2.1,J.2.2))
  else
  some (D.1,D.2.1,D.2.2))
def jD (N:Nat) (a0:List Int) (a1:Int) (a2:Int):Option ((List (ByteArray × (Int × List (List Int)))) × (Int × List (ByteArray × List Int) × List Int) × (List Int) × Int × Int) :=
  (kf N a0 a1 a2).bind fun D =>
  (jc N a0 D.2.2.1 D.2.2.2 D.2.1.1 D.2.1.2.1 D.2.1.2.2).bind fun J =>
  some (D.1,(D.2.1.1,D.2.1.2.1,D.2.1.2.2),J.1,J.2.1,J.2.2)
def cd (N:Nat):Nat→(List (ByteArray × (Int × List (List Int))))→Int→Option (Sum Bool Int)
 | 0,_,_=>none
 | k+1,U,J =>
  (bif decide (J<(U.length:Int)) then
  (ix U J).bind fun D =>
  (f6 N D.1).bind fun Y =>
  (bif Y then
  (bif decide (0<J) then
  (sb J 1).bind fun Z =>
  (ix U Z).bind fun AB =>
  (bif (ltS AB.1 D.1) then
  (cy N D.2.1 D.2.2).bind fun AC =>
  (bif AC then
  (bif decide (16<(D.2.2.length:Int)) then
  some (.inl false)
  else
  (bif decide (D.2.1<1) then
  some (.inl false)
  else
  (ad J 1).bind fun AD =>
  cd N k U AD))
  else
  some (.inl false))
  else
  some (.inl false))
  else
  (cy N D.2.1 D.2.2).bind fun AE =>
  (bif AE then
  (bif decide (16<(D.2.2.length:Int)) then
  some (.inl false)
  else
  (bif decide (D.2.1<1) then
  some (.inl false)
  else
  (ad J 1).bind fun AF =>
  cd N k U AF))
  else
  some (.inl false)))
  else
  some (.inl false))
  else
  some (.inr J))
def eC (N:Nat) (a0:List (ByteArray × (Int × List (List Int)))):Option Bool :=
  (cd N N a0 0).bind fun D =>
  lpS D (fun q=>some q) fun J =>
  some (decide ((a0.length:Int)≤6))
def ck (N:Nat):Nat→ByteArray→(List (ByteArray × (Int × List (List Int))))→Int→(List (List Int))→Int→Option (Sum ((Int × List (List Int)) × Bool) Int)
 | 0,_,_,_,_,_=>none
 | k+1,U,J,AB,AC,D =>
  (bif decide (D<(J.length:Int)) then
  (eC N J).bind fun AD =>
  (bif AD then
  (ix J D).bind fun AE =>
  (bif (eqS AE.1 U) then
  (ix J D).bind fun Y =>
  (jh N Y.2.1 Y.2.2).bind fun Z =>
  some (.inl ((Z.1,Z.2),true))
  else
  (ad D 1).bind fun AF =>
  ck N k U J AB AC AF)
  else
  some (.inr D))
  else
  some (.inr D))
def eN (N:Nat) (a0:List (ByteArray × (Int × List (List Int)))) (a1:ByteArray):Option ((Int × List (List Int)) × Bool) :=
  (ck N N a1 a0 0 [] 0).bind fun D =>
  lpS D (fun q=>some q) fun J =>
  some ((0,[]),false)
def dl (N:Nat):Nat→(List (ByteArray × (Int × List (List Int))))→Int→(List (ByteArray × List Int))→(List Int)→Int→Option (Sum Bool Int)
 | 0,_,_,_,_,_=>none
 | k+1,U,Z,J,AB,D =>
  (bif decide (D<(J.length:Int)) then
  (ix J D).bind fun AC =>
  (eN N U AC.1).bind fun Y =>
  (bif Y.2 then
  (ix J D).bind fun AD =>
  (bif (Y.1.1 != (AD.2.length:Int)) then
  some (.inl false)
  else
  (ad D 1).bind fun AE =>
  dl N k U Z J AB AE)
  else
  some (.inl false))
  else
  some (.inr D))
def ig (N:Nat) (a0:List (ByteArray × (Int × List (List Int)))) (a1:Int) (a2:List (ByteArray × List Int)) (a3:List Int):Option Bool :=
  (dl N N a0 a1 a2 a3 0).bind fun D =>
  lpS D (fun q=>some q) fun Y =>
  (dz N a1 a2 a3).bind fun J =>
  (bif J then
  (eC N a0).bind fun U =>
  some U
  else
  some false)
def dh (N:Nat):Nat→(List Int)→Int→Option (Sum Bool Int)
 | 0,_,_=>none
 | k+1,D,J =>
  (bif decide (J<(D.length:Int)) then
  (ix D J).bind fun U =>
  (sb (D.length:Int) 1).bind fun Y =>
  (ef N U 0 Y).bind fun Z =>
  (bif Z then
  (slc D 0 J).bind fun AB =>
  (ix D J).bind fun AC =>
  (eW N AB AC).bind fun AD =>
  (bif decide (0≤AD) then
  some (.inl false)
  else
  (ad J 1).bind fun AE =>
  dh N k D AE)
  else
  some (.inl false))
  else
  some (.inr J))
def fd (N:Nat) (a0:List Int):Option Bool :=
  (dh N N a0 0).bind fun D =>
  lpS D (fun q=>some q) fun J =>
  some (decide ((a0.length:Int)≤5))
def gD (N:Nat) (a0:Int) (a1:List (ByteArray × List Int)) (a2:List Int) (a3:List Int):Option Bool :=
  (dz N a0 a1 a2).bind fun D =>
  (bif D then
  (bif ((a3.length:Int) == a0) then
  (fd N a3).bind fun J =>
  some J
  else
  some false)
  else
  some false)
def eu (N:Nat):Nat→(List Int)→(List Int)→(List Int)→Int→Option ((List Int) × Int)
 | 0,_,_,_,_=>none
 | k+1,U,J,Y,D =>
  (bif decide (D<(J.length:Int)) then
  (ix J D).bind fun Z =>
  (ix U Z).bind fun AB =>
  (apd 8 Y [AB]).bind fun AC =>
  (ad D 1).bind fun AD =>
  eu N k U J AC AD
  else
  some (Y,D))
def ka (N:Nat) (a0:List Int) (a1:List Int):Option (List Int) :=
  (eu N N a0 a1 [] 0).bind fun D =>
  lpB D fun (J,U) =>
  some J
def dW (N:Nat):Nat→(List Int)→Int→(List (List Int))→Int→(List (List Int))→Int→Option (Sum ((Int × List (List Int)) × Bool) Int)
 | 0,_,_,_,_,_,_=>none
 | k+1,J,U,Y,Z,AB,D =>
  (bif decide (D<(J.length:Int)) then
  (ix J D).bind fun AC =>
  (sb U 1).bind fun AD =>
  (ef N AC 0 AD).bind fun AE =>
  (bif AE then
  (ad D 1).bind fun AF =>
  dW N k J U Y Z AB AF
  else
  some (.inl ((0,[]),false)))
  else
  some (.inr D))
def dV (N:Nat):Nat→(List Int)→Int→(List (List Int))→Int→(List (List Int))→(List (List Int))→Int→Option ((List (List Int)) × Int)
 | 0,_,_,_,_,_,_,_=>none
 | k+1,U,Z,J,AB,AC,Y,D =>
  (bif decide (D<(J.length:Int)) then
  (ix J D).bind fun AD =>
  (ka N AD U).bind fun AE =>
  (apd 24 Y [AE]).bind fun AF =>
  (ad D 1).bind fun AG =>
  dV N k U Z J AB AC AF AG
  else
  some (Y,D))
def js (N:Nat) (a0:Int) (a1:List (List Int)) (a2:List Int):Option ((Int × List (List Int)) × Bool) :=
  (dW N N a2 a0 a1 0 [] 0).bind fun J =>
  lpS J (fun q=>some q) fun AB =>
  (cy N a0 a1).bind fun U =>
  (bif U then
  (bif decide (5<(a2.length:Int)) then
  some ((0,[]),false)
  else
  (dV N N a2 a0 a1 0 [] [] 0).bind fun Y =>
  lpB Y fun (Z,AC) =>
  (dr N (a2.length:Int) Z).bind fun D =>
  some ((D.1.1,D.1.2),D.2))
  else
  some ((0,[]),false))
def iK (N:Nat) (a0:Int) (a1:List (List Int)) (a2:List Int):Option ((Int × List (List Int)) × Bool) :=
  (fd N a2).bind fun J =>
  (bif J then
  (bif ((a2.length:Int) != a0) then
  some ((0,[]),false)
  else
  (js N a0 a1 a2).bind fun D =>
  (bif D.2 then
  some ((D.1.1,D.1.2),true)
  else
  some ((0,[]),false)))
  else
  some ((0,[]),false))
def cq (N:Nat):Nat→ByteArray→(List Int)→(List Int)→Int→Option ((List Int) × Int)
 | 0,_,_,_,_=>none
 | k+1,J,U,Y,D =>
  (bif decide (D<5) then
  (dg N J U D).bind fun Z =>
  (bif Z then
  (apd 8 Y [D]).bind fun AB =>
  (ad D 1).bind fun AC =>
  cq N k J U AB AC
  else
  (ad D 1).bind fun AD =>
  cq N k J U Y AD)
  else
  some (Y,D))
def fc (N:Nat) (a0:ByteArray) (a1:List Int):Option (List Int) :=
  (cq N N a0 a1 [] 0).bind fun D =>
  lpB D fun (J,U) =>
  some J
def cX (N:Nat):Nat→ByteArray→(List Int)→Int→(List (List Int))→(List Int)→Int→(List (List Int))→Int→(List (List Int))→(List (List Int))→Int→(List Int)→Int→Option ((List Int) × Int)
 | 0,_,_,_,_,_,_,_,_,_,_,_,_,_=>none
 | k+1,AC,U,AD,AE,J,AF,Y,AG,AH,AI,Z,AB,D =>
  (bif decide (D<(J.length:Int)) then
  (ix Y Z).bind fun AJ =>
  (ix J D).bind fun AK =>
  (eW N U AK).bind fun AM =>
  (ix AJ AM).bind fun AN =>
  (apd 8 AB [AN]).bind fun AO =>
  (ad D 1).bind fun AP =>
  cX N k AC U AD AE J AF Y AG AH AI Z AO AP
  else
  some (AB,D))
def bZ (N:Nat):Nat→ByteArray→(List Int)→Int→(List (List Int))→(List Int)→Int→(List (List Int))→Int→(List (List Int))→(List (List Int))→Int→(List Int)→Bool→Int→Option (Bool × Int)
 | 0,_,_,_,_,_,_,_,_,_,_,_,_,_,_=>none
 | k+1,AC,J,AD,AE,U,AF,Y,AG,AH,AI,Z,AB,AJ,D =>
  (bif decide (D<(J.length:Int)) then
  (ix J D).bind fun AM =>
  (eW N U AM).bind fun AK =>
  (bif AJ then
  (bif decide (0≤AK) then
  (ix AB AK).bind fun AN =>
  (ix Y Z).bind fun AO =>
  (ix AO D).bind fun AP =>
  (ad D 1).bind fun AQ =>
  bZ N k AC J AD AE U AF Y AG AH AI Z AB (AN == AP) AQ
  else
  (ad D 1).bind fun AR =>
  bZ N k AC J AD AE U AF Y AG AH AI Z AB false AR)
  else
  (ad D 1).bind fun AS =>
  bZ N k AC J AD AE U AF Y AG AH AI Z AB false AS)
  else
  some (AJ,D))
def cD (N:Nat):Nat→ByteArray→(List Int)→Int→(List (List Int))→(List Int)→Int→(List (List Int))→Int→(List (List Int))→(List (List Int))→Int→Option ((List (List Int)) × Int)
 | 0,_,_,_,_,_,_,_,_,_,_,_=>none
 | k+1,Y,Z,AB,AC,AD,AE,J,AF,AG,U,D =>
  (bif decide (D<(J.length:Int)) then
  (cX N N Y Z AB AC AD AE J AF AG U D [] 0).bind fun AI =>
  lpB AI fun (AH,AP) =>
  (bZ N N Y Z AB AC AD AE J AF AG U D AH true 0).bind fun AJ =>
  lpB AJ fun (AK,AQ) =>
  (bif AK then
  (apd 24 U [AH]).bind fun AM =>
  (ad D 1).bind fun AN =>
  cD N k Y Z AB AC AD AE J AF AG AM AN
  else
  (ad D 1).bind fun AO =>
  cD N k Y Z AB AC AD AE J AF AG U AO)
  else
  some (U,D))
def gB (N:Nat) (a0:List (ByteArray × (Int × List (List Int)))) (a1:ByteArray) (a2:List Int):Option (Int × List (List Int)) :=
  (fc N a1 a2).bind fun D =>
  (eN N a0 a1).bind fun J =>
  (bif J.2 then
  (bif (J.1.1 != (a2.length:Int)) then
  some ((D.length:Int),[])
  else
  (cD N N a1 a2 0 [] D J.1.1 J.1.2 (D.length:Int) [] [] 0).bind fun Y =>
  lpB Y fun (Z,AB) =>
  (dr N (D.length:Int) Z).bind fun U =>
  (bif U.2 then
  some (U.1.1,U.1.2)
  else
  some ((D.length:Int),[])))
  else
  some ((D.length:Int),[]))
def bV (N:Nat):Nat→(List Int)→(List Int)→(List Int)→Int→Option ((List Int) × Int)
 | 0,_,_,_,_=>none
 | k+1,J,Y,U,D =>
  (bif decide (D<(J.length:Int)) then
  (ix J D).bind fun AB =>
  (eW N Y AB).bind fun Z =>
  (bif decide (0≤Z) then
  (eW N U Z).bind fun AC =>
  (bif decide (AC<0) then
  (apd 8 U [Z]).bind fun AD =>
  (ad D 1).bind fun AE =>
  bV N k J Y AD AE
  else
  (ad D 1).bind fun AF =>
  bV N k J Y U AF)
  else
  (ad D 1).bind fun AG =>
  bV N k J Y U AG)
  else
  some (U,D))
def fw (N:Nat) (a0:ByteArray) (a1:List Int) (a2:List Int):Option (List Int) :=
  (fc N a0 a1).bind fun D =>
  (bV N N a2 D [] 0).bind fun J =>
  lpB J fun (U,Y) =>
  some U
def dk (N:Nat):Nat→(List Int)→(List (ByteArray × (Int × List (List Int))))→Int→(List (ByteArray × List Int))→(List Int)→(List (Int × List (List Int)))→Int→Option (Sum ((List (Int × List (List Int))) × Bool) ((List (Int × List (List Int))) × Int))
 | 0,_,_,_,_,_,_,_=>none
 | k+1,Y,Z,AF,J,AG,AB,D =>
  (bif decide (D<(J.length:Int)) then
  (ix J D).bind fun AC =>
  (ix J D).bind fun AD =>
  (gB N Z AC.1 AC.2).bind fun AE =>
  (fw N AD.1 AD.2 Y).bind fun AH =>
  (iK N AE.1 AE.2 AH).bind fun U =>
  (bif U.2 then
  (apd 32 AB [(U.1.1,U.1.2)]).bind fun AI =>
  (ad D 1).bind fun AJ =>
  dk N k Y Z AF J AG AI AJ
  else
  some (.inl ([],false)))
  else
  some (.inr (AB,D)))
def il (N:Nat) (a0:List (ByteArray × (Int × List (List Int)))) (a1:Int) (a2:List (ByteArray × List Int)) (a3:List Int) (a4:List Int):Option ((List (Int × List (List Int))) × Bool) :=
  (ig N a0 a1 a2 a3).bind fun D =>
  (bif D then
  (gD N a1 a2 a3 a4).bind fun J =>
  (bif J then
  (dk N N a4 a0 a1 a2 a3 [] 0).bind fun U =>
  lpS U (fun q=>some q) fun (Y,Z) =>
  some (Y,true)
  else
  some ([],false))
  else
  some ([],false))
def dO (N:Nat):Nat→(List (Int × List (List Int)))→Int→Option (Sum Bool Int)
 | 0,_,_=>none
 | k+1,J,D =>
  (bif decide (D<(J.length:Int)) then
  (ix J D).bind fun U =>
  (bif ((U.2.length:Int) == 0) then
  some (.inl true)
  else
  (ad D 1).bind fun Y =>
  dO N k J Y)
  else
  some (.inr D))
def hY (N:Nat) (a0:List (Int × List (List Int))):Option Bool :=
  (dO N N a0 0).bind fun D =>
  lpS D (fun q=>some q) fun J =>
  some false
def bL (N:Nat):Nat→Int→Int→(List (ByteArray × List Int))→(List Int)→(List Int)→Int→Option ((List Int) × Int)
 | 0,_,_,_,_,_,_=>none
 | k+1,Y,Z,J,AB,U,D =>
  (bif decide (D<(J.length:Int)) then
  (dz N Z J AB).bind fun AD =>
  (bif AD then
  (ix J D).bind fun AC =>
  (dg N AC.1 AC.2 Y).bind fun AE =>
  (bif AE then
  (apd 8 U [D]).bind fun AF =>
  (ad D 1).bind fun AG =>
  bL N k Y Z J AB AF AG
  else
  (ad D 1).bind fun AH =>
  bL N k Y Z J AB U AH)
  else
  some (U,D))
  else
  some (U,D))
def eU (N:Nat) (a0:Int) (a1:List (ByteArray × List Int)) (a2:List Int) (a3:Int):Option (List Int) :=
  (bL N N a3 a0 a1 a2 [] 0).bind fun D =>
  lpB D fun (J,U) =>
  some J
def lK (N:Nat) (a0:Int) (a1:List (List Int)):Option (Int × List (List Int)) :=
  some (a0,a1)
def g7 (N:Nat) (a0:Int) (a1:List (List Int)):Option Bool :=
  (lK N a0 a1).bind fun D =>
  (cy N D.1 D.2).bind fun J =>
  some J
def cu (N:Nat):Nat→(List Int)→Int→(List (List Int))→Int→Option Int
 | 0,_,_,_,_=>none
 | k+1,J,Y,U,D =>
  (bif decide (D<(U.length:Int)) then
  (ix U D).bind fun Z =>
  (slc Z 0 (J.length:Int)).bind fun AB =>
  (bC N AB J).bind fun AC =>
  (bif decide (AC<0) then
  (ad D 1).bind fun AD =>
  cu N k J Y U AD
  else
  some D)
  else
  some D)
def ce (N:Nat):Nat→(List Int)→Int→(List (List Int))→Int→Int→Option Int
 | 0,_,_,_,_,_=>none
 | k+1,J,Y,U,Z,D =>
  (bif decide (D<(U.length:Int)) then
  (ix U D).bind fun AB =>
  (slc AB 0 (J.length:Int)).bind fun AC =>
  (bC N AC J).bind fun AD =>
  (bif (AD == 0) then
  (ad D 1).bind fun AE =>
  ce N k J Y U Z AE
  else
  some D)
  else
  some D)
def gK (N:Nat) (a0:Int) (a1:List (List Int)) (a2:List Int):Option (Int × Int) :=
  (g7 N a0 a1).bind fun J =>
  (bif J then
  (bif decide (a0<(a2.length:Int)) then
  some (0,0)
  else
  (cu N N a2 a0 a1 0).bind fun U =>
  lpB U fun D =>
  (ce N N a2 a0 a1 D D).bind fun Y =>
  lpB Y fun Z =>
  some (D,Z))
  else
  some (0,0))
def bz (N:Nat):Nat→(List Int)→Int→(List (List Int))→(List Int)→Int→Int→Option ((List Int) × Int)
 | 0,_,_,_,_,_,_=>none
 | k+1,U,Y,Z,D,AB,J =>
  (bif decide (J<AB) then
  (bif decide ((U.length:Int)<Y) then
  (ix Z J).bind fun AD =>
  (ix AD (U.length:Int)).bind fun AC =>
  (bif ((D.length:Int) == 0) then
  (apd 8 D [AC]).bind fun AE =>
  (ad J 1).bind fun AF =>
  bz N k U Y Z AE AB AF
  else
  (sb (D.length:Int) 1).bind fun AG =>
  (ix D AG).bind fun AH =>
  (bif (AH != AC) then
  (apd 8 D [AC]).bind fun AI =>
  (ad J 1).bind fun AJ =>
  bz N k U Y Z AI AB AJ
  else
  (ad J 1).bind fun AK =>
  bz N k U Y Z D AB AK))
  else
  some (D,J))
  else
  some (D,J))
def fK (N:Nat) (a0:Int) (a1:List (List Int)) (a2:List Int):Option (List Int) :=
  (gK N a0 a1 a2).bind fun D =>
  (bz N N a2 a0 a1 [] D.2 D.1).bind fun J =>
  lpB J fun (U,Y) =>
  some U
def cO (N:Nat):Nat→(List Int)→(List Int)→ByteArray→(List Int)→(List Int)→Int→Option ((List Int) × Int)
 | 0,_,_,_,_,_,_=>none
 | k+1,U,J,Y,Z,AB,D =>
  (bif decide (D<(J.length:Int)) then
  (ix U D).bind fun AC =>
  (dg N Y Z AC).bind fun AD =>
  (bif AD then
  (ix J D).bind fun AE =>
  (apd 8 AB [AE]).bind fun AF =>
  (ad D 1).bind fun AG =>
  cO N k U J Y Z AF AG
  else
  (ad D 1).bind fun AH =>
  cO N k U J Y Z AB AH)
  else
  some (AB,D))
def gP (N:Nat) (a0:ByteArray) (a1:List Int) (a2:List Int) (a3:List Int):Option (List Int) :=
  (cO N N a2 a3 a0 a1 [] 0).bind fun D =>
  lpB D fun (J,U) =>
  some J
def cj (N:Nat):Nat→(List Int)→Int→Option (Sum Bool Int)
 | 0,_,_=>none
 | k+1,J,D =>
  (bif decide (D<(J.length:Int)) then
  (ix J D).bind fun U =>
  (sb D 1).bind fun Y =>
  (ix J Y).bind fun Z =>
  (bif decide (U≤Z) then
  some (.inl false)
  else
  (ad D 1).bind fun AB =>
  cj N k J AB)
  else
  some (.inr D))
def eg (N:Nat) (a0:List Int):Option Bool :=
  (cj N N a0 1).bind fun D =>
  lpS D (fun q=>some q) fun J =>
  some true
def e7 (N:Nat):Nat→(List (List Int))→Int→Option (Sum Bool Int)
 | 0,_,_=>none
 | k+1,J,D =>
  (bif decide (D<(J.length:Int)) then
  (ix J D).bind fun U =>
  (eg N U).bind fun Y =>
  (bif Y then
  (ad D 1).bind fun Z =>
  e7 N k J Z
  else
  some (.inl false))
  else
  some (.inr D))
def j8 (N:Nat) (a0:List (List Int)):Option Bool :=
  (e7 N N a0 0).bind fun D =>
  lpS D (fun q=>some q) fun J =>
  some (decide (0<(a0.length:Int)))
def bO (N:Nat):Nat→(List (List Int))→Int→Int→Option (Int × Int)
 | 0,_,_,_=>none
 | k+1,J,U,D =>
  (bif decide (D<(J.length:Int)) then
  (bif (D == 0) then
  (ix J D).bind fun Y =>
  (ad D 1).bind fun Z =>
  bO N k J (Y.length:Int) Z
  else
  (ix J D).bind fun AB =>
  (bif decide ((AB.length:Int)<U) then
  (ix J D).bind fun AC =>
  (ad D 1).bind fun AD =>
  bO N k J (AC.length:Int) AD
  else
  (ad D 1).bind fun AE =>
  bO N k J U AE))
  else
  some (U,D))
def fP (N:Nat) (a0:List (List Int)):Option Int :=
  (bO N N a0 0 0).bind fun D =>
  lpB D fun (J,U) =>
  some J
def fW (N:Nat):Nat→(List (List Int))→(List Int)→Int→Int→Option Int
 | 0,_,_,_,_=>none
 | k+1,J,U,Y,D =>
  (bif decide (0<D) then
  (sb D 1).bind fun Z =>
  (ix U Z).bind fun AB =>
  (ix J AB).bind fun AC =>
  (ix AC 0).bind fun AD =>
  (ix J Y).bind fun AE =>
  (ix AE 0).bind fun AF =>
  (bif decide (AF<AD) then
  (sb D 1).bind fun AG =>
  fW N k J U Y AG
  else
  some D)
  else
  some D)
def du (N:Nat):Nat→(List (List Int))→(List Int)→Int→Option ((List Int) × Int)
 | 0,_,_,_=>none
 | k+1,U,D,J =>
  (bif decide (J<(U.length:Int)) then
  (fW N N U D J (D.length:Int)).bind fun Z =>
  lpB Z fun Y =>
  (slc D 0 Y).bind fun AB =>
  (slc D Y (D.length:Int)).bind fun AC =>
  (apd 8 [] AB).bind fun AD =>
  (apd 8 AD [J]).bind fun AE =>
  (apd 8 AE AC).bind fun AF =>
  (ad J 1).bind fun AG =>
  du N k U AF AG
  else
  some (D,J))
def i9 (N:Nat) (a0:List (List Int)):Option (List Int) :=
  (du N N a0 [] 0).bind fun D =>
  lpB D fun (J,U) =>
  some J
def dy (N:Nat):Nat→(List Int)→Int→Int→Option Int
 | 0,_,_,_=>none
 | k+1,J,U,D =>
  (bif decide (D<(J.length:Int)) then
  (ix J D).bind fun Y =>
  (bif decide (Y<U) then
  (ad D 1).bind fun Z =>
  dy N k J U Z
  else
  some D)
  else
  some D)
def iF (N:Nat) (a0:List Int) (a1:Int) (a2:Int):Option Int :=
  (dy N N a0 a2 (imx 0 a1)).bind fun D =>
  lpB D fun J =>
  some (imn J (imx (a0.length:Int) 0))
def cZ (N:Nat):Nat→(List (List Int))→(List Int)→(List Int)→(List Int)→Int→Int→Int→Option ((List Int) × Int)
 | 0,_,_,_,_,_,_,_=>none
 | k+1,J,AB,Y,U,AC,AF,AI =>
  (ix Y AC).bind fun D =>
  (ix J D).bind fun AJ =>
  (ix U D).bind fun AK =>
  (ix AJ AK).bind fun AG =>
  (ad AI 1).bind fun Z =>
  (bif (AG == AF) then
  (apd 8 AB [AG]).bind fun AH =>
  (ix U D).bind fun AM =>
  (ad AM 1).bind fun AN =>
  (ix U D).bind fun A5 =>
  (sto U D AN).bind fun AD =>
  (ix AD D).bind fun AO =>
  (ix J D).bind fun AP =>
  (bif (AO == (AP.length:Int)) then
  some (AH,Z)
  else
  (ix J D).bind fun AQ =>
  (ix AD D).bind fun AR =>
  (ix AQ AR).bind fun AS =>
  (ad AC 1).bind fun AT =>
  (rm AT (Y.length:Int)).bind fun AU =>
  cZ N k J AH Y AD AU AS Z)
  else
  (ix J D).bind fun AV =>
  (ix U D).bind fun AW =>
  (iF N AV AW AF).bind fun AX =>
  (ix U D).bind fun A6 =>
  (sto U D AX).bind fun AE =>
  (ix AE D).bind fun AY =>
  (ix J D).bind fun AZ =>
  (bif (AY == (AZ.length:Int)) then
  some (AB,Z)
  else
  (ix J D).bind fun A0 =>
  (ix AE D).bind fun A1 =>
  (ix A0 A1).bind fun A2 =>
  (ad AC 1).bind fun A3 =>
  (rm A3 (Y.length:Int)).bind fun A4 =>
  cZ N k J AB Y AE A4 A2 Z))
def dS (N:Nat) (a0:List (List Int)):Option ((List Int) × Int) :=
  (j8 N a0).bind fun J =>
  (bif J then
  (fP N a0).bind fun U =>
  (bif (U == 0) then
  some ([],0)
  else
  (i9 N a0).bind fun D =>
  (mk 8 (0:Int) (a0.length:Int)).bind fun Y =>
  (sb (D.length:Int) 1).bind fun Z =>
  (ix D Z).bind fun AB =>
  (ix a0 AB).bind fun AC =>
  (ix AC 0).bind fun AD =>
  cZ N N a0 [] D Y 0 AD 0)
  else
  some ([],0))
def dH (N:Nat):Nat→(List (Int × List (List Int)))→(List Int)→(List Int)→Int→(List (ByteArray × List Int))→(List Int)→(List Int)→(List (List Int))→Int→Option ((List (List Int)) × Int)
 | 0,_,_,_,_,_,_,_,_,_=>none
 | k+1,U,Y,Z,AF,AB,AG,J,AC,D =>
  (bif decide (D<(J.length:Int)) then
  (ix J D).bind fun AH =>
  (ix U AH).bind fun AD =>
  (ix J D).bind fun AI =>
  (ix AB AI).bind fun AE =>
  (gP N AE.1 AE.2 Y Z).bind fun AJ =>
  (fK N AD.1 AD.2 AJ).bind fun AK =>
  (apd 24 AC [AK]).bind fun AM =>
  (ad D 1).bind fun AN =>
  dH N k U Y Z AF AB AG J AM AN
  else
  some (AC,D))
def jK (N:Nat) (a0:List (Int × List (List Int))) (a1:Int) (a2:List (ByteArray × List Int)) (a3:List Int) (a4:List Int) (a5:List Int):Option ((List Int) × Int) :=
  (ix a4 (a5.length:Int)).bind fun J =>
  (eU N a1 a2 a3 J).bind fun U =>
  (dH N N a0 a4 a5 a1 a2 a3 U [] 0).bind fun Y =>
  lpB Y fun (Z,AB) =>
  (dS N Z).bind fun D =>
  some (D.1,D.2)
def dn (rec:(List (Int × List (List Int)))→Int→(List (ByteArray × List Int))→(List Int)→(List Int)→(List Int)→Option ((List (List Int)) × Int)) (N:Nat):Nat→(List (Int × List (List Int)))→(List Int)→(List Int)→Int→(List (ByteArray × List Int))→(List Int)→(List (List Int))→(List Int)→Int→Int→Option ((List (List Int)) × Int × Int)
 | 0,_,_,_,_,_,_,_,_,_,_=>none
 | k+1,U,Y,Z,AB,AC,AD,AE,J,AF,D =>
  (bif decide (D<(J.length:Int)) then
  (ix J D).bind fun AH =>
  (apd 8 [] Z).bind fun AI =>
  (apd 8 AI [AH]).bind fun AJ =>
  (rec U AB AC AD Y AJ).bind fun AG =>
  (apd 24 AE AG.1).bind fun AK =>
  (ad AF AG.2).bind fun AM =>
  (ad D 1).bind fun AN =>
  dn rec N k U Y Z AB AC AD AK J AM AN
  else
  some (AE,AF,D))
def db:Nat→(List (Int × List (List Int)))→Int→(List (ByteArray × List Int))→(List Int)→(List Int)→(List Int)→Option ((List (List Int)) × Int)
 | 0,_,_,_,_,_,_=>none
 | N+1,a0,a1,a2,a3,a4,a5 =>
  (bif ((a5.length:Int) == (a4.length:Int)) then
  (apd 8 [] a5).bind fun J =>
  some ([J],0)
  else
  (jK N a0 a1 a2 a3 a4 a5).bind fun D =>
  (dn (db N) N N a0 a4 a5 a1 a2 a3 [] D.1 D.2 0).bind fun U =>
  lpB U fun (Y,Z,AB) =>
  some (Y,Z))
def eF (N:Nat) (a0:List (ByteArray × (Int × List (List Int)))) (a1:Int) (a2:List (ByteArray × List Int)) (a3:List Int) (a4:List Int):Option ((Int × List (List Int)) × Int × Bool) :=
  (il N a0 a1 a2 a3 a4).bind fun D =>
  (bif D.2 then
  (hY N D.1).bind fun Y =>
  (bif Y then
  some (((a4.length:Int),[]),0,true)
  else
  (db N D.1 a1 a2 a3 a4 []).bind fun U =>
  (dr N (a4.length:Int) U.1).bind fun J =>
  (bif J.2 then
  some ((J.1.1,J.1.2),U.2,true)
  else
  some ((0,[]),0,false)))
  else
  some ((0,[]),0,false))
def jz (N:Nat) (a0:List Int) (a1:Int) (a2:Int) (a3:List (ByteArray × (Int × List (List Int)))) (a4:Int) (a5:List (ByteArray × List Int)) (a6:List Int) (a7:List Int):Option ((List Int) × Int × Int) :=
  (eF N a3 a4 a5 a6 a7).bind fun Y =>
  (bif decide (0<(Y.1.2.length:Int)) then
  (eh N a0 a1 a2 2).bind fun D =>
  (bif D.1 then
  (bD N a0 D.2.1 D.2.2 (Y.1.2.length:Int)).bind fun Z =>
  (ix Y.1.2 Z.1).bind fun AF =>
  (apd 8 [] AF).bind fun AG =>
  some (AG,Z.2.1,Z.2.2)
  else
  (eh N a0 D.2.1 D.2.2 2).bind fun J =>
  (bif J.1 then
  some ([],J.2.1,J.2.2)
  else
  (bD N a0 J.2.1 J.2.2 5).bind fun AB =>
  (gG N a0 AB.2.1 AB.2.2 AB.1 4).bind fun AC =>
  some (AC.1,AC.2.1,AC.2.2)))
  else
  (eh N a0 a1 a2 2).bind fun U =>
  (bif U.1 then
  some ([],U.2.1,U.2.2)
  else
  (bD N a0 U.2.1 U.2.2 5).bind fun AD =>
  (gG N a0 AD.2.1 AD.2.2 AD.1 4).bind fun AE =>
  some (AE.1,AE.2.1,AE.2.2)))
def fh (N:Nat) (a0:List Int):Option ((List (ByteArray × (Int × List (List Int)))) × (Int × List (ByteArray × List Int) × List Int) × (List Int) × (List Int) × Int) :=
  (lb N a0).bind fun U =>
  (jD N a0 U.1 U.2).bind fun D =>
  (jz N a0 D.2.2.2.1 D.2.2.2.2 D.1 D.2.1.1 D.2.1.2.1 D.2.1.2.2 D.2.2.1).bind fun J =>
  (bD N a0 J.2.1 J.2.2 6).bind fun Y =>
  (sb Y.1 1).bind fun Z =>
  some (D.1,(D.2.1.1,D.2.1.2.1,D.2.1.2.2),D.2.2.1,J.1,Z)
def el (N:Nat) (a0:Int) (a1:Int) (a2:Int):Option Bool :=
  (bif decide (a1≤a0) then
  some (decide (a0≤a2))
  else
  some false)
def im (N:Nat):Nat→Int→(List Int)→Int→Int→Option (Sum Int Int)
 | 0,_,_,_,_=>none
 | k+1,J,U,Y,D =>
  (bif decide (D<Y) then
  (ix U D).bind fun Z =>
  (bif (Z == J) then
  some (.inl D)
  else
  (ad D 1).bind fun AB =>
  im N k J U Y AB)
  else
  some (.inr D))
def gV (N:Nat) (a0:List Int) (a1:Int):Option Int :=
  (im N N a1 a0 (a0.length:Int) 0).bind fun D =>
  lpS D (fun q=>some q) fun J =>
  some (-1)
def iq (N:Nat) (a0:List Int) (a1:Int):Option Bool :=
  (gV N a0 a1).bind fun D =>
  some (decide (0≤D))
def eH (N:Nat):Nat→(List Int)→Int→(List Int)→Int→Int→Option (Sum Bool Int)
 | 0,_,_,_,_,_=>none
 | k+1,J,U,Y,Z,D =>
  (bif decide (D<Z) then
  (ix Y D).bind fun AB =>
  (sb U 1).bind fun AC =>
  (el N AB 0 AC).bind fun AD =>
  (bif AD then
  (slc J 0 D).bind fun AE =>
  (iq N AE AB).bind fun AF =>
  (bif AF then
  some (.inl false)
  else
  (ad D 1).bind fun AG =>
  eH N k J U Y Z AG)
  else
  some (.inl false))
  else
  some (.inr D))
def gW (N:Nat) (a0:List Int) (a1:Int):Option Bool :=
  (eH N N a0 a1 a0 (a0.length:Int) 0).bind fun D =>
  lpS D (fun q=>some q) fun J =>
  some true
def fE (N:Nat):Nat→ByteArray→Int→Option (Sum Bool Int)
 | 0,_,_=>none
 | k+1,J,D =>
  (bif decide (D<(J.size:Int)) then
  (bx J D).bind fun U =>
  (bif decide (U<97) then
  some (.inl false)
  else
  (bx J D).bind fun Y =>
  (bif decide (122<Y) then
  some (.inl false)
  else
  (ad D 1).bind fun Z =>
  fE N k J Z))
  else
  some (.inr D))
def jQ (N:Nat) (a0:ByteArray) (a1:Int):Option Bool :=
  (bif decide ((a0.size:Int)<1) then
  some false
  else
  (bif decide (a1<(a0.size:Int)) then
  some false
  else
  (fE N N a0 0).bind fun D =>
  lpS D (fun q=>some q) fun J =>
  some true))
def f4 (N:Nat) (a0:ByteArray):Option Bool :=
  (jQ N a0 4).bind fun D =>
  some D
def cC (N:Nat):Nat→Int→(List Bool)→(List (ByteArray × List Int))→Int→Int→(List Int)→Int→Int→Option (Sum Bool ((List Bool) × Int))
 | 0,_,_,_,_,_,_,_,_=>none
 | k+1,Y,J,AC,AD,AE,Z,AB,D =>
  (bif decide (D<AB) then
  (ix Z D).bind fun U =>
  (sb Y 1).bind fun AF =>
  (el N U 0 AF).bind fun AG =>
  (bif AG then
  (ix J U).bind fun AJ =>
  (sto J U true).bind fun AH =>
  (ad D 1).bind fun AI =>
  cC N k Y AH AC AD AE Z AB AI
  else
  some (.inl false))
  else
  some (.inr (J,D)))
def cE (N:Nat):Nat→Int→(List Bool)→(List (ByteArray × List Int))→Int→Int→Option (Sum Bool ((List Bool) × Int))
 | 0,_,_,_,_,_=>none
 | k+1,Z,AB,U,Y,D =>
  (bif decide (D<Y) then
  (ix U D).bind fun J =>
  (f4 N J.1).bind fun AC =>
  (bif AC then
  (el N (J.2.length:Int) 1 5).bind fun AD =>
  (bif AD then
  (cC N N Z AB U Y D J.2 (J.2.length:Int) 0).bind fun AE =>
  lpS AE (fun q=>some (.inl q)) fun (AF,AH) =>
  (ad D 1).bind fun AG =>
  cE N k Z AF U Y AG
  else
  some (.inl false))
  else
  some (.inl false))
  else
  some (.inr (AB,D)))
def c3 (N:Nat):Nat→(List Bool)→Int→Int→Option (Sum Bool Int)
 | 0,_,_,_=>none
 | k+1,J,U,D =>
  (bif decide (D<U) then
  (ix J D).bind fun Y =>
  (bif Y then
  (ad D 1).bind fun Z =>
  c3 N k J U Z
  else
  some (.inl false))
  else
  some (.inr D))
def fI (N:Nat) (a0:Int) (a1:List (ByteArray × List Int)) (a2:List Int):Option Bool :=
  (el N a0 1 5).bind fun J =>
  (bif J then
  (el N (a1.length:Int) 1 4).bind fun U =>
  (bif U then
  (gW N a2 a0).bind fun Y =>
  (bif Y then
  (mk 1 (false:Bool) a0).bind fun Z =>
  (cE N N a0 Z a1 (a1.length:Int) 0).bind fun AB =>
  lpS AB (fun q=>some q) fun (D,AD) =>
  (c3 N N D (D.length:Int) 0).bind fun AC =>
  lpS AC (fun q=>some q) fun AE =>
  some true
  else
  some false)
  else
  some false)
  else
  some false)
end Go.Proofs.YtnipkopfefkojaaGreat
