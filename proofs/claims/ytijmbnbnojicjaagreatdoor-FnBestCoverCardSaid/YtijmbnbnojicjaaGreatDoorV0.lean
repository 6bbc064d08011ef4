/- A small separation logic over the model: how lists, rows and structs of Go read in memory ('Rep'), what a call owns ('Sat'), and the laws of the walk for them. Program-independent. -/
import Derived.WalkKit
import Derived.ProofKit
import Derived.WalkLawsBesides
import Derived.Outline
import Derived.Lib.Hide
import Derived.Deep.Quiet
import Derived.Deep.LoopGhost
import Derived.IntWalk
import Derived.Test.YtijmbnbnojicjaaGreatDoorRows
import Derived.OpenShut
import Derived.Lib.SmallJoins
import Derived.Laws.BytesString
namespace Go.Proofs.YtijmbnbnojicjaaGreatDoor
open Go.RowKit
abbrev Ext (w w':World):Prop:=Below w.heap.size w w'

theorem Ext.refl (w:World):Ext w w:=Below.refl _ _
theorem Ext.trans {a b c:World} (h:Ext a b) (k:Ext b c):Ext a c:=Below.trans h (k.mono h.size)
theorem Below.andExt {B:Nat} {a b c:World} (h:Below B a b) (hB:B≤b.heap.size) (k:Ext b c):Below B a c:=Below.trans h (k.mono hB)

structure Chg (fp:List Nat) (w w':World):Prop where
 os:w'.os=w.os
 tape:w'.tape=w.tape
 output:w'.output=w.output
 size:w.heap.size≤w'.heap.size
 block:∀ k,k<w.heap.size→k∉fp→w'.heap[k]? = w.heap[k]?

theorem Chg.of_ext {w w':World} (h:Ext w w') (fp:List Nat):Chg fp w w':=⟨h.os,h.tape,h.output,h.size,fun k hk _=>h.block k hk⟩
theorem Chg.trans {fp:List Nat} {a b c:World} (h:Chg fp a b) (k:Chg fp b c):Chg fp a c :=
 ⟨k.os.trans h.os,k.tape.trans h.tape,k.output.trans h.output,Nat.le_trans h.size k.size,fun i hi hn=>(k.block i (Nat.lt_of_lt_of_le hi h.size) hn).trans (h.block i hi hn)⟩
theorem Chg.mono {fp fp':List Nat} {a b:World} (h:Chg fp a b) (hs:∀ x∈fp,x∈fp'):Chg fp' a b :=
 ⟨h.os,h.tape,h.output,h.size,fun k hk hn=>h.block k hk (fun hm=>hn (hs k hm))⟩
theorem Chg.ext {a b:World} (h:Chg [] a b):Ext a b:=⟨h.os,h.tape,h.output,h.size,fun k hk=>h.block k hk (by simp)⟩
theorem Chg.refl (fp:List Nat) (w:World):Chg fp w w:=⟨rfl,rfl,rfl,Nat.le_refl _,fun _ _ _=>rfl⟩
theorem Chg.alloc (w:World) (o:Obj):Chg [] w (w.alloc o):=Chg.of_ext ((Below.refl _ _).alloc (Nat.le_refl _) o) _

theorem vf {B:Nat} {a b c:World} {fp:List Nat} (h:Below B a b) (hB:B≤b.heap.size) (k:Chg fp b c) (hf:∀ x∈fp,B≤x):Below B a c :=
  ⟨k.os.trans h.os,k.tape.trans h.tape,k.output.trans h.output,Nat.le_trans h.size k.size,
   fun i hi=>(k.block i (Nat.lt_of_lt_of_le hi hB) (fun hm=>by have:=hf i hm;omega)).trans (h.block i hi)⟩

structure Rep (α:Type) where
 sz:Nat
 rd:World→List Value→α→Prop
 own:World→List Value→α→List Nat→Prop
 rd_len:∀ {w cs x},rd w cs x→cs.length=sz
 rd_one:∀ {w cs x},rd w cs x→∀ c∈cs,c.oneCell'=true
 rd_ext:∀ {w w' cs x},rd w cs x→Ext w w'→rd w' cs x
 own_rd:∀ {w cs x fp},own w cs x fp→rd w cs x
 own_ext:∀ {w w' cs x fp},own w cs x fp→(∀ b∈fp,w'.heap[b]? = w.heap[b]?)→own w' cs x fp
 own_lt:∀ {w cs x fp},own w cs x fp→∀ b∈fp,b<w.heap.size

def bW:Rep Int where
 sz:=1
 rd _ cs n:=cs=[.int .i64 n]
 own _ cs n fp:=cs=[.int .i64 n]∧fp=[]
 rd_len h:=by subst h;rfl
 rd_one h:=by subst h;simp [Value.oneCell']
 rd_ext h _:=h
 own_rd h:=h.1
 own_ext h _:=h
 own_lt h:=by rw [h.2];simp

def kd:Rep ByteArray where
 sz:=1
 rd _ cs s:=cs=[.string s]∧s.size≤9223372036854775807
 own _ cs s fp:=(cs=[.string s]∧s.size≤9223372036854775807)∧fp=[]
 rd_len h:=by rw [h.1];rfl
 rd_one h:=by rw [h.1];simp [Value.oneCell']
 rd_ext h _:=h
 own_rd h:=h.1
 own_ext h _:=h
 own_lt h:=by rw [h.2];simp

def mm {α β:Type} (R:Rep α) (S:Rep β):Rep (α × β) where
 sz:=R.sz+S.sz
 rd w cs x:=∃ c1 c2,cs=c1++c2∧R.rd w c1 x.1∧S.rd w c2 x.2
 own w cs x fp:=∃ c1 c2 f1 f2,cs=c1++c2∧fp=f1++f2∧R.own w c1 x.1 f1∧S.own w c2 x.2 f2
 rd_len h:=by obtain ⟨c1,c2,rfl,h1,h2⟩:=h;rw [List.length_append,R.rd_len h1,S.rd_len h2]
 rd_one h:=by
  obtain ⟨c1,c2,rfl,h1,h2⟩:=h
  intro c hc
  rcases List.mem_append.1 hc with h | h
  ·exact R.rd_one h1 c h
  ·exact S.rd_one h2 c h
 rd_ext h he:=by obtain ⟨c1,c2,rfl,h1,h2⟩:=h;exact ⟨c1,c2,rfl,R.rd_ext h1 he,S.rd_ext h2 he⟩
 own_rd h:=by obtain ⟨c1,c2,f1,f2,rfl,rfl,h1,h2⟩:=h;exact ⟨c1,c2,rfl,R.own_rd h1,S.own_rd h2⟩
 own_ext h he:=by
  obtain ⟨c1,c2,f1,f2,rfl,rfl,h1,h2⟩:=h
  exact ⟨c1,c2,f1,f2,rfl,rfl,R.own_ext h1 (fun b hb=>he b (List.mem_append_left _ hb)),S.own_ext h2 (fun b hb=>he b (List.mem_append_right _ hb))⟩
 own_lt h:=by
  obtain ⟨c1,c2,f1,f2,rfl,rfl,h1,h2⟩:=h
  intro b hb
  rcases List.mem_append.1 hb with h | h
  ·exact R.own_lt h1 b h
  ·exact S.own_lt h2 b h

def lH (w:World) (ao:Option Addr) (ccs:List Value):Prop :=
 ccs=[]∨∃ b off,ao=some ⟨b,off,none⟩∧∀ j c,ccs[j]? = some c→w.cell? ⟨b,off+j,none⟩=some c

section
variable {α:Type} (R:Rep α)
def rdL (w:World):List Value→List α→Prop
 | ccs,[]=>ccs=[]
 | ccs,x :: xs=>∃ ec rest,ccs=ec++rest∧R.rd w ec x∧rdL w rest xs
def eL (w:World):List Value→List α→List Nat→Prop
 | ccs,[],fp=>ccs=[]∧fp=[]
 | ccs,x :: xs,fp=>∃ ec rest f1 f2,ccs=ec++rest∧fp=f1++f2∧R.own w ec x f1∧eL w rest xs f2
variable {R}
theorem iz {w:World}:∀ {xs:List α} {ccs:List Value},rdL R w ccs xs→ccs.length=xs.length*R.sz
 | [],_,h=>by simp only [rdL] at h;subst h;simp
 | x :: xs,_,h=>by
  obtain ⟨ec,rest,rfl,h1,h2⟩:=h
  rw [List.length_append,R.rd_len h1,iz h2,List.length_cons,Nat.add_mul,Nat.one_mul,Nat.add_comm]
theorem sJ {w:World}:∀ {xs:List α} {ccs:List Value},rdL R w ccs xs→∀ c∈ccs,c.oneCell'=true
 | [],_,h=>by simp only [rdL] at h;subst h;simp
 | x :: xs,_,h=>by
  obtain ⟨ec,rest,rfl,h1,h2⟩:=h
  intro c hc
  rcases List.mem_append.1 hc with h | h
  ·exact R.rd_one h1 c h
  ·exact sJ h2 c h
theorem st {w w':World} (he:Ext w w'):∀ {xs:List α} {ccs:List Value},rdL R w ccs xs→rdL R w' ccs xs
 | [],_,h=>h
 | x :: xs,_,h=>by
  obtain ⟨ec,rest,rfl,h1,h2⟩:=h
  exact ⟨ec,rest,rfl,R.rd_ext h1 he,st he h2⟩
theorem gB {w:World}:∀ {xs:List α} {ccs:List Value} {fp:List Nat},eL R w ccs xs fp→rdL R w ccs xs
 | [],_,_,h=>h.1
 | x :: xs,_,_,h=>by
  obtain ⟨ec,rest,f1,f2,rfl,rfl,h1,h2⟩:=h
  exact ⟨ec,rest,rfl,R.own_rd h1,gB h2⟩
theorem gc {w w':World}:∀ {xs:List α} {ccs:List Value} {fp:List Nat},eL R w ccs xs fp→(∀ b∈fp,w'.heap[b]? = w.heap[b]?)→eL R w' ccs xs fp
 | [],_,_,h,_=>h
 | x :: xs,_,_,h,he=>by
  obtain ⟨ec,rest,f1,f2,rfl,rfl,h1,h2⟩:=h
  exact ⟨ec,rest,f1,f2,rfl,rfl,R.own_ext h1 (fun b hb=>he b (List.mem_append_left _ hb)),gc h2 (fun b hb=>he b (List.mem_append_right _ hb))⟩
theorem gP {w:World}:∀ {xs:List α} {ccs:List Value} {fp:List Nat},eL R w ccs xs fp→∀ b∈fp,b<w.heap.size
 | [],_,_,h=>by rw [h.2];simp
 | x :: xs,_,_,h=>by
  obtain ⟨ec,rest,f1,f2,rfl,rfl,h1,h2⟩:=h
  intro b hb
  rcases List.mem_append.1 hb with h | h
  ·exact R.own_lt h1 b h
  ·exact gP h2 b h
theorem lV {w:World} {ys:List α} {ccs':List Value} {fp':List Nat} (h':eL R w ccs' ys fp') :
  ∀ {xs:List α} {ccs:List Value} {fp:List Nat},eL R w ccs xs fp→eL R w (ccs++ccs') (xs++ys) (fp++fp')
 | [],_,_,h=>by obtain ⟨rfl,rfl⟩:=h;simpa using h'
 | x :: xs,_,_,h=>by
  obtain ⟨ec,rest,f1,f2,rfl,rfl,h1,h2⟩:=h
  exact ⟨ec,rest++ccs',f1,f2++fp',by simp,by simp,h1,lV h' h2⟩
theorem pE {w:World} {ys:List α} {ccs':List Value} (h':rdL R w ccs' ys) :
  ∀ {xs:List α} {ccs:List Value},rdL R w ccs xs→rdL R w (ccs++ccs') (xs++ys)
 | [],_,h=>by simp only [rdL] at h;subst h;simpa using h'
 | x :: xs,_,h=>by
  obtain ⟨ec,rest,rfl,h1,h2⟩:=h
  exact ⟨ec,rest++ccs',by simp,h1,pE h' h2⟩
theorem lv {w:World}:∀ {xs:List α} {ccs:List Value},rdL R w ccs xs→∀ (i:Nat) (h:i<xs.length),
  ∃ ec,R.rd w ec xs[i]∧∀ j c,ec[j]? = some c→ccs[i*R.sz+j]? = some c
 | [],_,_,i,h=>absurd h (by simp)
 | x :: xs,_,hr,i,h=>by
  obtain ⟨ec,rest,rfl,h1,h2⟩:=hr
  cases i with
  | zero =>
   refine ⟨ec,h1,fun j c hj=>?_⟩
   have hlt:j<ec.length:=(List.getElem?_eq_some_iff.1 hj).1
   rw [Nat.zero_mul,Nat.zero_add,List.getElem?_append_left hlt]
   exact hj
  | succ i =>
   obtain ⟨ec',h3,h4⟩:=lv h2 i (by simpa using h)
   refine ⟨ec',by simpa using h3,fun j c hj=>?_⟩
   have e:(i+1)*R.sz+j=ec.length+(i*R.sz+j):=by rw [R.rd_len h1,Nat.add_mul];omega
   rw [e,List.getElem?_append_right (by omega),Nat.add_sub_cancel_left]
   exact h4 j c hj
theorem kJ {w:World}:∀ (k:Nat) {xs:List α} {ccs:List Value},rdL R w ccs xs→rdL R w (ccs.take (k*R.sz)) (xs.take k)∧rdL R w (ccs.drop (k*R.sz)) (xs.drop k)
 | 0,xs,ccs,h=>by simp [rdL];simpa using h
 | k+1,[],ccs,h=>by simp only [rdL] at h;subst h;simp [rdL]
 | k+1,x :: xs,ccs,h=>by
  obtain ⟨ec,rest,rfl,h1,h2⟩:=h
  obtain ⟨i1,i2⟩:=kJ k h2
  have e:(k+1)*R.sz=ec.length+k*R.sz:=by rw [R.rd_len h1,Nat.add_mul];omega
  constructor
  ·refine ⟨ec,rest.take (k*R.sz),?_,h1,i1⟩
   rw [e,List.take_append,List.take_of_length_le (by omega),Nat.add_sub_cancel_left]
  ·rw [e,List.drop_append,List.drop_of_length_le (by omega),Nat.add_sub_cancel_left]
   simpa using i2
end

def aG {α:Type} (R:Rep α) (E:TypeId):Rep (List α) where
 sz:=1
 rd w cs xs:=∃ ao cap ccs,cs=[.slice ao xs.length cap]∧xs.length≤cap∧cap≤maxLen∧(ao=none→cap=0)∧rdL R w ccs xs∧lH w ao ccs
 own w cs xs fp:=(cs=[.slice none 0 0]∧xs=[]∧fp=[]) ∨
  ∃ g cap cur ccs f2,cs=[.slice (some ⟨g,0,none⟩) xs.length cap]∧w.heap[g]? = some (.cells cur E (0,0))∧xs.length≤cap∧cap≤maxLen∧cur.size=cap*R.sz ∧
   cur.toList.take (xs.length*R.sz)=ccs∧eL R w ccs xs f2∧fp=g :: f2
 rd_len h:=by obtain ⟨_,_,_,rfl,_⟩:=h;rfl
 rd_one h:=by obtain ⟨_,_,_,rfl,_⟩:=h;simp [Value.oneCell']
 rd_ext h he:=by
  obtain ⟨ao,cap,ccs,rfl,h1,h2,h3,h4,h5⟩:=h
  refine ⟨ao,cap,ccs,rfl,h1,h2,h3,st he h4,?_⟩
  rcases h5 with h5 | ⟨b,off,rfl,h5⟩
  ·exact .inl h5
  ·exact .inr ⟨b,off,rfl,fun j c hj=>by have:=h5 j c hj;rw [he.cell (block_lt_of_cell this)];exact this⟩
 own_rd h:=by
  rcases h with ⟨rfl,rfl,rfl⟩ | ⟨g,cap,cur,ccs,f2,rfl,hg,h1,h2,h3,h4,h5,rfl⟩
  ·exact ⟨none,0,[],rfl,Nat.le_refl _,Nat.zero_le _,fun _=>rfl,rfl,.inl rfl⟩
  ·refine ⟨_,cap,ccs,rfl,h1,h2,by simp,gB h5,.inr ⟨g,0,rfl,fun j c hj=>?_⟩⟩
   rw [Nat.zero_add,cell_of_row _ g j cur E (0,0) hg,← Array.getElem?_toList]
   rw [← h4,List.getElem?_take] at hj
   split at hj
   ·exact hj
   ·cases hj
 own_ext h he:=by
  rcases h with h | ⟨g,cap,cur,ccs,f2,rfl,hg,h1,h2,h3,h4,h5,rfl⟩
  ·exact .inl h
  ·exact .inr ⟨g,cap,cur,ccs,f2,rfl,by rw [he g (by simp)];exact hg,h1,h2,h3,h4,gc h5 (fun b hb=>he b (by simp [hb])),rfl⟩
 own_lt h:=by
  rcases h with ⟨_,_,rfl⟩ | ⟨g,cap,cur,ccs,f2,rfl,hg,h1,h2,h3,h4,h5,rfl⟩
  ·simp
  ·intro b hb
   rcases List.mem_cons.1 hb with rfl | hb
   ·exact (Array.getElem?_eq_some_iff.1 hg).1
   ·exact gP h5 b hb

structure Asn where
 holds:World→List Nat→Prop
 ext:∀ {w w' fp},holds w fp→(∀ b∈fp,w'.heap[b]? = w.heap[b]?)→holds w' fp
 lt:∀ {w fp},holds w fp→∀ b∈fp,b<w.heap.size

def Own {α:Type} (R:Rep α) (cs:List Value) (x:α):Asn:=⟨fun w fp=>R.own w cs x fp,R.own_ext,R.own_lt⟩
def Box (b:Nat) (E:TypeId) (cs:List Value):Asn where
 holds w fp:=fp=[b]∧w.heap[b]? = some (.cells cs.toArray E (0,0))
 ext h he:=by obtain ⟨rfl,h⟩:=h;exact ⟨rfl,by rw [he b (by simp)];exact h⟩
 lt h:=by obtain ⟨rfl,h⟩:=h;intro b' hb;simp at hb;subst hb;exact (Array.getElem?_eq_some_iff.1 h).1

def ij (w:World):List Asn→List Nat→Prop
 | [],fp=>fp=[]
 | A :: Γ,fp=>∃ f1 f2,fp=f1++f2∧A.holds w f1∧ij w Γ f2

structure Sat (w0 w:World) (Γ:List Asn):Prop where
 below:Below w0.heap.size w0 w
 sat:∃ fp,ij w Γ fp∧fp.Nodup∧∀ b∈fp,w0.heap.size≤b

theorem ij.ext {w w':World}:∀ {Γ:List Asn} {fp:List Nat},ij w Γ fp→(∀ b∈fp,w'.heap[b]? = w.heap[b]?)→ij w' Γ fp
 | [],_,h,_=>h
 | A :: Γ,_,h,he=>by
  obtain ⟨f1,f2,rfl,h1,h2⟩:=h
  exact ⟨f1,f2,rfl,A.ext h1 (fun b hb=>he b (List.mem_append_left _ hb)),ij.ext h2 (fun b hb=>he b (List.mem_append_right _ hb))⟩
theorem ij.lt {w:World}:∀ {Γ:List Asn} {fp:List Nat},ij w Γ fp→∀ b∈fp,b<w.heap.size
 | [],_,h=>by simp only [ij] at h;subst h;simp
 | A :: Γ,_,h=>by
  obtain ⟨f1,f2,rfl,h1,h2⟩:=h
  intro b hb
  rcases List.mem_append.1 hb with h | h
  ·exact A.lt h1 b h
  ·exact ij.lt h2 b h
theorem ij.append {w:World} {Δ:List Asn} {g:List Nat} (k:ij w Δ g):∀ {Γ:List Asn} {fp:List Nat},ij w Γ fp→ij w (Γ++Δ) (fp++g)
 | [],_,h=>by simp only [ij] at h;subst h;simpa using k
 | A :: Γ,_,h=>by
  obtain ⟨f1,f2,rfl,h1,h2⟩:=h
  exact ⟨f1,f2++g,by simp,h1,ij.append k h2⟩
theorem ij.perm {w:World} {Γ Δ:List Asn} (hp:Γ.Perm Δ):∀ {fp:List Nat},ij w Γ fp→∃ fp',fp.Perm fp'∧ij w Δ fp':=by
 induction hp with
 | nil=>intro fp h;exact ⟨fp,.refl _,h⟩
 | cons A _ ih =>
  rintro _ ⟨f1,f2,rfl,h1,h2⟩
  obtain ⟨f2',p,h2'⟩:=ih h2
  exact ⟨f1++f2',List.Perm.append_left _ p,f1,f2',rfl,h1,h2'⟩
 | swap A B Γ =>
  rintro _ ⟨f1,_,rfl,h1,f2,f3,rfl,h2,h3⟩
  refine ⟨f2++(f1++f3),?_,f2,f1++f3,rfl,h2,f1,f3,rfl,h1,h3⟩
  rw [← List.append_assoc,← List.append_assoc]
  exact List.Perm.append_right _ List.perm_append_comm
 | trans _ _ ih1 ih2 =>
  intro fp h
  obtain ⟨f1,p1,h1⟩:=ih1 h
  obtain ⟨f2,p2,h2⟩:=ih2 h1
  exact ⟨f2,p1.trans p2,h2⟩

theorem Sat.start (w:World):Sat w w []:=⟨Below.refl _ _,[],rfl,by simp,by simp⟩
theorem Sat.le {w0 w:World} {Γ:List Asn} (h:Sat w0 w Γ):w0.heap.size≤w.heap.size:=h.below.size
theorem Sat.ext {w0 w w':World} {Γ:List Asn} (h:Sat w0 w Γ) (he:Ext w w'):Sat w0 w' Γ:=by
 obtain ⟨hb,fp,h1,h2,h3⟩:=h
 exact ⟨Below.andExt hb hb.size he,fp,h1.ext (fun b hb'=>he.block b (h1.lt b hb')),h2,h3⟩
theorem Sat.call {w0 w w':World} {Γ Δ:List Asn} (h:Sat w0 w Γ) (k:Sat w w' Δ):Sat w0 w' (Δ++Γ):=by
 obtain ⟨hb,fp,h1,h2,h3⟩:=h
 obtain ⟨kb,fk,k1,k2,k3⟩:=k
 refine ⟨Below.andExt hb hb.size kb,fk++fp,ij.append (h1.ext (fun b hb'=>kb.block b (h1.lt b hb'))) k1,?_,?_⟩
 ·rw [List.nodup_append]
  exact ⟨k2,h2,fun a ha b hb' e=>by have:=k3 a ha;have:=h1.lt b hb';omega⟩
 ·intro b hb'
  rcases List.mem_append.1 hb' with h | h
  ·have:=k3 b h;have:=hb.size;omega
  ·exact h3 b h
theorem Sat.call1 {w0 w w':World} {Γ:List Asn} {A:Asn} (h:Sat w0 w Γ) (k:Sat w w' [A]):Sat w0 w' (A :: Γ):=h.call k
theorem Sat.call2 {w0 w w':World} {Γ:List Asn} {A B:Asn} (h:Sat w0 w Γ) (k:Sat w w' [A,B]):Sat w0 w' (A :: B :: Γ):=h.call k
theorem Sat.call3 {w0 w w':World} {Γ:List Asn} {A B C:Asn} (h:Sat w0 w Γ) (k:Sat w w' [A,B,C]):Sat w0 w' (A :: B :: C :: Γ):=h.call k
theorem Sat.perm {w0 w:World} {Γ Δ:List Asn} (h:Sat w0 w Γ) (hp:Γ.Perm Δ):Sat w0 w Δ:=by
 obtain ⟨hb,fp,h1,h2,h3⟩:=h
 obtain ⟨fp',p,h1'⟩:=ij.perm hp h1
 exact ⟨hb,fp',h1',p.nodup_iff.1 h2,fun b hb'=>h3 b (p.mem_iff.2 hb')⟩
theorem Sat.tail {w0 w:World} {A:Asn} {Γ:List Asn} (h:Sat w0 w (A :: Γ)):Sat w0 w Γ:=by
 obtain ⟨hb,_,⟨f1,f2,rfl,_,h2⟩,hn,h3⟩:=h
 exact ⟨hb,f2,h2,(List.nodup_append.1 hn).2.1,fun b hb'=>h3 b (List.mem_append_right _ hb')⟩
theorem Sat.head {w0 w:World} {A:Asn} {Γ:List Asn} (h:Sat w0 w (A :: Γ)):∃ fp,A.holds w fp∧fp.Nodup∧∀ b∈fp,w0.heap.size≤b:=by
 obtain ⟨_,_,⟨f1,f2,rfl,h1,_⟩,hn,h3⟩:=h
 exact ⟨f1,h1,(List.nodup_append.1 hn).1,fun b hb'=>h3 b (List.mem_append_left _ hb')⟩
theorem Sat.take {w0 w:World} {Γ:List Asn} (h:Sat w0 w Γ) (Δ Θ:List Asn) (hp:Γ.Perm (Δ++Θ)):Sat w0 w Δ:=by
 have h':=h.perm (hp.trans List.perm_append_comm)
 clear h hp
 induction Θ with
 | nil=>simpa using h'
 | cons A Θ ih=>exact ih h'.tail
theorem Sat.upd {w0 w w':World} {A B:Asn} {Γ:List Asn} (h:Sat w0 w (A :: Γ))
  (k:∀ fp,A.holds w fp→fp.Nodup→∃ fp',B.holds w' fp'∧fp'.Nodup∧Chg fp w w'∧∀ b∈fp',b∈fp∨w.heap.size≤b):Sat w0 w' (B :: Γ):=by
 obtain ⟨hb,_,⟨f1,f2,rfl,h1,h2⟩,hn,h3⟩:=h
 obtain ⟨n1,n2,n3⟩:=List.nodup_append.1 hn
 obtain ⟨f1',k1,k2,k3,k4⟩:=k f1 h1 n1
 refine ⟨vf hb hb.size k3 (fun x hx=>h3 x (List.mem_append_left _ hx)),f1'++f2,⟨f1',f2,rfl,k1,h2.ext (fun b hb'=>k3.block b (h2.lt b hb') (fun hm=>n3 b hm b hb' rfl))⟩,?_,?_⟩
 ·rw [List.nodup_append]
  refine ⟨k2,n2,fun a ha b hb' e=>?_⟩
  subst e
  rcases k4 a ha with h | h
  ·exact n3 a h a hb' rfl
  ·have:=h2.lt a hb';omega
 ·intro b hb'
  rcases List.mem_append.1 hb' with h | h
  ·rcases k4 b h with h | h
   ·exact h3 b (List.mem_append_left _ h)
   ·have:=hb.size;omega
  ·exact h3 b (List.mem_append_right _ h)
theorem Sat.join {w0 w:World} {A B C:Asn} {Γ:List Asn} (h:Sat w0 w (A :: B :: Γ)) (k:∀ f g,A.holds w f→B.holds w g→C.holds w (f++g)):Sat w0 w (C :: Γ):=by
 obtain ⟨hb,_,⟨f1,_,rfl,h1,f2,f3,rfl,h2,h4⟩,hn,h3⟩:=h
 exact ⟨hb,(f1++f2)++f3,⟨f1++f2,f3,rfl,k _ _ h1 h2,h4⟩,by simpa using hn,by simpa using h3⟩
theorem Sat.conv {w0 w:World} {A B:Asn} {Γ:List Asn} (h:Sat w0 w (A :: Γ)) (k:∀ f,A.holds w f→B.holds w f):Sat w0 w (B :: Γ):=by
 obtain ⟨hb,_,⟨f1,f2,rfl,h1,h2⟩,hn,h3⟩:=h
 exact ⟨hb,_,⟨f1,f2,rfl,k _ h1,h2⟩,hn,h3⟩
theorem Sat.add {w0 w:World} {A:Asn} {Γ:List Asn} (h:Sat w0 w Γ) (k:A.holds w []):Sat w0 w (A :: Γ):=by
 obtain ⟨hb,fp,h1,h2,h3⟩:=h
 exact ⟨hb,fp,⟨[],fp,rfl,k,h1⟩,h2,h3⟩
theorem Sat.box {w0 w:World} {Γ:List Asn} (h:Sat w0 w Γ) (E:TypeId) (cs:List Value):Sat w0 (w.alloc (.cells cs.toArray E)) (Box w.heap.size E cs :: Γ):=by
 have k:Sat w (w.alloc (.cells cs.toArray E)) [Box w.heap.size E cs] :=
  ⟨(Below.refl _ _).alloc (Nat.le_refl _) _,[w.heap.size],⟨[w.heap.size],[],by simp,⟨rfl,heap_alloc_new w _⟩,rfl⟩,by simp,by simp⟩
 simpa using h.call k
theorem jh (w:World) (o:Obj):Ext w (w.alloc o):=(Below.refl _ _).alloc (Nat.le_refl _) _
theorem Sat.rd {α:Type} {R:Rep α} {w0 w:World} {cs:List Value} {x:α} {Γ:List Asn} (h:Sat w0 w (Own R cs x :: Γ)):R.rd w cs x:=by
 obtain ⟨fp,h,_⟩:=h.head
 exact R.own_rd h

class AtBox (Γ:List Asn) (b:Nat) (E:outParam TypeId) (cs:outParam (List Value)) (rest:outParam (List Asn)):Prop where
 perm:Γ.Perm (Box b E cs :: rest)
instance (Γ:List Asn) (b:Nat) (E:TypeId) (cs:List Value):AtBox (Box b E cs :: Γ) b E cs Γ:=⟨.refl _⟩
instance (A:Asn) (Γ:List Asn) (b:Nat) (E:TypeId) (cs:List Value) (rest:List Asn) [h:AtBox Γ b E cs rest]:AtBox (A :: Γ) b E cs (A :: rest) :=
 ⟨(List.Perm.cons A h.perm).trans (.swap _ _ _)⟩
class AtOwn (Γ:List Asn) (v:Value) (α:outParam Type) (R:outParam (Rep α)) (x:outParam α) (rest:outParam (List Asn)):Prop where
 perm:Γ.Perm (Own R [v] x :: rest)
instance {α:Type} (Γ:List Asn) (v:Value) (R:Rep α) (x:α):AtOwn (Own R [v] x :: Γ) v α R x Γ:=⟨.refl _⟩
instance {α:Type} (A:Asn) (Γ:List Asn) (v:Value) (R:Rep α) (x:α) (rest:List Asn) [h:AtOwn Γ v α R x rest]:AtOwn (A :: Γ) v α R x (A :: rest) :=
 ⟨(List.Perm.cons A h.perm).trans (.swap _ _ _)⟩
theorem Sat.own {α:Type} {R:Rep α} {w0 w:World} {v:Value} {x:α} {Γ rest:List Asn} (h:Sat w0 w Γ) [k:AtOwn Γ v α R x rest]:Sat w0 w (Own R [v] x :: rest):=h.perm k.perm
theorem Sat.read {α:Type} {R:Rep α} {w0 w:World} {v:Value} {x:α} {Γ rest:List Asn} (h:Sat w0 w Γ) [AtOwn Γ v α R x rest]:R.rd w [v] x:=h.own.rd

theorem Sat.keep {w0 w:World} {Γ:List Asn} (n:Nat) (h:Sat w0 w Γ):Sat w0 w (Γ.take n):=h.take (Γ.take n) (Γ.drop n) (by rw [List.take_append_drop])
class PlainT (P:Program) (t:TypeId):Prop where
 h:∃ d,P.underlying t=some d∧(match d with | .struct _ | .array _ _=>False | _=>True)
class AggT (P:Program) (t:TypeId) (n:outParam Nat):Prop where
 h:∃ d,P.underlying t=some d∧(match d with | .struct _ | .array _ _=>True | _=>False)
 size:(P.info? t).map (·.size)=some n
class SliceT (P:Program) (t:TypeId) (e:outParam TypeId):Prop where
 h:P.underlying t=some (.slice e)
class ElemT (P:Program) (t:TypeId) (z:outParam (List Value)) (n bytes:outParam Nat):Prop where
 h:(P.info? t).map (fun i=>(i.zero.map fun v=>v.cells.toList,i.size,i.bytes))=some (some z,n,bytes)

section laws
variable {P:Program} {ops:Array Oper} {rest:List Oper} {o:Oper} {a:Act} {Q:Exit→Act→World→Prop} {w w0:World} {Γ rΓ:List Asn}

theorem xc (hg:o.guard=none) {t:TypeId} {x:Operand} (ho:o.op=.box t x) (cs:List Value) (hx:(a.eval x).cells=cs.toArray) (hS:Sat w0 w Γ)
  (hK:∀ w' b,Sat w0 w' (Box b t cs :: Γ)→Ext w w'→wpList P ops Q rest (a.put o.dst (.pointer (some ⟨b,0,none⟩))) w'):wpList P ops Q (o :: rest) a w:=by
 refine wpList_plain hg fun K hK'=>?_
 unfold Oper.wp execOp
 simp only [ho,Instr.box,newVar,newRow,hx,Sem.run_bind,Sem.run_pure,run_newObj,Result.andThen_ok,Oper.upon_value]
 exact hK' _ _ (hK _ _ (hS.box t cs) (jh _ _))

theorem uM (hg:o.guard=none) {t:TypeId} (ho:o.op=.alloc t) {cs:List Value} {n bytes:Nat} [hz:ElemT P t cs n bytes] (hS:Sat w0 w Γ)
  (hK:∀ w' b,Sat w0 w' (Box b t cs :: Γ)→Ext w w'→wpList P ops Q rest (a.put o.dst (.pointer (some ⟨b,0,none⟩))) w'):wpList P ops Q (o :: rest) a w:=by
 refine wpList_plain hg fun K hK'=>?_
 have hz:=hz.h
 cases hi:P.info? t with
 | none=>simp [hi] at hz
 | some i =>
  cases hzz:i.zero with
  | none=>simp [hi,hzz] at hz
  | some z =>
   simp [hi,hzz] at hz
   have hzc:z.cells=cs.toArray:=by rw [← hz.1]
   unfold Oper.wp execOp
   simp only [ho,Instr.alloc,zeroValue,typeInfo,hi,hzz,newVar,newRow,hzc,Sem.run_bind,Sem.run_pure,run_newObj,run_program,Result.andThen_ok,Oper.upon_value]
   exact hK' _ _ (hK _ _ (hS.box t cs) (jh _ _))

theorem od {t:TypeId} [hT:PlainT P t] {ad:Addr} {c:Value} (hc:w.cell? ad=some c):(loadVar t ad).run P w=.ok c w:=by
 obtain ⟨d,hd,hk⟩:=hT.h
 have hagg:(isAgg t).run P w=.ok false w:=by
  unfold isAgg
  rw [Sem.run_bind,run_underlying hd w]
  cases d <;> simp_all
 simp [loadVar,Sem.run_bind,hagg,hc]

theorem jZ {t:TypeId} {n:Nat} [hT:AggT P t n] {b off:Nat} {cs:List Value} (hn:cs.length=n) (hc:∀ j c,cs[j]? = some c→w.cell? ⟨b,off+j,none⟩=some c) :
  (loadVar t ⟨b,off,none⟩).run P w=.ok (.agg cs.toArray) w:=by
 obtain ⟨d,hd,hk⟩:=hT.h
 have hagg:(isAgg t).run P w=.ok true w:=by
  unfold isAgg
  rw [Sem.run_bind,run_underlying hd w]
  cases d <;> simp_all
 have hs:=hT.size
 cases hi:P.info? t with
 | none=>simp [hi] at hs
 | some i =>
  simp [hi] at hs
  have hl:=run_loadCells_list (P:=P) w ⟨b,off,none⟩ cs (fun j c hj=>by rw [Addr.add_lit];exact hc j c hj)
  rw [hn,← hs] at hl
  simp [loadVar,Sem.run_bind,hagg,sizeOf,typeInfo,hi,hl]

theorem Sat.boxCell {b:Nat} {E:TypeId} {cs:List Value} (hS:Sat w0 w Γ) [k:AtBox Γ b E cs rΓ]:∀ j c,cs[j]? = some c→w.cell? ⟨b,j,none⟩=some c:=by
 obtain ⟨fp,⟨_,hh⟩,_⟩:=(hS.perm k.perm).head
 intro j c hj
 rw [cell_of_row w b j _ E (0,0) hh]
 simpa using hj

theorem gi {b:Nat} {E:TypeId}:∀ (vs:List Value) (off i:Nat) (cur:List Value) (w:World),w.heap[b]? = some (.cells cur.toArray E (0,0))→off+i+vs.length≤cur.length→(∀ v∈vs,v.oneCell'=true) →
  ∃ w',(storeCells ⟨b,off,none⟩ vs i).run P w=.ok () w'∧w'.heap[b]? = some (.cells (cur.take (off+i)++vs++cur.drop (off+i+vs.length)).toArray E (0,0))∧Chg [b] w w'
 | [],off,i,cur,w,hb,_,_=>by
  refine ⟨w,rfl,?_,Chg.refl _ _⟩
  rw [hb];simp
 | v :: vs,off,i,cur,w,hb,hl,h1=>by
  simp only [List.length_cons] at hl
  have hi:off+i<cur.length:=by omega
  have hcell:w.cell? ⟨b,off+i,none⟩=some cur[off+i]:=by rw [cell_of_row w b _ _ E (0,0) hb];simp [hi]
  have hfro:w.frozen? ⟨b,off+i,none⟩=false:=frozen_of_row w b _ _ E hb
  have hst:(store ((⟨b,off,none⟩:Addr).add i) v).run P w=.ok () (w.setCell ⟨b,off+i,none⟩ v):=by
   rw [Addr.add_lit,run_store P w _ v _ (h1 v (by simp)),hcell]
   simp [hfro]
  have hb':(w.setCell ⟨b,off+i,none⟩ v).heap[b]? = some (.cells ((cur.set (off+i) v).toArray) E (0,0)):=by
   rw [heap_setCell_same w b (off+i) _ E v hb];simp
  obtain ⟨w',h2,h3,h4⟩:=gi vs off (i+1) (cur.set (off+i) v) _ hb' (by simp;omega) (fun x hx=>h1 x (by simp [hx]))
  refine ⟨w',?_,?_,?_⟩
  ·simp only [storeCells,Sem.run_bind,hst,Result.andThen_ok];exact h2
  ·rw [h3]
   congr 3
   have e1:(cur.set (off+i) v).take (off+(i+1))=cur.take (off+i)++[v]:=by
    rw [show off+(i+1)=(off+i)+1 by omega,List.take_set,List.take_succ_eq_append_getElem hi,List.set_append_right _ _ (by simp;omega)]
    simp [show min (off+i) cur.length=off+i by omega]
   have e2:(cur.set (off+i) v).drop (off+(i+1)+vs.length)=cur.drop (off+i+(v :: vs).length):=by
    rw [List.drop_set_of_lt (by omega)]
    congr 1
    simp only [List.length_cons];omega
   rw [e1,e2];simp
  ·exact Chg.trans (show Chg [b] w (w.setCell ⟨b,off+i,none⟩ v) from ⟨rfl,rfl,rfl,by simp,fun k _ hk=>Below.heap_setCell _ _ _ _ (by simpa using hk)⟩) h4

theorem tM {t:TypeId} {x y:Operand} (hg:o.guard=none) (ho:o.op=.store t x y) {z:List Value} {n bytes:Nat} [hz:ElemT P t z n bytes] (hS:Sat w0 w Γ) {b j:Nat} (hx:a.eval x=.pointer (some ⟨b,j,none⟩))
  {E:TypeId} {cs:List Value} [k:AtBox Γ b E cs rΓ] (vs:List Value) (hy:(a.eval y).cells=vs.toArray) (hn:vs.length=n) (hl:j+n≤cs.length) (h1:vs.all (·.oneCell')=true)
  (hK:∀ w',Sat w0 w' (Box b E (cs.take j++vs++cs.drop (j+n)) :: rΓ)→wpList P ops Q rest (a.put o.dst undef) w'):wpList P ops Q (o :: rest) a w:=by
 refine wpList_plain hg fun K hK'=>?_
 have hz:=hz.h
 cases hi:P.info? t with
 | none=>simp [hi] at hz
 | some i =>
  simp [hi] at hz
  obtain ⟨fp,⟨_,hh⟩,_⟩:=(hS.perm k.perm).head
  obtain ⟨w',hr,hh',hc⟩:=gi (P:=P) vs j 0 cs w hh (by omega) (by simpa using h1)
  have hsz:¬ (vs.toArray.size≠i.size):=by simp;omega
  unfold Oper.wp execOp
  simp only [ho,hx,Instr.storeAt,Instr.sureAddr,storeVar,sizeOf,typeInfo,hi,hy,Sem.run_bind,Sem.run_pure,run_program,Result.andThen_ok,hsz,if_false,Sem.run_ite,List.toList_toArray,hr,Oper.upon_skip]
  refine hK' _ _ (hK w' ?_)
  refine Sat.upd (hS.perm k.perm) fun fp hfp hnd=>?_
  obtain ⟨rfl,_⟩:=hfp
  refine ⟨[b],⟨rfl,?_⟩,by simp,hc,fun x hx=>.inl hx⟩
  rw [hh']
  simp [hn]
theorem uF {v:Value} (h:v.oneCell'=true):v.cells=[v].toArray:=by cases v <;> first | rfl | simp [Value.oneCell'] at h
end laws

section laws2
variable {P:Program} {ops:Array Oper} {rest:List Oper} {o:Oper} {a:Act} {Q:Exit→Act→World→Prop} {w w0 wA:World} {Γ rΓ:List Asn} {α:Type} {R:Rep α} {E:TypeId}

theorem rE {w:World} {v:Value} {xs:List α} (h:(aG R E).rd w [v] xs):∃ ao cap,v=.slice ao xs.length cap:=by
 obtain ⟨ao,cap,ccs,hv,_⟩:=h
 exact ⟨ao,cap,by simpa using hv⟩

def nt (R:Rep α) (ccs:List Value) (ys:List α):Asn:=⟨fun w fp=>eL R w ccs ys fp,fun h he=>gc h he,fun h=>gP h⟩
def tP (A B:Asn):Asn where
 holds w fp:=∃ f g,fp=f++g∧A.holds w f∧B.holds w g
 ext h he:=by
  obtain ⟨f,g,rfl,h1,h2⟩:=h
  exact ⟨f,g,rfl,A.ext h1 (fun b hb=>he b (List.mem_append_left _ hb)),B.ext h2 (fun b hb=>he b (List.mem_append_right _ hb))⟩
 lt h:=by
  obtain ⟨f,g,rfl,h1,h2⟩:=h
  intro b hb
  rcases List.mem_append.1 hb with h | h
  ·exact A.lt h1 b h
  ·exact B.lt h2 b h

theorem l8 (z:Value) (k:Nat):(Builtin.zeroCells z.cells k).size=k*z.cells.size:=size_zeroCells _ _

theorem sQ {w:World} {cur:Array Value} {xs:List α} {ccs:List Value} {f:List Nat} {cap:Nat} (h:eL R w ccs xs f) (hcap:xs.length≤cap) (hm:cap≤maxLen) (hs:cur.size=cap*R.sz)
  (ht:cur.toList.take ccs.length=ccs):(aG R E).own (w.drew.alloc (.cells cur E)) [.slice (some ⟨w.heap.size,0,none⟩) xs.length cap] xs (w.heap.size :: f):=by
 refine .inr ⟨w.heap.size,cap,cur,ccs,f,rfl,heap_alloc_new w.drew _,hcap,hm,hs,by rw [← iz (gB h)];exact ht,gc h (fun b hb=>?_),rfl⟩
 exact Below.heap_alloc w.drew _ b (gP h b hb)

theorem mW {t ty:TypeId} [ht:SliceT P t E] {z:List Value} {n bytes:Nat} [hz:ElemT P E z n bytes] (hn:R.sz=n) (hpos:0<n) (hzl:z.length=n) (hb0:0<bytes)
  {v:Value} {xs:List α} {f:List Nat} (hv:(aG R E).own w [v] xs f) {ccs:List Value} {ys:List α} {fy:List Nat} (hy:eL R w ccs ys fy) (hnd:(fy++f).Nodup)
  {ao:Option Addr} {c:Nat} (hnone:ao=none→c=0) (hrow:lH w ao ccs) (hby:(xs.length+ys.length)*bytes≤140737488355328) :
  ∃ v' w' f',(Builtin.append_ #[t,t] ty #[v,.slice ao ys.length c]).run P w=.ok v' w'∧(aG R E).own w' [v'] (xs++ys) f'∧f'.Nodup∧Chg (fy++f) w w'∧∀ b∈f',b∈fy++f∨w.heap.size≤b:=by
 have hz:=hz.h
 have hmax:xs.length+ys.length≤140737488355328:=Nat.le_trans (Nat.le_mul_of_pos_right _ hb0) hby
 have hyl:ccs.length=ys.length*R.sz:=iz (gB hy)
 have hy1:∀ u∈ccs,u.oneCell'=true:=sJ (gB hy)
 cases hi:P.info? E with
 | none=>simp [hi] at hz
 | some i =>
 cases hzz:i.zero with
 | none=>simp [hi,hzz] at hz
 | some zv =>
 simp [hi,hzz] at hz
 obtain ⟨hz1,hz2,hz3⟩:=hz
 have hzs:zv.cells.size=R.sz:=by rw [← Array.length_toList,hz1,hzl,hn]
 have hsz:i.size=R.sz:=by omega
 have hdrew:Chg (fy++f) w w.drew:=⟨rfl,rfl,rfl,Nat.le_refl _,fun _ _ _=>rfl⟩
 have hgrow:∀ cur:Array Value,Chg (fy++f) w (w.drew.alloc (.cells cur E)):=fun cur=>hdrew.trans ((Chg.alloc w.drew _).mono (by simp))
 have hlt:∀ b∈fy++f,b<w.heap.size:=fun b hb=>by
  rcases List.mem_append.1 hb with h | h
  ·exact gP hy b h
  ·exact (aG R E).own_lt hv b h
 obtain ⟨nd1,nd2,nd3⟩:=List.nodup_append.1 hnd
 -- nothing is appended
 by_cases hy0:ys=[]
 ·subst hy0
  have hccs:ccs=[]:=by simp only [eL] at hy;exact hy.1
  have hfy:fy=[]:=by simp only [eL] at hy;exact hy.2
  subst hccs;subst hfy
  refine ⟨v,w,f,?_,by simpa using hv,by simpa using hnd,Chg.refl _ _,fun b hb=>.inl (by simpa using hb)⟩
  rcases hv with ⟨hv,rfl,rfl⟩ | ⟨g,cap,cur,cs,f2,hv,hg,h1,h2,h3,h4,h5,rfl⟩
  ·obtain rfl:v=.slice none 0 0:=by simpa using hv
   cases ao <;> simp [Builtin.append_,run_underlying ht.h,sizeOf,typeInfo,hi,Builtin.lenOf,Builtin.firstCells,loadCells,loadCellsFrom]
  ·obtain rfl:v=.slice (some ⟨g,0,none⟩) xs.length cap:=by simpa using hv
   cases ao <;> simp [Builtin.append_,run_underlying ht.h,sizeOf,typeInfo,hi,Builtin.lenOf,Builtin.firstCells,loadCells,loadCellsFrom,h1,storeCells]
 have hyp:0<ys.length:=List.length_pos_iff.2 hy0
 obtain ⟨b,off,rfl,hcell⟩:∃ b off,ao=some ⟨b,off,none⟩∧∀ j c,ccs[j]? = some c→w.cell? ⟨b,off+j,none⟩=some c:=by
  rcases hrow with rfl | h
  ·exfalso
   have:0<ys.length*R.sz:=Nat.mul_pos hyp (by omega)
   simp at hyl;omega
  ·exact h
 have hnews:∀ j u,ccs[j]? = some u→w.cell? ((⟨b,off,none⟩:Addr).add j)=some u:=fun j u hj=>by rw [Addr.add_lit];exact hcell j u hj
 rcases hv with ⟨hv,rfl,rfl⟩ | ⟨g,cap,cur,cs,f2,hv,hg,h1,h2,h3,h4,h5,rfl⟩
 ·obtain rfl:v=.slice none 0 0:=by simpa using hv
  simp only [List.length_nil,Nat.zero_add] at hby hmax
  have hr:=run_append_nil (P:=P) w t ty E i zv ht.h hi hzz ⟨b,off,none⟩ ys.length c ccs (by rw [hyl,hsz]) hnews hyp (by omega) (by rw [hz3];omega)
  refine ⟨_,_,w.heap.size :: fy,hr,?_,?_,hgrow _,?_⟩
  ·have hge:=grownCap_ge w ys.length 0 E
   rw [List.nil_append]
   refine sQ hy hge (grownCap_le_maxLen w ys.length 0 E (by unfold maxLen;omega)) ?_ ?_
   ·rw [Array.size_append,l8,hzs,List.size_toArray,hyl,← Nat.add_mul]
    congr 1;omega
   ·rw [Array.toList_append,List.toList_toArray,List.take_left']
    rfl
  ·refine List.nodup_cons.2 ⟨fun hm=>?_,nd1⟩
   have:=hlt _ (List.mem_append_left _ hm);omega
  ·intro x hx
   rcases List.mem_cons.1 hx with rfl | hx
   ·exact .inr (Nat.le_refl _)
   ·exact .inl (List.mem_append_left _ hx)
 ·obtain rfl:v=.slice (some ⟨g,0,none⟩) xs.length cap:=by simpa using hv
  have hcl:cs.length=xs.length*R.sz:=iz (gB h5)
  have hfit:xs.length*R.sz≤cur.size:=by rw [h3];exact Nat.mul_le_mul_right _ h1
  obtain ⟨ng,nf2⟩:=List.nodup_cons.1 nd2
  by_cases hroom:xs.length+ys.length≤cap
  ·have hfit2:xs.length*i.size+ccs.length≤cur.size:=by rw [hsz,hyl,h3,← Nat.add_mul];exact Nat.mul_le_mul_right _ hroom
   have hr:=run_append_room (P:=P) w t ty E i ht.h hi g xs.length cap cur hg ⟨b,off,none⟩ ys.length c ccs (by rw [hyl,hsz]) hnews hy1 hroom hfit2
   have hoth:∀ k,k≠g→(w.setRow g (cur.toList.take (xs.length*i.size)++ccs++cur.toList.drop (xs.length*i.size+ccs.length)).toArray).heap[k]? = w.heap[k]?:=fun k hk=>setRow_other w g k _ hk
   refine ⟨_,_,g :: (f2++fy),hr,?_,?_,⟨rfl,rfl,rfl,by simp,fun k _ hk=>hoth k (fun e=>hk (by simp [e]))⟩,?_⟩
   ·rw [show xs.length+ys.length=(xs++ys).length by simp]
    refine .inr ⟨g,cap,_,cs++ccs,f2++fy,rfl,setRow_heap w g cur _ E _ hg,by simpa using hroom,h2,?_,?_,?_,rfl⟩
    ·simp only [List.size_toArray,List.length_append,List.length_take,List.length_drop,Array.length_toList]
     rw [hsz] at hfit2 ⊢
     omega
    ·rw [hsz,h4,List.length_append,Nat.add_mul,← hcl,← hyl,← List.length_append]
     exact List.take_left' rfl
    ·refine lV (gc hy fun x hx=>hoth x fun e=>?_) (gc h5 fun x hx=>hoth x fun e=>?_)
     ·subst e;exact nd3 x hx x (by simp) rfl
     ·subst e;exact ng hx
   ·refine List.nodup_cons.2 ⟨fun hm=>?_,List.nodup_append.2 ⟨nf2,nd1,fun a ha b hb e=>nd3 b hb a (by simp [ha]) e.symm⟩⟩
    rcases List.mem_append.1 hm with h | h
    ·exact ng h
    ·exact nd3 g h g (by simp) rfl
   ·intro x hx
    refine .inl ?_
    simp only [List.mem_cons,List.mem_append] at hx ⊢
    rcases hx with h | h | h <;> simp [h]
  ·have hcells:∀ j u,cs[j]? = some u→w.cell? ((⟨g,0,none⟩:Addr).add j)=some u:=fun j u hj=>by
    rw [Addr.add_lit,Nat.zero_add,cell_of_row w g j cur E (0,0) hg,← Array.getElem?_toList]
    rw [← h4,List.getElem?_take] at hj
    split at hj
    ·exact hj
    ·cases hj
   have hr:=run_append_grow (P:=P) w t ty E i zv ht.h hi hzz ⟨g,0,none⟩ xs.length cap cs (by rw [hcl,hsz]) hcells ⟨b,off,none⟩ ys.length c ccs (by rw [hyl,hsz]) hnews (by omega) (by omega) (growslice_fits (by omega) (by rw [hz3];exact hby))
   refine ⟨_,_,w.heap.size :: (f2++fy),hr,?_,?_,hgrow _,?_⟩
   ·have hge:=grownCap_ge w (xs.length+ys.length) cap E
    rw [show (xs.length+ys.length:Nat)=(xs++ys).length by simp] at hge ⊢
    refine sQ (lV hy h5) hge (grownCap_le_maxLen w _ cap E (by unfold maxLen;simp;omega)) ?_ ?_
    ·rw [Array.size_append,Array.size_append,l8,hzs,List.size_toArray,List.size_toArray,hyl,hcl,← Nat.add_mul,← Nat.add_mul]
     congr 1;simp at hge ⊢;omega
    ·rw [Array.toList_append,Array.toList_append,List.toList_toArray,List.toList_toArray,List.take_left']
     rfl
   ·refine List.nodup_cons.2 ⟨fun hm=>?_,List.nodup_append.2 ⟨nf2,nd1,fun a ha b hb e=>nd3 b hb a (by simp [ha]) e.symm⟩⟩
    have:=hlt w.heap.size (by
     rcases List.mem_append.1 hm with h | h
     ·exact List.mem_append_right _ (by simp [h])
     ·exact List.mem_append_left _ h)
    omega
   ·intro x hx
    simp only [List.mem_cons,List.mem_append] at hx ⊢
    rcases hx with h | h | h
    ·exact .inr (by omega)
    ·exact .inl (by simp [h])
    ·exact .inl (by simp [h])

theorem tQ (hg:o.guard=none) {t:TypeId} {s x:Operand} (ho:o.op=.call { callee:=.builtin .append,args:=#[s,x],argTypes:=#[t,t] })
  [SliceT P t E] {z:List Value} {n bytes:Nat} [ElemT P E z n bytes] (hn:R.sz=n) (hpos:0<n) (hzl:z.length=n) (hb0:0<bytes)
  {v:Value} {xs:List α} {ccs:List Value} {ys:List α} (hS:Sat w0 w (nt R ccs ys :: Own (aG R E) [v] xs :: Γ)) (hs:a.eval s=v)
  {ao:Option Addr} {m c:Nat} (hx:a.eval x=.slice ao m c) (hm:m=ys.length) (hnone:ao=none→c=0) (hrow:lH w ao ccs) (hby:(xs.length+ys.length)*bytes≤140737488355328)
  (hK:∀ v' w',Sat w0 w' (Own (aG R E) [v'] (xs++ys) :: Γ)→wpList P ops Q rest (a.put o.dst v') w'):wpList P ops Q (o :: rest) a w:=by
 subst hm
 refine wpList_plain hg fun K hK'=>?_
 have hS':Sat w0 w (tP (nt R ccs ys) (Own (aG R E) [v] xs) :: Γ):=hS.join fun f g h1 h2=>⟨f,g,rfl,h1,h2⟩
 obtain ⟨fp,⟨fy,f,rfl,hy,hv⟩,hnd,_⟩:=hS'.head
 obtain ⟨v',w',f',hr,k1,k2,k3,k4⟩:=mW (P:=P) (t:=t) (ty:=o.type) hn hpos hzl hb0 hv hy hnd hnone hrow hby
 unfold Oper.wp execOp
 simp only [ho,resolve,invoke,builtin,Sem.run_bind,Sem.run_pure,Result.andThen_ok,List.map_toArray,List.map_cons,List.map_nil,hs,hx,hr,Oper.upon_value]
 refine hK' _ _ (hK v' w' ?_)
 have hex:∀ fp,(tP (nt R ccs ys) (Own (aG R E) [v] xs)).holds w fp→fp.Nodup→∃ fp',(Own (aG R E) [v'] (xs++ys)).holds w' fp'∧fp'.Nodup∧Chg fp w w'∧∀ b∈fp',b∈fp∨w.heap.size≤b:=by
  rintro _ ⟨gy,g,rfl,hy2,hv2⟩ hnd2
  obtain ⟨v2,w2,f2,hr2,l1,l2,l3,l4⟩:=mW (P:=P) (t:=t) (ty:=o.type) hn hpos hzl hb0 hv2 hy2 hnd2 hnone hrow hby
  rw [hr] at hr2
  obtain ⟨rfl,rfl⟩:v'=v2∧w'=w2:=by simpa using hr2
  exact ⟨f2,l1,l2,l3,l4⟩
 exact hS'.upd hex

theorem mV (z:Array Value) (h:0<z.size):∀ k,(madeCells z (k*z.size)).toList=(List.replicate k z.toList).flatten
 | 0=>by simp [madeCells]
 | k+1=>by
  have ih:=mV z h k
  rw [List.replicate_succ',List.flatten_append,← ih]
  unfold madeCells
  rw [Nat.add_mul,Nat.one_mul]
  simp only [Array.toList_map,Array.toList_range,List.range_add,List.map_append,List.map_map,List.flatten_cons,List.flatten_nil,List.append_nil]
  congr 1
  apply List.ext_getElem
  ·simp
  ·intro j h1 h2
   have hj:j<z.size:=by simpa using h1
   simp only [List.getElem_map,List.getElem_range,Function.comp]
   rw [Nat.mul_add_mod_self_right,Nat.mod_eq_of_lt hj]
   simp [hj]
theorem vU (hg:o.guard=none) {t:TypeId} {l c:Operand} (ho:o.op=.makeSlice t l c) [ht:SliceT P t E] {z:List Value} {n bytes:Nat} [hz:ElemT P E z n bytes] (hn:R.sz=n) (hpos:0<n) (hzl:z.length=n)
  {x0:α} (hx0:∀ w,R.own w z x0 []) {L C:Int} (hl:a.eval l=.int .i64 L) (hc:a.eval c=.int .i64 C) (k:Nat) (hL:L=(k:Int)) (hC:C=(k:Int)) (hby:k*bytes≤281474976710656) (hk:k≤140737488355328) (hS:Sat w0 w Γ)
  (hK:∀ w' g,Sat w0 w' (Own (aG R E) [.slice (some ⟨g,0,none⟩) k k] (List.replicate k x0) :: Γ)→Ext w w'→wpList P ops Q rest (a.put o.dst (.slice (some ⟨g,0,none⟩) k k)) w'):wpList P ops Q (o :: rest) a w:=by
 refine wpList_plain hg fun K hK'=>?_
 have hz:=hz.h
 cases hi:P.info? E with
 | none=>simp [hi] at hz
 | some i =>
 cases hzz:i.zero with
 | none=>simp [hi,hzz] at hz
 | some zv =>
 simp [hi,hzz] at hz
 obtain ⟨hz1,hz2,hz3⟩:=hz
 subst hL;subst hC
 have hr:=run_make (P:=P) w t E i zv ht.h hi hzz .i64 .i64 k k (by omega) (by omega) (by rw [hz3];have:=hby;rw [Nat.mul_comm] at this;omega) (by omega)
 simp only [Int.toNat_natCast] at hr
 unfold Oper.wp execOp
 simp only [ho,hl,hc,Sem.run_bind,hr,Sem.run_pure,Result.andThen_ok,Oper.upon_value]
 have hzs:zv.cells.size=n:=by rw [← Array.length_toList,hz1,hzl]
 have hcur:(madeCells zv.cells (k*i.size)).toList=(List.replicate k z).flatten:=by
  rw [← hz1,hz2,← hzs]
  exact mV _ (by omega) k
 refine hK' _ _ (hK _ _ ?_ (jh _ _))
 have hown:∀ k',eL R (w.alloc (.cells (madeCells zv.cells (k*i.size)) E)) (List.replicate k' z).flatten (List.replicate k' x0) []:=by
  intro k'
  induction k' with
  | zero=>exact ⟨rfl,rfl⟩
  | succ k' ih=>exact ⟨z,_,[],[],by simp [List.replicate_succ],rfl,hx0 _,ih⟩
 have kk:Sat w (w.alloc (.cells (madeCells zv.cells (k*i.size)) E)) [Own (aG R E) [.slice (some ⟨w.heap.size,0,none⟩) k k] (List.replicate k x0)]:=by
  refine ⟨jh _ _,[w.heap.size],⟨[w.heap.size],[],rfl,.inr ⟨w.heap.size,k,_,_,[],by simp,heap_alloc_new w _,by simp,by unfold maxLen;omega,?_,rfl,?_,rfl⟩,rfl⟩,by simp,by simp⟩
  ·rw [← Array.length_toList,hcur];simp [hzl,hn]
  ·rw [hcur,List.take_of_length_le (by simp [hzl,hn])]
   exact hown k
 simpa using hS.call kk

theorem vh {v:Value} {xs:List α} {fp:List Nat} (h:(aG R E).own w [v] xs fp):(v=.slice none 0 0∧xs=[])∨∃ g cap,v=.slice (some ⟨g,0,none⟩) xs.length cap:=by
 rcases h with ⟨h,h2,_⟩ | ⟨g,cap,_,_,_,h,_⟩
 ·exact .inl ⟨by simpa using h,h2⟩
 ·exact .inr ⟨g,cap,by simpa using h⟩
theorem Sat.shape {v:Value} {xs:List α} (h:Sat w0 w (Own (aG R E) [v] xs :: Γ)):(v=.slice none 0 0∧xs=[])∨∃ g cap,v=.slice (some ⟨g,0,none⟩) xs.length cap:=by
 obtain ⟨fp,h,_⟩:=h.head
 exact vh h

theorem rj {w:World}:∀ {xs:List α} {ccs:List Value} {fp:List Nat},eL R w ccs xs fp→∀ (k:Nat) (_:k<xs.length) {ec:List Value} {y:α} {fy:List Nat},R.own w ec y fy →
  ∃ fl fk fr,fp=fl++fk++fr∧eL R w (ccs.take (k*R.sz)++ec++ccs.drop (k*R.sz+R.sz)) (xs.set k y) (fl++fy++fr)
 | [],_,_,_,k,hk,_,_,_,_=>absurd hk (by simp)
 | x :: xs,_,_,h,0,_,ec,y,fy,hy=>by
  obtain ⟨e0,rest,f1,f2,rfl,rfl,h1,h2⟩:=h
  refine ⟨[],f1,f2,by simp,ec,rest,fy,f2,?_,by simp,hy,h2⟩
  have:=R.rd_len (R.own_rd h1)
  simp [← this]
 | x :: xs,_,_,h,k+1,hk,ec,y,fy,hy=>by
  obtain ⟨e0,rest,f1,f2,rfl,rfl,h1,h2⟩:=h
  obtain ⟨fl,fk,fr,rfl,h3⟩:=rj h2 k (by simpa using hk) hy
  refine ⟨f1++fl,fk,fr,by simp,e0,_,f1,fl++fy++fr,?_,by simp,h1,h3⟩
  have hl:=R.rd_len (R.own_rd h1)
  have e:(k+1)*R.sz=e0.length+k*R.sz:=by rw [hl,Nat.add_mul];omega
  rw [e,List.take_append,List.take_of_length_le (by omega),Nat.add_sub_cancel_left,show e0.length+k*R.sz+R.sz=e0.length+(k*R.sz+R.sz) by omega,List.drop_append,List.drop_of_length_le (by omega),Nat.add_sub_cancel_left]
  simp

theorem oe (L ec:List Value) (p s N:Nat) (h1:p+s≤N) (h2:N≤L.length) (h3:ec.length=s):(L.take (p+0)++ec++L.drop (p+0+s)).take N=(L.take N).take p++ec++(L.take N).drop (p+s):=by
 rw [Nat.add_zero,List.take_append,List.take_of_length_le (by simp;omega),List.take_take,Nat.min_eq_left (by omega:p≤N),List.drop_take]
 congr 2
 simp;omega
theorem tO {t:TypeId} {x y:Operand} (hg:o.guard=none) (ho:o.op=.store t x y) {z:List Value} {n bytes:Nat} [hz:ElemT P t z n bytes] (hn:R.sz=n) {ec:List Value} {yv:α} {xs:List α} {g m cap:Nat}
  (hS:Sat w0 w (Own R ec yv :: Own (aG R E) [.slice (some ⟨g,0,none⟩) m cap] xs :: Γ)) (k off:Nat) (hk:k<xs.length) (hoff:off=k*n) (hx:a.eval x=.pointer (some ⟨g,off,none⟩)) (hy:(a.eval y).cells=ec.toArray)
  (hK:∀ w',Sat w0 w' (Own (aG R E) [.slice (some ⟨g,0,none⟩) m cap] (xs.set k yv) :: Γ)→wpList P ops Q rest (a.put o.dst undef) w'):wpList P ops Q (o :: rest) a w:=by
 refine wpList_plain hg fun K hK'=>?_
 have hz:=hz.h
 cases hi:P.info? t with
 | none=>simp [hi] at hz
 | some i =>
  simp [hi] at hz
  have hS':Sat w0 w (tP (Own R ec yv) (Own (aG R E) [.slice (some ⟨g,0,none⟩) m cap] xs) :: Γ):=hS.join fun f g h1 h2=>⟨f,g,rfl,h1,h2⟩
  obtain ⟨fp,⟨fy,f,rfl,hyo,hv⟩,hnd,_⟩:=hS'.head
  have hel:ec.length=R.sz:=R.rd_len (R.own_rd hyo)
  obtain ⟨cur,hh,hcs⟩:∃ cur,w.heap[g]? = some (.cells cur E (0,0))∧xs.length*R.sz≤cur.size:=by
   rcases hv with ⟨h,_⟩ | ⟨g',cap',cur,ccs,f2,h,hg',h1,h2,h3,_⟩
   ·simp at h
   ·simp at h
    obtain ⟨rfl,_⟩:=h
    exact ⟨cur,hg',by rw [h3];exact Nat.mul_le_mul_right _ h1⟩
  have hkk:k*R.sz+R.sz≤xs.length*R.sz:=by have:=Nat.mul_le_mul_right R.sz hk;rw [Nat.succ_mul] at this;exact this
  have hh':w.heap[g]? = some (.cells cur.toList.toArray E (0,0)):=by simpa using hh
  obtain ⟨w',hr,hnew,hc⟩:=gi (P:=P) ec off 0 cur.toList w hh' (by rw [hoff,hel,← hn];simp;omega) (R.rd_one (R.own_rd hyo))
  have hsz:¬ (ec.toArray.size≠i.size):=by simp;omega
  unfold Oper.wp execOp
  simp only [ho,hx,Instr.storeAt,Instr.sureAddr,storeVar,sizeOf,typeInfo,hi,hy,Sem.run_bind,Sem.run_pure,run_program,Result.andThen_ok,hsz,if_false,Sem.run_ite,List.toList_toArray,hr,Oper.upon_skip]
  refine hK' _ _ (hK w' ?_)
  refine hS'.upd ?_
  rintro _ ⟨gy,gf,rfl,hy2,hv2⟩ hnd2
  rcases hv2 with ⟨h,_⟩ | ⟨g',cap',cur',ccs,f2,h,hg',h1,h2,h3,h4,h5,rfl⟩
  ·simp at h
  ·simp at h
   obtain ⟨rfl,rfl,rfl⟩:=h
   obtain ⟨rfl⟩:cur'=cur:=by rw [hh] at hg';simpa using hg'.symm
   obtain ⟨fl,fk,fr,rfl,h6⟩:=rj h5 k hk hy2
   have hoth:∀ x,x≠g→x<w.heap.size→w'.heap[x]? = w.heap[x]?:=fun x hx hlt=>hc.block x hlt (by simpa using hx)
   have hnd3:(gy++g :: (fl++fk++fr)).Nodup:=hnd2
   simp only [List.nodup_append,List.nodup_cons,List.mem_append,List.mem_cons] at hnd3
   have hgn:g∉fl++gy++fr:=by
    simp only [List.mem_append,not_or]
    refine ⟨⟨fun hm=>hnd3.2.1.1 (.inl (.inl hm)),fun hm=>hnd3.2.2 g hm g (.inl rfl) rfl⟩,fun hm=>hnd3.2.1.1 (.inr hm)⟩
   refine ⟨g :: (fl++gy++fr),.inr ⟨g,cap,_,ccs.take (k*R.sz)++ec++ccs.drop (k*R.sz+R.sz),fl++gy++fr,by simp,hnew,by simpa using h1,h2,?_,?_,gc h6 (fun b hb=>hoth b (fun e=>hgn (e ▸ hb)) ?_),rfl⟩,?_,hc.mono (by simp),?_⟩
   ·simp only [List.size_toArray,List.length_append,List.length_take,List.length_drop,Array.length_toList]
    rw [hoff,← hn]
    omega
   ·have hcl:ccs.length=xs.length*R.sz:=iz (gB h5)
    rw [← h4,hoff,← hn,hel,List.length_set]
    exact oe _ _ _ _ _ hkk (by simpa using hcs) hel
   ·exact gP h6 b hb
   ·refine List.nodup_cons.2 ⟨hgn,?_⟩
    have hs:(gy++(fl++fr)).Nodup:=List.Nodup.sublist (List.Sublist.append (List.Sublist.refl gy) (List.Sublist.cons g (List.Sublist.append (List.sublist_append_left fl fk) (List.Sublist.refl fr)))) hnd2
    rw [← List.append_assoc] at hs
    exact (List.Perm.append_right fr List.perm_append_comm).nodup_iff.1 hs
   ·intro b hb
    refine .inl ?_
    simp only [List.mem_cons,List.mem_append] at hb ⊢
    rcases hb with h | (h | h) | h <;> simp [h]

theorem pF {t e:TypeId} [ht:SliceT P t e] {z:List Value} {n bytes:Nat} [hz:ElemT P e z n bytes] {v:Value} {cs:List Value} (hcs:v.cells=cs.toArray) (hl:cs.length=n) (hpos:0<n) (hzl:z.length=n) (hn:n≤16) :
  (Instr.buildSlice t 1 #[(0,v)]).run P w=.ok (.slice (some ⟨w.heap.size,0,none⟩) 1 1) (w.alloc (.cells cs.toArray e)):=by
 have hz:=hz.h
 cases hi:P.info? e with
 | none=>simp [hi] at hz
 | some i =>
 cases hzz:i.zero with
 | none=>simp [hi,hzz] at hz
 | some zv =>
 simp [hi,hzz] at hz
 obtain ⟨hz1,hz2,hz3⟩:=hz
 have h24:¬ (n > 2 ^ 24):=by omega
 have hn0:¬ (n=0):=by omega
 have hfill:Instr.fill (fun i=>some (i*n,n)) ((Array.range n).map (zv.cells[· % zv.cells.size]!)) [(0,v)]=some cs.toArray:=by
  have hsz:((Array.range n).map (zv.cells[· % zv.cells.size]!)).size=n:=by simp
  have hfold:∀ (l:List Value) (pre:List Value) (A:Array Value),A.size=pre.length+l.length→A.toList.take pre.length=pre →
    ((l.zipIdx pre.length).foldl (fun A (c:Value × Nat)=>A.setIfInBounds c.2 c.1) A).toList=pre++l:=by
   intro l
   induction l with
   | nil=>intro pre A h1 h2;simp;rw [← h2,List.take_of_length_le (by simp at h1 ⊢;omega)]
   | cons x l ih =>
    intro pre A h1 h2
    simp only [List.zipIdx_cons,List.foldl_cons]
    have:=ih (pre++[x]) (A.setIfInBounds pre.length x) (by simp at h1 ⊢;omega) (by
     simp only [Array.toList_setIfInBounds,List.length_append,List.length_singleton]
     rw [List.take_set,List.take_succ_eq_append_getElem (by simp at h1 ⊢;omega),h2,List.set_append_right _ _ (Nat.le_refl _)]
     simp)
    simpa using this
  have h0:=hfold cs [] ((Array.range n).map (zv.cells[· % zv.cells.size]!)) (by simp [hl]) (by simp)
  simp only [Instr.fill,hcs,List.size_toArray,hl,hsz,Nat.zero_mul,Nat.zero_add,ne_eq,not_true_eq_false,decide_false,Bool.false_or,gt_iff_lt,Nat.lt_irrefl,Bool.false_eq_true,if_false]
  congr 1
  apply Array.ext'
  simpa using h0
 simp [Instr.buildSlice,run_underlying ht.h,sizeOf,typeInfo,hi,hz2,h24,hn0,zeroValue,hzz,hfill,newRow]

theorem pJ (hg:o.guard=none) {t e:TypeId} {x:Operand} (ho:o.op=.buildSlice t 1 #[(0,x)]) [SliceT P t e] {z:List Value} {n bytes:Nat} [ElemT P e z n bytes] {cs:List Value} (hcs:(a.eval x).cells=cs.toArray) (hl:cs.length=n) (hpos:0<n) (hzl:z.length=n) (hn:n≤16)
  (hS:Sat w0 w Γ) (hK:∀ w' b,Sat w0 w' (Box b e cs :: Γ)→Ext w w'→wpList P ops Q rest (a.put o.dst (.slice (some ⟨b,0,none⟩) 1 1)) w'):wpList P ops Q (o :: rest) a w:=by
 refine wpList_plain hg fun K hK'=>?_
 have hr:=pF (P:=P) (w:=w) (t:=t) (e:=e) hcs hl hpos hzl hn
 unfold Oper.wp execOp
 simp only [ho,List.map_toArray,List.map_cons,List.map_nil,hr,Sem.run_bind,Sem.run_pure,Result.andThen_ok,Oper.upon_value]
 exact hK' _ _ (hK _ _ (hS.box e cs) (jh _ _))

theorem pu (R:Rep α) (hg:o.guard=none) {t:TypeId} (ho:o.op=.buildSlice t 0 #[]) [ht:SliceT P t E] {z:List Value} {n bytes:Nat} [hz:ElemT P E z n bytes]
  (hS:Sat w0 w Γ) (hK:∀ w' b,Sat w0 w' (Own (aG R E) [.slice (some ⟨b,0,none⟩) 0 0] [] :: Γ)→Ext w w'→wpList P ops Q rest (a.put o.dst (.slice (some ⟨b,0,none⟩) 0 0)) w'):wpList P ops Q (o :: rest) a w:=by
 refine wpList_plain hg fun K hK'=>?_
 have hz:=hz.h
 cases hi:P.info? E with
 | none=>simp [hi] at hz
 | some i =>
 have hr:(Instr.buildSlice t 0 #[]).run P w=.ok (.slice (some ⟨w.heap.size,0,none⟩) 0 0) (w.alloc (.cells #[] E)):=by
  simp [Instr.buildSlice,run_underlying ht.h,sizeOf,typeInfo,hi,Instr.fill,newRow,Array.range_zero']
 unfold Oper.wp execOp
 simp only [ho,List.map_toArray,List.map_nil,hr,Sem.run_bind,Sem.run_pure,Result.andThen_ok,Oper.upon_value]
 have hB:=hS.box E []
 refine hK' _ _ (hK _ _ (hB.conv (B:=Own (aG R E) [.slice (some ⟨w.heap.size,0,none⟩) 0 0] []) fun f hf=>?_) (jh _ _))
 obtain ⟨rfl,hf⟩:=hf
 exact .inr ⟨w.heap.size,0,#[],[],[],rfl,hf,Nat.le_refl _,Nat.zero_le _,by simp,by simp,⟨rfl,rfl⟩,rfl⟩

theorem Sat.one {ec:List Value} {y:α} (h:Sat w0 w (Own R ec y :: Γ)):Sat w0 w (nt R ec [y] :: Γ) :=
 h.conv fun f hf=>⟨ec,[],f,[],by simp,by simp,hf,rfl,rfl⟩
theorem Sat.str (h:Sat w0 w Γ) (s:ByteArray) (hs:s.size≤9223372036854775807):Sat w0 w (Own kd [.string s] s :: Γ):=h.add ⟨⟨rfl,hs⟩,rfl⟩
theorem Sat.int (h:Sat w0 w Γ) (n:Int):Sat w0 w (Own bW [.int .i64 n] n :: Γ):=h.add ⟨rfl,rfl⟩
theorem Sat.pair {α β:Type} {R:Rep α} {S:Rep β} {c d:List Value} {x:α} {y:β} (h:Sat w0 w (Own R c x :: Own S d y :: Γ)):Sat w0 w (Own (mm R S) (c++d) (x,y) :: Γ) :=
 h.join fun f g h1 h2=>⟨c,d,f,g,rfl,rfl,h1,h2⟩
theorem Sat.ints {xs:List Int} (h:Sat w0 w Γ):Sat w0 w (nt bW (xs.map (Value.int .i64)) xs :: Γ):=by
 refine h.add ?_
 induction xs with
 | nil=>exact ⟨rfl,rfl⟩
 | cons x xs ih=>exact ⟨[.int .i64 x],_,[],[],rfl,rfl,⟨rfl,rfl⟩,ih⟩
end laws2
abbrev Env:=Nat→Value
def upd (e:Env) (d:Nat) (v:Value):Env:=fun t=>bif Nat.beq t d then v else e t
def ev (e:Env):Operand→Value
 | .tmp t=>e t
 | .const v=>v
 | .global g=>.pointer (some ⟨g,0,none⟩)
 | .func f=>.func (.func f) #[] #[]
theorem mb {a b:Nat} (h:¬ a=b):Nat.beq a b=false:=by
 cases hb:Nat.beq a b
 ·rfl
 ·exact absurd (Nat.eq_of_beq_eq_true hb) h
structure Mt (n:Nat) (e:Env) (a:Act):Prop where
 size:a.tmps.size=n
 defers:a.defers=[]
 get:∀ t,a.tmps.getD t undef=e t
theorem Mt.eval {n:Nat} {e:Env} {a:Act} (h:Mt n e a):a.eval=ev e:=by
 funext x
 cases x <;> simp only [Act.eval,ev]
 exact h.get _
theorem Mt.put {n:Nat} {e:Env} {a:Act} (h:Mt n e a) {d:Nat} (hd:d<n) (v:Value):Mt n (upd e d v) (a.put (some d) v):=by
 refine ⟨by simp [Act.put,h.size],by simpa [Act.put] using h.defers,fun t=>?_⟩
 have hg:=h.get t
 have hs:=h.size
 simp only [Act.put,upd]
 by_cases ht:t=d
 ·subst ht
  simp [Array.getD,hs,hd]
 ·have:Nat.beq t d=false:=mb ht
  rw [this]
  simp only [cond_false,← hg,Array.getD,Array.size_setIfInBounds]
  split
  ·rename_i hlt
   have:=Array.getElem_setIfInBounds (xs:=a.tmps) (i:=d) (a:=v) (j:=t) (by simpa using hlt)
   rw [if_neg (fun e=>ht e.symm)] at this
   exact this
  ·rfl
theorem vH {e:Env} {d:Nat} {v:Value} (h:e d=v):upd e d v=e:=by
 funext t
 unfold upd
 by_cases ht:t=d
 ·subst ht;simp [h]
 ·have:Nat.beq t d=false:=mb ht
  rw [this];rfl
theorem keep {e e':Env} {d:Nat} {v:Value} (h:e' d=v) (h2:e=e'):e=upd e' d v:=by rw [vH h,h2]
def PV (P:Program) (o:Oper) (e:Env) (w:World) (v:Value):Prop:=∀ w',Ext w w'→(execOp (ev e) o).run P w'=.ok (.value v) w'
theorem PV.ext {P:Program} {o:Oper} {e:Env} {w w1:World} {v:Value} (h:PV P o e w v) (hx:Ext w w1):PV P o e w1 v:=fun w' h'=>h w' (hx.trans h')

def nrm (n:Nat) (K:Env→World→Prop):Exit→Act→World→Prop:=fun x a w=>x=.normal∧∃ e,Mt n e a∧K e w
def EL (P:Program) (n:Nat) (ops:Array Oper) (K:Env→World→Prop) (rest:List Oper) (e:Env) (w:World):Prop:=∀ a,Mt n e a→wpList P ops (nrm n K) rest a w
def QL (P:Program) (n:Nat) (ops:Array Oper) (w:World) (K:Env→Prop) (rest:List Oper) (e:Env):Prop:=∀ a,Mt n e a→wpQuiet P ops (fun w'=>Ext w w') (fun a'=>∃ e',Mt n e' a'∧K e') rest a

structure Goes (P:Program) (f:FuncId):Prop where
 h:∃ fn,P.funcs[f]? = some fn∧(fn.name == "runtime.NumGoroutine")=false∧fn.body.isNone=false
theorem Goes.run {P:Program} {f:FuncId} (h:Goes P f) (args:Array Value) (w:World):(callFunc f args).run P w=.ok (.enter f args) w:=by
 obtain ⟨fn,h1,h2,h3⟩:=h.h
 simp only [callFunc,Sem.run_bind,run_program,Result.andThen_ok,h1,h2,h3,Bool.false_eq_true,if_false]
 rfl

section
variable {P:Program} {n:Nat} {ops:Array Oper} {K:Env→World→Prop} {KQ:Env→Prop} {rest:List Oper} {e:Env} {w w0:World} {v:Value} {d:Nat} {op:Op} {ty:TypeId} {pos:String} {af:Array Edge} {Γ rΓ:List Asn}

theorem ae (h:K e w):EL P n ops K [] e w:=fun _ ha=>⟨rfl,e,ha,h⟩
theorem eH (h:KQ e):QL P n ops w KQ [] e:=fun _ ha=>⟨e,ha,h⟩
theorem lh (hp:PV P ⟨some d,op,ty,pos,af,none⟩ e w v) (hd:d<n) (hK:EL P n ops K rest (upd e d v) w):EL P n ops K (⟨some d,op,ty,pos,af,none⟩ :: rest) e w:=by
 intro a ha
 refine wpList_plain rfl fun K' hK'=>?_
 unfold Oper.wp
 rw [ha.eval,hp w (Ext.refl w)]
 exact hK' _ _ (hK _ (ha.put hd v))
theorem pp (hp:PV P ⟨some d,op,ty,pos,af,none⟩ e w v) (hd:d<n) (hK:QL P n ops w KQ rest (upd e d v)):QL P n ops w KQ (⟨some d,op,ty,pos,af,none⟩ :: rest) e:=by
 intro a ha
 unfold wpQuiet
 rw [if_pos (by rfl)]
 refine ⟨v,fun w' hw'=>?_,hK _ (ha.put hd v)⟩
 unfold Oper.quietAt
 rw [ha.eval,hp w' hw']
 exact ⟨rfl,rfl⟩
theorem bC {f:FuncId} {args:Array Operand} {tys:Array TypeId} {vals:Array Value} {R:Ending→World→Prop} (hg:Goes P f) (hc:Calls P f vals w R) (hv:(args.toList.map (ev e)).toArray=vals) (hd:d<n)
  (hK:∀ x w',R x w'→∃ v,x=.returned v∧EL P n ops K rest (upd e d v) w'):EL P n ops K (⟨some d,.call ⟨.value (.func f),args,tys⟩,ty,pos,af,none⟩ :: rest) e w:=by
 intro a ha
 refine wpList_plain rfl fun K' hK'=>?_
 unfold Oper.wp execOp
 have he:args.map (ev e)=vals:=by rw [← hv];apply Array.ext';simp
 simp only [ha.eval,resolve,ev,Deferred.ofValue,Sem.run_bind,Sem.run_pure,Result.andThen_ok,Array.empty_append,Array.append_empty,he,invoke,hg.run,Oper.upon_enter]
 refine hc.mono fun x w' hx=>?_
 obtain ⟨v,rfl,h⟩:=hK x w' hx
 exact hK' _ _ (h _ (ha.put hd v))
theorem fR {f:FuncId} {args:Array Operand} {tys:Array TypeId} {vals:Array Value} (v:Value) (hg:Goes P f)
  (hc:∀ w',Ext w w'→Calls P f vals w' fun x w''=>x=.returned v∧Ext w' w'') (hv:(args.toList.map (ev e)).toArray=vals) (hd:d<n)
  (hK:QL P n ops w KQ rest (upd e d v)):QL P n ops w KQ (⟨some d,.call ⟨.value (.func f),args,tys⟩,ty,pos,af,none⟩ :: rest) e:=by
 intro a ha
 unfold wpQuiet
 rw [if_pos (by rfl)]
 refine ⟨v,fun w' hw'=>?_,hK _ (ha.put hd v)⟩
 unfold Oper.quietAt execOp
 have he:args.map (ev e)=vals:=by rw [← hv];apply Array.ext';simp
 simp only [ha.eval,resolve,ev,Deferred.ofValue,Sem.run_bind,Sem.run_pure,Result.andThen_ok,Array.empty_append,Array.append_empty,he,invoke,hg.run]
 exact ⟨rfl,(hc w' hw').mono fun x w'' ⟨h1,h2⟩=>⟨h1,hw'.trans h2⟩⟩
def yld (ops:Array Oper) (e:Env) (j:Nat):Option Bool :=
 match (ops[j]?).bind (·.dst) with
 | some t=>match e t with | .bool b=>some b | _=>none
 | none=>none
theorem jp {a:Act} (ha:Mt n e a) {j:Nat} {b:Bool} (h:yld ops e j=some b):yielded ops a.tmps j=some b:=by
 unfold yld at h
 unfold yielded
 cases hj:(ops[j]?).bind (·.dst) with
 | none=>simp [hj] at h
 | some t =>
  simp only [hj] at h
  have hg:=ha.get t
  simp only [Option.bind_some]
  cases hv:e t with
  | bool c =>
   rw [hv] at h hg
   simp only [Option.some.injEq] at h
   subst h
   unfold Array.getD at hg
   split at hg
   ·rename_i hlt
    rw [Array.getElem?_eq_getElem hlt]
    have:a.tmps[t]=.bool c:=hg
    rw [this]
   ·simp [undef] at hg
  | _=>simp [hv] at h
theorem rX {a:Act} (ha:Mt n e a) {j:Nat} (h:(match (ops[j]?).bind (·.dst) with | some t=>e t | none=>undef)=undef):yielded ops a.tmps j=none:=by
 unfold yielded
 cases hj:(ops[j]?).bind (·.dst) with
 | none=>rfl
 | some t =>
  simp only [hj] at h
  have hg:=ha.get t
  rw [h] at hg
  simp only [Option.bind_some]
  cases hv:a.tmps[t]? with
  | none=>rfl
  | some v =>
   have:a.tmps.getD t undef=v:=by
    obtain ⟨h1,h2⟩:=Array.getElem?_eq_some_iff.1 hv
    simp [Array.getD,h1,h2]
   rw [this] at hg
   subst hg
   rfl
theorem Ag {j:Nat} {b c:Bool} {dst:Option Nat} (h:yld ops e j=some c) (hc:c=b) (hK:EL P n ops K (⟨dst,op,ty,pos,af,none⟩ :: rest) e w):EL P n ops K (⟨dst,op,ty,pos,af,some (j,b)⟩ :: rest) e w:=by
 subst hc
 intro a ha
 have:=hK a ha
 unfold wpList at this ⊢
 rw [if_pos (by simp [Region.wanted])] at this
 rw [if_pos (by simp [Region.wanted,jp ha h])]
 exact this
theorem yt {j:Nat} {b b' c:Bool} {d:Nat} (h:yld ops e j=some c) (hc:c=b) (hb:(b == b')=false) (hd:d<n) (hK:EL P n ops K rest (upd e d undef) w):EL P n ops K (⟨some d,op,ty,pos,af,some (j,b')⟩ :: rest) e w:=by
 subst hc
 intro a ha
 unfold wpList
 rw [if_neg (by simp [Region.wanted,jp ha h];simpa using hb)]
 exact hK _ (ha.put hd _)
theorem zY {j:Nat} {b c:Bool} {dst:Option Nat} (h:yld ops e j=some c) (hc:c=b) (hK:QL P n ops w KQ (⟨dst,op,ty,pos,af,none⟩ :: rest) e):QL P n ops w KQ (⟨dst,op,ty,pos,af,some (j,b)⟩ :: rest) e:=by
 subst hc
 intro a ha
 have:=hK a ha
 unfold wpQuiet at this ⊢
 rw [if_pos (by simp [Region.wanted])] at this
 rw [if_pos (by simp [Region.wanted,jp ha h])]
 exact this
theorem ym {j:Nat} {b b' c:Bool} {d:Nat} (h:yld ops e j=some c) (hc:c=b) (hb:(b == b')=false) (hd:d<n) (hK:QL P n ops w KQ rest (upd e d undef)):QL P n ops w KQ (⟨some d,op,ty,pos,af,some (j,b')⟩ :: rest) e:=by
 subst hc
 intro a ha
 unfold wpQuiet
 rw [if_neg (by simp [Region.wanted,jp ha h];simpa using hb)]
 exact hK _ (ha.put hd _)
end

def Lf (n:Nat) (Q:Exit→Env→World→Prop):Exit→Act→World→Prop:=fun x a w=>∃ e,Mt n e a∧Q x e w
def CW (P:Program) (n:Nat) (c:Code) (Q:Exit→Env→World→Prop) (e:Env) (w:World):Prop:=∀ a,Mt n e a→c.wp P (Lf n Q) a w
def thn (K:Env→World→Prop) (Q:Exit→Env→World→Prop):Exit→Env→World→Prop
 | .normal,e,w=>K e w
 | x,e,w=>Q x e w
def inb (id:Nat) (Q:Exit→Env→World→Prop):Exit→Env→World→Prop
 | .exit id',e,w=>bif Nat.beq id' id then Q .normal e w else Q (.exit id') e w
 | x,e,w=>Q x e w
section
variable {P:Program} {n:Nat} {Q:Exit→Env→World→Prop} {K:Env→World→Prop} {e:Env} {w:World} {c x y:Code}
theorem pL (h:∀ Q',(∀ x e w,Q x e w→Q' x e w)→CW P n c Q' e w):CW P n c Q e w:=h Q fun _ _ _ h=>h
theorem Ai {i:Nat} (h:Q .normal e w):inb i Q (.exit i) e w:=by
 have:Nat.beq i i=true:=by simp
 show (bif Nat.beq i i then _ else _)
 rw [this];exact h
theorem uu (h:CW P n x (thn (fun e w=>CW P n y Q e w) Q) e w):CW P n (.seq x y) Q e w:=by
 intro a ha
 refine wp_seq (wp_mono (h a ha) ?_)
 rintro x' a' w' ⟨e',he',hq⟩
 cases x' with
 | normal=>exact hq a' he'
 | _=>exact ⟨e',he',hq⟩
theorem bf (h:Q .normal e w):CW P n .skip Q e w:=fun _ ha=>wp_skip ⟨e,ha,h⟩
theorem aF {i:Nat} (h:Q (.exit i) e w):CW P n (.exit i) Q e w:=fun _ ha=>wp_exit ⟨e,ha,h⟩
theorem ag (h:Q .ret e w):CW P n .ret Q e w:=fun _ ha=>wp_ret ⟨e,ha,h⟩
theorem ve {o:Operand} {b:Bool} (hc:ev e o=.bool b) (hb:b=true) (h:CW P n x Q e w):CW P n (.cond o x y) Q e w :=
 fun a ha=>wp_cond_true (by rw [ha.eval,hc,hb]) (h a ha)
theorem tV {o:Operand} {b:Bool} (hc:ev e o=.bool b) (hb:b=false) (h:CW P n y Q e w):CW P n (.cond o x y) Q e w :=
 fun a ha=>wp_cond_false (by rw [ha.eval,hc,hb]) (h a ha)
theorem vL {i:Nat} (h:CW P n c (inb i Q) e w):CW P n (.block i c) Q e w:=by
 intro a ha
 refine wp_block (wp_mono (h a ha) ?_)
 rintro x' a' w' ⟨e',he',hq⟩
 cases x' with
 | exit id' =>
  by_cases hi:id'=i
  ·subst hi
   have:Nat.beq id' id'=true:=by simp
   have hq':(bif Nat.beq id' id' then Q .normal e' w' else Q (.exit id') e' w'):=hq
   rw [this] at hq'
   simp only [Exit.inBlock,if_true]
   exact ⟨e',he',hq'⟩
  ·have:Nat.beq id' i=false:=mb hi
   have hq':(bif Nat.beq id' i then Q .normal e' w' else Q (.exit id') e' w'):=hq
   rw [this] at hq'
   simp only [Exit.inBlock,hi,if_false]
   exact ⟨e',he',hq'⟩
 | _=>exact ⟨e',he',hq⟩
theorem ac {id:Nat} {l:List Oper} (h:EL P n l.toArray (fun e w=>Q .normal e w) l e w):CW P n (.region id l.toArray false) Q e w:=by
 intro a ha
 refine wp_mono (wp_region_lit (h a ha)) ?_
 rintro x a w ⟨rfl,e,he,hk⟩
 exact ⟨e,he,hk⟩
theorem et {id:Nat} {l:List Oper} (hm:P.follows .mixedOrders=true) (hB:Region.lexB .any l.toArray=true) (h:QL P n l.toArray w (fun e=>∀ w',Ext w w'→Q .normal e w') l e):CW P n (.region id l.toArray true) Q e w:=by
 intro a ha
 refine wp_region_quiet (C:=fun w'=>Ext w w') hm hB ⟨rfl,rfl,rfl,Nat.le_refl _,fun _ _=>rfl⟩ ?_
 have:=h a ha
 have key:∀ (r:List Oper) (a:Act),wpQuiet P l.toArray (fun w'=>Ext w w') (fun a'=>∃ e',Mt n e' a'∧∀ w',Ext w w'→Q .normal e' w') r a→wpQuiet P l.toArray (fun w'=>Ext w w') (fun a'=>∀ w',Ext w w'→Lf n Q .normal a' w') r a:=by
  intro r
  induction r with
  | nil=>rintro a ⟨e',h1,h2⟩ w' hw';exact ⟨e',h1,h2 w' hw'⟩
  | cons o r ih =>
   intro a h
   unfold wpQuiet at h ⊢
   split
   ·rename_i hw
    rw [if_pos hw] at h
    exact Oper.quiet_mono ih h
   ·rename_i hw
    rw [if_neg hw] at h
    exact ih _ h
 exact key _ _ this
theorem wT (I:Nat→Env→World→Prop) (k0:Nat) (h0:I k0 e w)
  (hr:∀ k e w,I k e w→CW P n c (thn (fun e w=>∃ k',k'<k∧I k' e w) Q) e w):CW P n (.loop c) Q e w:=by
 intro a ha
 refine wp_loop_ghost (fun k a w=>∃ e,Mt n e a∧I k e w) k0 ⟨e,ha,h0⟩ ?_
 rintro k a w ⟨e,he,hI⟩
 refine wp_mono (hr k e w hI a he) ?_
 rintro x' a' w' ⟨e',he',hq⟩
 cases x' with
 | normal =>
  obtain ⟨k',hk',hI'⟩:=hq
  exact ⟨k',hk',e',he',hI'⟩
 | _=>exact ⟨e',he',hq⟩
theorem aE (I:Nat→Env→World→Prop) (k0:Nat) (h0:I k0 e w) (hz:∀ e w,¬ I 0 e w)
  (hr:∀ k e w,I (k+1) e w→CW P n c (thn (fun e w=>I k e w) Q) e w):CW P n (.loop c) Q e w:=by
 refine wT I k0 h0 ?_
 intro k e w hI
 cases k with
 | zero=>exact absurd hI (hz e w)
 | succ k =>
  intro a ha
  refine wp_mono (hr k e w hI a ha) ?_
  rintro x' a' w' ⟨e',he',hq⟩
  cases x' with
  | normal=>exact ⟨e',he',k,Nat.lt_succ_self k,hq⟩
  | _=>exact ⟨e',he',hq⟩
end

def Fin (P:Program) (fn:Func) (n:Nat) (R:Ending→World→Prop):Exit→Env→World→Prop
 | .normal,e,w=>∃ v,(∀ a,Mt n e a→(results fn a.tmps).run P w=.ok v w)∧R (.returned v) w
 | .ret,e,w=>∃ v,(∀ a,Mt n e a→(results fn a.tmps).run P w=.ok v w)∧R (.returned v) w
 | _,_,_=>False
def pI:List Value→Nat→Env
 | [],_=>fun _=>undef
 | v :: l,k=>upd (pI l (k+1)) k v
theorem qF:∀ (l:List Value) (k t:Nat),pI l k t=if k≤t then l.getD (t-k) undef else undef
 | [],k,t=>by simp [pI]
 | v :: l,k,t=>by
  unfold pI upd
  by_cases h:t=k
  ·subst h;simp
  ·have hb:Nat.beq t k=false:=mb h
   rw [hb,cond_false,qF l (k+1) t]
   by_cases hk:k+1≤t
   ·rw [if_pos hk,if_pos (by omega),show t-k=(t-(k+1))+1 by omega]
    simp
   ·rw [if_neg hk]
    by_cases hk2:k≤t
    ·omega
    ·rw [if_neg hk2]
theorem aI {P:Program} {f:FuncId} {fn:Func} {c:Code} {l:List Value} {w:World} {R:Ending→World→Prop} (hf:P.funcs[f]? = some fn) (hb:fn.body=some c) {n:Nat} (hn:fn.ntmps=n) (hl:l.length≤n)
  (h:CW P n c (Fin P fn n R) (pI l 0) w):Calls P f l.toArray w R:=by
 refine calls_of_wp hf hb (wp_mono (h _ ?_) ?_)
 ·refine ⟨by simp;omega,rfl,fun t=>?_⟩
  rw [qF]
  simp only [Nat.zero_le,if_true,Nat.sub_zero,Array.getD,Array.size_append,List.size_toArray,Array.size_replicate]
  by_cases h1:t<l.length
  ·rw [dif_pos (by omega)]
   simp [h1]
  ·have h2:l.getD t undef=undef:=by simp [h1]
   rw [h2]
   split
   ·rename_i h3
    have:=Array.getElem_append_right (xs:=l.toArray) (ys:=Array.replicate (fn.ntmps-l.length) undef) (i:=t) (by simpa using h1) (h:=by simpa using h3)
    simpa using this
   ·rfl
 ·rintro x a w' ⟨e,he,hq⟩
  cases x with
  | normal=>obtain ⟨v,h1,h2⟩:=hq;exact bodyPost_end (h1 a he) he.defers h2
  | ret=>obtain ⟨v,h1,h2⟩:=hq;exact bodyPost_ret (h1 a he) he.defers h2
  | _=>exact hq.elim
def rng (n:Int):Bool:=decide (-9223372036854775808≤n)&&decide (n≤9223372036854775807)
def ad (a b:Int):Option Int:=if rng (a+b) then some (a+b) else none
def sb (a b:Int):Option Int:=if rng (a-b) then some (a-b) else none
def ml (a b:Int):Option Int:=if rng (a*b) then some (a*b) else none
def qt (a b:Int):Option Int:=if b≠0∧rng (a.tdiv b) then some (a.tdiv b) else none
def rm (a b:Int):Option Int:=if b≠0 then some (a.tmod b) else none
def ix {α:Type} (xs:List α) (i:Int):Option α:=if 0≤i then xs[i.toNat]? else none
def bx (s:ByteArray) (i:Int):Option Int:=if 0≤i then (s[i.toNat]?).map (fun b=>(b.toNat:Int)) else none
def slc {α:Type} (xs:List α) (lo hi:Int):Option (List α):=if 0≤lo∧lo≤hi∧hi≤xs.length then some ((xs.take hi.toNat).drop lo.toNat) else none
def apd {α:Type} (bytes:Nat) (xs ys:List α):Option (List α):=if (xs.length+ys.length)*bytes≤140737488355328 then some (xs++ys) else none
def mk {α:Type} (bytes:Nat) (z:α) (n:Int):Option (List α):=if 0≤n∧n.toNat*bytes≤281474976710656∧n.toNat≤140737488355328 then some (List.replicate n.toNat z) else none
def sto {α:Type} (xs:List α) (i:Int) (y:α):Option (List α):=if 0≤i∧i.toNat<xs.length then some (xs.set i.toNat y) else none

theorem ob {α β:Type} {o:Option α} {f:α→Option β} {r:β} (h:o.bind f=some r):∃ x,o=some x∧f x=some r:=Option.bind_eq_some_iff.1 h
theorem oif {α:Type} {c:Bool} {x y:Option α} {r:α} (h:(bif c then x else y)=some r):(c=true∧x=some r)∨(c=false∧y=some r):=by
 cases c
 ·exact .inr ⟨rfl,h⟩
 ·exact .inl ⟨rfl,h⟩
theorem iJ {n:Int} (h:rng n=true):IntKind.i64.wrap n=n:=by
 simp only [rng,Bool.and_eq_true,decide_eq_true_eq] at h
 exact IntWalk.i64_in n h
theorem su {a b c:Int} (h:ad a b=some c):rng (a+b)=true∧c=a+b:=by
 unfold ad at h;split at h
 ·exact ⟨by assumption,by simpa using h.symm⟩
 ·cases h
theorem tc {a b c:Int} (h:sb a b=some c):rng (a-b)=true∧c=a-b:=by
 unfold sb at h;split at h
 ·exact ⟨by assumption,by simpa using h.symm⟩
 ·cases h
theorem xF {a b c:Int} (h:ml a b=some c):rng (a*b)=true∧c=a*b:=by
 unfold ml at h;split at h
 ·exact ⟨by assumption,by simpa using h.symm⟩
 ·cases h
theorem eQ {α:Type} {xs:List α} {i:Int} {x:α} (h:ix xs i=some x):∃ k:Nat,i=(k:Int)∧∃ h:k<xs.length,xs[k]=x:=by
 unfold ix at h
 split at h
 ·rename_i h0
  obtain ⟨h1,h2⟩:=List.getElem?_eq_some_iff.1 h
  exact ⟨i.toNat,by omega,h1,h2⟩
 ·cases h

section
variable {P:Program} {e:Env} {w w0:World} {d:Option Nat} {ty:TypeId} {pos:String} {af:Array Edge} {x y z:Operand} {Γ rΓ:List Asn}

theorem ar {v:Value} (hx:ev e x=v):PV P ⟨d,.move x,ty,pos,af,none⟩ e w v:=fun w' _=>by
 unfold execOp;simp only [hx];rfl
theorem fF {v:Value} (hx:ev e x=v):PV P ⟨d,.assign x,ty,pos,af,none⟩ e w v:=fun w' _=>by
 unfold execOp;simp only [hx];rfl
theorem aw {b:Bool} {v:Value} (hx:ev e x=.bool b) (hb:b=true) (hy:ev e y=v):PV P ⟨d,.pick x y z,ty,pos,af,none⟩ e w v:=fun w' _=>by
 unfold execOp;subst hb;simp [hx,hy,asBool]
theorem ay {b:Bool} {v:Value} (hx:ev e x=.bool b) (hb:b=false) (hz:ev e z=v):PV P ⟨d,.pick x y z,ty,pos,af,none⟩ e w v:=fun w' _=>by
 unfold execOp;subst hb;simp [hx,hz,asBool]
theorem aK {t:TypeId} {b:Bool} (hx:ev e x=.bool b):PV P ⟨d,.unOp .not t x,ty,pos,af,none⟩ e w (.bool (!b)):=fun w' _=>by
 unfold execOp;simp [hx,Op.unary]
theorem iR {t:TypeId} {a c:Int} (hx:ev e x=.int .i64 a) (h:sb 0 a=some c):PV P ⟨d,.unOp .neg t x,ty,pos,af,none⟩ e w (.int .i64 c):=fun w' _=>by
 obtain ⟨h1,rfl⟩:=tc h
 unfold execOp;simp [hx,Op.unary,Op.intArith,iJ h1];simpa using iJ h1
section
variable {t u:TypeId} {a b c:Int}
theorem aD (hx:ev e x=.int .i64 a) (hy:ev e y=.int .i64 b) (h:ad a b=some c):PV P ⟨d,.binOp .add t x y u,ty,pos,af,none⟩ e w (.int .i64 c):=fun w' _=>by
 obtain ⟨h1,rfl⟩:=su h
 unfold execOp;simp [hx,hy,eqGuard,binOp,Op.intArith,iJ h1]
theorem fN (hx:ev e x=.int .i64 a) (hy:ev e y=.int .i64 b) (h:sb a b=some c):PV P ⟨d,.binOp .sub t x y u,ty,pos,af,none⟩ e w (.int .i64 c):=fun w' _=>by
 obtain ⟨h1,rfl⟩:=tc h
 unfold execOp;simp [hx,hy,eqGuard,binOp,Op.intArith,iJ h1]
theorem cY (hx:ev e x=.int .i64 a) (hy:ev e y=.int .i64 b) (h:ml a b=some c):PV P ⟨d,.binOp .mul t x y u,ty,pos,af,none⟩ e w (.int .i64 c):=fun w' _=>by
 obtain ⟨h1,rfl⟩:=xF h
 unfold execOp;simp [hx,hy,eqGuard,binOp,Op.intArith,iJ h1]
theorem fO (hx:ev e x=.int .i64 a) (hy:ev e y=.int .i64 b) (h:qt a b=some c):PV P ⟨d,.binOp .quo t x y u,ty,pos,af,none⟩ e w (.int .i64 c):=fun w' _=>by
 unfold qt at h;split at h
 ·rename_i h1
  obtain rfl:=Option.some.inj h
  unfold execOp;simp [hx,hy,eqGuard,binOp,Op.intDiv,h1.1,iJ h1.2]
 ·cases h
theorem jB (hx:ev e x=.int .i64 a) (hy:ev e y=.int .i64 b) (h:rm a b=some c):PV P ⟨d,.binOp .rem t x y u,ty,pos,af,none⟩ e w (.int .i64 c):=fun w' _=>by
 unfold rm at h;split at h
 ·rename_i h1
  obtain rfl:=Option.some.inj h
  unfold execOp;simp [hx,hy,eqGuard,binOp,Op.intDiv,h1]
 ·cases h
theorem p3 {k:IntKind} (hx:ev e x=.int k a) (hy:ev e y=.int k b):PV P ⟨d,.binOp .add t x y u,ty,pos,af,none⟩ e w (.int k (k.wrap (a+b))):=fun w' _=>by
 unfold execOp;simp [hx,hy,eqGuard,binOp,Op.intArith]
theorem w5 {k:IntKind} (hx:ev e x=.int k a) (hy:ev e y=.int k b):PV P ⟨d,.binOp .mul t x y u,ty,pos,af,none⟩ e w (.int k (k.wrap (a*b))):=fun w' _=>by
 unfold execOp;simp [hx,hy,eqGuard,binOp,Op.intArith]
theorem cz {k:IntKind} (hx:ev e x=.int k a) (hy:ev e y=.int k b):PV P ⟨d,.binOp .eql t x y u,ty,pos,af,none⟩ e w (.bool (a == b)):=fun w' _=>by
 unfold execOp;simp [hx,hy,eqGuard,binOp,Op.intCmp]
theorem dl {k:IntKind} (hx:ev e x=.int k a) (hy:ev e y=.int k b):PV P ⟨d,.binOp .neq t x y u,ty,pos,af,none⟩ e w (.bool (a != b)):=fun w' _=>by
 unfold execOp;simp [hx,hy,eqGuard,binOp,Op.intCmp]
theorem aH {k:IntKind} (hx:ev e x=.int k a) (hy:ev e y=.int k b):PV P ⟨d,.binOp .lss t x y u,ty,pos,af,none⟩ e w (.bool (decide (a<b))):=fun w' _=>by
 unfold execOp;simp [hx,hy,eqGuard,binOp,Op.intCmp]
theorem lF {k:IntKind} (hx:ev e x=.int k a) (hy:ev e y=.int k b):PV P ⟨d,.binOp .leq t x y u,ty,pos,af,none⟩ e w (.bool (decide (a≤b))):=fun w' _=>by
 unfold execOp;simp [hx,hy,eqGuard,binOp,Op.intCmp]
theorem dF {k:IntKind} (hx:ev e x=.int k a) (hy:ev e y=.int k b):PV P ⟨d,.binOp .gtr t x y u,ty,pos,af,none⟩ e w (.bool (decide (b<a))):=fun w' _=>by
 unfold execOp;simp [hx,hy,eqGuard,binOp,Op.intCmp]
theorem mc {k:IntKind} (hx:ev e x=.int k a) (hy:ev e y=.int k b):PV P ⟨d,.binOp .geq t x y u,ty,pos,af,none⟩ e w (.bool (decide (b≤a))):=fun w' _=>by
 unfold execOp;simp [hx,hy,eqGuard,binOp,Op.intCmp]
end
def eqS (s r:ByteArray):Bool:=s.toList == r.toList
def ltS (s r:ByteArray):Bool:=Op.bytesLess s.toList r.toList
section
variable {t u:TypeId} {s r:ByteArray}
theorem pU (hx:ev e x=.string s) (hy:ev e y=.string r):PV P ⟨d,.binOp .eql t x y u,ty,pos,af,none⟩ e w (.bool (eqS s r)):=fun w' _=>by
 unfold execOp eqS;simp [hx,hy,eqGuard,binOp,Op.stringOp]
theorem w6 (hx:ev e x=.string s) (hy:ev e y=.string r):PV P ⟨d,.binOp .neq t x y u,ty,pos,af,none⟩ e w (.bool (!(eqS s r))):=fun w' _=>by
 unfold execOp eqS;simp [hx,hy,eqGuard,binOp,Op.stringOp]
end
theorem wi (k:Nat) {t:TypeId} (ht:P.underlying t=some .bool) (a b:Bool) (w:World):(Op.equalIn (k+1) t (.bool a) (.bool b)).run P w=.ok (a == b) w:=by
 simp only [Op.equalIn,Sem.run_bind,run_underlying ht,Result.andThen_ok,Sem.run_pure]
theorem xV {t:TypeId} (ht:P.underlying t=some .bool) (a b:Bool) (w:World):(Op.equal t (.bool a) (.bool b)).run P w=.ok (a == b) w:=wi 9999 ht a b w
theorem wZ {t u:TypeId} {a b:Bool} (ht:P.underlying t=some .bool) (hx:ev e x=.bool a) (hy:ev e y=.bool b):PV P ⟨d,.binOp .neq t x y u,ty,pos,af,none⟩ e w (.bool (a != b)):=fun w' _=>by
 have h1:(eqGuard .neq t x y (.bool a) (.bool b)).run P w'=.ok () w':=by simp [eqGuard]
 have h2:(binOp .neq t (.bool a) (.bool b)).run P w'=.ok (.bool (a != b)) w':=by
  show (do pure (.bool (!(← Op.equal t (.bool a) (.bool b)))):Sem Value).run P w'=_
  simp only [Sem.run_bind,xV ht,Result.andThen_ok,Sem.run_pure]
  rfl
 unfold execOp
 simp only [hx,hy,Sem.run_bind,h1,h2,Result.andThen_ok,Sem.run_pure]
theorem an {k:Nat} {vs:Array Value} {v:Value} (hx:ev e x=.tuple vs) (h:vs[k]? = some v):PV P ⟨d,.extract x k,ty,pos,af,none⟩ e w v:=fun w' _=>by
 unfold execOp;simp [hx,Instr.extract,h]
theorem rl {s t:TypeId} {k k2:IntKind} {a:Int} {u:TypeDesc} (hs:P.underlying s=some u) (ht:P.underlying t=some (.int k2)) (hx:ev e x=.int k a):PV P ⟨d,.convert s t x,ty,pos,af,none⟩ e w (.int k2 (k2.wrap a)):=fun w' _=>by
 unfold execOp;simp [hx,convert,run_underlying ht,run_underlying hs,Conv.intToInt]
theorem jO {t:TypeId} {s:ByteArray} (ht:P.underlying t=some .string) (hx:ev e x=.string s):PV P ⟨d,.call ⟨.builtin .len,#[x],#[t]⟩,ty,pos,af,none⟩ e w (.int .i64 s.size):=fun w' _=>by
 unfold execOp;simp [resolve,invoke,builtin,hx,Builtin.len_,run_underlying ht,goInt]
def imx (a b:Int):Int:=if a<b then b else a
theorem fJ {p:Addr} (hx:ev e x=.pointer (some p)):PV P ⟨d,.nilCheck x,ty,pos,af,none⟩ e w (.pointer (some p)):=fun w' _=>by
 unfold execOp;simp [hx]
theorem pA {t t2:TypeId} {a b:Int} (hx:ev e x=.int .i64 a) (hy:ev e y=.int .i64 b):PV P ⟨d,.call ⟨.builtin .max,#[x,y],#[t,t2]⟩,ty,pos,af,none⟩ e w (.int .i64 (imx a b)):=fun w' _=>by
 unfold execOp imx;simp [resolve,invoke,builtin,hx,hy,Builtin.max_,Builtin.max2]
theorem ph {t:TypeId} {s:ByteArray} {i:Int} {k:IntKind} {b:Int} (ht:P.underlying t=some .string) (hx:ev e x=.string s) (hy:ev e y=.int k i) (h:bx s i=some b):PV P ⟨d,.index t x y,ty,pos,af,none⟩ e w (.int .u8 b):=fun w' _=>by
 unfold bx at h
 split at h
 ·rename_i h0
  cases hb:s[i.toNat]? with
  | none=>simp [hb] at h
  | some c =>
   simp [hb] at h;subst h
   unfold execOp;simp [hx,hy,Instr.index,asIntOf,run_underlying ht,h0,hb]
 ·cases h
class FldT (P:Program) (t:TypeId) (k:Nat) (off:outParam Nat):Prop where
 h:∃ fs f,P.underlying t=some (.struct fs)∧fs[k]? = some f∧f.offset=off∧((P.info? f.type).map fun i=>Nat.beq i.size 0)=some false
theorem aa {t:TypeId} {k off b o:Nat} [ht:FldT P t k off] (hx:ev e x=.pointer (some ⟨b,o,none⟩)):PV P ⟨d,.fieldAddr t x k,ty,pos,af,none⟩ e w (.pointer (some ⟨b,o+off,none⟩)):=fun w' _=>by
 obtain ⟨fs,f,h1,h2,h3,h4⟩:=ht.h
 cases hi:P.info? f.type with
 | none=>simp [hi] at h4
 | some i =>
  have h5:¬ i.size=0:=by
   intro e0
   simp [hi,e0] at h4
  unfold execOp
  simp [hx,Instr.fieldAt,run_underlying h1,h2,Instr.sureAddr,fieldPlace,sizeOf,typeInfo,hi,h5,h3,Addr.add_lit]
theorem rq {w w':World} {p:Addr} {c:Value} (hE:Ext w w') (h:w.cell? p=some c):w'.cell? p=some c:=by rw [hE.cell (block_lt_of_cell h)];exact h
theorem au {w w':World} {b off:Nat} {ec:List Value} (hE:Ext w w') (h:∀ j c,ec[j]? = some c→w.cell? ⟨b,off+j,none⟩=some c):∀ j c,ec[j]? = some c→w'.cell? ⟨b,off+j,none⟩=some c :=
 fun j c hj=>rq hE (h j c hj)
theorem ab {t:TypeId} [PlainT P t] {p:Addr} {c:Value} (hx:ev e x=.pointer (some p)) (hc:w.cell? p=some c):PV P ⟨d,.load t x,ty,pos,af,none⟩ e w c:=fun w' hw'=>by
 unfold execOp
 simp only [hx,Instr.loadAt,Instr.sureAddr,Sem.run_bind,Sem.run_pure,Result.andThen_ok,od (rq hw' hc)]
theorem am {t:TypeId} {n b off:Nat} [AggT P t n] {cs:List Value} (hx:ev e x=.pointer (some ⟨b,off,none⟩)) (hn:cs.length=n) (hc:∀ j c,cs[j]? = some c→w.cell? ⟨b,off+j,none⟩=some c) :
  PV P ⟨d,.load t x,ty,pos,af,none⟩ e w (.agg cs.toArray):=fun w' hw'=>by
 unfold execOp
 simp only [hx,Instr.loadAt,Instr.sureAddr,Sem.run_bind,Sem.run_pure,Result.andThen_ok,jZ hn (au hw' hc)]
theorem aA {α:Type} {R:Rep α} {E E':TypeId} {t:TypeId} [ht:SliceT P t E'] {wA:World} {v:Value} {xs:List α} (hx:ev e x=v) (hr:(aG R E).rd wA [v] xs) :
  PV P ⟨d,.call ⟨.builtin .len,#[x],#[t]⟩,ty,pos,af,none⟩ e w (.int .i64 xs.length):=fun w' _=>by
 obtain ⟨ao,cap,rfl⟩:=rE hr
 unfold execOp;simp [resolve,invoke,builtin,hx,Builtin.len_,run_underlying ht.h,goInt]
theorem ms {α:Type} {R:Rep α} {E E':TypeId} {t:TypeId} [ht:SliceT P t E'] {zz:List Value} {n bytes:Nat} [hz:ElemT P E' zz n bytes] {wA:World} {v:Value} {xs:List α} (hs:ev e x=v) (hr:(aG R E).rd wA [v] xs)
  (hn:R.sz=n) (hpos:0<n) {k:IntKind} {i:Int} (hi:ev e y=.int k i) {u:α} (h:ix xs i=some u) :
  ∃ b off ec,R.rd wA ec u∧(∀ j c,ec[j]? = some c→wA.cell? ⟨b,off+j,none⟩=some c)∧∀ w,PV P ⟨d,.indexAddr t x y,ty,pos,af,none⟩ e w (.pointer (some ⟨b,off,none⟩)):=by
 obtain ⟨k',rfl,hk,rfl⟩:=eQ h
 obtain ⟨ao,cap,ccs,hv,h1,h2,h3,h4,h5⟩:=hr
 obtain rfl:v=.slice ao xs.length cap:=by simpa using hv
 obtain ⟨ec,hec,hcc⟩:=lv h4 k' hk
 have hz:=hz.h
 have hlen:=iz h4
 cases hq:P.info? E' with
 | none=>simp [hq] at hz
 | some inf =>
  simp [hq] at hz
  obtain ⟨b,off,rfl,hc⟩:∃ b off,ao=some ⟨b,off,none⟩∧∀ j c,ccs[j]? = some c→wA.cell? ⟨b,off+j,none⟩=some c:=by
   rcases h5 with rfl | ⟨b,off,rfl,hc⟩
   ·have:0<xs.length*R.sz:=Nat.mul_pos (by omega) (by omega)
    simp at hlen
    omega
   ·exact ⟨b,off,rfl,hc⟩
  have hsz:inf.size=R.sz:=by rw [hn];exact hz.2.1
  refine ⟨b,off+k'*R.sz,ec,hec,fun j c hj=>by rw [Nat.add_assoc];exact hc _ _ (hcc j c hj),fun w w' _=>?_⟩
  unfold execOp
  simp [hs,hi,Instr.indexAt,asIntOf,run_underlying ht.h,sizeOf,typeInfo,hq,hk,Addr.add_lit,hsz]
end

section
variable {P:Program} {n:Nat} {ops:Array Oper} {K:Env→World→Prop} {KQ:Env→Prop} {rest:List Oper} {e:Env} {w w0 wA:World} {v:Value} {d:Nat} {ty:TypeId} {pos:String} {af:Array Edge} {Γ rΓ:List Asn} {x y:Operand} {α:Type} {R:Rep α} {E E':TypeId}
theorem aS {t:TypeId} [SliceT P t E'] {zz:List Value} {m bytes:Nat} [ElemT P E' zz m bytes] {xs:List α} (hs:ev e x=v) (hr:(aG R E).rd wA [v] xs)
  (hn:R.sz=m) (hpos:0<m) {k:IntKind} {i:Int} (hi:ev e y=.int k i) {u:α} (h:ix xs i=some u) (hd:d<n)
  (hK:∀ b off ec,R.rd wA ec u→(∀ j c,ec[j]? = some c→wA.cell? ⟨b,off+j,none⟩=some c)→EL P n ops K rest (upd e d (.pointer (some ⟨b,off,none⟩))) w):EL P n ops K (⟨some d,.indexAddr t x y,ty,pos,af,none⟩ :: rest) e w:=by
 obtain ⟨b,off,ec,h1,h2,h3⟩:=ms (P:=P) (d:=some d) (ty:=ty) (pos:=pos) (af:=af) (t:=t) hs hr hn hpos hi h
 exact lh (h3 _) hd (hK b off ec h1 h2)
theorem cP {t:TypeId} [SliceT P t E'] {zz:List Value} {m bytes:Nat} [ElemT P E' zz m bytes] {xs:List α} (hs:ev e x=v) (hr:(aG R E).rd wA [v] xs)
  (hn:R.sz=m) (hpos:0<m) {k:IntKind} {i:Int} (hi:ev e y=.int k i) {u:α} (h:ix xs i=some u) (hd:d<n)
  (hK:∀ b off ec,R.rd wA ec u→(∀ j c,ec[j]? = some c→wA.cell? ⟨b,off+j,none⟩=some c)→QL P n ops w KQ rest (upd e d (.pointer (some ⟨b,off,none⟩)))):QL P n ops w KQ (⟨some d,.indexAddr t x y,ty,pos,af,none⟩ :: rest) e:=by
 obtain ⟨b,off,ec,h1,h2,h3⟩:=ms (P:=P) (d:=some d) (ty:=ty) (pos:=pos) (af:=af) (t:=t) hs hr hn hpos hi h
 exact pp (h3 _) hd (hK b off ec h1 h2)
theorem bw {t:TypeId} (cs:List Value) (hx:(ev e x).cells=cs.toArray) (hS:Sat w0 w Γ) (hd:d<n)
  (hK:∀ w' b,Sat w0 w' (Box b t cs :: Γ)→Ext w w'→EL P n ops K rest (upd e d (.pointer (some ⟨b,0,none⟩))) w'):EL P n ops K (⟨some d,.box t x,ty,pos,af,none⟩ :: rest) e w :=
 fun a ha=>xc rfl rfl cs (by rw [ha.eval];exact hx) hS fun w' b h1 h2=>hK w' b h1 h2 _ (ha.put hd _)
theorem aC {t:TypeId} {cs:List Value} {m bytes:Nat} [ElemT P t cs m bytes] (hS:Sat w0 w Γ) (hd:d<n)
  (hK:∀ w' b,Sat w0 w' (Box b t cs :: Γ)→Ext w w'→EL P n ops K rest (upd e d (.pointer (some ⟨b,0,none⟩))) w'):EL P n ops K (⟨some d,.alloc t,ty,pos,af,none⟩ :: rest) e w :=
 fun _ ha=>uM rfl rfl hS fun w' b h1 h2=>hK w' b h1 h2 _ (ha.put hd _)
theorem ah {t:TypeId} {z:List Value} {m bytes:Nat} [ElemT P t z m bytes] (hS:Sat w0 w Γ) {b j:Nat} (hx:ev e x=.pointer (some ⟨b,j,none⟩))
  {E:TypeId} {cs:List Value} [AtBox Γ b E cs rΓ] (vs:List Value) (hy:(ev e y).cells=vs.toArray) (hn:vs.length=m) (hl:j+m≤cs.length) (h1:vs.all (·.oneCell')=true)
  (hK:∀ w',Sat w0 w' (Box b E (cs.take j++vs++cs.drop (j+m)) :: rΓ)→EL P n ops K rest e w'):EL P n ops K (⟨none,.store t x y,ty,pos,af,none⟩ :: rest) e w :=
 fun _ ha=>tM rfl rfl hS (by rw [ha.eval];exact hx) vs (by rw [ha.eval];exact hy) hn hl h1 fun w' h1=>hK w' h1 _ ha
theorem vb {t:TypeId} {z:List Value} {m bytes:Nat} [ElemT P t z m bytes] (hn:R.sz=m) {ec:List Value} {yv:α} {xs ys:List α} {g ln cap:Nat}
  (hS:Sat w0 w (Own R ec yv :: Own (aG R E) [.slice (some ⟨g,0,none⟩) ln cap] xs :: Γ)) (k off:Nat) {i:Int} (hi:i=(k:Int)) (h:sto xs i yv=some ys) (hoff:off=k*m) (hx:ev e x=.pointer (some ⟨g,off,none⟩)) (hy:(ev e y).cells=ec.toArray)
  (hK:∀ w',Sat w0 w' (Own (aG R E) [.slice (some ⟨g,0,none⟩) ln cap] ys :: Γ)→EL P n ops K rest e w'):EL P n ops K (⟨none,.store t x y,ty,pos,af,none⟩ :: rest) e w:=by
 intro a ha
 subst hi
 unfold sto at h
 split at h
 ·rename_i h0
  obtain rfl:=Option.some.inj h
  simp only [Int.toNat_natCast] at h0 hK
  exact tO rfl rfl hn hS k off h0.2 hoff (by rw [ha.eval];exact hx) (by rw [ha.eval];exact hy) fun w' h1=>hK w' h1 _ ha
 ·cases h
theorem aN {t:TypeId} [SliceT P t E] {z:List Value} {m bytes:Nat} [ElemT P E z m bytes] (hn:R.sz=m) (hpos:0<m) (hzl:z.length=m) (hb0:0<bytes)
  {xs:List α} {ccs:List Value} {ys zs:List α} (hS:Sat w0 w (nt R ccs ys :: Own (aG R E) [v] xs :: Γ)) (hs:ev e x=v)
  {ao:Option Addr} {ln c:Nat} (hx:ev e y=.slice ao ln c) (hm:ln=ys.length) (hnone:ao=none→c=0) (hrow:lH w ao ccs) (h:apd bytes xs ys=some zs) (hd:d<n)
  (hK:∀ w' v',Sat w0 w' (Own (aG R E) [v'] zs :: Γ)→EL P n ops K rest (upd e d v') w'):EL P n ops K (⟨some d,.call ⟨.builtin .append,#[x,y],#[t,t]⟩,ty,pos,af,none⟩ :: rest) e w:=by
 intro a ha
 unfold apd at h
 split at h
 ·rename_i hby
  obtain rfl:=Option.some.inj h
  exact tQ rfl rfl hn hpos hzl hb0 hS (by rw [ha.eval];exact hs) (by rw [ha.eval];exact hx) hm hnone hrow hby fun v' w' h1=>hK w' v' h1 _ (ha.put hd _)
 ·cases h
theorem p5 {t:TypeId} [SliceT P t E] {z:List Value} {m bytes:Nat} [ElemT P E z m bytes] (hn:R.sz=m) (hpos:0<m) (hzl:z.length=m) {x0:α} (hx0:∀ w,R.own w z x0 []) {i:Int} {xs:List α}
  (hl:ev e x=.int .i64 i) (hc:ev e y=.int .i64 i) (h:mk bytes x0 i=some xs) (hS:Sat w0 w Γ) (hd:d<n)
  (hK:∀ w' g k,Sat w0 w' (Own (aG R E) [.slice (some ⟨g,0,none⟩) k k] xs :: Γ)→Ext w w'→xs.length=k→EL P n ops K rest (upd e d (.slice (some ⟨g,0,none⟩) k k)) w'):EL P n ops K (⟨some d,.makeSlice t x y,ty,pos,af,none⟩ :: rest) e w:=by
 intro a ha
 unfold mk at h
 split at h
 ·rename_i h0
  obtain rfl:=Option.some.inj h
  exact vU rfl rfl hn hpos hzl hx0 (by rw [ha.eval];exact hl) (by rw [ha.eval];exact hc) i.toNat (by omega) (by omega) h0.2.1 h0.2.2 hS fun w' g h1 h2=>hK w' g _ h1 h2 (by simp) _ (ha.put hd _)
 ·cases h
theorem az {t u:TypeId} [SliceT P t u] {z:List Value} {m bytes:Nat} [ElemT P u z m bytes] (cs:List Value) (hcs:(ev e x).cells=cs.toArray) (hl:cs.length=m) (hpos:0<m) (hzl:z.length=m) (hn:m≤16)
  (hS:Sat w0 w Γ) (hd:d<n) (hK:∀ w' b,Sat w0 w' (Box b u cs :: Γ)→Ext w w'→EL P n ops K rest (upd e d (.slice (some ⟨b,0,none⟩) 1 1)) w'):EL P n ops K (⟨some d,.buildSlice t 1 #[(0,x)],ty,pos,af,none⟩ :: rest) e w :=
 fun _ ha=>pJ rfl rfl (by rw [ha.eval];exact hcs) hl hpos hzl hn hS fun w' b h1 h2=>hK w' b h1 h2 _ (ha.put hd _)
theorem aV (R:Rep α) {t:TypeId} [SliceT P t E] {z:List Value} {m bytes:Nat} [ElemT P E z m bytes] (hS:Sat w0 w Γ) (hd:d<n)
  (hK:∀ w' v,Sat w0 w' (Own (aG R E) [v] [] :: Γ)→Ext w w'→EL P n ops K rest (upd e d v) w'):EL P n ops K (⟨some d,.buildSlice t 0 #[],ty,pos,af,none⟩ :: rest) e w :=
 fun _ ha=>pu R rfl rfl hS fun w' b h1 h2=>hK w' _ h1 h2 _ (ha.put hd _)
theorem rc {t:TypeId} {lo hi:Option Operand} [ht:SliceT P t E'] {z:List Value} {m bytes:Nat} [hz:ElemT P E' z m bytes] (hn:R.sz=m) {d:Option Nat}
    (hx:ev e x=v) {xs ys:List α} (hr:(aG R E).rd wA [v] xs) {l h:Int} (hlo:(lo.map (ev e)=some (.int .i64 l))∨(lo=none∧l=0)) (hhi:(hi.map (ev e)=some (.int .i64 h))∨(hi=none∧h=xs.length)) (hq:slc xs l h=some ys) :
    ∃ v',(aG R E).rd wA [v'] ys∧∀ w,PV P ⟨d,.slice t x lo hi none,ty,pos,af,none⟩ e w v':=by
  unfold slc at hq
  split at hq
  case isFalse=>cases hq
  rename_i h0
  obtain rfl:=Option.some.inj hq
  obtain ⟨l',rfl⟩:=Int.eq_ofNat_of_zero_le h0.1
  obtain ⟨h',rfl⟩:=Int.eq_ofNat_of_zero_le (Int.le_trans h0.1 h0.2.1)
  obtain ⟨_,hlh,hh⟩:=h0
  replace hlh:l'≤h':=by omega
  replace hh:h'≤xs.length:=by omega
  simp only [Int.toNat_natCast]
  obtain ⟨ao,cap,ccs,hv,h1,h2,h3,h4,h5⟩:=hr
  obtain rfl:v=.slice ao xs.length cap:=by simpa using hv
  have hz:=hz.h
  cases hq:P.info? E' with
  | none=>simp [hq] at hz
  | some inf =>
    simp [hq] at hz
    have hcap:h'≤cap:=by omega
    have hsz:inf.size=R.sz:=by rw [hn];exact hz.2.1
    have hlen:((xs.take h').drop l').length=h' - l':=by simp;omega
    have hccl:=iz h4
    have hrd:=(kJ l' (kJ h' h4).1).2
    refine ⟨.slice (if cap=l' then ao else ao.map (·.add (l'*inf.size))) (h' - l') (cap-l'),⟨_,cap-l',_,by rw [hlen],by rw [hlen];omega,by omega,?_,hrd,?_⟩,fun w w' _=>?_⟩
    · intro e
      split at e
      · omega
      · cases ao with
        | none=>have:=h3 rfl;omega
        | some _=>simp at e
    · by_cases hcl:cap=l'
      · left
        have:h'=l':=by omega
        subst this
        apply List.eq_nil_of_length_eq_zero
        simp
      · rw [if_neg hcl]
        rcases h5 with rfl | ⟨b,off,rfl,h5⟩
        · left;simp
        · right
          refine ⟨b,off+l'*R.sz,by rw [hsz];simp [Addr.add_lit],fun j c hj=>?_⟩
          rw [List.getElem?_drop,List.getElem?_take] at hj
          split at hj
          · rw [Nat.add_assoc];exact h5 _ c hj
          · cases hj
    · have hb:(Instr.sliceBounds true xs.length cap (lo.map (ev e)) (hi.map (ev e)) none).run P w'=.ok (l',h',cap) w':=by
        rcases hlo with e1 | ⟨e1,e1'⟩ <;> rcases hhi with e2 | ⟨e2,e2'⟩
        all_goals
          (try rw [e1]);(try rw [e2])
          first
            | (simp [Instr.sliceBounds,Instr.sliceBound,asIntOf,hcap,hlh];done)
            | (have:l'=0:=by omega
               subst this
               simp [Instr.sliceBounds,Instr.sliceBound,asIntOf,hcap,hlh];done)
            | (have:h'=xs.length:=by omega
               subst this
               simp [Instr.sliceBounds,Instr.sliceBound,asIntOf,hcap,hlh];done)
            | (have:l'=0:=by omega
               have:h'=xs.length:=by omega
               subst_vars
               simp [Instr.sliceBounds,Instr.sliceBound,asIntOf])
      unfold execOp
      simp only [hx,Instr.sliceAt,Sem.run_bind,run_underlying ht.h,Result.andThen_ok,Instr.slice,hb,sizeOf,typeInfo,hq,run_program,Sem.run_pure,Option.map_none]
theorem wk {t:TypeId} {lo hi:Option Operand} [SliceT P t E'] {z:List Value} {m bytes:Nat} [ElemT P E' z m bytes] (hn:R.sz=m)
  (hx:ev e x=v) {xs ys:List α} (hr:(aG R E).rd wA [v] xs) {l h:Int} (hlo:(lo.map (ev e)=some (.int .i64 l))∨(lo=none∧l=0)) (hhi:(hi.map (ev e)=some (.int .i64 h))∨(hi=none∧h=xs.length)) (hq:slc xs l h=some ys) (hd:d<n)
  (hK:∀ v',(aG R E).rd wA [v'] ys→EL P n ops K rest (upd e d v') w):EL P n ops K (⟨some d,.slice t x lo hi none,ty,pos,af,none⟩ :: rest) e w:=by
 obtain ⟨v',h1,h2⟩:=rc (P:=P) (d:=some d) (ty:=ty) (pos:=pos) (af:=af) (t:=t) hn hx hr hlo hhi hq
 exact lh (h2 _) hd (hK v' h1)
theorem vT {t:TypeId} {lo hi:Option Operand} [SliceT P t E'] {z:List Value} {m bytes:Nat} [ElemT P E' z m bytes] (hn:R.sz=m)
  (hx:ev e x=v) {xs ys:List α} (hr:(aG R E).rd wA [v] xs) {l h:Int} (hlo:(lo.map (ev e)=some (.int .i64 l))∨(lo=none∧l=0)) (hhi:(hi.map (ev e)=some (.int .i64 h))∨(hi=none∧h=xs.length)) (hq:slc xs l h=some ys) (hd:d<n)
  (hK:∀ v',(aG R E).rd wA [v'] ys→QL P n ops w KQ rest (upd e d v')):QL P n ops w KQ (⟨some d,.slice t x lo hi none,ty,pos,af,none⟩ :: rest) e:=by
 obtain ⟨v',h1,h2⟩:=rc (P:=P) (d:=some d) (ty:=ty) (pos:=pos) (af:=af) (t:=t) hn hx hr hlo hhi hq
 exact pp (h2 _) hd (hK v' h1)
end
section
variable {P:Program} {fn:Func} {n:Nat} {e:Env} {w:World} {R:Ending→World→Prop}
theorem aJ {t:Tmp} (h:fn.results=#[.tmp t]) {v:Value} (ht:e t=v) (hR:R (.returned v) w):Fin P fn n R .ret e w :=
 ⟨v,fun a ha=>by rw [results_tmp h,ha.get,ht],hR⟩
theorem zL (h:Fin P fn n R .ret e w):Fin P fn n R .normal e w:=h
theorem cG {t u:Tmp} (h:fn.results=#[.tmp t,.tmp u]) {v v2:Value} (ht:e t=v) (hu:e u=v2) (hR:R (.returned (.tuple #[v,v2])) w):Fin P fn n R .ret e w :=
 ⟨_,fun a ha=>by rw [results_tmp2 h,ha.get,ha.get,ht,hu],hR⟩
theorem kU {p:Tmp} {ty:TypeId} {m:Nat} [AggT P ty m] (h:fn.results=#[.cell p ty]) {b off:Nat} {cs:List Value} (hp:e p=.pointer (some ⟨b,off,none⟩)) (hm:cs.length=m) (hc:∀ j c,cs[j]? = some c→w.cell? ⟨b,off+j,none⟩=some c) (hR:R (.returned (.agg cs.toArray)) w) :
  Fin P fn n R .ret e w:=by
 refine ⟨_,fun a ha=>?_,hR⟩
 have h1:a.tmps.getD p undef=.pointer (some ⟨b,off,none⟩):=by rw [ha.get,hp]
 have h1':a.tmps[p]?.getD undef=.pointer (some ⟨b,off,none⟩):=by simpa using h1
 simp [results,h,h1',asAddr,jZ (P:=P) (t:=ty) hm hc]
theorem bc {p t:Tmp} {ty:TypeId} {m:Nat} [AggT P ty m] (h:fn.results=#[.cell p ty,.tmp t]) {b off:Nat} {cs:List Value} {v2:Value} (hp:e p=.pointer (some ⟨b,off,none⟩)) (hm:cs.length=m) (hc:∀ j c,cs[j]? = some c→w.cell? ⟨b,off+j,none⟩=some c) (ht:e t=v2) (hR:R (.returned (.tuple #[.agg cs.toArray,v2])) w) :
  Fin P fn n R .ret e w:=by
 refine ⟨_,fun a ha=>?_,hR⟩
 have h1:a.tmps.getD p undef=.pointer (some ⟨b,off,none⟩):=by rw [ha.get,hp]
 have h1':a.tmps[p]?.getD undef=.pointer (some ⟨b,off,none⟩):=by simpa using h1
 have h2:a.tmps.getD t undef=v2:=by rw [ha.get,ht]
 have h2':a.tmps[t]?.getD undef=v2:=by simpa using h2
 simp [results,h,h1',h2',asAddr,jZ (P:=P) (t:=ty) hm hc]
end
def lO:Rep Bool where
 sz:=1
 rd _ cs b:=cs=[.bool b]
 own _ cs b fp:=cs=[.bool b]∧fp=[]
 rd_len h:=by subst h;rfl
 rd_one h:=by subst h;simp [Value.oneCell']
 rd_ext h _:=h
 own_rd h:=h.1
 own_ext h _:=h
 own_lt h:=by rw [h.2];simp
def u8R:Rep Int where
 sz:=1
 rd _ cs n:=cs=[.int .u8 n]
 own _ cs n fp:=cs=[.int .u8 n]∧fp=[]
 rd_len h:=by subst h;rfl
 rd_one h:=by subst h;simp [Value.oneCell']
 rd_ext h _:=h
 own_rd h:=h.1
 own_ext h _:=h
 own_lt h:=by rw [h.2];simp

def lpS {R V S:Type} (s:Sum R V) (f:R→Option S) (g:V→Option S):Option S:=match s with | .inl r=>f r | .inr v=>g v
def lpB {V S:Type} (s:V) (g:V→Option S):Option S:=g s
theorem exA {R V S:Type} {s:Sum R V} {v:V} {f:R→Option S} {g:V→Option S} {r:S} (h:some (Sum.inr v)=some s) (hK:lpS s f g=some r):g v=some r:=by cases h;exact hK
theorem exL {R V S:Type} {s:Sum R V} {q:R} {f:R→Option S} {g:V→Option S} {r:S} (h:some (Sum.inl q)=some s) (hK:lpS s f g=some r):f q=some r:=by cases h;exact hK
theorem exB {V S:Type} {s v:V} {g:V→Option S} {r:S} (h:some v=some s) (hK:lpB s g=some r):g v=some r:=by cases h;exact hK
theorem ai {α β:Type} {f:α→β} {a:α} {b:β} {l:List α} {m:List β} (h:f a=b) (t:l.map f=m):(a :: l).map f=b :: m:=by rw [List.map_cons,h,t]
theorem aj {x:Bool} (h:x=true):(!x)=false:=by rw [h];rfl
theorem ak {x:Bool} (h:x=false):(!x)=true:=by rw [h];rfl

theorem fQ {P:Program} {n:Nat} {ops:Array Oper} {K:Env→World→Prop} {rest:List Oper} {e:Env} {w:World} {op:Op} {ty:TypeId} {pos:String} {af:Array Edge} {j:Nat} {b':Bool} {d:Nat} (h:(match (ops[j]?).bind (·.dst) with | some t=>e t | none=>undef)=undef) (hd:d<n) (hK:EL P n ops K rest (upd e d undef) w):EL P n ops K (⟨some d,op,ty,pos,af,some (j,b')⟩ :: rest) e w:=by
 intro a ha
 have hy:yielded ops a.tmps j=none:=rX ha h
 unfold wpList
 rw [if_neg (by simp [Region.wanted,hy])]
 exact hK _ (ha.put hd _)
theorem oc {w:World} {α:Type} {R:Rep α} {E:TypeId} {v:Value} {xs:List α} (h:(aG R E).rd w [v] xs):v.oneCell'=true:=(aG R E).rd_one h v (List.mem_singleton.2 rfl)
theorem aY {e:Env} {x:Operand} {v:Value} (h:ev e x=v) (h1:v.oneCell'=true):(ev e x).cells=[v].toArray:=by rw [h];exact uF h1
theorem all_cons {α:Type} {p:α→Bool} {a:α} {l:List α} (h:p a=true) (t:l.all p=true):(a :: l).all p=true:=by simp [h,t]
section
variable {w w0 wA:World} {Γ rest:List Asn} {α:Type} {R:Rep α} {E:TypeId} {v:Value} {xs:List α}
theorem Sat.top (i:Nat) {A:Asn} (h:Sat w0 w Γ) (hi:Γ[i]? = some A):Sat w0 w (A :: Γ.eraseIdx i):=by
 refine h.perm ?_
 clear h
 induction Γ generalizing i with
 | nil=>simp at hi
 | cons B Γ ih =>
  cases i with
  | zero=>simp at hi;subst hi;exact .refl _
  | succ i =>
   simp at hi
   exact (List.Perm.cons B (ih i hi)).trans (.swap _ _ _)
theorem Sat.rem (i:Nat) {A:Asn} (h:Sat w0 w Γ) (hi:Γ[i]? = some A):Sat w0 w (Γ.eraseIdx i):=(h.top i hi).tail
theorem Sat.rdAt (i:Nat) {cs:List Value} {x:α} {R:Rep α} (h:Sat w0 w Γ) (hi:Γ[i]? = some (Own R cs x)):R.rd w cs x:=(h.top i hi).rd
theorem Sat.nil (R:Rep α) (E:TypeId) (h:Sat w0 w Γ):Sat w0 w (Own (aG R E) [.slice none 0 0] [] :: Γ):=h.add (.inl ⟨rfl,rfl,rfl⟩)
theorem Sat.bool (h:Sat w0 w Γ) (b:Bool):Sat w0 w (Own lO [.bool b] b :: Γ):=h.add ⟨rfl,rfl⟩
theorem Sat.u8 (h:Sat w0 w Γ) (n:Int):Sat w0 w (Own u8R [.int .u8 n] n :: Γ):=h.add ⟨rfl,rfl⟩
theorem aQ {cs:List Value} (h:(aG R E).rd w cs xs):∃ v,cs=[v]:=List.length_eq_one_iff.1 ((aG R E).rd_len h)
theorem fH {cs:List Value} {x:α} (h:R.rd w0 cs x) (hx:Ext w0 w):R.rd w cs x:=R.rd_ext h hx
theorem Sat.up {cs:List Value} {x:α} (hS:Sat w0 w Γ) (h:R.rd w0 cs x):R.rd w cs x:=R.rd_ext h hS.below
theorem Sat.boxAt (i:Nat) {b:Nat} {cs:List Value} (h:Sat w0 w Γ) (hi:Γ[i]? = some (Box b E cs)):∀ j c,cs[j]? = some c→w.cell? ⟨b,j,none⟩=some c:=by
 have h2:=h.top i hi
 exact h2.boxCell
theorem aq {b:Nat} {cs:List Value} (h:∀ j c,cs[j]? = some c→w.cell? ⟨b,j,none⟩=some c):∀ j c,cs[j]? = some c→w.cell? ⟨b,0+j,none⟩=some c:=by
 intro j c hj;rw [Nat.zero_add];exact h j c hj
theorem Sat.boxRow (i:Nat) {b:Nat} {cs:List Value} (h:Sat w0 w Γ) (hi:Γ[i]? = some (Box b E cs)):lH w (some ⟨b,0,none⟩) cs :=
 .inr ⟨b,0,rfl,aq (h.boxAt i hi)⟩
theorem Sat.lit1 {b:Nat} {cs:List Value} {y:α} (h:Sat w0 w (Box b E cs :: Own R cs y :: Γ)):Sat w0 w (Own (aG R E) [.slice (some ⟨b,0,none⟩) 1 1] [y] :: Γ):=by
 refine h.join ?_
 rintro f g ⟨rfl,h1⟩ h2
 have hl:=R.rd_len (R.own_rd h2)
 refine .inr ⟨b,1,cs.toArray,cs,g,rfl,h1,by simp,by unfold maxLen;omega,by simp [hl],by simp [← hl],⟨cs,[],g,[],by simp,by simp,h2,rfl,rfl⟩,by simp⟩
theorem wo {ccs:List Value} {ys:List Int} (h:rdL bW w ccs ys):ccs=ys.map (Value.int .i64):=by
 induction ys generalizing ccs with
 | nil=>simpa [rdL] using h
 | cons y ys ih =>
  obtain ⟨ec,r,rfl,h1,h2⟩:=h
  obtain rfl:=ih h2
  have:ec=[.int .i64 y]:=h1
  rw [this];rfl
theorem oT {v:Value} {ys:List Int} (h:(aG bW E).rd w [v] ys):∃ ao c,v=.slice ao ys.length c∧(ao=none→c=0)∧lH w ao (ys.map (Value.int .i64)):=by
 obtain ⟨ao,cap,ccs,hv,h1,h2,h3,h4,h5⟩:=h
 obtain rfl:=wo h4
 exact ⟨ao,cap,by simpa using hv,h3,h5⟩
end
section
variable {P:Program} {n:Nat} {ops:Array Oper} {K:Env→World→Prop} {rest:List Oper} {e:Env} {w w0 wA:World} {v:Value} {d:Nat} {ty:TypeId} {pos:String} {af:Array Edge} {Γ rΓ:List Asn} {x y:Operand} {α:Type} {R:Rep α} {E E':TypeId}
theorem fB {t:TypeId} [ht:SliceT P t E] {zz:List Value} {m bytes:Nat} [hz:ElemT P E zz m bytes] {xs:List α} (hS:Sat w0 w (Own (aG R E) [v] xs :: Γ)) (hs:ev e x=v)
  (hn:R.sz=m) (hpos:0<m) {k:IntKind} {i:Int} (hi:ev e y=.int k i) {u:α} (h:ix xs i=some u) (hd:d<n)
  (hK:∀ g cap ec,v=.slice (some ⟨g,0,none⟩) xs.length cap→R.rd w ec u→(∀ j c,ec[j]? = some c→w.cell? ⟨g,i.toNat*m+j,none⟩=some c)→EL P n ops K rest (upd e d (.pointer (some ⟨g,i.toNat*m,none⟩))) w) :
  EL P n ops K (⟨some d,.indexAddr t x y,ty,pos,af,none⟩ :: rest) e w:=by
 obtain ⟨k',rfl,hk,rfl⟩:=eQ h
 obtain ⟨fp,hv,_⟩:=hS.head
 rcases hv with ⟨_,h2,_⟩ | ⟨g,cap,cur,ccs,f2,hv,hg,h1,h2,h3,h4,h5,rfl⟩
 ·subst h2;simp at hk
 obtain rfl:v=.slice (some ⟨g,0,none⟩) xs.length cap:=by simpa using hv
 obtain ⟨ec,hec,hcc⟩:=lv (gB h5) k' hk
 have hz:=hz.h
 cases hq:P.info? E with
 | none=>simp [hq] at hz
 | some inf =>
  simp [hq] at hz
  have hsz:inf.size=m:=hz.2.1
  refine lh (v:=.pointer (some ⟨g,k'*m,none⟩)) ?_ hd ?_
  ·intro w' _
   unfold execOp
   simp [hs,hi,Instr.indexAt,asIntOf,run_underlying ht.h,sizeOf,typeInfo,hq,hk,Addr.add_lit,hsz]
  ·refine hK g cap ec rfl hec ?_
   intro j c hj
   have h0:=hcc j c hj
   simp only [Int.toNat_natCast]
   rw [cell_of_row w g _ cur E (0,0) hg,← Array.getElem?_toList]
   rw [← h4,List.getElem?_take] at h0
   rw [← hn]
   split at h0
   ·exact h0
   ·cases h0
theorem gj {t:TypeId} {z:List Value} {m bytes:Nat} [ElemT P t z m bytes] (hn:R.sz=m) {ec:List Value} {yv:α} {xs ys:List α} {g ln cap:Nat} (hv:v=.slice (some ⟨g,0,none⟩) ln cap)
  (hS:Sat w0 w (Own R ec yv :: Own (aG R E) [v] xs :: Γ)) {i:Int} (h:sto xs i yv=some ys) (hx:ev e x=.pointer (some ⟨g,i.toNat*m,none⟩)) (hy:(ev e y).cells=ec.toArray)
  (hK:∀ w',Sat w0 w' (Own (aG R E) [v] ys :: Γ)→EL P n ops K rest e w'):EL P n ops K (⟨none,.store t x y,ty,pos,af,none⟩ :: rest) e w:=by
 subst hv
 have h0:0≤i:=by
  unfold sto at h;split at h
  ·rename_i h1;exact h1.1
  ·cases h
 exact vb hn hS i.toNat (i.toNat*m) (by omega) h rfl hx hy hK
end
class BldT (P:Program) (t:TypeId) (pl:outParam (Array (Nat × Nat))):Prop where
 h:∃ fs,P.underlying t=some (.struct fs)∧∀ w,(fs.mapM (fun f=>do pure (f.offset,← sizeOf f.type)):Sem (Array (Nat × Nat))).run P w=.ok pl w
def mu (place:Nat→Option (Nat × Nat)) (cells:List Value):List (Nat × List Value)→Option (List Value)
  | []=>some cells
  | (i,v) :: rest=>match place i with
    | none=>none
    | some (off,size)=>bif Nat.beq v.length size&&Nat.ble (off+v.length) cells.length then mu place (cells.take off++v++cells.drop (off+v.length)) rest else none
theorem qq:∀ (v:List Value) (off k:Nat) (cells:List Value),off+k+v.length≤cells.length →
  ((v.zipIdx k).foldl (fun (cs:Array Value) (c:Value × Nat)=>cs.setIfInBounds (off+c.2) c.1) cells.toArray)=(cells.take (off+k)++v++cells.drop (off+k+v.length)).toArray
 | [],off,k,cells,h=>by simp
 | x :: v,off,k,cells,h=>by
  simp only [List.length_cons] at h
  have hi:off+k<cells.length:=by omega
  simp only [List.zipIdx_cons,List.foldl_cons,List.setIfInBounds_toArray]
  rw [qq v off (k+1) (cells.set (off+k) x) (by simp;omega)]
  have e1:(cells.set (off+k) x).take (off+(k+1))=cells.take (off+k)++[x]:=by
   rw [show off+(k+1)=(off+k)+1 by omega,List.take_set,List.take_succ_eq_append_getElem hi,List.set_append_right _ _ (by simp;omega)]
   simp [show min (off+k) cells.length=off+k by omega]
  have e2:(cells.set (off+k) x).drop (off+(k+1)+v.length)=cells.drop (off+k+(x :: v).length):=by
   rw [List.drop_set_of_lt (by omega)]
   congr 1
   simp only [List.length_cons];omega
  rw [e1,e2];simp
theorem pX (place:Nat→Option (Nat × Nat)):∀ (ps:List (Nat × Value)) (qs:List (Nat × List Value)) (cells:List Value) {r:List Value},ps.map (fun p=>(p.1,p.2.cells))=qs.map (fun q=>(q.1,q.2.toArray))→mu place cells qs=some r→Instr.fill place cells.toArray ps=some r.toArray
  | [],[],cells,r,_,h=>by simp only [mu,Option.some.injEq] at h;subst h;rfl
  | [],_ :: _,_,_,h,_=>by simp at h
  | _ :: _,[],_,_,h,_=>by simp at h
  | (i,v) :: ps,(j,c) :: qs,cells,r,h,hf=>by
    simp only [List.map_cons,List.cons.injEq,Prod.mk.injEq] at h
    obtain ⟨⟨rfl,hc⟩,ht⟩:=h
    unfold mu at hf
    unfold Instr.fill
    cases hp:place i with
    | none=>simp [hp] at hf
    | some os =>
      obtain ⟨off,size⟩:=os
      simp only [hp] at hf ⊢
      cases hb:(Nat.beq c.length size&&Nat.ble (off+c.length) cells.length) with
      | false=>rw [hb] at hf;cases hf
      | true =>
        rw [hb] at hf
        simp only [Bool.and_eq_true] at hb
        have h1:=Nat.eq_of_beq_eq_true hb.1
        have h2:=Nat.le_of_ble_eq_true hb.2
        rw [hc]
        have hn:(decide (c.toArray.size≠size)||decide (off+c.toArray.size > cells.toArray.size))=false:=by simp;omega
        rw [if_neg (by simp only [hn];simp)]
        have:=qq c off 0 cells (by omega)
        simp only [Nat.add_zero] at this
        have e:c.toArray.zipIdx.foldl (fun cs (c,j)=>cs.setIfInBounds (off+j) c) cells.toArray=(cells.take off++c++cells.drop (off+c.length)).toArray:=by
          rw [← this]
          simp
        rw [e]
        exact pX place ps qs _ ht hf
theorem aL {P:Program} {e:Env} {w:World} {d:Option Nat} {ty:TypeId} {pos:String} {af:Array Edge} {t:TypeId} {z:List Value} {n bytes:Nat} {pl:Array (Nat × Nat)} [hz:ElemT P t z n bytes] [hb:BldT P t pl] {parts:Array (Nat × Operand)} (qs:List (Nat × List Value)) (r:List Value)
  (hp:parts.toList.map (fun p=>(p.1,(ev e p.2).cells))=qs.map (fun q=>(q.1,q.2.toArray))) (hf:mu (pl[·]?) z qs=some r):PV P ⟨d,.build t parts,ty,pos,af,none⟩ e w (.agg r.toArray):=fun w' _=>by
 have hz:=hz.h
 obtain ⟨fs,h1,h2⟩:=hb.h
 cases hi:P.info? t with
 | none=>simp [hi] at hz
 | some i =>
 cases hzz:i.zero with
 | none=>simp [hi,hzz] at hz
 | some zv =>
 simp [hi,hzz] at hz
 have hzc:zv.cells=z.toArray:=by rw [← hz.1]
 have hff:=pX (pl[·]?) (parts.toList.map fun p=>(p.1,ev e p.2)) qs z (by rw [List.map_map];exact hp) hf
 unfold execOp
 simp only [Instr.build,zeroValue,typeInfo,hi,hzz,Sem.run_bind,Sem.run_pure,run_program,Result.andThen_ok,run_underlying h1,h2,hzc,Array.toList_map]
 rw [hff]
 simp
theorem cg {e:Env} {i:Nat} {x:Operand} {c:List Value} {l:List (Nat × Operand)} {m:List (Nat × List Value)} (h:(ev e x).cells=c.toArray) (t:l.map (fun p=>(p.1,(ev e p.2).cells))=m.map (fun q=>(q.1,q.2.toArray))) :
  ((i,x) :: l).map (fun p=>(p.1,(ev e p.2).cells))=((i,c) :: m).map (fun q=>(q.1,q.2.toArray)):=by
 rw [List.map_cons,List.map_cons,t,h]
-- func()
instance:PlainT Tryz.prog 1:=⟨_,Tryz.underlying1,trivial⟩
instance:ElemT Tryz.prog 1 [.nilFunc] 1 8:=⟨by kernel_rfl⟩
-- int64
instance:PlainT Tryz.prog 2:=⟨_,Tryz.underlying2,trivial⟩
instance:ElemT Tryz.prog 2 [.int .i64 0] 1 8:=⟨by kernel_rfl⟩
-- int
instance:PlainT Tryz.prog 3:=⟨_,Tryz.underlying3,trivial⟩
instance:ElemT Tryz.prog 3 [.int .i64 0] 1 8:=⟨by kernel_rfl⟩
-- bool
instance:PlainT Tryz.prog 4:=⟨_,Tryz.underlying4,trivial⟩
instance:ElemT Tryz.prog 4 [.bool false] 1 1:=⟨by kernel_rfl⟩
-- uint8
instance:PlainT Tryz.prog 5:=⟨_,Tryz.underlying5,trivial⟩
instance:ElemT Tryz.prog 5 [.int .u8 0] 1 1:=⟨by kernel_rfl⟩
-- string
instance:PlainT Tryz.prog 9:=⟨_,Tryz.underlying9,trivial⟩
instance:ElemT Tryz.prog 9 [.string ByteArray.empty] 1 16:=⟨by kernel_rfl⟩
-- uintptr
instance:PlainT Tryz.prog 12:=⟨_,Tryz.underlying12,trivial⟩
instance:ElemT Tryz.prog 12 [.int .u64 0] 1 8:=⟨by kernel_rfl⟩
-- int32
instance:PlainT Tryz.prog 21:=⟨_,Tryz.underlying21,trivial⟩
instance:ElemT Tryz.prog 21 [.int .i32 0] 1 4:=⟨by kernel_rfl⟩
-- []laws.Atom
instance:PlainT Tryz.prog 22:=⟨_,Tryz.underlying22,trivial⟩
instance:SliceT Tryz.prog 22 114:=⟨Tryz.underlying22⟩
instance:ElemT Tryz.prog 22 [.slice none 0 0] 1 24:=⟨by kernel_rfl⟩
-- []int
instance:PlainT Tryz.prog 23:=⟨_,Tryz.underlying23,trivial⟩
instance:SliceT Tryz.prog 23 3:=⟨Tryz.underlying23⟩
instance:ElemT Tryz.prog 23 [.slice none 0 0] 1 24:=⟨by kernel_rfl⟩
-- struct { VariableCount int;Atoms []laws.Atom;Output []int }
instance:AggT Tryz.prog 24 3:=⟨⟨_,Tryz.underlying24,trivial⟩,by kernel_rfl⟩
instance:FldT Tryz.prog 24 0 0:=⟨_,_,Tryz.underlying24,rfl,rfl,by kernel_rfl⟩
instance:FldT Tryz.prog 24 1 1:=⟨_,_,Tryz.underlying24,rfl,rfl,by kernel_rfl⟩
instance:FldT Tryz.prog 24 2 2:=⟨_,_,Tryz.underlying24,rfl,rfl,by kernel_rfl⟩
instance:BldT Tryz.prog 24 #[(0,1),(1,1),(2,1)]:=⟨_,Tryz.underlying24,fun w=>by kernel_rfl⟩
instance:ElemT Tryz.prog 24 [.int .i64 0,.slice none 0 0,.slice none 0 0] 3 56:=⟨by kernel_rfl⟩
-- laws.Query
instance:AggT Tryz.prog 25 3:=⟨⟨_,Tryz.underlying25,trivial⟩,by kernel_rfl⟩
instance:FldT Tryz.prog 25 0 0:=⟨_,_,Tryz.underlying25,rfl,rfl,by kernel_rfl⟩
instance:FldT Tryz.prog 25 1 1:=⟨_,_,Tryz.underlying25,rfl,rfl,by kernel_rfl⟩
instance:FldT Tryz.prog 25 2 2:=⟨_,_,Tryz.underlying25,rfl,rfl,by kernel_rfl⟩
instance:BldT Tryz.prog 25 #[(0,1),(1,1),(2,1)]:=⟨_,Tryz.underlying25,fun w=>by kernel_rfl⟩
instance:ElemT Tryz.prog 25 [.int .i64 0,.slice none 0 0,.slice none 0 0] 3 56:=⟨by kernel_rfl⟩
-- func(laws.Query,int) int
instance:PlainT Tryz.prog 26:=⟨_,Tryz.underlying26,trivial⟩
instance:ElemT Tryz.prog 26 [.nilFunc] 1 8:=⟨by kernel_rfl⟩
-- []impl.Rational
instance:PlainT Tryz.prog 27:=⟨_,Tryz.underlying27,trivial⟩
instance:SliceT Tryz.prog 27 68:=⟨Tryz.underlying27⟩
instance:ElemT Tryz.prog 27 [.slice none 0 0] 1 24:=⟨by kernel_rfl⟩
-- func(impl.Query,[]int) ([]impl.Rational,bool)
instance:PlainT Tryz.prog 29:=⟨_,Tryz.underlying29,trivial⟩
instance:ElemT Tryz.prog 29 [.nilFunc] 1 8:=⟨by kernel_rfl⟩
-- []impl.Atom
instance:PlainT Tryz.prog 30:=⟨_,Tryz.underlying30,trivial⟩
instance:SliceT Tryz.prog 30 88:=⟨Tryz.underlying30⟩
instance:ElemT Tryz.prog 30 [.slice none 0 0] 1 24:=⟨by kernel_rfl⟩
-- struct { VariableCount int;Atoms []impl.Atom;Output []int }
instance:AggT Tryz.prog 31 3:=⟨⟨_,Tryz.underlying31,trivial⟩,by kernel_rfl⟩
instance:FldT Tryz.prog 31 0 0:=⟨_,_,Tryz.underlying31,rfl,rfl,by kernel_rfl⟩
instance:FldT Tryz.prog 31 1 1:=⟨_,_,Tryz.underlying31,rfl,rfl,by kernel_rfl⟩
instance:FldT Tryz.prog 31 2 2:=⟨_,_,Tryz.underlying31,rfl,rfl,by kernel_rfl⟩
instance:BldT Tryz.prog 31 #[(0,1),(1,1),(2,1)]:=⟨_,Tryz.underlying31,fun w=>by kernel_rfl⟩
instance:ElemT Tryz.prog 31 [.int .i64 0,.slice none 0 0,.slice none 0 0] 3 56:=⟨by kernel_rfl⟩
-- impl.Query
instance:AggT Tryz.prog 32 3:=⟨⟨_,Tryz.underlying32,trivial⟩,by kernel_rfl⟩
instance:FldT Tryz.prog 32 0 0:=⟨_,_,Tryz.underlying32,rfl,rfl,by kernel_rfl⟩
instance:FldT Tryz.prog 32 1 1:=⟨_,_,Tryz.underlying32,rfl,rfl,by kernel_rfl⟩
instance:FldT Tryz.prog 32 2 2:=⟨_,_,Tryz.underlying32,rfl,rfl,by kernel_rfl⟩
instance:BldT Tryz.prog 32 #[(0,1),(1,1),(2,1)]:=⟨_,Tryz.underlying32,fun w=>by kernel_rfl⟩
instance:ElemT Tryz.prog 32 [.int .i64 0,.slice none 0 0,.slice none 0 0] 3 56:=⟨by kernel_rfl⟩
-- func(laws.Query) impl.Query
instance:PlainT Tryz.prog 33:=⟨_,Tryz.underlying33,trivial⟩
instance:ElemT Tryz.prog 33 [.nilFunc] 1 8:=⟨by kernel_rfl⟩
-- func([]int) []int
instance:PlainT Tryz.prog 34:=⟨_,Tryz.underlying34,trivial⟩
instance:ElemT Tryz.prog 34 [.nilFunc] 1 8:=⟨by kernel_rfl⟩
-- func([]impl.Rational,[]impl.Rational) bool
instance:PlainT Tryz.prog 35:=⟨_,Tryz.underlying35,trivial⟩
instance:ElemT Tryz.prog 35 [.nilFunc] 1 8:=⟨by kernel_rfl⟩
-- func(impl.Query,impl.Query) bool
instance:PlainT Tryz.prog 36:=⟨_,Tryz.underlying36,trivial⟩
instance:ElemT Tryz.prog 36 [.nilFunc] 1 8:=⟨by kernel_rfl⟩
-- func([]int,[]int) bool
instance:PlainT Tryz.prog 37:=⟨_,Tryz.underlying37,trivial⟩
instance:ElemT Tryz.prog 37 [.nilFunc] 1 8:=⟨by kernel_rfl⟩
-- func(impl.Query,int) int
instance:PlainT Tryz.prog 38:=⟨_,Tryz.underlying38,trivial⟩
instance:ElemT Tryz.prog 38 [.nilFunc] 1 8:=⟨by kernel_rfl⟩
-- func([]int,int) int
instance:PlainT Tryz.prog 39:=⟨_,Tryz.underlying39,trivial⟩
instance:ElemT Tryz.prog 39 [.nilFunc] 1 8:=⟨by kernel_rfl⟩
-- func([]impl.Rational,int) int
instance:PlainT Tryz.prog 40:=⟨_,Tryz.underlying40,trivial⟩
instance:ElemT Tryz.prog 40 [.nilFunc] 1 8:=⟨by kernel_rfl⟩
-- func(laws.Query,[]int) bool
instance:PlainT Tryz.prog 41:=⟨_,Tryz.underlying41,trivial⟩
instance:ElemT Tryz.prog 41 [.nilFunc] 1 8:=⟨by kernel_rfl⟩
-- []uint8
instance:PlainT Tryz.prog 42:=⟨_,Tryz.underlying42,trivial⟩
instance:SliceT Tryz.prog 42 5:=⟨Tryz.underlying42⟩
instance:ElemT Tryz.prog 42 [.slice none 0 0] 1 24:=⟨by kernel_rfl⟩
-- func([]uint8) bool
instance:PlainT Tryz.prog 43:=⟨_,Tryz.underlying43,trivial⟩
instance:ElemT Tryz.prog 43 [.nilFunc] 1 8:=⟨by kernel_rfl⟩
-- func([]uint8) (impl.Query,[]int)
instance:PlainT Tryz.prog 45:=⟨_,Tryz.underlying45,trivial⟩
instance:ElemT Tryz.prog 45 [.nilFunc] 1 8:=⟨by kernel_rfl⟩
-- [][]impl.Rational
instance:PlainT Tryz.prog 46:=⟨_,Tryz.underlying46,trivial⟩
instance:SliceT Tryz.prog 46 27:=⟨Tryz.underlying46⟩
instance:ElemT Tryz.prog 46 [.slice none 0 0] 1 24:=⟨by kernel_rfl⟩
-- struct { A [][]impl.Rational;B []impl.Rational;C []impl.Rational }
instance:AggT Tryz.prog 47 3:=⟨⟨_,Tryz.underlying47,trivial⟩,by kernel_rfl⟩
instance:FldT Tryz.prog 47 0 0:=⟨_,_,Tryz.underlying47,rfl,rfl,by kernel_rfl⟩
instance:FldT Tryz.prog 47 1 1:=⟨_,_,Tryz.underlying47,rfl,rfl,by kernel_rfl⟩
instance:FldT Tryz.prog 47 2 2:=⟨_,_,Tryz.underlying47,rfl,rfl,by kernel_rfl⟩
instance:BldT Tryz.prog 47 #[(0,1),(1,1),(2,1)]:=⟨_,Tryz.underlying47,fun w=>by kernel_rfl⟩
instance:ElemT Tryz.prog 47 [.slice none 0 0,.slice none 0 0,.slice none 0 0] 3 72:=⟨by kernel_rfl⟩
-- impl.LinearProgram
instance:AggT Tryz.prog 48 3:=⟨⟨_,Tryz.underlying48,trivial⟩,by kernel_rfl⟩
instance:FldT Tryz.prog 48 0 0:=⟨_,_,Tryz.underlying48,rfl,rfl,by kernel_rfl⟩
instance:FldT Tryz.prog 48 1 1:=⟨_,_,Tryz.underlying48,rfl,rfl,by kernel_rfl⟩
instance:FldT Tryz.prog 48 2 2:=⟨_,_,Tryz.underlying48,rfl,rfl,by kernel_rfl⟩
instance:BldT Tryz.prog 48 #[(0,1),(1,1),(2,1)]:=⟨_,Tryz.underlying48,fun w=>by kernel_rfl⟩
instance:ElemT Tryz.prog 48 [.slice none 0 0,.slice none 0 0,.slice none 0 0] 3 72:=⟨by kernel_rfl⟩
-- func(impl.Query) (impl.LinearProgram,bool)
instance:PlainT Tryz.prog 50:=⟨_,Tryz.underlying50,trivial⟩
instance:ElemT Tryz.prog 50 [.nilFunc] 1 8:=⟨by kernel_rfl⟩
-- func(impl.LinearProgram) [][]impl.Rational
instance:PlainT Tryz.prog 51:=⟨_,Tryz.underlying51,trivial⟩
instance:ElemT Tryz.prog 51 [.nilFunc] 1 8:=⟨by kernel_rfl⟩
-- func([]int,[]impl.Rational,[]impl.Rational) (int,bool)
instance:PlainT Tryz.prog 53:=⟨_,Tryz.underlying53,trivial⟩
instance:ElemT Tryz.prog 53 [.nilFunc] 1 8:=⟨by kernel_rfl⟩
-- func(impl.Query,[]impl.Rational) bool
instance:PlainT Tryz.prog 54:=⟨_,Tryz.underlying54,trivial⟩
instance:ElemT Tryz.prog 54 [.nilFunc] 1 8:=⟨by kernel_rfl⟩
-- []impl.Table
instance:PlainT Tryz.prog 55:=⟨_,Tryz.underlying55,trivial⟩
instance:SliceT Tryz.prog 55 144:=⟨Tryz.underlying55⟩
instance:ElemT Tryz.prog 55 [.slice none 0 0] 1 24:=⟨by kernel_rfl⟩
-- struct { Tables []impl.Table }
instance:AggT Tryz.prog 56 1:=⟨⟨_,Tryz.underlying56,trivial⟩,by kernel_rfl⟩
instance:FldT Tryz.prog 56 0 0:=⟨_,_,Tryz.underlying56,rfl,rfl,by kernel_rfl⟩
instance:BldT Tryz.prog 56 #[(0,1)]:=⟨_,Tryz.underlying56,fun w=>by kernel_rfl⟩
instance:ElemT Tryz.prog 56 [.slice none 0 0] 1 24:=⟨by kernel_rfl⟩
-- impl.Database
instance:AggT Tryz.prog 57 1:=⟨⟨_,Tryz.underlying57,trivial⟩,by kernel_rfl⟩
instance:FldT Tryz.prog 57 0 0:=⟨_,_,Tryz.underlying57,rfl,rfl,by kernel_rfl⟩
instance:BldT Tryz.prog 57 #[(0,1)]:=⟨_,Tryz.underlying57,fun w=>by kernel_rfl⟩
instance:ElemT Tryz.prog 57 [.slice none 0 0] 1 24:=⟨by kernel_rfl⟩
-- func([]uint8) (impl.Database,impl.Query)
instance:PlainT Tryz.prog 59:=⟨_,Tryz.underlying59,trivial⟩
instance:ElemT Tryz.prog 59 [.nilFunc] 1 8:=⟨by kernel_rfl⟩
-- func(impl.Database,impl.Query) ([]int,bool)
instance:PlainT Tryz.prog 61:=⟨_,Tryz.underlying61,trivial⟩
instance:ElemT Tryz.prog 61 [.nilFunc] 1 8:=⟨by kernel_rfl⟩
-- func(impl.Database,impl.Query) bool
instance:PlainT Tryz.prog 62:=⟨_,Tryz.underlying62,trivial⟩
instance:ElemT Tryz.prog 62 [.nilFunc] 1 8:=⟨by kernel_rfl⟩
-- [][]int
instance:PlainT Tryz.prog 63:=⟨_,Tryz.underlying63,trivial⟩
instance:SliceT Tryz.prog 63 23:=⟨Tryz.underlying63⟩
instance:ElemT Tryz.prog 63 [.slice none 0 0] 1 24:=⟨by kernel_rfl⟩
-- struct { Arity int;Rows [][]int }
instance:AggT Tryz.prog 64 2:=⟨⟨_,Tryz.underlying64,trivial⟩,by kernel_rfl⟩
instance:FldT Tryz.prog 64 0 0:=⟨_,_,Tryz.underlying64,rfl,rfl,by kernel_rfl⟩
instance:FldT Tryz.prog 64 1 1:=⟨_,_,Tryz.underlying64,rfl,rfl,by kernel_rfl⟩
instance:BldT Tryz.prog 64 #[(0,1),(1,1)]:=⟨_,Tryz.underlying64,fun w=>by kernel_rfl⟩
instance:ElemT Tryz.prog 64 [.int .i64 0,.slice none 0 0] 2 32:=⟨by kernel_rfl⟩
-- impl.Relation
instance:AggT Tryz.prog 65 2:=⟨⟨_,Tryz.underlying65,trivial⟩,by kernel_rfl⟩
instance:FldT Tryz.prog 65 0 0:=⟨_,_,Tryz.underlying65,rfl,rfl,by kernel_rfl⟩
instance:FldT Tryz.prog 65 1 1:=⟨_,_,Tryz.underlying65,rfl,rfl,by kernel_rfl⟩
instance:BldT Tryz.prog 65 #[(0,1),(1,1)]:=⟨_,Tryz.underlying65,fun w=>by kernel_rfl⟩
instance:ElemT Tryz.prog 65 [.int .i64 0,.slice none 0 0] 2 32:=⟨by kernel_rfl⟩
-- func(impl.Database,impl.Query) impl.Relation
instance:PlainT Tryz.prog 66:=⟨_,Tryz.underlying66,trivial⟩
instance:ElemT Tryz.prog 66 [.nilFunc] 1 8:=⟨by kernel_rfl⟩
-- struct { Num int;Den int }
instance:AggT Tryz.prog 67 2:=⟨⟨_,Tryz.underlying67,trivial⟩,by kernel_rfl⟩
instance:FldT Tryz.prog 67 0 0:=⟨_,_,Tryz.underlying67,rfl,rfl,by kernel_rfl⟩
instance:FldT Tryz.prog 67 1 1:=⟨_,_,Tryz.underlying67,rfl,rfl,by kernel_rfl⟩
instance:BldT Tryz.prog 67 #[(0,1),(1,1)]:=⟨_,Tryz.underlying67,fun w=>by kernel_rfl⟩
instance:ElemT Tryz.prog 67 [.int .i64 0,.int .i64 0] 2 16:=⟨by kernel_rfl⟩
-- impl.Rational
instance:AggT Tryz.prog 68 2:=⟨⟨_,Tryz.underlying68,trivial⟩,by kernel_rfl⟩
instance:FldT Tryz.prog 68 0 0:=⟨_,_,Tryz.underlying68,rfl,rfl,by kernel_rfl⟩
instance:FldT Tryz.prog 68 1 1:=⟨_,_,Tryz.underlying68,rfl,rfl,by kernel_rfl⟩
instance:BldT Tryz.prog 68 #[(0,1),(1,1)]:=⟨_,Tryz.underlying68,fun w=>by kernel_rfl⟩
instance:ElemT Tryz.prog 68 [.int .i64 0,.int .i64 0] 2 16:=⟨by kernel_rfl⟩
-- func(impl.Query) ([]impl.Rational,impl.Rational,bool)
instance:PlainT Tryz.prog 70:=⟨_,Tryz.underlying70,trivial⟩
instance:ElemT Tryz.prog 70 [.nilFunc] 1 8:=⟨by kernel_rfl⟩
-- func(impl.Query,[]int) (int,bool)
instance:PlainT Tryz.prog 71:=⟨_,Tryz.underlying71,trivial⟩
instance:ElemT Tryz.prog 71 [.nilFunc] 1 8:=⟨by kernel_rfl⟩
-- func([]int,[]impl.Rational,int) bool
instance:PlainT Tryz.prog 72:=⟨_,Tryz.underlying72,trivial⟩
instance:ElemT Tryz.prog 72 [.nilFunc] 1 8:=⟨by kernel_rfl⟩
-- func([]laws.Atom,int) int
instance:PlainT Tryz.prog 73:=⟨_,Tryz.underlying73,trivial⟩
instance:ElemT Tryz.prog 73 [.nilFunc] 1 8:=⟨by kernel_rfl⟩
-- func(int,int,int) bool
instance:PlainT Tryz.prog 74:=⟨_,Tryz.underlying74,trivial⟩
instance:ElemT Tryz.prog 74 [.nilFunc] 1 8:=⟨by kernel_rfl⟩
-- func([]laws.Atom) []impl.Atom
instance:PlainT Tryz.prog 75:=⟨_,Tryz.underlying75,trivial⟩
instance:ElemT Tryz.prog 75 [.nilFunc] 1 8:=⟨by kernel_rfl⟩
-- func(impl.Query) bool
instance:PlainT Tryz.prog 76:=⟨_,Tryz.underlying76,trivial⟩
instance:ElemT Tryz.prog 76 [.nilFunc] 1 8:=⟨by kernel_rfl⟩
-- func(impl.Rational,impl.Rational) bool
instance:PlainT Tryz.prog 77:=⟨_,Tryz.underlying77,trivial⟩
instance:ElemT Tryz.prog 77 [.nilFunc] 1 8:=⟨by kernel_rfl⟩
-- func([]impl.Atom,[]impl.Atom) bool
instance:PlainT Tryz.prog 78:=⟨_,Tryz.underlying78,trivial⟩
instance:ElemT Tryz.prog 78 [.nilFunc] 1 8:=⟨by kernel_rfl⟩
-- func([]impl.Atom,int) int
instance:PlainT Tryz.prog 79:=⟨_,Tryz.underlying79,trivial⟩
instance:ElemT Tryz.prog 79 [.nilFunc] 1 8:=⟨by kernel_rfl⟩
-- func([]uint8) *spec.l1Cur
instance:PlainT Tryz.prog 81:=⟨_,Tryz.underlying81,trivial⟩
instance:ElemT Tryz.prog 81 [.nilFunc] 1 8:=⟨by kernel_rfl⟩
-- func(*spec.l1Cur) impl.Query
instance:PlainT Tryz.prog 82:=⟨_,Tryz.underlying82,trivial⟩
instance:ElemT Tryz.prog 82 [.nilFunc] 1 8:=⟨by kernel_rfl⟩
-- func(*spec.l1Cur,int) []int
instance:PlainT Tryz.prog 83:=⟨_,Tryz.underlying83,trivial⟩
instance:ElemT Tryz.prog 83 [.nilFunc] 1 8:=⟨by kernel_rfl⟩
-- func(*spec.l1Cur,int) bool
instance:PlainT Tryz.prog 84:=⟨_,Tryz.underlying84,trivial⟩
instance:ElemT Tryz.prog 84 [.nilFunc] 1 8:=⟨by kernel_rfl⟩
-- func(*spec.l1Cur,[]int) int
instance:PlainT Tryz.prog 85:=⟨_,Tryz.underlying85,trivial⟩
instance:ElemT Tryz.prog 85 [.nilFunc] 1 8:=⟨by kernel_rfl⟩
-- func(impl.Atom,int) bool
instance:PlainT Tryz.prog 86:=⟨_,Tryz.underlying86,trivial⟩
instance:ElemT Tryz.prog 86 [.nilFunc] 1 8:=⟨by kernel_rfl⟩
-- struct { Relation string;Vars []int }
instance:AggT Tryz.prog 87 2:=⟨⟨_,Tryz.underlying87,trivial⟩,by kernel_rfl⟩
instance:FldT Tryz.prog 87 0 0:=⟨_,_,Tryz.underlying87,rfl,rfl,by kernel_rfl⟩
instance:FldT Tryz.prog 87 1 1:=⟨_,_,Tryz.underlying87,rfl,rfl,by kernel_rfl⟩
instance:BldT Tryz.prog 87 #[(0,1),(1,1)]:=⟨_,Tryz.underlying87,fun w=>by kernel_rfl⟩
instance:ElemT Tryz.prog 87 [.string ByteArray.empty,.slice none 0 0] 2 40:=⟨by kernel_rfl⟩
-- impl.Atom
instance:AggT Tryz.prog 88 2:=⟨⟨_,Tryz.underlying88,trivial⟩,by kernel_rfl⟩
instance:FldT Tryz.prog 88 0 0:=⟨_,_,Tryz.underlying88,rfl,rfl,by kernel_rfl⟩
instance:FldT Tryz.prog 88 1 1:=⟨_,_,Tryz.underlying88,rfl,rfl,by kernel_rfl⟩
instance:BldT Tryz.prog 88 #[(0,1),(1,1)]:=⟨_,Tryz.underlying88,fun w=>by kernel_rfl⟩
instance:ElemT Tryz.prog 88 [.string ByteArray.empty,.slice none 0 0] 2 40:=⟨by kernel_rfl⟩
-- func(impl.LinearProgram) bool
instance:PlainT Tryz.prog 89:=⟨_,Tryz.underlying89,trivial⟩
instance:ElemT Tryz.prog 89 [.nilFunc] 1 8:=⟨by kernel_rfl⟩
-- func(impl.LinearProgram,int) [][]impl.Rational
instance:PlainT Tryz.prog 90:=⟨_,Tryz.underlying90,trivial⟩
instance:ElemT Tryz.prog 90 [.nilFunc] 1 8:=⟨by kernel_rfl⟩
-- func([]impl.Rational) ([]int,int)
instance:PlainT Tryz.prog 92:=⟨_,Tryz.underlying92,trivial⟩
instance:ElemT Tryz.prog 92 [.nilFunc] 1 8:=⟨by kernel_rfl⟩
-- struct { Digits []int }
instance:AggT Tryz.prog 93 1:=⟨⟨_,Tryz.underlying93,trivial⟩,by kernel_rfl⟩
instance:FldT Tryz.prog 93 0 0:=⟨_,_,Tryz.underlying93,rfl,rfl,by kernel_rfl⟩
instance:BldT Tryz.prog 93 #[(0,1)]:=⟨_,Tryz.underlying93,fun w=>by kernel_rfl⟩
instance:ElemT Tryz.prog 93 [.slice none 0 0] 1 24:=⟨by kernel_rfl⟩
-- impl.BigInt
instance:AggT Tryz.prog 94 1:=⟨⟨_,Tryz.underlying94,trivial⟩,by kernel_rfl⟩
instance:FldT Tryz.prog 94 0 0:=⟨_,_,Tryz.underlying94,rfl,rfl,by kernel_rfl⟩
instance:BldT Tryz.prog 94 #[(0,1)]:=⟨_,Tryz.underlying94,fun w=>by kernel_rfl⟩
instance:ElemT Tryz.prog 94 [.slice none 0 0] 1 24:=⟨by kernel_rfl⟩
-- func([]int,[]int) (impl.BigInt,bool)
instance:PlainT Tryz.prog 96:=⟨_,Tryz.underlying96,trivial⟩
instance:ElemT Tryz.prog 96 [.nilFunc] 1 8:=⟨by kernel_rfl⟩
-- func([]int,int) []int
instance:PlainT Tryz.prog 97:=⟨_,Tryz.underlying97,trivial⟩
instance:ElemT Tryz.prog 97 [.nilFunc] 1 8:=⟨by kernel_rfl⟩
-- func(impl.BigInt,impl.BigInt) int
instance:PlainT Tryz.prog 98:=⟨_,Tryz.underlying98,trivial⟩
instance:ElemT Tryz.prog 98 [.nilFunc] 1 8:=⟨by kernel_rfl⟩
-- func([]impl.Rational,int) bool
instance:PlainT Tryz.prog 99:=⟨_,Tryz.underlying99,trivial⟩
instance:ElemT Tryz.prog 99 [.nilFunc] 1 8:=⟨by kernel_rfl⟩
-- func([]impl.Rational) (impl.Rational,bool)
instance:PlainT Tryz.prog 101:=⟨_,Tryz.underlying101,trivial⟩
instance:ElemT Tryz.prog 101 [.nilFunc] 1 8:=⟨by kernel_rfl⟩
-- func(impl.Rational,impl.Rational) int
instance:PlainT Tryz.prog 102:=⟨_,Tryz.underlying102,trivial⟩
instance:ElemT Tryz.prog 102 [.nilFunc] 1 8:=⟨by kernel_rfl⟩
-- func(*spec.l1Cur) (impl.Database,impl.Query)
instance:PlainT Tryz.prog 103:=⟨_,Tryz.underlying103,trivial⟩
instance:ElemT Tryz.prog 103 [.nilFunc] 1 8:=⟨by kernel_rfl⟩
-- func(impl.Database,impl.Atom) impl.Relation
instance:PlainT Tryz.prog 104:=⟨_,Tryz.underlying104,trivial⟩
instance:ElemT Tryz.prog 104 [.nilFunc] 1 8:=⟨by kernel_rfl⟩
-- func(impl.Database,string) (impl.Relation,bool)
instance:PlainT Tryz.prog 106:=⟨_,Tryz.underlying106,trivial⟩
instance:ElemT Tryz.prog 106 [.nilFunc] 1 8:=⟨by kernel_rfl⟩
-- func(impl.Database) bool
instance:PlainT Tryz.prog 107:=⟨_,Tryz.underlying107,trivial⟩
instance:ElemT Tryz.prog 107 [.nilFunc] 1 8:=⟨by kernel_rfl⟩
-- func(int,[][]int) (impl.Relation,bool)
instance:PlainT Tryz.prog 108:=⟨_,Tryz.underlying108,trivial⟩
instance:ElemT Tryz.prog 108 [.nilFunc] 1 8:=⟨by kernel_rfl⟩
-- func(impl.Database,impl.Query,int,[]int) [][]int
instance:PlainT Tryz.prog 109:=⟨_,Tryz.underlying109,trivial⟩
instance:ElemT Tryz.prog 109 [.nilFunc] 1 8:=⟨by kernel_rfl⟩
-- func(impl.LinearProgram) ([]impl.Rational,impl.Rational,bool)
instance:PlainT Tryz.prog 110:=⟨_,Tryz.underlying110,trivial⟩
instance:ElemT Tryz.prog 110 [.nilFunc] 1 8:=⟨by kernel_rfl⟩
-- func([]int,[]impl.Rational,int,int) bool
instance:PlainT Tryz.prog 111:=⟨_,Tryz.underlying111,trivial⟩
instance:ElemT Tryz.prog 111 [.nilFunc] 1 8:=⟨by kernel_rfl⟩
-- func(int,int) (impl.BigInt,bool)
instance:PlainT Tryz.prog 112:=⟨_,Tryz.underlying112,trivial⟩
instance:ElemT Tryz.prog 112 [.nilFunc] 1 8:=⟨by kernel_rfl⟩
-- func(laws.Atom,int) int
instance:PlainT Tryz.prog 113:=⟨_,Tryz.underlying113,trivial⟩
instance:ElemT Tryz.prog 113 [.nilFunc] 1 8:=⟨by kernel_rfl⟩
-- laws.Atom
instance:AggT Tryz.prog 114 2:=⟨⟨_,Tryz.underlying114,trivial⟩,by kernel_rfl⟩
instance:FldT Tryz.prog 114 0 0:=⟨_,_,Tryz.underlying114,rfl,rfl,by kernel_rfl⟩
instance:FldT Tryz.prog 114 1 1:=⟨_,_,Tryz.underlying114,rfl,rfl,by kernel_rfl⟩
instance:BldT Tryz.prog 114 #[(0,1),(1,1)]:=⟨_,Tryz.underlying114,fun w=>by kernel_rfl⟩
instance:ElemT Tryz.prog 114 [.string ByteArray.empty,.slice none 0 0] 2 40:=⟨by kernel_rfl⟩
-- func(laws.Atom) impl.Atom
instance:PlainT Tryz.prog 115:=⟨_,Tryz.underlying115,trivial⟩
instance:ElemT Tryz.prog 115 [.nilFunc] 1 8:=⟨by kernel_rfl⟩
-- func([]int,int) bool
instance:PlainT Tryz.prog 116:=⟨_,Tryz.underlying116,trivial⟩
instance:ElemT Tryz.prog 116 [.nilFunc] 1 8:=⟨by kernel_rfl⟩
-- []bool
instance:PlainT Tryz.prog 117:=⟨_,Tryz.underlying117,trivial⟩
instance:SliceT Tryz.prog 117 4:=⟨Tryz.underlying117⟩
instance:ElemT Tryz.prog 117 [.slice none 0 0] 1 24:=⟨by kernel_rfl⟩
-- func(string) bool
instance:PlainT Tryz.prog 118:=⟨_,Tryz.underlying118,trivial⟩
instance:ElemT Tryz.prog 118 [.nilFunc] 1 8:=⟨by kernel_rfl⟩
-- func(impl.Query,[]int) impl.LinearProgram
instance:PlainT Tryz.prog 119:=⟨_,Tryz.underlying119,trivial⟩
instance:ElemT Tryz.prog 119 [.nilFunc] 1 8:=⟨by kernel_rfl⟩
-- func(impl.Query) []int
instance:PlainT Tryz.prog 120:=⟨_,Tryz.underlying120,trivial⟩
instance:ElemT Tryz.prog 120 [.nilFunc] 1 8:=⟨by kernel_rfl⟩
-- func(impl.Atom,impl.Atom) bool
instance:PlainT Tryz.prog 121:=⟨_,Tryz.underlying121,trivial⟩
instance:ElemT Tryz.prog 121 [.nilFunc] 1 8:=⟨by kernel_rfl⟩
-- func(int) string
instance:PlainT Tryz.prog 122:=⟨_,Tryz.underlying122,trivial⟩
instance:ElemT Tryz.prog 122 [.nilFunc] 1 8:=⟨by kernel_rfl⟩
-- struct { b []uint8;i int;h int }
instance:AggT Tryz.prog 123 3:=⟨⟨_,Tryz.underlying123,trivial⟩,by kernel_rfl⟩
instance:FldT Tryz.prog 123 0 0:=⟨_,_,Tryz.underlying123,rfl,rfl,by kernel_rfl⟩
instance:FldT Tryz.prog 123 1 1:=⟨_,_,Tryz.underlying123,rfl,rfl,by kernel_rfl⟩
instance:FldT Tryz.prog 123 2 2:=⟨_,_,Tryz.underlying123,rfl,rfl,by kernel_rfl⟩
instance:BldT Tryz.prog 123 #[(0,1),(1,1),(2,1)]:=⟨_,Tryz.underlying123,fun w=>by kernel_rfl⟩
instance:ElemT Tryz.prog 123 [.slice none 0 0,.int .i64 0,.int .i64 0] 3 40:=⟨by kernel_rfl⟩
-- spec.l1Cur
instance:AggT Tryz.prog 124 3:=⟨⟨_,Tryz.underlying124,trivial⟩,by kernel_rfl⟩
instance:FldT Tryz.prog 124 0 0:=⟨_,_,Tryz.underlying124,rfl,rfl,by kernel_rfl⟩
instance:FldT Tryz.prog 124 1 1:=⟨_,_,Tryz.underlying124,rfl,rfl,by kernel_rfl⟩
instance:FldT Tryz.prog 124 2 2:=⟨_,_,Tryz.underlying124,rfl,rfl,by kernel_rfl⟩
instance:BldT Tryz.prog 124 #[(0,1),(1,1),(2,1)]:=⟨_,Tryz.underlying124,fun w=>by kernel_rfl⟩
instance:ElemT Tryz.prog 124 [.slice none 0 0,.int .i64 0,.int .i64 0] 3 40:=⟨by kernel_rfl⟩
-- func(*spec.l1Cur,int) int
instance:PlainT Tryz.prog 125:=⟨_,Tryz.underlying125,trivial⟩
instance:ElemT Tryz.prog 125 [.nilFunc] 1 8:=⟨by kernel_rfl⟩
-- func(*spec.l1Cur,[]string) string
instance:PlainT Tryz.prog 126:=⟨_,Tryz.underlying126,trivial⟩
instance:ElemT Tryz.prog 126 [.nilFunc] 1 8:=⟨by kernel_rfl⟩
-- []string
instance:PlainT Tryz.prog 127:=⟨_,Tryz.underlying127,trivial⟩
instance:SliceT Tryz.prog 127 9:=⟨Tryz.underlying127⟩
instance:ElemT Tryz.prog 127 [.slice none 0 0] 1 24:=⟨by kernel_rfl⟩
-- func([][]impl.Rational,int,int) bool
instance:PlainT Tryz.prog 128:=⟨_,Tryz.underlying128,trivial⟩
instance:ElemT Tryz.prog 128 [.nilFunc] 1 8:=⟨by kernel_rfl⟩
-- func(int,int,int) [][]int
instance:PlainT Tryz.prog 129:=⟨_,Tryz.underlying129,trivial⟩
instance:ElemT Tryz.prog 129 [.nilFunc] 1 8:=⟨by kernel_rfl⟩
-- func([][]impl.Rational,[]impl.Rational) ([]impl.Rational,bool)
instance:PlainT Tryz.prog 130:=⟨_,Tryz.underlying130,trivial⟩
instance:ElemT Tryz.prog 130 [.nilFunc] 1 8:=⟨by kernel_rfl⟩
-- func(impl.LinearProgram,[]impl.Rational,int) bool
instance:PlainT Tryz.prog 131:=⟨_,Tryz.underlying131,trivial⟩
instance:ElemT Tryz.prog 131 [.nilFunc] 1 8:=⟨by kernel_rfl⟩
-- func(impl.Rational) bool
instance:PlainT Tryz.prog 132:=⟨_,Tryz.underlying132,trivial⟩
instance:ElemT Tryz.prog 132 [.nilFunc] 1 8:=⟨by kernel_rfl⟩
-- func(int,int) int
instance:PlainT Tryz.prog 133:=⟨_,Tryz.underlying133,trivial⟩
instance:ElemT Tryz.prog 133 [.nilFunc] 1 8:=⟨by kernel_rfl⟩
-- func(int) impl.BigInt
instance:PlainT Tryz.prog 134:=⟨_,Tryz.underlying134,trivial⟩
instance:ElemT Tryz.prog 134 [.nilFunc] 1 8:=⟨by kernel_rfl⟩
-- func(impl.BigInt,impl.BigInt) (impl.BigInt,bool)
instance:PlainT Tryz.prog 135:=⟨_,Tryz.underlying135,trivial⟩
instance:ElemT Tryz.prog 135 [.nilFunc] 1 8:=⟨by kernel_rfl⟩
-- func(impl.BigInt) bool
instance:PlainT Tryz.prog 136:=⟨_,Tryz.underlying136,trivial⟩
instance:ElemT Tryz.prog 136 [.nilFunc] 1 8:=⟨by kernel_rfl⟩
-- func(impl.Rational,impl.Rational) (impl.Rational,bool)
instance:PlainT Tryz.prog 137:=⟨_,Tryz.underlying137,trivial⟩
instance:ElemT Tryz.prog 137 [.nilFunc] 1 8:=⟨by kernel_rfl⟩
-- func(*spec.l1Cur) impl.Database
instance:PlainT Tryz.prog 138:=⟨_,Tryz.underlying138,trivial⟩
instance:ElemT Tryz.prog 138 [.nilFunc] 1 8:=⟨by kernel_rfl⟩
-- func(impl.Atom) []int
instance:PlainT Tryz.prog 139:=⟨_,Tryz.underlying139,trivial⟩
instance:ElemT Tryz.prog 139 [.nilFunc] 1 8:=⟨by kernel_rfl⟩
-- func(int,[]int) bool
instance:PlainT Tryz.prog 140:=⟨_,Tryz.underlying140,trivial⟩
instance:ElemT Tryz.prog 140 [.nilFunc] 1 8:=⟨by kernel_rfl⟩
-- func([]int,[]int) []int
instance:PlainT Tryz.prog 141:=⟨_,Tryz.underlying141,trivial⟩
instance:ElemT Tryz.prog 141 [.nilFunc] 1 8:=⟨by kernel_rfl⟩
-- func([][]int) [][]int
instance:PlainT Tryz.prog 142:=⟨_,Tryz.underlying142,trivial⟩
instance:ElemT Tryz.prog 142 [.nilFunc] 1 8:=⟨by kernel_rfl⟩
-- struct { Name string;Relation impl.Relation }
instance:AggT Tryz.prog 143 3:=⟨⟨_,Tryz.underlying143,trivial⟩,by kernel_rfl⟩
instance:FldT Tryz.prog 143 0 0:=⟨_,_,Tryz.underlying143,rfl,rfl,by kernel_rfl⟩
instance:FldT Tryz.prog 143 1 1:=⟨_,_,Tryz.underlying143,rfl,rfl,by kernel_rfl⟩
instance:BldT Tryz.prog 143 #[(0,1),(1,2)]:=⟨_,Tryz.underlying143,fun w=>by kernel_rfl⟩
instance:ElemT Tryz.prog 143 [.string ByteArray.empty,.int .i64 0,.slice none 0 0] 3 48:=⟨by kernel_rfl⟩
-- impl.Table
instance:AggT Tryz.prog 144 3:=⟨⟨_,Tryz.underlying144,trivial⟩,by kernel_rfl⟩
instance:FldT Tryz.prog 144 0 0:=⟨_,_,Tryz.underlying144,rfl,rfl,by kernel_rfl⟩
instance:FldT Tryz.prog 144 1 1:=⟨_,_,Tryz.underlying144,rfl,rfl,by kernel_rfl⟩
instance:BldT Tryz.prog 144 #[(0,1),(1,2)]:=⟨_,Tryz.underlying144,fun w=>by kernel_rfl⟩
instance:ElemT Tryz.prog 144 [.string ByteArray.empty,.int .i64 0,.slice none 0 0] 3 48:=⟨by kernel_rfl⟩
-- func(impl.Relation) impl.Relation
instance:PlainT Tryz.prog 145:=⟨_,Tryz.underlying145,trivial⟩
instance:ElemT Tryz.prog 145 [.nilFunc] 1 8:=⟨by kernel_rfl⟩
-- func(impl.Relation) bool
instance:PlainT Tryz.prog 146:=⟨_,Tryz.underlying146,trivial⟩
instance:ElemT Tryz.prog 146 [.nilFunc] 1 8:=⟨by kernel_rfl⟩
-- func([]int) bool
instance:PlainT Tryz.prog 147:=⟨_,Tryz.underlying147,trivial⟩
instance:ElemT Tryz.prog 147 [.nilFunc] 1 8:=⟨by kernel_rfl⟩
-- func(impl.LinearProgram,int) ([]impl.Rational,impl.Rational,bool)
instance:PlainT Tryz.prog 148:=⟨_,Tryz.underlying148,trivial⟩
instance:ElemT Tryz.prog 148 [.nilFunc] 1 8:=⟨by kernel_rfl⟩
-- func(string,int) bool
instance:PlainT Tryz.prog 149:=⟨_,Tryz.underlying149,trivial⟩
instance:ElemT Tryz.prog 149 [.nilFunc] 1 8:=⟨by kernel_rfl⟩
-- func(bool) int
instance:PlainT Tryz.prog 150:=⟨_,Tryz.underlying150,trivial⟩
instance:ElemT Tryz.prog 150 [.nilFunc] 1 8:=⟨by kernel_rfl⟩
-- func([]impl.Rational) bool
instance:PlainT Tryz.prog 151:=⟨_,Tryz.underlying151,trivial⟩
instance:ElemT Tryz.prog 151 [.nilFunc] 1 8:=⟨by kernel_rfl⟩
-- func([]impl.Rational) []impl.Rational
instance:PlainT Tryz.prog 152:=⟨_,Tryz.underlying152,trivial⟩
instance:ElemT Tryz.prog 152 [.nilFunc] 1 8:=⟨by kernel_rfl⟩
-- func(int,[]int)
instance:PlainT Tryz.prog 153:=⟨_,Tryz.underlying153,trivial⟩
instance:ElemT Tryz.prog 153 [.nilFunc] 1 8:=⟨by kernel_rfl⟩
-- func(string) (impl.Query,bool)
instance:PlainT Tryz.prog 155:=⟨_,Tryz.underlying155,trivial⟩
instance:ElemT Tryz.prog 155 [.nilFunc] 1 8:=⟨by kernel_rfl⟩
-- func(*spec.l1Cur) int
instance:PlainT Tryz.prog 156:=⟨_,Tryz.underlying156,trivial⟩
instance:ElemT Tryz.prog 156 [.nilFunc] 1 8:=⟨by kernel_rfl⟩
-- func([][]impl.Rational,int) bool
instance:PlainT Tryz.prog 157:=⟨_,Tryz.underlying157,trivial⟩
instance:ElemT Tryz.prog 157 [.nilFunc] 1 8:=⟨by kernel_rfl⟩
-- func(int) int
instance:PlainT Tryz.prog 158:=⟨_,Tryz.underlying158,trivial⟩
instance:ElemT Tryz.prog 158 [.nilFunc] 1 8:=⟨by kernel_rfl⟩
-- func([]int) (impl.BigInt,bool)
instance:PlainT Tryz.prog 159:=⟨_,Tryz.underlying159,trivial⟩
instance:ElemT Tryz.prog 159 [.nilFunc] 1 8:=⟨by kernel_rfl⟩
-- func(int,int) (impl.Rational,bool)
instance:PlainT Tryz.prog 160:=⟨_,Tryz.underlying160,trivial⟩
instance:ElemT Tryz.prog 160 [.nilFunc] 1 8:=⟨by kernel_rfl⟩
-- func(*spec.l1Cur,int,int,int) impl.Relation
instance:PlainT Tryz.prog 161:=⟨_,Tryz.underlying161,trivial⟩
instance:ElemT Tryz.prog 161 [.nilFunc] 1 8:=⟨by kernel_rfl⟩
-- func(*spec.l1Cur) impl.Relation
instance:PlainT Tryz.prog 162:=⟨_,Tryz.underlying162,trivial⟩
instance:ElemT Tryz.prog 162 [.nilFunc] 1 8:=⟨by kernel_rfl⟩
-- func([]int,[]int) int
instance:PlainT Tryz.prog 163:=⟨_,Tryz.underlying163,trivial⟩
instance:ElemT Tryz.prog 163 [.nilFunc] 1 8:=⟨by kernel_rfl⟩
-- func([]impl.Rational,[]impl.Rational) (impl.Rational,bool)
instance:PlainT Tryz.prog 164:=⟨_,Tryz.underlying164,trivial⟩
instance:ElemT Tryz.prog 164 [.nilFunc] 1 8:=⟨by kernel_rfl⟩
-- func([]impl.Rational,[]impl.Rational,int) bool
instance:PlainT Tryz.prog 165:=⟨_,Tryz.underlying165,trivial⟩
instance:ElemT Tryz.prog 165 [.nilFunc] 1 8:=⟨by kernel_rfl⟩
-- func(string,uint8) []string
instance:PlainT Tryz.prog 166:=⟨_,Tryz.underlying166,trivial⟩
instance:ElemT Tryz.prog 166 [.nilFunc] 1 8:=⟨by kernel_rfl⟩
-- func(string) []int
instance:PlainT Tryz.prog 167:=⟨_,Tryz.underlying167,trivial⟩
instance:ElemT Tryz.prog 167 [.nilFunc] 1 8:=⟨by kernel_rfl⟩
-- func(impl.Query) string
instance:PlainT Tryz.prog 168:=⟨_,Tryz.underlying168,trivial⟩
instance:ElemT Tryz.prog 168 [.nilFunc] 1 8:=⟨by kernel_rfl⟩
-- uint
instance:PlainT Tryz.prog 169:=⟨_,Tryz.underlying169,trivial⟩
instance:ElemT Tryz.prog 169 [.int .u64 0] 1 8:=⟨by kernel_rfl⟩
-- func(*spec.l1Cur,int,int) []int
instance:PlainT Tryz.prog 170:=⟨_,Tryz.underlying170,trivial⟩
instance:ElemT Tryz.prog 170 [.nilFunc] 1 8:=⟨by kernel_rfl⟩
-- func(int,[][]int) bool
instance:PlainT Tryz.prog 171:=⟨_,Tryz.underlying171,trivial⟩
instance:ElemT Tryz.prog 171 [.nilFunc] 1 8:=⟨by kernel_rfl⟩
-- func([]int) string
instance:PlainT Tryz.prog 172:=⟨_,Tryz.underlying172,trivial⟩
instance:ElemT Tryz.prog 172 [.nilFunc] 1 8:=⟨by kernel_rfl⟩
-- func() string
instance:PlainT Tryz.prog 173:=⟨_,Tryz.underlying173,trivial⟩
instance:ElemT Tryz.prog 173 [.nilFunc] 1 8:=⟨by kernel_rfl⟩
-- func() int
instance:PlainT Tryz.prog 179:=⟨_,Tryz.underlying179,trivial⟩
instance:ElemT Tryz.prog 179 [.nilFunc] 1 8:=⟨by kernel_rfl⟩
-- uint32
instance:PlainT Tryz.prog 180:=⟨_,Tryz.underlying180,trivial⟩
instance:ElemT Tryz.prog 180 [.int .u32 0] 1 4:=⟨by kernel_rfl⟩
-- func(unsafe.Pointer,unsafe.Pointer) bool
instance:PlainT Tryz.prog 183:=⟨_,Tryz.underlying183,trivial⟩
instance:ElemT Tryz.prog 183 [.nilFunc] 1 8:=⟨by kernel_rfl⟩
def AL (P:Program) (n:Nat) (ops:Array Oper) (X:List Nat) (C:World→Prop) (K:Env→World→Prop):Nat→Array Bool→Env→World→Prop
 | 0,L,e,w=>Region.ready .any ops L=[]∧K e w
 | f+1,L,e,w=>(Region.ready .any ops L=[]→K e w) ∧
  ∀ i∈Region.ready .any ops L,∃ o,ops[i]? = some o∧EL P n ops (fun e' w'=>(X.contains i=true→C w')∧AL P n ops X C K f (L.setIfInBounds i true) e' w') [o] e w

section
variable {P:Program} {n:Nat} {ops:Array Oper} {X:List Nat} {C:World→Prop} {K:Env→World→Prop}
theorem ut {o:Oper} {a:Act} {w:World} {N N2:Act→World→Prop} {K1 K2:Env→World→Prop} (h:∀ a w,N a w→N2 a w) (hh:o.wp P a w N (nrm n K1)):o.wp P a w N2 (nrm n K2):=by
  unfold Oper.wp at *
  generalize (execOp a.eval o).run P w=r at *
  cases r with
  | ok m w' =>
    cases m <;> simp only [Oper.upon] at hh ⊢ <;>
      first
        | exact h _ _ hh
        | exact Calls.mono hh (fun e w'' he=>by
            cases e with
            | returned v=>exact h _ _ he
            | panicked ch=>exact absurd he.1 (by simp)
            | outgrown=>obtain ⟨_,_,hx,_⟩:=he;exact absurd hx (by simp))
        | exact Rows.mono hh (fun _ _ he=>h _ _ he)
  | halt x w' =>
    cases x <;> simp only [Oper.upon] at hh ⊢
    exact absurd hh.1 (by simp)
theorem pD {K:Env→World→Prop}:¬ LetsOut (nrm n K):=by
 rintro ⟨_,_,h,_⟩;exact absurd h (by simp)
theorem AL.any:∀ (f:Nat) (L:Array Bool) (e:Env) (a:Act) (w:World),Mt n e a→AL P n ops X C K f L e w→wpAny P .any ops (nrm n K) f L a w
 | 0,_,e,a,_,ha,h=>⟨h.1,rfl,e,ha,h.2⟩
 | f+1,L,e,a,w,ha,h=>by
  refine ⟨fun h0=>⟨rfl,e,ha,h.1 h0⟩,fun i hi=>?_⟩
  obtain ⟨o,ho,hE⟩:=h.2 i hi
  have:=hE a ha
  unfold wpOp
  simp only [ho]
  unfold wpList at this
  have key:∀ a w,wpList P ops (nrm n fun e' w'=>(X.contains i=true→C w')∧AL P n ops X C K f (L.setIfInBounds i true) e' w') [] a w→wpAny P .any ops (nrm n K) f (L.setIfInBounds i true) a w:=by
   rintro a w ⟨_,e',ha',_,h2⟩
   exact AL.any f _ e' a w ha' h2
  split
  ·rename_i hw
   rw [if_pos hw] at this
   rcases this with h1 | ⟨_,h1⟩
   ·exact .inl (ut key h1)
   ·exact absurd h1 pD
  ·rename_i hw
   rw [if_neg hw] at this
   exact key _ _ this
theorem bU {id:Nat} {l:List Oper} {Q:Exit→Env→World→Prop} {e:Env} {w:World} (X:List Nat) (C:World→Prop) (hm:P.follows .mixedOrders=true)
  (hx:∀ w',Ext w w'→AL P n l.toArray X C (fun e w=>Q .normal e w) l.length (Array.replicate l.length false) e w'):CW P n (.region id l.toArray true) Q e w:=by
 intro a ha
 have h2:=hx { w with drawn:=w.drawn+1 } ⟨rfl,rfl,rfl,Nat.le_refl _,fun _ _=>rfl⟩
 have:=AL.any _ _ _ a _ ha h2
 refine wp_mono (wp_region_any (Q:=nrm n fun e w=>Q .normal e w) hm (by simpa using this)) ?_
 rintro x a w ⟨rfl,e,he,hk⟩
 exact ⟨e,he,hk⟩

def SV (P:Program) (n:Nat) (ops:Array Oper) (C:World→Prop) (o:Oper) (e:Env) (v:Value):Prop :=
 ∀ a,Mt n e a→(Region.wanted o (yielded ops a.tmps)=true∧∀ w',C w'→(execOp a.eval o).run P w'=.ok (.value v) w')∨(Region.wanted o (yielded ops a.tmps)=false∧v=undef)
def mG (ops:Array Oper) (X:List Nat) (L:Array Bool) (i:Nat) (o:Oper):Bool :=
 (List.range ops.size).all fun j=>Nat.beq j i||L.getD j true||(match ops[j]? with
  | some oj=>oj.after.any (fun e=>Region.binds .any e&&Nat.beq e.on i)||(o.apart ops oj&&X.contains j)
  | none=>true)
theorem jP {L:Array Bool} {i:Nat}:i∈Region.ready .any ops L↔L.getD i true=false∧∃ o,ops[i]? = some o∧∀ e∈o.after,Region.binds .any e=true→L.getD e.on false=true:=by
 unfold Region.ready
 simp only [List.mem_filter,List.mem_range,Bool.and_eq_true,Bool.not_eq_true']
 constructor
 ·rintro ⟨h1,h2,h3⟩
  refine ⟨h2,ops[i],Array.getElem?_eq_getElem h1,fun e he hb=>?_⟩
  rw [Array.getElem?_eq_getElem h1] at h3
  simp only [Option.map_some,Option.getD_some,Array.all_eq_true_iff_forall_mem] at h3
  have:=h3 e he
  simpa [hb] using this
 ·rintro ⟨h2,o,h1,h3⟩
  obtain ⟨hlt,rfl⟩:=Array.getElem?_eq_some_iff.1 h1
  refine ⟨hlt,h2,?_⟩
  rw [h1]
  simp only [Option.map_some,Option.getD_some,Array.all_eq_true_iff_forall_mem]
  intro e he
  by_cases hb:Region.binds .any e=true
  ·simp [h3 e he hb]
  ·simp [hb]
theorem kC {L:Array Bool} {i j:Nat} {d:Bool} (h:j≠i):(L.setIfInBounds i true).getD j d=L.getD j d:=by
 simp [Array.getElem?_setIfInBounds_ne (Ne.symm h)]
theorem si {L:Array Bool} {i j:Nat} (h:L.getD j false=true):(L.setIfInBounds i true).getD j false=true:=by
 by_cases hj:j=i
 ·subst hj
  have:j<L.size:=by
   rcases Nat.lt_or_ge j L.size with h1 | h1
   ·exact h1
   ·simp [Array.getElem?_eq_none h1] at h
  simp [this]
 ·rw [kC hj];exact h
theorem jU {L:Array Bool} {i j:Nat} (hij:j≠i) (h:j∈Region.ready .any ops L):j∈Region.ready .any ops (L.setIfInBounds i true):=by
 obtain ⟨h1,o,h2,h3⟩:=jP.1 h
 exact jP.2 ⟨by rw [kC hij];exact h1,o,h2,fun e he hb=>si (h3 e he hb)⟩
theorem set_comm (L:Array Bool) (i j:Nat):(L.setIfInBounds i true).setIfInBounds j true=(L.setIfInBounds j true).setIfInBounds i true:=by
 by_cases h:i=j
 ·subst h;rfl
 ·exact Array.setIfInBounds_comm _ _ h
theorem vt {L:Array Bool} {i j:Nat} {o:Oper} (h:mG ops X L i o=true):mG ops X (L.setIfInBounds j true) i o=true:=by
 unfold mG at *
 rw [List.all_eq_true] at *
 intro k hk
 have:=h k hk
 by_cases hkj:k=j
 ·subst hkj
  have:k<ops.size:=by simpa using hk
  by_cases hkl:k<L.size
  ·simp [hkl]
  ·have hn:L[k]? = none:=Array.getElem?_eq_none (by omega)
   simp [hkl]
 ·rw [kC hkj];exact this
def te (a:Act):Env:=fun t=>a.tmps.getD t undef
theorem wz {a:Act} (h1:a.tmps.size=n) (h2:a.defers=[]):Mt n (te a) a:=⟨h1,h2,fun _=>rfl⟩
theorem Mt.uniq {a:Act} {e e':Env} (h:Mt n e a) (h':Mt n e' a):e=e':=by funext t;rw [← h.get,← h'.get]
theorem rr (a:Act) (d:Option Nat) (v:Value):(a.put d v).tmps.size=a.tmps.size:=by cases d <;> simp [Act.put]
theorem sO (a:Act) (d:Option Nat) (v:Value):(a.put d v).defers=a.defers:=by cases d <;> rfl
theorem np {a b:Act} (h:∀ t,a.tmps.getD t undef=b.tmps.getD t undef) (hs:a.tmps.size=b.tmps.size):a.tmps=b.tmps:=by
 apply Array.ext hs
 intro i h1 h2
 have:=h i
 simpa [Array.getD,h1,h2] using this
theorem rF {o:Oper} {a a':Act} {N N2:Act→World→Prop} {K1 K2:Env→World→Prop} (h:∀ u w,N (a'.put o.dst u) w→N2 (a.put o.dst u) w) (hd:∀ d u w,¬ N (({ a' with defers:=d :: a'.defers }:Act).put o.dst u) w) {r:Result Next}
    (hh:o.upon P a' N (nrm n K1) r):o.upon P a N2 (nrm n K2) r:=by
  cases r with
  | ok m w' =>
    cases m <;> simp only [Oper.upon] at hh ⊢ <;>
      first
        | exact h _ _ hh
        | exact absurd hh (hd _ _ _)
        | exact Calls.mono hh (fun e w'' he=>by
            cases e with
            | returned v=>exact h _ _ he
            | panicked ch=>exact absurd he.1 (by simp)
            | outgrown=>obtain ⟨_,_,hx,_⟩:=he;exact absurd hx (by simp))
        | exact Rows.mono hh (fun _ _ he=>h _ _ he)
  | halt x w' =>
    cases x <;> simp only [Oper.upon] at hh ⊢
    exact absurd hh.1 (by simp)
def jG (ops:Array Oper):Bool:=ops.all fun o=>match o.op with | .select ..=>false | _=>true
theorem mF (h:jG ops=true) {i:Nat} {o:Oper} (hi:ops[i]? = some o):∀ cs b,o.op≠.select cs b:=by
 intro cs b e
 unfold jG at h
 rw [Array.all_eq_true_iff_forall_mem] at h
 have:=h o (Array.mem_of_getElem? hi)
 simp [e] at this
theorem yh (hsel:jG ops=true) (i:Nat) {o:Oper} {d:Nat} {v:Value} (hi:ops[i]? = some o) (hdst:o.dst=some d) (hdn:d<n) :
  ∀ (f:Nat) (L:Array Bool) (e:Env) (w:World),C w→mG ops X L i o=true→i∈Region.ready .any ops L→SV P n ops C o e v→AL P n ops X C K f (L.setIfInBounds i true) (upd e d v) w→AL P n ops X C K (f+1) L e w:=by
 intro f
 induction f with
 | zero =>
  intro L e w hC hf hr hy H
  refine ⟨fun h=>(by rw [h] at hr;cases hr),fun j hj=>?_⟩
  by_cases hji:j=i
  ·subst hji
   refine ⟨o,hi,fun a ha=>?_⟩
   unfold wpList
   rcases hy a ha with ⟨hw,hv⟩ | ⟨hw,rfl⟩
   ·rw [if_pos hw]
    refine .inl ?_
    unfold Oper.wp
    rw [hv w hC]
    simp only [Oper.upon,hdst]
    exact ⟨rfl,_,ha.put hdn v,fun _=>hC,H⟩
   ·rw [if_neg (by simp [hw])]
    rw [hdst]
    exact ⟨rfl,_,ha.put hdn _,fun _=>hC,H⟩
  ·have:=jU (i:=i) hji hj
   rw [H.1] at this;cases this
 | succ f ih =>
  intro L e w hC hf hr hy H
  refine ⟨fun h=>(by rw [h] at hr;cases hr),fun j hj=>?_⟩
  by_cases hji:j=i
  ·subst hji
   refine ⟨o,hi,fun a ha=>?_⟩
   unfold wpList
   rcases hy a ha with ⟨hw,hv⟩ | ⟨hw,rfl⟩
   ·rw [if_pos hw]
    refine .inl ?_
    unfold Oper.wp
    rw [hv w hC]
    simp only [Oper.upon,hdst]
    exact ⟨rfl,_,ha.put hdn v,fun _=>hC,H⟩
   ·rw [if_neg (by simp [hw])]
    rw [hdst]
    exact ⟨rfl,_,ha.put hdn _,fun _=>hC,H⟩
  ·obtain ⟨oj,hoj,hE⟩:=H.2 j (jU hji hj)
   have hjL:=(jP.1 hj)
   have hiL:=(jP.1 hr)
   have hap:o.apart ops oj=true∧X.contains j=true:=by
    have h1:=hf
    unfold mG at h1
    rw [List.all_eq_true] at h1
    have h2:=h1 j (by simp [(Array.getElem?_eq_some_iff.1 hoj).1])
    have hb:Nat.beq j i=false:=mb hji
    simp only [hb,hjL.1,hoj,Bool.false_or,Bool.or_eq_true,Bool.and_eq_true] at h2
    rcases h2 with h2 | h2
    ·exfalso
     obtain ⟨_,h3,h4⟩:=hjL.2
     rw [hoj] at h3;obtain rfl:=Option.some.inj h3
     rw [Array.any_eq_true'] at h2
     obtain ⟨ed,hm,h5⟩:=h2
     simp only [Bool.and_eq_true] at h5
     have h6:=h4 ed hm h5.1
     have h7:ed.on=i:=Nat.eq_of_beq_eq_true h5.2
     rw [h7] at h6
     have:=hiL.1
     cases hx:L[i]? with
     | none=>simp [Array.getD_eq_getD_getElem?,hx] at this
     | some b=>simp [Array.getD_eq_getD_getElem?,hx] at this h6;simp [this] at h6
    ·exact h2
   obtain ⟨h1,h2,h3⟩:=Oper.apart_spec hap.1
   have hso:=mF hsel hi
   have hsj:=mF hsel hoj
   refine ⟨oj,hoj,fun a ha=>?_⟩
   have h4:=hE _ (ha.put hdn v)
   have key:∀ u w',nrm n (fun e' w'=>(X.contains j=true→C w')∧AL P n ops X C K f ((L.setIfInBounds i true).setIfInBounds j true) e' w') .normal ((a.put (some d) v).put oj.dst u) w' →
     nrm n (fun e' w'=>(X.contains j=true→C w')∧AL P n ops X C K (f+1) (L.setIfInBounds j true) e' w') .normal (a.put oj.dst u) w':=by
    rintro u w' ⟨_,e1,he1,hc1,hA1⟩
    have hm2:Mt n (te (a.put oj.dst u)) (a.put oj.dst u):=wz (by rw [rr,ha.size]) (by rw [sO,ha.defers])
    have hcm:(a.put (some d) v).put oj.dst u=(a.put oj.dst u).put (some d) v:=Act.put_comm a v u (fun x hx=>by
     have:=h2 d hdst
     simp only [Option.some.injEq] at hx;subst hx;exact this)
    rw [hcm] at he1
    obtain rfl:=he1.uniq (hm2.put hdn v)
    refine ⟨rfl,_,hm2,hc1,ih _ _ _ (hc1 hap.2) (vt hf) (jU (Ne.symm hji) hr) ?_ (by rw [← set_comm];exact hA1)⟩
    intro b hb
    have hbt:b.tmps=(a.put oj.dst u).tmps:=np (fun t=>by rw [hb.get t];rfl) (by rw [hb.size,hm2.size])
    have hbe:b.eval=(a.put oj.dst u).eval:=by rw [hb.eval,hm2.eval]
    rw [hbt,hbe,execOp_put o hso a oj.dst u h3,wanted_put o a oj.dst u h3]
    exact hy a ha
   unfold wpList at h4 ⊢
   have hwe:=wanted_put (ops:=ops) oj a (some d) v (fun x hx=>by simp only [Option.some.injEq] at hx;subst hx;exact h1 d hdst)
   have hxe:=execOp_put oj hsj a (some d) v (fun x hx=>by simp only [Option.some.injEq] at hx;subst hx;exact h1 d hdst)
   rw [hwe] at h4
   split
   ·rename_i hw
    rw [if_pos hw] at h4
    rcases h4 with h5 | ⟨_,h5⟩
    ·refine .inl ?_
     unfold Oper.wp at h5 ⊢
     rw [hxe] at h5
     refine rF key ?_ h5
     rintro dd u w' ⟨_,e1,he1,_⟩
     have:=he1.defers
     cases hdj:oj.dst <;> simp [Act.put,hdj] at this
    ·exact absurd h5 pD
   ·rename_i hw
    rw [if_neg hw] at h4
    exact key _ _ h4
def kZ (ops:Array Oper) (X T:List Nat) (L:Array Bool) (i:Nat) (o:Oper):Bool :=
 (List.range ops.size).all fun j=>Nat.beq j i||(match ops[j]? with
  | some oj=>if T.contains j then !L.getD j true&&oj.after.any (fun e=>Region.binds .any e&&Nat.blt e.on ops.size&&(Nat.beq e.on i||T.contains e.on)) else L.getD j true||(o.apart ops oj&&X.contains j)
  | none=>true)
theorem uk {T:List Nat} {L:Array Bool} {i j:Nat} {o:Oper} (hT:T.contains j=false) (h:kZ ops X T L i o=true):kZ ops X T (L.setIfInBounds j true) i o=true:=by
 unfold kZ at *
 rw [List.all_eq_true] at *
 intro k hk
 have:=h k hk
 by_cases hkj:k=j
 ·subst hkj
  have hlt:k<ops.size:=by simpa using hk
  rw [Array.getElem?_eq_getElem hlt]
  dsimp only
  rw [hT,if_neg (by decide),Bool.or_eq_true]
  refine .inr ?_
  by_cases hkl:k<L.size
  ·simp [hkl]
  ·have hn:L[k]? = none:=Array.getElem?_eq_none (by omega)
   simp [hkl]
 ·rw [kC hkj];exact this
theorem vS (T:List Nat) (hsel:jG ops=true) (i:Nat) {o:Oper} {d:Nat} {v:Value} (hi:ops[i]? = some o) (hdst:o.dst=some d) (hdn:d<n) :
  ∀ (f:Nat) (L:Array Bool) (e:Env) (w:World),C w→kZ ops X T L i o=true→i∈Region.ready .any ops L→SV P n ops C o e v→AL P n ops X C K f (L.setIfInBounds i true) (upd e d v) w→AL P n ops X C K (f+1) L e w:=by
 intro f
 induction f with
 | zero =>
  intro L e w hC hf hr hy H
  refine ⟨fun h=>(by rw [h] at hr;cases hr),fun j hj=>?_⟩
  by_cases hji:j=i
  ·subst hji
   refine ⟨o,hi,fun a ha=>?_⟩
   unfold wpList
   rcases hy a ha with ⟨hw,hv⟩ | ⟨hw,rfl⟩
   ·rw [if_pos hw]
    refine .inl ?_
    unfold Oper.wp
    rw [hv w hC]
    simp only [Oper.upon,hdst]
    exact ⟨rfl,_,ha.put hdn v,fun _=>hC,H⟩
   ·rw [if_neg (by simp [hw])]
    rw [hdst]
    exact ⟨rfl,_,ha.put hdn _,fun _=>hC,H⟩
  ·have:=jU (i:=i) hji hj
   rw [H.1] at this;cases this
 | succ f ih =>
  intro L e w hC hf hr hy H
  refine ⟨fun h=>(by rw [h] at hr;cases hr),fun j hj=>?_⟩
  by_cases hji:j=i
  ·subst hji
   refine ⟨o,hi,fun a ha=>?_⟩
   unfold wpList
   rcases hy a ha with ⟨hw,hv⟩ | ⟨hw,rfl⟩
   ·rw [if_pos hw]
    refine .inl ?_
    unfold Oper.wp
    rw [hv w hC]
    simp only [Oper.upon,hdst]
    exact ⟨rfl,_,ha.put hdn v,fun _=>hC,H⟩
   ·rw [if_neg (by simp [hw])]
    rw [hdst]
    exact ⟨rfl,_,ha.put hdn _,fun _=>hC,H⟩
  ·obtain ⟨oj,hoj,hE⟩:=H.2 j (jU hji hj)
   have hjL:=(jP.1 hj)
   have hiL:=(jP.1 hr)
   have hpend:L.getD i false≠true:=fun h6=>by
    have:=hiL.1
    cases hx:L[i]? with
    | none=>simp [Array.getD_eq_getD_getElem?,hx] at this
    | some b=>simp [Array.getD_eq_getD_getElem?,hx] at this h6;simp [this] at h6
   have hap:T.contains j=false∧o.apart ops oj=true∧X.contains j=true:=by
    have h1:=hf
    unfold kZ at h1
    rw [List.all_eq_true] at h1
    have h2:=h1 j (by simp [(Array.getElem?_eq_some_iff.1 hoj).1])
    have hb:Nat.beq j i=false:=mb hji
    rw [hb,Bool.false_or,hoj] at h2
    dsimp only at h2
    cases hT:T.contains j with
    | true =>
     exfalso
     rw [hT,if_pos rfl,Bool.and_eq_true] at h2
     obtain ⟨_,h3,h4⟩:=hjL.2
     rw [hoj] at h3;obtain rfl:=Option.some.inj h3
     have h2':=h2.2
     rw [Array.any_eq_true'] at h2'
     obtain ⟨ed,hm,h5⟩:=h2'
     rw [Bool.and_eq_true,Bool.and_eq_true,Bool.or_eq_true] at h5
     have h6:=h4 ed hm h5.1.1
     rcases h5.2 with h7 | h7
     ·rw [Nat.eq_of_beq_eq_true h7] at h6;exact hpend h6
     ·have hlt:ed.on<ops.size:=by simpa using h5.1.2
      have h8:=h1 ed.on (by simpa using hlt)
      rw [Array.getElem?_eq_getElem hlt] at h8
      dsimp only at h8
      rw [if_pos h7,Bool.or_eq_true,Bool.and_eq_true] at h8
      rcases h8 with h8 | ⟨h8,_⟩
      ·rw [Nat.eq_of_beq_eq_true h8] at h6;exact hpend h6
      ·cases hx:L[ed.on]? with
       | none=>simp [Array.getD_eq_getD_getElem?,hx] at h6
       | some b=>simp [Array.getD_eq_getD_getElem?,hx] at h8 h6;simp [h6] at h8
    | false =>
     rw [hT,if_neg (by decide),Bool.or_eq_true,Bool.and_eq_true] at h2
     rcases h2 with h2 | h2
     ·rw [hjL.1] at h2;cases h2
     ·exact ⟨rfl,h2⟩
   obtain ⟨h1,h2,h3⟩:=Oper.apart_spec hap.2.1
   have hso:=mF hsel hi
   have hsj:=mF hsel hoj
   refine ⟨oj,hoj,fun a ha=>?_⟩
   have h4:=hE _ (ha.put hdn v)
   have key:∀ u w',nrm n (fun e' w'=>(X.contains j=true→C w')∧AL P n ops X C K f ((L.setIfInBounds i true).setIfInBounds j true) e' w') .normal ((a.put (some d) v).put oj.dst u) w' →
     nrm n (fun e' w'=>(X.contains j=true→C w')∧AL P n ops X C K (f+1) (L.setIfInBounds j true) e' w') .normal (a.put oj.dst u) w':=by
    rintro u w' ⟨_,e1,he1,hc1,hA1⟩
    have hm2:Mt n (te (a.put oj.dst u)) (a.put oj.dst u):=wz (by rw [rr,ha.size]) (by rw [sO,ha.defers])
    have hcm:(a.put (some d) v).put oj.dst u=(a.put oj.dst u).put (some d) v:=Act.put_comm a v u (fun x hx=>by
     have:=h2 d hdst
     simp only [Option.some.injEq] at hx;subst hx;exact this)
    rw [hcm] at he1
    obtain rfl:=he1.uniq (hm2.put hdn v)
    refine ⟨rfl,_,hm2,hc1,ih _ _ _ (hc1 hap.2.2) (uk hap.1 hf) (jU (Ne.symm hji) hr) ?_ (by rw [← set_comm];exact hA1)⟩
    intro b hb
    have hbt:b.tmps=(a.put oj.dst u).tmps:=np (fun t=>by rw [hb.get t];rfl) (by rw [hb.size,hm2.size])
    have hbe:b.eval=(a.put oj.dst u).eval:=by rw [hb.eval,hm2.eval]
    rw [hbt,hbe,execOp_put o hso a oj.dst u h3,wanted_put o a oj.dst u h3]
    exact hy a ha
   unfold wpList at h4 ⊢
   have hwe:=wanted_put (ops:=ops) oj a (some d) v (fun x hx=>by simp only [Option.some.injEq] at hx;subst hx;exact h1 d hdst)
   have hxe:=execOp_put oj hsj a (some d) v (fun x hx=>by simp only [Option.some.injEq] at hx;subst hx;exact h1 d hdst)
   rw [hwe] at h4
   split
   ·rename_i hw
    rw [if_pos hw] at h4
    rcases h4 with h5 | ⟨_,h5⟩
    ·refine .inl ?_
     unfold Oper.wp at h5 ⊢
     rw [hxe] at h5
     refine rF key ?_ h5
     rintro dd u w' ⟨_,e1,he1,_⟩
     have:=he1.defers
     cases hdj:oj.dst <;> simp [Act.put,hdj] at this
    ·exact absurd h5 pD
   ·rename_i hw
    rw [if_neg hw] at h4
    exact key _ _ h4
theorem aM (T:List Nat) (hsel:jG ops=true) (i:Nat) {o:Oper} {d:Nat} {v:Value} {f:Nat} {L:Array Bool} {e:Env} {w:World} (hi:ops[i]? = some o) (hdst:o.dst=some d) (hdn:d<n) (hC:C w) (hf:kZ ops X T L i o=true) (hr:(Region.ready .any ops L).contains i=true)
  (hy:SV P n ops C o e v) (hK:AL P n ops X C K f (L.setIfInBounds i true) (upd e d v) w):AL P n ops X C K (f+1) L e w :=
 vS T hsel i hi hdst hdn f L e w hC hf (by simpa using hr) hy hK
theorem bj {f:Nat} {L:Array Bool} {e:Env} {w:World} (h:Region.ready .any ops L=[]) (hK:K e w):AL P n ops X C K f L e w:=by
 cases f with
 | zero=>exact ⟨h,hK⟩
 | succ f=>exact ⟨fun _=>hK,fun i hi=>by rw [h] at hi;cases hi⟩
theorem yr (i:Nat) {f:Nat} {L:Array Bool} {e:Env} {w:World} {o:Oper} (hr:Region.ready .any ops L=[i]) (ho:ops[i]? = some o)
  (h:EL P n ops (fun e' w'=>(X.contains i=true→C w')∧AL P n ops X C K f (L.setIfInBounds i true) e' w') [o] e w):AL P n ops X C K (f+1) L e w :=
 ⟨fun h0=>(by rw [hr] at h0;cases h0),fun j hj=>by
  rw [hr] at hj
  have e:j=i:=by simpa using hj
  rw [e]
  exact ⟨o,ho,h⟩⟩
theorem ap {o:Oper} {e:Env} {v:Value} (hg:o.guard=none) (h:∀ w',C w'→PV P o e w' v):SV P n ops C o e v:=fun a ha=>.inl ⟨by simp [Region.wanted,hg],fun w' hw'=>by rw [ha.eval];exact h w' hw' w' (Ext.refl _)⟩
theorem wj {dst:Option Nat} {op:Op} {ty:TypeId} {pos:String} {af:Array Edge} {j:Nat} {b c:Bool} {e:Env} {v:Value} (hy:yld ops e j=some c) (hc:c=b) (h:∀ w',C w'→PV P ⟨dst,op,ty,pos,af,none⟩ e w' v):SV P n ops C ⟨dst,op,ty,pos,af,some (j,b)⟩ e v:=fun a ha=>.inl ⟨by simp [Region.wanted,jp ha hy,hc],fun w' hw'=>by
 rw [ha.eval]
 exact h w' hw' w' (Ext.refl _)⟩
theorem bl {dst:Option Nat} {op:Op} {ty:TypeId} {pos:String} {af:Array Edge} {j:Nat} {b b' c:Bool} {e:Env} (hy:yld ops e j=some c) (hc:c=b) (hb:(b == b')=false):SV P n ops C ⟨dst,op,ty,pos,af,some (j,b')⟩ e undef:=fun a ha=>.inr ⟨by simp [Region.wanted,jp ha hy,hc];simpa using hb,rfl⟩
theorem vY (hsel:jG ops=true) (i:Nat) {o:Oper} {d:Nat} {v:Value} {f:Nat} {L:Array Bool} {e:Env} {w:World} (hi:ops[i]? = some o) (hdst:o.dst=some d) (hdn:d<n) (hC:C w) (hf:mG ops X L i o=true) (hr:(Region.ready .any ops L).contains i=true)
  (hy:SV P n ops C o e v) (hK:AL P n ops X C K f (L.setIfInBounds i true) (upd e d v) w):AL P n ops X C K (f+1) L e w :=
 yh hsel i hi hdst hdn f L e w hC hf (by simpa using hr) hy hK
section
variable {wA:World} {v:Value} {d:Nat} {ty:TypeId} {pos:String} {af:Array Edge} {x y:Operand} {α:Type} {R:Rep α} {E E':TypeId} {f:Nat} {L:Array Bool} {e:Env} {w:World}
theorem fK (hsel:jG ops=true) (i:Nat) {t:TypeId} [SliceT P t E'] {zz:List Value} {m bytes:Nat} [ElemT P E' zz m bytes] {xs:List α} (hi':ops[i]? = some ⟨some d,.indexAddr t x y,ty,pos,af,none⟩) (hC:C w) (hf:mG ops X L i ⟨some d,.indexAddr t x y,ty,pos,af,none⟩=true) (hrd:(Region.ready .any ops L).contains i=true)
  (hs:ev e x=v) (hr:(aG R E).rd wA [v] xs) (hn:R.sz=m) (hpos:0<m) {k:IntKind} {j:Int} (hi:ev e y=.int k j) {u:α} (h:ix xs j=some u) (hd:d<n)
  (hK:∀ b off ec,R.rd wA ec u→(∀ j c,ec[j]? = some c→wA.cell? ⟨b,off+j,none⟩=some c)→AL P n ops X C K f (L.setIfInBounds i true) (upd e d (.pointer (some ⟨b,off,none⟩))) w):AL P n ops X C K (f+1) L e w:=by
 obtain ⟨b,off,ec,h1,h2,h3⟩:=ms (P:=P) (d:=some d) (ty:=ty) (pos:=pos) (af:=af) (t:=t) hs hr hn hpos hi h
 exact vY hsel i hi' rfl hd hC hf hrd (ap rfl fun w' _=>h3 w') (hK b off ec h1 h2)
end
end
class FlatR {α:Type} (R:Rep α) (f:outParam (α→Value)):Prop where
 h:∀ {w:World} {cs:List Value} {x:α},R.rd w cs x→cs=[f x]
instance:FlatR bW (Value.int .i64):=⟨fun h=>h⟩
instance:FlatR u8R (Value.int .u8):=⟨fun h=>h⟩
instance:FlatR lO Value.bool:=⟨fun h=>h⟩
section
variable {P:Program} {n:Nat} {ops:Array Oper} {K:Env→World→Prop} {KQ:Env→Prop} {rest:List Oper} {e:Env} {w w0:World} {v:Value} {d:Nat} {ty:TypeId} {pos:String} {af:Array Edge} {Γ:List Asn} {x y:Operand} {α:Type} {R:Rep α} {E:TypeId} {f:α→Value}
theorem Sat.ownCell (i:Nat) [hf:FlatR R f] {xs:List α} (hS:Sat w0 w Γ) (hi:Γ[i]? = some (Own (aG R E) [v] xs)) {g cap ln:Nat} (hv:v=.slice (some ⟨g,0,none⟩) ln cap) {j:Int} {u:α} (h:ix xs j=some u):w.cell? ⟨g,j.toNat*1,none⟩=some (f u):=by
 obtain ⟨k,rfl,hk,rfl⟩:=eQ h
 obtain ⟨fp,ho,_⟩:=(hS.top i hi).head
 rcases ho with ⟨_,h2,_⟩ | ⟨g',cap',cur,ccs,f2,hv',hg,h1,h2,h3,h4,h5,rfl⟩
 ·subst h2;simp at hk
 subst hv
 simp at hv'
 obtain ⟨rfl,rfl,rfl⟩:=hv'
 obtain ⟨ec,hec,hcc⟩:=lv (gB h5) k hk
 obtain rfl:=hf.h hec
 have hsz:R.sz=1:=by have:=R.rd_len hec;simpa using this.symm
 have h0:=hcc 0 _ rfl
 rw [cell_of_row w g _ cur E (0,0) hg,← Array.getElem?_toList]
 rw [← h4,List.getElem?_take] at h0
 simp only [Int.toNat_natCast]
 rw [hsz] at h0
 split at h0
 ·simpa using h0
 ·cases h0
theorem eE (i:Nat) {xs:List α} (hS:Sat w0 w Γ) (hi:Γ[i]? = some (Own (aG R E) [v] xs)) {j:Int} {u:α} (h:ix xs j=some u):∃ g cap,v=.slice (some ⟨g,0,none⟩) xs.length cap:=by
 obtain ⟨k,rfl,hk,rfl⟩:=eQ h
 rcases (hS.top i hi).shape with ⟨_,h2⟩ | ⟨g,cap,h⟩
 ·subst h2;simp at hk
 ·exact ⟨g,cap,h⟩
theorem dH {d:Option Nat} {t:TypeId} [ht:SliceT P t E] {zz:List Value} {bytes:Nat} [hz:ElemT P E zz 1 bytes] {xs:List α} (hs:ev e x=v) {g cap:Nat} (hv:v=.slice (some ⟨g,0,none⟩) xs.length cap) {k:IntKind} {j:Int} (hi:ev e y=.int k j) {u:α} (h:ix xs j=some u) :
  PV P ⟨d,.indexAddr t x y,ty,pos,af,none⟩ e w (.pointer (some ⟨g,j.toNat*1,none⟩)):=fun w' _=>by
 obtain ⟨k',rfl,hk,rfl⟩:=eQ h
 subst hv
 have hz:=hz.h
 cases hq:P.info? E with
 | none=>simp [hq] at hz
 | some inf =>
  simp [hq] at hz
  have hsz:inf.size=1:=hz.2.1
  unfold execOp
  simp [hs,hi,Instr.indexAt,asIntOf,run_underlying ht.h,sizeOf,typeInfo,hq,hk,Addr.add_lit,hsz]
end
theorem zW:Goes Tryz.prog 7:=⟨_,Tryz.func7,by kernel_rfl,by kernel_rfl⟩
theorem yQ:Goes Tryz.prog 10:=⟨_,Tryz.func10,by kernel_rfl,by kernel_rfl⟩
theorem zt:Goes Tryz.prog 18:=⟨_,Tryz.func18,by kernel_rfl,by kernel_rfl⟩
theorem yz:Goes Tryz.prog 19:=⟨_,Tryz.func19,by kernel_rfl,by kernel_rfl⟩
theorem uP:Goes Tryz.prog 20:=⟨_,Tryz.func20,by kernel_rfl,by kernel_rfl⟩
theorem uT:Goes Tryz.prog 21:=⟨_,Tryz.func21,by kernel_rfl,by kernel_rfl⟩
theorem t9:Goes Tryz.prog 22:=⟨_,Tryz.func22,by kernel_rfl,by kernel_rfl⟩
theorem ub:Goes Tryz.prog 23:=⟨_,Tryz.func23,by kernel_rfl,by kernel_rfl⟩
theorem yq:Goes Tryz.prog 24:=⟨_,Tryz.func24,by kernel_rfl,by kernel_rfl⟩
theorem gI:Goes Tryz.prog 35:=⟨_,Tryz.func35,by kernel_rfl,by kernel_rfl⟩
theorem yV:Goes Tryz.prog 36:=⟨_,Tryz.func36,by kernel_rfl,by kernel_rfl⟩
theorem ri:Goes Tryz.prog 38:=⟨_,Tryz.func38,by kernel_rfl,by kernel_rfl⟩
theorem h9:Goes Tryz.prog 39:=⟨_,Tryz.func39,by kernel_rfl,by kernel_rfl⟩
theorem zA:Goes Tryz.prog 40:=⟨_,Tryz.func40,by kernel_rfl,by kernel_rfl⟩
theorem yH:Goes Tryz.prog 41:=⟨_,Tryz.func41,by kernel_rfl,by kernel_rfl⟩
theorem zI:Goes Tryz.prog 45:=⟨_,Tryz.func45,by kernel_rfl,by kernel_rfl⟩
theorem y8:Goes Tryz.prog 46:=⟨_,Tryz.func46,by kernel_rfl,by kernel_rfl⟩
theorem ze:Goes Tryz.prog 47:=⟨_,Tryz.func47,by kernel_rfl,by kernel_rfl⟩
theorem ry:Goes Tryz.prog 48:=⟨_,Tryz.func48,by kernel_rfl,by kernel_rfl⟩
theorem po:Goes Tryz.prog 49:=⟨_,Tryz.func49,by kernel_rfl,by kernel_rfl⟩
theorem pQ:Goes Tryz.prog 50:=⟨_,Tryz.func50,by kernel_rfl,by kernel_rfl⟩
theorem rM:Goes Tryz.prog 51:=⟨_,Tryz.func51,by kernel_rfl,by kernel_rfl⟩
theorem vk:Goes Tryz.prog 52:=⟨_,Tryz.func52,by kernel_rfl,by kernel_rfl⟩
theorem yy:Goes Tryz.prog 53:=⟨_,Tryz.func53,by kernel_rfl,by kernel_rfl⟩
theorem ud:Goes Tryz.prog 54:=⟨_,Tryz.func54,by kernel_rfl,by kernel_rfl⟩
theorem ug:Goes Tryz.prog 55:=⟨_,Tryz.func55,by kernel_rfl,by kernel_rfl⟩
theorem uC:Goes Tryz.prog 56:=⟨_,Tryz.func56,by kernel_rfl,by kernel_rfl⟩
theorem y9:Goes Tryz.prog 57:=⟨_,Tryz.func57,by kernel_rfl,by kernel_rfl⟩
theorem zp:Goes Tryz.prog 58:=⟨_,Tryz.func58,by kernel_rfl,by kernel_rfl⟩
theorem yD:Goes Tryz.prog 59:=⟨_,Tryz.func59,by kernel_rfl,by kernel_rfl⟩
theorem vm:Goes Tryz.prog 60:=⟨_,Tryz.func60,by kernel_rfl,by kernel_rfl⟩
theorem u9:Goes Tryz.prog 70:=⟨_,Tryz.func70,by kernel_rfl,by kernel_rfl⟩
theorem uH:Goes Tryz.prog 71:=⟨_,Tryz.func71,by kernel_rfl,by kernel_rfl⟩
theorem uL:Goes Tryz.prog 72:=⟨_,Tryz.func72,by kernel_rfl,by kernel_rfl⟩
theorem y4:Goes Tryz.prog 73:=⟨_,Tryz.func73,by kernel_rfl,by kernel_rfl⟩
theorem yY:Goes Tryz.prog 76:=⟨_,Tryz.func76,by kernel_rfl,by kernel_rfl⟩
theorem zi:Goes Tryz.prog 77:=⟨_,Tryz.func77,by kernel_rfl,by kernel_rfl⟩
theorem yE:Goes Tryz.prog 78:=⟨_,Tryz.func78,by kernel_rfl,by kernel_rfl⟩
theorem yZ:Goes Tryz.prog 79:=⟨_,Tryz.func79,by kernel_rfl,by kernel_rfl⟩
theorem ue:Goes Tryz.prog 80:=⟨_,Tryz.func80,by kernel_rfl,by kernel_rfl⟩
theorem yP:Goes Tryz.prog 81:=⟨_,Tryz.func81,by kernel_rfl,by kernel_rfl⟩
theorem yp:Goes Tryz.prog 84:=⟨_,Tryz.func84,by kernel_rfl,by kernel_rfl⟩
theorem kc:Goes Tryz.prog 85:=⟨_,Tryz.func85,by kernel_rfl,by kernel_rfl⟩
theorem pg:Goes Tryz.prog 86:=⟨_,Tryz.func86,by kernel_rfl,by kernel_rfl⟩
theorem zk:Goes Tryz.prog 87:=⟨_,Tryz.func87,by kernel_rfl,by kernel_rfl⟩
theorem yU:Goes Tryz.prog 88:=⟨_,Tryz.func88,by kernel_rfl,by kernel_rfl⟩
theorem oZ:Goes Tryz.prog 89:=⟨_,Tryz.func89,by kernel_rfl,by kernel_rfl⟩
theorem vi:Goes Tryz.prog 90:=⟨_,Tryz.func90,by kernel_rfl,by kernel_rfl⟩
theorem zb:Goes Tryz.prog 91:=⟨_,Tryz.func91,by kernel_rfl,by kernel_rfl⟩
theorem zf:Goes Tryz.prog 92:=⟨_,Tryz.func92,by kernel_rfl,by kernel_rfl⟩
theorem md:Goes Tryz.prog 93:=⟨_,Tryz.func93,by kernel_rfl,by kernel_rfl⟩
theorem o3:Goes Tryz.prog 94:=⟨_,Tryz.func94,by kernel_rfl,by kernel_rfl⟩
theorem pO:Goes Tryz.prog 95:=⟨_,Tryz.func95,by kernel_rfl,by kernel_rfl⟩
theorem uU:Goes Tryz.prog 96:=⟨_,Tryz.func96,by kernel_rfl,by kernel_rfl⟩
theorem pR:Goes Tryz.prog 97:=⟨_,Tryz.func97,by kernel_rfl,by kernel_rfl⟩
theorem o8:Goes Tryz.prog 98:=⟨_,Tryz.func98,by kernel_rfl,by kernel_rfl⟩
theorem ru:Goes Tryz.prog 99:=⟨_,Tryz.func99,by kernel_rfl,by kernel_rfl⟩
theorem fU:Goes Tryz.prog 100:=⟨_,Tryz.func100,by kernel_rfl,by kernel_rfl⟩
theorem n0:Goes Tryz.prog 101:=⟨_,Tryz.func101,by kernel_rfl,by kernel_rfl⟩
theorem xU:Goes Tryz.prog 108:=⟨_,Tryz.func108,by kernel_rfl,by kernel_rfl⟩
theorem nN:Goes Tryz.prog 116:=⟨_,Tryz.func116,by kernel_rfl,by kernel_rfl⟩
theorem nJ:Goes Tryz.prog 117:=⟨_,Tryz.func117,by kernel_rfl,by kernel_rfl⟩
theorem nP:Goes Tryz.prog 118:=⟨_,Tryz.func118,by kernel_rfl,by kernel_rfl⟩
theorem nQ:Goes Tryz.prog 119:=⟨_,Tryz.func119,by kernel_rfl,by kernel_rfl⟩
theorem sv:Goes Tryz.prog 120:=⟨_,Tryz.func120,by kernel_rfl,by kernel_rfl⟩
theorem w9:Goes Tryz.prog 121:=⟨_,Tryz.func121,by kernel_rfl,by kernel_rfl⟩
theorem sG:Goes Tryz.prog 122:=⟨_,Tryz.func122,by kernel_rfl,by kernel_rfl⟩
theorem xO:Goes Tryz.prog 123:=⟨_,Tryz.func123,by kernel_rfl,by kernel_rfl⟩
theorem lm:Goes Tryz.prog 124:=⟨_,Tryz.func124,by kernel_rfl,by kernel_rfl⟩
theorem ql:Goes Tryz.prog 125:=⟨_,Tryz.func125,by kernel_rfl,by kernel_rfl⟩
theorem qf:Goes Tryz.prog 126:=⟨_,Tryz.func126,by kernel_rfl,by kernel_rfl⟩
theorem sA:Goes Tryz.prog 127:=⟨_,Tryz.func127,by kernel_rfl,by kernel_rfl⟩
theorem xN:Goes Tryz.prog 128:=⟨_,Tryz.func128,by kernel_rfl,by kernel_rfl⟩
theorem xx:Goes Tryz.prog 129:=⟨_,Tryz.func129,by kernel_rfl,by kernel_rfl⟩
theorem wM:Goes Tryz.prog 130:=⟨_,Tryz.func130,by kernel_rfl,by kernel_rfl⟩
theorem xY:Goes Tryz.prog 131:=⟨_,Tryz.func131,by kernel_rfl,by kernel_rfl⟩
theorem mg:Goes Tryz.prog 132:=⟨_,Tryz.func132,by kernel_rfl,by kernel_rfl⟩
theorem sK:Goes Tryz.prog 133:=⟨_,Tryz.func133,by kernel_rfl,by kernel_rfl⟩
theorem nY:Goes Tryz.prog 134:=⟨_,Tryz.func134,by kernel_rfl,by kernel_rfl⟩
theorem xo:Goes Tryz.prog 135:=⟨_,Tryz.func135,by kernel_rfl,by kernel_rfl⟩
theorem qh:Goes Tryz.prog 136:=⟨_,Tryz.func136,by kernel_rfl,by kernel_rfl⟩
theorem xn:Goes Tryz.prog 137:=⟨_,Tryz.func137,by kernel_rfl,by kernel_rfl⟩
theorem pT:Goes Tryz.prog 138:=⟨_,Tryz.func138,by kernel_rfl,by kernel_rfl⟩
theorem xq:Goes Tryz.prog 146:=⟨_,Tryz.func146,by kernel_rfl,by kernel_rfl⟩
theorem xh:Goes Tryz.prog 147:=⟨_,Tryz.func147,by kernel_rfl,by kernel_rfl⟩
theorem xg:Goes Tryz.prog 148:=⟨_,Tryz.func148,by kernel_rfl,by kernel_rfl⟩
theorem sX:Goes Tryz.prog 149:=⟨_,Tryz.func149,by kernel_rfl,by kernel_rfl⟩
theorem nO:Goes Tryz.prog 150:=⟨_,Tryz.func150,by kernel_rfl,by kernel_rfl⟩
theorem xe:Goes Tryz.prog 151:=⟨_,Tryz.func151,by kernel_rfl,by kernel_rfl⟩
theorem qn:Goes Tryz.prog 152:=⟨_,Tryz.func152,by kernel_rfl,by kernel_rfl⟩
theorem sM:Goes Tryz.prog 153:=⟨_,Tryz.func153,by kernel_rfl,by kernel_rfl⟩
theorem p6:Goes Tryz.prog 154:=⟨_,Tryz.func154,by kernel_rfl,by kernel_rfl⟩
theorem wP:Goes Tryz.prog 155:=⟨_,Tryz.func155,by kernel_rfl,by kernel_rfl⟩
theorem nW:Goes Tryz.prog 156:=⟨_,Tryz.func156,by kernel_rfl,by kernel_rfl⟩
theorem sY:Goes Tryz.prog 157:=⟨_,Tryz.func157,by kernel_rfl,by kernel_rfl⟩
theorem wJ:Goes Tryz.prog 158:=⟨_,Tryz.func158,by kernel_rfl,by kernel_rfl⟩
theorem nS:Goes Tryz.prog 161:=⟨_,Tryz.func161,by kernel_rfl,by kernel_rfl⟩
theorem sl:Goes Tryz.prog 162:=⟨_,Tryz.func162,by kernel_rfl,by kernel_rfl⟩
theorem nU:Goes Tryz.prog 163:=⟨_,Tryz.func163,by kernel_rfl,by kernel_rfl⟩
theorem sL:Goes Tryz.prog 164:=⟨_,Tryz.func164,by kernel_rfl,by kernel_rfl⟩
theorem qc:Goes Tryz.prog 165:=⟨_,Tryz.func165,by kernel_rfl,by kernel_rfl⟩
theorem qp:Goes Tryz.prog 166:=⟨_,Tryz.func166,by kernel_rfl,by kernel_rfl⟩
section
open Go.RowKit Go.ChangeShapes Go.WideShapes Go.ChangeAt
def qX {α:Type} (P:Program) (R:Rep α) (T:TypeId):Prop :=
 ∀ {H:Type} (enc:TypeId × Value→H) (w:World) (base:Nat) (spare:Nat→Bool) (held:Bool) (fuel:Nat) (cs:List Value) (x:DataW H × List MemPlace),DataW.trod enc P w base spare held fuel T cs=some x→∃ y,R.rd w cs y

theorem sj {α:Type} {P:Program} {R:Rep α} {T e E:TypeId} (ht:P.underlying T=some (.slice e)) (hs:P.cellsOf e=R.sz) (hpos:0<R.sz) (ho:qX P R e):qX P (aG R E) T:=by
 intro H enc w base spare held fuel cs x h
 rcases DataW.trod_slice ht h with ⟨rfl,_⟩ | ⟨a,len,cap,elems,rst,n,_,rfl,_,hb,hlc,hm,hel,hev,_⟩
 ·exact ⟨[],none,0,[],rfl,Nat.le_refl _,Nat.zero_le _,fun _=>rfl,rfl,.inl rfl⟩
 ·have hone:∀ i,i<len→∃ ec y,R.rd w ec y∧∀ j c,ec[j]? = some c→w.cell? (a.add (i*R.sz) |>.add j)=some c:=by
   intro i hi
   have h1:=hev i hi
   rw [List.getElem?_eq_getElem (by omega),hs] at h1
   obtain ⟨ec,h2,h3⟩:=Option.bind_eq_some_iff.1 h1
   obtain ⟨y,hy⟩:=ho enc w base spare held n ec _ h3
   obtain ⟨_,h4,h5⟩:=World.cells?_some h2
   exact ⟨ec,y,hy,fun j c hj=>by rw [h5 j (by have:=(List.getElem?_eq_some_iff.1 hj).1;omega)];exact hj⟩
  by_cases hl0:len=0
  ·subst hl0
   exact ⟨[],some a,cap,[],rfl,hlc,hm,by simp,rfl,.inl rfl⟩
  obtain ⟨b,off,spot⟩:=a
  have hspot:spot=none:=by
   obtain ⟨ec,y,hy,hc⟩:=hone 0 (by omega)
   have hl:=R.rd_len hy
   have h0:=hc 0 ec[0] (by simp)
   simp only [Nat.zero_mul,Addr.add,if_true] at h0
   cases spot with
   | none=>rfl
   | some s =>
    unfold World.cell? at h0
    split at h0 <;> simp at h0
  subst hspot
  have hall:∀ k,k≤len→∃ ys ccs,ys.length=k∧rdL R w ccs ys∧∀ j c,ccs[j]? = some c→w.cell? ⟨b,off+j,none⟩=some c:=by
   intro k
   induction k with
   | zero=>intro _;exact ⟨[],[],rfl,rfl,by simp⟩
   | succ k ih =>
    intro hk
    obtain ⟨ys,ccs,h1,h2,h3⟩:=ih (by omega)
    obtain ⟨ec,y,hy,hc⟩:=hone k (by omega)
    refine ⟨ys++[y],ccs++ec,by simp [h1],pE (ys:=[y]) ⟨ec,[],by simp,hy,rfl⟩ h2,fun j c hj=>?_⟩
    have hcl:=iz h2
    by_cases hj1:j<ccs.length
    ·rw [List.getElem?_append_left hj1] at hj;exact h3 j c hj
    ·rw [List.getElem?_append_right (by omega)] at hj
     have:=hc (j-ccs.length) c hj
     rw [Addr.add_lit,Addr.add_lit] at this
     rw [show off+j=off+k*R.sz+(j-ccs.length) by rw [hcl,h1] at *;omega]
     exact this
  obtain ⟨ys,ccs,h1,h2,h3⟩:=hall len (Nat.le_refl _)
  exact ⟨ys,some ⟨b,off,none⟩,cap,ccs,by rw [h1],by omega,hm,by simp,h2,.inr ⟨b,off,rfl,h3⟩⟩
def rV (n:Int):Prop:=0≤n∧n≤255
def u8F:Rep Int where
 sz:=1
 rd _ cs n:=cs=[.int .u8 n]∧rV n
 own _ cs n fp:=(cs=[.int .u8 n]∧rV n)∧fp=[]
 rd_len h:=by rw [h.1];rfl
 rd_one h:=by rw [h.1];simp [Value.oneCell']
 rd_ext h _:=h
 own_rd h:=h.1
 own_ext h _:=h
 own_lt h:=by rw [h.2];simp
theorem wf8 {n:Int} (h:(Lit.int .u8 n).wf=true):rV n:=by
 unfold Lit.wf at h
 simp only [Bool.and_eq_true,decide_eq_true_eq] at h
 exact ⟨h.1,h.2⟩
theorem uK {P:Program} {T:TypeId} (ht:P.underlying T=some (.int .u8)):qX P u8F T:=by
 intro H enc w base spare held fuel cs x h
 obtain ⟨n,rfl,_,hw⟩:=DataW.trod_int ht h
 exact ⟨n,rfl,wf8 hw⟩
theorem uc {w:World}:∀ {xs:List Int} {ccs:List Value},rdL u8F w ccs xs→rdL u8R w ccs xs∧∀ v∈xs,rV v
 | [],_,h=>⟨h,by simp⟩
 | x :: xs,_,h=>by
  obtain ⟨ec,rest,rfl,h1,h2⟩:=h
  obtain ⟨g1,g2⟩:=uc h2
  refine ⟨⟨ec,rest,rfl,h1.1,g1⟩,fun v hv=>?_⟩
  rcases List.mem_cons.1 hv with rfl | hv
  ·exact h1.2
  ·exact g2 v hv
theorem wb {E:TypeId} {w:World} {cs:List Value} {xs:List Int} (h:(aG u8F E).rd w cs xs):(aG u8R E).rd w cs xs∧∀ v∈xs,rV v:=by
 obtain ⟨ao,cap,ccs,rfl,h1,h2,h3,h4,h5⟩:=h
 obtain ⟨g1,g2⟩:=uc h4
 exact ⟨⟨ao,cap,ccs,rfl,h1,h2,h3,g1,h5⟩,g2⟩
end
theorem bs {α β:Type} (a:α) (f:α→Option β):(some a).bind f=f a:=rfl
theorem aZ {α:Type} {xs:List α} {i:Nat} (h:i<xs.length):ix xs (i:Int)=some xs[i]:=by
 unfold ix;rw [if_pos (by omega)];simp [h]
theorem oX {α:Type} {xs:List α} {i:Int} (h0:0≤i) (h:i<xs.length):ix xs i=some (xs[i.toNat]'(by omega)):=by
 unfold ix;rw [if_pos h0];simp
theorem j0 {n:Int} (h:-4611686018427387904≤n) (h2:n≤4611686018427387904):rng n=true:=by
 unfold rng;simp only [Bool.and_eq_true,decide_eq_true_eq];omega
theorem bo {a b:Int} (h:-4611686018427387904≤a+b) (h2:a+b≤4611686018427387904):ad a b=some (a+b):=by unfold ad;rw [if_pos (j0 h h2)]
theorem eS {a b:Int} (h:-4611686018427387904≤a-b) (h2:a-b≤4611686018427387904):sb a b=some (a-b):=by unfold sb;rw [if_pos (j0 h h2)]
theorem dL {a b:Int} (h:-4611686018427387904≤a*b) (h2:a*b≤4611686018427387904):ml a b=some (a*b):=by unfold ml;rw [if_pos (j0 h h2)]
theorem ad1 {i:Nat} (h:i<1099511627776):ad (i:Int) 1=some ((i+1:Nat):Int):=by rw [bo (by omega) (by omega)];simp
theorem dlt {i n:Nat} (h:i<n):decide ((i:Int)<(n:Int))=true:=by simp;omega
theorem dge {i n:Nat} (h:¬ i<n):decide ((i:Int)<(n:Int))=false:=by simp;omega
theorem jN {α:Type} {xs:List α} {i:Nat} {y:α} (h:i<xs.length):sto xs (i:Int) y=some (xs.set i y):=by
 unfold sto;rw [if_pos ⟨by omega,by simpa using h⟩];simp
theorem yM {α:Type} {b:Nat} {xs ys:List α} (h:(xs.length+ys.length)*b≤140737488355328):apd b xs ys=some (xs++ys):=by unfold apd;rw [if_pos h]
theorem bm {α:Type} {b:Nat} {xs ys:List α} (hb:b≤64) (h:xs.length+ys.length≤2199023255552):apd b xs ys=some (xs++ys):=by
 refine yM (Nat.le_trans (Nat.mul_le_mul h hb) (by omega))
theorem q8 {α:Type} {b:Nat} {z:α} {n:Nat} (hb:b≤64) (h:n≤2199023255552):mk b z (n:Int)=some (List.replicate n z):=by
 unfold mk;rw [if_pos ⟨by omega,by simpa using Nat.le_trans (Nat.mul_le_mul h hb) (by omega),by simp;omega⟩];simp
theorem nF {α:Type} {xs:List α} {lo hi:Nat} (h1:lo≤hi) (h2:hi≤xs.length):slc xs (lo:Int) (hi:Int)=some ((xs.take hi).drop lo):=by
 unfold slc;rw [if_pos ⟨by omega,by omega,by omega⟩];simp

theorem pc {R V:Type} (L:Nat→Int→Option (Sum R V)) (n:Nat) (hn:n<1099511627776) (b:R) (p:Nat→Bool) (v:V)
  (hstep:∀ k i,i<n→L (k+1) (i:Int)=bif p i then L k ((i+1:Nat):Int) else some (.inl b))
  (hend:∀ k,L (k+1) (n:Int)=some (.inr v)) :
  ∀ k i,i≤n→n-i<k→L k (i:Int)=some (bif (List.range' i (n-i)).all p then .inr v else .inl b):=by
 intro k
 induction k with
 | zero=>intro i hi hk;omega
 | succ k ih =>
  intro i hi hk
  by_cases h:i<n
  ·rw [hstep k i h,show n-i=(n-(i+1))+1 by omega,List.range'_succ,List.all_cons]
   cases hp:p i with
   | true=>rw [cond_true,Bool.true_and];exact ih (i+1) (by omega) (by omega)
   | false=>rfl
  ·obtain rfl:i=n:=by omega
   rw [hend k,Nat.sub_self];rfl
theorem ni {α:Type} (xs:List α) (p:α→Bool) (q:Nat→Bool) (h:∀ i (hi:i<xs.length),q i=p xs[i]):(List.range' 0 xs.length).all q=xs.all p:=by
 rw [Bool.eq_iff_iff,List.all_eq_true,List.all_eq_true]
 constructor
 ·intro hq x hx
  obtain ⟨i,hi,rfl⟩:=List.getElem_of_mem hx
  rw [← h i hi];exact hq i (by simp;omega)
 ·intro hp i hi
  have hi':i<xs.length:=by simpa using hi
  rw [h i hi'];exact hp _ (List.getElem_mem hi')
section
variable {α:Type}
def my (p:α→Prop) (m:Nat) (xs:List α):Prop:=xs.length≤m∧∀ x∈xs,p x

end
theorem At (x y:Int):(x == y)=decide (x=y):=by by_cases h:x=y <;> simp [h]
section
open Go.RowKit Go.ChangeShapes Go.WideShapes Go.ChangeAt
theorem vx:ownKnob Tryz.prog.godebug=none:=by kernel_rfl
theorem vz:laidOutB Tryz.prog=true:=by kernel_rfl
theorem uS {α:Type} {R:Rep α} {E:TypeId} {p:α→Prop} (h:∀ {w:World} {cs:List Value} {x:α},R.rd w cs x→p x) {w:World} {cs:List Value} {xs:List α} (hr:(aG R E).rd w cs xs):my p 9223372036854775807 xs:=by
 obtain ⟨ao,cap,ccs,rfl,h1,h2,h3,h4,h5⟩:=hr
 refine ⟨by unfold maxLen at h2;omega,fun x hx=>?_⟩
 obtain ⟨j,hj,rfl⟩:=List.getElem_of_mem hx
 obtain ⟨ec,h6,_⟩:=lv h4 j hj
 exact h h6
theorem vX:qX Tryz.prog (aG u8F 5) 42:=sj Tryz.underlying42 (by kernel_rfl) (by decide) (uK Tryz.underlying5)
theorem zK {w:World} {cs:List Value} {x:List Int} (h:((aG u8R 5)).rd w cs x):(my (fun _=>True) 9223372036854775807) x:=uS (fun _=>trivial) h
end
theorem Sat.splitp {w0 w:World} {A B C:Asn} {Γ:List Asn} (h:Sat w0 w (A :: Γ)) (k:∀ f,A.holds w f→∃ p q,(p++q).Perm f∧B.holds w p∧C.holds w q):Sat w0 w (B :: C :: Γ):=by
 obtain ⟨hb,_,⟨f1,f2,rfl,h1,h2⟩,hn,h3⟩:=h
 obtain ⟨p,q,hp,k1,k2⟩:=k f1 h1
 have hpp:(p++(q++f2)).Perm (f1++f2):=by rw [← List.append_assoc];exact List.Perm.append_right _ hp
 exact ⟨hb,p++(q++f2),⟨p,q++f2,rfl,k1,q,f2,rfl,k2,h2⟩,hpp.nodup_iff.2 hn,fun b hb'=>h3 b (hpp.mem_iff.1 hb')⟩
theorem Sat.joinp {w0 w:World} {A B C:Asn} {Γ:List Asn} (h:Sat w0 w (A :: B :: Γ)) (k:∀ f g,A.holds w f→B.holds w g→∃ p,p.Perm (f++g)∧C.holds w p):Sat w0 w (C :: Γ):=by
 obtain ⟨hb,_,⟨f1,_,rfl,h1,f2,f3,rfl,h2,h4⟩,hn,h3⟩:=h
 obtain ⟨p,hp,k1⟩:=k f1 f2 h1 h2
 have hpp:(p++f3).Perm (f1++(f2++f3)):=by rw [← List.append_assoc];exact List.Perm.append_right _ hp
 exact ⟨hb,p++f3,⟨p,f3,rfl,k1,h4⟩,hpp.nodup_iff.2 hn,fun b hb'=>h3 b (hpp.mem_iff.1 hb')⟩
section
variable {α β:Type} {R:Rep α} {S:Rep β} {w0 w:World} {Γ:List Asn} {E:TypeId} {v:Value}
def qk (R:Rep α) (E:TypeId) (v:Value) (xs:List α) (i:Nat) (ec:List Value):Asn where
 holds w fp:=(∀ b∈fp,b<w.heap.size)∧∀ w' y f',(∀ b∈fp,w'.heap[b]? = w.heap[b]?)→R.own w' ec y f'→∃ p,p.Perm (f'++fp)∧(aG R E).own w' [v] (xs.set i y) p
 ext h he:=by
  refine ⟨fun b hb=>?_,fun w'' y f' he' ho=>h.2 w'' y f' (fun b hb=>(he' b hb).trans (he b hb)) ho⟩
  have h1:=h.1 b hb
  have h2:=he b hb
  rw [Array.getElem?_eq_getElem h1] at h2
  exact (Array.getElem?_eq_some_iff.1 h2).1
 lt h:=h.1
theorem kn {w:World}:∀ {xs:List α} {ccs:List Value} {f:List Nat},eL R w ccs xs f→∀ (k:Nat) (hk:k<xs.length),
  ∃ ec f1 f2 f3,R.own w ec xs[k] f2∧f=f1++(f2++f3)∧(∀ j c,ec[j]? = some c→ccs[k*R.sz+j]? = some c) ∧
   ∀ w' y f',(∀ b∈f1++f3,w'.heap[b]? = w.heap[b]?)→R.own w' ec y f'→eL R w' ccs (xs.set k y) (f1++(f'++f3))
 | [],_,_,_,k,hk=>absurd hk (by simp)
 | x :: xs,_,_,h,k,hk=>by
  obtain ⟨ec,rest,f1,f2,rfl,rfl,h1,h2⟩:=h
  cases k with
  | zero =>
   refine ⟨ec,[],f1,f2,h1,rfl,fun j c hj=>?_,fun w' y f' he ho=>?_⟩
   ·have hlt:j<ec.length:=(List.getElem?_eq_some_iff.1 hj).1
    rw [Nat.zero_mul,Nat.zero_add,List.getElem?_append_left hlt];exact hj
   ·exact ⟨ec,rest,f',f2,rfl,rfl,ho,gc h2 fun b hb=>he b (by simpa using hb)⟩
  | succ k =>
   obtain ⟨ec',g1,g2,g3,k1,rfl,k3,k4⟩:=kn h2 k (by simpa using hk)
   refine ⟨ec',f1++g1,g2,g3,by simpa using k1,by simp,fun j c hj=>?_,fun w' y f' he ho=>?_⟩
   ·have e:(k+1)*R.sz+j=ec.length+(k*R.sz+j):=by rw [R.rd_len (R.own_rd h1),Nat.add_mul];omega
    rw [e,List.getElem?_append_right (by omega),Nat.add_sub_cancel_left]
    exact k3 j c hj
   ·refine ⟨ec,rest,f1,g1++(f'++g3),rfl,by simp,R.own_ext h1 fun b hb=>he b (by simp [hb]),k4 w' y f' (fun b hb=>he b ?_) ho⟩
    rcases List.mem_append.1 hb with h | h
    ·simp [h]
    ·simp [h]
theorem Sat.unpair {c d:List Value} {x:α × β} (hS:Sat w0 w (Own (mm R S) (c++d) x :: Γ)) (hc:c.length=R.sz):Sat w0 w (Own R c x.1 :: Own S d x.2 :: Γ):=by
 refine hS.splitp fun f hf=>?_
 obtain ⟨c1,c2,f1,f2,hcs,rfl,h1,h2⟩:=hf
 have hl:=R.rd_len (R.own_rd h1)
 obtain ⟨rfl,rfl⟩:=List.append_inj hcs (by omega)
 exact ⟨f1,f2,.refl _,h1,h2⟩
end
theorem Sat.rebase {a b w:World} {Γ:List Asn} (h:Sat b w Γ) (hx:Ext a b):Sat a w Γ:=by
 obtain ⟨hb,fp,h1,h2,h3⟩:=h
 exact ⟨Ext.trans hx hb,fp,h1,h2,fun x hx'=>Nat.le_trans hx.size (h3 x hx')⟩
theorem Sat.drop {w0 w:World} {Γ Δ:List Asn} (h:Sat w0 w (Γ++Δ)):Sat w0 w Δ:=by
 induction Γ with
 | nil=>simpa using h
 | cons A Γ ih=>exact ih h.tail
def roR {α:Type} (W:World) (R:Rep α):Rep α where
 sz:=R.sz
 rd _ cs x:=R.rd W cs x
 own _ cs x fp:=R.rd W cs x∧fp=[]
 rd_len h:=R.rd_len h
 rd_one h:=R.rd_one h
 rd_ext h _:=h
 own_rd h:=h.1
 own_ext h _:=h
 own_lt h:=by rw [h.2];simp
section
variable {α:Type} {R:Rep α} {W w w0 w':World} {E:TypeId} {Γ:List Asn} {v:Value} {xs:List α}
theorem uA (hx:Ext W w):∀ {xs:List α} {ccs:List Value},rdL (roR W R) w ccs xs→rdL R w ccs xs
 | [],_,h=>h
 | x :: xs,_,h=>by
  obtain ⟨ec,rest,rfl,h1,h2⟩:=h
  exact ⟨ec,rest,rfl,R.rd_ext h1 hx,uA hx h2⟩
theorem tF {cs:List Value} (hx:Ext W w) (h:(aG (roR W R) E).rd w cs xs):(aG R E).rd w cs xs:=by
 obtain ⟨ao,cap,ccs,h1,h2,h3,h4,h5,h6⟩:=h
 exact ⟨ao,cap,ccs,h1,h2,h3,h4,uA hx h5,h6⟩
theorem Sat.roOne {cs:List Value} {x:α} (hS:Sat w0 w Γ) (h:R.rd W cs x):Sat w0 w (Own (roR W R) cs x :: Γ):=hS.add ⟨h,rfl⟩
theorem rn:∀ {xs:List α} {ccs:List Value},rdL R W ccs xs→rdL (roR W R) w ccs xs
 | [],_,h=>h
 | x :: xs,_,h=>by
  obtain ⟨ec,rest,rfl,h1,h2⟩:=h
  exact ⟨ec,rest,rfl,h1,rn h2⟩
theorem yw (h:(aG (roR W R) E).rd w [v] xs):∃ ao c ccs,v=.slice ao xs.length c∧(ao=none→c=0)∧lH w ao ccs∧rdL (roR W R) w ccs xs:=by
 obtain ⟨ao,cap,ccs,hv,h1,h2,h3,h4,h5⟩:=h
 exact ⟨ao,cap,ccs,by simpa using hv,h3,h5,h4⟩
theorem w7 {cs:List Value} (hx:Ext W w) (h:(aG R E).rd W cs xs):(aG (roR W R) E).rd w cs xs:=by
 obtain ⟨ao,cap,ccs,h1,h2,h3,h4,h5,h6⟩:=h
 refine ⟨ao,cap,ccs,h1,h2,h3,h4,rn h5,?_⟩
 rcases h6 with h6 | ⟨b,off,rfl,h6⟩
 ·exact .inl h6
 ·exact .inr ⟨b,off,rfl,fun j c hj=>by have:=h6 j c hj;rw [hx.cell (block_lt_of_cell this)];exact this⟩

end

def f8 (a b:Int):Int:=IntKind.i64.wrap ((BitVec.ofInt IntKind.i64.bits a &&& BitVec.ofInt IntKind.i64.bits b).toNat)
def jc (a b:Int):Int:=IntKind.i64.wrap ((BitVec.ofInt IntKind.i64.bits a ^^^ BitVec.ofInt IntKind.i64.bits b).toNat)
def sr (a b:Int):Option Int:=if 0≤b then some (a.fdiv (2 ^ (min b.toNat IntKind.i64.bits))) else none
def kS (s r:ByteArray):Option ByteArray:=if s.size+r.size≤9223372036854775807 then some (s++r) else none
theorem kG {s r c:ByteArray} (h:kS s r=some c):c.size≤9223372036854775807:=by
 unfold kS at h
 split at h
 ·rename_i h0
  obtain rfl:=Option.some.inj h
  rw [ByteArray.size_append];exact h0
 ·cases h
section
variable {P:Program} {e:Env} {w:World} {d:Option Nat} {ty:TypeId} {pos:String} {af:Array Edge} {x y:Operand}
theorem rW {t u:TypeId} {a b:Int} (hx:ev e x=.int .i64 a) (hy:ev e y=.int .i64 b):PV P ⟨d,.binOp .and t x y u,ty,pos,af,none⟩ e w (.int .i64 (f8 a b)):=fun w' _=>by
 unfold execOp f8;simp [hx,hy,eqGuard,binOp,Op.intBits]
theorem yS {t u:TypeId} {a b:Int} (hx:ev e x=.int .i64 a) (hy:ev e y=.int .i64 b):PV P ⟨d,.binOp .xor t x y u,ty,pos,af,none⟩ e w (.int .i64 (jc a b)):=fun w' _=>by
 unfold execOp jc;simp [hx,hy,eqGuard,binOp,Op.intBits]
theorem uJ {t u:TypeId} {k2:IntKind} {a b c:Int} (hx:ev e x=.int .i64 a) (hy:ev e y=.int k2 b) (h:sr a b=some c):PV P ⟨d,.binOp .shr t x y u,ty,pos,af,none⟩ e w (.int .i64 c):=fun w' _=>by
 unfold sr at h
 split at h
 ·rename_i h0
  obtain rfl:=Option.some.inj h
  have h1:¬ b<0:=by omega
  unfold execOp;simp [hx,hy,eqGuard,binOp,Op.shift,h1]
 ·cases h
theorem jM {t u:TypeId} {s r c:ByteArray} (hx:ev e x=.string s) (hy:ev e y=.string r) (h:kS s r=some c):PV P ⟨d,.binOp .add t x y u,ty,pos,af,none⟩ e w (.string c):=fun w' _=>by
 unfold kS at h
 split at h
 ·rename_i h0
  obtain rfl:=Option.some.inj h
  have h1:¬ (((s.size+r.size:Nat):Int) > IntKind.i64.max):=by
   have:IntKind.i64.max=9223372036854775807:=by decide
   rw [this];omega
  unfold execOp;simp only [hx,hy,eqGuard,binOp,Op.stringOp,Sem.run_bind,Sem.run_pure,Result.andThen_ok,if_neg h1]
  simp
 ·cases h
instance flat_str:FlatR kd (fun s=>.string s):=⟨fun h=>h.1⟩
theorem uf {E:TypeId} (i:Nat) {xs:List ByteArray} {v:Value} {w0 w:World} {Γ:List Asn} (hS:Sat w0 w Γ) (hi:Γ[i]? = some (Own (aG kd E) [v] xs)) {j:Int} {u:ByteArray} (h:ix xs j=some u):u.size≤9223372036854775807:=by
 obtain ⟨k,rfl,hk,rfl⟩:=eQ h
 obtain ⟨ao,cap,ccs,_,_,_,_,h4,_⟩:=hS.rdAt (R:=aG kd E) i hi
 obtain ⟨ec,hec,_⟩:=lv h4 k hk
 exact hec.2
def ssl (s:ByteArray) (l h:Int):Option ByteArray:=if 0≤l∧l≤h∧h≤(s.size:Int) then some (s.extract l.toNat h.toNat) else none
theorem oP {s c:ByteArray} {l h:Int} (hs:s.size≤9223372036854775807) (hq:ssl s l h=some c):c.size≤9223372036854775807:=by
 unfold ssl at hq
 split at hq
 ·obtain rfl:=Option.some.inj hq
  rw [ByteArray.size_extract];omega
 ·cases hq
theorem nG {t:TypeId} {lo hi:Option Operand} {s c:ByteArray} (ht:P.underlying t=some .string) (hx:ev e x=.string s) {l h:Int} (hlo:(lo.map (ev e)=some (.int .i64 l))∨(lo=none∧l=0)) (hhi:(hi.map (ev e)=some (.int .i64 h))∨(hi=none∧h=s.size)) (hq:ssl s l h=some c):PV P ⟨d,.slice t x lo hi none,ty,pos,af,none⟩ e w (.string c):=fun w' _=>by
  unfold ssl at hq
  split at hq
  case isFalse=>cases hq
  rename_i h0
  obtain rfl:=Option.some.inj hq
  obtain ⟨l',rfl⟩:=Int.eq_ofNat_of_zero_le h0.1
  obtain ⟨h',rfl⟩:=Int.eq_ofNat_of_zero_le (Int.le_trans h0.1 h0.2.1)
  obtain ⟨_,hlh,hh⟩:=h0
  replace hlh:l'≤h':=by omega
  replace hh:h'≤s.size:=by omega
  simp only [Int.toNat_natCast]
  have hb:(Instr.sliceBounds false s.size s.size (lo.map (ev e)) (hi.map (ev e)) none).run P w'=.ok (l',h',s.size) w':=by
    rcases hlo with e1 | ⟨e1,e1'⟩ <;> rcases hhi with e2 | ⟨e2,e2'⟩
    all_goals
      (try rw [e1]);(try rw [e2])
      first
        | (simp [Instr.sliceBounds,Instr.sliceBound,asIntOf,hh,hlh];done)
        | (have:l'=0:=by omega
           subst this
           simp [Instr.sliceBounds,Instr.sliceBound,asIntOf,hh,hlh];done)
        | (have:h'=s.size:=by omega
           subst this
           simp [Instr.sliceBounds,Instr.sliceBound,asIntOf,hlh];done)
        | (have:l'=0:=by omega
           have:h'=s.size:=by omega
           subst_vars
           simp [Instr.sliceBounds,Instr.sliceBound,asIntOf])
  unfold execOp
  simp only [hx,Instr.sliceAt,Sem.run_bind,run_underlying ht,Result.andThen_ok,Instr.slice,hb,Sem.run_pure,Option.map_none,Option.isSome_none,Bool.false_eq_true,if_false]
end
theorem qE:∀ (vs:List Value) (i:Nat) (cells:List Value),cells.length=i+vs.length→mu (fun i=>some (i*1,1)) cells ((vs.zipIdx i).map fun p=>(p.2,[p.1]))=some (cells.take i++vs)
 | [],i,cells,h=>by
  simp only [List.length_nil,Nat.add_zero] at h
  show some cells=some (cells.take i++[])
  rw [List.append_nil,List.take_of_length_le (by omega)]
 | v :: vs,i,cells,h=>by
  simp only [List.length_cons] at h
  have e1:i*1=i:=Nat.mul_one i
  simp only [List.zipIdx_cons,List.map_cons,mu,List.length_singleton,e1]
  rw [show Nat.beq 1 1=true from rfl,Bool.true_and]
  have hb:Nat.ble (i+1) cells.length=true:=by rw [Nat.ble_eq];omega
  rw [hb,cond_true,qE vs (i+1) _ (by simp;omega)]
  congr 1
  rw [List.take_append_of_le_length (by simp;omega),List.take_of_length_le (by simp;omega)]
  simp
section
variable {P:Program} {n:Nat} {ops:Array Oper} {K:Env→World→Prop} {rest:List Oper} {e:Env} {w w0:World} {d:Nat} {ty:TypeId} {pos:String} {af:Array Edge} {Γ:List Asn} {E:TypeId} {α:Type} {R:Rep α}
theorem fx {t:TypeId} [ht:SliceT P t E] {z:List Value} {bytes:Nat} [hz:ElemT P E z 1 bytes] {parts:Array (Nat × Operand)} {k:Nat} (vs:List Value) {xs:List α} (hsz:R.sz=1) (hk:vs.length=k) (hxl:xs.length=k) (hk1:Nat.ble k 16777216=true)
  (hp:parts.toList.map (fun p=>(p.1,(ev e p.2).cells))=((vs.zipIdx 0).map fun p=>(p.2,[p.1].toArray))) (hown:∀ w,eL R w vs xs []) (hS:Sat w0 w Γ) (hd:d<n)
  (hK:∀ w' v,Sat w0 w' (Own (aG R E) [v] xs :: Γ)→Ext w w'→EL P n ops K rest (upd e d v) w'):EL P n ops K (⟨some d,.buildSlice t k parts,ty,pos,af,none⟩ :: rest) e w:=by
 intro a ha
 refine wpList_plain rfl fun K' hK'=>?_
 have hz:=hz.h
 cases hi:P.info? E with
 | none=>simp [hi] at hz
 | some i =>
 cases hzz:i.zero with
 | none=>simp [hi,hzz] at hz
 | some zv =>
 simp [hi,hzz] at hz
 obtain ⟨hz1,hz2,hz3⟩:=hz
 have hk':¬ (k*1 > 2 ^ 24):=by have:=Nat.le_of_ble_eq_true hk1;omega
 have hfill:∀ A:Array Value,A.size=k→Instr.fill (fun i=>some (i*1,1)) A (parts.toList.map fun p=>(p.1,ev e p.2))=some vs.toArray:=by
  intro A hA
  have:=pX (fun i=>some (i*1,1)) (parts.toList.map fun p=>(p.1,ev e p.2)) ((vs.zipIdx 0).map fun p=>(p.2,[p.1])) A.toList (r:=vs) (by
   rw [List.map_map,List.map_map];exact hp) (by rw [qE vs 0 A.toList (by simp;omega)];simp)
  simpa using this
 have hr:(Instr.buildSlice t k (parts.map fun p=>(p.1,ev e p.2))).run P w=.ok (.slice (some ⟨w.heap.size,0,none⟩) k k) (w.alloc (.cells vs.toArray E)):=by
  unfold Instr.buildSlice
  simp only [run_underlying ht.h,sizeOf,typeInfo,hi,hz2,Sem.run_bind,Sem.run_pure,run_program,Result.andThen_ok,if_neg hk',Sem.run_ite,Array.toList_map]
  by_cases h0:k*1=0
  ·simp only [h0,if_true,Sem.run_pure,Result.andThen_ok]
   have hk0:k=0:=by omega
   rw [hfill _ (by simp;omega)]
   simp [newRow,hk0]
  ·simp only [h0,if_false,zeroValue,typeInfo,hi,hzz,Sem.run_bind,Sem.run_pure,run_program,Result.andThen_ok]
   rw [hfill _ (by simp)]
   simp [newRow]
 unfold Oper.wp execOp
 simp only [ha.eval,hr,Sem.run_bind,Sem.run_pure,Result.andThen_ok,Oper.upon_value]
 refine hK' _ _ (hK _ _ ?_ (jh _ _) _ (ha.put hd _))
 refine (hS.box E vs).conv fun f hf=>?_
 obtain ⟨rfl,hf⟩:=hf
 have h2:=Nat.le_of_ble_eq_true hk1
 exact .inr ⟨w.heap.size,k,vs.toArray,vs,[],by rw [hxl],hf,by omega,by unfold maxLen;omega,by simp [hsz,hk],by rw [hsz,hxl,Nat.mul_one];exact List.take_of_length_le (by simp;omega),hown _,by simp⟩
theorem mC (xs:List Int) (w:World):eL bW w (xs.map (Value.int .i64)) xs []:=by
 induction xs with
 | nil=>exact ⟨rfl,rfl⟩
 | cons x xs ih=>exact ⟨[.int .i64 x],_,[],[],rfl,rfl,⟨rfl,rfl⟩,ih⟩
theorem mN {xs:List ByteArray} (h:xs.all (fun s=>Nat.ble s.size 1000000)=true) (w:World):eL kd w (xs.map Value.string) xs []:=by
 induction xs with
 | nil=>exact ⟨rfl,rfl⟩
 | cons x xs ih =>
  rw [List.all_cons,Bool.and_eq_true] at h
  exact ⟨[.string x],_,[],[],rfl,rfl,⟨⟨rfl,by have:=Nat.le_of_ble_eq_true h.1;omega⟩,rfl⟩,ih h.2⟩
end
theorem eV {P:Program} {n:Nat} {ops:Array Oper} {X:List Nat} {C:World→Prop} {K:Env→World→Prop} (i j:Nat) {f:Nat} {L:Array Bool} {e:Env} {w:World} {o o':Oper} (hr:Region.ready .any ops L=[i,j]) (ho:ops[i]? = some o) (ho':ops[j]? = some o')
  (h:EL P n ops (fun e' w'=>(X.contains i=true→C w')∧AL P n ops X C K f (L.setIfInBounds i true) e' w') [o] e w) (h':EL P n ops (fun e' w'=>(X.contains j=true→C w')∧AL P n ops X C K f (L.setIfInBounds j true) e' w') [o'] e w):AL P n ops X C K (f+1) L e w :=
 ⟨fun h0=>(by rw [h0] at hr;cases hr),fun k hk=>by
  rw [hr] at hk
  rcases List.mem_cons.1 hk with rfl | hk
  ·exact ⟨o,ho,h⟩
  ·obtain rfl:k=j:=by simpa using hk
   exact ⟨o',ho',h'⟩⟩
theorem fP {P:Program} {n:Nat} {c:Code} {Q:Exit→Env→World→Prop} {e:Env} {w:World} (I:Env→World→Prop) (h1:CW P n c (fun x e w=>x=.normal∧I e w) e w) (h2:∀ e w,I e w→Q .normal e w):CW P n c Q e w:=by
 intro a ha
 refine wp_mono (h1 a ha) ?_
 rintro x' a' w' ⟨e',he',rfl,hI⟩
 exact ⟨e',he',h2 _ _ hI⟩
def dj (m:Nat):Value→Int→Int→Value
 | .slice ao _ cap,lo,hi=>.slice (if cap=lo.toNat then ao else ao.map (·.add (lo.toNat*m))) (hi.toNat-lo.toNat) (cap-lo.toNat)
 | v,_,_=>v
section
variable {α:Type} {R:Rep α} {E:TypeId} {w w0:World} {v:Value} {xs ys:List α} {Γ:List Asn}
theorem mJ {xs ys:List α} {lo hi:Int} (h:slc xs lo hi=some ys):∃ l k:Nat,lo=(l:Int)∧hi=(k:Int)∧l≤k∧k≤xs.length∧ys=(xs.take k).drop l:=by
 unfold slc at h
 split at h
 ·rename_i h0
  exact ⟨lo.toNat,hi.toNat,by omega,by omega,by omega,by omega,(Option.some.inj h).symm⟩
 ·cases h
theorem yT {m:Nat} {lo hi:Int} (hn:R.sz=m) (hr:(aG R E).rd w [v] xs) (hq:slc xs lo hi=some ys):(aG R E).rd w [dj m v lo hi] ys:=by
 obtain ⟨l,h,rfl,rfl,hlh,hh,rfl⟩:=mJ hq
 obtain ⟨ao,cap,ccs,hv,h1,h2,h3,h4,h5⟩:=hr
 obtain rfl:v=.slice ao xs.length cap:=by simpa using hv
 have hlen:((xs.take h).drop l).length=h-l:=by simp;omega
 have hrd:=(kJ l (kJ h h4).1).2
 have hccl:=iz h4
 subst hn
 refine ⟨if cap=l then ao else ao.map (·.add (l*R.sz)),cap-l,_,by simp [dj,hlen],by rw [hlen];omega,by omega,?_,hrd,?_⟩
 ·intro e
  split at e
  ·omega
  ·cases ao with
   | none=>have:=h3 rfl;omega
   | some _=>simp at e
 ·by_cases hcl:cap=l
  ·left
   have:h=l:=by omega
   subst this
   apply List.eq_nil_of_length_eq_zero
   simp
  ·rw [if_neg hcl]
   rcases h5 with rfl | ⟨b,off,rfl,h5⟩
   ·left;simp
   ·right
    refine ⟨b,off+l*R.sz,by simp [Addr.add_lit],fun j c hj=>?_⟩
    rw [List.getElem?_drop,List.getElem?_take] at hj
    split at hj
    ·rw [Nat.add_assoc];exact h5 _ c hj
    ·cases hj
theorem qG {w:World}:∀ (k:Nat) {xs:List α} {ccs:List Value} {f:List Nat},eL R w ccs xs f→∃ f1 f2,f=f1++f2∧eL R w (ccs.take (k*R.sz)) (xs.take k) f1∧(∀ b∈f2,b<w.heap.size)
 | 0,xs,ccs,f,h=>⟨[],f,rfl,by simp [eL],gP h⟩
 | k+1,[],ccs,f,h=>by
  obtain ⟨rfl,rfl⟩:=h
  exact ⟨[],[],rfl,⟨by simp,rfl⟩,by simp⟩
 | k+1,x :: xs,ccs,f,h=>by
  obtain ⟨ec,rest,g1,g2,rfl,rfl,h1,h2⟩:=h
  obtain ⟨f1,f2,rfl,h3,h4⟩:=qG k h2
  refine ⟨g1++f1,f2,by simp,⟨ec,rest.take (k*R.sz),g1,f1,?_,rfl,h1,h3⟩,h4⟩
  have e:(k+1)*R.sz=ec.length+k*R.sz:=by rw [R.rd_len (R.own_rd h1),Nat.add_mul];omega
  rw [e,List.take_append,List.take_of_length_le (by omega),Nat.add_sub_cancel_left]
theorem Sat.prefix {m:Nat} {hi:Int} (hn:R.sz=m) (hS:Sat w0 w (Own (aG R E) [v] xs :: Γ)) (hq:slc xs 0 hi=some ys):Sat w0 w (Own (aG R E) [dj m v 0 hi] ys :: Γ):=by
 obtain ⟨l,k,hl,rfl,hlk,hk,rfl⟩:=mJ hq
 obtain rfl:l=0:=by omega
 subst hn
 obtain ⟨ao,hao⟩:∃ A,A=Asn.mk (fun w fp=>True∧∀ b∈fp,b<w.heap.size) (fun h he=>⟨trivial,fun b hb=>by
  have h1:=h.2 b hb
  have h2:=he b hb
  rw [Array.getElem?_eq_getElem h1] at h2
  exact (Array.getElem?_eq_some_iff.1 h2).1⟩) (fun h=>h.2):=⟨_,rfl⟩
 refine Sat.tail (A:=ao) ?_
 refine hS.splitp fun f hf=>?_
 subst hao
 rcases hf with ⟨hv,rfl,rfl⟩ | ⟨g,cap,cur,ccs,f2,hv,hg,h1,h2,h3,h4,h5,rfl⟩
 ·obtain rfl:v=.slice none 0 0:=by simpa using hv
  simp only [List.length_nil,Nat.le_zero] at hk
  subst hk
  exact ⟨[],[],.refl _,⟨trivial,by simp⟩,.inl ⟨by simp [dj],by simp,rfl⟩⟩
 ·obtain rfl:v=.slice (some ⟨g,0,none⟩) xs.length cap:=by simpa using hv
  obtain ⟨f1,f3,rfl,h6,h7⟩:=qG k h5
  refine ⟨f3,g :: f1,?_,⟨trivial,h7⟩,.inr ⟨g,cap,cur,_,f1,?_,hg,?_,h2,h3,?_,h6,rfl⟩⟩
  ·exact List.perm_middle.trans (.cons _ List.perm_append_comm)
  ·have hl:(xs.take k).length=k:=by simp;omega
   simp only [List.drop_zero,hl,dj,Int.toNat_natCast]
   by_cases hc:cap=0
   ·simp [hc]
   ·simp [hc,Addr.add_lit]
  ·simp;omega
  ·rw [← h4]
   simp only [List.drop_zero,List.length_take,List.take_take]
   congr 1
   rw [Nat.min_eq_left hk]
   exact (Nat.min_eq_left (Nat.mul_le_mul_right _ hk)).symm
end
theorem nK {P:Program} {e:Env} {w wA:World} {d:Option Nat} {ty:TypeId} {pos:String} {af:Array Edge} {x:Operand} {v:Value} {α:Type} {R:Rep α} {E E':TypeId} {t:TypeId} {lo hi:Option Operand} [ht:SliceT P t E'] {z:List Value} {m bytes:Nat} [hz:ElemT P E' z m bytes]
    (hx:ev e x=v) {xs ys:List α} (hr:(aG R E).rd wA [v] xs) {l h:Int} (hlo:(lo.map (ev e)=some (.int .i64 l))∨(lo=none∧l=0)) (hhi:(hi.map (ev e)=some (.int .i64 h))∨(hi=none∧h=xs.length)) (hq:slc xs l h=some ys) :
    PV P ⟨d,.slice t x lo hi none,ty,pos,af,none⟩ e w (dj m v l h):=fun w' _=>by
  obtain ⟨l',h',rfl,rfl,hlh,hh,_⟩:=mJ hq
  obtain ⟨ao,cap,ccs,hv,h1,h2,h3,h4,h5⟩:=hr
  obtain rfl:v=.slice ao xs.length cap:=by simpa using hv
  have hz:=hz.h
  cases hq':P.info? E' with
  | none=>simp [hq'] at hz
  | some inf =>
    simp [hq'] at hz
    have hcap:h'≤cap:=by omega
    have hsz:inf.size=m:=hz.2.1
    have hb:(Instr.sliceBounds true xs.length cap (lo.map (ev e)) (hi.map (ev e)) none).run P w'=.ok (l',h',cap) w':=by
      rcases hlo with e1 | ⟨e1,e1'⟩ <;> rcases hhi with e2 | ⟨e2,e2'⟩
      all_goals
        (try rw [e1]);(try rw [e2])
        first
          | (simp [Instr.sliceBounds,Instr.sliceBound,asIntOf,hcap,hlh];done)
          | (have:l'=0:=by omega
             subst this
             simp [Instr.sliceBounds,Instr.sliceBound,asIntOf,hcap,hlh];done)
          | (have:h'=xs.length:=by omega
             subst this
             simp [Instr.sliceBounds,Instr.sliceBound,asIntOf,hcap,hlh];done)
          | (have:l'=0:=by omega
             have:h'=xs.length:=by omega
             subst_vars
             simp [Instr.sliceBounds,Instr.sliceBound,asIntOf])
    unfold execOp
    simp only [hx,Instr.sliceAt,Sem.run_bind,run_underlying ht.h,Result.andThen_ok,Instr.slice,hb,sizeOf,typeInfo,hq',run_program,Sem.run_pure,Option.map_none,dj,hsz,Int.toNat_natCast]
theorem o4 {w W:World} {b o:Nat} (h:w.heap[b]? = W.heap[b]?):w.cell? ⟨b,o,none⟩=W.cell? ⟨b,o,none⟩:=by
 unfold World.cell?;simp [h]
def Frz (W:World) (F:List Nat):Asn where
 holds w fp:=fp=F∧(∀ b∈F,w.heap[b]? = W.heap[b]?)∧∀ b∈F,b<W.heap.size
 ext h he:=by obtain ⟨rfl,h1,h2⟩:=h;exact ⟨rfl,fun b hb=>(he b hb).trans (h1 b hb),h2⟩
 lt h:=by
  obtain ⟨rfl,h1,h2⟩:=h
  intro b hb
  have:=h1 b hb
  rw [Array.getElem?_eq_getElem (h2 b hb)] at this
  exact (Array.getElem?_eq_some_iff.1 this).1
section
variable {α:Type} {R:Rep α} {W w w0:World} {Γ:List Asn} {F F':List Nat} {cs:List Value} {x:α}
theorem Sat.frz (hS:Sat w0 w (Own R cs x :: Γ)):∃ F,R.own w cs x F∧Sat w0 w (Frz w F :: Γ):=by
 obtain ⟨hb,_,⟨f1,f2,rfl,h1,h2⟩,hn,h3⟩:=hS
 exact ⟨f1,h1,hb,_,⟨f1,f2,rfl,⟨rfl,fun _ _=>rfl,R.own_lt h1⟩,h2⟩,hn,h3⟩
theorem Sat.frzEq (i:Nat) (hS:Sat w0 w Γ) (hi:Γ[i]? = some (Frz W F)):∀ b∈F,w.heap[b]? = W.heap[b]?:=by
 obtain ⟨fp,⟨rfl,h,_⟩,_⟩:=(hS.top i hi).head
 exact h
theorem Sat.frzRd (i:Nat) (hS:Sat w0 w Γ) (hi:Γ[i]? = some (Frz W F)) (h:R.own W cs x F') (hs:∀ b∈F',b∈F):R.rd w cs x :=
 R.own_rd (R.own_ext h (fun b hb=>hS.frzEq i hi b (hs b hb)))
theorem Sat.frzCells (i:Nat) (hS:Sat w0 w Γ) (hi:Γ[i]? = some (Frz W F)) {b off:Nat} {ec:List Value} (hb:b∈F) (hm:∀ j c,ec[j]? = some c→W.cell? ⟨b,off+j,none⟩=some c):∀ j c,ec[j]? = some c→w.cell? ⟨b,off+j,none⟩=some c :=
 fun j c hj=>by rw [o4 (hS.frzEq i hi b hb)];exact hm j c hj
end
section
variable {P:Program} {n:Nat} {ops:Array Oper} {X:List Nat} {C:World→Prop} {K:Env→World→Prop} {KQ:Env→Prop} {rest:List Oper} {e:Env} {w W:World} {v:Value} {d:Nat} {ty:TypeId} {pos:String} {af:Array Edge} {x y:Operand} {α:Type} {R:Rep α} {E:TypeId} {F:List Nat} {fuel:Nat} {L:Array Bool}
theorem qO {d:Option Nat} {t:TypeId} [ht:SliceT P t E] {zz:List Value} {m bytes:Nat} [hz:ElemT P E zz m bytes] {xs:List α} (hs:ev e x=v) (hr:(aG R E).own W [v] xs F)
  (hn:R.sz=m) {k:IntKind} {i:Int} (hi:ev e y=.int k i) {u:α} (h:ix xs i=some u) :
  ∃ b off ec F2,R.own W ec u F2∧(∀ q∈F2,q∈F)∧b∈F∧(∀ j c,ec[j]? = some c→W.cell? ⟨b,off+j,none⟩=some c)∧∀ w,PV P ⟨d,.indexAddr t x y,ty,pos,af,none⟩ e w (.pointer (some ⟨b,off,none⟩)):=by
 obtain ⟨k',rfl,hk,rfl⟩:=eQ h
 rcases hr with ⟨_,h2,_⟩ | ⟨g,cap,cur,ccs,f2,hv,hg,h1,h2,h3,h4,h5,rfl⟩
 ·subst h2;simp at hk
 obtain rfl:v=.slice (some ⟨g,0,none⟩) xs.length cap:=by simpa using hv
 obtain ⟨ec,f1,f2',f3,k1,rfl,k3,_⟩:=kn h5 k' hk
 have hz:=hz.h
 cases hq:P.info? E with
 | none=>simp [hq] at hz
 | some inf =>
  simp [hq] at hz
  have hsz:inf.size=m:=hz.2.1
  refine ⟨g,k'*m,ec,f2',k1,fun q hq=>by simp [hq],by simp,fun j c hj=>?_,fun w w' _=>?_⟩
  ·have h0:=k3 j c hj
   rw [cell_of_row W g _ cur E (0,0) hg,← Array.getElem?_toList]
   rw [← h4,List.getElem?_take] at h0
   rw [← hn]
   split at h0
   ·exact h0
   ·cases h0
  ·unfold execOp
   simp [hs,hi,Instr.indexAt,asIntOf,run_underlying ht.h,sizeOf,typeInfo,hq,hk,Addr.add_lit,hsz]
theorem lK {t:TypeId} [SliceT P t E] {zz:List Value} {m bytes:Nat} [ElemT P E zz m bytes] {xs:List α} (hs:ev e x=v) (hr:(aG R E).own W [v] xs F) (hn:R.sz=m) {k:IntKind} {i:Int} (hi:ev e y=.int k i) {u:α} (h:ix xs i=some u) (hd:d<n)
  (hK:∀ b off ec F2,R.own W ec u F2→(∀ q∈F2,q∈F)→b∈F→(∀ j c,ec[j]? = some c→W.cell? ⟨b,off+j,none⟩=some c)→EL P n ops K rest (upd e d (.pointer (some ⟨b,off,none⟩))) w):EL P n ops K (⟨some d,.indexAddr t x y,ty,pos,af,none⟩ :: rest) e w:=by
 obtain ⟨b,off,ec,F2,h1,h2,h3,h4,h5⟩:=qO (P:=P) (d:=some d) (ty:=ty) (pos:=pos) (af:=af) (t:=t) hs hr hn hi h
 exact lh (h5 _) hd (hK b off ec F2 h1 h2 h3 h4)
theorem dq (hsel:jG ops=true) (i':Nat) {t:TypeId} [SliceT P t E] {zz:List Value} {m bytes:Nat} [ElemT P E zz m bytes] {xs:List α} (hi':ops[i']? = some ⟨some d,.indexAddr t x y,ty,pos,af,none⟩) (hC:C w) (hf:mG ops X L i' ⟨some d,.indexAddr t x y,ty,pos,af,none⟩=true) (hrd:(Region.ready .any ops L).contains i'=true)
  (hs:ev e x=v) (hr:(aG R E).own W [v] xs F) (hn:R.sz=m) {k:IntKind} {i:Int} (hi:ev e y=.int k i) {u:α} (h:ix xs i=some u) (hd:d<n)
  (hK:∀ b off ec F2,R.own W ec u F2→(∀ q∈F2,q∈F)→b∈F→(∀ j c,ec[j]? = some c→W.cell? ⟨b,off+j,none⟩=some c)→AL P n ops X C K fuel (L.setIfInBounds i' true) (upd e d (.pointer (some ⟨b,off,none⟩))) w):AL P n ops X C K (fuel+1) L e w:=by
 obtain ⟨b,off,ec,F2,h1,h2,h3,h4,h5⟩:=qO (P:=P) (d:=some d) (ty:=ty) (pos:=pos) (af:=af) (t:=t) hs hr hn hi h
 exact vY hsel i' hi' rfl hd hC hf hrd (ap rfl fun w' _=>h5 w') (hK b off ec F2 h1 h2 h3 h4)
end
theorem r7 {P:Program} {fn:Func} {n:Nat} {e:Env} {w:World} {R:Ending→World→Prop} (h:fn.results=#[]) (hR:R (.returned (.tuple #[])) w):Fin P fn n R .ret e w :=
 ⟨_,fun a ha=>by simp [results,h],hR⟩
section
variable {α:Type} {R:Rep α} {w0 w:World} {Γ:List Asn} {E:TypeId} {v:Value}
def kE (R:Rep α) (E:TypeId) (v:Value) (xs:List α) (i:Nat) (ec:List Value) (g m:Nat):Asn where
 holds w fp:=(qk R E v xs i ec).holds w fp∧g∈fp∧∀ j c,ec[j]? = some c→w.cell? ⟨g,i*m+j,none⟩=some c
 ext h he:=⟨(qk R E v xs i ec).ext h.1 he,h.2.1,fun j c hj=>by rw [o4 (he g h.2.1)];exact h.2.2 j c hj⟩
 lt h:=(qk R E v xs i ec).lt h.1
theorem Sat.takeOutC {xs:List α} {m:Nat} {i:Int} {u:α} (hS:Sat w0 w (Own (aG R E) [v] xs :: Γ)) (h:ix xs i=some u) (hn:R.sz=m) :
  ∃ g cap ec,v=.slice (some ⟨g,0,none⟩) xs.length cap∧R.rd w ec u∧Sat w0 w (Own R ec u :: kE R E v xs i.toNat ec g m :: Γ):=by
 obtain ⟨k,rfl,hk,rfl⟩:=eQ h
 subst hn
 obtain ⟨fp,ho,_⟩:=hS.head
 rcases ho with ⟨_,h2,_⟩ | ⟨g,cap,cur,ccs,fe,hv,hg,h1,h2,h3,h4,h5,rfl⟩
 ·subst h2;simp at hk
 obtain ⟨ec,f1,f2,f3,k1,rfl,k3,k4⟩:=kn h5 k hk
 have hv:v=.slice (some ⟨g,0,none⟩) xs.length cap:=by simpa using hv
 have hm:∀ j c,ec[j]? = some c→w.cell? ⟨g,(k:Int).toNat*R.sz+j,none⟩=some c:=fun j c hj=>by
  have e2:=k3 j c hj
  simp only [Int.toNat_natCast]
  rw [cell_of_row w g _ cur E (0,0) hg,← Array.getElem?_toList]
  rw [← h4,List.getElem?_take] at e2
  split at e2
  ·exact e2
  ·cases e2
 refine ⟨g,cap,ec,hv,R.own_rd k1,?_⟩
 have hrl:=R.rd_len (R.own_rd k1)
 clear k1 k3 k4 h5 h4 h3 h2 h1 hg
 subst hv
 refine hS.splitp fun f hf=>?_
 rcases hf with ⟨_,h2,_⟩ | ⟨g',cap',cur,ccs,fe,hv,hg,h1,h2,h3,h4,h5,rfl⟩
 ·subst h2;simp at hk
 obtain ⟨rfl,rfl⟩:g=g'∧cap=cap':=by simpa using hv
 obtain ⟨ec',f1,f2,f3,k1,rfl,k3,k4⟩:=kn h5 k hk
 have hec:ec=ec':=by
  refine List.ext_getElem (by rw [hrl,R.rd_len (R.own_rd k1)]) fun j hj1 hj2=>?_
  have e1:=hm j ec[j] (List.getElem?_eq_getElem hj1)
  have e2:=k3 j ec'[j] (List.getElem?_eq_getElem hj2)
  simp only [Int.toNat_natCast] at e1
  rw [cell_of_row w g _ cur E (0,0) hg,← Array.getElem?_toList] at e1
  rw [← h4,List.getElem?_take] at e2
  split at e2
  ·rw [e1] at e2;exact Option.some.inj e2
  ·cases e2
 subst hec
 refine ⟨f2,g :: (f1++f3),?_,k1,⟨⟨fun b hb=>?_,fun w' y f' he ho=>⟨g :: (f1++(f'++f3)),?_,.inr ⟨g,cap,cur,ccs,_,by simp,by rw [he g (by simp)];exact hg,by simpa using h1,h2,h3,by simpa using h4,by
  simp only [Int.toNat_natCast]
  exact k4 w' y f' (fun b hb=>he b (List.mem_cons_of_mem _ hb)) ho,rfl⟩⟩⟩,List.mem_cons_self,hm⟩⟩
 ·refine List.perm_middle.trans (.cons _ ?_)
  rw [← List.append_assoc,← List.append_assoc]
  exact List.Perm.append_right _ List.perm_append_comm
 ·rcases List.mem_cons.1 hb with rfl | hb
  ·exact (Array.getElem?_eq_some_iff.1 hg).1
  ·refine gP h5 b ?_
   rcases List.mem_append.1 hb with h | h <;> simp [h]
 ·refine .trans (.cons _ ?_) List.perm_middle.symm
  rw [← List.append_assoc,← List.append_assoc]
  exact List.Perm.append_right _ List.perm_append_comm
theorem Sat.putBackC {xs ys:List α} {i:Int} {y:α} {ec:List Value} {g m:Nat} (hS:Sat w0 w (Own R ec y :: kE R E v xs i.toNat ec g m :: Γ)) (h:sto xs i y=some ys):Sat w0 w (Own (aG R E) [v] ys :: Γ):=by
 have e:ys=xs.set i.toNat y:=by
  unfold sto at h;split at h
  ·exact (Option.some.inj h).symm
  ·cases h
 subst e
 exact hS.joinp fun f g h1 h2=>h2.1.2 w y f (fun _ _=>rfl) h1
theorem Sat.holeCells (a:Nat) {xs:List α} {i g m:Nat} {ec:List Value} (hS:Sat w0 w Γ) (hi:Γ[a]? = some (kE R E v xs i ec g m)):∀ j c,ec[j]? = some c→w.cell? ⟨g,i*m+j,none⟩=some c:=by
 obtain ⟨fp,ho,_⟩:=(hS.top a hi).head
 exact ho.2.2
end
theorem jd {P:Program} {e:Env} {w:World} {v:Value} {ty:TypeId} {pos:String} {af:Array Edge} {x y:Operand} {α:Type} {E:TypeId} {d:Option Nat} {t:TypeId} [ht:SliceT P t E] {zz:List Value} {m bytes:Nat} [hz:ElemT P E zz m bytes] {xs:List α} (hs:ev e x=v) {g cap:Nat} (hv:v=.slice (some ⟨g,0,none⟩) xs.length cap) {k:IntKind} {j:Int} (hi:ev e y=.int k j) {u:α} (h:ix xs j=some u) :
  PV P ⟨d,.indexAddr t x y,ty,pos,af,none⟩ e w (.pointer (some ⟨g,j.toNat*m,none⟩)):=fun w' _=>by
 obtain ⟨k',rfl,hk,rfl⟩:=eQ h
 subst hv
 have hz:=hz.h
 cases hq:P.info? E with
 | none=>simp [hq] at hz
 | some inf =>
  simp [hq] at hz
  have hsz:inf.size=m:=hz.2.1
  unfold execOp
  simp [hs,hi,Instr.indexAt,asIntOf,run_underlying ht.h,sizeOf,typeInfo,hq,hk,Addr.add_lit,hsz]
def lp {α β:Type} (R:Rep α) (S:Rep β) (j:Nat) (u:α) (z:β) (y:α):Prop :=
 ∀ w ec f cs fa,R.own w ec u f→S.own w cs z fa→j+cs.length≤ec.length∧∃ f' g',R.own w (ec.take j++cs++ec.drop (j+cs.length)) y f'∧(f'++g').Perm (f++fa)
theorem xd {α:Type} {R:Rep α} (u z:α):lp R R 0 u z z:=fun w ec f cs fa h k=>by
 have e1:=R.rd_len (R.own_rd h)
 have e2:=R.rd_len (R.own_rd k)
 refine ⟨by omega,fa,f,?_,List.perm_append_comm⟩
 rw [Nat.zero_add,List.drop_of_length_le (by omega)];simpa using k
theorem zC {α β γ:Type} {R:Rep α} {T:Rep γ} {S:Rep β} {j k':Nat} {u:α × γ} {z:β} {y:γ} (h:lp T S j u.2 z y) (hk:k'=R.sz+j):lp (mm R T) S k' u z (u.1,y):=fun w ec f cs fa hf k=>by
 obtain ⟨c1,c2,f1,f2,rfl,rfl,h1,h2⟩:=hf
 obtain ⟨k1,f',g',k2,k3⟩:=h w c2 f2 cs fa h2 k
 have hl:=R.rd_len (R.own_rd h1)
 subst hk
 refine ⟨by simp;omega,f1++f',g',⟨c1,_,f1,f',?_,rfl,h1,k2⟩,List.perm_iff_count.2 fun a=>?_⟩
 ·rw [← hl,List.take_append,List.drop_append,List.take_of_length_le (by omega),List.drop_of_length_le (by omega)]
  simp [Nat.add_assoc]
 ·have:=List.perm_iff_count.1 k3 a
  simp only [List.count_append] at this ⊢;omega
theorem oA {α β:Type} {R:Rep α} {S:Rep β} {w:World} {j:Nat} {cs:List Value} {z:β} {fa:List Nat} (hz:S.own w cs z fa) {y:α}:∀ {xs:List α} {ccs:List Value} {f:List Nat},eL R w ccs xs f→∀ (k:Nat) (hk:k<xs.length),lp R S j xs[k] z y →
  k*R.sz+j+cs.length≤ccs.length∧∃ f' g',eL R w (ccs.take (k*R.sz+j)++cs++ccs.drop (k*R.sz+j+cs.length)) (xs.set k y) f'∧(f'++g').Perm (f++fa)
 | [],_,_,_,k,hk,_=>absurd hk (by simp)
 | x :: xs,_,_,h,k,hk,hu=>by
  obtain ⟨ec,rest,f1,f2,rfl,rfl,h1,h2⟩:=h
  cases k with
  | zero =>
   obtain ⟨k1,f',g',k2,k3⟩:=hu w ec f1 cs fa h1 hz
   refine ⟨by simp;omega,f'++f2,g',⟨_,rest,f',f2,?_,rfl,k2,h2⟩,List.perm_iff_count.2 fun a=>?_⟩
   ·rw [Nat.zero_mul,Nat.zero_add,List.take_append_of_le_length (by omega),List.drop_append_of_le_length (by omega)];simp
   ·have:=List.perm_iff_count.1 k3 a
    simp only [List.count_append] at this ⊢;omega
  | succ k =>
   have hl:=R.rd_len (R.own_rd h1)
   obtain ⟨k1,f',g',k2,k3⟩:=oA hz h2 k (by simpa using hk) (by simpa using hu)
   have e:(k+1)*R.sz+j=ec.length+(k*R.sz+j):=by rw [Nat.succ_mul];omega
   refine ⟨by rw [e,List.length_append];omega,f1++f',g',⟨ec,_,f1,f',?_,rfl,h1,k2⟩,List.perm_iff_count.2 fun a=>?_⟩
   ·rw [e,List.take_append,List.drop_append,List.take_of_length_le (by omega),List.drop_of_length_le (by omega)]
    simp [Nat.add_assoc]
   ·have:=List.perm_iff_count.1 k3 a
    simp only [List.count_append] at this ⊢;omega
section
variable {P:Program} {n:Nat} {ops:Array Oper} {K:Env→World→Prop} {rest:List Oper} {e:Env} {w w0:World} {v:Value} {ty:TypeId} {pos:String} {af:Array Edge} {Γ:List Asn} {x y:Operand} {α β:Type} {R:Rep α} {S:Rep β} {E:TypeId}
theorem tW {t:TypeId} {z:List Value} {m' bytes:Nat} [hz:ElemT P t z m' bytes] {xs ys:List α} {g ln cap o j m:Nat} {u yv:α} {zv:β} {cs:List Value} (hv:v=.slice (some ⟨g,0,none⟩) ln cap)
  (hS:Sat w0 w (Own S cs zv :: Own (aG R E) [v] xs :: Γ)) {i:Int} (hix:ix xs i=some u) (h:sto xs i yv=some ys) (hn:R.sz=m) (hs:S.sz=m') (ho:o=i.toNat*m+j) (hx:ev e x=.pointer (some ⟨g,o,none⟩)) (hy:(ev e y).cells=cs.toArray)
  (hup:lp R S j u zv yv) (hK:∀ w',Sat w0 w' (Own (aG R E) [v] ys :: Γ)→EL P n ops K rest e w'):EL P n ops K (⟨none,.store t x y,ty,pos,af,none⟩ :: rest) e w:=by
 intro a ha
 refine wpList_plain rfl fun K' hK'=>?_
 obtain ⟨k,rfl,hk,rfl⟩:=eQ hix
 have hys:ys=xs.set k yv:=by
  unfold sto at h;split at h
  ·simpa using (Option.some.inj h).symm
  ·cases h
 subst hys hv hn ho
 simp only [Int.toNat_natCast] at hx
 have hz:=hz.h
 cases hi:P.info? t with
 | none=>simp [hi] at hz
 | some inf =>
  simp [hi] at hz
  have hS':Sat w0 w (tP (Own S cs zv) (Own (aG R E) [.slice (some ⟨g,0,none⟩) ln cap] xs) :: Γ):=hS.join fun f g h1 h2=>⟨f,g,rfl,h1,h2⟩
  obtain ⟨fp,⟨fy,f,rfl,hyo,hv⟩,hnd,_⟩:=hS'.head
  have hel:cs.length=S.sz:=S.rd_len (S.own_rd hyo)
  obtain ⟨cur,hh,hcs⟩:∃ cur,w.heap[g]? = some (.cells cur E (0,0))∧k*R.sz+j+cs.length≤cur.size:=by
   rcases hv with ⟨_,h,_⟩ | ⟨g',cap',cur,ccs,f2,h,hg',h1,h2,h3,h4,h5,_⟩
   ·subst h;simp at hk
   ·simp at h
    obtain ⟨rfl,_⟩:=h
    have:=(oA hyo h5 k hk hup).1
    have hcl:ccs.length=xs.length*R.sz:=iz (gB h5)
    exact ⟨cur,hg',by rw [h3];exact Nat.le_trans (by omega) (Nat.mul_le_mul_right _ h1)⟩
  have hh':w.heap[g]? = some (.cells cur.toList.toArray E (0,0)):=by simpa using hh
  obtain ⟨w',hr,hnew,hc⟩:=gi (P:=P) cs (k*R.sz+j) 0 cur.toList w hh' (by simp;omega) (S.rd_one (S.own_rd hyo))
  have hsz:¬ (cs.toArray.size≠inf.size):=by simp;omega
  unfold Oper.wp execOp
  simp only [ha.eval,hx,Instr.storeAt,Instr.sureAddr,storeVar,sizeOf,typeInfo,hi,hy,Sem.run_bind,Sem.run_pure,run_program,Result.andThen_ok,hsz,if_false,Sem.run_ite,List.toList_toArray,hr,Oper.upon_skip]
  refine hK' _ _ (hK w' ?_ _ ha)
  refine hS'.upd ?_
  rintro _ ⟨gy,gf,rfl,hy2,hv2⟩ hnd2
  rcases hv2 with ⟨_,h,_⟩ | ⟨g',cap',cur',ccs,f2,h,hg',h1,h2,h3,h4,h5,rfl⟩
  ·subst h;simp at hk
  ·simp at h
   obtain ⟨rfl,rfl,rfl⟩:=h
   obtain ⟨rfl⟩:cur'=cur:=by rw [hh] at hg';simpa using hg'.symm
   obtain ⟨hle,f',g',h6,hp⟩:=oA hy2 h5 k hk hup
   have hoth:∀ x,x≠g→x<w.heap.size→w'.heap[x]? = w.heap[x]?:=fun x hx hlt=>hc.block x hlt (by simpa using hx)
   have hcl:ccs.length=xs.length*R.sz:=iz (gB h5)
   have hpp:(f'++g'++[g]).Perm (gy++g :: f2):=List.perm_iff_count.2 fun a=>by
    have:=List.perm_iff_count.1 hp a
    simp only [List.count_append,List.count_cons,List.count_nil] at this ⊢;omega
   have hnd3:=hpp.nodup_iff.2 hnd2
   have hgn:g∉f':=fun hm=>by
    have:=(List.nodup_append.1 hnd3).2.2 g (List.mem_append_left _ hm) g (by simp)
    exact this rfl
   refine ⟨g :: f',.inr ⟨g,cap,_,ccs.take (k*R.sz+j)++cs++ccs.drop (k*R.sz+j+cs.length),f',by simp,hnew,by simpa using h1,h2,?_,?_,gc h6 (fun b hb=>hoth b (fun e=>hgn (e ▸ hb)) (gP h6 b hb)),rfl⟩,?_,hc.mono (by simp),fun b hb=>.inl ?_⟩
   ·simp only [List.size_toArray,List.length_append,List.length_take,List.length_drop,Array.length_toList,Nat.add_zero]
    omega
   ·rw [← h4,List.length_set]
    have:=oe cur.toList cs (k*R.sz+j) cs.length (xs.length*R.sz) (by omega) (by simp;have:=Nat.mul_le_mul_right R.sz h1;omega) rfl
    simp only [Nat.add_zero] at this ⊢
    rw [this]
   ·exact List.nodup_cons.2 ⟨hgn,(List.nodup_append.1 (List.nodup_append.1 hnd3).1).1⟩
   ·refine hpp.mem_iff.1 ?_
    rcases List.mem_cons.1 hb with rfl | hb
    ·simp
    ·simp [hb]
end
theorem rR {e:Env} {i:Nat} {x:Operand} {v:Value} {l:List (Nat × Operand)} {vs:List Value} (h:(ev e x).cells=[v].toArray) (t:l.map (fun p=>(p.1,(ev e p.2).cells))=((vs.zipIdx (i+1)).map fun p=>(p.2,[p.1].toArray))) :
  ((i,x) :: l).map (fun p=>(p.1,(ev e p.2).cells))=(((v :: vs).zipIdx i).map fun p=>(p.2,[p.1].toArray)):=by rw [List.map_cons,List.zipIdx_cons,List.map_cons,h,t]
section
variable {α:Type} {R:Rep α} {W w w0 w1:World} {Γ:List Asn} {F F':List Nat} {E:TypeId} {v:Value} {cs:List Value} {x:α}
theorem Sat.frzOwn (i:Nat) (hS:Sat w0 w Γ) (hi:Γ[i]? = some (Frz W F)) (h:R.own W cs x F') (hs:∀ b∈F',b∈F):R.own w cs x F' :=
 R.own_ext h (fun b hb=>hS.frzEq i hi b (hs b hb))
theorem Sat.refrz (hS:Sat w0 w (Frz W F :: Γ)):Sat w0 w (Frz w F :: Γ) :=
 hS.conv fun f h=>⟨h.1,fun _ _=>rfl,fun b hb=>(Frz W F).lt h b (by rw [h.1];exact hb)⟩
end
def cA (N:Nat) (a0:Int) (a1:Int) (a2:Int):Option Bool :=
  (bif decide (a1≤a0) then
  some (decide (a0≤a2))
  else
  some false)
def ci (N:Nat):Nat→Int→ByteArray→(List Int)→Int→Option (Sum Bool Int)
 | 0,_,_,_,_=>none
 | k+1,AG,AH,U,J =>
  (bif decide (J<(U.length:Int)) then
  (ix U J).bind fun AI =>
  (bif (AI == AG) then
  some (.inl true)
  else
  (ad J 1).bind fun AJ =>
  ci N k AG AH U AJ)
  else
  some (.inr J))
def dP (N:Nat) (a0:ByteArray) (a1:List Int) (a2:Int):Option Bool :=
  (ci N N a2 a0 a1 0).bind fun J =>
  lpS J (fun q=>some q) fun U =>
  some false
def ff (N:Nat):Nat→ByteArray→Int→Option (Sum Bool Int)
 | 0,_,_=>none
 | k+1,U,J =>
  (bif decide (J<(U.size:Int)) then
  (bx U J).bind fun AG =>
  (bif decide (AG<97) then
  some (.inl false)
  else
  (bx U J).bind fun AH =>
  (bif decide (122<AH) then
  some (.inl false)
  else
  (ad J 1).bind fun AI =>
  ff N k U AI))
  else
  some (.inr J))
def gW (N:Nat) (a0:ByteArray):Option Bool :=
  (ff N N a0 0).bind fun J =>
  lpS J (fun q=>some q) fun AG =>
  (cA N (a0.size:Int) 1 4).bind fun U =>
  some U
def iu (N:Nat):Nat→(List Int)→Int→Int→Option (Sum Int Int)
 | 0,_,_,_=>none
 | k+1,U,AG,J =>
  (bif decide (J<(U.length:Int)) then
  (ix U J).bind fun AH =>
  (bif (AH == AG) then
  some (.inl J)
  else
  (ad J 1).bind fun AI =>
  iu N k U AG AI)
  else
  some (.inr J))
def jA (N:Nat) (a0:List Int) (a1:Int):Option Int :=
  (iu N N a0 a1 0).bind fun J =>
  lpS J (fun q=>some q) fun U =>
  some (-1)
def dc (N:Nat):Nat→Int→(List (ByteArray × List Int))→(List Int)→Int→Int→Option (Sum Bool Int)
 | 0,_,_,_,_,_=>none
 | k+1,AH,U,AI,AG,J =>
  (ix U AG).bind fun AJ =>
  (bif decide (J<(AJ.2.length:Int)) then
  (ix U AG).bind fun AK =>
  (ix AK.2 J).bind fun AM =>
  (sb AH 1).bind fun AN =>
  (cA N AM 0 AN).bind fun AO =>
  (bif AO then
  (ad J 1).bind fun AP =>
  dc N k AH U AI AG AP
  else
  some (.inl false))
  else
  some (.inr J))
def c6 (N:Nat):Nat→Int→(List (ByteArray × List Int))→(List Int)→Int→Option (Sum Bool Int)
 | 0,_,_,_,_=>none
 | k+1,AG,U,AH,J =>
  (bif decide (J<(U.length:Int)) then
  (ix U J).bind fun AI =>
  (gW N AI.1).bind fun AJ =>
  (bif AJ then
  (ix U J).bind fun AK =>
  (cA N (AK.2.length:Int) 1 5).bind fun AM =>
  (bif AM then
  (dc N N AG U AH J 0).bind fun AN =>
  lpS AN (fun q=>some (.inl q)) fun AP =>
  (ad J 1).bind fun AO =>
  c6 N k AG U AH AO
  else
  some (.inl false))
  else
  some (.inl false))
  else
  some (.inr J))
def cK (N:Nat):Nat→Int→(List (ByteArray × List Int))→(List Int)→Int→Bool→Int→Option (Bool × Int)
 | 0,_,_,_,_,_,_=>none
 | k+1,AH,U,AI,AG,AJ,J =>
  (bif decide (J<(U.length:Int)) then
  (bif AJ then
  (ad J 1).bind fun AM =>
  cK N k AH U AI AG true AM
  else
  (ix U J).bind fun AK =>
  (dP N AK.1 AK.2 AG).bind fun AN =>
  (ad J 1).bind fun AO =>
  cK N k AH U AI AG AN AO)
  else
  some (AJ,J))
def df (N:Nat):Nat→Int→(List (ByteArray × List Int))→(List Int)→Int→Option (Sum Bool Int)
 | 0,_,_,_,_=>none
 | k+1,U,AG,AH,J =>
  (bif decide (J<U) then
  (cK N N U AG AH J false 0).bind fun AI =>
  lpB AI fun (AJ,AM) =>
  (bif AJ then
  (ad J 1).bind fun AK =>
  df N k U AG AH AK
  else
  some (.inl false))
  else
  some (.inr J))
def c5 (N:Nat):Nat→Int→(List (ByteArray × List Int))→(List Int)→Int→Option (Sum Bool Int)
 | 0,_,_,_,_=>none
 | k+1,AG,AH,U,J =>
  (bif decide (J<(U.length:Int)) then
  (ix U J).bind fun AI =>
  (sb AG 1).bind fun AJ =>
  (cA N AI 0 AJ).bind fun AK =>
  (bif AK then
  (slc U 0 J).bind fun AM =>
  (ix U J).bind fun AN =>
  (jA N AM AN).bind fun AO =>
  (bif decide (0≤AO) then
  some (.inl false)
  else
  (ad J 1).bind fun AP =>
  c5 N k AG AH U AP)
  else
  some (.inl false))
  else
  some (.inr J))
def eC (N:Nat) (a0:Int) (a1:List (ByteArray × List Int)) (a2:List Int):Option Bool :=
  (cA N a0 1 5).bind fun J =>
  (bif J then
  (cA N (a1.length:Int) 1 4).bind fun U =>
  (bif U then
  (bif decide (a0<(a2.length:Int)) then
  some false
  else
  (c6 N N a0 a1 a2 0).bind fun AG =>
  lpS AG (fun q=>some q) fun AJ =>
  (df N N a0 a1 a2 0).bind fun AH =>
  lpS AH (fun q=>some q) fun AK =>
  (c5 N N a0 a1 a2 0).bind fun AI =>
  lpS AI (fun q=>some q) fun AM =>
  some true)
  else
  some false)
  else
  some false)
def cn (N:Nat):Nat→Int→(List (ByteArray × List Int))→(List Int)→(List (List (Int × Int)))→(List (Int × Int))→(List (Int × Int))→(List (List (Int × Int)))→(List (Int × Int))→(List (Int × Int))→Int→(List (Int × Int))→Int→Option ((List (Int × Int)) × Int)
 | 0,_,_,_,_,_,_,_,_,_,_,_,_=>none
 | k+1,AI,U,AJ,AK,AM,AN,AO,AP,AQ,AG,AH,J =>
  (bif decide (J<(U.length:Int)) then
  (ix U J).bind fun AR =>
  (dP N AR.1 AR.2 AG).bind fun AS =>
  (bif AS then
  (apd 16 AH [(1,1)]).bind fun AT =>
  (ad J 1).bind fun AU =>
  cn N k AI U AJ AK AM AN AO AP AQ AG AT AU
  else
  (apd 16 AH [(0,1)]).bind fun AV =>
  (ad J 1).bind fun AW =>
  cn N k AI U AJ AK AM AN AO AP AQ AG AV AW)
  else
  some (AH,J))
def cM (N:Nat):Nat→Int→(List (ByteArray × List Int))→(List Int)→(List (List (Int × Int)))→(List (Int × Int))→(List (Int × Int))→(List (List (Int × Int)))→(List (Int × Int))→(List (Int × Int))→Int→Option ((List (List (Int × Int))) × (List (Int × Int)) × Int)
 | 0,_,_,_,_,_,_,_,_,_,_=>none
 | k+1,U,AI,AJ,AK,AM,AN,AG,AH,AO,J =>
  (bif decide (J<U) then
  (cn N N U AI AJ AK AM AN AG AH AO J [] 0).bind fun AP =>
  lpB AP fun (AQ,AU) =>
  (apd 24 AG [AQ]).bind fun AR =>
  (apd 16 AH [(1,1)]).bind fun AS =>
  (ad J 1).bind fun AT =>
  cM N k U AI AJ AK AM AN AR AS AO AT
  else
  some (AG,AH,J))
def cO (N:Nat):Nat→Int→(List (ByteArray × List Int))→(List Int)→(List (List (Int × Int)))→(List (Int × Int))→(List (Int × Int))→(List (List (Int × Int)))→(List (Int × Int))→(List (Int × Int))→Int→Option ((List (Int × Int)) × Int)
 | 0,_,_,_,_,_,_,_,_,_,_=>none
 | k+1,AH,U,AI,AJ,AK,AM,AN,AO,AG,J =>
  (bif decide (J<(U.length:Int)) then
  (apd 16 AG [(1,1)]).bind fun AP =>
  (ad J 1).bind fun AQ =>
  cO N k AH U AI AJ AK AM AN AO AP AQ
  else
  some (AG,J))
def e8 (N:Nat) (a0:Int) (a1:List (ByteArray × List Int)) (a2:List Int):Option ((List (List (Int × Int)) × List (Int × Int) × List (Int × Int)) × Bool) :=
  (eC N a0 a1 a2).bind fun AG =>
  (bif AG then
  (cM N N a0 a1 a2 [] [] [] [] [] [] 0).bind fun AH =>
  lpB AH fun (J,U,AK) =>
  (cO N N a0 a1 a2 [] [] [] J U [] 0).bind fun AI =>
  lpB AI fun (AJ,AM) =>
  some ((J,U,AJ),true)
  else
  some (([],[],[]),false))
def cV (N:Nat):Nat→Int→Int→Option (Int × Int)
 | 0,_,_=>none
 | k+1,U,J =>
  (bif (J != 0) then
  (rm U J).bind fun AG =>
  cV N k J AG
  else
  some (U,J))
def d7 (N:Nat) (a0:Int) (a1:Int):Option Int :=
  (cV N N a0 a1).bind fun J =>
  lpB J fun (U,AG) =>
  some U
def ax (N:Nat) (a0:Int) (a1:Int):Option Bool :=
  (cA N a1 1 1000000000).bind fun J =>
  (bif J then
  (cA N a0 (-1000000000) 1000000000).bind fun U =>
  (bif U then
  (sb 0 a0).bind fun AG =>
  (d7 N (imx a0 AG) a1).bind fun AH =>
  some (AH == 1)
  else
  some false)
  else
  some false)
def cZ (N:Nat):Nat→(List (List (Int × Int)))→Int→Int→Int→Int→Option (Sum Bool Int)
 | 0,_,_,_,_,_=>none
 | k+1,U,AJ,AG,AH,J =>
  (bif decide (J<AG) then
  (ix U AH).bind fun AK =>
  (ix AK J).bind fun AI =>
  (ax N AI.1 AI.2).bind fun AM =>
  (bif AM then
  (ad J 1).bind fun AN =>
  cZ N k U AJ AG AH AN
  else
  some (.inl false))
  else
  some (.inr J))
def c4 (N:Nat):Nat→(List (List (Int × Int)))→Int→Int→Int→Option (Sum Bool Int)
 | 0,_,_,_,_=>none
 | k+1,U,AH,AG,J =>
  (bif decide (J<(U.length:Int)) then
  (ix U J).bind fun AI =>
  (bif ((AI.length:Int) != AG) then
  some (.inl false)
  else
  (cZ N N U AH AG J 0).bind fun AJ =>
  lpS AJ (fun q=>some (.inl q)) fun AM =>
  (ad J 1).bind fun AK =>
  c4 N k U AH AG AK)
  else
  some (.inr J))
def dh (N:Nat) (a0:List (List (Int × Int))) (a1:Int) (a2:Int):Option Bool :=
  (c4 N N a0 a1 a2 0).bind fun J =>
  lpS J (fun q=>some q) fun U =>
  some ((a0.length:Int) == a1)
def bN (N:Nat) (a0:List (List (Int × Int))) (a1:List (Int × Int)) (a2:List (Int × Int)):Option Bool :=
  (cA N (a2.length:Int) 1 5).bind fun J =>
  (bif J then
  (cA N (a1.length:Int) 1 5).bind fun U =>
  (bif U then
  (dh N a0 (a1.length:Int) (a2.length:Int)).bind fun AG =>
  (bif AG then
  (dh N ([a2]) 1 (a2.length:Int)).bind fun AH =>
  (bif AH then
  (dh N ([a1]) 1 (a1.length:Int)).bind fun AI =>
  some AI
  else
  some false)
  else
  some false)
  else
  some false)
  else
  some false)
def bB (N:Nat):Nat→(List (Int × Int))→(List (Int × Int))→Int→Option (Sum Bool Int)
 | 0,_,_,_=>none
 | k+1,U,AG,J =>
  (bif decide (J<(U.length:Int)) then
  (ix U J).bind fun AH =>
  (ix AG J).bind fun AI =>
  (bif (AH.1 == AI.1&&AH.2 == AI.2) then
  (ad J 1).bind fun AJ =>
  bB N k U AG AJ
  else
  some (.inl false))
  else
  some (.inr J))
def cE (N:Nat) (a0:List (Int × Int)) (a1:List (Int × Int)):Option Bool :=
  (bif ((a0.length:Int) != (a1.length:Int)) then
  some false
  else
  (bB N N a0 a1 0).bind fun J =>
  lpS J (fun q=>some q) fun U =>
  some true)
def dU (rec:Int→Int→Int→Option (List (List Int))) (N:Nat):Nat→Int→Int→(List (List Int))→Int→(List (List Int))→Int→Option ((List (List Int)) × Int)
 | 0,_,_,_,_,_,_=>none
 | k+1,AI,AJ,AG,AH,U,J =>
  (bif decide (J<(U.length:Int)) then
  (ix U J).bind fun AK =>
  (apd 8 ([AH]) AK).bind fun AM =>
  (apd 24 AG [AM]).bind fun AN =>
  (ad J 1).bind fun AO =>
  dU rec N k AI AJ AN AH U AO
  else
  some (AG,J))
def gq (rec:Int→Int→Int→Option (List (List Int))) (N:Nat):Nat→Int→Int→(List (List Int))→Int→Option ((List (List Int)) × Int)
 | 0,_,_,_,_=>none
 | k+1,U,AG,AH,J =>
  (ad J AG).bind fun AI =>
  (bif decide (AI≤U) then
  (ad J 1).bind fun AJ =>
  (sb AG 1).bind fun AK =>
  (rec AJ U AK).bind fun AM =>
  (dU rec N N U AG AH J AM 0).bind fun AN =>
  lpB AN fun (AO,AQ) =>
  (ad J 1).bind fun AP =>
  gq rec N k U AG AO AP
  else
  some (AH,J))
def dw:Nat→Int→Int→Int→Option (List (List Int))
 | 0,_,_,_=>none
 | N+1,a0,a1,a2 =>
  (bif (a2 == 0) then
  some ([[]])
  else
  (gq (dw N) N N a1 a2 [] a0).bind fun J =>
  lpB J fun (U,AG) =>
  some U)
def bz (N:Nat) (a0:Int) (a1:Int):Option ((Int × Int) × Bool) :=
  (bif (a1 == 0) then
  some ((0,0),false)
  else
  (sb 0 4000000000000000000).bind fun AN =>
  (cA N a0 AN 4000000000000000000).bind fun AO =>
  (bif AO then
  (sb 0 4000000000000000000).bind fun AP =>
  (cA N a1 AP 4000000000000000000).bind fun AQ =>
  (bif AQ then
  (bif decide (a1<0) then
  (sb 0 a0).bind fun J =>
  (sb 0 a1).bind fun U =>
  (sb 0 J).bind fun AR =>
  (d7 N (imx J AR) U).bind fun AG =>
  (qt J AG).bind fun AH =>
  (qt U AG).bind fun AI =>
  (ax N AH AI).bind fun AS =>
  (bif AS then
  some ((AH,AI),true)
  else
  some ((0,0),false))
  else
  (sb 0 a0).bind fun AT =>
  (d7 N (imx a0 AT) a1).bind fun AJ =>
  (qt a0 AJ).bind fun AK =>
  (qt a1 AJ).bind fun AM =>
  (ax N AK AM).bind fun AU =>
  (bif AU then
  some ((AK,AM),true)
  else
  some ((0,0),false)))
  else
  some ((0,0),false))
  else
  some ((0,0),false)))
def dm (N:Nat) (a0:Int) (a1:Int) (a2:Int) (a3:Int):Option ((Int × Int) × Bool) :=
  (ax N a0 a1).bind fun U =>
  (bif U then
  (ax N a2 a3).bind fun AG =>
  (bif AG then
  (ml a0 a3).bind fun AH =>
  (ml a1 a2).bind fun AI =>
  (bz N AH AI).bind fun J =>
  some ((J.1.1,J.1.2),J.2)
  else
  some ((0,0),false))
  else
  some ((0,0),false))
def bL (N:Nat) (a0:Int) (a1:Int) (a2:Int) (a3:Int):Option ((Int × Int) × Bool) :=
  (ax N a0 a1).bind fun U =>
  (bif U then
  (ax N a2 a3).bind fun AG =>
  (bif AG then
  (ml a0 a2).bind fun AH =>
  (ml a1 a3).bind fun AI =>
  (bz N AH AI).bind fun J =>
  some ((J.1.1,J.1.2),J.2)
  else
  some ((0,0),false))
  else
  some ((0,0),false))
def bA (N:Nat) (a0:Int) (a1:Int) (a2:Int) (a3:Int):Option ((Int × Int) × Bool) :=
  (ax N a0 a1).bind fun U =>
  (bif U then
  (ax N a2 a3).bind fun AG =>
  (bif AG then
  (ml a0 a3).bind fun AH =>
  (ml a2 a1).bind fun AI =>
  (ad AH AI).bind fun AJ =>
  (ml a1 a3).bind fun AK =>
  (bz N AJ AK).bind fun J =>
  some ((J.1.1,J.1.2),J.2)
  else
  some ((0,0),false))
  else
  some ((0,0),false))
def dD (N:Nat) (a0:Int) (a1:Int) (a2:Int) (a3:Int):Option ((Int × Int) × Bool) :=
  (ax N a2 a3).bind fun U =>
  (bif U then
  (sb 0 a2).bind fun AG =>
  (bA N a0 a1 AG a3).bind fun J =>
  some ((J.1.1,J.1.2),J.2)
  else
  some ((0,0),false))
def bY (N:Nat):Nat→(List (List (Int × Int)))→Int→Int→Int→Int→Bool→Int→Option ((List (List (Int × Int))) × Bool × Int)
 | 0,_,_,_,_,_,_,_=>none
 | k+1,U,AI,AG,AJ,AK,AM,J =>
  (ix U AG).bind fun AS =>
  (bif decide (J<(AS.length:Int)) then
  (bif AM then
  (ix U AI).bind fun AT =>
  (ix AT J).bind fun AO =>
  (bL N AJ AK AO.1 AO.2).bind fun AN =>
  (ix U AG).bind fun AU =>
  (ix AU J).bind fun AP =>
  (dD N AP.1 AP.2 AN.1.1 AN.1.2).bind fun AH =>
  (bif AN.2 then
  (ix U AG).bind fun AQ =>
  (ix AQ J).bind fun A1 =>
  (sto AQ J (AH.1.1,AH.1.2)).bind fun AV =>
  (sto U AG AV).bind fun AW =>
  (ad J 1).bind fun AX =>
  bY N k AW AI AG AJ AK AH.2 AX
  else
  (ix U AG).bind fun AR =>
  (ix AR J).bind fun A2 =>
  (sto AR J (AH.1.1,AH.1.2)).bind fun AY =>
  (sto U AG AY).bind fun AZ =>
  (ad J 1).bind fun A0 =>
  bY N k AZ AI AG AJ AK false A0)
  else
  some (U,AM,J))
  else
  some (U,AM,J))
def cl (N:Nat):Nat→(List (List (Int × Int)))→Int→Int→Option (Sum (Bool × (List (List (Int × Int)))) ((List (List (Int × Int))) × Int))
 | 0,_,_,_=>none
 | k+1,AG,J,U =>
  (bif decide (U<(AG.length:Int)) then
  (bif (U == J) then
  (ad U 1).bind fun AM =>
  cl N k AG J AM
  else
  (ix AG U).bind fun AN =>
  (ix AN J).bind fun AO =>
  (bif (AO.1 == 0) then
  (ad U 1).bind fun AP =>
  cl N k AG J AP
  else
  (ix AG U).bind fun AQ =>
  (ix AQ J).bind fun AI =>
  (ix AG J).bind fun AR =>
  (ix AR J).bind fun AJ =>
  (dm N AI.1 AI.2 AJ.1 AJ.2).bind fun AH =>
  (bY N N AG J U AH.1.1 AH.1.2 AH.2 J).bind fun AS =>
  lpB AS fun (AK,AT,AV) =>
  (bif AT then
  (ad U 1).bind fun AU =>
  cl N k AK J AU
  else
  some (.inl (false,AK)))))
  else
  some (.inr (AG,U)))
def fM (N:Nat) (a0:List (List (Int × Int))) (a1:Int):Option (Bool × (List (List (Int × Int)))) :=
  (cl N N a0 a1 0).bind fun J =>
  lpS J (fun q=>some q) fun (U,AG) =>
  some (true,U)
def bu (N:Nat):Nat→(List (List (Int × Int)))→(List (Int × Int))→Int→(List (List (Int × Int)))→Int→Option (Sum ((List (Int × Int)) × Bool) ((List (List (Int × Int))) × Int))
 | 0,_,_,_,_,_=>none
 | k+1,AG,U,AH,AI,J =>
  (bif decide (J<AH) then
  (ix U J).bind fun AJ =>
  (ax N AJ.1 AJ.2).bind fun AM =>
  (bif AM then
  (ix AG J).bind fun AN =>
  (ix U J).bind fun AK =>
  (apd 16 [] AN).bind fun AO =>
  (apd 16 AO [(AK.1,AK.2)]).bind fun AP =>
  (apd 24 AI [AP]).bind fun AQ =>
  (ad J 1).bind fun AR =>
  bu N k AG U AH AQ AR
  else
  some (.inl ([],false)))
  else
  some (.inr (AI,J)))
def bD (N:Nat):Nat→Int→(List (List (Int × Int)))→Int→Int→Option Int
 | 0,_,_,_,_=>none
 | k+1,U,AG,AH,J =>
  (bif decide (J<U) then
  (ix AG J).bind fun AI =>
  (ix AI AH).bind fun AJ =>
  (bif (AJ.1 == 0) then
  (ad J 1).bind fun AK =>
  bD N k U AG AH AK
  else
  some J)
  else
  some J)
def bv (N:Nat):Nat→Int→(List (List (Int × Int)))→Int→Option (Sum ((List (Int × Int)) × Bool) ((List (List (Int × Int))) × Int))
 | 0,_,_,_=>none
 | k+1,AG,U,J =>
  (bif decide (J<AG) then
  (bD N N AG U J J).bind fun AJ =>
  lpB AJ fun AH =>
  (bif (AH == AG) then
  some (.inl ([],false))
  else
  (ix U AH).bind fun AK =>
  (ix U J).bind fun AM =>
  (ix U AH).bind fun AQ =>
  (sto U AH AM).bind fun AN =>
  (sto AN J AK).bind fun AO =>
  (fM N AO J).bind fun AI =>
  (bif AI.1 then
  (ad J 1).bind fun AP =>
  bv N k AG AI.2 AP
  else
  some (.inl ([],false))))
  else
  some (.inr (U,J)))
def bt (N:Nat):Nat→Int→(List (List (Int × Int)))→(List (Int × Int))→Int→Option (Sum ((List (Int × Int)) × Bool) ((List (Int × Int)) × Int))
 | 0,_,_,_,_=>none
 | k+1,AG,AH,AK,J =>
  (bif decide (J<AG) then
  (ix AH J).bind fun AM =>
  (ix AM AG).bind fun AI =>
  (ix AH J).bind fun AN =>
  (ix AN J).bind fun AJ =>
  (dm N AI.1 AI.2 AJ.1 AJ.2).bind fun U =>
  (bif U.2 then
  (apd 16 AK [(U.1.1,U.1.2)]).bind fun AO =>
  (ad J 1).bind fun AP =>
  bt N k AG AH AO AP
  else
  some (.inl ([],false)))
  else
  some (.inr (AK,J)))
def bq (N:Nat) (a0:List (List (Int × Int))) (a1:List (Int × Int)):Option ((List (Int × Int)) × Bool) :=
  (bif decide (6<(a1.length:Int)) then
  some ([],false)
  else
  (dh N a0 (a1.length:Int) (a1.length:Int)).bind fun AI =>
  (bif AI then
  (bu N N a0 a1 (a1.length:Int) [] 0).bind fun J =>
  lpS J (fun q=>some q) fun (AJ,AN) =>
  (bv N N (a1.length:Int) AJ 0).bind fun U =>
  lpS U (fun q=>some q) fun (AK,AO) =>
  (bt N N (a1.length:Int) AK [] 0).bind fun AG =>
  lpS AG (fun q=>some q) fun (AH,AM) =>
  some (AH,true)
  else
  some ([],false)))
def bO (N:Nat) (a0:Int) (a1:Int) (a2:Int) (a3:Int):Option Int :=
  (ax N a0 a1).bind fun AG =>
  (bif AG then
  (ax N a2 a3).bind fun AH =>
  (bif AH then
  (ml a0 a3).bind fun J =>
  (ml a2 a1).bind fun U =>
  (bif decide (J<U) then
  some (-1)
  else
  (bif decide (U<J) then
  some 1
  else
  some 0))
  else
  some 0)
  else
  some 0)
def bE (N:Nat):Nat→(List (Int × Int))→(List (Int × Int))→Int→Int→Int→Int→Int→Option (Sum ((Int × Int) × Bool) (Int × Int × Int))
 | 0,_,_,_,_,_,_,_=>none
 | k+1,U,AI,AO,AP,AJ,AK,J =>
  (bif decide (J<(U.length:Int)) then
  (ix U J).bind fun AM =>
  (ix AI J).bind fun AN =>
  (bL N AM.1 AM.2 AN.1 AN.2).bind fun AG =>
  (bif AG.2 then
  (bA N AJ AK AG.1.1 AG.1.2).bind fun AH =>
  (bif AH.2 then
  (ad J 1).bind fun AQ =>
  bE N k U AI AO AP AH.1.1 AH.1.2 AQ
  else
  some (.inl ((0,0),false)))
  else
  some (.inl ((0,0),false)))
  else
  some (.inr (AJ,AK,J)))
def dk (N:Nat) (a0:List (Int × Int)) (a1:List (Int × Int)):Option ((Int × Int) × Bool) :=
  (bif ((a0.length:Int) != (a1.length:Int)) then
  some ((0,0),false)
  else
  (bE N N a0 a1 0 0 0 1 0).bind fun J =>
  lpS J (fun q=>some q) fun (U,AG,AH) =>
  some ((U,AG),true))
def aX (N:Nat):Nat→(List (List (Int × Int)))→(List (Int × Int))→(List (Int × Int))→Int→Option (Sum ((List (Int × Int)) × Bool) ((List (Int × Int)) × Int))
 | 0,_,_,_,_=>none
 | k+1,U,AH,AI,J =>
  (bif decide (J<(U.length:Int)) then
  (ix U J).bind fun AJ =>
  (dk N AJ AH).bind fun AG =>
  (bif AG.2 then
  (apd 16 AI [(AG.1.1,AG.1.2)]).bind fun AK =>
  (ad J 1).bind fun AM =>
  aX N k U AH AK AM
  else
  some (.inl ([],false)))
  else
  some (.inr (AI,J)))
def bG (N:Nat) (a0:List (List (Int × Int))) (a1:List (Int × Int)):Option ((List (Int × Int)) × Bool) :=
  (aX N N a0 a1 [] 0).bind fun J =>
  lpS J (fun q=>some q) fun (U,AG) =>
  some (U,true)
def cF (N:Nat):Nat→(List (Int × Int))→Int→(List (List (Int × Int)))→(List (Int × Int))→(List (Int × Int))→Int→Option (Sum Bool Int)
 | 0,_,_,_,_,_,_=>none
 | k+1,U,AH,AI,AJ,AK,J =>
  (bif decide (J<(U.length:Int)) then
  (ix U J).bind fun AG =>
  (ax N AG.1 AG.2).bind fun AM =>
  (bif AM then
  (ix U J).bind fun AN =>
  (bif decide (AN.1<0) then
  some (.inl false)
  else
  (ad J 1).bind fun AO =>
  cF N k U AH AI AJ AK AO)
  else
  some (.inl false))
  else
  some (.inr J))
def bZ (N:Nat):Nat→Int→(List (List (Int × Int)))→(List (Int × Int))→(List (Int × Int))→(List (Int × Int))→Bool→Int→Option (Sum Bool Int)
 | 0,_,_,_,_,_,_,_=>none
 | k+1,AG,AK,AH,AM,U,AN,J =>
  (bif decide (J<(U.length:Int)) then
  (ix U J).bind fun AI =>
  (ix AH J).bind fun AJ =>
  (bO N AI.1 AI.2 AJ.1 AJ.2).bind fun AO =>
  (ml AO AG).bind fun AP =>
  (bif decide (AP<0) then
  some (.inl false)
  else
  (ad J 1).bind fun AQ =>
  bZ N k AG AK AH AM U AN AQ)
  else
  some (.inr J))
def dA (N:Nat) (a0:List (List (Int × Int))) (a1:List (Int × Int)) (a2:List (Int × Int)) (a3:List (Int × Int)) (a4:Int):Option Bool :=
  (bN N a0 a1 a2).bind fun U =>
  (bif U then
  (bif ((a3.length:Int) != (a2.length:Int)) then
  some false
  else
  (cF N N a3 a4 a0 a1 a2 0).bind fun AG =>
  lpS AG (fun q=>some q) fun AI =>
  (bG N a0 a3).bind fun J =>
  (bZ N N a4 a0 a1 a2 J.1 J.2 0).bind fun AH =>
  lpS AH (fun q=>some q) fun AJ =>
  some J.2)
  else
  some false)
def bX (N:Nat):Nat→Int→(List (List (Int × Int)))→(List (Int × Int))→(List (Int × Int))→(List (List (Int × Int)))→Int→Int→(List (List Int))→Int→(List (List (Int × Int)))→(List (Int × Int))→Int→Int→(List (Int × Int))→Int→Option ((List (Int × Int)) × Int)
 | 0,_,_,_,_,_,_,_,_,_,_,_,_,_,_,_=>none
 | k+1,AH,AI,AJ,AK,AM,U,AN,AO,AP,AQ,AR,AS,AT,AG,J =>
  (bif decide (J<U) then
  (apd 16 AG [(0,1)]).bind fun AU =>
  (ad J 1).bind fun AV =>
  bX N k AH AI AJ AK AM U AN AO AP AQ AR AS AT AU AV
  else
  some (AG,J))
def bQ (N:Nat):Nat→Int→(List (List (Int × Int)))→(List (Int × Int))→(List (Int × Int))→(List (List (Int × Int)))→Int→Int→(List (List Int))→Int→(List (List (Int × Int)))→(List (Int × Int))→Int→Option ((List (List (Int × Int))) × (List (Int × Int)) × Int)
 | 0,_,_,_,_,_,_,_,_,_,_,_,_=>none
 | k+1,AP,AH,AI,AQ,AR,AJ,U,AK,AM,AN,AO,J =>
  (bif decide (J<AJ) then
  (ix AK AM).bind fun AV =>
  (ix AV J).bind fun AG =>
  (bif decide (AG<U) then
  (ix AH AG).bind fun AW =>
  (apd 24 AN [AW]).bind fun AX =>
  (ix AI AG).bind fun AS =>
  (apd 16 AO [(AS.1,AS.2)]).bind fun AY =>
  (ad J 1).bind fun AZ =>
  bQ N k AP AH AI AQ AR AJ U AK AM AX AY AZ
  else
  (bX N N AP AH AI AQ AR AJ U AK AM AN AO J AG [] 0).bind fun A0 =>
  lpB A0 fun (AT,A5) =>
  (sb AG U).bind fun AU =>
  (ix AT AU).bind fun A6 =>
  (sto AT AU (1,1)).bind fun A1 =>
  (apd 24 AN [A1]).bind fun A2 =>
  (apd 16 AO [(0,1)]).bind fun A3 =>
  (ad J 1).bind fun A4 =>
  bQ N k AP AH AI AQ AR AJ U AK AM A2 A3 A4)
  else
  some (AN,AO,J))
def bT (N:Nat):Nat→Int→(List (List (Int × Int)))→(List (Int × Int))→(List (Int × Int))→(List (List (Int × Int)))→Int→Int→(List (List Int))→Int→(List (Int × Int))→Bool→Int→Option (Bool × Int)
 | 0,_,_,_,_,_,_,_,_,_,_,_,_=>none
 | k+1,AH,AI,AJ,AK,U,AM,AN,AO,AP,AG,AQ,J =>
  (bif decide (J<(U.length:Int)) then
  (bif AQ then
  (ad J 1).bind fun AR =>
  bT N k AH AI AJ AK U AM AN AO AP AG true AR
  else
  (ix U J).bind fun AS =>
  (cE N AS AG).bind fun AT =>
  (ad J 1).bind fun AU =>
  bT N k AH AI AJ AK U AM AN AO AP AG AT AU)
  else
  some (AQ,J))
def bp (N:Nat):Nat→Int→(List (List (Int × Int)))→(List (Int × Int))→(List (Int × Int))→(List (List (Int × Int)))→Int→Int→(List (List Int))→Int→Option ((List (List (Int × Int))) × Int)
 | 0,_,_,_,_,_,_,_,_,_=>none
 | k+1,U,AG,AH,AI,AJ,AM,AN,AK,J =>
  (bif decide (J<(AK.length:Int)) then
  (bQ N N U AG AH AI AJ AM AN AK J [] [] 0).bind fun AP =>
  lpB AP fun (AV,AW,A0) =>
  (bq N AV AW).bind fun AO =>
  (bif AO.2 then
  (dA N AG AH AI AO.1 U).bind fun AX =>
  (bif AX then
  (bT N N U AG AH AI AJ AM AN AK J AO.1 false 0).bind fun AQ =>
  lpB AQ fun (AY,A1) =>
  (bif AY then
  (ad J 1).bind fun AZ =>
  bp N k U AG AH AI AJ AM AN AK AZ
  else
  (apd 24 AJ [AO.1]).bind fun AR =>
  (ad J 1).bind fun AS =>
  bp N k U AG AH AI AR AM AN AK AS)
  else
  (ad J 1).bind fun AT =>
  bp N k U AG AH AI AJ AM AN AK AT)
  else
  (ad J 1).bind fun AU =>
  bp N k U AG AH AI AJ AM AN AK AU)
  else
  some (AJ,J))
def gQ (N:Nat) (a0:List (List (Int × Int))) (a1:List (Int × Int)) (a2:List (Int × Int)) (a3:Int):Option (List (List (Int × Int))) :=
  (ad (a1.length:Int) (a2.length:Int)).bind fun AG =>
  (dw N 0 AG (a2.length:Int)).bind fun AH =>
  (bp N N a3 a0 a1 a2 [] (a2.length:Int) (a1.length:Int) AH 0).bind fun J =>
  lpB J fun (U,AI) =>
  some U
def bK (N:Nat) (a0:List (List (Int × Int))) (a1:List (Int × Int)) (a2:List (Int × Int)):Option (List (List (Int × Int))) :=
  (bN N a0 a1 a2).bind fun J =>
  (bif J then
  (gQ N a0 a1 a2 1).bind fun U =>
  some U
  else
  some [])
def bM (N:Nat):Nat→(List (Int × Int))→Int→Int→Option (Sum ((List Int) × Int) (Int × Int))
 | 0,_,_,_=>none
 | k+1,U,AG,J =>
  (bif decide (J<(U.length:Int)) then
  (ix U J).bind fun AH =>
  (ax N AH.1 AH.2).bind fun AJ =>
  (bif AJ then
  (ix U J).bind fun AK =>
  (bif decide (AK.1<0) then
  some (.inl ([],0))
  else
  (ix U J).bind fun AM =>
  (d7 N AG AM.2).bind fun AN =>
  (qt AG AN).bind fun AO =>
  (ix U J).bind fun AP =>
  (ml AO AP.2).bind fun AI =>
  (bif decide (1000<AI) then
  some (.inl ([],0))
  else
  (ad J 1).bind fun AQ =>
  bM N k U AI AQ))
  else
  some (.inl ([],0)))
  else
  some (.inr (AG,J)))
def cD (N:Nat):Nat→(List (Int × Int))→Int→(List Int)→Int→Option ((List Int) × Int)
 | 0,_,_,_,_=>none
 | k+1,U,AG,AH,J =>
  (bif decide (J<(U.length:Int)) then
  (ix U J).bind fun AI =>
  (ix U J).bind fun AJ =>
  (qt AG AJ.2).bind fun AK =>
  (ml AI.1 AK).bind fun AM =>
  (apd 8 AH [AM]).bind fun AN =>
  (ad J 1).bind fun AO =>
  cD N k U AG AN AO
  else
  some (AH,J))
def bV (N:Nat) (a0:List (Int × Int)):Option ((List Int) × Int) :=
  (bM N N a0 1 0).bind fun U =>
  lpS U (fun q=>some q) fun (J,AI) =>
  (cD N N a0 J [] 0).bind fun AG =>
  lpB AG fun (AH,AJ) =>
  some (AH,J)
def eM (N:Nat):Nat→Int→(List Int)→(List Int)→Option (Int × (List Int))
 | 0,_,_,_=>none
 | k+1,J,AG,U =>
  (bif decide (0<J) then
  (rm J 10).bind fun AH =>
  (apd 8 U [AH]).bind fun AI =>
  (qt J 10).bind fun AJ =>
  eM N k AJ AG AI
  else
  some (J,U))
def dz (N:Nat) (a0:Int):Option (List Int) :=
  (eM N N a0 [] []).bind fun J =>
  lpB J fun (AG,U) =>
  some U
def dp (N:Nat):Nat→(List Int)→Int→Option (Sum Bool Int)
 | 0,_,_=>none
 | k+1,U,J =>
  (bif decide (J<(U.length:Int)) then
  (ix U J).bind fun AG =>
  (cA N AG 0 9).bind fun AH =>
  (bif AH then
  (ad J 1).bind fun AI =>
  dp N k U AI
  else
  some (.inl false))
  else
  some (.inr J))
def dV (N:Nat) (a0:List Int):Option Bool :=
  (dp N N a0 0).bind fun J =>
  lpS J (fun q=>some q) fun AH =>
  (bif decide ((a0.length:Int)≤60) then
  (bif ((a0.length:Int) == 0) then
  some true
  else
  (sb (a0.length:Int) 1).bind fun U =>
  (ix a0 U).bind fun AG =>
  some (AG != 0))
  else
  some false)
def fb (N:Nat):Nat→(List Int)→(List Int)→(List Int)→Int→Int→Option ((List Int) × Int × Int)
 | 0,_,_,_,_,_=>none
 | k+1,AG,AI,AH,J,U =>
  (bif decide (U<(AG.length:Int)) then
  (ix AG U).bind fun AK =>
  (ad J AK).bind fun AJ =>
  (rm AJ 10).bind fun AM =>
  (apd 8 AH [AM]).bind fun AN =>
  (qt AJ 10).bind fun AO =>
  (ad U 1).bind fun AP =>
  fb N k AG AI AN AO AP
  else
  (bif decide (0<J) then
  (rm J 10).bind fun AQ =>
  (apd 8 AH [AQ]).bind fun AR =>
  (qt J 10).bind fun AS =>
  (ad U 1).bind fun AT =>
  fb N k AG AI AR AS AT
  else
  some (AH,J,U)))
def gx (N:Nat):Nat→(List Int)→(List Int)→Option (List Int)
 | 0,_,_=>none
 | k+1,U,J =>
  (bif decide (0<(J.length:Int)) then
  (sb (J.length:Int) 1).bind fun AG =>
  (ix J AG).bind fun AH =>
  (bif (AH == 0) then
  (sb (J.length:Int) 1).bind fun AI =>
  (slc J 0 AI).bind fun AJ =>
  gx N k U AJ
  else
  some J)
  else
  some J)
def gX (N:Nat) (a0:List Int):Option ((List Int) × Bool) :=
  (fb N N a0 [] [] 0 0).bind fun U =>
  lpB U fun (AG,AI,AJ) =>
  (gx N N [] AG).bind fun AH =>
  lpB AH fun J =>
  (bif decide (60<(J.length:Int)) then
  some ([],false)
  else
  some (J,true))
def dK (N:Nat):Nat→(List Int)→(List Int)→(List Int)→(List Int)→Int→Int→Option ((List Int) × Int)
 | 0,_,_,_,_,_,_=>none
 | k+1,AI,AH,AK,U,AG,J =>
  (bif decide (J<(AH.length:Int)) then
  (ad AG J).bind fun AJ =>
  (ad AG J).bind fun AM =>
  (ix U AM).bind fun AN =>
  (ix AI AG).bind fun AO =>
  (ix AH J).bind fun AP =>
  (ml AO AP).bind fun AQ =>
  (ad AN AQ).bind fun AR =>
  (ix U AJ).bind fun AU =>
  (sto U AJ AR).bind fun AS =>
  (ad J 1).bind fun AT =>
  dK N k AI AH AK AS AG AT
  else
  some (U,J))
def dJ (N:Nat):Nat→(List Int)→(List Int)→(List Int)→(List Int)→Int→Option ((List Int) × Int)
 | 0,_,_,_,_,_=>none
 | k+1,U,AG,AH,AI,J =>
  (bif decide (J<(U.length:Int)) then
  (dK N N U AG AH AI J 0).bind fun AJ =>
  lpB AJ fun (AK,AN) =>
  (ad J 1).bind fun AM =>
  dJ N k U AG AH AK AM
  else
  some (AI,J))
def ga (N:Nat) (a0:List Int) (a1:List Int):Option ((List Int) × Bool) :=
  (dV N a0).bind fun U =>
  (bif U then
  (dV N a1).bind fun AG =>
  (bif AG then
  (ad (a0.length:Int) (a1.length:Int)).bind fun AH =>
  (mk 8 (0:Int) AH).bind fun AI =>
  (dJ N N a0 a1 [] AI 0).bind fun AJ =>
  lpB AJ fun (AK,AM) =>
  (gX N AK).bind fun J =>
  some (J.1,J.2)
  else
  some ([],false))
  else
  some ([],false))
def cH (N:Nat):Nat→Int→Int→(List Int)→(List Int)→Int→Option (Sum ((List Int) × Bool) ((List Int) × Int))
 | 0,_,_,_,_,_=>none
 | k+1,U,AG,AJ,AH,J =>
  (bif decide (J<AG) then
  (dz N U).bind fun AK =>
  (ga N AH AK).bind fun AI =>
  (bif AI.2 then
  (ad J 1).bind fun AM =>
  cH N k U AG AJ AI.1 AM
  else
  some (.inl ([],false)))
  else
  some (.inr (AH,J)))
def gd (N:Nat) (a0:Int) (a1:Int):Option ((List Int) × Bool) :=
  (bif decide (a0<0) then
  some ([],false)
  else
  (cA N a1 0 100).bind fun J =>
  (bif J then
  (dz N 1).bind fun U =>
  (cH N N a0 a1 [] U 0).bind fun AG =>
  lpS AG (fun q=>some q) fun (AH,AI) =>
  some (AH,true)
  else
  some ([],false)))
def be (N:Nat):Nat→(List Int)→(List Int)→(List Int)→(List Int)→Int→Option (Sum ((List Int) × Bool) ((List Int) × Int))
 | 0,_,_,_,_,_=>none
 | k+1,U,AG,AK,AH,J =>
  (bif decide (J<(U.length:Int)) then
  (ix U J).bind fun AM =>
  (ix AG J).bind fun AN =>
  (gd N AM AN).bind fun AI =>
  (ga N AH AI.1).bind fun AJ =>
  (bif AI.2 then
  (bif AJ.2 then
  (ad J 1).bind fun AO =>
  be N k U AG AK AJ.1 AO
  else
  some (.inl ([],false)))
  else
  some (.inl ([],false)))
  else
  some (.inr (AH,J)))
def c9 (N:Nat) (a0:List Int) (a1:List Int):Option ((List Int) × Bool) :=
  (bif ((a0.length:Int) != (a1.length:Int)) then
  some ([],false)
  else
  (dz N 1).bind fun J =>
  (be N N a0 a1 [] J 0).bind fun U =>
  lpS U (fun q=>some q) fun (AG,AH) =>
  some (AG,true))
def eh (N:Nat):Nat→(List Int)→(List Int)→Int→Option (Sum Int Int)
 | 0,_,_,_=>none
 | k+1,U,AG,J =>
  (bif decide (0≤J) then
  (ix U J).bind fun AH =>
  (ix AG J).bind fun AI =>
  (bif decide (AH<AI) then
  some (.inl (-1))
  else
  (ix U J).bind fun AJ =>
  (ix AG J).bind fun AK =>
  (bif decide (AK<AJ) then
  some (.inl 1)
  else
  (sb J 1).bind fun AM =>
  eh N k U AG AM))
  else
  some (.inr J))
def fd (N:Nat) (a0:List Int) (a1:List Int):Option Int :=
  (dV N a0).bind fun J =>
  (bif J then
  (dV N a1).bind fun U =>
  (bif U then
  (bif ((a0.length:Int) != (a1.length:Int)) then
  (bif decide ((a0.length:Int)<(a1.length:Int)) then
  some (-1)
  else
  some 1)
  else
  (sb (a0.length:Int) 1).bind fun AG =>
  (eh N N a0 a1 AG).bind fun AH =>
  lpS AH (fun q=>some q) fun AI =>
  some 0)
  else
  some 0)
  else
  some 0)
def cS (N:Nat):Nat→(List Int)→(List Int)→Int→(List Int)→Int→Int→Option ((List Int) × (List Int) × Int)
 | 0,_,_,_,_,_,_=>none
 | k+1,AJ,U,AH,AG,AI,J =>
  (bif decide (J<(U.length:Int)) then
  (ix U J).bind fun AK =>
  (ml AK AI).bind fun AM =>
  (ix U J).bind fun AS =>
  (sto U J AM).bind fun AN =>
  (ix AG J).bind fun AO =>
  (ml AO AH).bind fun AP =>
  (ix AG J).bind fun AT =>
  (sto AG J AP).bind fun AQ =>
  (ad J 1).bind fun AR =>
  cS N k AJ AN AH AQ AI AR
  else
  some (U,AG,J))
def dQ (N:Nat) (a0:List Int) (a1:List (Int × Int)) (a2:List (Int × Int)):Option (Int × Bool) :=
  (bV N a1).bind fun J =>
  (bV N a2).bind fun U =>
  (bif (J.2 == 0) then
  some (0,false)
  else
  (bif (U.2 == 0) then
  some (0,false)
  else
  (bif ((J.1.length:Int) != (a0.length:Int)) then
  some (0,false)
  else
  (bif ((U.1.length:Int) != (a0.length:Int)) then
  some (0,false)
  else
  (cS N N a0 J.1 J.2 U.1 U.2 0).bind fun AI =>
  lpB AI fun (AJ,AK,AN) =>
  (c9 N a0 AJ).bind fun AG =>
  (c9 N a0 AK).bind fun AH =>
  (bif AG.2 then
  (bif AH.2 then
  (fd N AG.1 AH.1).bind fun AM =>
  some (AM,true)
  else
  some (0,false))
  else
  some (0,false))))))
def cw (N:Nat):Nat→(List Int)→(List (List (Int × Int)))→(List (Int × Int))→(List (Int × Int))→Int→Option (Sum ((List (Int × Int)) × Bool) Int)
 | 0,_,_,_,_,_=>none
 | k+1,U,AG,AH,AI,J =>
  (bif decide (J<(U.length:Int)) then
  (ix U J).bind fun AJ =>
  (cA N AJ 0 16).bind fun AK =>
  (bif AK then
  (ad J 1).bind fun AM =>
  cw N k U AG AH AI AM
  else
  some (.inl ([],false)))
  else
  some (.inr J))
def bR (N:Nat):Nat→(List Int)→(List (List (Int × Int)))→(List (Int × Int))→Int→Option ((List (Int × Int)) × Int)
 | 0,_,_,_,_=>none
 | k+1,AG,U,AH,J =>
  (bif decide (J<(U.length:Int)) then
  (ix U J).bind fun AI =>
  (dQ N AG AI AH).bind fun AJ =>
  (bif decide (AJ.1<0) then
  (ix U J).bind fun AK =>
  (ad J 1).bind fun AM =>
  bR N k AG U AK AM
  else
  (ad J 1).bind fun AN =>
  bR N k AG U AH AN)
  else
  some (AH,J))
def ft (N:Nat) (a0:Int) (a1:List (ByteArray × List Int)) (a2:List Int) (a3:List Int):Option ((List (Int × Int)) × Bool) :=
  (e8 N a0 a1 a2).bind fun J =>
  (bif J.2 then
  (bif ((a3.length:Int) != (a1.length:Int)) then
  some ([],false)
  else
  (cw N N a3 J.1.1 J.1.2.1 J.1.2.2 0).bind fun AG =>
  lpS AG (fun q=>some q) fun AK =>
  (bK N J.1.1 J.1.2.1 J.1.2.2).bind fun U =>
  (ix U 0).bind fun AH =>
  (bR N N a3 U AH 1).bind fun AI =>
  lpB AI fun (AJ,AM) =>
  some (AJ,true))
  else
  some ([],false))
def cJ (N:Nat) (a0:Int) (a1:Int) (a2:Int):Option Bool :=
  (bif decide (a1≤a0) then
  some (decide (a0≤a2))
  else
  some false)
def gh (N:Nat):Nat→Int→Int→Option (Int × Int)
 | 0,_,_=>none
 | k+1,U,J =>
  (bif (J != 0) then
  (rm U J).bind fun AG =>
  gh N k J AG
  else
  some (U,J))
def gC (N:Nat) (a0:Int) (a1:Int):Option Int :=
  (gh N N a0 a1).bind fun J =>
  lpB J fun (U,AG) =>
  some U
def iH (N:Nat) (a0:Int):Option Int :=
  (sb 0 a0).bind fun J =>
  some (imx a0 J)
def bk (N:Nat) (a0:Int) (a1:Int):Option Bool :=
  (cJ N a1 1 1000000000).bind fun J =>
  (bif J then
  (cJ N a0 (-1000000000) 1000000000).bind fun U =>
  (bif U then
  (iH N a0).bind fun AG =>
  (gC N AG a1).bind fun AH =>
  some (AH == 1)
  else
  some false)
  else
  some false)
def dr (N:Nat):Nat→(List (Int × Int))→Int→(List (Int × Int))→Int→Int→Option (Sum ((List Int) × Int) Int)
 | 0,_,_,_,_,_=>none
 | k+1,AI,AJ,AG,AH,J =>
  (bif decide (J<AH) then
  (ix AG J).bind fun U =>
  (bk N U.1 U.2).bind fun AK =>
  (bif AK then
  (bif decide (U.1<0) then
  some (.inl ([],0))
  else
  (ad J 1).bind fun AM =>
  dr N k AI AJ AG AH AM)
  else
  some (.inl ([],0)))
  else
  some (.inr J))
def dv (N:Nat):Nat→(List (Int × Int))→Int→(List (Int × Int))→Int→Int→Option (Sum ((List Int) × Int) (Int × Int))
 | 0,_,_,_,_,_=>none
 | k+1,AK,U,AG,AH,J =>
  (bif decide (J<AH) then
  (ix AG J).bind fun AI =>
  (gC N U AI.2).bind fun AM =>
  (qt U AM).bind fun AN =>
  (ml AN AI.2).bind fun AJ =>
  (bif decide (1000<AJ) then
  some (.inl ([],0))
  else
  (ad J 1).bind fun AO =>
  dv N k AK AJ AG AH AO)
  else
  some (.inr (U,J)))
def cC (N:Nat):Nat→Int→(List Int)→(List (Int × Int))→Int→Int→Option ((List Int) × Int)
 | 0,_,_,_,_,_=>none
 | k+1,U,AG,AH,AI,J =>
  (bif decide (J<AI) then
  (ix AH J).bind fun AJ =>
  (qt U AJ.2).bind fun AK =>
  (ml AJ.1 AK).bind fun AM =>
  (apd 8 AG [AM]).bind fun AN =>
  (ad J 1).bind fun AO =>
  cC N k U AN AH AI AO
  else
  some (AG,J))
def dZ (N:Nat) (a0:List (Int × Int)):Option ((List Int) × Int) :=
  (dr N N a0 1 a0 (a0.length:Int) 0).bind fun U =>
  lpS U (fun q=>some q) fun AJ =>
  (dv N N a0 1 a0 (a0.length:Int) 0).bind fun AG =>
  lpS AG (fun q=>some q) fun (J,AK) =>
  (cC N N J [] a0 (a0.length:Int) 0).bind fun AH =>
  lpB AH fun (AI,AM) =>
  some (AI,J)
def bP (N:Nat):Nat→Int→(List Int)→(List Int)→Option (Int × (List Int))
 | 0,_,_,_=>none
 | k+1,J,AG,U =>
  (bif decide (0<J) then
  (rm J 10).bind fun AH =>
  (apd 8 U [AH]).bind fun AI =>
  (qt J 10).bind fun AJ =>
  bP N k AJ AG AI
  else
  some (J,U))
def cQ (N:Nat) (a0:Int):Option (List Int) :=
  (bP N N a0 [] []).bind fun J =>
  lpB J fun (AG,U) =>
  some U
def dn (N:Nat):Nat→(List Int)→Int→(List Int)→Int→Int→Option (Sum Bool Int)
 | 0,_,_,_,_,_=>none
 | k+1,AH,AI,U,AG,J =>
  (bif decide (J<AG) then
  (ix U J).bind fun AJ =>
  (cJ N AJ 0 9).bind fun AK =>
  (bif AK then
  (ad J 1).bind fun AM =>
  dn N k AH AI U AG AM
  else
  some (.inl false))
  else
  some (.inr J))
def dW (N:Nat) (a0:List Int):Option Bool :=
  (dn N N a0 (a0.length:Int) a0 (a0.length:Int) 0).bind fun J =>
  lpS J (fun q=>some q) fun AH =>
  (bif decide ((a0.length:Int)≤60) then
  (bif ((a0.length:Int) == 0) then
  some true
  else
  (sb (a0.length:Int) 1).bind fun U =>
  (ix a0 U).bind fun AG =>
  some (AG != 0))
  else
  some false)
def bI (N:Nat):Nat→(List Int)→(List Int)→(List Int)→Int→Int→Option ((List Int) × Int × Int)
 | 0,_,_,_,_,_=>none
 | k+1,AG,AI,AH,J,U =>
  (bif decide (U<(AG.length:Int)) then
  (ix AG U).bind fun AK =>
  (ad J AK).bind fun AJ =>
  (rm AJ 10).bind fun AM =>
  (apd 8 AH [AM]).bind fun AN =>
  (qt AJ 10).bind fun AO =>
  (ad U 1).bind fun AP =>
  bI N k AG AI AN AO AP
  else
  (bif decide (0<J) then
  (rm J 10).bind fun AQ =>
  (apd 8 AH [AQ]).bind fun AR =>
  (qt J 10).bind fun AS =>
  (ad U 1).bind fun AT =>
  bI N k AG AI AR AS AT
  else
  some (AH,J,U)))
def gw (N:Nat):Nat→(List Int)→(List Int)→Int→Option Int
 | 0,_,_,_=>none
 | k+1,AG,U,J =>
  (bif decide (0<J) then
  (sb J 1).bind fun AH =>
  (ix U AH).bind fun AI =>
  (bif (AI == 0) then
  (sb J 1).bind fun AJ =>
  gw N k AG U AJ
  else
  some J)
  else
  some J)
def fh (N:Nat) (a0:List Int):Option ((List Int) × Bool) :=
  (bI N N a0 [] [] 0 0).bind fun AG =>
  lpB AG fun (J,AJ,AK) =>
  (gw N N [] J (J.length:Int)).bind fun AH =>
  lpB AH fun U =>
  (slc J 0 U).bind fun AI =>
  (bif decide (60<U) then
  some ([],false)
  else
  some (AI,true))
def cu (N:Nat):Nat→(List Int)→(List Int)→(List Int)→Int→Int→(List Int)→Int→Int→(List Int)→Int→Int→Option ((List Int) × Int)
 | 0,_,_,_,_,_,_,_,_,_,_,_=>none
 | k+1,AM,AN,U,AH,AI,AO,AP,AQ,AJ,AK,J =>
  (bif decide (J<AK) then
  (ix AJ J).bind fun AR =>
  (ad AH J).bind fun AG =>
  (ix U AG).bind fun AS =>
  (ml AI AR).bind fun AT =>
  (ad AS AT).bind fun AU =>
  (ix U AG).bind fun AX =>
  (sto U AG AU).bind fun AV =>
  (ad J 1).bind fun AW =>
  cu N k AM AN AV AH AI AO AP AQ AJ AK AW
  else
  some (U,J))
def cx (N:Nat):Nat→(List Int)→(List Int)→(List Int)→(List Int)→Int→Int→Option ((List Int) × Int)
 | 0,_,_,_,_,_,_=>none
 | k+1,U,AI,AJ,AG,AH,J =>
  (bif decide (J<AH) then
  (ix AG J).bind fun AK =>
  (cu N N U AI AJ J AK AG AH J U (U.length:Int) 0).bind fun AM =>
  lpB AM fun (AN,AP) =>
  (ad J 1).bind fun AO =>
  cx N k U AI AN AG AH AO
  else
  some (AJ,J))
def fu (N:Nat) (a0:List Int) (a1:List Int):Option ((List Int) × Bool) :=
  (dW N a0).bind fun U =>
  (bif U then
  (dW N a1).bind fun AG =>
  (bif AG then
  (ad (a0.length:Int) (a1.length:Int)).bind fun AH =>
  (mk 8 (0:Int) AH).bind fun AI =>
  (cx N N a1 [] AI a0 (a0.length:Int) 0).bind fun AJ =>
  lpB AJ fun (AK,AM) =>
  (fh N AK).bind fun J =>
  some (J.1,J.2)
  else
  some ([],false))
  else
  some ([],false))
def bH (N:Nat):Nat→Int→Int→(List Int)→(List Int)→Int→Option (Sum ((List Int) × Bool) ((List Int) × Int))
 | 0,_,_,_,_,_=>none
 | k+1,U,AG,AJ,AH,J =>
  (bif decide (J<AG) then
  (cQ N U).bind fun AK =>
  (fu N AH AK).bind fun AI =>
  (bif AI.2 then
  (ad J 1).bind fun AM =>
  bH N k U AG AJ AI.1 AM
  else
  some (.inl ([],false)))
  else
  some (.inr (AH,J)))
def gb (N:Nat) (a0:Int) (a1:Int):Option ((List Int) × Bool) :=
  (bif decide (a0<0) then
  some ([],false)
  else
  (cJ N a1 0 100).bind fun J =>
  (bif J then
  (cQ N 1).bind fun U =>
  (bH N N a0 a1 [] U 0).bind fun AG =>
  lpS AG (fun q=>some q) fun (AH,AI) =>
  some (AH,true)
  else
  some ([],false)))
def bF (N:Nat):Nat→(List Int)→(List Int)→(List Int)→(List Int)→Int→Int→Option (Sum ((List Int) × Bool) ((List Int) × Int))
 | 0,_,_,_,_,_,_=>none
 | k+1,U,AG,AM,AH,AI,J =>
  (bif decide (J<AI) then
  (ix U J).bind fun AN =>
  (ix AG J).bind fun AO =>
  (gb N AN AO).bind fun AJ =>
  (fu N AH AJ.1).bind fun AK =>
  (bif AJ.2 then
  (bif AK.2 then
  (ad J 1).bind fun AP =>
  bF N k U AG AM AK.1 AI AP
  else
  some (.inl ([],false)))
  else
  some (.inl ([],false)))
  else
  some (.inr (AH,J)))
def d5 (N:Nat) (a0:List Int) (a1:List Int):Option ((List Int) × Bool) :=
  (bif ((a0.length:Int) != (a1.length:Int)) then
  some ([],false)
  else
  (cQ N 1).bind fun J =>
  (bF N N a0 a1 [] J (a0.length:Int) 0).bind fun U =>
  lpS U (fun q=>some q) fun (AG,AH) =>
  some (AG,true))
def el (N:Nat):Nat→Int→(List Int)→(List Int)→Int→Int→Option ((List Int) × Int)
 | 0,_,_,_,_,_=>none
 | k+1,U,AG,AH,AI,J =>
  (bif decide (J<AI) then
  (ix AH J).bind fun AJ =>
  (ml AJ U).bind fun AK =>
  (apd 8 AG [AK]).bind fun AM =>
  (ad J 1).bind fun AN =>
  el N k U AM AH AI AN
  else
  some (AG,J))
def iV (N:Nat) (a0:List Int) (a1:Int):Option (List Int) :=
  (el N N a1 [] a0 (a0.length:Int) 0).bind fun J =>
  lpB J fun (U,AG) =>
  some U
def fm (N:Nat) (a0:Int) (a1:Int):Option Int :=
  (bif decide (a0<a1) then
  some (-1)
  else
  (bif decide (a1<a0) then
  some 1
  else
  some 0))
def ce (N:Nat):Nat→(List Int)→(List Int)→Int→Option (Sum Int Int)
 | 0,_,_,_=>none
 | k+1,U,AG,J =>
  (bif decide (0≤J) then
  (ix U J).bind fun AH =>
  (ix AG J).bind fun AI =>
  (bif (AH != AI) then
  (ix U J).bind fun AJ =>
  (ix AG J).bind fun AK =>
  (fm N AJ AK).bind fun AM =>
  some (.inl AM)
  else
  (sb J 1).bind fun AN =>
  ce N k U AG AN)
  else
  some (.inr J))
def eD (N:Nat) (a0:List Int) (a1:List Int):Option Int :=
  (dW N a0).bind fun J =>
  (bif J then
  (dW N a1).bind fun U =>
  (bif U then
  (bif ((a0.length:Int) != (a1.length:Int)) then
  (fm N (a0.length:Int) (a1.length:Int)).bind fun AG =>
  some AG
  else
  (sb (a0.length:Int) 1).bind fun AH =>
  (ce N N a0 a1 AH).bind fun AI =>
  lpS AI (fun q=>some q) fun AJ =>
  some 0)
  else
  some 0)
  else
  some 0)
def eR (N:Nat) (a0:List Int) (a1:List (Int × Int)) (a2:List (Int × Int)):Option (Int × Bool) :=
  (dZ N a1).bind fun J =>
  (dZ N a2).bind fun U =>
  (bif ((a1.length:Int) != (a0.length:Int)) then
  some (0,false)
  else
  (bif ((a2.length:Int) != (a0.length:Int)) then
  some (0,false)
  else
  (bif (J.2 == 0) then
  some (0,false)
  else
  (bif (U.2 == 0) then
  some (0,false)
  else
  (iV N J.1 U.2).bind fun AI =>
  (d5 N a0 AI).bind fun AG =>
  (iV N U.1 J.2).bind fun AJ =>
  (d5 N a0 AJ).bind fun AH =>
  (bif AG.2 then
  (bif AH.2 then
  (eD N AG.1 AH.1).bind fun AK =>
  some (AK,true)
  else
  some (0,false))
  else
  some (0,false))))))
def ia (N:Nat):Nat→Int→(List Int)→Int→Int→Option (Sum Int Int)
 | 0,_,_,_,_=>none
 | k+1,U,AG,AH,J =>
  (bif decide (J<AH) then
  (ix AG J).bind fun AI =>
  (bif (AI == U) then
  some (.inl J)
  else
  (ad J 1).bind fun AJ =>
  ia N k U AG AH AJ)
  else
  some (.inr J))
def i8 (N:Nat) (a0:List Int) (a1:Int):Option Int :=
  (ia N N a1 a0 (a0.length:Int) 0).bind fun J =>
  lpS J (fun q=>some q) fun U =>
  some (-1)
def iT (N:Nat) (a0:List Int) (a1:Int):Option Bool :=
  (i8 N a0 a1).bind fun J =>
  some (decide (0≤J))
def e9 (N:Nat):Nat→(List Int)→Int→(List Int)→Int→Int→Option (Sum Bool Int)
 | 0,_,_,_,_,_=>none
 | k+1,U,AG,AH,AI,J =>
  (bif decide (J<AI) then
  (ix AH J).bind fun AJ =>
  (sb AG 1).bind fun AK =>
  (cJ N AJ 0 AK).bind fun AM =>
  (bif AM then
  (slc U 0 J).bind fun AN =>
  (iT N AN AJ).bind fun AO =>
  (bif AO then
  some (.inl false)
  else
  (ad J 1).bind fun AP =>
  e9 N k U AG AH AI AP)
  else
  some (.inl false))
  else
  some (.inr J))
def ja (N:Nat) (a0:List Int) (a1:Int):Option Bool :=
  (e9 N N a0 a1 a0 (a0.length:Int) 0).bind fun J =>
  lpS J (fun q=>some q) fun U =>
  some true
def fT (N:Nat):Nat→ByteArray→Int→Option (Sum Bool Int)
 | 0,_,_=>none
 | k+1,U,J =>
  (bif decide (J<(U.size:Int)) then
  (bx U J).bind fun AG =>
  (bif decide (AG<97) then
  some (.inl false)
  else
  (bx U J).bind fun AH =>
  (bif decide (122<AH) then
  some (.inl false)
  else
  (ad J 1).bind fun AI =>
  fT N k U AI))
  else
  some (.inr J))
def jr (N:Nat) (a0:ByteArray) (a1:Int):Option Bool :=
  (bif decide ((a0.size:Int)<1) then
  some false
  else
  (bif decide (a1<(a0.size:Int)) then
  some false
  else
  (fT N N a0 0).bind fun J =>
  lpS J (fun q=>some q) fun U =>
  some true))
def gT (N:Nat) (a0:ByteArray):Option Bool :=
  (jr N a0 4).bind fun J =>
  some J
def cL (N:Nat):Nat→Int→(List Bool)→(List (ByteArray × List Int))→Int→Int→(List Int)→Int→Int→Option (Sum Bool ((List Bool) × Int))
 | 0,_,_,_,_,_,_,_,_=>none
 | k+1,AH,U,AK,AM,AN,AI,AJ,J =>
  (bif decide (J<AJ) then
  (ix AI J).bind fun AG =>
  (sb AH 1).bind fun AO =>
  (cJ N AG 0 AO).bind fun AP =>
  (bif AP then
  (ix U AG).bind fun AS =>
  (sto U AG true).bind fun AQ =>
  (ad J 1).bind fun AR =>
  cL N k AH AQ AK AM AN AI AJ AR
  else
  some (.inl false))
  else
  some (.inr (U,J)))
def cN (N:Nat):Nat→Int→(List Bool)→(List (ByteArray × List Int))→Int→Int→Option (Sum Bool ((List Bool) × Int))
 | 0,_,_,_,_,_=>none
 | k+1,AI,AJ,AG,AH,J =>
  (bif decide (J<AH) then
  (ix AG J).bind fun U =>
  (gT N U.1).bind fun AK =>
  (bif AK then
  (cJ N (U.2.length:Int) 1 5).bind fun AM =>
  (bif AM then
  (cL N N AI AJ AG AH J U.2 (U.2.length:Int) 0).bind fun AN =>
  lpS AN (fun q=>some (.inl q)) fun (AO,AQ) =>
  (ad J 1).bind fun AP =>
  cN N k AI AO AG AH AP
  else
  some (.inl false))
  else
  some (.inl false))
  else
  some (.inr (AJ,J)))
def c7 (N:Nat):Nat→(List Bool)→Int→Int→Option (Sum Bool Int)
 | 0,_,_,_=>none
 | k+1,U,AG,J =>
  (bif decide (J<AG) then
  (ix U J).bind fun AH =>
  (bif AH then
  (ad J 1).bind fun AI =>
  c7 N k U AG AI
  else
  some (.inl false))
  else
  some (.inr J))
def e7 (N:Nat) (a0:Int) (a1:List (ByteArray × List Int)) (a2:List Int):Option Bool :=
  (cJ N a0 1 5).bind fun U =>
  (bif U then
  (cJ N (a1.length:Int) 1 4).bind fun AG =>
  (bif AG then
  (ja N a2 a0).bind fun AH =>
  (bif AH then
  (mk 1 (false:Bool) a0).bind fun AI =>
  (cN N N a0 AI a1 (a1.length:Int) 0).bind fun AJ =>
  lpS AJ (fun q=>some q) fun (J,AM) =>
  (c7 N N J (J.length:Int) 0).bind fun AK =>
  lpS AK (fun q=>some q) fun AN =>
  some true
  else
  some false)
  else
  some false)
  else
  some false)
def ko (N:Nat) (a0:Bool):Option Int :=
  (bif a0 then
  some 1
  else
  some 0)
def fG (N:Nat) (a0:ByteArray) (a1:List Int) (a2:Int):Option Bool :=
  (iT N a1 a2).bind fun J =>
  some J
def dT (N:Nat):Nat→Int→(List (ByteArray × List Int))→(List Int)→(List (List (Int × Int)))→(List (Int × Int))→(List (Int × Int))→(List (List (Int × Int)))→(List (Int × Int))→(List (Int × Int))→Int→(List (Int × Int))→(List Int)→Int→Int→(List (ByteArray × List Int))→Int→Int→Option ((List (Int × Int)) × Int)
 | 0,_,_,_,_,_,_,_,_,_,_,_,_,_,_,_,_,_=>none
 | k+1,AK,AM,AN,AO,AP,AQ,AR,AS,AT,U,AG,AU,AV,AW,AH,AI,J =>
  (bif decide (J<AI) then
  (ix AH J).bind fun AJ =>
  (fG N AJ.1 AJ.2 U).bind fun AX =>
  (ko N AX).bind fun AY =>
  (apd 16 AG [(AY,1)]).bind fun AZ =>
  (ad J 1).bind fun A0 =>
  dT N k AK AM AN AO AP AQ AR AS AT U AZ AU AV AW AH AI A0
  else
  some (AG,J))
def dR (N:Nat):Nat→Int→(List (ByteArray × List Int))→(List Int)→(List (List (Int × Int)))→(List (Int × Int))→(List (Int × Int))→(List (List (Int × Int)))→(List (Int × Int))→(List (Int × Int))→(List Int)→Int→Int→Option ((List (List (Int × Int))) × (List (Int × Int)) × Int)
 | 0,_,_,_,_,_,_,_,_,_,_,_,_=>none
 | k+1,AK,U,AM,AN,AO,AP,AG,AH,AQ,AI,AJ,J =>
  (bif decide (J<AJ) then
  (ix AI J).bind fun AR =>
  (dT N N AK U AM AN AO AP AG AH AQ AR [] AI AJ J U (U.length:Int) 0).bind fun AS =>
  lpB AS fun (AT,AX) =>
  (apd 24 AG [AT]).bind fun AU =>
  (apd 16 AH [(1,1)]).bind fun AV =>
  (ad J 1).bind fun AW =>
  dR N k AK U AM AN AO AP AU AV AQ AI AJ AW
  else
  some (AG,AH,J))
def dS (N:Nat):Nat→(List (List (Int × Int)))→(List (Int × Int))→(List (Int × Int))→(List (List (Int × Int)))→(List (Int × Int))→(List (Int × Int))→Int→Int→Option ((List (Int × Int)) × Int)
 | 0,_,_,_,_,_,_,_,_=>none
 | k+1,AH,AI,AJ,AK,AM,U,AG,J =>
  (bif decide (J<AG) then
  (apd 16 U [(1,1)]).bind fun AN =>
  (ad J 1).bind fun AO =>
  dS N k AH AI AJ AK AM AN AG AO
  else
  some (U,J))
def jX (N:Nat) (a0:Int) (a1:List (ByteArray × List Int)) (a2:List Int) (a3:List Int):Option (List (List (Int × Int)) × List (Int × Int) × List (Int × Int)) :=
  (dR N N a0 a1 a2 [] [] [] [] [] [] a3 (a3.length:Int) 0).bind fun AG =>
  lpB AG fun (J,U,AJ) =>
  (dS N N [] [] [] J U [] (a1.length:Int) 0).bind fun AH =>
  lpB AH fun (AI,AK) =>
  some (J,U,AI)
def cI (N:Nat):Nat→Int→(List (ByteArray × List Int))→(List Int)→(List Int)→Int→Option ((List Int) × Int)
 | 0,_,_,_,_,_=>none
 | k+1,U,AH,AI,AG,J =>
  (bif decide (J<U) then
  (apd 8 AG [J]).bind fun AJ =>
  (ad J 1).bind fun AK =>
  cI N k U AH AI AJ AK
  else
  some (AG,J))
def gF (N:Nat) (a0:Int) (a1:List (ByteArray × List Int)) (a2:List Int):Option (List Int) :=
  (e7 N a0 a1 a2).bind fun J =>
  (bif J then
  (cI N N a0 a1 a2 [] 0).bind fun U =>
  lpB U fun (AG,AH) =>
  some AG
  else
  some [])
def gJ (N:Nat) (a0:Int) (a1:List (ByteArray × List Int)) (a2:List Int):Option ((List (List (Int × Int)) × List (Int × Int) × List (Int × Int)) × Bool) :=
  (e7 N a0 a1 a2).bind fun U =>
  (bif U then
  (gF N a0 a1 a2).bind fun AG =>
  (jX N a0 a1 a2 AG).bind fun J =>
  some ((J.1,J.2.1,J.2.2),true)
  else
  some (([],[],[]),false))
def f6 (N:Nat):Nat→(List (Int × Int))→Int→Int→Option (Sum Bool Int)
 | 0,_,_,_=>none
 | k+1,U,AG,J =>
  (bif decide (J<AG) then
  (ix U J).bind fun AH =>
  (bk N AH.1 AH.2).bind fun AI =>
  (bif AI then
  (ad J 1).bind fun AJ =>
  f6 N k U AG AJ
  else
  some (.inl false))
  else
  some (.inr J))
def ef (N:Nat) (a0:List (Int × Int)):Option Bool :=
  (f6 N N a0 (a0.length:Int) 0).bind fun J =>
  lpS J (fun q=>some q) fun U =>
  some true
def di (N:Nat):Nat→Int→(List (List (Int × Int)))→Int→Int→Option (Sum Bool Int)
 | 0,_,_,_,_=>none
 | k+1,U,AG,AH,J =>
  (bif decide (J<AH) then
  (ix AG J).bind fun AI =>
  (bif ((AI.length:Int) != U) then
  some (.inl false)
  else
  (ef N AI).bind fun AJ =>
  (bif AJ then
  (ad J 1).bind fun AK =>
  di N k U AG AH AK
  else
  some (.inl false)))
  else
  some (.inr J))
def c8 (N:Nat) (a0:List (List (Int × Int))) (a1:List (Int × Int)) (a2:List (Int × Int)):Option Bool :=
  (cJ N (a2.length:Int) 1 5).bind fun J =>
  (bif J then
  (cJ N (a1.length:Int) 1 5).bind fun U =>
  (bif U then
  (bif ((a0.length:Int) != (a1.length:Int)) then
  some false
  else
  (ef N a1).bind fun AG =>
  (bif AG then
  (ef N a2).bind fun AH =>
  (bif AH then
  (di N N (a2.length:Int) a0 (a0.length:Int) 0).bind fun AI =>
  lpS AI (fun q=>some q) fun AJ =>
  some true
  else
  some false)
  else
  some false))
  else
  some false)
  else
  some false)
def fv (N:Nat) (a0:List (Int × Int)):Option (List (Int × Int)) :=
  (apd 16 [] a0).bind fun J =>
  some J
def iQ (N:Nat) (a0:List Int):Option (List Int) :=
  (apd 8 [] a0).bind fun J =>
  some J
def eY (N:Nat) (a0:Int) (a1:Int) (a2:Int) (a3:Int):Option Bool :=
  (bk N a0 a1).bind fun J =>
  (bif J then
  (bk N a2 a3).bind fun U =>
  some U
  else
  some false)
def fo (N:Nat) (a0:Int) (a1:Int):Option ((Int × Int) × Bool) :=
  (bif (a1 == 0) then
  some ((0,0),false)
  else
  (cJ N a0 (-4000000000000000000) 4000000000000000000).bind fun AN =>
  (bif AN then
  (cJ N a1 (-4000000000000000000) 4000000000000000000).bind fun AO =>
  (bif AO then
  (bif decide (a1<0) then
  (sb 0 a0).bind fun J =>
  (sb 0 a1).bind fun U =>
  (iH N J).bind fun AP =>
  (gC N AP U).bind fun AG =>
  (qt J AG).bind fun AH =>
  (qt U AG).bind fun AI =>
  (bk N AH AI).bind fun AQ =>
  (bif AQ then
  some ((AH,AI),true)
  else
  some ((0,0),false))
  else
  (iH N a0).bind fun AR =>
  (gC N AR a1).bind fun AJ =>
  (qt a0 AJ).bind fun AK =>
  (qt a1 AJ).bind fun AM =>
  (bk N AK AM).bind fun AS =>
  (bif AS then
  some ((AK,AM),true)
  else
  some ((0,0),false)))
  else
  some ((0,0),false))
  else
  some ((0,0),false)))
def fZ (N:Nat) (a0:Int) (a1:Int) (a2:Int) (a3:Int):Option ((Int × Int) × Bool) :=
  (eY N a0 a1 a2 a3).bind fun U =>
  (bif U then
  (bif (a2 == 0) then
  some ((0,0),false)
  else
  (ml a0 a3).bind fun AG =>
  (ml a1 a2).bind fun AH =>
  (fo N AG AH).bind fun J =>
  some ((J.1.1,J.1.2),J.2))
  else
  some ((0,0),false))
def f5 (N:Nat) (a0:Int) (a1:Int) (a2:Int) (a3:Int):Option ((Int × Int) × Bool) :=
  (eY N a0 a1 a2 a3).bind fun U =>
  (bif U then
  (ml a0 a2).bind fun AG =>
  (ml a1 a3).bind fun AH =>
  (fo N AG AH).bind fun J =>
  some ((J.1.1,J.1.2),J.2)
  else
  some ((0,0),false))
def fY (N:Nat) (a0:Int) (a1:Int) (a2:Int) (a3:Int):Option ((Int × Int) × Bool) :=
  (eY N a0 a1 a2 a3).bind fun U =>
  (bif U then
  (ml a0 a3).bind fun AG =>
  (ml a2 a1).bind fun AH =>
  (ad AG AH).bind fun AI =>
  (ml a1 a3).bind fun AJ =>
  (fo N AI AJ).bind fun J =>
  some ((J.1.1,J.1.2),J.2)
  else
  some ((0,0),false))
def gY (N:Nat) (a0:Int) (a1:Int) (a2:Int) (a3:Int):Option ((Int × Int) × Bool) :=
  (sb 0 a2).bind fun U =>
  (fY N a0 a1 U a3).bind fun J =>
  some ((J.1.1,J.1.2),J.2)
def fS (N:Nat):Nat→(List (Int × Int))→(List (Int × Int))→Int→Int→Int→Option (Sum (Bool × (List (Int × Int))) ((List (Int × Int)) × Int))
 | 0,_,_,_,_,_=>none
 | k+1,J,AI,AJ,AK,U =>
  (bif decide (U<(J.length:Int)) then
  (ix AI U).bind fun AM =>
  (f5 N AJ AK AM.1 AM.2).bind fun AG =>
  (ix J U).bind fun AN =>
  (gY N AN.1 AN.2 AG.1.1 AG.1.2).bind fun AH =>
  (bif AG.2 then
  (bif AH.2 then
  (ix J U).bind fun AQ =>
  (sto J U (AH.1.1,AH.1.2)).bind fun AO =>
  (ad U 1).bind fun AP =>
  fS N k AO AI AJ AK AP
  else
  some (.inl (false,J)))
  else
  some (.inl (false,J)))
  else
  some (.inr (J,U)))
def jq (N:Nat) (a0:List (Int × Int)) (a1:List (Int × Int)) (a2:Int):Option (Bool × (List (Int × Int))) :=
  (ix a0 a2).bind fun U =>
  (ix a1 a2).bind fun AG =>
  (fZ N U.1 U.2 AG.1 AG.2).bind fun J =>
  (bif J.2 then
  (fS N N a0 a1 J.1.1 J.1.2 a2).bind fun AH =>
  lpS AH (fun q=>some q) fun (AI,AJ) =>
  some (true,AI)
  else
  some (false,a0))
def eG (N:Nat):Nat→(List (Int × Int))→Int→(List (List (Int × Int)))→(List (List (Int × Int)))→Int→Int→Option (Sum ((List (Int × Int)) × Bool) ((List (List (Int × Int))) × Int))
 | 0,_,_,_,_,_,_=>none
 | k+1,AG,AH,AI,AJ,AK,J =>
  (bif decide (J<AK) then
  (ix AJ J).bind fun U =>
  (bif ((U.length:Int) != AH) then
  some (.inl ([],false))
  else
  (ef N U).bind fun AN =>
  (bif AN then
  (ix AG J).bind fun AM =>
  (fv N U).bind fun AO =>
  (apd 16 AO [(AM.1,AM.2)]).bind fun AP =>
  (apd 24 AI [AP]).bind fun AQ =>
  (ad J 1).bind fun AR =>
  eG N k AG AH AQ AJ AK AR
  else
  some (.inl ([],false))))
  else
  some (.inr (AI,J)))
def eF (N:Nat):Nat→Int→(List (List (Int × Int)))→Int→Int→Option Int
 | 0,_,_,_,_=>none
 | k+1,U,AG,AH,J =>
  (bif decide (J<U) then
  (ix AG J).bind fun AI =>
  (ix AI AH).bind fun AJ =>
  (bif (AJ.1 == 0) then
  (ad J 1).bind fun AK =>
  eF N k U AG AH AK
  else
  some J)
  else
  some J)
def cd (N:Nat):Nat→Int→(List (List (Int × Int)))→Int→Int→Option (Sum ((List (Int × Int)) × Bool) ((List (List (Int × Int))) × Int))
 | 0,_,_,_,_=>none
 | k+1,AH,U,AG,J =>
  (bif decide (J<AH) then
  (bif (J != AG) then
  (ix U J).bind fun AJ =>
  (ix AJ AG).bind fun AK =>
  (bif (AK.1 != 0) then
  (ix U J).bind fun AM =>
  (ix U AG).bind fun AN =>
  (jq N AM AN AG).bind fun AI =>
  (sto U J AI.2).bind fun AO =>
  (bif AI.1 then
  (ad J 1).bind fun AP =>
  cd N k AH AO AG AP
  else
  some (.inl ([],false)))
  else
  (ad J 1).bind fun AQ =>
  cd N k AH U AG AQ)
  else
  (ad J 1).bind fun AR =>
  cd N k AH U AG AR)
  else
  some (.inr (U,J)))
def eI (N:Nat):Nat→Int→(List (List (Int × Int)))→Int→Option (Sum ((List (Int × Int)) × Bool) ((List (List (Int × Int))) × Int))
 | 0,_,_,_=>none
 | k+1,AG,U,J =>
  (bif decide (J<AG) then
  (eF N N AG U J J).bind fun AI =>
  lpB AI fun AH =>
  (bif (AH == AG) then
  some (.inl ([],false))
  else
  (ix U AH).bind fun AJ =>
  (ix U J).bind fun AK =>
  (ix U J).bind fun AR =>
  (sto U J AJ).bind fun AM =>
  (sto AM AH AK).bind fun AN =>
  (cd N N AG AN J 0).bind fun AO =>
  lpS AO (fun q=>some (.inl q)) fun (AP,AS) =>
  (ad J 1).bind fun AQ =>
  eI N k AG AP AQ)
  else
  some (.inr (U,J)))
def eK (N:Nat):Nat→Int→(List (List (Int × Int)))→(List (Int × Int))→Int→Option (Sum ((List (Int × Int)) × Bool) ((List (Int × Int)) × Int))
 | 0,_,_,_,_=>none
 | k+1,U,AG,AI,J =>
  (bif decide (J<U) then
  (ix AG J).bind fun AM =>
  (ix AM U).bind fun AJ =>
  (ix AG J).bind fun AN =>
  (ix AN J).bind fun AK =>
  (fZ N AJ.1 AJ.2 AK.1 AK.2).bind fun AH =>
  (bif AH.2 then
  (apd 16 AI [(AH.1.1,AH.1.2)]).bind fun AO =>
  (ad J 1).bind fun AP =>
  eK N k U AG AO AP
  else
  some (.inl ([],false)))
  else
  some (.inr (AI,J)))
def fi (N:Nat) (a0:List (List (Int × Int))) (a1:List (Int × Int)):Option ((List (Int × Int)) × Bool) :=
  (bif decide (6<(a1.length:Int)) then
  some ([],false)
  else
  (bif ((a0.length:Int) != (a1.length:Int)) then
  some ([],false)
  else
  (ef N a1).bind fun AI =>
  (bif AI then
  (eG N N a1 (a1.length:Int) [] a0 (a0.length:Int) 0).bind fun J =>
  lpS J (fun q=>some q) fun (AJ,AN) =>
  (eI N N (a1.length:Int) AJ 0).bind fun U =>
  lpS U (fun q=>some q) fun (AK,AO) =>
  (eK N N (a1.length:Int) AK [] 0).bind fun AG =>
  lpS AG (fun q=>some q) fun (AH,AM) =>
  some (AH,true)
  else
  some ([],false))))
def fz (N:Nat) (a0:Int) (a1:Int) (a2:Int) (a3:Int):Option Int :=
  (eY N a0 a1 a2 a3).bind fun J =>
  (bif J then
  (ml a0 a3).bind fun U =>
  (ml a2 a1).bind fun AG =>
  (fm N U AG).bind fun AH =>
  some AH
  else
  some 0)
def gl (N:Nat):Nat→(List (Int × Int))→(List (Int × Int))→Int→Int→Int→Int→Int→Int→Option (Sum ((Int × Int) × Bool) (Int × Int × Int))
 | 0,_,_,_,_,_,_,_,_=>none
 | k+1,AH,AI,AP,AQ,AJ,AK,AM,J =>
  (bif decide (J<AM) then
  (ix AH J).bind fun AN =>
  (ix AI J).bind fun AO =>
  (f5 N AN.1 AN.2 AO.1 AO.2).bind fun U =>
  (fY N AJ AK U.1.1 U.1.2).bind fun AG =>
  (bif U.2 then
  (bif AG.2 then
  (ad J 1).bind fun AR =>
  gl N k AH AI AP AQ AG.1.1 AG.1.2 AM AR
  else
  some (.inl ((0,0),false)))
  else
  some (.inl ((0,0),false)))
  else
  some (.inr (AJ,AK,J)))
def ig (N:Nat) (a0:List (Int × Int)) (a1:List (Int × Int)):Option ((Int × Int) × Bool) :=
  (bif ((a0.length:Int) != (a1.length:Int)) then
  some ((0,0),false)
  else
  (gl N N a0 a1 0 0 0 1 (a0.length:Int) 0).bind fun J =>
  lpS J (fun q=>some q) fun (U,AG,AH) =>
  some ((U,AG),true))
def dX (N:Nat):Nat→(List (Int × Int))→(List (Int × Int))→(List (List (Int × Int)))→Int→Int→Option (Sum ((List (Int × Int)) × Bool) ((List (Int × Int)) × Int))
 | 0,_,_,_,_,_=>none
 | k+1,AG,AH,AI,AJ,J =>
  (bif decide (J<AJ) then
  (ix AI J).bind fun AK =>
  (ig N AK AG).bind fun U =>
  (bif U.2 then
  (apd 16 AH [(U.1.1,U.1.2)]).bind fun AM =>
  (ad J 1).bind fun AN =>
  dX N k AG AM AI AJ AN
  else
  some (.inl ([],false)))
  else
  some (.inr (AH,J)))
def eU (N:Nat) (a0:List (List (Int × Int))) (a1:List (Int × Int)):Option ((List (Int × Int)) × Bool) :=
  (dX N N a1 [] a0 (a0.length:Int) 0).bind fun J =>
  lpS J (fun q=>some q) fun (U,AG) =>
  some (U,true)
def gS (N:Nat):Nat→(List (Int × Int))→Int→(List (List (Int × Int)))→(List (Int × Int))→(List (Int × Int))→(List (Int × Int))→Int→Int→Option (Sum Bool Int)
 | 0,_,_,_,_,_,_,_,_=>none
 | k+1,AH,AI,AJ,AK,AM,U,AG,J =>
  (bif decide (J<AG) then
  (ix U J).bind fun AN =>
  (bif decide (AN.1<0) then
  some (.inl false)
  else
  (ad J 1).bind fun AO =>
  gS N k AH AI AJ AK AM U AG AO)
  else
  some (.inr J))
def gU (N:Nat):Nat→Int→(List (List (Int × Int)))→(List (Int × Int))→(List (Int × Int))→(List (Int × Int))→Int→Int→Option (Sum Bool Int)
 | 0,_,_,_,_,_,_,_=>none
 | k+1,U,AM,AG,AN,AH,AI,J =>
  (bif decide (J<AI) then
  (ix AH J).bind fun AJ =>
  (ix AG J).bind fun AK =>
  (fz N AJ.1 AJ.2 AK.1 AK.2).bind fun AO =>
  (ml U AO).bind fun AP =>
  (bif decide (AP<0) then
  some (.inl false)
  else
  (ad J 1).bind fun AQ =>
  gU N k U AM AG AN AH AI AQ)
  else
  some (.inr J))
def iS (N:Nat) (a0:List (List (Int × Int))) (a1:List (Int × Int)) (a2:List (Int × Int)) (a3:List (Int × Int)) (a4:Int):Option Bool :=
  (c8 N a0 a1 a2).bind fun U =>
  (bif U then
  (bif ((a3.length:Int) != (a2.length:Int)) then
  some false
  else
  (ef N a3).bind fun AG =>
  (bif AG then
  (gS N N a3 a4 a0 a1 a2 a3 (a3.length:Int) 0).bind fun AH =>
  lpS AH (fun q=>some q) fun AJ =>
  (eU N a0 a3).bind fun J =>
  (bif J.2 then
  (gU N N a4 a0 a1 a2 J.1 (J.1.length:Int) 0).bind fun AI =>
  lpS AI (fun q=>some q) fun AK =>
  some true
  else
  some false)
  else
  some false))
  else
  some false)
def eu (N:Nat):Nat→(List (Int × Int))→(List (Int × Int))→Int→Int→Option (Sum Bool Int)
 | 0,_,_,_,_=>none
 | k+1,U,AG,AH,J =>
  (bif decide (J<AH) then
  (ix U J).bind fun AI =>
  (ix AG J).bind fun AJ =>
  (bif (AI.1 == AJ.1&&AI.2 == AJ.2) then
  (ad J 1).bind fun AK =>
  eu N k U AG AH AK
  else
  some (.inl false))
  else
  some (.inr J))
def fX (N:Nat) (a0:List (Int × Int)) (a1:List (Int × Int)):Option Bool :=
  (bif ((a0.length:Int) != (a1.length:Int)) then
  some false
  else
  (eu N N a0 a1 (a0.length:Int) 0).bind fun J =>
  lpS J (fun q=>some q) fun U =>
  some true)
def fC (rec:Int→(List Int)→Int→(List (List (Int × Int)))→(List (Int × Int))→(List (List (Int × Int)))→(List (Int × Int))→(List (Int × Int))→Int→(List (List (Int × Int)))→Option (List (List (Int × Int)))) (N:Nat):Nat→(List Int)→Int→(List (List (Int × Int)))→(List (Int × Int))→(List (List (Int × Int)))→(List (Int × Int))→(List (Int × Int))→Int→(List (List (Int × Int)))→Int→Option ((List (List (Int × Int))) × Int)
 | 0,_,_,_,_,_,_,_,_,_,_=>none
 | k+1,AG,AH,U,AI,AJ,AK,AM,AN,AO,J =>
  (bif decide (J<(U.length:Int)) then
  (ad J 1).bind fun AP =>
  (iQ N AG).bind fun AQ =>
  (apd 8 AQ [J]).bind fun AR =>
  (rec AP AR AH U AI AJ AK AM AN AO).bind fun AS =>
  (ad J 1).bind fun AT =>
  fC rec N k AG AH U AI AJ AK AM AN AS AT
  else
  some (AO,J))
def dg (rec:Int→(List Int)→Int→(List (List (Int × Int)))→(List (Int × Int))→(List (List (Int × Int)))→(List (Int × Int))→(List (Int × Int))→Int→(List (List (Int × Int)))→Option (List (List (Int × Int)))) (N:Nat):Nat→(List Int)→Int→(List (List (Int × Int)))→(List (Int × Int))→(List (List (Int × Int)))→(List (Int × Int))→(List (Int × Int))→Int→(List (List (Int × Int)))→(List (List (Int × Int)))→(List (Int × Int))→(List Int)→Int→Int→Option ((List (List (Int × Int))) × (List (Int × Int)) × Int)
 | 0,_,_,_,_,_,_,_,_,_,_,_,_,_,_=>none
 | k+1,AO,AP,U,AG,AQ,AR,AS,AT,AU,AH,AI,AJ,AK,J =>
  (bif decide (J<AK) then
  (ix AJ J).bind fun AM =>
  (ix U AM).bind fun AV =>
  (apd 24 AH [AV]).bind fun AW =>
  (ix AG AM).bind fun AN =>
  (apd 16 AI [(AN.1,AN.2)]).bind fun AX =>
  (ad J 1).bind fun AY =>
  dg rec N k AO AP U AG AQ AR AS AT AU AW AX AJ AK AY
  else
  some (AH,AI,J))
def fw (rec:Int→(List Int)→Int→(List (List (Int × Int)))→(List (Int × Int))→(List (List (Int × Int)))→(List (Int × Int))→(List (Int × Int))→Int→(List (List (Int × Int)))→Option (List (List (Int × Int)))) (N:Nat):Nat→(List Int)→Int→(List (List (Int × Int)))→(List (Int × Int))→(List (List (Int × Int)))→(List (Int × Int))→(List (Int × Int))→Int→(List (List (Int × Int)))→(List (Int × Int))→(List (List (Int × Int)))→Int→Int→Option (Sum (List (List (Int × Int))) Int)
 | 0,_,_,_,_,_,_,_,_,_,_,_,_,_=>none
 | k+1,AJ,AK,AM,AN,AO,AP,AQ,AR,U,AG,AH,AI,J =>
  (bif decide (J<AI) then
  (ix AH J).bind fun AS =>
  (fX N AG AS).bind fun AT =>
  (bif AT then
  some (.inl U)
  else
  (ad J 1).bind fun AU =>
  fw rec N k AJ AK AM AN AO AP AQ AR U AG AH AI AU)
  else
  some (.inr J))
def ck:Nat→Int→(List Int)→Int→(List (List (Int × Int)))→(List (Int × Int))→(List (List (Int × Int)))→(List (Int × Int))→(List (Int × Int))→Int→(List (List (Int × Int)))→Option (List (List (Int × Int)))
 | 0,_,_,_,_,_,_,_,_,_,_=>none
 | N+1,a0,a1,a2,a3,a5,a6,a7,a8,a9,J =>
  (bif decide ((a1.length:Int)<a2) then
  (fC (ck N) N N a1 a2 a3 a5 a6 a7 a8 a9 J a0).bind fun AG =>
  lpB AG fun (AH,AP) =>
  some AH
  else
  (dg (ck N) N N a1 a2 a3 a5 a6 a7 a8 a9 J [] [] a1 (a1.length:Int) 0).bind fun AI =>
  lpB AI fun (AJ,AK,AQ) =>
  (fi N AJ AK).bind fun U =>
  (bif U.2 then
  (iS N a6 a7 a8 U.1 a9).bind fun AM =>
  (bif AM then
  (fw (ck N) N N a1 a2 a3 a5 a6 a7 a8 a9 J U.1 J (J.length:Int) 0).bind fun AN =>
  lpS AN (fun q=>some q) fun AR =>
  (apd 24 J [U.1]).bind fun AO =>
  some AO
  else
  some J)
  else
  some J))
def dC (N:Nat):Nat→(List (List (Int × Int)))→(List (Int × Int))→(List (Int × Int))→Int→Int→(List (List (Int × Int)))→(List (Int × Int))→Int→(List (Int × Int))→Int→Option ((List (Int × Int)) × Int)
 | 0,_,_,_,_,_,_,_,_,_,_=>none
 | k+1,AI,AJ,AK,AM,U,AN,AO,AG,AH,J =>
  (bif decide (J<U) then
  (ko N (AG == J)).bind fun AP =>
  (apd 16 AH [(AP,1)]).bind fun AQ =>
  (ad J 1).bind fun AR =>
  dC N k AI AJ AK AM U AN AO AG AQ AR
  else
  some (AH,J))
def dB (N:Nat):Nat→(List (List (Int × Int)))→(List (Int × Int))→(List (Int × Int))→Int→Int→(List (List (Int × Int)))→(List (Int × Int))→Int→Option ((List (List (Int × Int))) × (List (Int × Int)) × Int)
 | 0,_,_,_,_,_,_,_,_=>none
 | k+1,AI,AJ,AK,AM,U,AG,AH,J =>
  (bif decide (J<U) then
  (dC N N AI AJ AK AM U AG AH J [] 0).bind fun AN =>
  lpB AN fun (AO,AS) =>
  (apd 24 AG [AO]).bind fun AP =>
  (apd 16 AH [(0,1)]).bind fun AQ =>
  (ad J 1).bind fun AR =>
  dB N k AI AJ AK AM U AP AQ AR
  else
  some (AG,AH,J))
def iN (N:Nat) (a0:List (List (Int × Int))) (a1:List (Int × Int)) (a2:List (Int × Int)) (a3:Int):Option (List (List (Int × Int))) :=
  (apd 24 [] a0).bind fun J =>
  (fv N a1).bind fun U =>
  (dB N N a0 a1 a2 a3 (a2.length:Int) J U 0).bind fun AG =>
  lpB AG fun (AH,AI,AK) =>
  (ck N 0 [] (a2.length:Int) AH AI a0 a1 a2 a3 []).bind fun AJ =>
  some AJ
def fD (N:Nat) (a0:List (List (Int × Int))) (a1:List (Int × Int)) (a2:List (Int × Int)):Option (List (List (Int × Int))) :=
  (c8 N a0 a1 a2).bind fun J =>
  (bif J then
  (iN N a0 a1 a2 1).bind fun U =>
  some U
  else
  some [])
def gG (N:Nat):Nat→(List Int)→Int→(List (ByteArray × List Int))→(List Int)→(List Int)→Int→Int→Option (Sum ((List (Int × Int)) × Bool) Int)
 | 0,_,_,_,_,_,_,_=>none
 | k+1,AH,AI,AJ,AK,U,AG,J =>
  (bif decide (J<AG) then
  (ix U J).bind fun AM =>
  (cJ N AM 0 16).bind fun AN =>
  (bif AN then
  (ad J 1).bind fun AO =>
  gG N k AH AI AJ AK U AG AO
  else
  some (.inl ([],false)))
  else
  some (.inr J))
def cW (N:Nat):Nat→(List Int)→(List (Int × Int))→(List (List (Int × Int)))→Int→Int→Option ((List (Int × Int)) × Int)
 | 0,_,_,_,_,_=>none
 | k+1,U,AG,AH,AI,J =>
  (bif decide (J<AI) then
  (ix AH J).bind fun AJ =>
  (eR N U AJ AG).bind fun AK =>
  (bif (AK.1 == (-1)) then
  (ad J 1).bind fun AM =>
  cW N k U AJ AH AI AM
  else
  (ad J 1).bind fun AN =>
  cW N k U AG AH AI AN)
  else
  some (AG,J))
def gO (N:Nat) (a0:Int) (a1:List (ByteArray × List Int)) (a2:List Int) (a3:List Int):Option ((List (Int × Int)) × Bool) :=
  (e7 N a0 a1 a2).bind fun AH =>
  (bif AH then
  (bif ((a3.length:Int) != (a1.length:Int)) then
  some ([],false)
  else
  (gG N N a3 a0 a1 a2 a3 (a3.length:Int) 0).bind fun AI =>
  lpS AI (fun q=>some q) fun AN =>
  (gJ N a0 a1 a2).bind fun U =>
  (fD N U.1.1 U.1.2.1 U.1.2.2).bind fun J =>
  (bif ((J.length:Int) == 0) then
  some ([],false)
  else
  (ix J 0).bind fun AJ =>
  (slc J 1 (J.length:Int)).bind fun AG =>
  (cW N N a3 AJ AG (AG.length:Int) 0).bind fun AK =>
  lpB AK fun (AM,AO) =>
  some (AM,true)))
  else
  some ([],false))
def mS (N:Nat) (a0:List Int):Option Bool :=
  some (decide (1048576<(a0.length:Int)))
def gE (N:Nat):Nat→(List Int)→Int→Int→Option (Int × Int)
 | 0,_,_,_=>none
 | k+1,U,AG,J =>
  (bif decide (J<(U.length:Int)) then
  (bif decide (J<4000) then
  (ml AG 131).bind fun AH =>
  (ix U J).bind fun AI =>
  (ad AH (IntKind.i64.wrap AI)).bind fun AJ =>
  (ad AJ 7).bind fun AK =>
  (ad J 1).bind fun AM =>
  gE N k U (f8 AK 1073741823) AM
  else
  some (AG,J))
  else
  some (AG,J))
def jW (N:Nat) (a0:List Int):Option (Int × Int) :=
  (ad 10101 (a0.length:Int)).bind fun J =>
  (gE N N a0 J 0).bind fun U =>
  lpB U fun (AG,AH) =>
  some (0,AG)
def gg (N:Nat) (a0:List Int) (a1:Int) (a2:Int):Option (Int × Int × Int) :=
  (sr (IntKind.i64.wrap ((IntKind.i64.wrap (a2*6364136223846793005))+1442695040888963407)) 33).bind fun J =>
  (sr (IntKind.i64.wrap ((IntKind.i64.wrap (a2*6364136223846793005))+1442695040888963407)) 45).bind fun U =>
  (bif decide (a1<(a0.length:Int)) then
  (ix a0 a1).bind fun AG =>
  some ((f8 (IntKind.i64.wrap ((f8 (jc J U) 255)+(IntKind.i64.wrap AG))) 255),(IntKind.i64.wrap (a1+1)),(IntKind.i64.wrap ((IntKind.i64.wrap (a2*6364136223846793005))+1442695040888963407)))
  else
  some ((f8 (jc J U) 255),a1,(IntKind.i64.wrap ((IntKind.i64.wrap (a2*6364136223846793005))+1442695040888963407))))
def dO (N:Nat) (a0:List Int) (a1:Int) (a2:Int) (a3:Int):Option (Int × Int × Int) :=
  (bif decide (a3≤0) then
  some (0,a1,a2)
  else
  (bif decide (a3≤256) then
  (gg N a0 a1 a2).bind fun J =>
  (rm J.1 a3).bind fun AJ =>
  some (AJ,J.2.1,J.2.2)
  else
  (gg N a0 a1 a2).bind fun U =>
  (gg N a0 U.2.1 U.2.2).bind fun AG =>
  (gg N a0 AG.2.1 AG.2.2).bind fun AH =>
  (gg N a0 AH.2.1 AH.2.2).bind fun AI =>
  (ml U.1 16777216).bind fun AK =>
  (ml AG.1 65536).bind fun AM =>
  (ad AK AM).bind fun AN =>
  (ml AH.1 256).bind fun AO =>
  (ad AN AO).bind fun AP =>
  (ad AP AI.1).bind fun AQ =>
  (rm AQ a3).bind fun AR =>
  some (AR,AI.2.1,AI.2.2)))
def fE (N:Nat) (a0:List Int) (a1:Int) (a2:Int) (a3:List Int):Option (Int × Int × Int) :=
  (dO N a0 a1 a2 (a3.length:Int)).bind fun J =>
  (ix a3 J.1).bind fun U =>
  some (U,J.2.1,J.2.2)
end Go.Proofs.YtijmbnbnojicjaaGreatDoor
