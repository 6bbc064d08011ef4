/- A small separation logic over the model: how lists, rows and structs of Go read in memory ('Rep'), what a call owns ('Sat'), and the laws of the walk for them. Program-independent. -/
import Derived.WalkKit
import Derived.ProofKit
import Derived.WalkLawsBesides
import Derived.Outline
import Derived.Lib.Hide
import Derived.Deep.Quiet
import Derived.Deep.LoopGhost
import Derived.IntWalk
import Derived.Test.YtkpeabpdiffjhaaRows
import Derived.OpenShut
import Derived.Lib.SmallJoins
import Derived.Laws.BytesString
namespace Go.Proofs.Ytkpeabpdiffjhaa
open Go.RowKit

abbrev Ext (w w':World):Prop:=Below w.heap.size w w'

theorem Ext.refl (w:World):Ext w w:=Below.refl _ _
theorem Ext.trans {a b c:World} (h:Ext a b) (k:Ext b c):Ext a c:=Below.trans h (k.mono h.size)
theorem Below.andExt {B:Nat} {a b c:World} (h:Below B a b) (hB:B≤b.heap.size) (k:Ext b c):Below B a c:=Below.trans h (k.mono hB)

structure Chg (fp:List Nat) (w w':World):Prop where
 os:w'.os=w.os
 tape:w'.tape=w.tape
 output:w'.output=w.output
 size:w.heap.size≤w'.heap.size
 block:∀ k,k<w.heap.size→k∉fp→w'.heap[k]? = w.heap[k]?

theorem Chg.of_ext {w w':World} (h:Ext w w') (fp:List Nat):Chg fp w w':=⟨h.os,h.tape,h.output,h.size,fun k hk _=>h.block k hk⟩
theorem Chg.trans {fp:List Nat} {a b c:World} (h:Chg fp a b) (k:Chg fp b c):Chg fp a c :=
 ⟨k.os.trans h.os,k.tape.trans h.tape,k.output.trans h.output,Nat.le_trans h.size k.size,fun i hi hn=>(k.block i (Nat.lt_of_lt_of_le hi h.size) hn).trans (h.block i hi hn)⟩
theorem Chg.mono {fp fp':List Nat} {a b:World} (h:Chg fp a b) (hs:∀ x∈fp,x∈fp'):Chg fp' a b :=
 ⟨h.os,h.tape,h.output,h.size,fun k hk hn=>h.block k hk (fun hm=>hn (hs k hm))⟩
theorem Chg.ext {a b:World} (h:Chg [] a b):Ext a b:=⟨h.os,h.tape,h.output,h.size,fun k hk=>h.block k hk (by simp)⟩
theorem Chg.refl (fp:List Nat) (w:World):Chg fp w w:=⟨rfl,rfl,rfl,Nat.le_refl _,fun _ _ _=>rfl⟩
theorem Chg.alloc (w:World) (o:Obj):Chg [] w (w.alloc o):=Chg.of_ext ((Below.refl _ _).alloc (Nat.le_refl _) o) _

theorem below_chg {B:Nat} {a b c:World} {fp:List Nat} (h:Below B a b) (hB:B≤b.heap.size) (k:Chg fp b c) (hf:∀ x∈fp,B≤x):Below B a c :=
  ⟨k.os.trans h.os,k.tape.trans h.tape,k.output.trans h.output,Nat.le_trans h.size k.size,
   fun i hi=>(k.block i (Nat.lt_of_lt_of_le hi hB) (fun hm=>by have:=hf i hm;omega)).trans (h.block i hi)⟩

structure Rep (α:Type) where
 sz:Nat
 rd:World→List Value→α→Prop
 own:World→List Value→α→List Nat→Prop
 rd_len:∀ {w cs x},rd w cs x→cs.length=sz
 rd_one:∀ {w cs x},rd w cs x→∀ c∈cs,c.oneCell'=true
 rd_ext:∀ {w w' cs x},rd w cs x→Ext w w'→rd w' cs x
 own_rd:∀ {w cs x fp},own w cs x fp→rd w cs x
 own_ext:∀ {w w' cs x fp},own w cs x fp→(∀ b∈fp,w'.heap[b]? = w.heap[b]?)→own w' cs x fp
 own_lt:∀ {w cs x fp},own w cs x fp→∀ b∈fp,b<w.heap.size

def intR:Rep Int where
 sz:=1
 rd _ cs n:=cs=[.int .i64 n]
 own _ cs n fp:=cs=[.int .i64 n]∧fp=[]
 rd_len h:=by subst h;rfl
 rd_one h:=by subst h;simp [Value.oneCell']
 rd_ext h _:=h
 own_rd h:=h.1
 own_ext h _:=h
 own_lt h:=by rw [h.2];simp

def strR:Rep ByteArray where
 sz:=1
 rd _ cs s:=cs=[.string s]∧s.size≤9223372036854775807
 own _ cs s fp:=(cs=[.string s]∧s.size≤9223372036854775807)∧fp=[]
 rd_len h:=by rw [h.1];rfl
 rd_one h:=by rw [h.1];simp [Value.oneCell']
 rd_ext h _:=h
 own_rd h:=h.1
 own_ext h _:=h
 own_lt h:=by rw [h.2];simp

def pairR {α β:Type} (R:Rep α) (S:Rep β):Rep (α × β) where
 sz:=R.sz+S.sz
 rd w cs x:=∃ c1 c2,cs=c1++c2∧R.rd w c1 x.1∧S.rd w c2 x.2
 own w cs x fp:=∃ c1 c2 f1 f2,cs=c1++c2∧fp=f1++f2∧R.own w c1 x.1 f1∧S.own w c2 x.2 f2
 rd_len h:=by obtain ⟨c1,c2,rfl,h1,h2⟩:=h;rw [List.length_append,R.rd_len h1,S.rd_len h2]
 rd_one h:=by
  obtain ⟨c1,c2,rfl,h1,h2⟩:=h
  intro c hc
  rcases List.mem_append.1 hc with h | h
  ·exact R.rd_one h1 c h
  ·exact S.rd_one h2 c h
 rd_ext h he:=by obtain ⟨c1,c2,rfl,h1,h2⟩:=h;exact ⟨c1,c2,rfl,R.rd_ext h1 he,S.rd_ext h2 he⟩
 own_rd h:=by obtain ⟨c1,c2,f1,f2,rfl,rfl,h1,h2⟩:=h;exact ⟨c1,c2,rfl,R.own_rd h1,S.own_rd h2⟩
 own_ext h he:=by
  obtain ⟨c1,c2,f1,f2,rfl,rfl,h1,h2⟩:=h
  exact ⟨c1,c2,f1,f2,rfl,rfl,R.own_ext h1 (fun b hb=>he b (List.mem_append_left _ hb)),S.own_ext h2 (fun b hb=>he b (List.mem_append_right _ hb))⟩
 own_lt h:=by
  obtain ⟨c1,c2,f1,f2,rfl,rfl,h1,h2⟩:=h
  intro b hb
  rcases List.mem_append.1 hb with h | h
  ·exact R.own_lt h1 b h
  ·exact S.own_lt h2 b h

def rowAt (w:World) (ao:Option Addr) (ccs:List Value):Prop :=
 ccs=[]∨∃ b off,ao=some ⟨b,off,none⟩∧∀ j c,ccs[j]? = some c→w.cell? ⟨b,off+j,none⟩=some c

section
variable {α:Type} (R:Rep α)
def rdL (w:World):List Value→List α→Prop
 | ccs,[]=>ccs=[]
 | ccs,x :: xs=>∃ ec rest,ccs=ec++rest∧R.rd w ec x∧rdL w rest xs
def ownL (w:World):List Value→List α→List Nat→Prop
 | ccs,[],fp=>ccs=[]∧fp=[]
 | ccs,x :: xs,fp=>∃ ec rest f1 f2,ccs=ec++rest∧fp=f1++f2∧R.own w ec x f1∧ownL w rest xs f2
variable {R}
theorem rdL_len {w:World}:∀ {xs:List α} {ccs:List Value},rdL R w ccs xs→ccs.length=xs.length*R.sz
 | [],_,h=>by simp only [rdL] at h;subst h;simp
 | x :: xs,_,h=>by
  obtain ⟨ec,rest,rfl,h1,h2⟩:=h
  rw [List.length_append,R.rd_len h1,rdL_len h2,List.length_cons,Nat.add_mul,Nat.one_mul,Nat.add_comm]
theorem rdL_one {w:World}:∀ {xs:List α} {ccs:List Value},rdL R w ccs xs→∀ c∈ccs,c.oneCell'=true
 | [],_,h=>by simp only [rdL] at h;subst h;simp
 | x :: xs,_,h=>by
  obtain ⟨ec,rest,rfl,h1,h2⟩:=h
  intro c hc
  rcases List.mem_append.1 hc with h | h
  ·exact R.rd_one h1 c h
  ·exact rdL_one h2 c h
theorem rdL_ext {w w':World} (he:Ext w w'):∀ {xs:List α} {ccs:List Value},rdL R w ccs xs→rdL R w' ccs xs
 | [],_,h=>h
 | x :: xs,_,h=>by
  obtain ⟨ec,rest,rfl,h1,h2⟩:=h
  exact ⟨ec,rest,rfl,R.rd_ext h1 he,rdL_ext he h2⟩
theorem ownL_rdL {w:World}:∀ {xs:List α} {ccs:List Value} {fp:List Nat},ownL R w ccs xs fp→rdL R w ccs xs
 | [],_,_,h=>h.1
 | x :: xs,_,_,h=>by
  obtain ⟨ec,rest,f1,f2,rfl,rfl,h1,h2⟩:=h
  exact ⟨ec,rest,rfl,R.own_rd h1,ownL_rdL h2⟩
theorem ownL_ext {w w':World}:∀ {xs:List α} {ccs:List Value} {fp:List Nat},ownL R w ccs xs fp→(∀ b∈fp,w'.heap[b]? = w.heap[b]?)→ownL R w' ccs xs fp
 | [],_,_,h,_=>h
 | x :: xs,_,_,h,he=>by
  obtain ⟨ec,rest,f1,f2,rfl,rfl,h1,h2⟩:=h
  exact ⟨ec,rest,f1,f2,rfl,rfl,R.own_ext h1 (fun b hb=>he b (List.mem_append_left _ hb)),ownL_ext h2 (fun b hb=>he b (List.mem_append_right _ hb))⟩
theorem ownL_lt {w:World}:∀ {xs:List α} {ccs:List Value} {fp:List Nat},ownL R w ccs xs fp→∀ b∈fp,b<w.heap.size
 | [],_,_,h=>by rw [h.2];simp
 | x :: xs,_,_,h=>by
  obtain ⟨ec,rest,f1,f2,rfl,rfl,h1,h2⟩:=h
  intro b hb
  rcases List.mem_append.1 hb with h | h
  ·exact R.own_lt h1 b h
  ·exact ownL_lt h2 b h
theorem ownL_append {w:World} {ys:List α} {ccs':List Value} {fp':List Nat} (h':ownL R w ccs' ys fp') :
  ∀ {xs:List α} {ccs:List Value} {fp:List Nat},ownL R w ccs xs fp→ownL R w (ccs++ccs') (xs++ys) (fp++fp')
 | [],_,_,h=>by obtain ⟨rfl,rfl⟩:=h;simpa using h'
 | x :: xs,_,_,h=>by
  obtain ⟨ec,rest,f1,f2,rfl,rfl,h1,h2⟩:=h
  exact ⟨ec,rest++ccs',f1,f2++fp',by simp,by simp,h1,ownL_append h' h2⟩
theorem rdL_append {w:World} {ys:List α} {ccs':List Value} (h':rdL R w ccs' ys) :
  ∀ {xs:List α} {ccs:List Value},rdL R w ccs xs→rdL R w (ccs++ccs') (xs++ys)
 | [],_,h=>by simp only [rdL] at h;subst h;simpa using h'
 | x :: xs,_,h=>by
  obtain ⟨ec,rest,rfl,h1,h2⟩:=h
  exact ⟨ec,rest++ccs',by simp,h1,rdL_append h' h2⟩
theorem rdL_at {w:World}:∀ {xs:List α} {ccs:List Value},rdL R w ccs xs→∀ (i:Nat) (h:i<xs.length),
  ∃ ec,R.rd w ec xs[i]∧∀ j c,ec[j]? = some c→ccs[i*R.sz+j]? = some c
 | [],_,_,i,h=>absurd h (by simp)
 | x :: xs,_,hr,i,h=>by
  obtain ⟨ec,rest,rfl,h1,h2⟩:=hr
  cases i with
  | zero =>
   refine ⟨ec,h1,fun j c hj=>?_⟩
   have hlt:j<ec.length:=(List.getElem?_eq_some_iff.1 hj).1
   rw [Nat.zero_mul,Nat.zero_add,List.getElem?_append_left hlt]
   exact hj
  | succ i =>
   obtain ⟨ec',h3,h4⟩:=rdL_at h2 i (by simpa using h)
   refine ⟨ec',by simpa using h3,fun j c hj=>?_⟩
   have e:(i+1)*R.sz+j=ec.length+(i*R.sz+j):=by rw [R.rd_len h1,Nat.add_mul];omega
   rw [e,List.getElem?_append_right (by omega),Nat.add_sub_cancel_left]
   exact h4 j c hj
theorem rdL_split {w:World}:∀ (k:Nat) {xs:List α} {ccs:List Value},rdL R w ccs xs→rdL R w (ccs.take (k*R.sz)) (xs.take k)∧rdL R w (ccs.drop (k*R.sz)) (xs.drop k)
 | 0,xs,ccs,h=>by simp [rdL];simpa using h
 | k+1,[],ccs,h=>by simp only [rdL] at h;subst h;simp [rdL]
 | k+1,x :: xs,ccs,h=>by
  obtain ⟨ec,rest,rfl,h1,h2⟩:=h
  obtain ⟨i1,i2⟩:=rdL_split k h2
  have e:(k+1)*R.sz=ec.length+k*R.sz:=by rw [R.rd_len h1,Nat.add_mul];omega
  constructor
  ·refine ⟨ec,rest.take (k*R.sz),?_,h1,i1⟩
   rw [e,List.take_append,List.take_of_length_le (by omega),Nat.add_sub_cancel_left]
  ·rw [e,List.drop_append,List.drop_of_length_le (by omega),Nat.add_sub_cancel_left]
   simpa using i2
end

def sliceR {α:Type} (R:Rep α) (E:TypeId):Rep (List α) where
 sz:=1
 rd w cs xs:=∃ ao cap ccs,cs=[.slice ao xs.length cap]∧xs.length≤cap∧cap≤maxLen∧(ao=none→cap=0)∧rdL R w ccs xs∧rowAt w ao ccs
 own w cs xs fp:=(cs=[.slice none 0 0]∧xs=[]∧fp=[]) ∨
  ∃ g cap cur ccs f2,cs=[.slice (some ⟨g,0,none⟩) xs.length cap]∧w.heap[g]? = some (.cells cur E (0,0))∧xs.length≤cap∧cap≤maxLen∧cur.size=cap*R.sz ∧
   cur.toList.take (xs.length*R.sz)=ccs∧ownL R w ccs xs f2∧fp=g :: f2
 rd_len h:=by obtain ⟨_,_,_,rfl,_⟩:=h;rfl
 rd_one h:=by obtain ⟨_,_,_,rfl,_⟩:=h;simp [Value.oneCell']
 rd_ext h he:=by
  obtain ⟨ao,cap,ccs,rfl,h1,h2,h3,h4,h5⟩:=h
  refine ⟨ao,cap,ccs,rfl,h1,h2,h3,rdL_ext he h4,?_⟩
  rcases h5 with h5 | ⟨b,off,rfl,h5⟩
  ·exact .inl h5
  ·exact .inr ⟨b,off,rfl,fun j c hj=>by have:=h5 j c hj;rw [he.cell (block_lt_of_cell this)];exact this⟩
 own_rd h:=by
  rcases h with ⟨rfl,rfl,rfl⟩ | ⟨g,cap,cur,ccs,f2,rfl,hg,h1,h2,h3,h4,h5,rfl⟩
  ·exact ⟨none,0,[],rfl,Nat.le_refl _,Nat.zero_le _,fun _=>rfl,rfl,.inl rfl⟩
  ·refine ⟨_,cap,ccs,rfl,h1,h2,by simp,ownL_rdL h5,.inr ⟨g,0,rfl,fun j c hj=>?_⟩⟩
   rw [Nat.zero_add,cell_of_row _ g j cur E (0,0) hg,← Array.getElem?_toList]
   rw [← h4,List.getElem?_take] at hj
   split at hj
   ·exact hj
   ·cases hj
 own_ext h he:=by
  rcases h with h | ⟨g,cap,cur,ccs,f2,rfl,hg,h1,h2,h3,h4,h5,rfl⟩
  ·exact .inl h
  ·exact .inr ⟨g,cap,cur,ccs,f2,rfl,by rw [he g (by simp)];exact hg,h1,h2,h3,h4,ownL_ext h5 (fun b hb=>he b (by simp [hb])),rfl⟩
 own_lt h:=by
  rcases h with ⟨_,_,rfl⟩ | ⟨g,cap,cur,ccs,f2,rfl,hg,h1,h2,h3,h4,h5,rfl⟩
  ·simp
  ·intro b hb
   rcases List.mem_cons.1 hb with rfl | hb
   ·exact (Array.getElem?_eq_some_iff.1 hg).1
   ·exact ownL_lt h5 b hb

structure Asn where
 holds:World→List Nat→Prop
 ext:∀ {w w' fp},holds w fp→(∀ b∈fp,w'.heap[b]? = w.heap[b]?)→holds w' fp
 lt:∀ {w fp},holds w fp→∀ b∈fp,b<w.heap.size

def Own {α:Type} (R:Rep α) (cs:List Value) (x:α):Asn:=⟨fun w fp=>R.own w cs x fp,R.own_ext,R.own_lt⟩
def Box (b:Nat) (E:TypeId) (cs:List Value):Asn where
 holds w fp:=fp=[b]∧w.heap[b]? = some (.cells cs.toArray E (0,0))
 ext h he:=by obtain ⟨rfl,h⟩:=h;exact ⟨rfl,by rw [he b (by simp)];exact h⟩
 lt h:=by obtain ⟨rfl,h⟩:=h;intro b' hb;simp at hb;subst hb;exact (Array.getElem?_eq_some_iff.1 h).1

def SatL (w:World):List Asn→List Nat→Prop
 | [],fp=>fp=[]
 | A :: Γ,fp=>∃ f1 f2,fp=f1++f2∧A.holds w f1∧SatL w Γ f2

structure Sat (w0 w:World) (Γ:List Asn):Prop where
 below:Below w0.heap.size w0 w
 sat:∃ fp,SatL w Γ fp∧fp.Nodup∧∀ b∈fp,w0.heap.size≤b

theorem SatL.ext {w w':World}:∀ {Γ:List Asn} {fp:List Nat},SatL w Γ fp→(∀ b∈fp,w'.heap[b]? = w.heap[b]?)→SatL w' Γ fp
 | [],_,h,_=>h
 | A :: Γ,_,h,he=>by
  obtain ⟨f1,f2,rfl,h1,h2⟩:=h
  exact ⟨f1,f2,rfl,A.ext h1 (fun b hb=>he b (List.mem_append_left _ hb)),SatL.ext h2 (fun b hb=>he b (List.mem_append_right _ hb))⟩
theorem SatL.lt {w:World}:∀ {Γ:List Asn} {fp:List Nat},SatL w Γ fp→∀ b∈fp,b<w.heap.size
 | [],_,h=>by simp only [SatL] at h;subst h;simp
 | A :: Γ,_,h=>by
  obtain ⟨f1,f2,rfl,h1,h2⟩:=h
  intro b hb
  rcases List.mem_append.1 hb with h | h
  ·exact A.lt h1 b h
  ·exact SatL.lt h2 b h
theorem SatL.append {w:World} {Δ:List Asn} {g:List Nat} (k:SatL w Δ g):∀ {Γ:List Asn} {fp:List Nat},SatL w Γ fp→SatL w (Γ++Δ) (fp++g)
 | [],_,h=>by simp only [SatL] at h;subst h;simpa using k
 | A :: Γ,_,h=>by
  obtain ⟨f1,f2,rfl,h1,h2⟩:=h
  exact ⟨f1,f2++g,by simp,h1,SatL.append k h2⟩
theorem SatL.perm {w:World} {Γ Δ:List Asn} (hp:Γ.Perm Δ):∀ {fp:List Nat},SatL w Γ fp→∃ fp',fp.Perm fp'∧SatL w Δ fp':=by
 induction hp with
 | nil=>intro fp h;exact ⟨fp,.refl _,h⟩
 | cons A _ ih =>
  rintro _ ⟨f1,f2,rfl,h1,h2⟩
  obtain ⟨f2',p,h2'⟩:=ih h2
  exact ⟨f1++f2',List.Perm.append_left _ p,f1,f2',rfl,h1,h2'⟩
 | swap A B Γ =>
  rintro _ ⟨f1,_,rfl,h1,f2,f3,rfl,h2,h3⟩
  refine ⟨f2++(f1++f3),?_,f2,f1++f3,rfl,h2,f1,f3,rfl,h1,h3⟩
  rw [← List.append_assoc,← List.append_assoc]
  exact List.Perm.append_right _ List.perm_append_comm
 | trans _ _ ih1 ih2 =>
  intro fp h
  obtain ⟨f1,p1,h1⟩:=ih1 h
  obtain ⟨f2,p2,h2⟩:=ih2 h1
  exact ⟨f2,p1.trans p2,h2⟩

theorem Sat.start (w:World):Sat w w []:=⟨Below.refl _ _,[],rfl,by simp,by simp⟩
theorem Sat.le {w0 w:World} {Γ:List Asn} (h:Sat w0 w Γ):w0.heap.size≤w.heap.size:=h.below.size
theorem Sat.ext {w0 w w':World} {Γ:List Asn} (h:Sat w0 w Γ) (he:Ext w w'):Sat w0 w' Γ:=by
 obtain ⟨hb,fp,h1,h2,h3⟩:=h
 exact ⟨Below.andExt hb hb.size he,fp,h1.ext (fun b hb'=>he.block b (h1.lt b hb')),h2,h3⟩
theorem Sat.call {w0 w w':World} {Γ Δ:List Asn} (h:Sat w0 w Γ) (k:Sat w w' Δ):Sat w0 w' (Δ++Γ):=by
 obtain ⟨hb,fp,h1,h2,h3⟩:=h
 obtain ⟨kb,fk,k1,k2,k3⟩:=k
 refine ⟨Below.andExt hb hb.size kb,fk++fp,SatL.append (h1.ext (fun b hb'=>kb.block b (h1.lt b hb'))) k1,?_,?_⟩
 ·rw [List.nodup_append]
  exact ⟨k2,h2,fun a ha b hb' e=>by have:=k3 a ha;have:=h1.lt b hb';omega⟩
 ·intro b hb'
  rcases List.mem_append.1 hb' with h | h
  ·have:=k3 b h;have:=hb.size;omega
  ·exact h3 b h
theorem Sat.call1 {w0 w w':World} {Γ:List Asn} {A:Asn} (h:Sat w0 w Γ) (k:Sat w w' [A]):Sat w0 w' (A :: Γ):=h.call k
theorem Sat.call2 {w0 w w':World} {Γ:List Asn} {A B:Asn} (h:Sat w0 w Γ) (k:Sat w w' [A,B]):Sat w0 w' (A :: B :: Γ):=h.call k
theorem Sat.perm {w0 w:World} {Γ Δ:List Asn} (h:Sat w0 w Γ) (hp:Γ.Perm Δ):Sat w0 w Δ:=by
 obtain ⟨hb,fp,h1,h2,h3⟩:=h
 obtain ⟨fp',p,h1'⟩:=SatL.perm hp h1
 exact ⟨hb,fp',h1',p.nodup_iff.1 h2,fun b hb'=>h3 b (p.mem_iff.2 hb')⟩
theorem Sat.tail {w0 w:World} {A:Asn} {Γ:List Asn} (h:Sat w0 w (A :: Γ)):Sat w0 w Γ:=by
 obtain ⟨hb,_,⟨f1,f2,rfl,_,h2⟩,hn,h3⟩:=h
 exact ⟨hb,f2,h2,(List.nodup_append.1 hn).2.1,fun b hb'=>h3 b (List.mem_append_right _ hb')⟩
theorem Sat.head {w0 w:World} {A:Asn} {Γ:List Asn} (h:Sat w0 w (A :: Γ)):∃ fp,A.holds w fp∧fp.Nodup∧∀ b∈fp,w0.heap.size≤b:=by
 obtain ⟨_,_,⟨f1,f2,rfl,h1,_⟩,hn,h3⟩:=h
 exact ⟨f1,h1,(List.nodup_append.1 hn).1,fun b hb'=>h3 b (List.mem_append_left _ hb')⟩
theorem Sat.take {w0 w:World} {Γ:List Asn} (h:Sat w0 w Γ) (Δ Θ:List Asn) (hp:Γ.Perm (Δ++Θ)):Sat w0 w Δ:=by
 have h':=h.perm (hp.trans List.perm_append_comm)
 clear h hp
 induction Θ with
 | nil=>simpa using h'
 | cons A Θ ih=>exact ih h'.tail
theorem Sat.upd {w0 w w':World} {A B:Asn} {Γ:List Asn} (h:Sat w0 w (A :: Γ))
  (k:∀ fp,A.holds w fp→fp.Nodup→∃ fp',B.holds w' fp'∧fp'.Nodup∧Chg fp w w'∧∀ b∈fp',b∈fp∨w.heap.size≤b):Sat w0 w' (B :: Γ):=by
 obtain ⟨hb,_,⟨f1,f2,rfl,h1,h2⟩,hn,h3⟩:=h
 obtain ⟨n1,n2,n3⟩:=List.nodup_append.1 hn
 obtain ⟨f1',k1,k2,k3,k4⟩:=k f1 h1 n1
 refine ⟨below_chg hb hb.size k3 (fun x hx=>h3 x (List.mem_append_left _ hx)),f1'++f2,⟨f1',f2,rfl,k1,h2.ext (fun b hb'=>k3.block b (h2.lt b hb') (fun hm=>n3 b hm b hb' rfl))⟩,?_,?_⟩
 ·rw [List.nodup_append]
  refine ⟨k2,n2,fun a ha b hb' e=>?_⟩
  subst e
  rcases k4 a ha with h | h
  ·exact n3 a h a hb' rfl
  ·have:=h2.lt a hb';omega
 ·intro b hb'
  rcases List.mem_append.1 hb' with h | h
  ·rcases k4 b h with h | h
   ·exact h3 b (List.mem_append_left _ h)
   ·have:=hb.size;omega
  ·exact h3 b (List.mem_append_right _ h)
theorem Sat.join {w0 w:World} {A B C:Asn} {Γ:List Asn} (h:Sat w0 w (A :: B :: Γ)) (k:∀ f g,A.holds w f→B.holds w g→C.holds w (f++g)):Sat w0 w (C :: Γ):=by
 obtain ⟨hb,_,⟨f1,_,rfl,h1,f2,f3,rfl,h2,h4⟩,hn,h3⟩:=h
 exact ⟨hb,(f1++f2)++f3,⟨f1++f2,f3,rfl,k _ _ h1 h2,h4⟩,by simpa using hn,by simpa using h3⟩
theorem Sat.conv {w0 w:World} {A B:Asn} {Γ:List Asn} (h:Sat w0 w (A :: Γ)) (k:∀ f,A.holds w f→B.holds w f):Sat w0 w (B :: Γ):=by
 obtain ⟨hb,_,⟨f1,f2,rfl,h1,h2⟩,hn,h3⟩:=h
 exact ⟨hb,_,⟨f1,f2,rfl,k _ h1,h2⟩,hn,h3⟩
theorem Sat.add {w0 w:World} {A:Asn} {Γ:List Asn} (h:Sat w0 w Γ) (k:A.holds w []):Sat w0 w (A :: Γ):=by
 obtain ⟨hb,fp,h1,h2,h3⟩:=h
 exact ⟨hb,fp,⟨[],fp,rfl,k,h1⟩,h2,h3⟩
theorem Sat.box {w0 w:World} {Γ:List Asn} (h:Sat w0 w Γ) (E:TypeId) (cs:List Value):Sat w0 (w.alloc (.cells cs.toArray E)) (Box w.heap.size E cs :: Γ):=by
 have k:Sat w (w.alloc (.cells cs.toArray E)) [Box w.heap.size E cs] :=
  ⟨(Below.refl _ _).alloc (Nat.le_refl _) _,[w.heap.size],⟨[w.heap.size],[],by simp,⟨rfl,heap_alloc_new w _⟩,rfl⟩,by simp,by simp⟩
 simpa using h.call k
theorem ext_alloc (w:World) (o:Obj):Ext w (w.alloc o):=(Below.refl _ _).alloc (Nat.le_refl _) _
theorem Sat.rd {α:Type} {R:Rep α} {w0 w:World} {cs:List Value} {x:α} {Γ:List Asn} (h:Sat w0 w (Own R cs x :: Γ)):R.rd w cs x:=by
 obtain ⟨fp,h,_⟩:=h.head
 exact R.own_rd h

class AtBox (Γ:List Asn) (b:Nat) (E:outParam TypeId) (cs:outParam (List Value)) (rest:outParam (List Asn)):Prop where
 perm:Γ.Perm (Box b E cs :: rest)
instance (Γ:List Asn) (b:Nat) (E:TypeId) (cs:List Value):AtBox (Box b E cs :: Γ) b E cs Γ:=⟨.refl _⟩
instance (A:Asn) (Γ:List Asn) (b:Nat) (E:TypeId) (cs:List Value) (rest:List Asn) [h:AtBox Γ b E cs rest]:AtBox (A :: Γ) b E cs (A :: rest) :=
 ⟨(List.Perm.cons A h.perm).trans (.swap _ _ _)⟩
class AtOwn (Γ:List Asn) (v:Value) (α:outParam Type) (R:outParam (Rep α)) (x:outParam α) (rest:outParam (List Asn)):Prop where
 perm:Γ.Perm (Own R [v] x :: rest)
instance {α:Type} (Γ:List Asn) (v:Value) (R:Rep α) (x:α):AtOwn (Own R [v] x :: Γ) v α R x Γ:=⟨.refl _⟩
instance {α:Type} (A:Asn) (Γ:List Asn) (v:Value) (R:Rep α) (x:α) (rest:List Asn) [h:AtOwn Γ v α R x rest]:AtOwn (A :: Γ) v α R x (A :: rest) :=
 ⟨(List.Perm.cons A h.perm).trans (.swap _ _ _)⟩
theorem Sat.own {α:Type} {R:Rep α} {w0 w:World} {v:Value} {x:α} {Γ rest:List Asn} (h:Sat w0 w Γ) [k:AtOwn Γ v α R x rest]:Sat w0 w (Own R [v] x :: rest):=h.perm k.perm
theorem Sat.read {α:Type} {R:Rep α} {w0 w:World} {v:Value} {x:α} {Γ rest:List Asn} (h:Sat w0 w Γ) [AtOwn Γ v α R x rest]:R.rd w [v] x:=h.own.rd

theorem Sat.keep {w0 w:World} {Γ:List Asn} (n:Nat) (h:Sat w0 w Γ):Sat w0 w (Γ.take n):=h.take (Γ.take n) (Γ.drop n) (by rw [List.take_append_drop])
theorem int_cell {w:World} {c:Value} {n:Int} (h:intR.rd w [c] n):c=.int .i64 n:=by simpa [intR] using h
theorem pair_cells {α β:Type} {R:Rep α} {S:Rep β} {w:World} {cs:List Value} {x:α × β} (h:(pairR R S).rd w cs x):R.rd w (cs.take R.sz) x.1∧S.rd w (cs.drop R.sz) x.2:=by
 obtain ⟨c1,c2,rfl,h1,h2⟩:=h
 have hl:=R.rd_len h1
 rw [← hl,List.take_left' rfl,List.drop_left' rfl]
 exact ⟨h1,h2⟩

class PlainT (P:Program) (t:TypeId):Prop where
 h:∃ d,P.underlying t=some d∧(match d with | .struct _ | .array _ _=>False | _=>True)
class AggT (P:Program) (t:TypeId) (n:outParam Nat):Prop where
 h:∃ d,P.underlying t=some d∧(match d with | .struct _ | .array _ _=>True | _=>False)
 size:(P.info? t).map (·.size)=some n
class SliceT (P:Program) (t:TypeId) (e:outParam TypeId):Prop where
 h:P.underlying t=some (.slice e)
class ElemT (P:Program) (t:TypeId) (z:outParam (List Value)) (n bytes:outParam Nat):Prop where
 h:(P.info? t).map (fun i=>(i.zero.map fun v=>v.cells.toList,i.size,i.bytes))=some (some z,n,bytes)

section laws
variable {P:Program} {ops:Array Oper} {rest:List Oper} {o:Oper} {a:Act} {Q:Exit→Act→World→Prop} {w w0:World} {Γ rΓ:List Asn}

theorem wpl_box (hg:o.guard=none) {t:TypeId} {x:Operand} (ho:o.op=.box t x) (cs:List Value) (hx:(a.eval x).cells=cs.toArray) (hS:Sat w0 w Γ)
  (hK:∀ w' b,Sat w0 w' (Box b t cs :: Γ)→Ext w w'→wpList P ops Q rest (a.put o.dst (.pointer (some ⟨b,0,none⟩))) w'):wpList P ops Q (o :: rest) a w:=by
 refine wpList_plain hg fun K hK'=>?_
 unfold Oper.wp execOp
 simp only [ho,Instr.box,newVar,newRow,hx,Sem.run_bind,Sem.run_pure,run_newObj,Result.andThen_ok,Oper.upon_value]
 exact hK' _ _ (hK _ _ (hS.box t cs) (ext_alloc _ _))

theorem wpl_alloc (hg:o.guard=none) {t:TypeId} (ho:o.op=.alloc t) {cs:List Value} {n bytes:Nat} [hz:ElemT P t cs n bytes] (hS:Sat w0 w Γ)
  (hK:∀ w' b,Sat w0 w' (Box b t cs :: Γ)→Ext w w'→wpList P ops Q rest (a.put o.dst (.pointer (some ⟨b,0,none⟩))) w'):wpList P ops Q (o :: rest) a w:=by
 refine wpList_plain hg fun K hK'=>?_
 have hz:=hz.h
 cases hi:P.info? t with
 | none=>simp [hi] at hz
 | some i =>
  cases hzz:i.zero with
  | none=>simp [hi,hzz] at hz
  | some z =>
   simp [hi,hzz] at hz
   have hzc:z.cells=cs.toArray:=by rw [← hz.1]
   unfold Oper.wp execOp
   simp only [ho,Instr.alloc,zeroValue,typeInfo,hi,hzz,newVar,newRow,hzc,Sem.run_bind,Sem.run_pure,run_newObj,run_program,Result.andThen_ok,Oper.upon_value]
   exact hK' _ _ (hK _ _ (hS.box t cs) (ext_alloc _ _))

theorem run_loadVar_plain {t:TypeId} [hT:PlainT P t] {ad:Addr} {c:Value} (hc:w.cell? ad=some c):(loadVar t ad).run P w=.ok c w:=by
 obtain ⟨d,hd,hk⟩:=hT.h
 have hagg:(isAgg t).run P w=.ok false w:=by
  unfold isAgg
  rw [Sem.run_bind,run_underlying hd w]
  cases d <;> simp_all
 simp [loadVar,Sem.run_bind,hagg,hc]

theorem run_loadVar_agg {t:TypeId} {n:Nat} [hT:AggT P t n] {b off:Nat} {cs:List Value} (hn:cs.length=n) (hc:∀ j c,cs[j]? = some c→w.cell? ⟨b,off+j,none⟩=some c) :
  (loadVar t ⟨b,off,none⟩).run P w=.ok (.agg cs.toArray) w:=by
 obtain ⟨d,hd,hk⟩:=hT.h
 have hagg:(isAgg t).run P w=.ok true w:=by
  unfold isAgg
  rw [Sem.run_bind,run_underlying hd w]
  cases d <;> simp_all
 have hs:=hT.size
 cases hi:P.info? t with
 | none=>simp [hi] at hs
 | some i =>
  simp [hi] at hs
  have hl:=run_loadCells_list (P:=P) w ⟨b,off,none⟩ cs (fun j c hj=>by rw [Addr.add_lit];exact hc j c hj)
  rw [hn,← hs] at hl
  simp [loadVar,Sem.run_bind,hagg,sizeOf,typeInfo,hi,hl]

theorem Sat.boxCell {b:Nat} {E:TypeId} {cs:List Value} (hS:Sat w0 w Γ) [k:AtBox Γ b E cs rΓ]:∀ j c,cs[j]? = some c→w.cell? ⟨b,j,none⟩=some c:=by
 obtain ⟨fp,⟨_,hh⟩,_⟩:=(hS.perm k.perm).head
 intro j c hj
 rw [cell_of_row w b j _ E (0,0) hh]
 simpa using hj

theorem run_storeCells_box {b:Nat} {E:TypeId}:∀ (vs:List Value) (off i:Nat) (cur:List Value) (w:World),w.heap[b]? = some (.cells cur.toArray E (0,0))→off+i+vs.length≤cur.length→(∀ v∈vs,v.oneCell'=true) →
  ∃ w',(storeCells ⟨b,off,none⟩ vs i).run P w=.ok () w'∧w'.heap[b]? = some (.cells (cur.take (off+i)++vs++cur.drop (off+i+vs.length)).toArray E (0,0))∧Chg [b] w w'
 | [],off,i,cur,w,hb,_,_=>by
  refine ⟨w,rfl,?_,Chg.refl _ _⟩
  rw [hb];simp
 | v :: vs,off,i,cur,w,hb,hl,h1=>by
  simp only [List.length_cons] at hl
  have hi:off+i<cur.length:=by omega
  have hcell:w.cell? ⟨b,off+i,none⟩=some cur[off+i]:=by rw [cell_of_row w b _ _ E (0,0) hb];simp [hi]
  have hfro:w.frozen? ⟨b,off+i,none⟩=false:=frozen_of_row w b _ _ E hb
  have hst:(store ((⟨b,off,none⟩:Addr).add i) v).run P w=.ok () (w.setCell ⟨b,off+i,none⟩ v):=by
   rw [Addr.add_lit,run_store P w _ v _ (h1 v (by simp)),hcell]
   simp [hfro]
  have hb':(w.setCell ⟨b,off+i,none⟩ v).heap[b]? = some (.cells ((cur.set (off+i) v).toArray) E (0,0)):=by
   rw [heap_setCell_same w b (off+i) _ E v hb];simp
  obtain ⟨w',h2,h3,h4⟩:=run_storeCells_box vs off (i+1) (cur.set (off+i) v) _ hb' (by simp;omega) (fun x hx=>h1 x (by simp [hx]))
  refine ⟨w',?_,?_,?_⟩
  ·simp only [storeCells,Sem.run_bind,hst,Result.andThen_ok];exact h2
  ·rw [h3]
   congr 3
   have e1:(cur.set (off+i) v).take (off+(i+1))=cur.take (off+i)++[v]:=by
    rw [show off+(i+1)=(off+i)+1 by omega,List.take_set,List.take_succ_eq_append_getElem hi,List.set_append_right _ _ (by simp;omega)]
    simp [show min (off+i) cur.length=off+i by omega]
   have e2:(cur.set (off+i) v).drop (off+(i+1)+vs.length)=cur.drop (off+i+(v :: vs).length):=by
    rw [List.drop_set_of_lt (by omega)]
    congr 1
    simp only [List.length_cons];omega
   rw [e1,e2];simp
  ·exact Chg.trans (show Chg [b] w (w.setCell ⟨b,off+i,none⟩ v) from ⟨rfl,rfl,rfl,by simp,fun k _ hk=>Below.heap_setCell _ _ _ _ (by simpa using hk)⟩) h4

theorem wpl_storev {t:TypeId} {x y:Operand} (hg:o.guard=none) (ho:o.op=.store t x y) {z:List Value} {n bytes:Nat} [hz:ElemT P t z n bytes] (hS:Sat w0 w Γ) {b j:Nat} (hx:a.eval x=.pointer (some ⟨b,j,none⟩))
  {E:TypeId} {cs:List Value} [k:AtBox Γ b E cs rΓ] (vs:List Value) (hy:(a.eval y).cells=vs.toArray) (hn:vs.length=n) (hl:j+n≤cs.length) (h1:vs.all (·.oneCell')=true)
  (hK:∀ w',Sat w0 w' (Box b E (cs.take j++vs++cs.drop (j+n)) :: rΓ)→wpList P ops Q rest (a.put o.dst undef) w'):wpList P ops Q (o :: rest) a w:=by
 refine wpList_plain hg fun K hK'=>?_
 have hz:=hz.h
 cases hi:P.info? t with
 | none=>simp [hi] at hz
 | some i =>
  simp [hi] at hz
  obtain ⟨fp,⟨_,hh⟩,_⟩:=(hS.perm k.perm).head
  obtain ⟨w',hr,hh',hc⟩:=run_storeCells_box (P:=P) vs j 0 cs w hh (by omega) (by simpa using h1)
  have hsz:¬ (vs.toArray.size≠i.size):=by simp;omega
  unfold Oper.wp execOp
  simp only [ho,hx,Instr.storeAt,Instr.sureAddr,storeVar,sizeOf,typeInfo,hi,hy,Sem.run_bind,Sem.run_pure,run_program,Result.andThen_ok,hsz,if_false,Sem.run_ite,List.toList_toArray,hr,Oper.upon_skip]
  refine hK' _ _ (hK w' ?_)
  refine Sat.upd (hS.perm k.perm) fun fp hfp hnd=>?_
  obtain ⟨rfl,_⟩:=hfp
  refine ⟨[b],⟨rfl,?_⟩,by simp,hc,fun x hx=>.inl hx⟩
  rw [hh']
  simp [hn]
theorem cells_one {v:Value} (h:v.oneCell'=true):v.cells=[v].toArray:=by cases v <;> first | rfl | simp [Value.oneCell'] at h
end laws

section laws2
variable {P:Program} {ops:Array Oper} {rest:List Oper} {o:Oper} {a:Act} {Q:Exit→Act→World→Prop} {w w0 wA:World} {Γ rΓ:List Asn} {α:Type} {R:Rep α} {E:TypeId}

theorem sliceR_shape {w:World} {v:Value} {xs:List α} (h:(sliceR R E).rd w [v] xs):∃ ao cap,v=.slice ao xs.length cap:=by
 obtain ⟨ao,cap,ccs,hv,_⟩:=h
 exact ⟨ao,cap,by simpa using hv⟩

def OwnL (R:Rep α) (ccs:List Value) (ys:List α):Asn:=⟨fun w fp=>ownL R w ccs ys fp,fun h he=>ownL_ext h he,fun h=>ownL_lt h⟩
def Both (A B:Asn):Asn where
 holds w fp:=∃ f g,fp=f++g∧A.holds w f∧B.holds w g
 ext h he:=by
  obtain ⟨f,g,rfl,h1,h2⟩:=h
  exact ⟨f,g,rfl,A.ext h1 (fun b hb=>he b (List.mem_append_left _ hb)),B.ext h2 (fun b hb=>he b (List.mem_append_right _ hb))⟩
 lt h:=by
  obtain ⟨f,g,rfl,h1,h2⟩:=h
  intro b hb
  rcases List.mem_append.1 hb with h | h
  ·exact A.lt h1 b h
  ·exact B.lt h2 b h

theorem zeroCells_size (z:Value) (k:Nat):(Builtin.zeroCells z.cells k).size=k*z.cells.size:=size_zeroCells _ _

theorem own_new {w:World} {cur:Array Value} {xs:List α} {ccs:List Value} {f:List Nat} {cap:Nat} (h:ownL R w ccs xs f) (hcap:xs.length≤cap) (hm:cap≤maxLen) (hs:cur.size=cap*R.sz)
  (ht:cur.toList.take ccs.length=ccs):(sliceR R E).own (w.drew.alloc (.cells cur E)) [.slice (some ⟨w.heap.size,0,none⟩) xs.length cap] xs (w.heap.size :: f):=by
 refine .inr ⟨w.heap.size,cap,cur,ccs,f,rfl,heap_alloc_new w.drew _,hcap,hm,hs,by rw [← rdL_len (ownL_rdL h)];exact ht,ownL_ext h (fun b hb=>?_),rfl⟩
 exact Below.heap_alloc w.drew _ b (ownL_lt h b hb)

theorem run_append_sp {t ty:TypeId} [ht:SliceT P t E] {z:List Value} {n bytes:Nat} [hz:ElemT P E z n bytes] (hn:R.sz=n) (hpos:0<n) (hzl:z.length=n) (hb0:0<bytes)
  {v:Value} {xs:List α} {f:List Nat} (hv:(sliceR R E).own w [v] xs f) {ccs:List Value} {ys:List α} {fy:List Nat} (hy:ownL R w ccs ys fy) (hnd:(fy++f).Nodup)
  {ao:Option Addr} {c:Nat} (hnone:ao=none→c=0) (hrow:rowAt w ao ccs) (hby:(xs.length+ys.length)*bytes≤140737488355328) :
  ∃ v' w' f',(Builtin.append_ #[t,t] ty #[v,.slice ao ys.length c]).run P w=.ok v' w'∧(sliceR R E).own w' [v'] (xs++ys) f'∧f'.Nodup∧Chg (fy++f) w w'∧∀ b∈f',b∈fy++f∨w.heap.size≤b:=by
 have hz:=hz.h
 have hmax:xs.length+ys.length≤140737488355328:=Nat.le_trans (Nat.le_mul_of_pos_right _ hb0) hby
 have hyl:ccs.length=ys.length*R.sz:=rdL_len (ownL_rdL hy)
 have hy1:∀ u∈ccs,u.oneCell'=true:=rdL_one (ownL_rdL hy)
 cases hi:P.info? E with
 | none=>simp [hi] at hz
 | some i =>
 cases hzz:i.zero with
 | none=>simp [hi,hzz] at hz
 | some zv =>
 simp [hi,hzz] at hz
 obtain ⟨hz1,hz2,hz3⟩:=hz
 have hzs:zv.cells.size=R.sz:=by rw [← Array.length_toList,hz1,hzl,hn]
 have hsz:i.size=R.sz:=by omega
 have hdrew:Chg (fy++f) w w.drew:=⟨rfl,rfl,rfl,Nat.le_refl _,fun _ _ _=>rfl⟩
 have hgrow:∀ cur:Array Value,Chg (fy++f) w (w.drew.alloc (.cells cur E)):=fun cur=>hdrew.trans ((Chg.alloc w.drew _).mono (by simp))
 have hlt:∀ b∈fy++f,b<w.heap.size:=fun b hb=>by
  rcases List.mem_append.1 hb with h | h
  ·exact ownL_lt hy b h
  ·exact (sliceR R E).own_lt hv b h
 obtain ⟨nd1,nd2,nd3⟩:=List.nodup_append.1 hnd
 -- nothing is appended
 by_cases hy0:ys=[]
 ·subst hy0
  have hccs:ccs=[]:=by simp only [ownL] at hy;exact hy.1
  have hfy:fy=[]:=by simp only [ownL] at hy;exact hy.2
  subst hccs;subst hfy
  refine ⟨v,w,f,?_,by simpa using hv,by simpa using hnd,Chg.refl _ _,fun b hb=>.inl (by simpa using hb)⟩
  rcases hv with ⟨hv,rfl,rfl⟩ | ⟨g,cap,cur,cs,f2,hv,hg,h1,h2,h3,h4,h5,rfl⟩
  ·obtain rfl:v=.slice none 0 0:=by simpa using hv
   cases ao <;> simp [Builtin.append_,run_underlying ht.h,sizeOf,typeInfo,hi,Builtin.lenOf,Builtin.firstCells,loadCells,loadCellsFrom]
  ·obtain rfl:v=.slice (some ⟨g,0,none⟩) xs.length cap:=by simpa using hv
   cases ao <;> simp [Builtin.append_,run_underlying ht.h,sizeOf,typeInfo,hi,Builtin.lenOf,Builtin.firstCells,loadCells,loadCellsFrom,h1,storeCells]
 have hyp:0<ys.length:=List.length_pos_iff.2 hy0
 obtain ⟨b,off,rfl,hcell⟩:∃ b off,ao=some ⟨b,off,none⟩∧∀ j c,ccs[j]? = some c→w.cell? ⟨b,off+j,none⟩=some c:=by
  rcases hrow with rfl | h
  ·exfalso
   have:0<ys.length*R.sz:=Nat.mul_pos hyp (by omega)
   simp at hyl;omega
  ·exact h
 have hnews:∀ j u,ccs[j]? = some u→w.cell? ((⟨b,off,none⟩:Addr).add j)=some u:=fun j u hj=>by rw [Addr.add_lit];exact hcell j u hj
 rcases hv with ⟨hv,rfl,rfl⟩ | ⟨g,cap,cur,cs,f2,hv,hg,h1,h2,h3,h4,h5,rfl⟩
 ·obtain rfl:v=.slice none 0 0:=by simpa using hv
  simp only [List.length_nil,Nat.zero_add] at hby hmax
  have hr:=run_append_nil (P:=P) w t ty E i zv ht.h hi hzz ⟨b,off,none⟩ ys.length c ccs (by rw [hyl,hsz]) hnews hyp (by omega) (by rw [hz3];omega)
  refine ⟨_,_,w.heap.size :: fy,hr,?_,?_,hgrow _,?_⟩
  ·have hge:=grownCap_ge w ys.length 0 E
   rw [List.nil_append]
   refine own_new hy hge (grownCap_le_maxLen w ys.length 0 E (by unfold maxLen;omega)) ?_ ?_
   ·rw [Array.size_append,zeroCells_size,hzs,List.size_toArray,hyl,← Nat.add_mul]
    congr 1;omega
   ·rw [Array.toList_append,List.toList_toArray,List.take_left']
    rfl
  ·refine List.nodup_cons.2 ⟨fun hm=>?_,nd1⟩
   have:=hlt _ (List.mem_append_left _ hm);omega
  ·intro x hx
   rcases List.mem_cons.1 hx with rfl | hx
   ·exact .inr (Nat.le_refl _)
   ·exact .inl (List.mem_append_left _ hx)
 ·obtain rfl:v=.slice (some ⟨g,0,none⟩) xs.length cap:=by simpa using hv
  have hcl:cs.length=xs.length*R.sz:=rdL_len (ownL_rdL h5)
  have hfit:xs.length*R.sz≤cur.size:=by rw [h3];exact Nat.mul_le_mul_right _ h1
  obtain ⟨ng,nf2⟩:=List.nodup_cons.1 nd2
  by_cases hroom:xs.length+ys.length≤cap
  ·have hfit2:xs.length*i.size+ccs.length≤cur.size:=by rw [hsz,hyl,h3,← Nat.add_mul];exact Nat.mul_le_mul_right _ hroom
   have hr:=run_append_room (P:=P) w t ty E i ht.h hi g xs.length cap cur hg ⟨b,off,none⟩ ys.length c ccs (by rw [hyl,hsz]) hnews hy1 hroom hfit2
   have hoth:∀ k,k≠g→(w.setRow g (cur.toList.take (xs.length*i.size)++ccs++cur.toList.drop (xs.length*i.size+ccs.length)).toArray).heap[k]? = w.heap[k]?:=fun k hk=>setRow_other w g k _ hk
   refine ⟨_,_,g :: (f2++fy),hr,?_,?_,⟨rfl,rfl,rfl,by simp,fun k _ hk=>hoth k (fun e=>hk (by simp [e]))⟩,?_⟩
   ·rw [show xs.length+ys.length=(xs++ys).length by simp]
    refine .inr ⟨g,cap,_,cs++ccs,f2++fy,rfl,setRow_heap w g cur _ E _ hg,by simpa using hroom,h2,?_,?_,?_,rfl⟩
    ·simp only [List.size_toArray,List.length_append,List.length_take,List.length_drop,Array.length_toList]
     rw [hsz] at hfit2 ⊢
     omega
    ·rw [hsz,h4,List.length_append,Nat.add_mul,← hcl,← hyl,← List.length_append]
     exact List.take_left' rfl
    ·refine ownL_append (ownL_ext hy fun x hx=>hoth x fun e=>?_) (ownL_ext h5 fun x hx=>hoth x fun e=>?_)
     ·subst e;exact nd3 x hx x (by simp) rfl
     ·subst e;exact ng hx
   ·refine List.nodup_cons.2 ⟨fun hm=>?_,List.nodup_append.2 ⟨nf2,nd1,fun a ha b hb e=>nd3 b hb a (by simp [ha]) e.symm⟩⟩
    rcases List.mem_append.1 hm with h | h
    ·exact ng h
    ·exact nd3 g h g (by simp) rfl
   ·intro x hx
    refine .inl ?_
    simp only [List.mem_cons,List.mem_append] at hx ⊢
    rcases hx with h | h | h <;> simp [h]
  ·have hcells:∀ j u,cs[j]? = some u→w.cell? ((⟨g,0,none⟩:Addr).add j)=some u:=fun j u hj=>by
    rw [Addr.add_lit,Nat.zero_add,cell_of_row w g j cur E (0,0) hg,← Array.getElem?_toList]
    rw [← h4,List.getElem?_take] at hj
    split at hj
    ·exact hj
    ·cases hj
   have hr:=run_append_grow (P:=P) w t ty E i zv ht.h hi hzz ⟨g,0,none⟩ xs.length cap cs (by rw [hcl,hsz]) hcells ⟨b,off,none⟩ ys.length c ccs (by rw [hyl,hsz]) hnews (by omega) (by omega) (growslice_fits (by omega) (by rw [hz3];exact hby))
   refine ⟨_,_,w.heap.size :: (f2++fy),hr,?_,?_,hgrow _,?_⟩
   ·have hge:=grownCap_ge w (xs.length+ys.length) cap E
    rw [show (xs.length+ys.length:Nat)=(xs++ys).length by simp] at hge ⊢
    refine own_new (ownL_append hy h5) hge (grownCap_le_maxLen w _ cap E (by unfold maxLen;simp;omega)) ?_ ?_
    ·rw [Array.size_append,Array.size_append,zeroCells_size,hzs,List.size_toArray,List.size_toArray,hyl,hcl,← Nat.add_mul,← Nat.add_mul]
     congr 1;simp at hge ⊢;omega
    ·rw [Array.toList_append,Array.toList_append,List.toList_toArray,List.toList_toArray,List.take_left']
     rfl
   ·refine List.nodup_cons.2 ⟨fun hm=>?_,List.nodup_append.2 ⟨nf2,nd1,fun a ha b hb e=>nd3 b hb a (by simp [ha]) e.symm⟩⟩
    have:=hlt w.heap.size (by
     rcases List.mem_append.1 hm with h | h
     ·exact List.mem_append_right _ (by simp [h])
     ·exact List.mem_append_left _ h)
    omega
   ·intro x hx
    simp only [List.mem_cons,List.mem_append] at hx ⊢
    rcases hx with h | h | h
    ·exact .inr (by omega)
    ·exact .inl (by simp [h])
    ·exact .inl (by simp [h])

theorem wpl_append (hg:o.guard=none) {t:TypeId} {s x:Operand} (ho:o.op=.call { callee:=.builtin .append,args:=#[s,x],argTypes:=#[t,t] })
  [SliceT P t E] {z:List Value} {n bytes:Nat} [ElemT P E z n bytes] (hn:R.sz=n) (hpos:0<n) (hzl:z.length=n) (hb0:0<bytes)
  {v:Value} {xs:List α} {ccs:List Value} {ys:List α} (hS:Sat w0 w (OwnL R ccs ys :: Own (sliceR R E) [v] xs :: Γ)) (hs:a.eval s=v)
  {ao:Option Addr} {m c:Nat} (hx:a.eval x=.slice ao m c) (hm:m=ys.length) (hnone:ao=none→c=0) (hrow:rowAt w ao ccs) (hby:(xs.length+ys.length)*bytes≤140737488355328)
  (hK:∀ v' w',Sat w0 w' (Own (sliceR R E) [v'] (xs++ys) :: Γ)→wpList P ops Q rest (a.put o.dst v') w'):wpList P ops Q (o :: rest) a w:=by
 subst hm
 refine wpList_plain hg fun K hK'=>?_
 have hS':Sat w0 w (Both (OwnL R ccs ys) (Own (sliceR R E) [v] xs) :: Γ):=hS.join fun f g h1 h2=>⟨f,g,rfl,h1,h2⟩
 obtain ⟨fp,⟨fy,f,rfl,hy,hv⟩,hnd,_⟩:=hS'.head
 obtain ⟨v',w',f',hr,k1,k2,k3,k4⟩:=run_append_sp (P:=P) (t:=t) (ty:=o.type) hn hpos hzl hb0 hv hy hnd hnone hrow hby
 unfold Oper.wp execOp
 simp only [ho,resolve,invoke,builtin,Sem.run_bind,Sem.run_pure,Result.andThen_ok,List.map_toArray,List.map_cons,List.map_nil,hs,hx,hr,Oper.upon_value]
 refine hK' _ _ (hK v' w' ?_)
 have hex:∀ fp,(Both (OwnL R ccs ys) (Own (sliceR R E) [v] xs)).holds w fp→fp.Nodup→∃ fp',(Own (sliceR R E) [v'] (xs++ys)).holds w' fp'∧fp'.Nodup∧Chg fp w w'∧∀ b∈fp',b∈fp∨w.heap.size≤b:=by
  rintro _ ⟨gy,g,rfl,hy2,hv2⟩ hnd2
  obtain ⟨v2,w2,f2,hr2,l1,l2,l3,l4⟩:=run_append_sp (P:=P) (t:=t) (ty:=o.type) hn hpos hzl hb0 hv2 hy2 hnd2 hnone hrow hby
  rw [hr] at hr2
  obtain ⟨rfl,rfl⟩:v'=v2∧w'=w2:=by simpa using hr2
  exact ⟨f2,l1,l2,l3,l4⟩
 exact hS'.upd hex

theorem madeCells_rep (z:Array Value) (h:0<z.size):∀ k,(madeCells z (k*z.size)).toList=(List.replicate k z.toList).flatten
 | 0=>by simp [madeCells]
 | k+1=>by
  have ih:=madeCells_rep z h k
  rw [List.replicate_succ',List.flatten_append,← ih]
  unfold madeCells
  rw [Nat.add_mul,Nat.one_mul]
  simp only [Array.toList_map,Array.toList_range,List.range_add,List.map_append,List.map_map,List.flatten_cons,List.flatten_nil,List.append_nil]
  congr 1
  apply List.ext_getElem
  ·simp
  ·intro j h1 h2
   have hj:j<z.size:=by simpa using h1
   simp only [List.getElem_map,List.getElem_range,Function.comp]
   rw [Nat.mul_add_mod_self_right,Nat.mod_eq_of_lt hj]
   simp [hj]
theorem wpl_make (hg:o.guard=none) {t:TypeId} {l c:Operand} (ho:o.op=.makeSlice t l c) [ht:SliceT P t E] {z:List Value} {n bytes:Nat} [hz:ElemT P E z n bytes] (hn:R.sz=n) (hpos:0<n) (hzl:z.length=n)
  {x0:α} (hx0:∀ w,R.own w z x0 []) {L C:Int} (hl:a.eval l=.int .i64 L) (hc:a.eval c=.int .i64 C) (k:Nat) (hL:L=(k:Int)) (hC:C=(k:Int)) (hby:k*bytes≤281474976710656) (hk:k≤140737488355328) (hS:Sat w0 w Γ)
  (hK:∀ w' g,Sat w0 w' (Own (sliceR R E) [.slice (some ⟨g,0,none⟩) k k] (List.replicate k x0) :: Γ)→Ext w w'→wpList P ops Q rest (a.put o.dst (.slice (some ⟨g,0,none⟩) k k)) w'):wpList P ops Q (o :: rest) a w:=by
 refine wpList_plain hg fun K hK'=>?_
 have hz:=hz.h
 cases hi:P.info? E with
 | none=>simp [hi] at hz
 | some i =>
 cases hzz:i.zero with
 | none=>simp [hi,hzz] at hz
 | some zv =>
 simp [hi,hzz] at hz
 obtain ⟨hz1,hz2,hz3⟩:=hz
 subst hL;subst hC
 have hr:=run_make (P:=P) w t E i zv ht.h hi hzz .i64 .i64 k k (by omega) (by omega) (by rw [hz3];have:=hby;rw [Nat.mul_comm] at this;omega) (by omega)
 simp only [Int.toNat_natCast] at hr
 unfold Oper.wp execOp
 simp only [ho,hl,hc,Sem.run_bind,hr,Sem.run_pure,Result.andThen_ok,Oper.upon_value]
 have hzs:zv.cells.size=n:=by rw [← Array.length_toList,hz1,hzl]
 have hcur:(madeCells zv.cells (k*i.size)).toList=(List.replicate k z).flatten:=by
  rw [← hz1,hz2,← hzs]
  exact madeCells_rep _ (by omega) k
 refine hK' _ _ (hK _ _ ?_ (ext_alloc _ _))
 have hown:∀ k',ownL R (w.alloc (.cells (madeCells zv.cells (k*i.size)) E)) (List.replicate k' z).flatten (List.replicate k' x0) []:=by
  intro k'
  induction k' with
  | zero=>exact ⟨rfl,rfl⟩
  | succ k' ih=>exact ⟨z,_,[],[],by simp [List.replicate_succ],rfl,hx0 _,ih⟩
 have kk:Sat w (w.alloc (.cells (madeCells zv.cells (k*i.size)) E)) [Own (sliceR R E) [.slice (some ⟨w.heap.size,0,none⟩) k k] (List.replicate k x0)]:=by
  refine ⟨ext_alloc _ _,[w.heap.size],⟨[w.heap.size],[],rfl,.inr ⟨w.heap.size,k,_,_,[],by simp,heap_alloc_new w _,by simp,by unfold maxLen;omega,?_,rfl,?_,rfl⟩,rfl⟩,by simp,by simp⟩
  ·rw [← Array.length_toList,hcur];simp [hzl,hn]
  ·rw [hcur,List.take_of_length_le (by simp [hzl,hn])]
   exact hown k
 simpa using hS.call kk

theorem own_shape {v:Value} {xs:List α} {fp:List Nat} (h:(sliceR R E).own w [v] xs fp):(v=.slice none 0 0∧xs=[])∨∃ g cap,v=.slice (some ⟨g,0,none⟩) xs.length cap:=by
 rcases h with ⟨h,h2,_⟩ | ⟨g,cap,_,_,_,h,_⟩
 ·exact .inl ⟨by simpa using h,h2⟩
 ·exact .inr ⟨g,cap,by simpa using h⟩
theorem Sat.shape {v:Value} {xs:List α} (h:Sat w0 w (Own (sliceR R E) [v] xs :: Γ)):(v=.slice none 0 0∧xs=[])∨∃ g cap,v=.slice (some ⟨g,0,none⟩) xs.length cap:=by
 obtain ⟨fp,h,_⟩:=h.head
 exact own_shape h

theorem ownL_set {w:World}:∀ {xs:List α} {ccs:List Value} {fp:List Nat},ownL R w ccs xs fp→∀ (k:Nat) (_:k<xs.length) {ec:List Value} {y:α} {fy:List Nat},R.own w ec y fy →
  ∃ fl fk fr,fp=fl++fk++fr∧ownL R w (ccs.take (k*R.sz)++ec++ccs.drop (k*R.sz+R.sz)) (xs.set k y) (fl++fy++fr)
 | [],_,_,_,k,hk,_,_,_,_=>absurd hk (by simp)
 | x :: xs,_,_,h,0,_,ec,y,fy,hy=>by
  obtain ⟨e0,rest,f1,f2,rfl,rfl,h1,h2⟩:=h
  refine ⟨[],f1,f2,by simp,ec,rest,fy,f2,?_,by simp,hy,h2⟩
  have:=R.rd_len (R.own_rd h1)
  simp [← this]
 | x :: xs,_,_,h,k+1,hk,ec,y,fy,hy=>by
  obtain ⟨e0,rest,f1,f2,rfl,rfl,h1,h2⟩:=h
  obtain ⟨fl,fk,fr,rfl,h3⟩:=ownL_set h2 k (by simpa using hk) hy
  refine ⟨f1++fl,fk,fr,by simp,e0,_,f1,fl++fy++fr,?_,by simp,h1,h3⟩
  have hl:=R.rd_len (R.own_rd h1)
  have e:(k+1)*R.sz=e0.length+k*R.sz:=by rw [hl,Nat.add_mul];omega
  rw [e,List.take_append,List.take_of_length_le (by omega),Nat.add_sub_cancel_left,show e0.length+k*R.sz+R.sz=e0.length+(k*R.sz+R.sz) by omega,List.drop_append,List.drop_of_length_le (by omega),Nat.add_sub_cancel_left]
  simp

theorem splice_take (L ec:List Value) (p s N:Nat) (h1:p+s≤N) (h2:N≤L.length) (h3:ec.length=s):(L.take (p+0)++ec++L.drop (p+0+s)).take N=(L.take N).take p++ec++(L.take N).drop (p+s):=by
 rw [Nat.add_zero,List.take_append,List.take_of_length_le (by simp;omega),List.take_take,Nat.min_eq_left (by omega:p≤N),List.drop_take]
 congr 2
 simp;omega
theorem wpl_storeo {t:TypeId} {x y:Operand} (hg:o.guard=none) (ho:o.op=.store t x y) {z:List Value} {n bytes:Nat} [hz:ElemT P t z n bytes] (hn:R.sz=n) {ec:List Value} {yv:α} {xs:List α} {g m cap:Nat}
  (hS:Sat w0 w (Own R ec yv :: Own (sliceR R E) [.slice (some ⟨g,0,none⟩) m cap] xs :: Γ)) (k off:Nat) (hk:k<xs.length) (hoff:off=k*n) (hx:a.eval x=.pointer (some ⟨g,off,none⟩)) (hy:(a.eval y).cells=ec.toArray)
  (hK:∀ w',Sat w0 w' (Own (sliceR R E) [.slice (some ⟨g,0,none⟩) m cap] (xs.set k yv) :: Γ)→wpList P ops Q rest (a.put o.dst undef) w'):wpList P ops Q (o :: rest) a w:=by
 refine wpList_plain hg fun K hK'=>?_
 have hz:=hz.h
 cases hi:P.info? t with
 | none=>simp [hi] at hz
 | some i =>
  simp [hi] at hz
  have hS':Sat w0 w (Both (Own R ec yv) (Own (sliceR R E) [.slice (some ⟨g,0,none⟩) m cap] xs) :: Γ):=hS.join fun f g h1 h2=>⟨f,g,rfl,h1,h2⟩
  obtain ⟨fp,⟨fy,f,rfl,hyo,hv⟩,hnd,_⟩:=hS'.head
  have hel:ec.length=R.sz:=R.rd_len (R.own_rd hyo)
  obtain ⟨cur,hh,hcs⟩:∃ cur,w.heap[g]? = some (.cells cur E (0,0))∧xs.length*R.sz≤cur.size:=by
   rcases hv with ⟨h,_⟩ | ⟨g',cap',cur,ccs,f2,h,hg',h1,h2,h3,_⟩
   ·simp at h
   ·simp at h
    obtain ⟨rfl,_⟩:=h
    exact ⟨cur,hg',by rw [h3];exact Nat.mul_le_mul_right _ h1⟩
  have hkk:k*R.sz+R.sz≤xs.length*R.sz:=by have:=Nat.mul_le_mul_right R.sz hk;rw [Nat.succ_mul] at this;exact this
  have hh':w.heap[g]? = some (.cells cur.toList.toArray E (0,0)):=by simpa using hh
  obtain ⟨w',hr,hnew,hc⟩:=run_storeCells_box (P:=P) ec off 0 cur.toList w hh' (by rw [hoff,hel,← hn];simp;omega) (R.rd_one (R.own_rd hyo))
  have hsz:¬ (ec.toArray.size≠i.size):=by simp;omega
  unfold Oper.wp execOp
  simp only [ho,hx,Instr.storeAt,Instr.sureAddr,storeVar,sizeOf,typeInfo,hi,hy,Sem.run_bind,Sem.run_pure,run_program,Result.andThen_ok,hsz,if_false,Sem.run_ite,List.toList_toArray,hr,Oper.upon_skip]
  refine hK' _ _ (hK w' ?_)
  refine hS'.upd ?_
  rintro _ ⟨gy,gf,rfl,hy2,hv2⟩ hnd2
  rcases hv2 with ⟨h,_⟩ | ⟨g',cap',cur',ccs,f2,h,hg',h1,h2,h3,h4,h5,rfl⟩
  ·simp at h
  ·simp at h
   obtain ⟨rfl,rfl,rfl⟩:=h
   obtain ⟨rfl⟩:cur'=cur:=by rw [hh] at hg';simpa using hg'.symm
   obtain ⟨fl,fk,fr,rfl,h6⟩:=ownL_set h5 k hk hy2
   have hoth:∀ x,x≠g→x<w.heap.size→w'.heap[x]? = w.heap[x]?:=fun x hx hlt=>hc.block x hlt (by simpa using hx)
   have hnd3:(gy++g :: (fl++fk++fr)).Nodup:=hnd2
   simp only [List.nodup_append,List.nodup_cons,List.mem_append,List.mem_cons] at hnd3
   have hgn:g∉fl++gy++fr:=by
    simp only [List.mem_append,not_or]
    refine ⟨⟨fun hm=>hnd3.2.1.1 (.inl (.inl hm)),fun hm=>hnd3.2.2 g hm g (.inl rfl) rfl⟩,fun hm=>hnd3.2.1.1 (.inr hm)⟩
   refine ⟨g :: (fl++gy++fr),.inr ⟨g,cap,_,ccs.take (k*R.sz)++ec++ccs.drop (k*R.sz+R.sz),fl++gy++fr,by simp,hnew,by simpa using h1,h2,?_,?_,ownL_ext h6 (fun b hb=>hoth b (fun e=>hgn (e ▸ hb)) ?_),rfl⟩,?_,hc.mono (by simp),?_⟩
   ·simp only [List.size_toArray,List.length_append,List.length_take,List.length_drop,Array.length_toList]
    rw [hoff,← hn]
    omega
   ·have hcl:ccs.length=xs.length*R.sz:=rdL_len (ownL_rdL h5)
    rw [← h4,hoff,← hn,hel,List.length_set]
    exact splice_take _ _ _ _ _ hkk (by simpa using hcs) hel
   ·exact ownL_lt h6 b hb
   ·refine List.nodup_cons.2 ⟨hgn,?_⟩
    have hs:(gy++(fl++fr)).Nodup:=List.Nodup.sublist (List.Sublist.append (List.Sublist.refl gy) (List.Sublist.cons g (List.Sublist.append (List.sublist_append_left fl fk) (List.Sublist.refl fr)))) hnd2
    rw [← List.append_assoc] at hs
    exact (List.Perm.append_right fr List.perm_append_comm).nodup_iff.1 hs
   ·intro b hb
    refine .inl ?_
    simp only [List.mem_cons,List.mem_append] at hb ⊢
    rcases hb with h | (h | h) | h <;> simp [h]

theorem run_buildSlice1 {t e:TypeId} [ht:SliceT P t e] {z:List Value} {n bytes:Nat} [hz:ElemT P e z n bytes] {v:Value} {cs:List Value} (hcs:v.cells=cs.toArray) (hl:cs.length=n) (hpos:0<n) (hzl:z.length=n) (hn:n≤16) :
  (Instr.buildSlice t 1 #[(0,v)]).run P w=.ok (.slice (some ⟨w.heap.size,0,none⟩) 1 1) (w.alloc (.cells cs.toArray e)):=by
 have hz:=hz.h
 cases hi:P.info? e with
 | none=>simp [hi] at hz
 | some i =>
 cases hzz:i.zero with
 | none=>simp [hi,hzz] at hz
 | some zv =>
 simp [hi,hzz] at hz
 obtain ⟨hz1,hz2,hz3⟩:=hz
 have h24:¬ (n > 2 ^ 24):=by omega
 have hn0:¬ (n=0):=by omega
 have hfill:Instr.fill (fun i=>some (i*n,n)) ((Array.range n).map (zv.cells[· % zv.cells.size]!)) [(0,v)]=some cs.toArray:=by
  have hsz:((Array.range n).map (zv.cells[· % zv.cells.size]!)).size=n:=by simp
  have hfold:∀ (l:List Value) (pre:List Value) (A:Array Value),A.size=pre.length+l.length→A.toList.take pre.length=pre →
    ((l.zipIdx pre.length).foldl (fun A (c:Value × Nat)=>A.setIfInBounds c.2 c.1) A).toList=pre++l:=by
   intro l
   induction l with
   | nil=>intro pre A h1 h2;simp;rw [← h2,List.take_of_length_le (by simp at h1 ⊢;omega)]
   | cons x l ih =>
    intro pre A h1 h2
    simp only [List.zipIdx_cons,List.foldl_cons]
    have:=ih (pre++[x]) (A.setIfInBounds pre.length x) (by simp at h1 ⊢;omega) (by
     simp only [Array.toList_setIfInBounds,List.length_append,List.length_singleton]
     rw [List.take_set,List.take_succ_eq_append_getElem (by simp at h1 ⊢;omega),h2,List.set_append_right _ _ (Nat.le_refl _)]
     simp)
    simpa using this
  have h0:=hfold cs [] ((Array.range n).map (zv.cells[· % zv.cells.size]!)) (by simp [hl]) (by simp)
  simp only [Instr.fill,hcs,List.size_toArray,hl,hsz,Nat.zero_mul,Nat.zero_add,ne_eq,not_true_eq_false,decide_false,Bool.false_or,gt_iff_lt,Nat.lt_irrefl,Bool.false_eq_true,if_false]
  congr 1
  apply Array.ext'
  simpa using h0
 simp [Instr.buildSlice,run_underlying ht.h,sizeOf,typeInfo,hi,hz2,h24,hn0,zeroValue,hzz,hfill,newRow]

theorem wpl_buildSlice1 (hg:o.guard=none) {t e:TypeId} {x:Operand} (ho:o.op=.buildSlice t 1 #[(0,x)]) [SliceT P t e] {z:List Value} {n bytes:Nat} [ElemT P e z n bytes] {cs:List Value} (hcs:(a.eval x).cells=cs.toArray) (hl:cs.length=n) (hpos:0<n) (hzl:z.length=n) (hn:n≤16)
  (hS:Sat w0 w Γ) (hK:∀ w' b,Sat w0 w' (Box b e cs :: Γ)→Ext w w'→wpList P ops Q rest (a.put o.dst (.slice (some ⟨b,0,none⟩) 1 1)) w'):wpList P ops Q (o :: rest) a w:=by
 refine wpList_plain hg fun K hK'=>?_
 have hr:=run_buildSlice1 (P:=P) (w:=w) (t:=t) (e:=e) hcs hl hpos hzl hn
 unfold Oper.wp execOp
 simp only [ho,List.map_toArray,List.map_cons,List.map_nil,hr,Sem.run_bind,Sem.run_pure,Result.andThen_ok,Oper.upon_value]
 exact hK' _ _ (hK _ _ (hS.box e cs) (ext_alloc _ _))

theorem wpl_buildSlice0 (R:Rep α) (hg:o.guard=none) {t:TypeId} (ho:o.op=.buildSlice t 0 #[]) [ht:SliceT P t E] {z:List Value} {n bytes:Nat} [hz:ElemT P E z n bytes]
  (hS:Sat w0 w Γ) (hK:∀ w' b,Sat w0 w' (Own (sliceR R E) [.slice (some ⟨b,0,none⟩) 0 0] [] :: Γ)→Ext w w'→wpList P ops Q rest (a.put o.dst (.slice (some ⟨b,0,none⟩) 0 0)) w'):wpList P ops Q (o :: rest) a w:=by
 refine wpList_plain hg fun K hK'=>?_
 have hz:=hz.h
 cases hi:P.info? E with
 | none=>simp [hi] at hz
 | some i =>
 have hr:(Instr.buildSlice t 0 #[]).run P w=.ok (.slice (some ⟨w.heap.size,0,none⟩) 0 0) (w.alloc (.cells #[] E)):=by
  simp [Instr.buildSlice,run_underlying ht.h,sizeOf,typeInfo,hi,Instr.fill,newRow,Array.range_zero']
 unfold Oper.wp execOp
 simp only [ho,List.map_toArray,List.map_nil,hr,Sem.run_bind,Sem.run_pure,Result.andThen_ok,Oper.upon_value]
 have hB:=hS.box E []
 refine hK' _ _ (hK _ _ (hB.conv (B:=Own (sliceR R E) [.slice (some ⟨w.heap.size,0,none⟩) 0 0] []) fun f hf=>?_) (ext_alloc _ _))
 obtain ⟨rfl,hf⟩:=hf
 exact .inr ⟨w.heap.size,0,#[],[],[],rfl,hf,Nat.le_refl _,Nat.zero_le _,by simp,by simp,⟨rfl,rfl⟩,rfl⟩

theorem Sat.one {ec:List Value} {y:α} (h:Sat w0 w (Own R ec y :: Γ)):Sat w0 w (OwnL R ec [y] :: Γ) :=
 h.conv fun f hf=>⟨ec,[],f,[],by simp,by simp,hf,rfl,rfl⟩
theorem Sat.str (h:Sat w0 w Γ) (s:ByteArray) (hs:s.size≤9223372036854775807):Sat w0 w (Own strR [.string s] s :: Γ):=h.add ⟨⟨rfl,hs⟩,rfl⟩
theorem Sat.int (h:Sat w0 w Γ) (n:Int):Sat w0 w (Own intR [.int .i64 n] n :: Γ):=h.add ⟨rfl,rfl⟩
theorem Sat.pair {α β:Type} {R:Rep α} {S:Rep β} {c d:List Value} {x:α} {y:β} (h:Sat w0 w (Own R c x :: Own S d y :: Γ)):Sat w0 w (Own (pairR R S) (c++d) (x,y) :: Γ) :=
 h.join fun f g h1 h2=>⟨c,d,f,g,rfl,rfl,h1,h2⟩
theorem Sat.ints {xs:List Int} (h:Sat w0 w Γ):Sat w0 w (OwnL intR (xs.map (Value.int .i64)) xs :: Γ):=by
 refine h.add ?_
 induction xs with
 | nil=>exact ⟨rfl,rfl⟩
 | cons x xs ih=>exact ⟨[.int .i64 x],_,[],[],rfl,rfl,⟨rfl,rfl⟩,ih⟩
end laws2
end Go.Proofs.Ytkpeabpdiffjhaa
namespace Go.Proofs.Ytkpeabpdiffjhaa
open Go.RowKit

abbrev Env:=Nat→Value
def upd (e:Env) (d:Nat) (v:Value):Env:=fun t=>bif Nat.beq t d then v else e t
def ev (e:Env):Operand→Value
 | .tmp t=>e t
 | .const v=>v
 | .global g=>.pointer (some ⟨g,0,none⟩)
 | .func f=>.func (.func f) #[] #[]
theorem beq_ne {a b:Nat} (h:¬ a=b):Nat.beq a b=false:=by
 cases hb:Nat.beq a b
 ·rfl
 ·exact absurd (Nat.eq_of_beq_eq_true hb) h
structure Mt (n:Nat) (e:Env) (a:Act):Prop where
 size:a.tmps.size=n
 defers:a.defers=[]
 get:∀ t,a.tmps.getD t undef=e t
theorem Mt.eval {n:Nat} {e:Env} {a:Act} (h:Mt n e a):a.eval=ev e:=by
 funext x
 cases x <;> simp only [Act.eval,ev]
 exact h.get _
theorem Mt.put {n:Nat} {e:Env} {a:Act} (h:Mt n e a) {d:Nat} (hd:d<n) (v:Value):Mt n (upd e d v) (a.put (some d) v):=by
 refine ⟨by simp [Act.put,h.size],by simpa [Act.put] using h.defers,fun t=>?_⟩
 have hg:=h.get t
 have hs:=h.size
 simp only [Act.put,upd]
 by_cases ht:t=d
 ·subst ht
  simp [Array.getD,hs,hd]
 ·have:Nat.beq t d=false:=beq_ne ht
  rw [this]
  simp only [cond_false,← hg,Array.getD,Array.size_setIfInBounds]
  split
  ·rename_i hlt
   have:=Array.getElem_setIfInBounds (xs:=a.tmps) (i:=d) (a:=v) (j:=t) (by simpa using hlt)
   rw [if_neg (fun e=>ht e.symm)] at this
   exact this
  ·rfl
theorem upd_self {e:Env} {d:Nat} {v:Value} (h:e d=v):upd e d v=e:=by
 funext t
 unfold upd
 by_cases ht:t=d
 ·subst ht;simp [h]
 ·have:Nat.beq t d=false:=beq_ne ht
  rw [this];rfl
theorem keep {e e':Env} {d:Nat} {v:Value} (h:e' d=v) (h2:e=e'):e=upd e' d v:=by rw [upd_self h,h2]
def PV (P:Program) (o:Oper) (e:Env) (w:World) (v:Value):Prop:=∀ w',Ext w w'→(execOp (ev e) o).run P w'=.ok (.value v) w'
theorem PV.ext {P:Program} {o:Oper} {e:Env} {w w1:World} {v:Value} (h:PV P o e w v) (hx:Ext w w1):PV P o e w1 v:=fun w' h'=>h w' (hx.trans h')

def nrm (n:Nat) (K:Env→World→Prop):Exit→Act→World→Prop:=fun x a w=>x=.normal∧∃ e,Mt n e a∧K e w
def EL (P:Program) (n:Nat) (ops:Array Oper) (K:Env→World→Prop) (rest:List Oper) (e:Env) (w:World):Prop:=∀ a,Mt n e a→wpList P ops (nrm n K) rest a w
def QL (P:Program) (n:Nat) (ops:Array Oper) (w:World) (K:Env→Prop) (rest:List Oper) (e:Env):Prop:=∀ a,Mt n e a→wpQuiet P ops (fun w'=>Ext w w') (fun a'=>∃ e',Mt n e' a'∧K e') rest a

structure Goes (P:Program) (f:FuncId):Prop where
 h:∃ fn,P.funcs[f]? = some fn∧(fn.name == "runtime.NumGoroutine")=false∧fn.body.isNone=false
theorem Goes.run {P:Program} {f:FuncId} (h:Goes P f) (args:Array Value) (w:World):(callFunc f args).run P w=.ok (.enter f args) w:=by
 obtain ⟨fn,h1,h2,h3⟩:=h.h
 simp only [callFunc,Sem.run_bind,run_program,Result.andThen_ok,h1,h2,h3,Bool.false_eq_true,if_false]
 rfl

section
variable {P:Program} {n:Nat} {ops:Array Oper} {K:Env→World→Prop} {KQ:Env→Prop} {rest:List Oper} {e:Env} {w w0:World} {v:Value} {d:Nat} {op:Op} {ty:TypeId} {pos:String} {af:Array Edge} {Γ rΓ:List Asn}

theorem el_nil (h:K e w):EL P n ops K [] e w:=fun _ ha=>⟨rfl,e,ha,h⟩
theorem ql_nil (h:KQ e):QL P n ops w KQ [] e:=fun _ ha=>⟨e,ha,h⟩
theorem el_pv (hp:PV P ⟨some d,op,ty,pos,af,none⟩ e w v) (hd:d<n) (hK:EL P n ops K rest (upd e d v) w):EL P n ops K (⟨some d,op,ty,pos,af,none⟩ :: rest) e w:=by
 intro a ha
 refine wpList_plain rfl fun K' hK'=>?_
 unfold Oper.wp
 rw [ha.eval,hp w (Ext.refl w)]
 exact hK' _ _ (hK _ (ha.put hd v))
theorem ql_pv (hp:PV P ⟨some d,op,ty,pos,af,none⟩ e w v) (hd:d<n) (hK:QL P n ops w KQ rest (upd e d v)):QL P n ops w KQ (⟨some d,op,ty,pos,af,none⟩ :: rest) e:=by
 intro a ha
 unfold wpQuiet
 rw [if_pos (by rfl)]
 refine ⟨v,fun w' hw'=>?_,hK _ (ha.put hd v)⟩
 unfold Oper.quietAt
 rw [ha.eval,hp w' hw']
 exact ⟨rfl,rfl⟩
theorem el_call {f:FuncId} {args:Array Operand} {tys:Array TypeId} {vals:Array Value} {R:Ending→World→Prop} (hg:Goes P f) (hc:Calls P f vals w R) (hv:(args.toList.map (ev e)).toArray=vals) (hd:d<n)
  (hK:∀ x w',R x w'→∃ v,x=.returned v∧EL P n ops K rest (upd e d v) w'):EL P n ops K (⟨some d,.call ⟨.value (.func f),args,tys⟩,ty,pos,af,none⟩ :: rest) e w:=by
 intro a ha
 refine wpList_plain rfl fun K' hK'=>?_
 unfold Oper.wp execOp
 have he:args.map (ev e)=vals:=by rw [← hv];apply Array.ext';simp
 simp only [ha.eval,resolve,ev,Deferred.ofValue,Sem.run_bind,Sem.run_pure,Result.andThen_ok,Array.empty_append,Array.append_empty,he,invoke,hg.run,Oper.upon_enter]
 refine hc.mono fun x w' hx=>?_
 obtain ⟨v,rfl,h⟩:=hK x w' hx
 exact hK' _ _ (h _ (ha.put hd v))
theorem ql_call {f:FuncId} {args:Array Operand} {tys:Array TypeId} {vals:Array Value} (v:Value) (hg:Goes P f)
  (hc:∀ w',Ext w w'→Calls P f vals w' fun x w''=>x=.returned v∧Ext w' w'') (hv:(args.toList.map (ev e)).toArray=vals) (hd:d<n)
  (hK:QL P n ops w KQ rest (upd e d v)):QL P n ops w KQ (⟨some d,.call ⟨.value (.func f),args,tys⟩,ty,pos,af,none⟩ :: rest) e:=by
 intro a ha
 unfold wpQuiet
 rw [if_pos (by rfl)]
 refine ⟨v,fun w' hw'=>?_,hK _ (ha.put hd v)⟩
 unfold Oper.quietAt execOp
 have he:args.map (ev e)=vals:=by rw [← hv];apply Array.ext';simp
 simp only [ha.eval,resolve,ev,Deferred.ofValue,Sem.run_bind,Sem.run_pure,Result.andThen_ok,Array.empty_append,Array.append_empty,he,invoke,hg.run]
 exact ⟨rfl,(hc w' hw').mono fun x w'' ⟨h1,h2⟩=>⟨h1,hw'.trans h2⟩⟩
def yld (ops:Array Oper) (e:Env) (j:Nat):Option Bool :=
 match (ops[j]?).bind (·.dst) with
 | some t=>match e t with | .bool b=>some b | _=>none
 | none=>none
theorem yielded_of {a:Act} (ha:Mt n e a) {j:Nat} {b:Bool} (h:yld ops e j=some b):yielded ops a.tmps j=some b:=by
 unfold yld at h
 unfold yielded
 cases hj:(ops[j]?).bind (·.dst) with
 | none=>simp [hj] at h
 | some t =>
  simp only [hj] at h
  have hg:=ha.get t
  simp only [Option.bind_some]
  cases hv:e t with
  | bool c =>
   rw [hv] at h hg
   simp only [Option.some.injEq] at h
   subst h
   unfold Array.getD at hg
   split at hg
   ·rename_i hlt
    rw [Array.getElem?_eq_getElem hlt]
    have:a.tmps[t]=.bool c:=hg
    rw [this]
   ·simp [undef] at hg
  | _=>simp [hv] at h
theorem yielded_none {a:Act} (ha:Mt n e a) {j:Nat} (h:(match (ops[j]?).bind (·.dst) with | some t=>e t | none=>undef)=undef):yielded ops a.tmps j=none:=by
 unfold yielded
 cases hj:(ops[j]?).bind (·.dst) with
 | none=>rfl
 | some t =>
  simp only [hj] at h
  have hg:=ha.get t
  rw [h] at hg
  simp only [Option.bind_some]
  cases hv:a.tmps[t]? with
  | none=>rfl
  | some v =>
   have:a.tmps.getD t undef=v:=by
    obtain ⟨h1,h2⟩:=Array.getElem?_eq_some_iff.1 hv
    simp [Array.getD,h1,h2]
   rw [this] at hg
   subst hg
   rfl
theorem el_on {j:Nat} {b c:Bool} {dst:Option Nat} (h:yld ops e j=some c) (hc:c=b) (hK:EL P n ops K (⟨dst,op,ty,pos,af,none⟩ :: rest) e w):EL P n ops K (⟨dst,op,ty,pos,af,some (j,b)⟩ :: rest) e w:=by
 subst hc
 intro a ha
 have:=hK a ha
 unfold wpList at this ⊢
 rw [if_pos (by simp [Region.wanted])] at this
 rw [if_pos (by simp [Region.wanted,yielded_of ha h])]
 exact this
theorem el_off {j:Nat} {b b' c:Bool} {d:Nat} (h:yld ops e j=some c) (hc:c=b) (hb:(b == b')=false) (hd:d<n) (hK:EL P n ops K rest (upd e d undef) w):EL P n ops K (⟨some d,op,ty,pos,af,some (j,b')⟩ :: rest) e w:=by
 subst hc
 intro a ha
 unfold wpList
 rw [if_neg (by simp [Region.wanted,yielded_of ha h];simpa using hb)]
 exact hK _ (ha.put hd _)
theorem ql_on {j:Nat} {b c:Bool} {dst:Option Nat} (h:yld ops e j=some c) (hc:c=b) (hK:QL P n ops w KQ (⟨dst,op,ty,pos,af,none⟩ :: rest) e):QL P n ops w KQ (⟨dst,op,ty,pos,af,some (j,b)⟩ :: rest) e:=by
 subst hc
 intro a ha
 have:=hK a ha
 unfold wpQuiet at this ⊢
 rw [if_pos (by simp [Region.wanted])] at this
 rw [if_pos (by simp [Region.wanted,yielded_of ha h])]
 exact this
theorem ql_off {j:Nat} {b b' c:Bool} {d:Nat} (h:yld ops e j=some c) (hc:c=b) (hb:(b == b')=false) (hd:d<n) (hK:QL P n ops w KQ rest (upd e d undef)):QL P n ops w KQ (⟨some d,op,ty,pos,af,some (j,b')⟩ :: rest) e:=by
 subst hc
 intro a ha
 unfold wpQuiet
 rw [if_neg (by simp [Region.wanted,yielded_of ha h];simpa using hb)]
 exact hK _ (ha.put hd _)
end

def Lf (n:Nat) (Q:Exit→Env→World→Prop):Exit→Act→World→Prop:=fun x a w=>∃ e,Mt n e a∧Q x e w
def CW (P:Program) (n:Nat) (c:Code) (Q:Exit→Env→World→Prop) (e:Env) (w:World):Prop:=∀ a,Mt n e a→c.wp P (Lf n Q) a w
def thn (K:Env→World→Prop) (Q:Exit→Env→World→Prop):Exit→Env→World→Prop
 | .normal,e,w=>K e w
 | x,e,w=>Q x e w
def inb (id:Nat) (Q:Exit→Env→World→Prop):Exit→Env→World→Prop
 | .exit id',e,w=>bif Nat.beq id' id then Q .normal e w else Q (.exit id') e w
 | x,e,w=>Q x e w
section
variable {P:Program} {n:Nat} {Q:Exit→Env→World→Prop} {K:Env→World→Prop} {e:Env} {w:World} {c x y:Code}
theorem cw_gen (h:∀ Q',(∀ x e w,Q x e w→Q' x e w)→CW P n c Q' e w):CW P n c Q e w:=h Q fun _ _ _ h=>h
theorem inb_s {i:Nat} (h:Q .normal e w):inb i Q (.exit i) e w:=by
 have:Nat.beq i i=true:=by simp
 show (bif Nat.beq i i then _ else _)
 rw [this];exact h
theorem cw_seq (h:CW P n x (thn (fun e w=>CW P n y Q e w) Q) e w):CW P n (.seq x y) Q e w:=by
 intro a ha
 refine wp_seq (wp_mono (h a ha) ?_)
 rintro x' a' w' ⟨e',he',hq⟩
 cases x' with
 | normal=>exact hq a' he'
 | _=>exact ⟨e',he',hq⟩
theorem cw_skip (h:Q .normal e w):CW P n .skip Q e w:=fun _ ha=>wp_skip ⟨e,ha,h⟩
theorem cw_exit {i:Nat} (h:Q (.exit i) e w):CW P n (.exit i) Q e w:=fun _ ha=>wp_exit ⟨e,ha,h⟩
theorem cw_ret (h:Q .ret e w):CW P n .ret Q e w:=fun _ ha=>wp_ret ⟨e,ha,h⟩
theorem cw_cond_t {o:Operand} {b:Bool} (hc:ev e o=.bool b) (hb:b=true) (h:CW P n x Q e w):CW P n (.cond o x y) Q e w :=
 fun a ha=>wp_cond_true (by rw [ha.eval,hc,hb]) (h a ha)
theorem cw_cond_f {o:Operand} {b:Bool} (hc:ev e o=.bool b) (hb:b=false) (h:CW P n y Q e w):CW P n (.cond o x y) Q e w :=
 fun a ha=>wp_cond_false (by rw [ha.eval,hc,hb]) (h a ha)
theorem cw_block {i:Nat} (h:CW P n c (inb i Q) e w):CW P n (.block i c) Q e w:=by
 intro a ha
 refine wp_block (wp_mono (h a ha) ?_)
 rintro x' a' w' ⟨e',he',hq⟩
 cases x' with
 | exit id' =>
  by_cases hi:id'=i
  ·subst hi
   have:Nat.beq id' id'=true:=by simp
   have hq':(bif Nat.beq id' id' then Q .normal e' w' else Q (.exit id') e' w'):=hq
   rw [this] at hq'
   simp only [Exit.inBlock,if_true]
   exact ⟨e',he',hq'⟩
  ·have:Nat.beq id' i=false:=beq_ne hi
   have hq':(bif Nat.beq id' i then Q .normal e' w' else Q (.exit id') e' w'):=hq
   rw [this] at hq'
   simp only [Exit.inBlock,hi,if_false]
   exact ⟨e',he',hq'⟩
 | _=>exact ⟨e',he',hq⟩
theorem cw_reg {id:Nat} {l:List Oper} (h:EL P n l.toArray (fun e w=>Q .normal e w) l e w):CW P n (.region id l.toArray false) Q e w:=by
 intro a ha
 refine wp_mono (wp_region_lit (h a ha)) ?_
 rintro x a w ⟨rfl,e,he,hk⟩
 exact ⟨e,he,hk⟩
theorem cw_regq {id:Nat} {l:List Oper} (hm:P.follows .mixedOrders=true) (hB:Region.lexB .any l.toArray=true) (h:QL P n l.toArray w (fun e=>∀ w',Ext w w'→Q .normal e w') l e):CW P n (.region id l.toArray true) Q e w:=by
 intro a ha
 refine wp_region_quiet (C:=fun w'=>Ext w w') hm hB ⟨rfl,rfl,rfl,Nat.le_refl _,fun _ _=>rfl⟩ ?_
 have:=h a ha
 have key:∀ (r:List Oper) (a:Act),wpQuiet P l.toArray (fun w'=>Ext w w') (fun a'=>∃ e',Mt n e' a'∧∀ w',Ext w w'→Q .normal e' w') r a→wpQuiet P l.toArray (fun w'=>Ext w w') (fun a'=>∀ w',Ext w w'→Lf n Q .normal a' w') r a:=by
  intro r
  induction r with
  | nil=>rintro a ⟨e',h1,h2⟩ w' hw';exact ⟨e',h1,h2 w' hw'⟩
  | cons o r ih =>
   intro a h
   unfold wpQuiet at h ⊢
   split
   ·rename_i hw
    rw [if_pos hw] at h
    exact Oper.quiet_mono ih h
   ·rename_i hw
    rw [if_neg hw] at h
    exact ih _ h
 exact key _ _ this
theorem cw_loop (I:Nat→Env→World→Prop) (k0:Nat) (h0:I k0 e w)
  (hr:∀ k e w,I k e w→CW P n c (thn (fun e w=>∃ k',k'<k∧I k' e w) Q) e w):CW P n (.loop c) Q e w:=by
 intro a ha
 refine wp_loop_ghost (fun k a w=>∃ e,Mt n e a∧I k e w) k0 ⟨e,ha,h0⟩ ?_
 rintro k a w ⟨e,he,hI⟩
 refine wp_mono (hr k e w hI a he) ?_
 rintro x' a' w' ⟨e',he',hq⟩
 cases x' with
 | normal =>
  obtain ⟨k',hk',hI'⟩:=hq
  exact ⟨k',hk',e',he',hI'⟩
 | _=>exact ⟨e',he',hq⟩
theorem cw_loopS (I:Nat→Env→World→Prop) (k0:Nat) (h0:I k0 e w) (hz:∀ e w,¬ I 0 e w)
  (hr:∀ k e w,I (k+1) e w→CW P n c (thn (fun e w=>I k e w) Q) e w):CW P n (.loop c) Q e w:=by
 refine cw_loop I k0 h0 ?_
 intro k e w hI
 cases k with
 | zero=>exact absurd hI (hz e w)
 | succ k =>
  intro a ha
  refine wp_mono (hr k e w hI a ha) ?_
  rintro x' a' w' ⟨e',he',hq⟩
  cases x' with
  | normal=>exact ⟨e',he',k,Nat.lt_succ_self k,hq⟩
  | _=>exact ⟨e',he',hq⟩
end

def Fin (P:Program) (fn:Func) (n:Nat) (R:Ending→World→Prop):Exit→Env→World→Prop
 | .normal,e,w=>∃ v,(∀ a,Mt n e a→(results fn a.tmps).run P w=.ok v w)∧R (.returned v) w
 | .ret,e,w=>∃ v,(∀ a,Mt n e a→(results fn a.tmps).run P w=.ok v w)∧R (.returned v) w
 | _,_,_=>False
def argsE:List Value→Nat→Env
 | [],_=>fun _=>undef
 | v :: l,k=>upd (argsE l (k+1)) k v
theorem argsE_get:∀ (l:List Value) (k t:Nat),argsE l k t=if k≤t then l.getD (t-k) undef else undef
 | [],k,t=>by simp [argsE]
 | v :: l,k,t=>by
  unfold argsE upd
  by_cases h:t=k
  ·subst h;simp
  ·have hb:Nat.beq t k=false:=beq_ne h
   rw [hb,cond_false,argsE_get l (k+1) t]
   by_cases hk:k+1≤t
   ·rw [if_pos hk,if_pos (by omega),show t-k=(t-(k+1))+1 by omega]
    simp
   ·rw [if_neg hk]
    by_cases hk2:k≤t
    ·omega
    ·rw [if_neg hk2]
theorem calls_E {P:Program} {f:FuncId} {fn:Func} {c:Code} {l:List Value} {w:World} {R:Ending→World→Prop} (hf:P.funcs[f]? = some fn) (hb:fn.body=some c) {n:Nat} (hn:fn.ntmps=n) (hl:l.length≤n)
  (h:CW P n c (Fin P fn n R) (argsE l 0) w):Calls P f l.toArray w R:=by
 refine calls_of_wp hf hb (wp_mono (h _ ?_) ?_)
 ·refine ⟨by simp;omega,rfl,fun t=>?_⟩
  rw [argsE_get]
  simp only [Nat.zero_le,if_true,Nat.sub_zero,Array.getD,Array.size_append,List.size_toArray,Array.size_replicate]
  by_cases h1:t<l.length
  ·rw [dif_pos (by omega)]
   simp [h1]
  ·have h2:l.getD t undef=undef:=by simp [h1]
   rw [h2]
   split
   ·rename_i h3
    have:=Array.getElem_append_right (xs:=l.toArray) (ys:=Array.replicate (fn.ntmps-l.length) undef) (i:=t) (by simpa using h1) (h:=by simpa using h3)
    simpa using this
   ·rfl
 ·rintro x a w' ⟨e,he,hq⟩
  cases x with
  | normal=>obtain ⟨v,h1,h2⟩:=hq;exact bodyPost_end (h1 a he) he.defers h2
  | ret=>obtain ⟨v,h1,h2⟩:=hq;exact bodyPost_ret (h1 a he) he.defers h2
  | _=>exact hq.elim
end Go.Proofs.Ytkpeabpdiffjhaa
namespace Go.Proofs.Ytkpeabpdiffjhaa
open Go.RowKit

def rng (n:Int):Bool:=decide (-9223372036854775808≤n)&&decide (n≤9223372036854775807)
def ad (a b:Int):Option Int:=if rng (a+b) then some (a+b) else none
def sb (a b:Int):Option Int:=if rng (a-b) then some (a-b) else none
def qt (a b:Int):Option Int:=if b≠0∧rng (a.tdiv b) then some (a.tdiv b) else none
def rm (a b:Int):Option Int:=if b≠0 then some (a.tmod b) else none
def ix {α:Type} (xs:List α) (i:Int):Option α:=if 0≤i then xs[i.toNat]? else none
def bx (s:ByteArray) (i:Int):Option Int:=if 0≤i then (s[i.toNat]?).map (fun b=>(b.toNat:Int)) else none
def slc {α:Type} (xs:List α) (lo hi:Int):Option (List α):=if 0≤lo∧lo≤hi∧hi≤xs.length then some ((xs.take hi.toNat).drop lo.toNat) else none
def apd {α:Type} (bytes:Nat) (xs ys:List α):Option (List α):=if (xs.length+ys.length)*bytes≤140737488355328 then some (xs++ys) else none
def mk {α:Type} (bytes:Nat) (z:α) (n:Int):Option (List α):=if 0≤n∧n.toNat*bytes≤281474976710656∧n.toNat≤140737488355328 then some (List.replicate n.toNat z) else none
def sto {α:Type} (xs:List α) (i:Int) (y:α):Option (List α):=if 0≤i∧i.toNat<xs.length then some (xs.set i.toNat y) else none

theorem ob {α β:Type} {o:Option α} {f:α→Option β} {r:β} (h:o.bind f=some r):∃ x,o=some x∧f x=some r:=Option.bind_eq_some_iff.1 h
theorem oif {α:Type} {c:Bool} {x y:Option α} {r:α} (h:(bif c then x else y)=some r):(c=true∧x=some r)∨(c=false∧y=some r):=by
 cases c
 ·exact .inr ⟨rfl,h⟩
 ·exact .inl ⟨rfl,h⟩
theorem wrap_rng {n:Int} (h:rng n=true):IntKind.i64.wrap n=n:=by
 simp only [rng,Bool.and_eq_true,decide_eq_true_eq] at h
 exact IntWalk.i64_in n h
theorem ad_some {a b c:Int} (h:ad a b=some c):rng (a+b)=true∧c=a+b:=by
 unfold ad at h;split at h
 ·exact ⟨by assumption,by simpa using h.symm⟩
 ·cases h
theorem sb_some {a b c:Int} (h:sb a b=some c):rng (a-b)=true∧c=a-b:=by
 unfold sb at h;split at h
 ·exact ⟨by assumption,by simpa using h.symm⟩
 ·cases h
theorem ix_some {α:Type} {xs:List α} {i:Int} {x:α} (h:ix xs i=some x):∃ k:Nat,i=(k:Int)∧∃ h:k<xs.length,xs[k]=x:=by
 unfold ix at h
 split at h
 ·rename_i h0
  obtain ⟨h1,h2⟩:=List.getElem?_eq_some_iff.1 h
  exact ⟨i.toNat,by omega,h1,h2⟩
 ·cases h

section
variable {P:Program} {e:Env} {w w0:World} {d:Option Nat} {ty:TypeId} {pos:String} {af:Array Edge} {x y z:Operand} {Γ rΓ:List Asn}

theorem pv_move {v:Value} (hx:ev e x=v):PV P ⟨d,.move x,ty,pos,af,none⟩ e w v:=fun w' _=>by
 unfold execOp;simp only [hx];rfl
theorem pv_assign {v:Value} (hx:ev e x=v):PV P ⟨d,.assign x,ty,pos,af,none⟩ e w v:=fun w' _=>by
 unfold execOp;simp only [hx];rfl
theorem pv_pick_t {b:Bool} {v:Value} (hx:ev e x=.bool b) (hb:b=true) (hy:ev e y=v):PV P ⟨d,.pick x y z,ty,pos,af,none⟩ e w v:=fun w' _=>by
 unfold execOp;subst hb;simp [hx,hy,asBool]
theorem pv_pick_f {b:Bool} {v:Value} (hx:ev e x=.bool b) (hb:b=false) (hz:ev e z=v):PV P ⟨d,.pick x y z,ty,pos,af,none⟩ e w v:=fun w' _=>by
 unfold execOp;subst hb;simp [hx,hz,asBool]
theorem pv_not {t:TypeId} {b:Bool} (hx:ev e x=.bool b):PV P ⟨d,.unOp .not t x,ty,pos,af,none⟩ e w (.bool (!b)):=fun w' _=>by
 unfold execOp;simp [hx,Op.unary]
section
variable {t u:TypeId} {a b c:Int}
theorem pv_add (hx:ev e x=.int .i64 a) (hy:ev e y=.int .i64 b) (h:ad a b=some c):PV P ⟨d,.binOp .add t x y u,ty,pos,af,none⟩ e w (.int .i64 c):=fun w' _=>by
 obtain ⟨h1,rfl⟩:=ad_some h
 unfold execOp;simp [hx,hy,eqGuard,binOp,Op.intArith,wrap_rng h1]
theorem pv_sub (hx:ev e x=.int .i64 a) (hy:ev e y=.int .i64 b) (h:sb a b=some c):PV P ⟨d,.binOp .sub t x y u,ty,pos,af,none⟩ e w (.int .i64 c):=fun w' _=>by
 obtain ⟨h1,rfl⟩:=sb_some h
 unfold execOp;simp [hx,hy,eqGuard,binOp,Op.intArith,wrap_rng h1]
theorem pv_quo (hx:ev e x=.int .i64 a) (hy:ev e y=.int .i64 b) (h:qt a b=some c):PV P ⟨d,.binOp .quo t x y u,ty,pos,af,none⟩ e w (.int .i64 c):=fun w' _=>by
 unfold qt at h;split at h
 ·rename_i h1
  obtain rfl:=Option.some.inj h
  unfold execOp;simp [hx,hy,eqGuard,binOp,Op.intDiv,h1.1,wrap_rng h1.2]
 ·cases h
theorem pv_rem (hx:ev e x=.int .i64 a) (hy:ev e y=.int .i64 b) (h:rm a b=some c):PV P ⟨d,.binOp .rem t x y u,ty,pos,af,none⟩ e w (.int .i64 c):=fun w' _=>by
 unfold rm at h;split at h
 ·rename_i h1
  obtain rfl:=Option.some.inj h
  unfold execOp;simp [hx,hy,eqGuard,binOp,Op.intDiv,h1]
 ·cases h
theorem pv_eql {k:IntKind} (hx:ev e x=.int k a) (hy:ev e y=.int k b):PV P ⟨d,.binOp .eql t x y u,ty,pos,af,none⟩ e w (.bool (a == b)):=fun w' _=>by
 unfold execOp;simp [hx,hy,eqGuard,binOp,Op.intCmp]
theorem pv_neq {k:IntKind} (hx:ev e x=.int k a) (hy:ev e y=.int k b):PV P ⟨d,.binOp .neq t x y u,ty,pos,af,none⟩ e w (.bool (a != b)):=fun w' _=>by
 unfold execOp;simp [hx,hy,eqGuard,binOp,Op.intCmp]
theorem pv_lss {k:IntKind} (hx:ev e x=.int k a) (hy:ev e y=.int k b):PV P ⟨d,.binOp .lss t x y u,ty,pos,af,none⟩ e w (.bool (decide (a<b))):=fun w' _=>by
 unfold execOp;simp [hx,hy,eqGuard,binOp,Op.intCmp]
theorem pv_leq {k:IntKind} (hx:ev e x=.int k a) (hy:ev e y=.int k b):PV P ⟨d,.binOp .leq t x y u,ty,pos,af,none⟩ e w (.bool (decide (a≤b))):=fun w' _=>by
 unfold execOp;simp [hx,hy,eqGuard,binOp,Op.intCmp]
theorem pv_gtr {k:IntKind} (hx:ev e x=.int k a) (hy:ev e y=.int k b):PV P ⟨d,.binOp .gtr t x y u,ty,pos,af,none⟩ e w (.bool (decide (b<a))):=fun w' _=>by
 unfold execOp;simp [hx,hy,eqGuard,binOp,Op.intCmp]
theorem pv_geq {k:IntKind} (hx:ev e x=.int k a) (hy:ev e y=.int k b):PV P ⟨d,.binOp .geq t x y u,ty,pos,af,none⟩ e w (.bool (decide (b≤a))):=fun w' _=>by
 unfold execOp;simp [hx,hy,eqGuard,binOp,Op.intCmp]
end
def eqS (s r:ByteArray):Bool:=s.toList == r.toList
def ltS (s r:ByteArray):Bool:=Op.bytesLess s.toList r.toList
section
variable {t u:TypeId} {s r:ByteArray}
theorem pv_eqlS (hx:ev e x=.string s) (hy:ev e y=.string r):PV P ⟨d,.binOp .eql t x y u,ty,pos,af,none⟩ e w (.bool (eqS s r)):=fun w' _=>by
 unfold execOp eqS;simp [hx,hy,eqGuard,binOp,Op.stringOp]
theorem pv_neqS (hx:ev e x=.string s) (hy:ev e y=.string r):PV P ⟨d,.binOp .neq t x y u,ty,pos,af,none⟩ e w (.bool (!(eqS s r))):=fun w' _=>by
 unfold execOp eqS;simp [hx,hy,eqGuard,binOp,Op.stringOp]
theorem pv_geqS (hx:ev e x=.string s) (hy:ev e y=.string r):PV P ⟨d,.binOp .geq t x y u,ty,pos,af,none⟩ e w (.bool (!(ltS s r))):=fun w' _=>by
 unfold execOp ltS;simp [hx,hy,eqGuard,binOp,Op.stringOp]
end
theorem run_eqIn (k:Nat) {t:TypeId} (ht:P.underlying t=some .bool) (a b:Bool) (w:World):(Op.equalIn (k+1) t (.bool a) (.bool b)).run P w=.ok (a == b) w:=by
 simp only [Op.equalIn,Sem.run_bind,run_underlying ht,Result.andThen_ok,Sem.run_pure]
theorem run_eqB {t:TypeId} (ht:P.underlying t=some .bool) (a b:Bool) (w:World):(Op.equal t (.bool a) (.bool b)).run P w=.ok (a == b) w:=run_eqIn 9999 ht a b w
theorem pv_neqB {t u:TypeId} {a b:Bool} (ht:P.underlying t=some .bool) (hx:ev e x=.bool a) (hy:ev e y=.bool b):PV P ⟨d,.binOp .neq t x y u,ty,pos,af,none⟩ e w (.bool (a != b)):=fun w' _=>by
 have h1:(eqGuard .neq t x y (.bool a) (.bool b)).run P w'=.ok () w':=by simp [eqGuard]
 have h2:(binOp .neq t (.bool a) (.bool b)).run P w'=.ok (.bool (a != b)) w':=by
  show (do pure (.bool (!(← Op.equal t (.bool a) (.bool b)))):Sem Value).run P w'=_
  simp only [Sem.run_bind,run_eqB ht,Result.andThen_ok,Sem.run_pure]
  rfl
 unfold execOp
 simp only [hx,hy,Sem.run_bind,h1,h2,Result.andThen_ok,Sem.run_pure]
theorem pv_extract {k:Nat} {vs:Array Value} {v:Value} (hx:ev e x=.tuple vs) (h:vs[k]? = some v):PV P ⟨d,.extract x k,ty,pos,af,none⟩ e w v:=fun w' _=>by
 unfold execOp;simp [hx,Instr.extract,h]
theorem pv_convI {s t:TypeId} {k k2:IntKind} {a:Int} {u:TypeDesc} (hs:P.underlying s=some u) (ht:P.underlying t=some (.int k2)) (hx:ev e x=.int k a):PV P ⟨d,.convert s t x,ty,pos,af,none⟩ e w (.int k2 (k2.wrap a)):=fun w' _=>by
 unfold execOp;simp [hx,convert,run_underlying ht,run_underlying hs,Conv.intToInt]
theorem pv_lenS {t:TypeId} {s:ByteArray} (ht:P.underlying t=some .string) (hx:ev e x=.string s):PV P ⟨d,.call ⟨.builtin .len,#[x],#[t]⟩,ty,pos,af,none⟩ e w (.int .i64 s.size):=fun w' _=>by
 unfold execOp;simp [resolve,invoke,builtin,hx,Builtin.len_,run_underlying ht,goInt]
theorem pv_bx {t:TypeId} {s:ByteArray} {i:Int} {k:IntKind} {b:Int} (ht:P.underlying t=some .string) (hx:ev e x=.string s) (hy:ev e y=.int k i) (h:bx s i=some b):PV P ⟨d,.index t x y,ty,pos,af,none⟩ e w (.int .u8 b):=fun w' _=>by
 unfold bx at h
 split at h
 ·rename_i h0
  cases hb:s[i.toNat]? with
  | none=>simp [hb] at h
  | some c =>
   simp [hb] at h;subst h
   unfold execOp;simp [hx,hy,Instr.index,asIntOf,run_underlying ht,h0,hb]
 ·cases h
class FldT (P:Program) (t:TypeId) (k:Nat) (off:outParam Nat):Prop where
 h:∃ fs f,P.underlying t=some (.struct fs)∧fs[k]? = some f∧f.offset=off∧((P.info? f.type).map fun i=>Nat.beq i.size 0)=some false
theorem pv_fieldAddr {t:TypeId} {k off b o:Nat} [ht:FldT P t k off] (hx:ev e x=.pointer (some ⟨b,o,none⟩)):PV P ⟨d,.fieldAddr t x k,ty,pos,af,none⟩ e w (.pointer (some ⟨b,o+off,none⟩)):=fun w' _=>by
 obtain ⟨fs,f,h1,h2,h3,h4⟩:=ht.h
 cases hi:P.info? f.type with
 | none=>simp [hi] at h4
 | some i =>
  have h5:¬ i.size=0:=by
   intro e0
   simp [hi,e0] at h4
  unfold execOp
  simp [hx,Instr.fieldAt,run_underlying h1,h2,Instr.sureAddr,fieldPlace,sizeOf,typeInfo,hi,h5,h3,Addr.add_lit]
theorem cell_up' {w w':World} {p:Addr} {c:Value} (hE:Ext w w') (h:w.cell? p=some c):w'.cell? p=some c:=by rw [hE.cell (block_lt_of_cell h)];exact h
theorem cells_up {w w':World} {b off:Nat} {ec:List Value} (hE:Ext w w') (h:∀ j c,ec[j]? = some c→w.cell? ⟨b,off+j,none⟩=some c):∀ j c,ec[j]? = some c→w'.cell? ⟨b,off+j,none⟩=some c :=
 fun j c hj=>cell_up' hE (h j c hj)
theorem pv_loadc {t:TypeId} [PlainT P t] {p:Addr} {c:Value} (hx:ev e x=.pointer (some p)) (hc:w.cell? p=some c):PV P ⟨d,.load t x,ty,pos,af,none⟩ e w c:=fun w' hw'=>by
 unfold execOp
 simp only [hx,Instr.loadAt,Instr.sureAddr,Sem.run_bind,Sem.run_pure,Result.andThen_ok,run_loadVar_plain (cell_up' hw' hc)]
theorem pv_loada {t:TypeId} {n b off:Nat} [AggT P t n] {cs:List Value} (hx:ev e x=.pointer (some ⟨b,off,none⟩)) (hn:cs.length=n) (hc:∀ j c,cs[j]? = some c→w.cell? ⟨b,off+j,none⟩=some c) :
  PV P ⟨d,.load t x,ty,pos,af,none⟩ e w (.agg cs.toArray):=fun w' hw'=>by
 unfold execOp
 simp only [hx,Instr.loadAt,Instr.sureAddr,Sem.run_bind,Sem.run_pure,Result.andThen_ok,run_loadVar_agg hn (cells_up hw' hc)]
theorem pv_len {α:Type} {R:Rep α} {E E':TypeId} {t:TypeId} [ht:SliceT P t E'] {wA:World} {v:Value} {xs:List α} (hx:ev e x=v) (hr:(sliceR R E).rd wA [v] xs) :
  PV P ⟨d,.call ⟨.builtin .len,#[x],#[t]⟩,ty,pos,af,none⟩ e w (.int .i64 xs.length):=fun w' _=>by
 obtain ⟨ao,cap,rfl⟩:=sliceR_shape hr
 unfold execOp;simp [resolve,invoke,builtin,hx,Builtin.len_,run_underlying ht.h,goInt]
theorem pv_index {α:Type} {R:Rep α} {E E':TypeId} {t:TypeId} [ht:SliceT P t E'] {zz:List Value} {n bytes:Nat} [hz:ElemT P E' zz n bytes] {wA:World} {v:Value} {xs:List α} (hs:ev e x=v) (hr:(sliceR R E).rd wA [v] xs)
  (hn:R.sz=n) (hpos:0<n) {k:IntKind} {i:Int} (hi:ev e y=.int k i) {u:α} (h:ix xs i=some u) :
  ∃ b off ec,R.rd wA ec u∧(∀ j c,ec[j]? = some c→wA.cell? ⟨b,off+j,none⟩=some c)∧∀ w,PV P ⟨d,.indexAddr t x y,ty,pos,af,none⟩ e w (.pointer (some ⟨b,off,none⟩)):=by
 obtain ⟨k',rfl,hk,rfl⟩:=ix_some h
 obtain ⟨ao,cap,ccs,hv,h1,h2,h3,h4,h5⟩:=hr
 obtain rfl:v=.slice ao xs.length cap:=by simpa using hv
 obtain ⟨ec,hec,hcc⟩:=rdL_at h4 k' hk
 have hz:=hz.h
 have hlen:=rdL_len h4
 cases hq:P.info? E' with
 | none=>simp [hq] at hz
 | some inf =>
  simp [hq] at hz
  obtain ⟨b,off,rfl,hc⟩:∃ b off,ao=some ⟨b,off,none⟩∧∀ j c,ccs[j]? = some c→wA.cell? ⟨b,off+j,none⟩=some c:=by
   rcases h5 with rfl | ⟨b,off,rfl,hc⟩
   ·have:0<xs.length*R.sz:=Nat.mul_pos (by omega) (by omega)
    simp at hlen
    omega
   ·exact ⟨b,off,rfl,hc⟩
  have hsz:inf.size=R.sz:=by rw [hn];exact hz.2.1
  refine ⟨b,off+k'*R.sz,ec,hec,fun j c hj=>by rw [Nat.add_assoc];exact hc _ _ (hcc j c hj),fun w w' _=>?_⟩
  unfold execOp
  simp [hs,hi,Instr.indexAt,asIntOf,run_underlying ht.h,sizeOf,typeInfo,hq,hk,Addr.add_lit,hsz]
end

section
variable {P:Program} {n:Nat} {ops:Array Oper} {K:Env→World→Prop} {KQ:Env→Prop} {rest:List Oper} {e:Env} {w w0 wA:World} {v:Value} {d:Nat} {ty:TypeId} {pos:String} {af:Array Edge} {Γ rΓ:List Asn} {x y:Operand} {α:Type} {R:Rep α} {E E':TypeId}
theorem el_index {t:TypeId} [SliceT P t E'] {zz:List Value} {m bytes:Nat} [ElemT P E' zz m bytes] {xs:List α} (hs:ev e x=v) (hr:(sliceR R E).rd wA [v] xs)
  (hn:R.sz=m) (hpos:0<m) {k:IntKind} {i:Int} (hi:ev e y=.int k i) {u:α} (h:ix xs i=some u) (hd:d<n)
  (hK:∀ b off ec,R.rd wA ec u→(∀ j c,ec[j]? = some c→wA.cell? ⟨b,off+j,none⟩=some c)→EL P n ops K rest (upd e d (.pointer (some ⟨b,off,none⟩))) w):EL P n ops K (⟨some d,.indexAddr t x y,ty,pos,af,none⟩ :: rest) e w:=by
 obtain ⟨b,off,ec,h1,h2,h3⟩:=pv_index (P:=P) (d:=some d) (ty:=ty) (pos:=pos) (af:=af) (t:=t) hs hr hn hpos hi h
 exact el_pv (h3 _) hd (hK b off ec h1 h2)
theorem ql_index {t:TypeId} [SliceT P t E'] {zz:List Value} {m bytes:Nat} [ElemT P E' zz m bytes] {xs:List α} (hs:ev e x=v) (hr:(sliceR R E).rd wA [v] xs)
  (hn:R.sz=m) (hpos:0<m) {k:IntKind} {i:Int} (hi:ev e y=.int k i) {u:α} (h:ix xs i=some u) (hd:d<n)
  (hK:∀ b off ec,R.rd wA ec u→(∀ j c,ec[j]? = some c→wA.cell? ⟨b,off+j,none⟩=some c)→QL P n ops w KQ rest (upd e d (.pointer (some ⟨b,off,none⟩)))):QL P n ops w KQ (⟨some d,.indexAddr t x y,ty,pos,af,none⟩ :: rest) e:=by
 obtain ⟨b,off,ec,h1,h2,h3⟩:=pv_index (P:=P) (d:=some d) (ty:=ty) (pos:=pos) (af:=af) (t:=t) hs hr hn hpos hi h
 exact ql_pv (h3 _) hd (hK b off ec h1 h2)
theorem el_box {t:TypeId} (cs:List Value) (hx:(ev e x).cells=cs.toArray) (hS:Sat w0 w Γ) (hd:d<n)
  (hK:∀ w' b,Sat w0 w' (Box b t cs :: Γ)→Ext w w'→EL P n ops K rest (upd e d (.pointer (some ⟨b,0,none⟩))) w'):EL P n ops K (⟨some d,.box t x,ty,pos,af,none⟩ :: rest) e w :=
 fun a ha=>wpl_box rfl rfl cs (by rw [ha.eval];exact hx) hS fun w' b h1 h2=>hK w' b h1 h2 _ (ha.put hd _)
theorem el_alloc {t:TypeId} {cs:List Value} {m bytes:Nat} [ElemT P t cs m bytes] (hS:Sat w0 w Γ) (hd:d<n)
  (hK:∀ w' b,Sat w0 w' (Box b t cs :: Γ)→Ext w w'→EL P n ops K rest (upd e d (.pointer (some ⟨b,0,none⟩))) w'):EL P n ops K (⟨some d,.alloc t,ty,pos,af,none⟩ :: rest) e w :=
 fun _ ha=>wpl_alloc rfl rfl hS fun w' b h1 h2=>hK w' b h1 h2 _ (ha.put hd _)
theorem el_storev {t:TypeId} {z:List Value} {m bytes:Nat} [ElemT P t z m bytes] (hS:Sat w0 w Γ) {b j:Nat} (hx:ev e x=.pointer (some ⟨b,j,none⟩))
  {E:TypeId} {cs:List Value} [AtBox Γ b E cs rΓ] (vs:List Value) (hy:(ev e y).cells=vs.toArray) (hn:vs.length=m) (hl:j+m≤cs.length) (h1:vs.all (·.oneCell')=true)
  (hK:∀ w',Sat w0 w' (Box b E (cs.take j++vs++cs.drop (j+m)) :: rΓ)→EL P n ops K rest e w'):EL P n ops K (⟨none,.store t x y,ty,pos,af,none⟩ :: rest) e w :=
 fun _ ha=>wpl_storev rfl rfl hS (by rw [ha.eval];exact hx) vs (by rw [ha.eval];exact hy) hn hl h1 fun w' h1=>hK w' h1 _ ha
theorem el_storeo {t:TypeId} {z:List Value} {m bytes:Nat} [ElemT P t z m bytes] (hn:R.sz=m) {ec:List Value} {yv:α} {xs ys:List α} {g ln cap:Nat}
  (hS:Sat w0 w (Own R ec yv :: Own (sliceR R E) [.slice (some ⟨g,0,none⟩) ln cap] xs :: Γ)) (k off:Nat) {i:Int} (hi:i=(k:Int)) (h:sto xs i yv=some ys) (hoff:off=k*m) (hx:ev e x=.pointer (some ⟨g,off,none⟩)) (hy:(ev e y).cells=ec.toArray)
  (hK:∀ w',Sat w0 w' (Own (sliceR R E) [.slice (some ⟨g,0,none⟩) ln cap] ys :: Γ)→EL P n ops K rest e w'):EL P n ops K (⟨none,.store t x y,ty,pos,af,none⟩ :: rest) e w:=by
 intro a ha
 subst hi
 unfold sto at h
 split at h
 ·rename_i h0
  obtain rfl:=Option.some.inj h
  simp only [Int.toNat_natCast] at h0 hK
  exact wpl_storeo rfl rfl hn hS k off h0.2 hoff (by rw [ha.eval];exact hx) (by rw [ha.eval];exact hy) fun w' h1=>hK w' h1 _ ha
 ·cases h
theorem el_append {t:TypeId} [SliceT P t E] {z:List Value} {m bytes:Nat} [ElemT P E z m bytes] (hn:R.sz=m) (hpos:0<m) (hzl:z.length=m) (hb0:0<bytes)
  {xs:List α} {ccs:List Value} {ys zs:List α} (hS:Sat w0 w (OwnL R ccs ys :: Own (sliceR R E) [v] xs :: Γ)) (hs:ev e x=v)
  {ao:Option Addr} {ln c:Nat} (hx:ev e y=.slice ao ln c) (hm:ln=ys.length) (hnone:ao=none→c=0) (hrow:rowAt w ao ccs) (h:apd bytes xs ys=some zs) (hd:d<n)
  (hK:∀ w' v',Sat w0 w' (Own (sliceR R E) [v'] zs :: Γ)→EL P n ops K rest (upd e d v') w'):EL P n ops K (⟨some d,.call ⟨.builtin .append,#[x,y],#[t,t]⟩,ty,pos,af,none⟩ :: rest) e w:=by
 intro a ha
 unfold apd at h
 split at h
 ·rename_i hby
  obtain rfl:=Option.some.inj h
  exact wpl_append rfl rfl hn hpos hzl hb0 hS (by rw [ha.eval];exact hs) (by rw [ha.eval];exact hx) hm hnone hrow hby fun v' w' h1=>hK w' v' h1 _ (ha.put hd _)
 ·cases h
theorem el_make {t:TypeId} [SliceT P t E] {z:List Value} {m bytes:Nat} [ElemT P E z m bytes] (hn:R.sz=m) (hpos:0<m) (hzl:z.length=m) {x0:α} (hx0:∀ w,R.own w z x0 []) {i:Int} {xs:List α}
  (hl:ev e x=.int .i64 i) (hc:ev e y=.int .i64 i) (h:mk bytes x0 i=some xs) (hS:Sat w0 w Γ) (hd:d<n)
  (hK:∀ w' g k,Sat w0 w' (Own (sliceR R E) [.slice (some ⟨g,0,none⟩) k k] xs :: Γ)→Ext w w'→xs.length=k→EL P n ops K rest (upd e d (.slice (some ⟨g,0,none⟩) k k)) w'):EL P n ops K (⟨some d,.makeSlice t x y,ty,pos,af,none⟩ :: rest) e w:=by
 intro a ha
 unfold mk at h
 split at h
 ·rename_i h0
  obtain rfl:=Option.some.inj h
  exact wpl_make rfl rfl hn hpos hzl hx0 (by rw [ha.eval];exact hl) (by rw [ha.eval];exact hc) i.toNat (by omega) (by omega) h0.2.1 h0.2.2 hS fun w' g h1 h2=>hK w' g _ h1 h2 (by simp) _ (ha.put hd _)
 ·cases h
theorem el_buildSlice1 {t u:TypeId} [SliceT P t u] {z:List Value} {m bytes:Nat} [ElemT P u z m bytes] (cs:List Value) (hcs:(ev e x).cells=cs.toArray) (hl:cs.length=m) (hpos:0<m) (hzl:z.length=m) (hn:m≤16)
  (hS:Sat w0 w Γ) (hd:d<n) (hK:∀ w' b,Sat w0 w' (Box b u cs :: Γ)→Ext w w'→EL P n ops K rest (upd e d (.slice (some ⟨b,0,none⟩) 1 1)) w'):EL P n ops K (⟨some d,.buildSlice t 1 #[(0,x)],ty,pos,af,none⟩ :: rest) e w :=
 fun _ ha=>wpl_buildSlice1 rfl rfl (by rw [ha.eval];exact hcs) hl hpos hzl hn hS fun w' b h1 h2=>hK w' b h1 h2 _ (ha.put hd _)
theorem el_buildSlice0 (R:Rep α) {t:TypeId} [SliceT P t E] {z:List Value} {m bytes:Nat} [ElemT P E z m bytes] (hS:Sat w0 w Γ) (hd:d<n)
  (hK:∀ w' v,Sat w0 w' (Own (sliceR R E) [v] [] :: Γ)→Ext w w'→EL P n ops K rest (upd e d v) w'):EL P n ops K (⟨some d,.buildSlice t 0 #[],ty,pos,af,none⟩ :: rest) e w :=
 fun _ ha=>wpl_buildSlice0 R rfl rfl hS fun w' b h1 h2=>hK w' _ h1 h2 _ (ha.put hd _)
theorem pv_slice {t:TypeId} {lo hi:Option Operand} [ht:SliceT P t E'] {z:List Value} {m bytes:Nat} [hz:ElemT P E' z m bytes] (hn:R.sz=m) {d:Option Nat}
    (hx:ev e x=v) {xs ys:List α} (hr:(sliceR R E).rd wA [v] xs) {l h:Int} (hlo:(lo.map (ev e)=some (.int .i64 l))∨(lo=none∧l=0)) (hhi:(hi.map (ev e)=some (.int .i64 h))∨(hi=none∧h=xs.length)) (hq:slc xs l h=some ys) :
    ∃ v',(sliceR R E).rd wA [v'] ys∧∀ w,PV P ⟨d,.slice t x lo hi none,ty,pos,af,none⟩ e w v':=by
  unfold slc at hq
  split at hq
  case isFalse=>cases hq
  rename_i h0
  obtain rfl:=Option.some.inj hq
  obtain ⟨l',rfl⟩:=Int.eq_ofNat_of_zero_le h0.1
  obtain ⟨h',rfl⟩:=Int.eq_ofNat_of_zero_le (Int.le_trans h0.1 h0.2.1)
  obtain ⟨_,hlh,hh⟩:=h0
  replace hlh:l'≤h':=by omega
  replace hh:h'≤xs.length:=by omega
  simp only [Int.toNat_natCast]
  obtain ⟨ao,cap,ccs,hv,h1,h2,h3,h4,h5⟩:=hr
  obtain rfl:v=.slice ao xs.length cap:=by simpa using hv
  have hz:=hz.h
  cases hq:P.info? E' with
  | none=>simp [hq] at hz
  | some inf =>
    simp [hq] at hz
    have hcap:h'≤cap:=by omega
    have hsz:inf.size=R.sz:=by rw [hn];exact hz.2.1
    have hlen:((xs.take h').drop l').length=h' - l':=by simp;omega
    have hccl:=rdL_len h4
    have hrd:=(rdL_split l' (rdL_split h' h4).1).2
    refine ⟨.slice (if cap=l' then ao else ao.map (·.add (l'*inf.size))) (h' - l') (cap-l'),⟨_,cap-l',_,by rw [hlen],by rw [hlen];omega,by omega,?_,hrd,?_⟩,fun w w' _=>?_⟩
    · intro e
      split at e
      · omega
      · cases ao with
        | none=>have:=h3 rfl;omega
        | some _=>simp at e
    · by_cases hcl:cap=l'
      · left
        have:h'=l':=by omega
        subst this
        apply List.eq_nil_of_length_eq_zero
        simp
      · rw [if_neg hcl]
        rcases h5 with rfl | ⟨b,off,rfl,h5⟩
        · left;simp
        · right
          refine ⟨b,off+l'*R.sz,by rw [hsz];simp [Addr.add_lit],fun j c hj=>?_⟩
          rw [List.getElem?_drop,List.getElem?_take] at hj
          split at hj
          · rw [Nat.add_assoc];exact h5 _ c hj
          · cases hj
    · have hb:(Instr.sliceBounds true xs.length cap (lo.map (ev e)) (hi.map (ev e)) none).run P w'=.ok (l',h',cap) w':=by
        rcases hlo with e1 | ⟨e1,e1'⟩ <;> rcases hhi with e2 | ⟨e2,e2'⟩
        all_goals
          (try rw [e1]);(try rw [e2])
          first
            | (simp [Instr.sliceBounds,Instr.sliceBound,asIntOf,hcap,hlh];done)
            | (have:l'=0:=by omega
               subst this
               simp [Instr.sliceBounds,Instr.sliceBound,asIntOf,hcap,hlh];done)
            | (have:h'=xs.length:=by omega
               subst this
               simp [Instr.sliceBounds,Instr.sliceBound,asIntOf,hcap,hlh];done)
            | (have:l'=0:=by omega
               have:h'=xs.length:=by omega
               subst_vars
               simp [Instr.sliceBounds,Instr.sliceBound,asIntOf])
      unfold execOp
      simp only [hx,Instr.sliceAt,Sem.run_bind,run_underlying ht.h,Result.andThen_ok,Instr.slice,hb,sizeOf,typeInfo,hq,run_program,Sem.run_pure,Option.map_none]
theorem el_slice {t:TypeId} {lo hi:Option Operand} [SliceT P t E'] {z:List Value} {m bytes:Nat} [ElemT P E' z m bytes] (hn:R.sz=m)
  (hx:ev e x=v) {xs ys:List α} (hr:(sliceR R E).rd wA [v] xs) {l h:Int} (hlo:(lo.map (ev e)=some (.int .i64 l))∨(lo=none∧l=0)) (hhi:(hi.map (ev e)=some (.int .i64 h))∨(hi=none∧h=xs.length)) (hq:slc xs l h=some ys) (hd:d<n)
  (hK:∀ v',(sliceR R E).rd wA [v'] ys→EL P n ops K rest (upd e d v') w):EL P n ops K (⟨some d,.slice t x lo hi none,ty,pos,af,none⟩ :: rest) e w:=by
 obtain ⟨v',h1,h2⟩:=pv_slice (P:=P) (d:=some d) (ty:=ty) (pos:=pos) (af:=af) (t:=t) hn hx hr hlo hhi hq
 exact el_pv (h2 _) hd (hK v' h1)
theorem ql_slice {t:TypeId} {lo hi:Option Operand} [SliceT P t E'] {z:List Value} {m bytes:Nat} [ElemT P E' z m bytes] (hn:R.sz=m)
  (hx:ev e x=v) {xs ys:List α} (hr:(sliceR R E).rd wA [v] xs) {l h:Int} (hlo:(lo.map (ev e)=some (.int .i64 l))∨(lo=none∧l=0)) (hhi:(hi.map (ev e)=some (.int .i64 h))∨(hi=none∧h=xs.length)) (hq:slc xs l h=some ys) (hd:d<n)
  (hK:∀ v',(sliceR R E).rd wA [v'] ys→QL P n ops w KQ rest (upd e d v')):QL P n ops w KQ (⟨some d,.slice t x lo hi none,ty,pos,af,none⟩ :: rest) e:=by
 obtain ⟨v',h1,h2⟩:=pv_slice (P:=P) (d:=some d) (ty:=ty) (pos:=pos) (af:=af) (t:=t) hn hx hr hlo hhi hq
 exact ql_pv (h2 _) hd (hK v' h1)
end
section
variable {P:Program} {fn:Func} {n:Nat} {e:Env} {w:World} {R:Ending→World→Prop}
theorem fin1 {t:Tmp} (h:fn.results=#[.tmp t]) {v:Value} (ht:e t=v) (hR:R (.returned v) w):Fin P fn n R .ret e w :=
 ⟨v,fun a ha=>by rw [results_tmp h,ha.get,ht],hR⟩
theorem fin2 {t u:Tmp} (h:fn.results=#[.tmp t,.tmp u]) {v v2:Value} (ht:e t=v) (hu:e u=v2) (hR:R (.returned (.tuple #[v,v2])) w):Fin P fn n R .ret e w :=
 ⟨_,fun a ha=>by rw [results_tmp2 h,ha.get,ha.get,ht,hu],hR⟩
theorem finC {p:Tmp} {ty:TypeId} {m:Nat} [AggT P ty m] (h:fn.results=#[.cell p ty]) {b off:Nat} {cs:List Value} (hp:e p=.pointer (some ⟨b,off,none⟩)) (hm:cs.length=m) (hc:∀ j c,cs[j]? = some c→w.cell? ⟨b,off+j,none⟩=some c) (hR:R (.returned (.agg cs.toArray)) w) :
  Fin P fn n R .ret e w:=by
 refine ⟨_,fun a ha=>?_,hR⟩
 have h1:a.tmps.getD p undef=.pointer (some ⟨b,off,none⟩):=by rw [ha.get,hp]
 have h1':a.tmps[p]?.getD undef=.pointer (some ⟨b,off,none⟩):=by simpa using h1
 simp [results,h,h1',asAddr,run_loadVar_agg (P:=P) (t:=ty) hm hc]
theorem finCT {p t:Tmp} {ty:TypeId} {m:Nat} [AggT P ty m] (h:fn.results=#[.cell p ty,.tmp t]) {b off:Nat} {cs:List Value} {v2:Value} (hp:e p=.pointer (some ⟨b,off,none⟩)) (hm:cs.length=m) (hc:∀ j c,cs[j]? = some c→w.cell? ⟨b,off+j,none⟩=some c) (ht:e t=v2) (hR:R (.returned (.tuple #[.agg cs.toArray,v2])) w) :
  Fin P fn n R .ret e w:=by
 refine ⟨_,fun a ha=>?_,hR⟩
 have h1:a.tmps.getD p undef=.pointer (some ⟨b,off,none⟩):=by rw [ha.get,hp]
 have h1':a.tmps[p]?.getD undef=.pointer (some ⟨b,off,none⟩):=by simpa using h1
 have h2:a.tmps.getD t undef=v2:=by rw [ha.get,ht]
 have h2':a.tmps[t]?.getD undef=v2:=by simpa using h2
 simp [results,h,h1',h2',asAddr,run_loadVar_agg (P:=P) (t:=ty) hm hc]
theorem finCTT {p t u:Tmp} {ty:TypeId} {m:Nat} [AggT P ty m] (h:fn.results=#[.cell p ty,.tmp t,.tmp u]) {b off:Nat} {cs:List Value} {v2 v3:Value} (hp:e p=.pointer (some ⟨b,off,none⟩)) (hm:cs.length=m) (hc:∀ j c,cs[j]? = some c→w.cell? ⟨b,off+j,none⟩=some c) (ht:e t=v2) (hu:e u=v3) (hR:R (.returned (.tuple #[.agg cs.toArray,v2,v3])) w) :
  Fin P fn n R .ret e w:=by
 refine ⟨_,fun a ha=>?_,hR⟩
 have h1:a.tmps.getD p undef=.pointer (some ⟨b,off,none⟩):=by rw [ha.get,hp]
 have h1':a.tmps[p]?.getD undef=.pointer (some ⟨b,off,none⟩):=by simpa using h1
 have h2:a.tmps.getD t undef=v2:=by rw [ha.get,ht]
 have h2':a.tmps[t]?.getD undef=v2:=by simpa using h2
 have h3:a.tmps.getD u undef=v3:=by rw [ha.get,hu]
 have h3':a.tmps[u]?.getD undef=v3:=by simpa using h3
 simp [results,h,h1',h2',h3',asAddr,run_loadVar_agg (P:=P) (t:=ty) hm hc]
end
end Go.Proofs.Ytkpeabpdiffjhaa
namespace Go.Proofs.Ytkpeabpdiffjhaa
open Go.RowKit

def boolR:Rep Bool where
 sz:=1
 rd _ cs b:=cs=[.bool b]
 own _ cs b fp:=cs=[.bool b]∧fp=[]
 rd_len h:=by subst h;rfl
 rd_one h:=by subst h;simp [Value.oneCell']
 rd_ext h _:=h
 own_rd h:=h.1
 own_ext h _:=h
 own_lt h:=by rw [h.2];simp
def u8R:Rep Int where
 sz:=1
 rd _ cs n:=cs=[.int .u8 n]
 own _ cs n fp:=cs=[.int .u8 n]∧fp=[]
 rd_len h:=by subst h;rfl
 rd_one h:=by subst h;simp [Value.oneCell']
 rd_ext h _:=h
 own_rd h:=h.1
 own_ext h _:=h
 own_lt h:=by rw [h.2];simp

def lpS {R V S:Type} (s:Sum R V) (f:R→Option S) (g:V→Option S):Option S:=match s with | .inl r=>f r | .inr v=>g v
def lpB {V S:Type} (s:V) (g:V→Option S):Option S:=g s
theorem exA {R V S:Type} {s:Sum R V} {v:V} {f:R→Option S} {g:V→Option S} {r:S} (h:some (Sum.inr v)=some s) (hK:lpS s f g=some r):g v=some r:=by cases h;exact hK
theorem exL {R V S:Type} {s:Sum R V} {q:R} {f:R→Option S} {g:V→Option S} {r:S} (h:some (Sum.inl q)=some s) (hK:lpS s f g=some r):f q=some r:=by cases h;exact hK
theorem exB {V S:Type} {s v:V} {g:V→Option S} {r:S} (h:some v=some s) (hK:lpB s g=some r):g v=some r:=by cases h;exact hK
theorem mapc {α β:Type} {f:α→β} {a:α} {b:β} {l:List α} {m:List β} (h:f a=b) (t:l.map f=m):(a :: l).map f=b :: m:=by rw [List.map_cons,h,t]
theorem bnot_t {x:Bool} (h:x=true):(!x)=false:=by rw [h];rfl
theorem bnot_f {x:Bool} (h:x=false):(!x)=true:=by rw [h];rfl

theorem el_offu {P:Program} {n:Nat} {ops:Array Oper} {K:Env→World→Prop} {rest:List Oper} {e:Env} {w:World} {op:Op} {ty:TypeId} {pos:String} {af:Array Edge} {j:Nat} {b':Bool} {d:Nat} (h:(match (ops[j]?).bind (·.dst) with | some t=>e t | none=>undef)=undef) (hd:d<n) (hK:EL P n ops K rest (upd e d undef) w):EL P n ops K (⟨some d,op,ty,pos,af,some (j,b')⟩ :: rest) e w:=by
 intro a ha
 have hy:yielded ops a.tmps j=none:=yielded_none ha h
 unfold wpList
 rw [if_neg (by simp [Region.wanted,hy])]
 exact hK _ (ha.put hd _)
theorem ql_offu {P:Program} {n:Nat} {ops:Array Oper} {KQ:Env→Prop} {rest:List Oper} {e:Env} {w:World} {op:Op} {ty:TypeId} {pos:String} {af:Array Edge} {j:Nat} {b':Bool} {d:Nat} (h:(match (ops[j]?).bind (·.dst) with | some t=>e t | none=>undef)=undef) (hd:d<n) (hK:QL P n ops w KQ rest (upd e d undef)):QL P n ops w KQ (⟨some d,op,ty,pos,af,some (j,b')⟩ :: rest) e:=by
 intro a ha
 have hy:yielded ops a.tmps j=none:=yielded_none ha h
 unfold wpQuiet
 rw [if_neg (by simp [Region.wanted,hy])]
 exact hK _ (ha.put hd _)
theorem oc {w:World} {α:Type} {R:Rep α} {E:TypeId} {v:Value} {xs:List α} (h:(sliceR R E).rd w [v] xs):v.oneCell'=true:=(sliceR R E).rd_one h v (List.mem_singleton.2 rfl)
theorem cells_of {e:Env} {x:Operand} {v:Value} (h:ev e x=v) (h1:v.oneCell'=true):(ev e x).cells=[v].toArray:=by rw [h];exact cells_one h1
theorem all_cons {α:Type} {p:α→Bool} {a:α} {l:List α} (h:p a=true) (t:l.all p=true):(a :: l).all p=true:=by simp [h,t]
theorem cells_sub {w:World} {b off:Nat} {cs:List Value} (h:∀ j c,cs[j]? = some c→w.cell? ⟨b,off+j,none⟩=some c) (k n:Nat):∀ j c,((cs.drop k).take n)[j]? = some c→w.cell? ⟨b,off+k+j,none⟩=some c:=by
 intro j c hj
 rw [List.getElem?_take] at hj
 split at hj
 ·rw [List.getElem?_drop] at hj;rw [Nat.add_assoc];exact h _ c hj
 ·cases hj
section
variable {w w0 wA:World} {Γ rest:List Asn} {α:Type} {R:Rep α} {E:TypeId} {v:Value} {xs:List α}
theorem Sat.top (i:Nat) {A:Asn} (h:Sat w0 w Γ) (hi:Γ[i]? = some A):Sat w0 w (A :: Γ.eraseIdx i):=by
 refine h.perm ?_
 clear h
 induction Γ generalizing i with
 | nil=>simp at hi
 | cons B Γ ih =>
  cases i with
  | zero=>simp at hi;subst hi;exact .refl _
  | succ i =>
   simp at hi
   exact (List.Perm.cons B (ih i hi)).trans (.swap _ _ _)
theorem Sat.rdAt (i:Nat) {cs:List Value} {x:α} {R:Rep α} (h:Sat w0 w Γ) (hi:Γ[i]? = some (Own R cs x)):R.rd w cs x:=(h.top i hi).rd
theorem Sat.nil (R:Rep α) (E:TypeId) (h:Sat w0 w Γ):Sat w0 w (Own (sliceR R E) [.slice none 0 0] [] :: Γ):=h.add (.inl ⟨rfl,rfl,rfl⟩)
theorem Sat.bool (h:Sat w0 w Γ) (b:Bool):Sat w0 w (Own boolR [.bool b] b :: Γ):=h.add ⟨rfl,rfl⟩
theorem Sat.u8 (h:Sat w0 w Γ) (n:Int):Sat w0 w (Own u8R [.int .u8 n] n :: Γ):=h.add ⟨rfl,rfl⟩
theorem slice_one {cs:List Value} (h:(sliceR R E).rd w cs xs):∃ v,cs=[v]:=List.length_eq_one_iff.1 ((sliceR R E).rd_len h)
theorem rd_up {cs:List Value} {x:α} (h:R.rd w0 cs x) (hx:Ext w0 w):R.rd w cs x:=R.rd_ext h hx
theorem Sat.up {cs:List Value} {x:α} (hS:Sat w0 w Γ) (h:R.rd w0 cs x):R.rd w cs x:=R.rd_ext h hS.below
theorem Sat.boxAt (i:Nat) {b:Nat} {cs:List Value} (h:Sat w0 w Γ) (hi:Γ[i]? = some (Box b E cs)):∀ j c,cs[j]? = some c→w.cell? ⟨b,j,none⟩=some c:=by
 have h2:=h.top i hi
 exact h2.boxCell
theorem boxc {b:Nat} {cs:List Value} (h:∀ j c,cs[j]? = some c→w.cell? ⟨b,j,none⟩=some c) (k n:Nat):∀ j c,((cs.drop k).take n)[j]? = some c→w.cell? ⟨b,k+j,none⟩=some c:=by
 intro j c hj
 rw [List.getElem?_take] at hj
 split at hj
 ·rw [List.getElem?_drop] at hj;exact h _ c hj
 ·cases hj
theorem boxc0 {b:Nat} {cs:List Value} (h:∀ j c,cs[j]? = some c→w.cell? ⟨b,j,none⟩=some c):∀ j c,cs[j]? = some c→w.cell? ⟨b,0+j,none⟩=some c:=by
 intro j c hj;rw [Nat.zero_add];exact h j c hj
theorem Sat.boxRow (i:Nat) {b:Nat} {cs:List Value} (h:Sat w0 w Γ) (hi:Γ[i]? = some (Box b E cs)):rowAt w (some ⟨b,0,none⟩) cs :=
 .inr ⟨b,0,rfl,boxc0 (h.boxAt i hi)⟩
theorem Sat.lit1 {b:Nat} {cs:List Value} {y:α} (h:Sat w0 w (Box b E cs :: Own R cs y :: Γ)):Sat w0 w (Own (sliceR R E) [.slice (some ⟨b,0,none⟩) 1 1] [y] :: Γ):=by
 refine h.join ?_
 rintro f g ⟨rfl,h1⟩ h2
 have hl:=R.rd_len (R.own_rd h2)
 refine .inr ⟨b,1,cs.toArray,cs,g,rfl,h1,by simp,by unfold maxLen;omega,by simp [hl],by simp [← hl],⟨cs,[],g,[],by simp,by simp,h2,rfl,rfl⟩,by simp⟩
theorem rdL_ints {ccs:List Value} {ys:List Int} (h:rdL intR w ccs ys):ccs=ys.map (Value.int .i64):=by
 induction ys generalizing ccs with
 | nil=>simpa [rdL] using h
 | cons y ys ih =>
  obtain ⟨ec,r,rfl,h1,h2⟩:=h
  obtain rfl:=ih h2
  have:ec=[.int .i64 y]:=h1
  rw [this];rfl
theorem row_ints {v:Value} {ys:List Int} (h:(sliceR intR E).rd w [v] ys):∃ ao c,v=.slice ao ys.length c∧(ao=none→c=0)∧rowAt w ao (ys.map (Value.int .i64)):=by
 obtain ⟨ao,cap,ccs,hv,h1,h2,h3,h4,h5⟩:=h
 obtain rfl:=rdL_ints h4
 exact ⟨ao,cap,by simpa using hv,h3,h5⟩
end
section
variable {P:Program} {n:Nat} {ops:Array Oper} {K:Env→World→Prop} {rest:List Oper} {e:Env} {w w0 wA:World} {v:Value} {d:Nat} {ty:TypeId} {pos:String} {af:Array Edge} {Γ rΓ:List Asn} {x y:Operand} {α:Type} {R:Rep α} {E E':TypeId}
theorem el_indexO {t:TypeId} [ht:SliceT P t E] {zz:List Value} {m bytes:Nat} [hz:ElemT P E zz m bytes] {xs:List α} (hS:Sat w0 w (Own (sliceR R E) [v] xs :: Γ)) (hs:ev e x=v)
  (hn:R.sz=m) (hpos:0<m) {k:IntKind} {i:Int} (hi:ev e y=.int k i) {u:α} (h:ix xs i=some u) (hd:d<n)
  (hK:∀ g cap ec,v=.slice (some ⟨g,0,none⟩) xs.length cap→R.rd w ec u→(∀ j c,ec[j]? = some c→w.cell? ⟨g,i.toNat*m+j,none⟩=some c)→EL P n ops K rest (upd e d (.pointer (some ⟨g,i.toNat*m,none⟩))) w) :
  EL P n ops K (⟨some d,.indexAddr t x y,ty,pos,af,none⟩ :: rest) e w:=by
 obtain ⟨k',rfl,hk,rfl⟩:=ix_some h
 obtain ⟨fp,hv,_⟩:=hS.head
 rcases hv with ⟨_,h2,_⟩ | ⟨g,cap,cur,ccs,f2,hv,hg,h1,h2,h3,h4,h5,rfl⟩
 ·subst h2;simp at hk
 obtain rfl:v=.slice (some ⟨g,0,none⟩) xs.length cap:=by simpa using hv
 obtain ⟨ec,hec,hcc⟩:=rdL_at (ownL_rdL h5) k' hk
 have hz:=hz.h
 cases hq:P.info? E with
 | none=>simp [hq] at hz
 | some inf =>
  simp [hq] at hz
  have hsz:inf.size=m:=hz.2.1
  refine el_pv (v:=.pointer (some ⟨g,k'*m,none⟩)) ?_ hd ?_
  ·intro w' _
   unfold execOp
   simp [hs,hi,Instr.indexAt,asIntOf,run_underlying ht.h,sizeOf,typeInfo,hq,hk,Addr.add_lit,hsz]
  ·refine hK g cap ec rfl hec ?_
   intro j c hj
   have h0:=hcc j c hj
   simp only [Int.toNat_natCast]
   rw [cell_of_row w g _ cur E (0,0) hg,← Array.getElem?_toList]
   rw [← h4,List.getElem?_take] at h0
   rw [← hn]
   split at h0
   ·exact h0
   ·cases h0
theorem el_storeO {t:TypeId} {z:List Value} {m bytes:Nat} [ElemT P t z m bytes] (hn:R.sz=m) {ec:List Value} {yv:α} {xs ys:List α} {g ln cap:Nat} (hv:v=.slice (some ⟨g,0,none⟩) ln cap)
  (hS:Sat w0 w (Own R ec yv :: Own (sliceR R E) [v] xs :: Γ)) {i:Int} (h:sto xs i yv=some ys) (hx:ev e x=.pointer (some ⟨g,i.toNat*m,none⟩)) (hy:(ev e y).cells=ec.toArray)
  (hK:∀ w',Sat w0 w' (Own (sliceR R E) [v] ys :: Γ)→EL P n ops K rest e w'):EL P n ops K (⟨none,.store t x y,ty,pos,af,none⟩ :: rest) e w:=by
 subst hv
 have h0:0≤i:=by
  unfold sto at h;split at h
  ·rename_i h1;exact h1.1
  ·cases h
 exact el_storeo hn hS i.toNat (i.toNat*m) (by omega) h rfl hx hy hK
end
class BldT (P:Program) (t:TypeId) (pl:outParam (Array (Nat × Nat))):Prop where
 h:∃ fs,P.underlying t=some (.struct fs)∧∀ w,(fs.mapM (fun f=>do pure (f.offset,← sizeOf f.type)):Sem (Array (Nat × Nat))).run P w=.ok pl w
def fillC (place:Nat→Option (Nat × Nat)) (cells:List Value):List (Nat × List Value)→Option (List Value)
  | []=>some cells
  | (i,v) :: rest=>match place i with
    | none=>none
    | some (off,size)=>bif Nat.beq v.length size&&Nat.ble (off+v.length) cells.length then fillC place (cells.take off++v++cells.drop (off+v.length)) rest else none
theorem foldl_set:∀ (v:List Value) (off k:Nat) (cells:List Value),off+k+v.length≤cells.length →
  ((v.zipIdx k).foldl (fun (cs:Array Value) (c:Value × Nat)=>cs.setIfInBounds (off+c.2) c.1) cells.toArray)=(cells.take (off+k)++v++cells.drop (off+k+v.length)).toArray
 | [],off,k,cells,h=>by simp
 | x :: v,off,k,cells,h=>by
  simp only [List.length_cons] at h
  have hi:off+k<cells.length:=by omega
  simp only [List.zipIdx_cons,List.foldl_cons,List.setIfInBounds_toArray]
  rw [foldl_set v off (k+1) (cells.set (off+k) x) (by simp;omega)]
  have e1:(cells.set (off+k) x).take (off+(k+1))=cells.take (off+k)++[x]:=by
   rw [show off+(k+1)=(off+k)+1 by omega,List.take_set,List.take_succ_eq_append_getElem hi,List.set_append_right _ _ (by simp;omega)]
   simp [show min (off+k) cells.length=off+k by omega]
  have e2:(cells.set (off+k) x).drop (off+(k+1)+v.length)=cells.drop (off+k+(x :: v).length):=by
   rw [List.drop_set_of_lt (by omega)]
   congr 1
   simp only [List.length_cons];omega
  rw [e1,e2];simp
theorem fill_eq (place:Nat→Option (Nat × Nat)):∀ (ps:List (Nat × Value)) (qs:List (Nat × List Value)) (cells:List Value) {r:List Value},ps.map (fun p=>(p.1,p.2.cells))=qs.map (fun q=>(q.1,q.2.toArray))→fillC place cells qs=some r→Instr.fill place cells.toArray ps=some r.toArray
  | [],[],cells,r,_,h=>by simp only [fillC,Option.some.injEq] at h;subst h;rfl
  | [],_ :: _,_,_,h,_=>by simp at h
  | _ :: _,[],_,_,h,_=>by simp at h
  | (i,v) :: ps,(j,c) :: qs,cells,r,h,hf=>by
    simp only [List.map_cons,List.cons.injEq,Prod.mk.injEq] at h
    obtain ⟨⟨rfl,hc⟩,ht⟩:=h
    unfold fillC at hf
    unfold Instr.fill
    cases hp:place i with
    | none=>simp [hp] at hf
    | some os =>
      obtain ⟨off,size⟩:=os
      simp only [hp] at hf ⊢
      cases hb:(Nat.beq c.length size&&Nat.ble (off+c.length) cells.length) with
      | false=>rw [hb] at hf;cases hf
      | true =>
        rw [hb] at hf
        simp only [Bool.and_eq_true] at hb
        have h1:=Nat.eq_of_beq_eq_true hb.1
        have h2:=Nat.le_of_ble_eq_true hb.2
        rw [hc]
        have hn:(decide (c.toArray.size≠size)||decide (off+c.toArray.size > cells.toArray.size))=false:=by simp;omega
        rw [if_neg (by simp only [hn];simp)]
        have:=foldl_set c off 0 cells (by omega)
        simp only [Nat.add_zero] at this
        have e:c.toArray.zipIdx.foldl (fun cs (c,j)=>cs.setIfInBounds (off+j) c) cells.toArray=(cells.take off++c++cells.drop (off+c.length)).toArray:=by
          rw [← this]
          simp
        rw [e]
        exact fill_eq place ps qs _ ht hf
theorem pv_build {P:Program} {e:Env} {w:World} {d:Option Nat} {ty:TypeId} {pos:String} {af:Array Edge} {t:TypeId} {z:List Value} {n bytes:Nat} {pl:Array (Nat × Nat)} [hz:ElemT P t z n bytes] [hb:BldT P t pl] {parts:Array (Nat × Operand)} (qs:List (Nat × List Value)) (r:List Value)
  (hp:parts.toList.map (fun p=>(p.1,(ev e p.2).cells))=qs.map (fun q=>(q.1,q.2.toArray))) (hf:fillC (pl[·]?) z qs=some r):PV P ⟨d,.build t parts,ty,pos,af,none⟩ e w (.agg r.toArray):=fun w' _=>by
 have hz:=hz.h
 obtain ⟨fs,h1,h2⟩:=hb.h
 cases hi:P.info? t with
 | none=>simp [hi] at hz
 | some i =>
 cases hzz:i.zero with
 | none=>simp [hi,hzz] at hz
 | some zv =>
 simp [hi,hzz] at hz
 have hzc:zv.cells=z.toArray:=by rw [← hz.1]
 have hff:=fill_eq (pl[·]?) (parts.toList.map fun p=>(p.1,ev e p.2)) qs z (by rw [List.map_map];exact hp) hf
 unfold execOp
 simp only [Instr.build,zeroValue,typeInfo,hi,hzz,Sem.run_bind,Sem.run_pure,run_program,Result.andThen_ok,run_underlying h1,h2,hzc,Array.toList_map]
 rw [hff]
 simp
theorem partc {e:Env} {i:Nat} {x:Operand} {c:List Value} {l:List (Nat × Operand)} {m:List (Nat × List Value)} (h:(ev e x).cells=c.toArray) (t:l.map (fun p=>(p.1,(ev e p.2).cells))=m.map (fun q=>(q.1,q.2.toArray))) :
  ((i,x) :: l).map (fun p=>(p.1,(ev e p.2).cells))=((i,c) :: m).map (fun q=>(q.1,q.2.toArray)):=by
 rw [List.map_cons,List.map_cons,t,h]
theorem Sat.pair3 {w0 w:World} {Γ:List Asn} {α β γ:Type} {R:Rep α} {S:Rep β} {T:Rep γ} {c d f:List Value} {x:α} {y:β} {z:γ} (h:Sat w0 w (Own R c x :: Own S d y :: Own T f z :: Γ)):Sat w0 w (Own (pairR R (pairR S T)) (c++(d++f)) (x,y,z) :: Γ):=by
 have h1:Sat w0 w (Own S d y :: Own T f z :: Own R c x :: Γ):=h.perm (List.Perm.trans (.swap _ _ _) (List.Perm.cons _ (.swap _ _ _)))
 have h2:=h1.pair
 exact (h2.perm (.swap _ _ _)).pair
end Go.Proofs.Ytkpeabpdiffjhaa
namespace Go.Proofs.Ytkpeabpdiffjhaa
-- int64
instance:PlainT Try.prog 2:=⟨_,Try.underlying2,trivial⟩
instance:ElemT Try.prog 2 [.int .i64 0] 1 8:=⟨by kernel_rfl⟩
-- int
instance:PlainT Try.prog 3:=⟨_,Try.underlying3,trivial⟩
instance:ElemT Try.prog 3 [.int .i64 0] 1 8:=⟨by kernel_rfl⟩
-- bool
instance:PlainT Try.prog 4:=⟨_,Try.underlying4,trivial⟩
instance:ElemT Try.prog 4 [.bool false] 1 1:=⟨by kernel_rfl⟩
-- uint8
instance:PlainT Try.prog 5:=⟨_,Try.underlying5,trivial⟩
instance:ElemT Try.prog 5 [.int .u8 0] 1 1:=⟨by kernel_rfl⟩
-- string
instance:PlainT Try.prog 9:=⟨_,Try.underlying9,trivial⟩
instance:ElemT Try.prog 9 [.string ByteArray.empty] 1 16:=⟨by kernel_rfl⟩
-- uintptr
instance:PlainT Try.prog 12:=⟨_,Try.underlying12,trivial⟩
instance:ElemT Try.prog 12 [.int .u64 0] 1 8:=⟨by kernel_rfl⟩
-- int32
instance:PlainT Try.prog 21:=⟨_,Try.underlying21,trivial⟩
instance:ElemT Try.prog 21 [.int .i32 0] 1 4:=⟨by kernel_rfl⟩
-- []laws.Atom
instance:PlainT Try.prog 22:=⟨_,Try.underlying22,trivial⟩
instance:SliceT Try.prog 22 113:=⟨Try.underlying22⟩
instance:ElemT Try.prog 22 [.slice none 0 0] 1 24:=⟨by kernel_rfl⟩
-- []int
instance:PlainT Try.prog 23:=⟨_,Try.underlying23,trivial⟩
instance:SliceT Try.prog 23 3:=⟨Try.underlying23⟩
instance:ElemT Try.prog 23 [.slice none 0 0] 1 24:=⟨by kernel_rfl⟩
-- struct { VariableCount int;Atoms []laws.Atom;Output []int }
instance:AggT Try.prog 24 3:=⟨⟨_,Try.underlying24,trivial⟩,by kernel_rfl⟩
instance:FldT Try.prog 24 0 0:=⟨_,_,Try.underlying24,rfl,rfl,by kernel_rfl⟩
instance:FldT Try.prog 24 1 1:=⟨_,_,Try.underlying24,rfl,rfl,by kernel_rfl⟩
instance:FldT Try.prog 24 2 2:=⟨_,_,Try.underlying24,rfl,rfl,by kernel_rfl⟩
instance:BldT Try.prog 24 #[(0,1),(1,1),(2,1)]:=⟨_,Try.underlying24,fun w=>by kernel_rfl⟩
instance:ElemT Try.prog 24 [.int .i64 0,.slice none 0 0,.slice none 0 0] 3 56:=⟨by kernel_rfl⟩
-- laws.Query
instance:AggT Try.prog 25 3:=⟨⟨_,Try.underlying25,trivial⟩,by kernel_rfl⟩
instance:FldT Try.prog 25 0 0:=⟨_,_,Try.underlying25,rfl,rfl,by kernel_rfl⟩
instance:FldT Try.prog 25 1 1:=⟨_,_,Try.underlying25,rfl,rfl,by kernel_rfl⟩
instance:FldT Try.prog 25 2 2:=⟨_,_,Try.underlying25,rfl,rfl,by kernel_rfl⟩
instance:BldT Try.prog 25 #[(0,1),(1,1),(2,1)]:=⟨_,Try.underlying25,fun w=>by kernel_rfl⟩
instance:ElemT Try.prog 25 [.int .i64 0,.slice none 0 0,.slice none 0 0] 3 56:=⟨by kernel_rfl⟩
-- []impl.Atom
instance:PlainT Try.prog 28:=⟨_,Try.underlying28,trivial⟩
instance:SliceT Try.prog 28 96:=⟨Try.underlying28⟩
instance:ElemT Try.prog 28 [.slice none 0 0] 1 24:=⟨by kernel_rfl⟩
-- struct { VariableCount int;Atoms []impl.Atom;Output []int }
instance:AggT Try.prog 29 3:=⟨⟨_,Try.underlying29,trivial⟩,by kernel_rfl⟩
instance:FldT Try.prog 29 0 0:=⟨_,_,Try.underlying29,rfl,rfl,by kernel_rfl⟩
instance:FldT Try.prog 29 1 1:=⟨_,_,Try.underlying29,rfl,rfl,by kernel_rfl⟩
instance:FldT Try.prog 29 2 2:=⟨_,_,Try.underlying29,rfl,rfl,by kernel_rfl⟩
instance:BldT Try.prog 29 #[(0,1),(1,1),(2,1)]:=⟨_,Try.underlying29,fun w=>by kernel_rfl⟩
instance:ElemT Try.prog 29 [.int .i64 0,.slice none 0 0,.slice none 0 0] 3 56:=⟨by kernel_rfl⟩
-- impl.Query
instance:AggT Try.prog 30 3:=⟨⟨_,Try.underlying30,trivial⟩,by kernel_rfl⟩
instance:FldT Try.prog 30 0 0:=⟨_,_,Try.underlying30,rfl,rfl,by kernel_rfl⟩
instance:FldT Try.prog 30 1 1:=⟨_,_,Try.underlying30,rfl,rfl,by kernel_rfl⟩
instance:FldT Try.prog 30 2 2:=⟨_,_,Try.underlying30,rfl,rfl,by kernel_rfl⟩
instance:BldT Try.prog 30 #[(0,1),(1,1),(2,1)]:=⟨_,Try.underlying30,fun w=>by kernel_rfl⟩
instance:ElemT Try.prog 30 [.int .i64 0,.slice none 0 0,.slice none 0 0] 3 56:=⟨by kernel_rfl⟩
-- []laws.Rational
instance:PlainT Try.prog 34:=⟨_,Try.underlying34,trivial⟩
instance:SliceT Try.prog 34 85:=⟨Try.underlying34⟩
instance:ElemT Try.prog 34 [.slice none 0 0] 1 24:=⟨by kernel_rfl⟩
-- []impl.Rational
instance:PlainT Try.prog 38:=⟨_,Try.underlying38,trivial⟩
instance:SliceT Try.prog 38 83:=⟨Try.underlying38⟩
instance:ElemT Try.prog 38 [.slice none 0 0] 1 24:=⟨by kernel_rfl⟩
-- []laws.Table
instance:PlainT Try.prog 43:=⟨_,Try.underlying43,trivial⟩
instance:SliceT Try.prog 43 128:=⟨Try.underlying43⟩
instance:ElemT Try.prog 43 [.slice none 0 0] 1 24:=⟨by kernel_rfl⟩
-- struct { Tables []laws.Table }
instance:AggT Try.prog 44 1:=⟨⟨_,Try.underlying44,trivial⟩,by kernel_rfl⟩
instance:FldT Try.prog 44 0 0:=⟨_,_,Try.underlying44,rfl,rfl,by kernel_rfl⟩
instance:BldT Try.prog 44 #[(0,1)]:=⟨_,Try.underlying44,fun w=>by kernel_rfl⟩
instance:ElemT Try.prog 44 [.slice none 0 0] 1 24:=⟨by kernel_rfl⟩
-- laws.Database
instance:AggT Try.prog 45 1:=⟨⟨_,Try.underlying45,trivial⟩,by kernel_rfl⟩
instance:FldT Try.prog 45 0 0:=⟨_,_,Try.underlying45,rfl,rfl,by kernel_rfl⟩
instance:BldT Try.prog 45 #[(0,1)]:=⟨_,Try.underlying45,fun w=>by kernel_rfl⟩
instance:ElemT Try.prog 45 [.slice none 0 0] 1 24:=⟨by kernel_rfl⟩
-- []impl.Trie
instance:PlainT Try.prog 47:=⟨_,Try.underlying47,trivial⟩
instance:SliceT Try.prog 47 91:=⟨Try.underlying47⟩
instance:ElemT Try.prog 47 [.slice none 0 0] 1 24:=⟨by kernel_rfl⟩
-- []impl.Table
instance:PlainT Try.prog 50:=⟨_,Try.underlying50,trivial⟩
instance:SliceT Try.prog 50 135:=⟨Try.underlying50⟩
instance:ElemT Try.prog 50 [.slice none 0 0] 1 24:=⟨by kernel_rfl⟩
-- struct { Tables []impl.Table }
instance:AggT Try.prog 51 1:=⟨⟨_,Try.underlying51,trivial⟩,by kernel_rfl⟩
instance:FldT Try.prog 51 0 0:=⟨_,_,Try.underlying51,rfl,rfl,by kernel_rfl⟩
instance:BldT Try.prog 51 #[(0,1)]:=⟨_,Try.underlying51,fun w=>by kernel_rfl⟩
instance:ElemT Try.prog 51 [.slice none 0 0] 1 24:=⟨by kernel_rfl⟩
-- impl.Database
instance:AggT Try.prog 52 1:=⟨⟨_,Try.underlying52,trivial⟩,by kernel_rfl⟩
instance:FldT Try.prog 52 0 0:=⟨_,_,Try.underlying52,rfl,rfl,by kernel_rfl⟩
instance:BldT Try.prog 52 #[(0,1)]:=⟨_,Try.underlying52,fun w=>by kernel_rfl⟩
instance:ElemT Try.prog 52 [.slice none 0 0] 1 24:=⟨by kernel_rfl⟩
-- [][]int
instance:PlainT Try.prog 60:=⟨_,Try.underlying60,trivial⟩
instance:SliceT Try.prog 60 23:=⟨Try.underlying60⟩
instance:ElemT Try.prog 60 [.slice none 0 0] 1 24:=⟨by kernel_rfl⟩
-- struct { Arity int;Rows [][]int }
instance:AggT Try.prog 61 2:=⟨⟨_,Try.underlying61,trivial⟩,by kernel_rfl⟩
instance:FldT Try.prog 61 0 0:=⟨_,_,Try.underlying61,rfl,rfl,by kernel_rfl⟩
instance:FldT Try.prog 61 1 1:=⟨_,_,Try.underlying61,rfl,rfl,by kernel_rfl⟩
instance:BldT Try.prog 61 #[(0,1),(1,1)]:=⟨_,Try.underlying61,fun w=>by kernel_rfl⟩
instance:ElemT Try.prog 61 [.int .i64 0,.slice none 0 0] 2 32:=⟨by kernel_rfl⟩
-- impl.Relation
instance:AggT Try.prog 62 2:=⟨⟨_,Try.underlying62,trivial⟩,by kernel_rfl⟩
instance:FldT Try.prog 62 0 0:=⟨_,_,Try.underlying62,rfl,rfl,by kernel_rfl⟩
instance:FldT Try.prog 62 1 1:=⟨_,_,Try.underlying62,rfl,rfl,by kernel_rfl⟩
instance:BldT Try.prog 62 #[(0,1),(1,1)]:=⟨_,Try.underlying62,fun w=>by kernel_rfl⟩
instance:ElemT Try.prog 62 [.int .i64 0,.slice none 0 0] 2 32:=⟨by kernel_rfl⟩
-- struct { Digits []int }
instance:AggT Try.prog 75 1:=⟨⟨_,Try.underlying75,trivial⟩,by kernel_rfl⟩
instance:FldT Try.prog 75 0 0:=⟨_,_,Try.underlying75,rfl,rfl,by kernel_rfl⟩
instance:BldT Try.prog 75 #[(0,1)]:=⟨_,Try.underlying75,fun w=>by kernel_rfl⟩
instance:ElemT Try.prog 75 [.slice none 0 0] 1 24:=⟨by kernel_rfl⟩
-- impl.BigInt
instance:AggT Try.prog 76 1:=⟨⟨_,Try.underlying76,trivial⟩,by kernel_rfl⟩
instance:FldT Try.prog 76 0 0:=⟨_,_,Try.underlying76,rfl,rfl,by kernel_rfl⟩
instance:BldT Try.prog 76 #[(0,1)]:=⟨_,Try.underlying76,fun w=>by kernel_rfl⟩
instance:ElemT Try.prog 76 [.slice none 0 0] 1 24:=⟨by kernel_rfl⟩
-- struct { Num int;Den int }
instance:AggT Try.prog 82 2:=⟨⟨_,Try.underlying82,trivial⟩,by kernel_rfl⟩
instance:FldT Try.prog 82 0 0:=⟨_,_,Try.underlying82,rfl,rfl,by kernel_rfl⟩
instance:FldT Try.prog 82 1 1:=⟨_,_,Try.underlying82,rfl,rfl,by kernel_rfl⟩
instance:BldT Try.prog 82 #[(0,1),(1,1)]:=⟨_,Try.underlying82,fun w=>by kernel_rfl⟩
instance:ElemT Try.prog 82 [.int .i64 0,.int .i64 0] 2 16:=⟨by kernel_rfl⟩
-- impl.Rational
instance:AggT Try.prog 83 2:=⟨⟨_,Try.underlying83,trivial⟩,by kernel_rfl⟩
instance:FldT Try.prog 83 0 0:=⟨_,_,Try.underlying83,rfl,rfl,by kernel_rfl⟩
instance:FldT Try.prog 83 1 1:=⟨_,_,Try.underlying83,rfl,rfl,by kernel_rfl⟩
instance:BldT Try.prog 83 #[(0,1),(1,1)]:=⟨_,Try.underlying83,fun w=>by kernel_rfl⟩
instance:ElemT Try.prog 83 [.int .i64 0,.int .i64 0] 2 16:=⟨by kernel_rfl⟩
-- laws.Rational
instance:AggT Try.prog 85 2:=⟨⟨_,Try.underlying85,trivial⟩,by kernel_rfl⟩
instance:FldT Try.prog 85 0 0:=⟨_,_,Try.underlying85,rfl,rfl,by kernel_rfl⟩
instance:FldT Try.prog 85 1 1:=⟨_,_,Try.underlying85,rfl,rfl,by kernel_rfl⟩
instance:BldT Try.prog 85 #[(0,1),(1,1)]:=⟨_,Try.underlying85,fun w=>by kernel_rfl⟩
instance:ElemT Try.prog 85 [.int .i64 0,.int .i64 0] 2 16:=⟨by kernel_rfl⟩
-- impl.Trie
instance:AggT Try.prog 91 2:=⟨⟨_,Try.underlying91,trivial⟩,by kernel_rfl⟩
instance:FldT Try.prog 91 0 0:=⟨_,_,Try.underlying91,rfl,rfl,by kernel_rfl⟩
instance:FldT Try.prog 91 1 1:=⟨_,_,Try.underlying91,rfl,rfl,by kernel_rfl⟩
instance:BldT Try.prog 91 #[(0,1),(1,1)]:=⟨_,Try.underlying91,fun w=>by kernel_rfl⟩
instance:ElemT Try.prog 91 [.int .i64 0,.slice none 0 0] 2 32:=⟨by kernel_rfl⟩
-- struct { Relation string;Vars []int }
instance:AggT Try.prog 95 2:=⟨⟨_,Try.underlying95,trivial⟩,by kernel_rfl⟩
instance:FldT Try.prog 95 0 0:=⟨_,_,Try.underlying95,rfl,rfl,by kernel_rfl⟩
instance:FldT Try.prog 95 1 1:=⟨_,_,Try.underlying95,rfl,rfl,by kernel_rfl⟩
instance:BldT Try.prog 95 #[(0,1),(1,1)]:=⟨_,Try.underlying95,fun w=>by kernel_rfl⟩
instance:ElemT Try.prog 95 [.string ByteArray.empty,.slice none 0 0] 2 40:=⟨by kernel_rfl⟩
-- impl.Atom
instance:AggT Try.prog 96 2:=⟨⟨_,Try.underlying96,trivial⟩,by kernel_rfl⟩
instance:FldT Try.prog 96 0 0:=⟨_,_,Try.underlying96,rfl,rfl,by kernel_rfl⟩
instance:FldT Try.prog 96 1 1:=⟨_,_,Try.underlying96,rfl,rfl,by kernel_rfl⟩
instance:BldT Try.prog 96 #[(0,1),(1,1)]:=⟨_,Try.underlying96,fun w=>by kernel_rfl⟩
instance:ElemT Try.prog 96 [.string ByteArray.empty,.slice none 0 0] 2 40:=⟨by kernel_rfl⟩
-- struct { Variables []int;Relation impl.Relation }
instance:AggT Try.prog 104 3:=⟨⟨_,Try.underlying104,trivial⟩,by kernel_rfl⟩
instance:FldT Try.prog 104 0 0:=⟨_,_,Try.underlying104,rfl,rfl,by kernel_rfl⟩
instance:FldT Try.prog 104 1 1:=⟨_,_,Try.underlying104,rfl,rfl,by kernel_rfl⟩
instance:BldT Try.prog 104 #[(0,1),(1,2)]:=⟨_,Try.underlying104,fun w=>by kernel_rfl⟩
instance:ElemT Try.prog 104 [.slice none 0 0,.int .i64 0,.slice none 0 0] 3 56:=⟨by kernel_rfl⟩
-- impl.VarRelation
instance:AggT Try.prog 105 3:=⟨⟨_,Try.underlying105,trivial⟩,by kernel_rfl⟩
instance:FldT Try.prog 105 0 0:=⟨_,_,Try.underlying105,rfl,rfl,by kernel_rfl⟩
instance:FldT Try.prog 105 1 1:=⟨_,_,Try.underlying105,rfl,rfl,by kernel_rfl⟩
instance:BldT Try.prog 105 #[(0,1),(1,2)]:=⟨_,Try.underlying105,fun w=>by kernel_rfl⟩
instance:ElemT Try.prog 105 [.slice none 0 0,.int .i64 0,.slice none 0 0] 3 56:=⟨by kernel_rfl⟩
-- laws.Atom
instance:AggT Try.prog 113 2:=⟨⟨_,Try.underlying113,trivial⟩,by kernel_rfl⟩
instance:FldT Try.prog 113 0 0:=⟨_,_,Try.underlying113,rfl,rfl,by kernel_rfl⟩
instance:FldT Try.prog 113 1 1:=⟨_,_,Try.underlying113,rfl,rfl,by kernel_rfl⟩
instance:BldT Try.prog 113 #[(0,1),(1,1)]:=⟨_,Try.underlying113,fun w=>by kernel_rfl⟩
instance:ElemT Try.prog 113 [.string ByteArray.empty,.slice none 0 0] 2 40:=⟨by kernel_rfl⟩
-- []bool
instance:PlainT Try.prog 118:=⟨_,Try.underlying118,trivial⟩
instance:SliceT Try.prog 118 4:=⟨Try.underlying118⟩
instance:ElemT Try.prog 118 [.slice none 0 0] 1 24:=⟨by kernel_rfl⟩
-- laws.Relation
instance:AggT Try.prog 126 2:=⟨⟨_,Try.underlying126,trivial⟩,by kernel_rfl⟩
instance:FldT Try.prog 126 0 0:=⟨_,_,Try.underlying126,rfl,rfl,by kernel_rfl⟩
instance:FldT Try.prog 126 1 1:=⟨_,_,Try.underlying126,rfl,rfl,by kernel_rfl⟩
instance:BldT Try.prog 126 #[(0,1),(1,1)]:=⟨_,Try.underlying126,fun w=>by kernel_rfl⟩
instance:ElemT Try.prog 126 [.int .i64 0,.slice none 0 0] 2 32:=⟨by kernel_rfl⟩
-- struct { Name string;Relation laws.Relation }
instance:AggT Try.prog 127 3:=⟨⟨_,Try.underlying127,trivial⟩,by kernel_rfl⟩
instance:FldT Try.prog 127 0 0:=⟨_,_,Try.underlying127,rfl,rfl,by kernel_rfl⟩
instance:FldT Try.prog 127 1 1:=⟨_,_,Try.underlying127,rfl,rfl,by kernel_rfl⟩
instance:BldT Try.prog 127 #[(0,1),(1,2)]:=⟨_,Try.underlying127,fun w=>by kernel_rfl⟩
instance:ElemT Try.prog 127 [.string ByteArray.empty,.int .i64 0,.slice none 0 0] 3 48:=⟨by kernel_rfl⟩
-- laws.Table
instance:AggT Try.prog 128 3:=⟨⟨_,Try.underlying128,trivial⟩,by kernel_rfl⟩
instance:FldT Try.prog 128 0 0:=⟨_,_,Try.underlying128,rfl,rfl,by kernel_rfl⟩
instance:FldT Try.prog 128 1 1:=⟨_,_,Try.underlying128,rfl,rfl,by kernel_rfl⟩
instance:BldT Try.prog 128 #[(0,1),(1,2)]:=⟨_,Try.underlying128,fun w=>by kernel_rfl⟩
instance:ElemT Try.prog 128 [.string ByteArray.empty,.int .i64 0,.slice none 0 0] 3 48:=⟨by kernel_rfl⟩
-- struct { Name string;Relation impl.Relation }
instance:AggT Try.prog 134 3:=⟨⟨_,Try.underlying134,trivial⟩,by kernel_rfl⟩
instance:FldT Try.prog 134 0 0:=⟨_,_,Try.underlying134,rfl,rfl,by kernel_rfl⟩
instance:FldT Try.prog 134 1 1:=⟨_,_,Try.underlying134,rfl,rfl,by kernel_rfl⟩
instance:BldT Try.prog 134 #[(0,1),(1,2)]:=⟨_,Try.underlying134,fun w=>by kernel_rfl⟩
instance:ElemT Try.prog 134 [.string ByteArray.empty,.int .i64 0,.slice none 0 0] 3 48:=⟨by kernel_rfl⟩
-- impl.Table
instance:AggT Try.prog 135 3:=⟨⟨_,Try.underlying135,trivial⟩,by kernel_rfl⟩
instance:FldT Try.prog 135 0 0:=⟨_,_,Try.underlying135,rfl,rfl,by kernel_rfl⟩
instance:FldT Try.prog 135 1 1:=⟨_,_,Try.underlying135,rfl,rfl,by kernel_rfl⟩
instance:BldT Try.prog 135 #[(0,1),(1,2)]:=⟨_,Try.underlying135,fun w=>by kernel_rfl⟩
instance:ElemT Try.prog 135 [.string ByteArray.empty,.int .i64 0,.slice none 0 0] 3 48:=⟨by kernel_rfl⟩
-- []uint8
instance:PlainT Try.prog 153:=⟨_,Try.underlying153,trivial⟩
instance:SliceT Try.prog 153 5:=⟨Try.underlying153⟩
instance:ElemT Try.prog 153 [.slice none 0 0] 1 24:=⟨by kernel_rfl⟩
-- uint32
instance:PlainT Try.prog 163:=⟨_,Try.underlying163,trivial⟩
instance:ElemT Try.prog 163 [.int .u32 0] 1 4:=⟨by kernel_rfl⟩
end Go.Proofs.Ytkpeabpdiffjhaa
namespace Go.Proofs.Ytkpeabpdiffjhaa
open Go.RowKit

def AL (P:Program) (n:Nat) (ops:Array Oper) (X:List Nat) (C:World→Prop) (K:Env→World→Prop):Nat→Array Bool→Env→World→Prop
 | 0,L,e,w=>Region.ready .any ops L=[]∧K e w
 | f+1,L,e,w=>(Region.ready .any ops L=[]→K e w) ∧
  ∀ i∈Region.ready .any ops L,∃ o,ops[i]? = some o∧EL P n ops (fun e' w'=>(X.contains i=true→C w')∧AL P n ops X C K f (L.setIfInBounds i true) e' w') [o] e w

section
variable {P:Program} {n:Nat} {ops:Array Oper} {X:List Nat} {C:World→Prop} {K:Env→World→Prop}
theorem wp_nrm {o:Oper} {a:Act} {w:World} {N N2:Act→World→Prop} {K1 K2:Env→World→Prop} (h:∀ a w,N a w→N2 a w) (hh:o.wp P a w N (nrm n K1)):o.wp P a w N2 (nrm n K2):=by
  unfold Oper.wp at *
  generalize (execOp a.eval o).run P w=r at *
  cases r with
  | ok m w' =>
    cases m <;> simp only [Oper.upon] at hh ⊢ <;>
      first
        | exact h _ _ hh
        | exact Calls.mono hh (fun e w'' he=>by
            cases e with
            | returned v=>exact h _ _ he
            | panicked ch=>exact absurd he.1 (by simp)
            | outgrown=>obtain ⟨_,_,hx,_⟩:=he;exact absurd hx (by simp))
        | exact Rows.mono hh (fun _ _ he=>h _ _ he)
  | halt x w' =>
    cases x <;> simp only [Oper.upon] at hh ⊢
    exact absurd hh.1 (by simp)
theorem no_out {K:Env→World→Prop}:¬ LetsOut (nrm n K):=by
 rintro ⟨_,_,h,_⟩;exact absurd h (by simp)
theorem AL.any:∀ (f:Nat) (L:Array Bool) (e:Env) (a:Act) (w:World),Mt n e a→AL P n ops X C K f L e w→wpAny P .any ops (nrm n K) f L a w
 | 0,_,e,a,_,ha,h=>⟨h.1,rfl,e,ha,h.2⟩
 | f+1,L,e,a,w,ha,h=>by
  refine ⟨fun h0=>⟨rfl,e,ha,h.1 h0⟩,fun i hi=>?_⟩
  obtain ⟨o,ho,hE⟩:=h.2 i hi
  have:=hE a ha
  unfold wpOp
  simp only [ho]
  unfold wpList at this
  have key:∀ a w,wpList P ops (nrm n fun e' w'=>(X.contains i=true→C w')∧AL P n ops X C K f (L.setIfInBounds i true) e' w') [] a w→wpAny P .any ops (nrm n K) f (L.setIfInBounds i true) a w:=by
   rintro a w ⟨_,e',ha',_,h2⟩
   exact AL.any f _ e' a w ha' h2
  split
  ·rename_i hw
   rw [if_pos hw] at this
   rcases this with h1 | ⟨_,h1⟩
   ·exact .inl (wp_nrm key h1)
   ·exact absurd h1 no_out
  ·rename_i hw
   rw [if_neg hw] at this
   exact key _ _ this
theorem cw_regb {id:Nat} {l:List Oper} {Q:Exit→Env→World→Prop} {e:Env} {w:World} (X:List Nat) (C:World→Prop) (hm:P.follows .mixedOrders=true)
  (hx:∀ w',Ext w w'→AL P n l.toArray X C (fun e w=>Q .normal e w) l.length (Array.replicate l.length false) e w'):CW P n (.region id l.toArray true) Q e w:=by
 intro a ha
 have h2:=hx { w with drawn:=w.drawn+1 } ⟨rfl,rfl,rfl,Nat.le_refl _,fun _ _=>rfl⟩
 have:=AL.any _ _ _ a _ ha h2
 refine wp_mono (wp_region_any (Q:=nrm n fun e w=>Q .normal e w) hm (by simpa using this)) ?_
 rintro x a w ⟨rfl,e,he,hk⟩
 exact ⟨e,he,hk⟩

def SV (P:Program) (n:Nat) (ops:Array Oper) (C:World→Prop) (o:Oper) (e:Env) (v:Value):Prop :=
 ∀ a,Mt n e a→(Region.wanted o (yielded ops a.tmps)=true∧∀ w',C w'→(execOp a.eval o).run P w'=.ok (.value v) w')∨(Region.wanted o (yielded ops a.tmps)=false∧v=undef)
def free (ops:Array Oper) (X:List Nat) (L:Array Bool) (i:Nat) (o:Oper):Bool :=
 (List.range ops.size).all fun j=>Nat.beq j i||L.getD j true||(match ops[j]? with
  | some oj=>oj.after.any (fun e=>Region.binds .any e&&Nat.beq e.on i)||(o.apart ops oj&&X.contains j)
  | none=>true)
theorem ready_iff {L:Array Bool} {i:Nat}:i∈Region.ready .any ops L↔L.getD i true=false∧∃ o,ops[i]? = some o∧∀ e∈o.after,Region.binds .any e=true→L.getD e.on false=true:=by
 unfold Region.ready
 simp only [List.mem_filter,List.mem_range,Bool.and_eq_true,Bool.not_eq_true']
 constructor
 ·rintro ⟨h1,h2,h3⟩
  refine ⟨h2,ops[i],Array.getElem?_eq_getElem h1,fun e he hb=>?_⟩
  rw [Array.getElem?_eq_getElem h1] at h3
  simp only [Option.map_some,Option.getD_some,Array.all_eq_true_iff_forall_mem] at h3
  have:=h3 e he
  simpa [hb] using this
 ·rintro ⟨h2,o,h1,h3⟩
  obtain ⟨hlt,rfl⟩:=Array.getElem?_eq_some_iff.1 h1
  refine ⟨hlt,h2,?_⟩
  rw [h1]
  simp only [Option.map_some,Option.getD_some,Array.all_eq_true_iff_forall_mem]
  intro e he
  by_cases hb:Region.binds .any e=true
  ·simp [h3 e he hb]
  ·simp [hb]
theorem getD_set_ne {L:Array Bool} {i j:Nat} {d:Bool} (h:j≠i):(L.setIfInBounds i true).getD j d=L.getD j d:=by
 simp [Array.getElem?_setIfInBounds_ne (Ne.symm h)]
theorem getD_set_le {L:Array Bool} {i j:Nat} (h:L.getD j false=true):(L.setIfInBounds i true).getD j false=true:=by
 by_cases hj:j=i
 ·subst hj
  have:j<L.size:=by
   rcases Nat.lt_or_ge j L.size with h1 | h1
   ·exact h1
   ·simp [Array.getElem?_eq_none h1] at h
  simp [this]
 ·rw [getD_set_ne hj];exact h
theorem ready_set {L:Array Bool} {i j:Nat} (hij:j≠i) (h:j∈Region.ready .any ops L):j∈Region.ready .any ops (L.setIfInBounds i true):=by
 obtain ⟨h1,o,h2,h3⟩:=ready_iff.1 h
 exact ready_iff.2 ⟨by rw [getD_set_ne hij];exact h1,o,h2,fun e he hb=>getD_set_le (h3 e he hb)⟩
theorem set_comm (L:Array Bool) (i j:Nat):(L.setIfInBounds i true).setIfInBounds j true=(L.setIfInBounds j true).setIfInBounds i true:=by
 by_cases h:i=j
 ·subst h;rfl
 ·exact Array.setIfInBounds_comm _ _ h
theorem free_set {L:Array Bool} {i j:Nat} {o:Oper} (h:free ops X L i o=true):free ops X (L.setIfInBounds j true) i o=true:=by
 unfold free at *
 rw [List.all_eq_true] at *
 intro k hk
 have:=h k hk
 by_cases hkj:k=j
 ·subst hkj
  have:k<ops.size:=by simpa using hk
  by_cases hkl:k<L.size
  ·simp [hkl]
  ·have hn:L[k]? = none:=Array.getElem?_eq_none (by omega)
   simp [hkl]
 ·rw [getD_set_ne hkj];exact this
def envOf (a:Act):Env:=fun t=>a.tmps.getD t undef
theorem mt_of {a:Act} (h1:a.tmps.size=n) (h2:a.defers=[]):Mt n (envOf a) a:=⟨h1,h2,fun _=>rfl⟩
theorem Mt.uniq {a:Act} {e e':Env} (h:Mt n e a) (h':Mt n e' a):e=e':=by funext t;rw [← h.get,← h'.get]
theorem put_size (a:Act) (d:Option Nat) (v:Value):(a.put d v).tmps.size=a.tmps.size:=by cases d <;> simp [Act.put]
theorem put_def (a:Act) (d:Option Nat) (v:Value):(a.put d v).defers=a.defers:=by cases d <;> rfl
theorem yielded_eval {a b:Act} (h:∀ t,a.tmps.getD t undef=b.tmps.getD t undef) (hs:a.tmps.size=b.tmps.size):a.tmps=b.tmps:=by
 apply Array.ext hs
 intro i h1 h2
 have:=h i
 simpa [Array.getD,h1,h2] using this
theorem upon_put {o:Oper} {a a':Act} {N N2:Act→World→Prop} {K1 K2:Env→World→Prop} (h:∀ u w,N (a'.put o.dst u) w→N2 (a.put o.dst u) w) (hd:∀ d u w,¬ N (({ a' with defers:=d :: a'.defers }:Act).put o.dst u) w) {r:Result Next}
    (hh:o.upon P a' N (nrm n K1) r):o.upon P a N2 (nrm n K2) r:=by
  cases r with
  | ok m w' =>
    cases m <;> simp only [Oper.upon] at hh ⊢ <;>
      first
        | exact h _ _ hh
        | exact absurd hh (hd _ _ _)
        | exact Calls.mono hh (fun e w'' he=>by
            cases e with
            | returned v=>exact h _ _ he
            | panicked ch=>exact absurd he.1 (by simp)
            | outgrown=>obtain ⟨_,_,hx,_⟩:=he;exact absurd hx (by simp))
        | exact Rows.mono hh (fun _ _ he=>h _ _ he)
  | halt x w' =>
    cases x <;> simp only [Oper.upon] at hh ⊢
    exact absurd hh.1 (by simp)
def noSel (ops:Array Oper):Bool:=ops.all fun o=>match o.op with | .select ..=>false | _=>true
theorem noSel_at (h:noSel ops=true) {i:Nat} {o:Oper} (hi:ops[i]? = some o):∀ cs b,o.op≠.select cs b:=by
 intro cs b e
 unfold noSel at h
 rw [Array.all_eq_true_iff_forall_mem] at h
 have:=h o (Array.mem_of_getElem? hi)
 simp [e] at this
theorem al_pull (hsel:noSel ops=true) (i:Nat) {o:Oper} {d:Nat} {v:Value} (hi:ops[i]? = some o) (hdst:o.dst=some d) (hdn:d<n) :
  ∀ (f:Nat) (L:Array Bool) (e:Env) (w:World),C w→free ops X L i o=true→i∈Region.ready .any ops L→SV P n ops C o e v→AL P n ops X C K f (L.setIfInBounds i true) (upd e d v) w→AL P n ops X C K (f+1) L e w:=by
 intro f
 induction f with
 | zero =>
  intro L e w hC hf hr hy H
  refine ⟨fun h=>(by rw [h] at hr;cases hr),fun j hj=>?_⟩
  by_cases hji:j=i
  ·subst hji
   refine ⟨o,hi,fun a ha=>?_⟩
   unfold wpList
   rcases hy a ha with ⟨hw,hv⟩ | ⟨hw,rfl⟩
   ·rw [if_pos hw]
    refine .inl ?_
    unfold Oper.wp
    rw [hv w hC]
    simp only [Oper.upon,hdst]
    exact ⟨rfl,_,ha.put hdn v,fun _=>hC,H⟩
   ·rw [if_neg (by simp [hw])]
    rw [hdst]
    exact ⟨rfl,_,ha.put hdn _,fun _=>hC,H⟩
  ·have:=ready_set (i:=i) hji hj
   rw [H.1] at this;cases this
 | succ f ih =>
  intro L e w hC hf hr hy H
  refine ⟨fun h=>(by rw [h] at hr;cases hr),fun j hj=>?_⟩
  by_cases hji:j=i
  ·subst hji
   refine ⟨o,hi,fun a ha=>?_⟩
   unfold wpList
   rcases hy a ha with ⟨hw,hv⟩ | ⟨hw,rfl⟩
   ·rw [if_pos hw]
    refine .inl ?_
    unfold Oper.wp
    rw [hv w hC]
    simp only [Oper.upon,hdst]
    exact ⟨rfl,_,ha.put hdn v,fun _=>hC,H⟩
   ·rw [if_neg (by simp [hw])]
    rw [hdst]
    exact ⟨rfl,_,ha.put hdn _,fun _=>hC,H⟩
  ·obtain ⟨oj,hoj,hE⟩:=H.2 j (ready_set hji hj)
   have hjL:=(ready_iff.1 hj)
   have hiL:=(ready_iff.1 hr)
   have hap:o.apart ops oj=true∧X.contains j=true:=by
    have h1:=hf
    unfold free at h1
    rw [List.all_eq_true] at h1
    have h2:=h1 j (by simp [(Array.getElem?_eq_some_iff.1 hoj).1])
    have hb:Nat.beq j i=false:=beq_ne hji
    simp only [hb,hjL.1,hoj,Bool.false_or,Bool.or_eq_true,Bool.and_eq_true] at h2
    rcases h2 with h2 | h2
    ·exfalso
     obtain ⟨_,h3,h4⟩:=hjL.2
     rw [hoj] at h3;obtain rfl:=Option.some.inj h3
     rw [Array.any_eq_true'] at h2
     obtain ⟨ed,hm,h5⟩:=h2
     simp only [Bool.and_eq_true] at h5
     have h6:=h4 ed hm h5.1
     have h7:ed.on=i:=Nat.eq_of_beq_eq_true h5.2
     rw [h7] at h6
     have:=hiL.1
     cases hx:L[i]? with
     | none=>simp [Array.getD_eq_getD_getElem?,hx] at this
     | some b=>simp [Array.getD_eq_getD_getElem?,hx] at this h6;simp [this] at h6
    ·exact h2
   obtain ⟨h1,h2,h3⟩:=Oper.apart_spec hap.1
   have hso:=noSel_at hsel hi
   have hsj:=noSel_at hsel hoj
   refine ⟨oj,hoj,fun a ha=>?_⟩
   have h4:=hE _ (ha.put hdn v)
   have key:∀ u w',nrm n (fun e' w'=>(X.contains j=true→C w')∧AL P n ops X C K f ((L.setIfInBounds i true).setIfInBounds j true) e' w') .normal ((a.put (some d) v).put oj.dst u) w' →
     nrm n (fun e' w'=>(X.contains j=true→C w')∧AL P n ops X C K (f+1) (L.setIfInBounds j true) e' w') .normal (a.put oj.dst u) w':=by
    rintro u w' ⟨_,e1,he1,hc1,hA1⟩
    have hm2:Mt n (envOf (a.put oj.dst u)) (a.put oj.dst u):=mt_of (by rw [put_size,ha.size]) (by rw [put_def,ha.defers])
    have hcm:(a.put (some d) v).put oj.dst u=(a.put oj.dst u).put (some d) v:=Act.put_comm a v u (fun x hx=>by
     have:=h2 d hdst
     simp only [Option.some.injEq] at hx;subst hx;exact this)
    rw [hcm] at he1
    obtain rfl:=he1.uniq (hm2.put hdn v)
    refine ⟨rfl,_,hm2,hc1,ih _ _ _ (hc1 hap.2) (free_set hf) (ready_set (Ne.symm hji) hr) ?_ (by rw [← set_comm];exact hA1)⟩
    intro b hb
    have hbt:b.tmps=(a.put oj.dst u).tmps:=yielded_eval (fun t=>by rw [hb.get t];rfl) (by rw [hb.size,hm2.size])
    have hbe:b.eval=(a.put oj.dst u).eval:=by rw [hb.eval,hm2.eval]
    rw [hbt,hbe,execOp_put o hso a oj.dst u h3,wanted_put o a oj.dst u h3]
    exact hy a ha
   unfold wpList at h4 ⊢
   have hwe:=wanted_put (ops:=ops) oj a (some d) v (fun x hx=>by simp only [Option.some.injEq] at hx;subst hx;exact h1 d hdst)
   have hxe:=execOp_put oj hsj a (some d) v (fun x hx=>by simp only [Option.some.injEq] at hx;subst hx;exact h1 d hdst)
   rw [hwe] at h4
   split
   ·rename_i hw
    rw [if_pos hw] at h4
    rcases h4 with h5 | ⟨_,h5⟩
    ·refine .inl ?_
     unfold Oper.wp at h5 ⊢
     rw [hxe] at h5
     refine upon_put key ?_ h5
     rintro dd u w' ⟨_,e1,he1,_⟩
     have:=he1.defers
     cases hdj:oj.dst <;> simp [Act.put,hdj] at this
    ·exact absurd h5 no_out
   ·rename_i hw
    rw [if_neg hw] at h4
    exact key _ _ h4
theorem al_nil {f:Nat} {L:Array Bool} {e:Env} {w:World} (h:Region.ready .any ops L=[]) (hK:K e w):AL P n ops X C K f L e w:=by
 cases f with
 | zero=>exact ⟨h,hK⟩
 | succ f=>exact ⟨fun _=>hK,fun i hi=>by rw [h] at hi;cases hi⟩
theorem al_one (i:Nat) {f:Nat} {L:Array Bool} {e:Env} {w:World} {o:Oper} (hr:Region.ready .any ops L=[i]) (ho:ops[i]? = some o)
  (h:EL P n ops (fun e' w'=>(X.contains i=true→C w')∧AL P n ops X C K f (L.setIfInBounds i true) e' w') [o] e w):AL P n ops X C K (f+1) L e w :=
 ⟨fun h0=>(by rw [hr] at h0;cases h0),fun j hj=>by
  rw [hr] at hj
  have e:j=i:=by simpa using hj
  rw [e]
  exact ⟨o,ho,h⟩⟩
theorem sv_on {o:Oper} {e:Env} {v:Value} (hg:o.guard=none) (h:∀ w',C w'→PV P o e w' v):SV P n ops C o e v:=fun a ha=>.inl ⟨by simp [Region.wanted,hg],fun w' hw'=>by rw [ha.eval];exact h w' hw' w' (Ext.refl _)⟩
theorem al_p (hsel:noSel ops=true) (i:Nat) {o:Oper} {d:Nat} {v:Value} {f:Nat} {L:Array Bool} {e:Env} {w:World} (hi:ops[i]? = some o) (hdst:o.dst=some d) (hdn:d<n) (hC:C w) (hf:free ops X L i o=true) (hr:(Region.ready .any ops L).contains i=true)
  (hy:SV P n ops C o e v) (hK:AL P n ops X C K f (L.setIfInBounds i true) (upd e d v) w):AL P n ops X C K (f+1) L e w :=
 al_pull hsel i hi hdst hdn f L e w hC hf (by simpa using hr) hy hK
section
variable {wA:World} {v:Value} {d:Nat} {ty:TypeId} {pos:String} {af:Array Edge} {x y:Operand} {α:Type} {R:Rep α} {E E':TypeId} {f:Nat} {L:Array Bool} {e:Env} {w:World}
theorem al_index (hsel:noSel ops=true) (i:Nat) {t:TypeId} [SliceT P t E'] {zz:List Value} {m bytes:Nat} [ElemT P E' zz m bytes] {xs:List α} (hi':ops[i]? = some ⟨some d,.indexAddr t x y,ty,pos,af,none⟩) (hC:C w) (hf:free ops X L i ⟨some d,.indexAddr t x y,ty,pos,af,none⟩=true) (hrd:(Region.ready .any ops L).contains i=true)
  (hs:ev e x=v) (hr:(sliceR R E).rd wA [v] xs) (hn:R.sz=m) (hpos:0<m) {k:IntKind} {j:Int} (hi:ev e y=.int k j) {u:α} (h:ix xs j=some u) (hd:d<n)
  (hK:∀ b off ec,R.rd wA ec u→(∀ j c,ec[j]? = some c→wA.cell? ⟨b,off+j,none⟩=some c)→AL P n ops X C K f (L.setIfInBounds i true) (upd e d (.pointer (some ⟨b,off,none⟩))) w):AL P n ops X C K (f+1) L e w:=by
 obtain ⟨b,off,ec,h1,h2,h3⟩:=pv_index (P:=P) (d:=some d) (ty:=ty) (pos:=pos) (af:=af) (t:=t) hs hr hn hpos hi h
 exact al_p hsel i hi' rfl hd hC hf hrd (sv_on rfl fun w' _=>h3 w') (hK b off ec h1 h2)
theorem al_slice (hsel:noSel ops=true) (i:Nat) {t:TypeId} {lo hi:Option Operand} [SliceT P t E'] {z:List Value} {m bytes:Nat} [ElemT P E' z m bytes] (hi':ops[i]? = some ⟨some d,.slice t x lo hi none,ty,pos,af,none⟩) (hC:C w) (hf:free ops X L i ⟨some d,.slice t x lo hi none,ty,pos,af,none⟩=true) (hrd:(Region.ready .any ops L).contains i=true) (hn:R.sz=m)
  (hx:ev e x=v) {xs ys:List α} (hr:(sliceR R E).rd wA [v] xs) {l h:Int} (hlo:(lo.map (ev e)=some (.int .i64 l))∨(lo=none∧l=0)) (hhi:(hi.map (ev e)=some (.int .i64 h))∨(hi=none∧h=xs.length)) (hq:slc xs l h=some ys) (hd:d<n)
  (hK:∀ v',(sliceR R E).rd wA [v'] ys→AL P n ops X C K f (L.setIfInBounds i true) (upd e d v') w):AL P n ops X C K (f+1) L e w:=by
 obtain ⟨v',h1,h2⟩:=pv_slice (P:=P) (d:=some d) (ty:=ty) (pos:=pos) (af:=af) (t:=t) hn hx hr hlo hhi hq
 exact al_p hsel i hi' rfl hd hC hf hrd (sv_on rfl fun w' _=>h2 w') (hK v' h1)
end
end
class FlatR {α:Type} (R:Rep α) (f:outParam (α→Value)):Prop where
 h:∀ {w:World} {cs:List Value} {x:α},R.rd w cs x→cs=[f x]
instance:FlatR intR (Value.int .i64):=⟨fun h=>h⟩
instance:FlatR u8R (Value.int .u8):=⟨fun h=>h⟩
instance:FlatR boolR Value.bool:=⟨fun h=>h⟩
section
variable {P:Program} {n:Nat} {ops:Array Oper} {K:Env→World→Prop} {KQ:Env→Prop} {rest:List Oper} {e:Env} {w w0:World} {v:Value} {d:Nat} {ty:TypeId} {pos:String} {af:Array Edge} {Γ:List Asn} {x y:Operand} {α:Type} {R:Rep α} {E:TypeId} {f:α→Value}
theorem Sat.ownCell (i:Nat) [hf:FlatR R f] {xs:List α} (hS:Sat w0 w Γ) (hi:Γ[i]? = some (Own (sliceR R E) [v] xs)) {g cap ln:Nat} (hv:v=.slice (some ⟨g,0,none⟩) ln cap) {j:Int} {u:α} (h:ix xs j=some u):w.cell? ⟨g,j.toNat*1,none⟩=some (f u):=by
 obtain ⟨k,rfl,hk,rfl⟩:=ix_some h
 obtain ⟨fp,ho,_⟩:=(hS.top i hi).head
 rcases ho with ⟨_,h2,_⟩ | ⟨g',cap',cur,ccs,f2,hv',hg,h1,h2,h3,h4,h5,rfl⟩
 ·subst h2;simp at hk
 subst hv
 simp at hv'
 obtain ⟨rfl,rfl,rfl⟩:=hv'
 obtain ⟨ec,hec,hcc⟩:=rdL_at (ownL_rdL h5) k hk
 obtain rfl:=hf.h hec
 have hsz:R.sz=1:=by have:=R.rd_len hec;simpa using this.symm
 have h0:=hcc 0 _ rfl
 rw [cell_of_row w g _ cur E (0,0) hg,← Array.getElem?_toList]
 rw [← h4,List.getElem?_take] at h0
 simp only [Int.toNat_natCast]
 rw [hsz] at h0
 split at h0
 ·simpa using h0
 ·cases h0
theorem ownShape (i:Nat) {xs:List α} (hS:Sat w0 w Γ) (hi:Γ[i]? = some (Own (sliceR R E) [v] xs)) {j:Int} {u:α} (h:ix xs j=some u):∃ g cap,v=.slice (some ⟨g,0,none⟩) xs.length cap:=by
 obtain ⟨k,rfl,hk,rfl⟩:=ix_some h
 rcases (hS.top i hi).shape with ⟨_,h2⟩ | ⟨g,cap,h⟩
 ·subst h2;simp at hk
 ·exact ⟨g,cap,h⟩
theorem pv_indexF {d:Option Nat} {t:TypeId} [ht:SliceT P t E] {zz:List Value} {bytes:Nat} [hz:ElemT P E zz 1 bytes] {xs:List α} (hs:ev e x=v) {g cap:Nat} (hv:v=.slice (some ⟨g,0,none⟩) xs.length cap) {k:IntKind} {j:Int} (hi:ev e y=.int k j) {u:α} (h:ix xs j=some u) :
  PV P ⟨d,.indexAddr t x y,ty,pos,af,none⟩ e w (.pointer (some ⟨g,j.toNat*1,none⟩)):=fun w' _=>by
 obtain ⟨k',rfl,hk,rfl⟩:=ix_some h
 subst hv
 have hz:=hz.h
 cases hq:P.info? E with
 | none=>simp [hq] at hz
 | some inf =>
  simp [hq] at hz
  have hsz:inf.size=1:=hz.2.1
  unfold execOp
  simp [hs,hi,Instr.indexAt,asIntOf,run_underlying ht.h,sizeOf,typeInfo,hq,hk,Addr.add_lit,hsz]
end
end Go.Proofs.Ytkpeabpdiffjhaa
namespace Go.Proofs.Ytkpeabpdiffjhaa
theorem goes7:Goes Try.prog 7:=⟨_,Try.func7,by kernel_rfl,by kernel_rfl⟩
theorem goes9:Goes Try.prog 9:=⟨_,Try.func9,by kernel_rfl,by kernel_rfl⟩
theorem goes11:Goes Try.prog 11:=⟨_,Try.func11,by kernel_rfl,by kernel_rfl⟩
theorem goes14:Goes Try.prog 14:=⟨_,Try.func14,by kernel_rfl,by kernel_rfl⟩
theorem goes17:Goes Try.prog 17:=⟨_,Try.func17,by kernel_rfl,by kernel_rfl⟩
theorem goes19:Goes Try.prog 19:=⟨_,Try.func19,by kernel_rfl,by kernel_rfl⟩
theorem goes21:Goes Try.prog 21:=⟨_,Try.func21,by kernel_rfl,by kernel_rfl⟩
theorem goes24:Goes Try.prog 24:=⟨_,Try.func24,by kernel_rfl,by kernel_rfl⟩
theorem goes25:Goes Try.prog 25:=⟨_,Try.func25,by kernel_rfl,by kernel_rfl⟩
theorem goes26:Goes Try.prog 26:=⟨_,Try.func26,by kernel_rfl,by kernel_rfl⟩
theorem goes27:Goes Try.prog 27:=⟨_,Try.func27,by kernel_rfl,by kernel_rfl⟩
theorem goes30:Goes Try.prog 30:=⟨_,Try.func30,by kernel_rfl,by kernel_rfl⟩
theorem goes31:Goes Try.prog 31:=⟨_,Try.func31,by kernel_rfl,by kernel_rfl⟩
theorem goes32:Goes Try.prog 32:=⟨_,Try.func32,by kernel_rfl,by kernel_rfl⟩
theorem goes33:Goes Try.prog 33:=⟨_,Try.func33,by kernel_rfl,by kernel_rfl⟩
theorem goes34:Goes Try.prog 34:=⟨_,Try.func34,by kernel_rfl,by kernel_rfl⟩
theorem goes35:Goes Try.prog 35:=⟨_,Try.func35,by kernel_rfl,by kernel_rfl⟩
theorem goes36:Goes Try.prog 36:=⟨_,Try.func36,by kernel_rfl,by kernel_rfl⟩
theorem goes37:Goes Try.prog 37:=⟨_,Try.func37,by kernel_rfl,by kernel_rfl⟩
theorem goes38:Goes Try.prog 38:=⟨_,Try.func38,by kernel_rfl,by kernel_rfl⟩
theorem goes39:Goes Try.prog 39:=⟨_,Try.func39,by kernel_rfl,by kernel_rfl⟩
theorem goes40:Goes Try.prog 40:=⟨_,Try.func40,by kernel_rfl,by kernel_rfl⟩
theorem goes41:Goes Try.prog 41:=⟨_,Try.func41,by kernel_rfl,by kernel_rfl⟩
theorem goes42:Goes Try.prog 42:=⟨_,Try.func42,by kernel_rfl,by kernel_rfl⟩
theorem goes51:Goes Try.prog 51:=⟨_,Try.func51,by kernel_rfl,by kernel_rfl⟩
theorem goes52:Goes Try.prog 52:=⟨_,Try.func52,by kernel_rfl,by kernel_rfl⟩
theorem goes55:Goes Try.prog 55:=⟨_,Try.func55,by kernel_rfl,by kernel_rfl⟩
theorem goes57:Goes Try.prog 57:=⟨_,Try.func57,by kernel_rfl,by kernel_rfl⟩
theorem goes58:Goes Try.prog 58:=⟨_,Try.func58,by kernel_rfl,by kernel_rfl⟩
theorem goes61:Goes Try.prog 61:=⟨_,Try.func61,by kernel_rfl,by kernel_rfl⟩
theorem goes64:Goes Try.prog 64:=⟨_,Try.func64,by kernel_rfl,by kernel_rfl⟩
theorem goes65:Goes Try.prog 65:=⟨_,Try.func65,by kernel_rfl,by kernel_rfl⟩
theorem goes66:Goes Try.prog 66:=⟨_,Try.func66,by kernel_rfl,by kernel_rfl⟩
theorem goes67:Goes Try.prog 67:=⟨_,Try.func67,by kernel_rfl,by kernel_rfl⟩
theorem goes68:Goes Try.prog 68:=⟨_,Try.func68,by kernel_rfl,by kernel_rfl⟩
theorem goes69:Goes Try.prog 69:=⟨_,Try.func69,by kernel_rfl,by kernel_rfl⟩
theorem goes70:Goes Try.prog 70:=⟨_,Try.func70,by kernel_rfl,by kernel_rfl⟩
theorem goes71:Goes Try.prog 71:=⟨_,Try.func71,by kernel_rfl,by kernel_rfl⟩
theorem goes72:Goes Try.prog 72:=⟨_,Try.func72,by kernel_rfl,by kernel_rfl⟩
theorem goes73:Goes Try.prog 73:=⟨_,Try.func73,by kernel_rfl,by kernel_rfl⟩
theorem goes74:Goes Try.prog 74:=⟨_,Try.func74,by kernel_rfl,by kernel_rfl⟩
theorem goes75:Goes Try.prog 75:=⟨_,Try.func75,by kernel_rfl,by kernel_rfl⟩
theorem goes76:Goes Try.prog 76:=⟨_,Try.func76,by kernel_rfl,by kernel_rfl⟩
theorem goes77:Goes Try.prog 77:=⟨_,Try.func77,by kernel_rfl,by kernel_rfl⟩
theorem goes78:Goes Try.prog 78:=⟨_,Try.func78,by kernel_rfl,by kernel_rfl⟩
theorem goes79:Goes Try.prog 79:=⟨_,Try.func79,by kernel_rfl,by kernel_rfl⟩
theorem goes80:Goes Try.prog 80:=⟨_,Try.func80,by kernel_rfl,by kernel_rfl⟩
theorem goes81:Goes Try.prog 81:=⟨_,Try.func81,by kernel_rfl,by kernel_rfl⟩
theorem goes82:Goes Try.prog 82:=⟨_,Try.func82,by kernel_rfl,by kernel_rfl⟩
theorem goes83:Goes Try.prog 83:=⟨_,Try.func83,by kernel_rfl,by kernel_rfl⟩
theorem goes94:Goes Try.prog 94:=⟨_,Try.func94,by kernel_rfl,by kernel_rfl⟩
theorem goes95:Goes Try.prog 95:=⟨_,Try.func95,by kernel_rfl,by kernel_rfl⟩
theorem goes96:Goes Try.prog 96:=⟨_,Try.func96,by kernel_rfl,by kernel_rfl⟩
theorem goes98:Goes Try.prog 98:=⟨_,Try.func98,by kernel_rfl,by kernel_rfl⟩
theorem goes99:Goes Try.prog 99:=⟨_,Try.func99,by kernel_rfl,by kernel_rfl⟩
theorem goes100:Goes Try.prog 100:=⟨_,Try.func100,by kernel_rfl,by kernel_rfl⟩
theorem goes101:Goes Try.prog 101:=⟨_,Try.func101,by kernel_rfl,by kernel_rfl⟩
theorem goes102:Goes Try.prog 102:=⟨_,Try.func102,by kernel_rfl,by kernel_rfl⟩
theorem goes104:Goes Try.prog 104:=⟨_,Try.func104,by kernel_rfl,by kernel_rfl⟩
theorem goes105:Goes Try.prog 105:=⟨_,Try.func105,by kernel_rfl,by kernel_rfl⟩
theorem goes106:Goes Try.prog 106:=⟨_,Try.func106,by kernel_rfl,by kernel_rfl⟩
theorem goes107:Goes Try.prog 107:=⟨_,Try.func107,by kernel_rfl,by kernel_rfl⟩
theorem goes108:Goes Try.prog 108:=⟨_,Try.func108,by kernel_rfl,by kernel_rfl⟩
theorem goes109:Goes Try.prog 109:=⟨_,Try.func109,by kernel_rfl,by kernel_rfl⟩
theorem goes110:Goes Try.prog 110:=⟨_,Try.func110,by kernel_rfl,by kernel_rfl⟩
theorem goes111:Goes Try.prog 111:=⟨_,Try.func111,by kernel_rfl,by kernel_rfl⟩
theorem goes112:Goes Try.prog 112:=⟨_,Try.func112,by kernel_rfl,by kernel_rfl⟩
theorem goes113:Goes Try.prog 113:=⟨_,Try.func113,by kernel_rfl,by kernel_rfl⟩
theorem goes114:Goes Try.prog 114:=⟨_,Try.func114,by kernel_rfl,by kernel_rfl⟩
theorem goes115:Goes Try.prog 115:=⟨_,Try.func115,by kernel_rfl,by kernel_rfl⟩
theorem goes116:Goes Try.prog 116:=⟨_,Try.func116,by kernel_rfl,by kernel_rfl⟩
theorem goes117:Goes Try.prog 117:=⟨_,Try.func117,by kernel_rfl,by kernel_rfl⟩
theorem goes118:Goes Try.prog 118:=⟨_,Try.func118,by kernel_rfl,by kernel_rfl⟩
theorem goes119:Goes Try.prog 119:=⟨_,Try.func119,by kernel_rfl,by kernel_rfl⟩
theorem goes120:Goes Try.prog 120:=⟨_,Try.func120,by kernel_rfl,by kernel_rfl⟩
theorem goes121:Goes Try.prog 121:=⟨_,Try.func121,by kernel_rfl,by kernel_rfl⟩
theorem goes122:Goes Try.prog 122:=⟨_,Try.func122,by kernel_rfl,by kernel_rfl⟩
theorem goes123:Goes Try.prog 123:=⟨_,Try.func123,by kernel_rfl,by kernel_rfl⟩
theorem goes124:Goes Try.prog 124:=⟨_,Try.func124,by kernel_rfl,by kernel_rfl⟩
theorem goes130:Goes Try.prog 130:=⟨_,Try.func130,by kernel_rfl,by kernel_rfl⟩
theorem goes131:Goes Try.prog 131:=⟨_,Try.func131,by kernel_rfl,by kernel_rfl⟩
theorem goes132:Goes Try.prog 132:=⟨_,Try.func132,by kernel_rfl,by kernel_rfl⟩
theorem goes133:Goes Try.prog 133:=⟨_,Try.func133,by kernel_rfl,by kernel_rfl⟩
theorem goes134:Goes Try.prog 134:=⟨_,Try.func134,by kernel_rfl,by kernel_rfl⟩
theorem goes135:Goes Try.prog 135:=⟨_,Try.func135,by kernel_rfl,by kernel_rfl⟩
theorem goes136:Goes Try.prog 136:=⟨_,Try.func136,by kernel_rfl,by kernel_rfl⟩
theorem goes137:Goes Try.prog 137:=⟨_,Try.func137,by kernel_rfl,by kernel_rfl⟩
theorem goes138:Goes Try.prog 138:=⟨_,Try.func138,by kernel_rfl,by kernel_rfl⟩
theorem goes139:Goes Try.prog 139:=⟨_,Try.func139,by kernel_rfl,by kernel_rfl⟩
theorem goes140:Goes Try.prog 140:=⟨_,Try.func140,by kernel_rfl,by kernel_rfl⟩
theorem goes141:Goes Try.prog 141:=⟨_,Try.func141,by kernel_rfl,by kernel_rfl⟩
theorem goes142:Goes Try.prog 142:=⟨_,Try.func142,by kernel_rfl,by kernel_rfl⟩
theorem goes144:Goes Try.prog 144:=⟨_,Try.func144,by kernel_rfl,by kernel_rfl⟩
theorem goes145:Goes Try.prog 145:=⟨_,Try.func145,by kernel_rfl,by kernel_rfl⟩
end Go.Proofs.Ytkpeabpdiffjhaa
namespace Go.Proofs.Ytkpeabpdiffjhaa
open Go.RowKit Go.ChangeShapes Go.WideShapes Go.ChangeAt

def Opens {α:Type} (P:Program) (R:Rep α) (T:TypeId):Prop :=
 ∀ {H:Type} (enc:TypeId × Value→H) (w:World) (base:Nat) (spare:Nat→Bool) (held:Bool) (fuel:Nat) (cs:List Value) (x:DataW H × List MemPlace),DataW.trod enc P w base spare held fuel T cs=some x→∃ y,R.rd w cs y

theorem opens_int {P:Program} {T:TypeId} (ht:P.underlying T=some (.int .i64)):Opens P intR T:=by
 intro H enc w base spare held fuel cs x h
 obtain ⟨n,rfl,_⟩:=DataW.trod_int ht h
 exact ⟨n,rfl⟩
theorem opens_str {P:Program} {T:TypeId} (ht:P.underlying T=some .string):Opens P strR T:=by
 intro H enc w base spare held fuel cs x h
 obtain ⟨s,rfl,_,hs⟩:=DataW.trod_string ht h
 exact ⟨s,rfl,by unfold maxLen at hs;omega⟩
theorem opens_slice {α:Type} {P:Program} {R:Rep α} {T e E:TypeId} (ht:P.underlying T=some (.slice e)) (hs:P.cellsOf e=R.sz) (hpos:0<R.sz) (ho:Opens P R e):Opens P (sliceR R E) T:=by
 intro H enc w base spare held fuel cs x h
 rcases DataW.trod_slice ht h with ⟨rfl,_⟩ | ⟨a,len,cap,elems,rst,n,_,rfl,_,hb,hlc,hm,hel,hev,_⟩
 ·exact ⟨[],none,0,[],rfl,Nat.le_refl _,Nat.zero_le _,fun _=>rfl,rfl,.inl rfl⟩
 ·have hone:∀ i,i<len→∃ ec y,R.rd w ec y∧∀ j c,ec[j]? = some c→w.cell? (a.add (i*R.sz) |>.add j)=some c:=by
   intro i hi
   have h1:=hev i hi
   rw [List.getElem?_eq_getElem (by omega),hs] at h1
   obtain ⟨ec,h2,h3⟩:=Option.bind_eq_some_iff.1 h1
   obtain ⟨y,hy⟩:=ho enc w base spare held n ec _ h3
   obtain ⟨_,h4,h5⟩:=World.cells?_some h2
   exact ⟨ec,y,hy,fun j c hj=>by rw [h5 j (by have:=(List.getElem?_eq_some_iff.1 hj).1;omega)];exact hj⟩
  by_cases hl0:len=0
  ·subst hl0
   exact ⟨[],some a,cap,[],rfl,hlc,hm,by simp,rfl,.inl rfl⟩
  obtain ⟨b,off,spot⟩:=a
  have hspot:spot=none:=by
   obtain ⟨ec,y,hy,hc⟩:=hone 0 (by omega)
   have hl:=R.rd_len hy
   have h0:=hc 0 ec[0] (by simp)
   simp only [Nat.zero_mul,Addr.add,if_true] at h0
   cases spot with
   | none=>rfl
   | some s =>
    unfold World.cell? at h0
    split at h0 <;> simp at h0
  subst hspot
  have hall:∀ k,k≤len→∃ ys ccs,ys.length=k∧rdL R w ccs ys∧∀ j c,ccs[j]? = some c→w.cell? ⟨b,off+j,none⟩=some c:=by
   intro k
   induction k with
   | zero=>intro _;exact ⟨[],[],rfl,rfl,by simp⟩
   | succ k ih =>
    intro hk
    obtain ⟨ys,ccs,h1,h2,h3⟩:=ih (by omega)
    obtain ⟨ec,y,hy,hc⟩:=hone k (by omega)
    refine ⟨ys++[y],ccs++ec,by simp [h1],rdL_append (ys:=[y]) ⟨ec,[],by simp,hy,rfl⟩ h2,fun j c hj=>?_⟩
    have hcl:=rdL_len h2
    by_cases hj1:j<ccs.length
    ·rw [List.getElem?_append_left hj1] at hj;exact h3 j c hj
    ·rw [List.getElem?_append_right (by omega)] at hj
     have:=hc (j-ccs.length) c hj
     rw [Addr.add_lit,Addr.add_lit] at this
     rw [show off+j=off+k*R.sz+(j-ccs.length) by rw [hcl,h1] at *;omega]
     exact this
  obtain ⟨ys,ccs,h1,h2,h3⟩:=hall len (Nat.le_refl _)
  exact ⟨ys,some ⟨b,off,none⟩,cap,ccs,by rw [h1],by omega,hm,by simp,h2,.inr ⟨b,off,rfl,h3⟩⟩
theorem rd_pair {α β:Type} {R:Rep α} {S:Rep β} {w:World} {cs:List Value} {x:α} {y:β} (n:Nat) (h1:R.rd w (cs.take n) x) (h2:S.rd w (cs.drop n) y):(pairR R S).rd w cs (x,y) :=
 ⟨cs.take n,cs.drop n,(List.take_append_drop n cs).symm,h1,h2⟩
theorem opens_field {α:Type} {P:Program} {R:Rep α} {T:TypeId} (ho:Opens P R T) {H:Type} {enc:TypeId × Value→H} {w:World} {base:Nat} {spare:Nat→Bool} {held:Bool} {fuel:Nat} {cs:List Value} {xs:List (DataW H × List MemPlace)} {i:Nat}
  (hi:i<xs.length) (h:DataW.trod enc P w base spare held fuel T cs=xs[i]?):∃ y,R.rd w cs y:=by
 rw [List.getElem?_eq_getElem hi] at h
 exact ho enc w base spare held fuel cs _ h
theorem arr1 {cs:Array Value} (h:cs.size=1):∃ c0,cs=#[c0]:=by
 obtain ⟨l⟩:=cs
 match l,h with
 | [c0],_=>exact ⟨c0,rfl⟩
theorem arr3 {cs:Array Value} (h:cs.size=3):∃ c0 c1 c2,cs=#[c0,c1,c2]:=by
 obtain ⟨l⟩:=cs
 match l,h with
 | [c0,c1,c2],_=>exact ⟨c0,c1,c2,rfl⟩
end Go.Proofs.Ytkpeabpdiffjhaa
namespace Go.Proofs.Ytkpeabpdiffjhaa
open Go.RowKit

theorem bs {α β:Type} (a:α) (f:α→Option β):(some a).bind f=f a:=rfl
theorem ix_nat {α:Type} {xs:List α} {i:Nat} (h:i<xs.length):ix xs (i:Int)=some xs[i]:=by
 unfold ix;rw [if_pos (by omega)];simp [h]
theorem ix_int {α:Type} {xs:List α} {i:Int} (h0:0≤i) (h:i<xs.length):ix xs i=some (xs[i.toNat]'(by omega)):=by
 unfold ix;rw [if_pos h0];simp
theorem rng_of {n:Int} (h:-4611686018427387904≤n) (h2:n≤4611686018427387904):rng n=true:=by
 unfold rng;simp only [Bool.and_eq_true,decide_eq_true_eq];omega
theorem ad_ok {a b:Int} (h:-4611686018427387904≤a+b) (h2:a+b≤4611686018427387904):ad a b=some (a+b):=by unfold ad;rw [if_pos (rng_of h h2)]
theorem sb_ok {a b:Int} (h:-4611686018427387904≤a-b) (h2:a-b≤4611686018427387904):sb a b=some (a-b):=by unfold sb;rw [if_pos (rng_of h h2)]
theorem ad1 {i:Nat} (h:i<1099511627776):ad (i:Int) 1=some ((i+1:Nat):Int):=by rw [ad_ok (by omega) (by omega)];simp
theorem dlt {i n:Nat} (h:i<n):decide ((i:Int)<(n:Int))=true:=by simp;omega
theorem dge {i n:Nat} (h:¬ i<n):decide ((i:Int)<(n:Int))=false:=by simp;omega
theorem sto_nat {α:Type} {xs:List α} {i:Nat} {y:α} (h:i<xs.length):sto xs (i:Int) y=some (xs.set i y):=by
 unfold sto;rw [if_pos ⟨by omega,by simpa using h⟩];simp
theorem apd_ok {α:Type} {b:Nat} {xs ys:List α} (h:(xs.length+ys.length)*b≤140737488355328):apd b xs ys=some (xs++ys):=by unfold apd;rw [if_pos h]
theorem apd_ok' {α:Type} {b:Nat} {xs ys:List α} (hb:b≤64) (h:xs.length+ys.length≤2199023255552):apd b xs ys=some (xs++ys):=by
 refine apd_ok (Nat.le_trans (Nat.mul_le_mul h hb) (by omega))
theorem mk_ok {α:Type} {b:Nat} {z:α} {n:Nat} (hb:b≤64) (h:n≤2199023255552):mk b z (n:Int)=some (List.replicate n z):=by
 unfold mk;rw [if_pos ⟨by omega,by simpa using Nat.le_trans (Nat.mul_le_mul h hb) (by omega),by simp;omega⟩];simp
theorem slc_ok {α:Type} {xs:List α} {lo hi:Nat} (h1:lo≤hi) (h2:hi≤xs.length):slc xs (lo:Int) (hi:Int)=some ((xs.take hi).drop lo):=by
 unfold slc;rw [if_pos ⟨by omega,by omega,by omega⟩];simp

theorem loopA {R V:Type} (L:Nat→Int→Option (Sum R V)) (n:Nat) (hn:n<1099511627776) (b:R) (p:Nat→Bool) (v:V)
  (hstep:∀ k i,i<n→L (k+1) (i:Int)=bif p i then L k ((i+1:Nat):Int) else some (.inl b))
  (hend:∀ k,L (k+1) (n:Int)=some (.inr v)) :
  ∀ k i,i≤n→n-i<k→L k (i:Int)=some (bif (List.range' i (n-i)).all p then .inr v else .inl b):=by
 intro k
 induction k with
 | zero=>intro i hi hk;omega
 | succ k ih =>
  intro i hi hk
  by_cases h:i<n
  ·rw [hstep k i h,show n-i=(n-(i+1))+1 by omega,List.range'_succ,List.all_cons]
   cases hp:p i with
   | true=>rw [cond_true,Bool.true_and];exact ih (i+1) (by omega) (by omega)
   | false=>rfl
  ·obtain rfl:i=n:=by omega
   rw [hend k,Nat.sub_self];rfl
theorem range_all {α:Type} (xs:List α) (p:α→Bool) (q:Nat→Bool) (h:∀ i (hi:i<xs.length),q i=p xs[i]):(List.range' 0 xs.length).all q=xs.all p:=by
 rw [Bool.eq_iff_iff,List.all_eq_true,List.all_eq_true]
 constructor
 ·intro hq x hx
  obtain ⟨i,hi,rfl⟩:=List.getElem_of_mem hx
  rw [← h i hi];exact hq i (by simp;omega)
 ·intro hp i hi
  have hi':i<xs.length:=by simpa using hi
  rw [h i hi'];exact hp _ (List.getElem_mem hi')
theorem range_eq {α:Type} [DecidableEq α] {xs ys:List α} (hl:xs.length=ys.length) (q:Nat→Bool) (h:∀ i (hi:i<xs.length),q i=decide (xs[i]=ys[i]'(by omega))):(List.range' 0 xs.length).all q=decide (xs=ys):=by
 rw [Bool.eq_iff_iff,List.all_eq_true,decide_eq_true_iff]
 constructor
 ·intro hq
  refine List.ext_getElem hl fun i h1 h2=>?_
  have:=hq i (by simp;omega)
  rw [h i h1] at this
  exact of_decide_eq_true this
 ·rintro rfl i hi
  have hi':i<xs.length:=by simpa using hi
  rw [h i hi'];simp

theorem set_append_at' {α:Type} (xs:List α) (z:α) (k n:Nat) (hk:k<xs.length) (hn:xs.length=n):(xs.take k++List.replicate (n-k) z).set k xs[k]=xs.take (k+1)++List.replicate (n-(k+1)) z:=by
 rw [List.set_append_right _ _ (by simp;omega),List.length_take,Nat.min_eq_left (by omega),Nat.sub_self,show n-k=(n-(k+1))+1 by omega,List.replicate_succ,List.set_cons_zero,List.take_succ_eq_append_getElem hk,List.append_assoc]
 rfl
section
variable {α:Type}
def gszL (f:α→Int→Option Int):Nat→List α→Int→Int→Option (Sum Int (Int × Int))
 | 0,_,_,_=>none
 | k+1,xs,l,i =>
  bif decide (i<(xs.length:Int)) then
   (ix xs i).bind fun x=>(f x l).bind fun r =>
   bif decide (r<0) then some (.inl (-1)) else (ad i 1).bind fun i'=>gszL f k xs r i'
  else some (.inr (l,i))
def gsz (f:α→Int→Option Int) (N:Nat) (xs:List α) (l:Int):Option Int :=
 (sb l (xs.length:Int)).bind fun x=>bif decide (x<0) then some (-1) else
 (gszL f N xs x 0).bind fun s=>lpS s (fun q=>some q) fun v=>some v.1
def gtoL {β:Type} (f:α→Option β):Nat→List α→List β→Int→Option (List β × Int)
 | 0,_,_,_=>none
 | k+1,xs,ys,i =>
  bif decide (i<(xs.length:Int)) then
   (ix xs i).bind fun x=>(f x).bind fun r=>(ix ys i).bind fun _=>(sto ys i r).bind fun ys'=>(ad i 1).bind fun i'=>gtoL f k xs ys' i'
  else some (ys,i)
def gto {β:Type} (f:α→Option β) (b:Nat) (z:β) (N:Nat) (xs:List α):Option (List β) :=
 (mk b z (xs.length:Int)).bind fun ys=>(gtoL f N xs ys 0).bind fun v=>some v.1
def geqL (f:α→α→Option Bool):Nat→List α→List α→Int→Option (Sum Bool Int)
 | 0,_,_,_=>none
 | k+1,xs,ys,i =>
  bif decide (i<(xs.length:Int)) then
   (ix xs i).bind fun x=>(ix ys i).bind fun y=>(f x y).bind fun r =>
   bif r then (ad i 1).bind fun i'=>geqL f k xs ys i' else some (.inl false)
  else some (.inr i)
def geq (f:α→α→Option Bool) (N:Nat) (xs ys:List α):Option Bool :=
 bif ((xs.length:Int) != (ys.length:Int)) then some false else
 (geqL f N xs ys 0).bind fun s=>lpS s (fun q=>some q) fun _=>some true
def AllL (p:α→Prop) (m:Nat) (xs:List α):Prop:=xs.length≤m∧∀ x∈xs,p x

theorem gsz_ok {f:α→Int→Option Int} {p ok:α→Prop} {N:Nat} (hN:1073741824≤N) (hf:∀ x l,p x→0≤l→l≤1048576→∃ r,f x l=some r∧(0≤r→ok x∧r≤1048576)) {xs:List α} {l:Int} (hp:AllL p 9223372036854775807 xs) (h0:0≤l) (h1:l≤1048576) :
  ∃ r,gsz f N xs l=some r∧(0≤r→AllL ok 1048576 xs∧r≤1048576):=by
 unfold gsz
 have hs:sb l (xs.length:Int)=some (l-xs.length):=by
  unfold sb;rw [if_pos];unfold rng;simp only [Bool.and_eq_true,decide_eq_true_eq];have:=hp.1;omega
 rw [hs,bs]
 by_cases hl:l-xs.length<0
 ·rw [decide_eq_true hl,cond_true];exact ⟨-1,rfl,fun h=>absurd h (by omega)⟩
 rw [decide_eq_false hl,cond_false]
 have key:∀ k i l,i≤xs.length→xs.length-i<k→0≤l→l≤1048576→∃ s,gszL f k xs l (i:Int)=some s∧(match s with | .inl r=>r=-1 | .inr v=>0≤v.1∧v.1≤1048576∧∀ j (hj:j<xs.length),i≤j→ok xs[j]):=by
  intro k
  induction k with
  | zero=>intro i l hi hk;omega
  | succ k ih =>
   intro i l hi hk h0 h1
   unfold gszL
   by_cases h:i<xs.length
   ·obtain ⟨r,e1,e2⟩:=hf xs[i] l (hp.2 _ (List.getElem_mem h)) h0 h1
    rw [dlt h,cond_true,ix_nat h,bs,e1,bs]
    by_cases hr:r<0
    ·rw [decide_eq_true hr,cond_true];exact ⟨_,rfl,rfl⟩
    ·rw [decide_eq_false hr,cond_false,ad1 (by omega),bs]
     obtain ⟨s,e3,e4⟩:=ih (i+1) r (by omega) (by omega) (by omega) (e2 (by omega)).2
     refine ⟨s,e3,?_⟩
     cases s with
     | inl r=>exact e4
     | inr v =>
      refine ⟨e4.1,e4.2.1,fun j hj hij=>?_⟩
      by_cases e:i=j
      ·subst e;exact (e2 (by omega)).1
      ·exact e4.2.2 j hj (by omega)
   ·rw [dge h,cond_false]
    exact ⟨_,rfl,h0,h1,fun j hj hij=>by omega⟩
 obtain ⟨s,e1,e2⟩:=key N 0 (l-xs.length) (by omega) (by omega) (by omega) (by omega)
 rw [show ((0:Int))=((0:Nat):Int) from rfl,e1,bs]
 cases s with
 | inl r=>exact ⟨-1,by rw [show r=-1 from e2];rfl,fun h=>absurd h (by omega)⟩
 | inr v =>
  refine ⟨v.1,rfl,fun _=>⟨⟨by omega,fun x hx=>?_⟩,e2.2.1⟩⟩
  obtain ⟨j,hj,rfl⟩:=List.getElem_of_mem hx
  exact e2.2.2 j hj (by omega)
theorem gto_ok {f:α→Option α} {ok:α→Prop} {b:Nat} (hb:b≤64) {z:α} {N:Nat} (hN:1073741824≤N) (hf:∀ x,ok x→f x=some x) {xs:List α} (hp:AllL ok 1048576 xs):gto f b z N xs=some xs:=by
 unfold gto
 rw [mk_ok hb (by have:=hp.1;omega),bs]
 have key:∀ k i,i≤xs.length→xs.length-i<k→gtoL f k xs (xs.take i++List.replicate (xs.length-i) z) (i:Int)=some (xs,(xs.length:Int)):=by
  intro k
  induction k with
  | zero=>intro i hi hk;omega
  | succ k ih =>
   intro i hi hk
   unfold gtoL
   by_cases h:i<xs.length
   ·have h2:i<(xs.take i++List.replicate (xs.length-i) z).length:=by simp;omega
    rw [dlt h,cond_true,ix_nat h,bs,hf _ (hp.2 _ (List.getElem_mem h)),bs,ix_nat h2,bs,sto_nat h2,bs,ad1 (by have:=hp.1;omega),bs,set_append_at' xs z i _ h rfl]
    exact ih (i+1) (by omega) (by omega)
   ·rw [dge h,cond_false]
    obtain rfl:i=xs.length:=by omega
    simp
 have:=key N 0 (by omega) (by have:=hp.1;omega)
 simp only [List.take_zero,List.nil_append,Nat.sub_zero] at this
 rw [show ((0:Int))=((0:Nat):Int) from rfl,this,bs]
theorem geqB_ok [DecidableEq α] {f:α→α→Option Bool} {ok:α→Prop} {N:Nat} (hN:1073741824≤N) (hf:∀ x y,ok x→ok y→f x y=some (decide (x=y))) {xs ys:List α} (hp:AllL ok 1073741823 xs) (hq:AllL ok 1073741823 ys):geq f N xs ys=some (decide (xs=ys)):=by
 unfold geq
 by_cases hl:xs.length=ys.length
 ·rw [show ((xs.length:Int) != (ys.length:Int))=false by simp [hl],cond_false]
  have:=loopA (L:=fun k i=>geqL f k xs ys i) xs.length (by have:=hp.1;omega) false (fun i=>if h:i<xs.length then decide (xs[i]=ys[i]'(by omega)) else true) (xs.length:Int)
   (fun k i h=>by
    show geqL f (k+1) xs ys (i:Int)=_
    rw [geqL,dlt h,cond_true,ix_nat h,bs,ix_nat (by omega),bs,hf _ _ (hp.2 _ (List.getElem_mem h)) (hq.2 _ (List.getElem_mem _)),bs,ad1 (by have:=hp.1;omega),bs]
    simp only [dif_pos h])
   (fun k=>by
    show geqL f (k+1) xs ys (xs.length:Int)=_
    rw [geqL,dge (by omega),cond_false]) N 0 (by omega) (by have:=hp.1;omega)
  rw [show ((0:Int))=((0:Nat):Int) from rfl,this,bs,Nat.sub_zero,range_eq hl _ (fun i hi=>by rw [dif_pos hi])]
  cases decide (xs=ys) <;> rfl
 ·rw [show ((xs.length:Int) != (ys.length:Int))=true by simp;omega,cond_true,eq_comm]
  congr 1
  simp
  intro e;subst e;exact hl rfl
theorem AllL.big {ok:α→Prop} {xs:List α} (h:AllL ok 1048576 xs):AllL ok 1073741823 xs:=⟨by have:=h.1;omega,h.2⟩
theorem geq_ok [DecidableEq α] {f:α→α→Option Bool} {ok:α→Prop} {N:Nat} (hN:1073741824≤N) (hf:∀ x y,ok x→ok y→f x y=some (decide (x=y))) {xs ys:List α} (hp:AllL ok 1048576 xs) (hq:AllL ok 1048576 ys):geq f N xs ys=some (decide (xs=ys)):=geqB_ok hN hf hp.big hq.big
end
theorem gmk0 {α:Type} (L:Nat→List α→Int→Int→Option (List α × Int × Int)) (f:α→Int→Option (Int × α)) (ok:α→Prop) (c B:Int) (hc:0≤c)
  (hstep:∀ n (xs:List α) s (i:Nat) (h:i<xs.length) r,xs.length≤1073741823→f xs[i] s=some r→L (n+1) xs s (i:Int)=L n (xs.set i r.2) r.1 ((i+1:Nat):Int))
  (hend:∀ n (xs:List α) s,L (n+1) xs s (xs.length:Int)=some (xs,s,(xs.length:Int)))
  (hf:∀ x s,ok x→0≤s→s+c≤B→∃ r,f x s=some r∧s≤r.1∧r.1≤s+c) :
  ∀ (m:Nat) (i k:Nat) (xs:List α) (s:Int),i+m=xs.length→m<k→xs.length≤1073741823→(∀ j (h:j<xs.length),i≤j→ok xs[j])→0≤s→s+m*c≤B →
   ∃ ys s',L k xs s (i:Int)=some (ys,s',(ys.length:Int))∧s≤s'∧s'≤s+m*c∧ys.length=xs.length:=by
 intro m
 induction m with
 | zero =>
  intro i k xs s hi hk _ _ _ _
  obtain ⟨k,rfl⟩:∃ k',k=k'+1:=⟨k-1,by omega⟩
  obtain rfl:i=xs.length:=by omega
  exact ⟨xs,s,hend k xs s,Int.le_refl _,by simp,rfl⟩
 | succ m ih =>
  intro i k xs s hi hk hl hok h0 hB
  obtain ⟨k,rfl⟩:∃ k',k=k'+1:=⟨k-1,by omega⟩
  have hlt:i<xs.length:=by omega
  have e:((m+1:Nat):Int)*c=m*c+c:=by rw [Int.natCast_add,Int.add_mul];simp
  have hm:0≤(m:Int)*c:=Int.mul_nonneg (by omega) hc
  rw [e] at hB
  obtain ⟨r,hr,g1,g2⟩:=hf xs[i] s (hok i hlt (Nat.le_refl _)) h0 (by omega)
  obtain ⟨ys,s',q1,q2,q3,q4⟩:=ih (i+1) k (xs.set i r.2) r.1 (by simp;omega) (by omega) (by simpa using hl) (fun j hj hij=>by
   have:=hok j (by simpa using hj) (by omega)
   rw [List.getElem_set_ne (by omega)];exact this) (by omega) (by omega)
  exact ⟨ys,s',by rw [hstep k xs s i hlt r hl hr];exact q1,by omega,by rw [e];omega,by rw [q4];simp⟩
theorem gmk {α:Type} (L:Nat→List α→Int→Int→Option (List α × Int × Int)) (H:Nat→List α→Int→Int→Option (Sum Int (Int × Int))) (f:α→Int→Option (Int × α)) (g:α→Int→Option Int) (ok:α→Prop) (c B:Int) (hc:0≤c)
  (hstep:∀ n (xs:List α) s (i:Nat) (h:i<xs.length) r,xs.length≤1073741823→f xs[i] s=some r→L (n+1) xs s (i:Int)=L n (xs.set i r.2) r.1 ((i+1:Nat):Int))
  (hend:∀ n (xs:List α) s,L (n+1) xs s (xs.length:Int)=some (xs,s,(xs.length:Int)))
  (hH:∀ n (xs:List α) s (i:Nat) (h:i<xs.length) r,xs.length≤1073741823→g xs[i] s=some r→0≤r→r≤B→H (n+1) xs s (i:Int)=H n xs r ((i+1:Nat):Int))
  (hHend:∀ n (xs:List α) s,H (n+1) xs s (xs.length:Int)=some (.inr (s,(xs.length:Int))))
  (hf:∀ x s,ok x→0≤s→s+c≤B→∃ r,f x s=some r∧s≤r.1∧r.1≤s+c∧g r.2 s=some r.1) :
  ∀ (m:Nat) (i k:Nat) (xs:List α) (s:Int),i+m=xs.length→m<k→xs.length≤1073741823→(∀ j (h:j<xs.length),i≤j→ok xs[j])→0≤s→s+m*c≤B →
   ∃ ys s',L k xs s (i:Int)=some (ys,s',(ys.length:Int))∧s≤s'∧s'≤s+m*c∧ys.length=xs.length∧(∀ j,j<i→ys[j]? = xs[j]?)∧∀ k',m<k'→H k' ys s (i:Int)=some (.inr (s',(ys.length:Int))):=by
 intro m
 induction m with
 | zero =>
  intro i k xs s hi hk _ _ _ _
  obtain ⟨k,rfl⟩:∃ k',k=k'+1:=⟨k-1,by omega⟩
  obtain rfl:i=xs.length:=by omega
  refine ⟨xs,s,hend k xs s,Int.le_refl _,by simp,rfl,fun _ _=>rfl,fun k' hk'=>?_⟩
  obtain ⟨k',rfl⟩:∃ k2,k'=k2+1:=⟨k' - 1,by omega⟩
  exact hHend k' xs s
 | succ m ih =>
  intro i k xs s hi hk hl hok h0 hB
  obtain ⟨k,rfl⟩:∃ k',k=k'+1:=⟨k-1,by omega⟩
  have hlt:i<xs.length:=by omega
  have e:((m+1:Nat):Int)*c=m*c+c:=by rw [Int.natCast_add,Int.add_mul];simp
  have hm:0≤(m:Int)*c:=Int.mul_nonneg (by omega) hc
  rw [e] at hB
  obtain ⟨r,hr,g1,g2,g3⟩:=hf xs[i] s (hok i hlt (Nat.le_refl _)) h0 (by omega)
  obtain ⟨ys,s',q1,q2,q3,q4,q5,q6⟩:=ih (i+1) k (xs.set i r.2) r.1 (by simp;omega) (by omega) (by simpa using hl) (fun j hj hij=>by
   have:=hok j (by simpa using hj) (by omega)
   rw [List.getElem_set_ne (by omega)];exact this) (by omega) (by omega)
  have hly:ys.length=xs.length:=by rw [q4];simp
  refine ⟨ys,s',by rw [hstep k xs s i hlt r hl hr];exact q1,by omega,by rw [e];omega,hly,fun j hj=>?_,fun k' hk'=>?_⟩
  ·rw [q5 j (by omega),List.getElem?_set_ne (by omega)]
  ·obtain ⟨k',rfl⟩:∃ k2,k'=k2+1:=⟨k' - 1,by omega⟩
   have hy:ys[i]'(by omega)=r.2:=by
    have:=q5 i (by omega)
    rw [List.getElem?_set_self hlt,List.getElem?_eq_getElem (by omega)] at this
    exact Option.some.inj this
   rw [hH k' ys s i (by omega) r.1 (by omega) (by rw [hy];exact g3) (by omega) (by omega)]
   exact q6 k' (by omega)
theorem bneD (x y:Int):(x != y)=!decide (x=y):=by by_cases h:x=y <;> simp [h]
theorem beqD (x y:Int):(x == y)=decide (x=y):=by by_cases h:x=y <;> simp [h]
theorem eqS_dec (s r:ByteArray):eqS s r=decide (s=r):=by
 unfold eqS
 rw [Bool.eq_iff_iff,decide_eq_true_iff]
 constructor
 ·intro h
  have h1:s.toList=r.toList:=by simpa using h
  rw [ByteArray.toList_eq,ByteArray.toList_eq] at h1
  cases s;cases r;simp_all
 ·rintro rfl;simp
end Go.Proofs.Ytkpeabpdiffjhaa
namespace Go.Proofs.Ytkpeabpdiffjhaa
open Go.RowKit Go.ChangeShapes Go.WideShapes Go.ChangeAt
theorem own_knob:ownKnob Try.prog.godebug=none:=by kernel_rfl
theorem laid_out:laidOutB Try.prog=true:=by kernel_rfl
theorem rdp_slice {α:Type} {R:Rep α} {E:TypeId} {p:α→Prop} (h:∀ {w:World} {cs:List Value} {x:α},R.rd w cs x→p x) {w:World} {cs:List Value} {xs:List α} (hr:(sliceR R E).rd w cs xs):AllL p 9223372036854775807 xs:=by
 obtain ⟨ao,cap,ccs,rfl,h1,h2,h3,h4,h5⟩:=hr
 refine ⟨by unfold maxLen at h2;omega,fun x hx=>?_⟩
 obtain ⟨j,hj,rfl⟩:=List.getElem_of_mem hx
 obtain ⟨ec,h6,_⟩:=rdL_at h4 j hj
 exact h h6
theorem rdp_str {w:World} {cs:List Value} {x:ByteArray} (hr:strR.rd w cs x):x.size≤9223372036854775807:=hr.2
theorem rdp_pair {α β:Type} {R:Rep α} {S:Rep β} {w:World} {cs:List Value} {x:α × β} (h:(pairR R S).rd w cs x):(∃ c,R.rd w c x.1)∧∃ c,S.rd w c x.2:=by
 obtain ⟨c1,c2,_,h1,h2⟩:=h;exact ⟨⟨c1,h1⟩,c2,h2⟩
theorem opens3:Opens Try.prog intR 3:=opens_int Try.underlying3
theorem opens9:Opens Try.prog strR 9:=opens_str Try.underlying9
theorem opens23:Opens Try.prog (sliceR intR 3) 23:=opens_slice Try.underlying23 (by kernel_rfl) (by decide) opens3
theorem rdp23 {w:World} {cs:List Value} {x:List Int} (h:(sliceR intR 3).rd w cs x):(AllL (fun _=>True) 9223372036854775807) x:=rdp_slice (fun _=>trivial) h
theorem opens113:Opens Try.prog (pairR strR (sliceR intR 3)) 113:=by
 intro H enc w base spare held fuel cs x h
 obtain ⟨xs,n,_,_,hl,hxl,hf⟩:=DataW.trod_struct Try.underlying113 h
 have hl2:cs.length=2:=hl.trans (by kernel_rfl)
 obtain ⟨y0,k0⟩:=opens_field opens9 (i:=0) (by rw [hxl];decide) (hf 0 _ rfl)
 have m0:(strR).rd w ((cs.drop 0).take (Try.prog.cellsOf 9)) y0:=k0
 rw [show Try.prog.cellsOf 9=1 by kernel_rfl] at m0
 obtain ⟨y1,k1⟩:=opens_field opens23 (i:=1) (by rw [hxl];decide) (hf 1 _ rfl)
 have m1:((sliceR intR 3)).rd w ((cs.drop 1).take (Try.prog.cellsOf 23)) y1:=k1
 rw [show Try.prog.cellsOf 23=1 by kernel_rfl] at m1
 rw [List.take_of_length_le (by simp;omega)] at m1
 exact ⟨(y0,y1),(rd_pair 1 (by simpa [List.drop_drop] using m0) (by simpa [List.drop_drop] using m1))⟩
theorem rdp113 {w:World} {cs:List Value} {x:ByteArray × List Int} (h:(pairR strR (sliceR intR 3)).rd w cs x):(fun x=>(fun s=>s.size≤9223372036854775807) x.1∧(AllL (fun _=>True) 9223372036854775807) x.2) x:=by
 obtain ⟨⟨_,a0⟩,_,b0⟩:=rdp_pair h
 exact ⟨rdp_str a0,rdp23 b0⟩
theorem opens22:Opens Try.prog (sliceR (pairR strR (sliceR intR 3)) 113) 22:=opens_slice Try.underlying22 (by kernel_rfl) (by decide) opens113
theorem rdp22 {w:World} {cs:List Value} {x:List (ByteArray × List Int)} (h:(sliceR (pairR strR (sliceR intR 3)) 113).rd w cs x):(AllL (fun x=>(fun s=>s.size≤9223372036854775807) x.1∧(AllL (fun _=>True) 9223372036854775807) x.2) 9223372036854775807) x:=rdp_slice rdp113 h
theorem opens25:Opens Try.prog (pairR intR (pairR (sliceR (pairR strR (sliceR intR 3)) 113) (sliceR intR 3))) 25:=by
 intro H enc w base spare held fuel cs x h
 obtain ⟨xs,n,_,_,hl,hxl,hf⟩:=DataW.trod_struct Try.underlying25 h
 have hl2:cs.length=3:=hl.trans (by kernel_rfl)
 obtain ⟨y0,k0⟩:=opens_field opens3 (i:=0) (by rw [hxl];decide) (hf 0 _ rfl)
 have m0:(intR).rd w ((cs.drop 0).take (Try.prog.cellsOf 3)) y0:=k0
 rw [show Try.prog.cellsOf 3=1 by kernel_rfl] at m0
 obtain ⟨y1,k1⟩:=opens_field opens22 (i:=1) (by rw [hxl];decide) (hf 1 _ rfl)
 have m1:((sliceR (pairR strR (sliceR intR 3)) 113)).rd w ((cs.drop 1).take (Try.prog.cellsOf 22)) y1:=k1
 rw [show Try.prog.cellsOf 22=1 by kernel_rfl] at m1
 obtain ⟨y2,k2⟩:=opens_field opens23 (i:=2) (by rw [hxl];decide) (hf 2 _ rfl)
 have m2:((sliceR intR 3)).rd w ((cs.drop 2).take (Try.prog.cellsOf 23)) y2:=k2
 rw [show Try.prog.cellsOf 23=1 by kernel_rfl] at m2
 rw [List.take_of_length_le (by simp;omega)] at m2
 exact ⟨(y0,y1,y2),(rd_pair 1 (by simpa [List.drop_drop] using m0) (rd_pair 1 (by simpa [List.drop_drop] using m1) (by simpa [List.drop_drop] using m2)))⟩
theorem rdp25 {w:World} {cs:List Value} {x:Int × List (ByteArray × List Int) × List Int} (h:(pairR intR (pairR (sliceR (pairR strR (sliceR intR 3)) 113) (sliceR intR 3))).rd w cs x):(fun x=>(AllL (fun x=>(fun s=>s.size≤9223372036854775807) x.1∧(AllL (fun _=>True) 9223372036854775807) x.2) 9223372036854775807) x.2.1∧(AllL (fun _=>True) 9223372036854775807) x.2.2) x:=by
 obtain ⟨⟨_,a0⟩,_,b0⟩:=rdp_pair h
 obtain ⟨⟨_,a1⟩,_,b1⟩:=rdp_pair b0
 exact ⟨rdp22 a1,rdp23 b1⟩
theorem opens60:Opens Try.prog (sliceR (sliceR intR 3) 23) 60:=opens_slice Try.underlying60 (by kernel_rfl) (by decide) opens23
theorem rdp60 {w:World} {cs:List Value} {x:List (List Int)} (h:(sliceR (sliceR intR 3) 23).rd w cs x):(AllL (AllL (fun _=>True) 9223372036854775807) 9223372036854775807) x:=rdp_slice rdp23 h
theorem opens126:Opens Try.prog (pairR intR (sliceR (sliceR intR 3) 23)) 126:=by
 intro H enc w base spare held fuel cs x h
 obtain ⟨xs,n,_,_,hl,hxl,hf⟩:=DataW.trod_struct Try.underlying126 h
 have hl2:cs.length=2:=hl.trans (by kernel_rfl)
 obtain ⟨y0,k0⟩:=opens_field opens3 (i:=0) (by rw [hxl];decide) (hf 0 _ rfl)
 have m0:(intR).rd w ((cs.drop 0).take (Try.prog.cellsOf 3)) y0:=k0
 rw [show Try.prog.cellsOf 3=1 by kernel_rfl] at m0
 obtain ⟨y1,k1⟩:=opens_field opens60 (i:=1) (by rw [hxl];decide) (hf 1 _ rfl)
 have m1:((sliceR (sliceR intR 3) 23)).rd w ((cs.drop 1).take (Try.prog.cellsOf 60)) y1:=k1
 rw [show Try.prog.cellsOf 60=1 by kernel_rfl] at m1
 rw [List.take_of_length_le (by simp;omega)] at m1
 exact ⟨(y0,y1),(rd_pair 1 (by simpa [List.drop_drop] using m0) (by simpa [List.drop_drop] using m1))⟩
theorem rdp126 {w:World} {cs:List Value} {x:Int × List (List Int)} (h:(pairR intR (sliceR (sliceR intR 3) 23)).rd w cs x):(fun x=>(AllL (AllL (fun _=>True) 9223372036854775807) 9223372036854775807) x.2) x:=by
 obtain ⟨⟨_,a0⟩,_,b0⟩:=rdp_pair h
 exact rdp60 b0
theorem opens128:Opens Try.prog (pairR strR (pairR intR (sliceR (sliceR intR 3) 23))) 128:=by
 intro H enc w base spare held fuel cs x h
 obtain ⟨xs,n,_,_,hl,hxl,hf⟩:=DataW.trod_struct Try.underlying128 h
 have hl2:cs.length=3:=hl.trans (by kernel_rfl)
 obtain ⟨y0,k0⟩:=opens_field opens9 (i:=0) (by rw [hxl];decide) (hf 0 _ rfl)
 have m0:(strR).rd w ((cs.drop 0).take (Try.prog.cellsOf 9)) y0:=k0
 rw [show Try.prog.cellsOf 9=1 by kernel_rfl] at m0
 obtain ⟨y1,k1⟩:=opens_field opens126 (i:=1) (by rw [hxl];decide) (hf 1 _ rfl)
 have m1:((pairR intR (sliceR (sliceR intR 3) 23))).rd w ((cs.drop 1).take (Try.prog.cellsOf 126)) y1:=k1
 rw [show Try.prog.cellsOf 126=2 by kernel_rfl] at m1
 rw [List.take_of_length_le (by simp;omega)] at m1
 exact ⟨(y0,y1),(rd_pair 1 (by simpa [List.drop_drop] using m0) (by simpa [List.drop_drop] using m1))⟩
theorem rdp128 {w:World} {cs:List Value} {x:ByteArray × (Int × List (List Int))} (h:(pairR strR (pairR intR (sliceR (sliceR intR 3) 23))).rd w cs x):(fun x=>(fun s=>s.size≤9223372036854775807) x.1∧(fun x=>(AllL (AllL (fun _=>True) 9223372036854775807) 9223372036854775807) x.2) x.2) x:=by
 obtain ⟨⟨_,a0⟩,_,b0⟩:=rdp_pair h
 exact ⟨rdp_str a0,rdp126 b0⟩
theorem opens43:Opens Try.prog (sliceR (pairR strR (pairR intR (sliceR (sliceR intR 3) 23))) 128) 43:=opens_slice Try.underlying43 (by kernel_rfl) (by decide) opens128
theorem rdp43 {w:World} {cs:List Value} {x:List (ByteArray × (Int × List (List Int)))} (h:(sliceR (pairR strR (pairR intR (sliceR (sliceR intR 3) 23))) 128).rd w cs x):(AllL (fun x=>(fun s=>s.size≤9223372036854775807) x.1∧(fun x=>(AllL (AllL (fun _=>True) 9223372036854775807) 9223372036854775807) x.2) x.2) 9223372036854775807) x:=rdp_slice rdp128 h
theorem opens45:Opens Try.prog (sliceR (pairR strR (pairR intR (sliceR (sliceR intR 3) 23))) 128) 45:=by
 intro H enc w base spare held fuel cs x h
 obtain ⟨xs,n,_,_,hl,hxl,hf⟩:=DataW.trod_struct Try.underlying45 h
 have hl2:cs.length=1:=hl.trans (by kernel_rfl)
 obtain ⟨y0,k0⟩:=opens_field opens43 (i:=0) (by rw [hxl];decide) (hf 0 _ rfl)
 have m0:((sliceR (pairR strR (pairR intR (sliceR (sliceR intR 3) 23))) 128)).rd w ((cs.drop 0).take (Try.prog.cellsOf 43)) y0:=k0
 rw [show Try.prog.cellsOf 43=1 by kernel_rfl] at m0
 rw [List.take_of_length_le (by simp;omega)] at m0
 exact ⟨y0,(by simpa [List.drop_drop] using m0)⟩
theorem rdp45 {w:World} {cs:List Value} {x:List (ByteArray × (Int × List (List Int)))} (h:(sliceR (pairR strR (pairR intR (sliceR (sliceR intR 3) 23))) 128).rd w cs x):(fun x=>(AllL (fun x=>(fun s=>s.size≤9223372036854775807) x.1∧(fun x=>(AllL (AllL (fun _=>True) 9223372036854775807) 9223372036854775807) x.2) x.2) 9223372036854775807) x) x:=by
 exact rdp43 h
end Go.Proofs.Ytkpeabpdiffjhaa
namespace Go.Proofs.Ytkpeabpdiffjhaa
open Go.RowKit

theorem Sat.splitp {w0 w:World} {A B C:Asn} {Γ:List Asn} (h:Sat w0 w (A :: Γ)) (k:∀ f,A.holds w f→∃ p q,(p++q).Perm f∧B.holds w p∧C.holds w q):Sat w0 w (B :: C :: Γ):=by
 obtain ⟨hb,_,⟨f1,f2,rfl,h1,h2⟩,hn,h3⟩:=h
 obtain ⟨p,q,hp,k1,k2⟩:=k f1 h1
 have hpp:(p++(q++f2)).Perm (f1++f2):=by rw [← List.append_assoc];exact List.Perm.append_right _ hp
 exact ⟨hb,p++(q++f2),⟨p,q++f2,rfl,k1,q,f2,rfl,k2,h2⟩,hpp.nodup_iff.2 hn,fun b hb'=>h3 b (hpp.mem_iff.1 hb')⟩
theorem Sat.joinp {w0 w:World} {A B C:Asn} {Γ:List Asn} (h:Sat w0 w (A :: B :: Γ)) (k:∀ f g,A.holds w f→B.holds w g→∃ p,p.Perm (f++g)∧C.holds w p):Sat w0 w (C :: Γ):=by
 obtain ⟨hb,_,⟨f1,_,rfl,h1,f2,f3,rfl,h2,h4⟩,hn,h3⟩:=h
 obtain ⟨p,hp,k1⟩:=k f1 f2 h1 h2
 have hpp:(p++f3).Perm (f1++(f2++f3)):=by rw [← List.append_assoc];exact List.Perm.append_right _ hp
 exact ⟨hb,p++f3,⟨p,f3,rfl,k1,h4⟩,hpp.nodup_iff.2 hn,fun b hb'=>h3 b (hpp.mem_iff.1 hb')⟩
section
variable {α β:Type} {R:Rep α} {S:Rep β} {w0 w:World} {Γ:List Asn} {E:TypeId} {v:Value}
def Hole (R:Rep α) (E:TypeId) (v:Value) (xs:List α) (i:Nat) (ec:List Value):Asn where
 holds w fp:=(∀ b∈fp,b<w.heap.size)∧∀ w' y f',(∀ b∈fp,w'.heap[b]? = w.heap[b]?)→R.own w' ec y f'→∃ p,p.Perm (f'++fp)∧(sliceR R E).own w' [v] (xs.set i y) p
 ext h he:=by
  refine ⟨fun b hb=>?_,fun w'' y f' he' ho=>h.2 w'' y f' (fun b hb=>(he' b hb).trans (he b hb)) ho⟩
  have h1:=h.1 b hb
  have h2:=he b hb
  rw [Array.getElem?_eq_getElem h1] at h2
  exact (Array.getElem?_eq_some_iff.1 h2).1
 lt h:=h.1
theorem ownL_at {w:World}:∀ {xs:List α} {ccs:List Value} {f:List Nat},ownL R w ccs xs f→∀ (k:Nat) (hk:k<xs.length),
  ∃ ec f1 f2 f3,R.own w ec xs[k] f2∧f=f1++(f2++f3)∧(∀ j c,ec[j]? = some c→ccs[k*R.sz+j]? = some c) ∧
   ∀ w' y f',(∀ b∈f1++f3,w'.heap[b]? = w.heap[b]?)→R.own w' ec y f'→ownL R w' ccs (xs.set k y) (f1++(f'++f3))
 | [],_,_,_,k,hk=>absurd hk (by simp)
 | x :: xs,_,_,h,k,hk=>by
  obtain ⟨ec,rest,f1,f2,rfl,rfl,h1,h2⟩:=h
  cases k with
  | zero =>
   refine ⟨ec,[],f1,f2,h1,rfl,fun j c hj=>?_,fun w' y f' he ho=>?_⟩
   ·have hlt:j<ec.length:=(List.getElem?_eq_some_iff.1 hj).1
    rw [Nat.zero_mul,Nat.zero_add,List.getElem?_append_left hlt];exact hj
   ·exact ⟨ec,rest,f',f2,rfl,rfl,ho,ownL_ext h2 fun b hb=>he b (by simpa using hb)⟩
  | succ k =>
   obtain ⟨ec',g1,g2,g3,k1,rfl,k3,k4⟩:=ownL_at h2 k (by simpa using hk)
   refine ⟨ec',f1++g1,g2,g3,by simpa using k1,by simp,fun j c hj=>?_,fun w' y f' he ho=>?_⟩
   ·have e:(k+1)*R.sz+j=ec.length+(k*R.sz+j):=by rw [R.rd_len (R.own_rd h1),Nat.add_mul];omega
    rw [e,List.getElem?_append_right (by omega),Nat.add_sub_cancel_left]
    exact k3 j c hj
   ·refine ⟨ec,rest,f1,g1++(f'++g3),rfl,by simp,R.own_ext h1 fun b hb=>he b (by simp [hb]),k4 w' y f' (fun b hb=>he b ?_) ho⟩
    rcases List.mem_append.1 hb with h | h
    ·simp [h]
    ·simp [h]
theorem Sat.takeOut {xs:List α} {g ln cap m:Nat} {i:Int} {u:α} {ec:List Value} (hS:Sat w0 w (Own (sliceR R E) [v] xs :: Γ)) (hv:v=.slice (some ⟨g,0,none⟩) ln cap) (h:ix xs i=some u) (hn:R.sz=m) (hl:ec.length=m)
  (hm:∀ j c,ec[j]? = some c→w.cell? ⟨g,i.toNat*m+j,none⟩=some c):Sat w0 w (Own R ec u :: Hole R E v xs i.toNat ec :: Γ):=by
 obtain ⟨k,rfl,hk,rfl⟩:=ix_some h
 subst hv hn
 refine hS.splitp fun f hf=>?_
 rcases hf with ⟨_,h2,_⟩ | ⟨g',cap',cur,ccs,fe,hv,hg,h1,h2,h3,h4,h5,rfl⟩
 ·subst h2;simp at hk
 obtain ⟨rfl,rfl,rfl⟩:g=g'∧ln=xs.length∧cap=cap':=by simpa using hv
 obtain ⟨ec',f1,f2,f3,k1,rfl,k3,k4⟩:=ownL_at h5 k hk
 have hec:ec=ec':=by
  refine List.ext_getElem (by rw [hl,R.rd_len (R.own_rd k1)]) fun j hj1 hj2=>?_
  have e1:=hm j ec[j] (List.getElem?_eq_getElem hj1)
  have e2:=k3 j ec'[j] (List.getElem?_eq_getElem hj2)
  simp only [Int.toNat_natCast] at e1
  rw [cell_of_row w g _ cur E (0,0) hg,← Array.getElem?_toList] at e1
  rw [← h4,List.getElem?_take] at e2
  split at e2
  ·rw [e1] at e2;exact Option.some.inj e2
  ·cases e2
 subst hec
 refine ⟨f2,g :: (f1++f3),?_,k1,⟨fun b hb=>?_,fun w' y f' he ho=>⟨g :: (f1++(f'++f3)),?_,.inr ⟨g,cap,cur,ccs,_,by simp,by rw [he g (by simp)];exact hg,by simpa using h1,h2,h3,by simpa using h4,by
  simp only [Int.toNat_natCast]
  exact k4 w' y f' (fun b hb=>he b (List.mem_cons_of_mem _ hb)) ho,rfl⟩⟩⟩⟩
 ·refine List.perm_middle.trans (.cons _ ?_)
  rw [← List.append_assoc,← List.append_assoc]
  exact List.Perm.append_right _ List.perm_append_comm
 ·rcases List.mem_cons.1 hb with rfl | hb
  ·exact (Array.getElem?_eq_some_iff.1 hg).1
  ·refine ownL_lt h5 b ?_
   rcases List.mem_append.1 hb with h | h <;> simp [h]
 ·refine .trans (.cons _ ?_) List.perm_middle.symm
  rw [← List.append_assoc,← List.append_assoc]
  exact List.Perm.append_right _ List.perm_append_comm
theorem Sat.putBack {xs ys:List α} {i:Int} {y:α} {ec:List Value} (hS:Sat w0 w (Own R ec y :: Hole R E v xs i.toNat ec :: Γ)) (h:sto xs i y=some ys):Sat w0 w (Own (sliceR R E) [v] ys :: Γ):=by
 have e:ys=xs.set i.toNat y:=by
  unfold sto at h;split at h
  ·exact (Option.some.inj h).symm
  ·cases h
 subst e
 exact hS.joinp fun f g h1 h2=>h2.2 w y f (fun _ _=>rfl) h1
theorem Sat.unpair {c d:List Value} {x:α × β} (hS:Sat w0 w (Own (pairR R S) (c++d) x :: Γ)) (hc:c.length=R.sz):Sat w0 w (Own R c x.1 :: Own S d x.2 :: Γ):=by
 refine hS.splitp fun f hf=>?_
 obtain ⟨c1,c2,f1,f2,hcs,rfl,h1,h2⟩:=hf
 have hl:=R.rd_len (R.own_rd h1)
 obtain ⟨rfl,rfl⟩:=List.append_inj hcs (by omega)
 exact ⟨f1,f2,.refl _,h1,h2⟩
end
end Go.Proofs.Ytkpeabpdiffjhaa
namespace Go.Proofs.Ytkpeabpdiffjhaa
open Go.RowKit

theorem Sat.rebase {a b w:World} {Γ:List Asn} (h:Sat b w Γ) (hx:Ext a b):Sat a w Γ:=by
 obtain ⟨hb,fp,h1,h2,h3⟩:=h
 exact ⟨Ext.trans hx hb,fp,h1,h2,fun x hx'=>Nat.le_trans hx.size (h3 x hx')⟩
theorem Sat.drop {w0 w:World} {Γ Δ:List Asn} (h:Sat w0 w (Γ++Δ)):Sat w0 w Δ:=by
 induction Γ with
 | nil=>simpa using h
 | cons A Γ ih=>exact ih h.tail
def roR {α:Type} (W:World) (R:Rep α):Rep α where
 sz:=R.sz
 rd _ cs x:=R.rd W cs x
 own _ cs x fp:=R.rd W cs x∧fp=[]
 rd_len h:=R.rd_len h
 rd_one h:=R.rd_one h
 rd_ext h _:=h
 own_rd h:=h.1
 own_ext h _:=h
 own_lt h:=by rw [h.2];simp
section
variable {α:Type} {R:Rep α} {W w w0 w':World} {E:TypeId} {Γ:List Asn} {v:Value} {xs:List α}
theorem rdL_ro (hx:Ext W w):∀ {xs:List α} {ccs:List Value},rdL (roR W R) w ccs xs→rdL R w ccs xs
 | [],_,h=>h
 | x :: xs,_,h=>by
  obtain ⟨ec,rest,rfl,h1,h2⟩:=h
  exact ⟨ec,rest,rfl,R.rd_ext h1 hx,rdL_ro hx h2⟩
theorem ro_rd {cs:List Value} (hx:Ext W w) (h:(sliceR (roR W R) E).rd w cs xs):(sliceR R E).rd w cs xs:=by
 obtain ⟨ao,cap,ccs,h1,h2,h3,h4,h5,h6⟩:=h
 exact ⟨ao,cap,ccs,h1,h2,h3,h4,rdL_ro hx h5,h6⟩
theorem Sat.roOne {cs:List Value} {x:α} (hS:Sat w0 w Γ) (h:R.rd W cs x):Sat w0 w (Own (roR W R) cs x :: Γ):=hS.add ⟨h,rfl⟩
def tailAt (w:World) (E:TypeId) (ao:Option Addr) (ccs:List Value) (fp f2:List Nat):Prop :=
 (ccs=[]∧fp=f2)∨∃ g off cur,ao=some ⟨g,off,none⟩∧w.heap[g]? = some (.cells cur E (0,0))∧(∀ j c,ccs[j]? = some c→cur[off+j]? = some c)∧fp=g :: f2
def tailR {α:Type} (R:Rep α) (E:TypeId):Rep (List α) where
 sz:=1
 rd w cs xs:=(sliceR R E).rd w cs xs
 own w cs xs fp:=∃ ao cap ccs f2,cs=[.slice ao xs.length cap]∧xs.length≤cap∧cap≤maxLen∧(ao=none→cap=0)∧ownL R w ccs xs f2∧tailAt w E ao ccs fp f2
 rd_len h:=(sliceR R E).rd_len h
 rd_one h:=(sliceR R E).rd_one h
 rd_ext h he:=(sliceR R E).rd_ext h he
 own_rd h:=by
  obtain ⟨ao,cap,ccs,f2,rfl,h1,h2,h3,h4,h5⟩:=h
  refine ⟨ao,cap,ccs,rfl,h1,h2,h3,ownL_rdL h4,?_⟩
  rcases h5 with ⟨rfl,_⟩ | ⟨g,off,cur,rfl,hg,hc,_⟩
  ·exact .inl rfl
  ·refine .inr ⟨g,off,rfl,fun j c hj=>?_⟩
   rw [cell_of_row _ g _ cur E (0,0) hg];exact hc j c hj
 own_ext h he:=by
  obtain ⟨ao,cap,ccs,f2,rfl,h1,h2,h3,h4,h5⟩:=h
  rcases h5 with ⟨hc,rfl⟩ | ⟨g,off,cur,rfl,hg,hc,rfl⟩
  ·exact ⟨ao,cap,ccs,_,rfl,h1,h2,h3,ownL_ext h4 he,.inl ⟨hc,rfl⟩⟩
  ·exact ⟨_,cap,ccs,f2,rfl,h1,h2,h3,ownL_ext h4 (fun b hb=>he b (by simp [hb])),.inr ⟨g,off,cur,rfl,by rw [he g (by simp)];exact hg,hc,rfl⟩⟩
 own_lt h:=by
  obtain ⟨ao,cap,ccs,f2,rfl,h1,h2,h3,h4,h5⟩:=h
  rcases h5 with ⟨hc,rfl⟩ | ⟨g,off,cur,rfl,hg,hc,rfl⟩
  ·exact ownL_lt h4
  ·intro b hb
   rcases List.mem_cons.1 hb with rfl | hb
   ·exact (Array.getElem?_eq_some_iff.1 hg).1
   ·exact ownL_lt h4 b hb
theorem Sat.toTail (hS:Sat w0 w (Own (sliceR R E) [v] xs :: Γ)):Sat w0 w (Own (tailR R E) [v] xs :: Γ):=by
 refine hS.conv fun f hf=>?_
 rcases hf with ⟨hv,rfl,rfl⟩ | ⟨g,cap,cur,ccs,f2,hv,hg,h1,h2,h3,h4,h5,rfl⟩
 ·exact ⟨none,0,[],[],hv,Nat.le_refl _,Nat.zero_le _,fun _=>rfl,⟨rfl,rfl⟩,.inl ⟨rfl,rfl⟩⟩
 ·refine ⟨_,cap,ccs,f2,hv,h1,h2,by simp,h5,.inr ⟨g,0,cur,rfl,hg,fun j c hj=>?_,rfl⟩⟩
  rw [Nat.zero_add,← Array.getElem?_toList]
  rw [← h4,List.getElem?_take] at hj
  split at hj
  ·exact hj
  ·cases hj
def Beheaded (R:Rep α) (E:TypeId) (v:Value) (xs:List α):Asn where
 holds w fp:=∃ ao cap ec rest f2,v=.slice ao xs.length cap∧xs.length≤cap∧cap≤maxLen∧(ao=none→cap=0)∧ec.length=R.sz∧ownL R w rest xs.tail f2∧tailAt w E ao (ec++rest) fp f2
 ext h he:=by
  obtain ⟨ao,cap,ec,rest,f2,rfl,h1,h2,h3,hl,h4,h5⟩:=h
  rcases h5 with ⟨hc,rfl⟩ | ⟨g,off,cur,rfl,hg,hc,rfl⟩
  ·exact ⟨ao,cap,ec,rest,_,rfl,h1,h2,h3,hl,ownL_ext h4 he,.inl ⟨hc,rfl⟩⟩
  ·exact ⟨_,cap,ec,rest,f2,rfl,h1,h2,h3,hl,ownL_ext h4 (fun b hb=>he b (by simp [hb])),.inr ⟨g,off,cur,rfl,by rw [he g (by simp)];exact hg,hc,rfl⟩⟩
 lt h:=by
  obtain ⟨ao,cap,ec,rest,f2,rfl,h1,h2,h3,hl,h4,h5⟩:=h
  rcases h5 with ⟨hc,rfl⟩ | ⟨g,off,cur,rfl,hg,hc,rfl⟩
  ·exact ownL_lt h4
  ·intro b hb
   rcases List.mem_cons.1 hb with rfl | hb
   ·exact (Array.getElem?_eq_some_iff.1 hg).1
   ·exact ownL_lt h4 b hb
theorem Sat.behead {u:α} {ec:List Value} {m b off:Nat} (hS:Sat w0 w (Own (tailR R E) [v] xs :: Γ)) (h:ix xs 0=some u) (hn:R.sz=m) (hpos:0<m) (hl:ec.length=m)
  (hv:∃ ln cap,v=.slice (some ⟨b,off,none⟩) ln cap) (hm:∀ j c,ec[j]? = some c→w.cell? ⟨b,off+j,none⟩=some c):Sat w0 w (Own R ec u :: Beheaded R E v xs :: Γ):=by
 subst hn
 refine hS.splitp fun f hf=>?_
 obtain ⟨ao,cap,ccs,f2,hcs,h1,h2,h3,h4,h5⟩:=hf
 cases xs with
 | nil=>simp [ix] at h
 | cons x xs =>
  obtain rfl:x=u:=by simpa [ix] using h
  obtain ⟨ec',rest,g1,g2,rfl,rfl,k1,k2⟩:=h4
  have hl':=R.rd_len (R.own_rd k1)
  obtain ⟨ln,cap',rfl⟩:=hv
  simp only [List.cons.injEq,and_true,Value.slice.injEq] at hcs
  obtain ⟨rfl,rfl,rfl⟩:=hcs
  rcases h5 with ⟨hc,rfl⟩ | ⟨g,off',cur,hao,hg,hc,rfl⟩
  ·rw [List.append_eq_nil_iff] at hc;rw [hc.1] at hl';simp at hl';omega
  ·simp only [Option.some.injEq,Addr.mk.injEq,and_true] at hao
   obtain ⟨rfl,rfl⟩:=hao
   have hec:ec=ec':=by
    refine List.ext_getElem (by omega) fun j hj1 hj2=>?_
    have e1:=hm j ec[j] (List.getElem?_eq_getElem hj1)
    have e2:=hc j ec'[j] (by rw [List.getElem?_append_left hj2];exact List.getElem?_eq_getElem hj2)
    rw [cell_of_row w b _ cur E (0,0) hg,e2] at e1
    exact (Option.some.inj e1).symm
   subst hec
   exact ⟨g1,b :: g2,List.perm_middle,k1,_,_,ec,rest,g2,rfl,h1,h2,h3,hl,k2,.inr ⟨b,off,cur,rfl,hg,hc,rfl⟩⟩
theorem Sat.behead' (hS:Sat w0 w (Own (tailR R E) [v] xs :: Γ)) (h:0<xs.length):Sat w0 w (Beheaded R E v xs :: Γ):=by
 obtain ⟨ao,hao⟩:∃ A,A=Asn.mk (fun w fp=>True∧∀ b∈fp,b<w.heap.size) (fun h he=>⟨trivial,fun b hb=>by
  have h1:=h.2 b hb
  have h2:=he b hb
  rw [Array.getElem?_eq_getElem h1] at h2
  exact (Array.getElem?_eq_some_iff.1 h2).1⟩) (fun h=>h.2):=⟨_,rfl⟩
 refine Sat.tail (A:=ao) ?_
 refine hS.splitp fun f hf=>?_
 obtain ⟨ao',cap,ccs,f2,hcs,h1,h2,h3,h4,h5⟩:=hf
 cases xs with
 | nil=>simp at h
 | cons x xs =>
  obtain ⟨ec',rest,g1,g2,rfl,rfl,k1,k2⟩:=h4
  have hl':=R.rd_len (R.own_rd k1)
  have hv:v=.slice ao' (x :: xs).length cap:=by simpa using hcs
  subst hao
  rcases h5 with ⟨hc,rfl⟩ | ⟨g,off',cur,hao,hg,hc,rfl⟩
  ·exact ⟨g1,g2,.refl _,⟨trivial,R.own_lt k1⟩,ao',cap,ec',rest,g2,hv,h1,h2,h3,hl',k2,.inl ⟨hc,rfl⟩⟩
  ·exact ⟨g1,g :: g2,List.perm_middle,⟨trivial,R.own_lt k1⟩,ao',cap,ec',rest,g2,hv,h1,h2,h3,hl',k2,.inr ⟨g,off',cur,hao,hg,hc,rfl⟩⟩
end
section
variable {P:Program} {n:Nat} {ops:Array Oper} {K:Env→World→Prop} {rest:List Oper} {e:Env} {w w0:World} {v:Value} {d:Nat} {ty:TypeId} {pos:String} {af:Array Edge} {Γ:List Asn} {x y:Operand} {α:Type} {R:Rep α} {E:TypeId}
theorem el_tail {t:TypeId} {lo:Operand} [ht:SliceT P t E] {z:List Value} {m bytes:Nat} [hz:ElemT P E z m bytes] (hn:R.sz=m) (hpos:0<m) {xs ys:List α} (hS:Sat w0 w (Beheaded R E v xs :: Γ)) (hx:ev e x=v) (hlo:ev e lo=.int .i64 1) (hq:slc xs 1 (xs.length:Int)=some ys) (hd:d<n)
  (hK:∀ v',Sat w0 w (Own (tailR R E) [v'] ys :: Γ)→EL P n ops K rest (upd e d v') w):EL P n ops K (⟨some d,.slice t x (some lo) none none,ty,pos,af,none⟩ :: rest) e w:=by
 have hlen:1≤xs.length∧ys=xs.tail:=by
  unfold slc at hq
  split at hq
  ·rename_i h0
   refine ⟨by omega,?_⟩
   have:=Option.some.inj hq
   rw [← this];simp
  ·cases hq
 obtain ⟨hl1,rfl⟩:=hlen
 obtain ⟨fp,⟨ao,cap,ec,rs,f2,rfl,h1,h2,h3,hl,h4,h5⟩,_⟩:=hS.head
 have hz:=hz.h
 cases hq':P.info? E with
 | none=>simp [hq'] at hz
 | some inf =>
  simp [hq'] at hz
  have hsz:inf.size=R.sz:=by rw [hn];exact hz.2.1
  refine el_pv (v:=.slice (if cap=1 then ao else ao.map (·.add (1*inf.size))) (xs.length-1) (cap-1)) ?_ hd (hK _ ?_)
  ·intro w' _
   have hb:(Instr.sliceBounds true xs.length cap (some (.int .i64 1)) none none).run P w'=.ok (1,xs.length,cap) w':=by
    have h9:xs.length≤cap:=h1
    simp [Instr.sliceBounds,Instr.sliceBound,asIntOf,h9,hl1]
    intro h;omega
   unfold execOp
   simp only [hx,Instr.sliceAt,Sem.run_bind,run_underlying ht.h,Result.andThen_ok,Instr.slice,Option.map_some,hlo,Option.map_none,hb,sizeOf,typeInfo,hq',run_program,Sem.run_pure]
  ·refine hS.conv fun f hf=>?_
   obtain ⟨ao',cap',ec',rs',f2',hv,k1,k2,k3,kl,k4,k5⟩:=hf
   simp only [Value.slice.injEq] at hv
   obtain ⟨rfl,_,rfl⟩:=hv
   have hrl:=rdL_len (ownL_rdL k4)
   refine ⟨(if cap=1 then ao else ao.map (·.add (1*inf.size))),cap-1,rs',f2',by simp,by simp;omega,by omega,?_,k4,?_⟩
   ·intro e0
    split at e0
    ·omega
    ·cases ao with
     | none=>have:=k3 rfl;omega
     | some _=>simp at e0
   ·rcases k5 with ⟨hc,rfl⟩ | ⟨g,off,cur,rfl,hg,hc,rfl⟩
    ·rw [List.append_eq_nil_iff] at hc
     exact .inl ⟨hc.2,rfl⟩
    ·by_cases hc1:cap=1
     ·
      have:xs.tail=[]:=by apply List.eq_nil_of_length_eq_zero;simp;omega
      rw [if_pos hc1]
      have hr0:rs'=[]:=by apply List.eq_nil_of_length_eq_zero;rw [hrl,this];simp
      subst hr0
      exact .inr ⟨g,off,cur,rfl,hg,by simp,rfl⟩
     ·rw [if_neg hc1]
      refine .inr ⟨g,off+inf.size,cur,by simp [Addr.add_lit],hg,fun j c hj=>?_,rfl⟩
      rw [hsz,← kl,Nat.add_assoc]
      exact hc _ c (by rw [List.getElem?_append_right (by omega),Nat.add_sub_cancel_left];exact hj)
theorem el_head {t:TypeId} [ht:SliceT P t E] {zz:List Value} {m bytes:Nat} [hz:ElemT P E zz m bytes] {xs:List α} (hS:Sat w0 w (Own (tailR R E) [v] xs :: Γ)) (hs:ev e x=v)
  (hn:R.sz=m) (hpos:0<m) {k:IntKind} (hi:ev e y=.int k 0) {u:α} (h:ix xs 0=some u) (hd:d<n)
  (hK:∀ b off ec,(∃ ln cap,v=.slice (some ⟨b,off,none⟩) ln cap)→R.rd w ec u→(∀ j c,ec[j]? = some c→w.cell? ⟨b,off+j,none⟩=some c)→EL P n ops K rest (upd e d (.pointer (some ⟨b,off,none⟩))) w) :
  EL P n ops K (⟨some d,.indexAddr t x y,ty,pos,af,none⟩ :: rest) e w:=by
 have hr:(sliceR R E).rd w [v] xs:=hS.rd
 obtain ⟨ao,cap,ccs,hv,h1,h2,h3,h4,h5⟩:=hr
 obtain rfl:v=.slice ao xs.length cap:=by simpa using hv
 obtain ⟨k',hk0,hk,rfl⟩:=ix_some h
 obtain rfl:k'=0:=by omega
 obtain ⟨ec,hec,hcc⟩:=rdL_at h4 0 hk
 have hz:=hz.h
 have hlen:=rdL_len h4
 cases hq:P.info? E with
 | none=>simp [hq] at hz
 | some inf =>
  simp [hq] at hz
  obtain ⟨b,off,rfl,hc⟩:∃ b off,ao=some ⟨b,off,none⟩∧∀ j c,ccs[j]? = some c→w.cell? ⟨b,off+j,none⟩=some c:=by
   rcases h5 with rfl | ⟨b,off,rfl,hc⟩
   ·have:0<xs.length*R.sz:=Nat.mul_pos (by omega) (by omega)
    simp at hlen;omega
   ·exact ⟨b,off,rfl,hc⟩
  refine el_pv (v:=.pointer (some ⟨b,off,none⟩)) ?_ hd (hK b off ec ⟨_,_,rfl⟩ hec fun j c hj=>hc _ _ (by have:=hcc j c hj;simpa using this))
  intro w' _
  unfold execOp
  simp [hs,hi,Instr.indexAt,asIntOf,run_underlying ht.h,sizeOf,typeInfo,hq,hk,Addr.add_lit]
end

def scat (s r:ByteArray):Option ByteArray:=if s.size+r.size≤9223372036854775807 then some (s++r) else none
def ofB (xs:List Int):ByteArray:=xs.foldl (fun r n=>r.push (UInt8.ofNat n.toNat)) ByteArray.empty
theorem push_size (s:ByteArray) (b:UInt8):(s.push b).size=s.size+1:=by
 cases s;simp [ByteArray.push,ByteArray.size]
theorem ofB_size (xs:List Int):(ofB xs).size=xs.length:=by
 unfold ofB
 have:∀ (xs:List Int) (s:ByteArray),(xs.foldl (fun r n=>r.push (UInt8.ofNat n.toNat)) s).size=s.size+xs.length:=by
  intro xs
  induction xs with
  | nil=>intro s;simp
  | cons x xs ih=>intro s;rw [List.foldl_cons,ih,push_size,List.length_cons];omega
 rw [this];simp
theorem scat_size {s r c:ByteArray} (h:scat s r=some c):c.size≤9223372036854775807:=by
 unfold scat at h
 split at h
 ·rename_i h0
  obtain rfl:=Option.some.inj h
  rw [ByteArray.size_append];exact h0
 ·cases h
theorem ofB_sz {w:World} {E:TypeId} {v:Value} {xs:List Int} (h:(sliceR u8R E).rd w [v] xs):(ofB xs).size≤9223372036854775807:=by
 obtain ⟨ao,cap,ccs,_,h1,h2,_⟩:=h
 rw [ofB_size];unfold maxLen at h2;omega
section
variable {P:Program} {e:Env} {w:World} {d:Option Nat} {ty:TypeId} {pos:String} {af:Array Edge} {x y:Operand}
theorem pv_addS {t u:TypeId} {s r c:ByteArray} (hx:ev e x=.string s) (hy:ev e y=.string r) (h:scat s r=some c):PV P ⟨d,.binOp .add t x y u,ty,pos,af,none⟩ e w (.string c):=fun w' _=>by
 unfold scat at h
 split at h
 ·rename_i h0
  obtain rfl:=Option.some.inj h
  have h1:¬ (((s.size+r.size:Nat):Int) > IntKind.i64.max):=by
   have:IntKind.i64.max=9223372036854775807:=by decide
   rw [this];omega
  unfold execOp;simp only [hx,hy,eqGuard,binOp,Op.stringOp,Sem.run_bind,Sem.run_pure,Result.andThen_ok,if_neg h1]
  simp
 ·cases h
theorem pv_bytes {t u E:TypeId} [ht:SliceT P t E] (he:P.underlying E=some (.int .u8)) (hu:P.underlying u=some .string) {v:Value} (hx:ev e x=v) {xs:List Int} (hr:(sliceR u8R E).rd w [v] xs):PV P ⟨d,.convert t u x,ty,pos,af,none⟩ e w (.string (ofB xs)):=fun w' hw'=>by
 obtain ⟨ao,cap,ccs,hv,h1,h2,h3,h4,h5⟩:=hr
 obtain rfl:v=.slice ao xs.length cap:=by simpa using hv
 have hcc:ccs=xs.map (Value.int .u8):=by
  clear hv h1 h2 h3 h5 hx
  induction xs generalizing ccs with
  | nil=>simpa [rdL] using h4
  | cons y ys ih =>
   obtain ⟨ec,r,rfl,h6,h7⟩:=h4
   obtain rfl:=ih _ h7
   have:ec=[.int .u8 y]:=h6
   rw [this];rfl
 unfold execOp
 simp only [hx,Sem.run_bind,run_convert_bytes_string w' t u E ao xs.length cap ht.h he hu]
 cases ao with
 | none =>
  have:xs=[]:=by apply List.eq_nil_of_length_eq_zero;have:=h3 rfl;omega
  subst this
  simp [Conv.bytesToString,ofB]
 | some a =>
  have hl:(loadCells a xs.length).run P w'=.ok (xs.map (Value.int .u8)).toArray w':=by
   rcases h5 with h5 | ⟨b,off,hao,h5⟩
   ·rw [hcc,List.map_eq_nil_iff] at h5;subst h5
    simp [loadCells,loadCellsFrom]
   ·obtain rfl:=Option.some.inj hao
    have:=run_loadCells_list (P:=P) w' ⟨b,off,none⟩ (xs.map (Value.int .u8)) (fun j c hj=>by rw [Addr.add_lit];have:=h5 j c (by rw [hcc];exact hj);rw [hw'.cell (block_lt_of_cell this)];exact this)
    simpa using this
  rw [run_bytesToString w' a xs.length cap xs hl]
  simp [ofB]
end
def FieldUp {α:Type} (R:Rep α) (j:Nat) (c:Value) (u y:α):Prop:=∀ w ec f,R.own w ec u f→j<ec.length∧R.own w (ec.set j c) y f
theorem fu_int (n x:Int):FieldUp intR 0 (.int .i64 n) x n:=fun w ec f h=>by obtain ⟨rfl,rfl⟩:=h;exact ⟨by simp,rfl,rfl⟩
theorem fu_str {s:ByteArray} (hs:s.size≤9223372036854775807) (x:ByteArray):FieldUp strR 0 (.string s) x s:=fun w ec f h=>by obtain ⟨⟨rfl,_⟩,rfl⟩:=h;exact ⟨by simp,⟨rfl,hs⟩,rfl⟩
theorem fu_fst {α β:Type} {R:Rep α} {S:Rep β} {j:Nat} {c:Value} {x:α × β} {y:α} (h:FieldUp R j c x.1 y):FieldUp (pairR R S) j c x (y,x.2):=fun w ec f hf=>by
 obtain ⟨c1,c2,f1,f2,rfl,rfl,h1,h2⟩:=hf
 obtain ⟨k1,k2⟩:=h w c1 f1 h1
 exact ⟨by simp;omega,c1.set j c,c2,f1,f2,List.set_append_left _ _ k1,rfl,k2,h2⟩
theorem fu_snd {α β:Type} {R:Rep α} {S:Rep β} {j k:Nat} {c:Value} {x:α × β} {y:β} (h:FieldUp S j c x.2 y) (hk:k=R.sz+j):FieldUp (pairR R S) k c x (x.1,y):=fun w ec f hf=>by
 obtain ⟨c1,c2,f1,f2,rfl,rfl,h1,h2⟩:=hf
 obtain ⟨k1,k2⟩:=h w c2 f2 h2
 have hl:=R.rd_len (R.own_rd h1)
 refine ⟨by simp;omega,c1,c2.set j c,f1,f2,?_,rfl,h1,k2⟩
 rw [List.set_append_right _ _ (by omega)];congr 2;omega
theorem ownL_upd {α:Type} {R:Rep α} {w:World} {j:Nat} {c:Value} {y:α}:∀ {xs:List α} {ccs:List Value} {f:List Nat},ownL R w ccs xs f→∀ (k:Nat) (hk:k<xs.length),FieldUp R j c xs[k] y→ownL R w (ccs.set (k*R.sz+j) c) (xs.set k y) f
 | [],_,_,_,k,hk,_=>absurd hk (by simp)
 | x :: xs,_,_,h,k,hk,hu=>by
  obtain ⟨ec,rest,f1,f2,rfl,rfl,h1,h2⟩:=h
  cases k with
  | zero =>
   obtain ⟨k1,k2⟩:=hu w ec f1 h1
   exact ⟨ec.set j c,rest,f1,f2,by rw [Nat.zero_mul,Nat.zero_add,List.set_append_left _ _ k1],rfl,k2,h2⟩
  | succ k =>
   have hl:=R.rd_len (R.own_rd h1)
   refine ⟨ec,rest.set (k*R.sz+j) c,f1,f2,?_,rfl,h1,ownL_upd h2 k (by simpa using hk) (by simpa using hu)⟩
   rw [List.set_append_right _ _ (by rw [Nat.succ_mul];omega)]
   congr 2;rw [Nat.succ_mul];omega
section
variable {P:Program} {n:Nat} {ops:Array Oper} {K:Env→World→Prop} {rest:List Oper} {e:Env} {w w0:World} {v:Value} {ty:TypeId} {pos:String} {af:Array Edge} {Γ:List Asn} {x y:Operand} {α:Type} {R:Rep α} {E:TypeId}
theorem el_storeF {t:TypeId} {z:List Value} {bytes:Nat} [hz:ElemT P t z 1 bytes] {xs ys:List α} {g ln cap o j m:Nat} {u yv:α} {c:Value} (hv:v=.slice (some ⟨g,0,none⟩) ln cap)
  (hS:Sat w0 w (Own (sliceR R E) [v] xs :: Γ)) {i:Int} (hix:ix xs i=some u) (h:sto xs i yv=some ys) (hn:R.sz=m) (ho:o=i.toNat*m+j) (hx:ev e x=.pointer (some ⟨g,o,none⟩)) (hy:(ev e y).cells=[c].toArray) (h1:c.oneCell'=true)
  (hup:FieldUp R j c u yv) (hK:∀ w',Sat w0 w' (Own (sliceR R E) [v] ys :: Γ)→EL P n ops K rest e w'):EL P n ops K (⟨none,.store t x y,ty,pos,af,none⟩ :: rest) e w:=by
 intro a ha
 refine wpList_plain rfl fun K' hK'=>?_
 obtain ⟨k,rfl,hk,rfl⟩:=ix_some hix
 have hys:ys=xs.set k yv:=by
  unfold sto at h;split at h
  ·simpa using (Option.some.inj h).symm
  ·cases h
 subst hys hv hn ho
 simp only [Int.toNat_natCast] at hx
 have hz:=hz.h
 cases hi:P.info? t with
 | none=>simp [hi] at hz
 | some inf =>
  simp [hi] at hz
  obtain ⟨fp,hv,_⟩:=hS.head
  obtain ⟨cur,hh,hcs⟩:∃ cur,w.heap[g]? = some (.cells cur E (0,0))∧xs.length*R.sz≤cur.size:=by
   rcases hv with ⟨h,_⟩ | ⟨g',cap',cur,ccs,f2,h,hg',h1,h2,h3,_⟩
   ·simp at h
   ·simp at h
    obtain ⟨rfl,_⟩:=h
    exact ⟨cur,hg',by rw [h3];exact Nat.mul_le_mul_right _ h1⟩
  have hjm:j<R.sz:=by
   rcases hv with ⟨_,h,_⟩ | ⟨g',cap',cur,ccs,f2,_,_,_,_,_,_,h5,_⟩
   ·subst h;simp at hk
   ·obtain ⟨ec,f1,f2,f3,k1,_,_,_⟩:=ownL_at h5 k hk
    have:=(hup w ec f2 k1).1
    rw [R.rd_len (R.own_rd k1)] at this;exact this
  have hkk:k*R.sz+R.sz≤xs.length*R.sz:=by have:=Nat.mul_le_mul_right R.sz hk;rw [Nat.succ_mul] at this;exact this
  have hh':w.heap[g]? = some (.cells cur.toList.toArray E (0,0)):=by simpa using hh
  obtain ⟨w',hr,hnew,hc⟩:=run_storeCells_box (P:=P) [c] (k*R.sz+j) 0 cur.toList w hh' (by simp;omega) (by simpa using h1)
  have hsz:¬ ([c].toArray.size≠inf.size):=by simp;omega
  unfold Oper.wp execOp
  simp only [ha.eval,hx,Instr.storeAt,Instr.sureAddr,storeVar,sizeOf,typeInfo,hi,hy,Sem.run_bind,Sem.run_pure,run_program,Result.andThen_ok,hsz,if_false,Sem.run_ite,List.toList_toArray,hr,Oper.upon_skip]
  refine hK' _ _ (hK w' ?_ _ ha)
  refine hS.upd ?_
  intro fp2 hv2 hnd2
  rcases hv2 with ⟨h,_⟩ | ⟨g',cap',cur',ccs,f2,h,hg',h1,h2,h3,h4,h5,rfl⟩
  ·simp at h
  ·simp at h
   obtain ⟨rfl,rfl,rfl⟩:=h
   obtain ⟨rfl⟩:cur'=cur:=by rw [hh] at hg';simpa using hg'.symm
   have h6:=ownL_upd h5 k hk hup
   have hoth:∀ x,x≠g→x<w.heap.size→w'.heap[x]? = w.heap[x]?:=fun x hx hlt=>hc.block x hlt (by simpa using hx)
   have hgn:g∉f2:=(List.nodup_cons.1 hnd2).1
   have hcl:ccs.length=xs.length*R.sz:=rdL_len (ownL_rdL h5)
   refine ⟨g :: f2,.inr ⟨g,cap,_,ccs.set (k*R.sz+j) c,f2,by simp,hnew,by simpa using h1,h2,?_,?_,ownL_ext h6 (fun b hb=>hoth b (fun e=>hgn (e ▸ hb)) (ownL_lt h5 b hb)),rfl⟩,hnd2,hc.mono (by simp),fun b hb=>.inl hb⟩
   ·simp only [List.size_toArray,List.length_append,List.length_take,List.length_drop,Array.length_toList,List.length_singleton,Nat.add_zero]
    omega
   ·rw [← h4,List.length_set]
    have:=splice_take cur.toList [c] (k*R.sz+j) 1 (xs.length*R.sz) (by omega) (by simpa using hcs) rfl
    simp only [Nat.add_zero,List.length_singleton] at this ⊢
    rw [this,List.set_eq_take_append_cons_drop,if_pos (by simp;omega)]
    simp
end
theorem al_two {P:Program} {n:Nat} {ops:Array Oper} {X:List Nat} {C:World→Prop} {K:Env→World→Prop} (i j:Nat) {f:Nat} {L:Array Bool} {e:Env} {w:World} {o o':Oper} (hr:Region.ready .any ops L=[i,j]) (ho:ops[i]? = some o) (ho':ops[j]? = some o')
  (h:EL P n ops (fun e' w'=>(X.contains i=true→C w')∧AL P n ops X C K f (L.setIfInBounds i true) e' w') [o] e w) (h':EL P n ops (fun e' w'=>(X.contains j=true→C w')∧AL P n ops X C K f (L.setIfInBounds j true) e' w') [o'] e w):AL P n ops X C K (f+1) L e w :=
 ⟨fun h0=>(by rw [h0] at hr;cases hr),fun k hk=>by
  rw [hr] at hk
  rcases List.mem_cons.1 hk with rfl | hk
  ·exact ⟨o,ho,h⟩
  ·obtain rfl:k=j:=by simpa using hk
   exact ⟨o',ho',h'⟩⟩
theorem cw_mid {P:Program} {n:Nat} {c:Code} {Q:Exit→Env→World→Prop} {e:Env} {w:World} (I:Env→World→Prop) (h1:CW P n c (fun x e w=>x=.normal∧I e w) e w) (h2:∀ e w,I e w→Q .normal e w):CW P n c Q e w:=by
 intro a ha
 refine wp_mono (h1 a ha) ?_
 rintro x' a' w' ⟨e',he',rfl,hI⟩
 exact ⟨e',he',h2 _ _ hI⟩
def memN (k:Nat):List Nat→Bool
 | []=>false
 | a :: l=>bif Nat.beq a k then true else memN k l
def dropI (idx:List Nat):Nat→Nat→List Asn→List Asn
 | 0,_,Γ=>Γ
 | _+1,_,[]=>[]
 | n+1,k,A :: Γ=>bif memN k idx then dropI idx n (k+1) Γ else A :: dropI idx n (k+1) Γ
def pickI (Γ:List Asn):List Nat→List Asn
 | []=>[]
 | i :: l=>match Γ[i]? with | some A=>A :: pickI Γ l | none=>pickI Γ l
def okI_ (n:Nat):List Nat→Bool
 | []=>true
 | a :: l=>Nat.blt a n&&(!memN a l&&okI_ n l)
theorem memN_cons {k a:Nat} {l:List Nat} (h:a≠k):memN k (a :: l)=memN k l:=by
 show (bif Nat.beq a k then true else memN k l)=_
 rw [beq_ne h];rfl
theorem dropI_miss (i:Nat) (idx:List Nat):∀ (n k:Nat) (Γ:List Asn),i<k→dropI (i :: idx) n k Γ=dropI idx n k Γ
 | 0,_,_,_=>rfl
 | _+1,_,[],_=>rfl
 | n+1,k,A :: Γ,h=>by
  unfold dropI
  rw [memN_cons (by omega),dropI_miss i idx n (k+1) Γ (by omega)]
theorem dropI_cons {i:Nat} {idx:List Nat} (hi:memN i idx=false) {A:Asn}:∀ (n k:Nat) (Γ:List Asn),k≤i→i<k+n→Γ[i-k]? = some A→(dropI idx n k Γ).Perm (A :: dropI (i :: idx) n k Γ)
 | 0,k,Γ,h1,h2,_=>by omega
 | n+1,k,[],h1,h2,h3=>by simp at h3
 | n+1,k,B :: Γ,h1,h2,h3=>by
  unfold dropI
  by_cases e:i=k
  ·subst e
   rw [Nat.sub_self] at h3
   have:B=A:=by simpa using h3
   subst this
   have hm:memN i (i :: idx)=true:=by unfold memN;simp
   rw [hi,hm,cond_false,cond_true,dropI_miss i idx n (i+1) Γ (by omega)]
  ·have h4:Γ[i-(k+1)]? = some A:=by
    rw [show i-k=(i-(k+1))+1 by omega] at h3;simpa using h3
   have ih:=dropI_cons hi n (k+1) Γ (by omega) (by omega) h4
   rw [memN_cons e]
   cases memN k idx
   ·exact (List.Perm.cons B ih).trans (.swap _ _ _)
   ·exact ih
theorem sel_perm (Γ:List Asn) (n:Nat):∀ (idx:List Nat),okI_ n idx=true→∃ Θ,Γ.Perm ((pickI Γ idx++dropI idx n 0 Γ)++Θ)
 | [],_=>⟨[],by
  have:∀ (n k:Nat) (Γ:List Asn),dropI [] n k Γ=Γ:=by
   intro n
   induction n with
   | zero=>intro k Γ;rfl
   | succ n ih=>intro k Γ;cases Γ with
    | nil=>rfl
    | cons A Γ=>show A :: dropI [] n (k+1) Γ=_;rw [ih]
  simp [pickI,this]⟩
 | i :: idx,h=>by
  simp only [okI_,Bool.and_eq_true,Bool.not_eq_true'] at h
  obtain ⟨h1,h2,h3⟩:=h
  obtain ⟨Θ,hp⟩:=sel_perm Γ n idx h3
  have hin:i<n:=by simp [Nat.blt] at h1;omega
  cases hi:Γ[i]? with
  | none =>
   refine ⟨Θ,?_⟩
   have:dropI (i :: idx) n 0 Γ=dropI idx n 0 Γ:=by
    have:∀ (n k:Nat) (Γ:List Asn),Γ.length+k≤i→dropI (i :: idx) n k Γ=dropI idx n k Γ:=by
     intro n
     induction n with
     | zero=>intro k Γ h;rfl
     | succ n ih=>intro k Γ h;cases Γ with
      | nil=>rfl
      | cons A Γ =>
       simp only [List.length_cons] at h
       unfold dropI
       rw [memN_cons (by omega),ih (k+1) Γ (by omega)]
    exact this n 0 Γ (by have:=List.getElem?_eq_none_iff.1 hi;omega)
   have e:pickI Γ (i :: idx)=pickI Γ idx:=by show (match Γ[i]? with | some A=>A :: pickI Γ idx | none=>pickI Γ idx)=_;rw [hi]
   rw [e,this];exact hp
  | some A =>
   refine ⟨Θ,hp.trans (List.Perm.append_right Θ ?_)⟩
   have e:pickI Γ (i :: idx)=A :: pickI Γ idx:=by show (match Γ[i]? with | some A=>A :: pickI Γ idx | none=>pickI Γ idx)=_;rw [hi]
   rw [e]
   refine (List.Perm.append_left _ (dropI_cons h2 n 0 Γ (Nat.zero_le _) (by omega) hi)).trans ?_
   exact List.perm_middle
theorem Sat.tops {w0 w:World} {Γ:List Asn} (n:Nat) (idx:List Nat) (h:Sat w0 w Γ) (hk:okI_ n idx=true):Sat w0 w (pickI Γ idx++dropI idx n 0 Γ):=by
 obtain ⟨Θ,hp⟩:=sel_perm Γ n idx hk
 exact h.take _ Θ hp
theorem Sat.rems {w0 w:World} {Γ:List Asn} (n:Nat) (idx:List Nat) (h:Sat w0 w Γ) (hk:okI_ n idx=true):Sat w0 w (dropI idx n 0 Γ) :=
 Sat.drop (h.tops n idx hk)
def slcV (m:Nat):Value→Int→Int→Value
 | .slice ao _ cap,lo,hi=>.slice (if cap=lo.toNat then ao else ao.map (·.add (lo.toNat*m))) (hi.toNat-lo.toNat) (cap-lo.toNat)
 | v,_,_=>v
section
variable {α:Type} {R:Rep α} {E:TypeId} {w w0:World} {v:Value} {xs ys:List α} {Γ:List Asn}
theorem slc_some {xs ys:List α} {lo hi:Int} (h:slc xs lo hi=some ys):∃ l k:Nat,lo=(l:Int)∧hi=(k:Int)∧l≤k∧k≤xs.length∧ys=(xs.take k).drop l:=by
 unfold slc at h
 split at h
 ·rename_i h0
  exact ⟨lo.toNat,hi.toNat,by omega,by omega,by omega,by omega,(Option.some.inj h).symm⟩
 ·cases h
theorem rd_slc {m:Nat} {lo hi:Int} (hn:R.sz=m) (hr:(sliceR R E).rd w [v] xs) (hq:slc xs lo hi=some ys):(sliceR R E).rd w [slcV m v lo hi] ys:=by
 obtain ⟨l,h,rfl,rfl,hlh,hh,rfl⟩:=slc_some hq
 obtain ⟨ao,cap,ccs,hv,h1,h2,h3,h4,h5⟩:=hr
 obtain rfl:v=.slice ao xs.length cap:=by simpa using hv
 have hlen:((xs.take h).drop l).length=h-l:=by simp;omega
 have hrd:=(rdL_split l (rdL_split h h4).1).2
 have hccl:=rdL_len h4
 subst hn
 refine ⟨if cap=l then ao else ao.map (·.add (l*R.sz)),cap-l,_,by simp [slcV,hlen],by rw [hlen];omega,by omega,?_,hrd,?_⟩
 ·intro e
  split at e
  ·omega
  ·cases ao with
   | none=>have:=h3 rfl;omega
   | some _=>simp at e
 ·by_cases hcl:cap=l
  ·left
   have:h=l:=by omega
   subst this
   apply List.eq_nil_of_length_eq_zero
   simp
  ·rw [if_neg hcl]
   rcases h5 with rfl | ⟨b,off,rfl,h5⟩
   ·left;simp
   ·right
    refine ⟨b,off+l*R.sz,by simp [Addr.add_lit],fun j c hj=>?_⟩
    rw [List.getElem?_drop,List.getElem?_take] at hj
    split at hj
    ·rw [Nat.add_assoc];exact h5 _ c hj
    ·cases hj
end
theorem pv_slcV {P:Program} {e:Env} {w wA:World} {d:Option Nat} {ty:TypeId} {pos:String} {af:Array Edge} {x:Operand} {v:Value} {α:Type} {R:Rep α} {E E':TypeId} {t:TypeId} {lo hi:Option Operand} [ht:SliceT P t E'] {z:List Value} {m bytes:Nat} [hz:ElemT P E' z m bytes]
    (hx:ev e x=v) {xs ys:List α} (hr:(sliceR R E).rd wA [v] xs) {l h:Int} (hlo:(lo.map (ev e)=some (.int .i64 l))∨(lo=none∧l=0)) (hhi:(hi.map (ev e)=some (.int .i64 h))∨(hi=none∧h=xs.length)) (hq:slc xs l h=some ys) :
    PV P ⟨d,.slice t x lo hi none,ty,pos,af,none⟩ e w (slcV m v l h):=fun w' _=>by
  obtain ⟨l',h',rfl,rfl,hlh,hh,_⟩:=slc_some hq
  obtain ⟨ao,cap,ccs,hv,h1,h2,h3,h4,h5⟩:=hr
  obtain rfl:v=.slice ao xs.length cap:=by simpa using hv
  have hz:=hz.h
  cases hq':P.info? E' with
  | none=>simp [hq'] at hz
  | some inf =>
    simp [hq'] at hz
    have hcap:h'≤cap:=by omega
    have hsz:inf.size=m:=hz.2.1
    have hb:(Instr.sliceBounds true xs.length cap (lo.map (ev e)) (hi.map (ev e)) none).run P w'=.ok (l',h',cap) w':=by
      rcases hlo with e1 | ⟨e1,e1'⟩ <;> rcases hhi with e2 | ⟨e2,e2'⟩
      all_goals
        (try rw [e1]);(try rw [e2])
        first
          | (simp [Instr.sliceBounds,Instr.sliceBound,asIntOf,hcap,hlh];done)
          | (have:l'=0:=by omega
             subst this
             simp [Instr.sliceBounds,Instr.sliceBound,asIntOf,hcap,hlh];done)
          | (have:h'=xs.length:=by omega
             subst this
             simp [Instr.sliceBounds,Instr.sliceBound,asIntOf,hcap,hlh];done)
          | (have:l'=0:=by omega
             have:h'=xs.length:=by omega
             subst_vars
             simp [Instr.sliceBounds,Instr.sliceBound,asIntOf])
    unfold execOp
    simp only [hx,Instr.sliceAt,Sem.run_bind,run_underlying ht.h,Result.andThen_ok,Instr.slice,hb,sizeOf,typeInfo,hq',run_program,Sem.run_pure,Option.map_none,slcV,hsz,Int.toNat_natCast]
theorem tail_rd {α:Type} {R:Rep α} {E:TypeId} {w:World} {cs:List Value} {xs:List α} (h:(tailR R E).rd w cs xs):(sliceR R E).rd w cs xs:=h
theorem slc1_pos {α:Type} {xs ys:List α} {hi:Int} (h:slc xs 1 hi=some ys):0<xs.length:=by
 obtain ⟨l,k,h1,h2,h3,h4,_⟩:=slc_some h;omega
theorem cell_congr {w W:World} {b o:Nat} (h:w.heap[b]? = W.heap[b]?):w.cell? ⟨b,o,none⟩=W.cell? ⟨b,o,none⟩:=by
 unfold World.cell?;simp [h]
def Frz (W:World) (F:List Nat):Asn where
 holds w fp:=fp=F∧(∀ b∈F,w.heap[b]? = W.heap[b]?)∧∀ b∈F,b<W.heap.size
 ext h he:=by obtain ⟨rfl,h1,h2⟩:=h;exact ⟨rfl,fun b hb=>(he b hb).trans (h1 b hb),h2⟩
 lt h:=by
  obtain ⟨rfl,h1,h2⟩:=h
  intro b hb
  have:=h1 b hb
  rw [Array.getElem?_eq_getElem (h2 b hb)] at this
  exact (Array.getElem?_eq_some_iff.1 this).1
section
variable {α:Type} {R:Rep α} {W w w0:World} {Γ:List Asn} {F F':List Nat} {cs:List Value} {x:α}
theorem Sat.frz (hS:Sat w0 w (Own R cs x :: Γ)):∃ F,R.own w cs x F∧Sat w0 w (Frz w F :: Γ):=by
 obtain ⟨hb,_,⟨f1,f2,rfl,h1,h2⟩,hn,h3⟩:=hS
 exact ⟨f1,h1,hb,_,⟨f1,f2,rfl,⟨rfl,fun _ _=>rfl,R.own_lt h1⟩,h2⟩,hn,h3⟩
theorem Sat.frzEq (i:Nat) (hS:Sat w0 w Γ) (hi:Γ[i]? = some (Frz W F)):∀ b∈F,w.heap[b]? = W.heap[b]?:=by
 obtain ⟨fp,⟨rfl,h,_⟩,_⟩:=(hS.top i hi).head
 exact h
theorem Sat.frzRd (i:Nat) (hS:Sat w0 w Γ) (hi:Γ[i]? = some (Frz W F)) (h:R.own W cs x F') (hs:∀ b∈F',b∈F):R.rd w cs x :=
 R.own_rd (R.own_ext h (fun b hb=>hS.frzEq i hi b (hs b hb)))
theorem Sat.frzCells (i:Nat) (hS:Sat w0 w Γ) (hi:Γ[i]? = some (Frz W F)) {b off:Nat} {ec:List Value} (hb:b∈F) (hm:∀ j c,ec[j]? = some c→W.cell? ⟨b,off+j,none⟩=some c):∀ j c,ec[j]? = some c→w.cell? ⟨b,off+j,none⟩=some c :=
 fun j c hj=>by rw [cell_congr (hS.frzEq i hi b hb)];exact hm j c hj
end
section
variable {P:Program} {n:Nat} {ops:Array Oper} {X:List Nat} {C:World→Prop} {K:Env→World→Prop} {KQ:Env→Prop} {rest:List Oper} {e:Env} {w W:World} {v:Value} {d:Nat} {ty:TypeId} {pos:String} {af:Array Edge} {x y:Operand} {α:Type} {R:Rep α} {E:TypeId} {F:List Nat} {fuel:Nat} {L:Array Bool}
theorem pv_indexZ {d:Option Nat} {t:TypeId} [ht:SliceT P t E] {zz:List Value} {m bytes:Nat} [hz:ElemT P E zz m bytes] {xs:List α} (hs:ev e x=v) (hr:(sliceR R E).own W [v] xs F)
  (hn:R.sz=m) {k:IntKind} {i:Int} (hi:ev e y=.int k i) {u:α} (h:ix xs i=some u) :
  ∃ b off ec F2,R.own W ec u F2∧(∀ q∈F2,q∈F)∧b∈F∧(∀ j c,ec[j]? = some c→W.cell? ⟨b,off+j,none⟩=some c)∧∀ w,PV P ⟨d,.indexAddr t x y,ty,pos,af,none⟩ e w (.pointer (some ⟨b,off,none⟩)):=by
 obtain ⟨k',rfl,hk,rfl⟩:=ix_some h
 rcases hr with ⟨_,h2,_⟩ | ⟨g,cap,cur,ccs,f2,hv,hg,h1,h2,h3,h4,h5,rfl⟩
 ·subst h2;simp at hk
 obtain rfl:v=.slice (some ⟨g,0,none⟩) xs.length cap:=by simpa using hv
 obtain ⟨ec,f1,f2',f3,k1,rfl,k3,_⟩:=ownL_at h5 k' hk
 have hz:=hz.h
 cases hq:P.info? E with
 | none=>simp [hq] at hz
 | some inf =>
  simp [hq] at hz
  have hsz:inf.size=m:=hz.2.1
  refine ⟨g,k'*m,ec,f2',k1,fun q hq=>by simp [hq],by simp,fun j c hj=>?_,fun w w' _=>?_⟩
  ·have h0:=k3 j c hj
   rw [cell_of_row W g _ cur E (0,0) hg,← Array.getElem?_toList]
   rw [← h4,List.getElem?_take] at h0
   rw [← hn]
   split at h0
   ·exact h0
   ·cases h0
  ·unfold execOp
   simp [hs,hi,Instr.indexAt,asIntOf,run_underlying ht.h,sizeOf,typeInfo,hq,hk,Addr.add_lit,hsz]
theorem el_indexZ {t:TypeId} [SliceT P t E] {zz:List Value} {m bytes:Nat} [ElemT P E zz m bytes] {xs:List α} (hs:ev e x=v) (hr:(sliceR R E).own W [v] xs F) (hn:R.sz=m) {k:IntKind} {i:Int} (hi:ev e y=.int k i) {u:α} (h:ix xs i=some u) (hd:d<n)
  (hK:∀ b off ec F2,R.own W ec u F2→(∀ q∈F2,q∈F)→b∈F→(∀ j c,ec[j]? = some c→W.cell? ⟨b,off+j,none⟩=some c)→EL P n ops K rest (upd e d (.pointer (some ⟨b,off,none⟩))) w):EL P n ops K (⟨some d,.indexAddr t x y,ty,pos,af,none⟩ :: rest) e w:=by
 obtain ⟨b,off,ec,F2,h1,h2,h3,h4,h5⟩:=pv_indexZ (P:=P) (d:=some d) (ty:=ty) (pos:=pos) (af:=af) (t:=t) hs hr hn hi h
 exact el_pv (h5 _) hd (hK b off ec F2 h1 h2 h3 h4)
theorem ql_indexZ {t:TypeId} [SliceT P t E] {zz:List Value} {m bytes:Nat} [ElemT P E zz m bytes] {xs:List α} (hs:ev e x=v) (hr:(sliceR R E).own W [v] xs F) (hn:R.sz=m) {k:IntKind} {i:Int} (hi:ev e y=.int k i) {u:α} (h:ix xs i=some u) (hd:d<n)
  (hK:∀ b off ec F2,R.own W ec u F2→(∀ q∈F2,q∈F)→b∈F→(∀ j c,ec[j]? = some c→W.cell? ⟨b,off+j,none⟩=some c)→QL P n ops w KQ rest (upd e d (.pointer (some ⟨b,off,none⟩)))):QL P n ops w KQ (⟨some d,.indexAddr t x y,ty,pos,af,none⟩ :: rest) e:=by
 obtain ⟨b,off,ec,F2,h1,h2,h3,h4,h5⟩:=pv_indexZ (P:=P) (d:=some d) (ty:=ty) (pos:=pos) (af:=af) (t:=t) hs hr hn hi h
 exact ql_pv (h5 _) hd (hK b off ec F2 h1 h2 h3 h4)
theorem al_indexZ (hsel:noSel ops=true) (i':Nat) {t:TypeId} [SliceT P t E] {zz:List Value} {m bytes:Nat} [ElemT P E zz m bytes] {xs:List α} (hi':ops[i']? = some ⟨some d,.indexAddr t x y,ty,pos,af,none⟩) (hC:C w) (hf:free ops X L i' ⟨some d,.indexAddr t x y,ty,pos,af,none⟩=true) (hrd:(Region.ready .any ops L).contains i'=true)
  (hs:ev e x=v) (hr:(sliceR R E).own W [v] xs F) (hn:R.sz=m) {k:IntKind} {i:Int} (hi:ev e y=.int k i) {u:α} (h:ix xs i=some u) (hd:d<n)
  (hK:∀ b off ec F2,R.own W ec u F2→(∀ q∈F2,q∈F)→b∈F→(∀ j c,ec[j]? = some c→W.cell? ⟨b,off+j,none⟩=some c)→AL P n ops X C K fuel (L.setIfInBounds i' true) (upd e d (.pointer (some ⟨b,off,none⟩))) w):AL P n ops X C K (fuel+1) L e w:=by
 obtain ⟨b,off,ec,F2,h1,h2,h3,h4,h5⟩:=pv_indexZ (P:=P) (d:=some d) (ty:=ty) (pos:=pos) (af:=af) (t:=t) hs hr hn hi h
 exact al_p hsel i' hi' rfl hd hC hf hrd (sv_on rfl fun w' _=>h5 w') (hK b off ec F2 h1 h2 h3 h4)
end
end Go.Proofs.Ytkpeabpdiffjhaa
namespace Go.Proofs.Ytkpeabpdiffjhaa
open Go.RowKit
def laws_szIntS (N:Nat) (a0:List Int) (a1:Int):Option Int :=
  (sb a1 (a0.length:Int)).bind fun x103 =>
  (bif decide (x103<0) then
  some (-1)
  else
  some x103)
def laws_szAtom (N:Nat) (a0:ByteArray) (a1:List Int) (a2:Int):Option Int :=
  (sb a2 (a0.size:Int)).bind fun x107 =>
  (bif decide (x107<0) then
  some (-1)
  else
  (laws_szIntS N a1 x107).bind fun r113 =>
  (bif decide (r113<0) then
  some (-1)
  else
  some r113))
def laws_szAtomS_L1 (N:Nat):Nat→(List (ByteArray × List Int))→Int→Int→Option (Sum Int (Int × Int))
 | 0,_,_,_=>none
 | k+1,x161,x162,x163 =>
  (bif decide (x163<(x161.length:Int)) then
  (ix x161 x163).bind fun x170 =>
  (laws_szAtom N x170.1 x170.2 x162).bind fun r180 =>
  (bif decide (r180<0) then
  some (.inl (-1))
  else
  (ad x163 1).bind fun x186 =>
  laws_szAtomS_L1 N k x161 r180 x186)
  else
  some (.inr (x162,x163)))
def laws_szAtomS (N:Nat) (a0:List (ByteArray × List Int)) (a1:Int):Option Int :=
  (sb a1 (a0.length:Int)).bind fun x103 =>
  (bif decide (x103<0) then
  some (-1)
  else
  (laws_szAtomS_L1 N N a0 x103 0).bind fun s190 =>
  lpS s190 (fun q=>some q) fun (x187,x188) =>
  some x187)
def laws_szQuery (N:Nat) (a0:Int) (a1:List (ByteArray × List Int)) (a2:List Int) (a3:Int):Option Int :=
  (laws_szAtomS N a1 a3).bind fun r107 =>
  (bif decide (r107<0) then
  some (-1)
  else
  (laws_szIntS N a2 r107).bind fun r115 =>
  (bif decide (r115<0) then
  some (-1)
  else
  some r115))
def laws_toIntS_L1 (N:Nat):Nat→(List Int)→(List Int)→Int→Option ((List Int) × Int)
 | 0,_,_,_=>none
 | k+1,x154,x157,x158 =>
  (bif decide (x158<(x154.length:Int)) then
  (ix x154 x158).bind fun x164 =>
  (ix x157 x158).bind fun x170 =>
  (sto x157 x158 x164).bind fun x175 =>
  (ad x158 1).bind fun x176 =>
  laws_toIntS_L1 N k x154 x175 x176
  else
  some (x157,x158))
def laws_toIntS (N:Nat) (a0:List Int):Option (List Int) :=
  (mk 8 (0:Int) (a0.length:Int)).bind fun x106 =>
  (laws_toIntS_L1 N N a0 x106 0).bind fun s182 =>
  lpB s182 fun (x179,x180) =>
  some x179
def laws_toAtom (N:Nat) (a0:ByteArray) (a1:List Int):Option (ByteArray × List Int) :=
  (laws_toIntS N a1).bind fun r118 =>
  some (a0,r118)
def laws_toAtomS_L1 (N:Nat):Nat→(List (ByteArray × List Int))→(List (ByteArray × List Int))→Int→Option ((List (ByteArray × List Int)) × Int)
 | 0,_,_,_=>none
 | k+1,x188,x191,x192 =>
  (bif decide (x192<(x188.length:Int)) then
  (ix x188 x192).bind fun x198 =>
  (laws_toAtom N x198.1 x198.2).bind fun r208 =>
  (ix x191 x192).bind fun x214 =>
  (sto x191 x192 (r208.1,r208.2)).bind fun x226 =>
  (ad x192 1).bind fun x227 =>
  laws_toAtomS_L1 N k x188 x226 x227
  else
  some (x191,x192))
def laws_toAtomS (N:Nat) (a0:List (ByteArray × List Int)):Option (List (ByteArray × List Int)) :=
  (mk 40 ((ByteArray.empty,[]):ByteArray × List Int) (a0.length:Int)).bind fun x106 =>
  (laws_toAtomS_L1 N N a0 x106 0).bind fun s233 =>
  lpB s233 fun (x230,x231) =>
  some x230
def laws_toQuery (N:Nat) (a0:Int) (a1:List (ByteArray × List Int)) (a2:List Int):Option (Int × List (ByteArray × List Int) × List Int) :=
  (laws_toAtomS N a1).bind fun r118 =>
  (laws_toIntS N a2).bind fun r125 =>
  some (a0,r118,r125)
def laws_eqIntS_L1 (N:Nat):Nat→(List Int)→(List Int)→Int→Option (Sum Bool Int)
 | 0,_,_,_=>none
 | k+1,x158,x161,x162 =>
  (bif decide (x162<(x158.length:Int)) then
  (ix x158 x162).bind fun x169 =>
  (ix x161 x162).bind fun x175 =>
  (bif (x169 != x175) then
  some (.inl false)
  else
  (ad x162 1).bind fun x185 =>
  laws_eqIntS_L1 N k x158 x161 x185)
  else
  some (.inr x162))
def laws_eqIntS (N:Nat) (a0:List Int) (a1:List Int):Option Bool :=
  (bif ((a0.length:Int) != (a1.length:Int)) then
  some false
  else
  (laws_eqIntS_L1 N N a0 a1 0).bind fun s188 =>
  lpS s188 (fun q=>some q) fun x186 =>
  some true)
def laws_eqAtom (N:Nat) (a0:ByteArray) (a1:List Int) (a2:ByteArray) (a3:List Int):Option Bool :=
  (bif (eqS a0 a2) then
  (laws_eqIntS N a1 a3).bind fun r115 =>
  (bif r115 then
  some true
  else
  some false)
  else
  some false)
def laws_eqAtomS_L1 (N:Nat):Nat→(List (ByteArray × List Int))→(List (ByteArray × List Int))→Int→Option (Sum Bool Int)
 | 0,_,_,_=>none
 | k+1,x176,x179,x180 =>
  (bif decide (x180<(x176.length:Int)) then
  (ix x176 x180).bind fun x187 =>
  (ix x179 x180).bind fun x197 =>
  (laws_eqAtom N x187.1 x187.2 x197.1 x197.2).bind fun r207 =>
  (bif r207 then
  (ad x180 1).bind fun x211 =>
  laws_eqAtomS_L1 N k x176 x179 x211
  else
  some (.inl false))
  else
  some (.inr x180))
def laws_eqAtomS (N:Nat) (a0:List (ByteArray × List Int)) (a1:List (ByteArray × List Int)):Option Bool :=
  (bif ((a0.length:Int) != (a1.length:Int)) then
  some false
  else
  (laws_eqAtomS_L1 N N a0 a1 0).bind fun s215 =>
  lpS s215 (fun q=>some q) fun x213 =>
  some true)
def laws_eqQuery (N:Nat) (a0:Int) (a1:List (ByteArray × List Int)) (a2:List Int) (a3:Int) (a4:List (ByteArray × List Int)) (a5:List Int):Option Bool :=
  (bif (a0 != a3) then
  some false
  else
  (laws_eqAtomS N a1 a4).bind fun r116 =>
  (bif r116 then
  (laws_eqIntS N a2 a5).bind fun r122 =>
  (bif r122 then
  some true
  else
  some false)
  else
  some false))
end Go.Proofs.Ytkpeabpdiffjhaa
namespace Go.Proofs.Ytkpeabpdiffjhaa
open Go.RowKit
def laws_szIntSS_L1 (N:Nat):Nat→(List (List Int))→Int→Int→Option (Sum Int (Int × Int))
 | 0,_,_,_=>none
 | k+1,x155,x156,x157 =>
  (bif decide (x157<(x155.length:Int)) then
  (ix x155 x157).bind fun x164 =>
  (laws_szIntS N x164 x156).bind fun r171 =>
  (bif decide (r171<0) then
  some (.inl (-1))
  else
  (ad x157 1).bind fun x177 =>
  laws_szIntSS_L1 N k x155 r171 x177)
  else
  some (.inr (x156,x157)))
def laws_szIntSS (N:Nat) (a0:List (List Int)) (a1:Int):Option Int :=
  (sb a1 (a0.length:Int)).bind fun x103 =>
  (bif decide (x103<0) then
  some (-1)
  else
  (laws_szIntSS_L1 N N a0 x103 0).bind fun s181 =>
  lpS s181 (fun q=>some q) fun (x178,x179) =>
  some x178)
def laws_szRelation (N:Nat) (a0:Int) (a1:List (List Int)) (a2:Int):Option Int :=
  (laws_szIntSS N a1 a2).bind fun r107 =>
  (bif decide (r107<0) then
  some (-1)
  else
  some r107)
def laws_szTable (N:Nat) (a0:ByteArray) (a1:Int) (a2:List (List Int)) (a3:Int):Option Int :=
  (sb a3 (a0.size:Int)).bind fun x107 =>
  (bif decide (x107<0) then
  some (-1)
  else
  (laws_szRelation N a1 a2 x107).bind fun r113 =>
  (bif decide (r113<0) then
  some (-1)
  else
  some r113))
def laws_szTableS_L1 (N:Nat):Nat→(List (ByteArray × (Int × List (List Int))))→Int→Int→Option (Sum Int (Int × Int))
 | 0,_,_,_=>none
 | k+1,x165,x166,x167 =>
  (bif decide (x167<(x165.length:Int)) then
  (ix x165 x167).bind fun x174 =>
  (laws_szTable N x174.1 x174.2.1 x174.2.2 x166).bind fun r186 =>
  (bif decide (r186<0) then
  some (.inl (-1))
  else
  (ad x167 1).bind fun x192 =>
  laws_szTableS_L1 N k x165 r186 x192)
  else
  some (.inr (x166,x167)))
def laws_szTableS (N:Nat) (a0:List (ByteArray × (Int × List (List Int)))) (a1:Int):Option Int :=
  (sb a1 (a0.length:Int)).bind fun x103 =>
  (bif decide (x103<0) then
  some (-1)
  else
  (laws_szTableS_L1 N N a0 x103 0).bind fun s196 =>
  lpS s196 (fun q=>some q) fun (x193,x194) =>
  some x193)
def laws_szDatabase (N:Nat) (a0:List (ByteArray × (Int × List (List Int)))) (a1:Int):Option Int :=
  (laws_szTableS N a0 a1).bind fun r107 =>
  (bif decide (r107<0) then
  some (-1)
  else
  some r107)
def laws_toIntSS_L1 (N:Nat):Nat→(List (List Int))→(List (List Int))→Int→Option ((List (List Int)) × Int)
 | 0,_,_,_=>none
 | k+1,x176,x179,x180 =>
  (bif decide (x180<(x176.length:Int)) then
  (ix x176 x180).bind fun x186 =>
  (laws_toIntS N x186).bind fun r193 =>
  (ix x179 x180).bind fun x198 =>
  (sto x179 x180 r193).bind fun x207 =>
  (ad x180 1).bind fun x209 =>
  laws_toIntSS_L1 N k x176 x207 x209
  else
  some (x179,x180))
def laws_toIntSS (N:Nat) (a0:List (List Int)):Option (List (List Int)) :=
  (mk 24 ([]:List Int) (a0.length:Int)).bind fun x106 =>
  (laws_toIntSS_L1 N N a0 x106 0).bind fun s215 =>
  lpB s215 fun (x212,x213) =>
  some x212
def laws_toRelation (N:Nat) (a0:Int) (a1:List (List Int)):Option (Int × List (List Int)) :=
  (laws_toIntSS N a1).bind fun r118 =>
  some (a0,r118)
def laws_toTable (N:Nat) (a0:ByteArray) (a1:Int) (a2:List (List Int)):Option (ByteArray × (Int × List (List Int))) :=
  (laws_toRelation N a1 a2).bind fun r118 =>
  some (a0,(r118.1,r118.2))
def laws_toTableS_L1 (N:Nat):Nat→(List (ByteArray × (Int × List (List Int))))→(List (ByteArray × (Int × List (List Int))))→Int→Option ((List (ByteArray × (Int × List (List Int)))) × Int)
 | 0,_,_,_=>none
 | k+1,x196,x199,x200 =>
  (bif decide (x200<(x196.length:Int)) then
  (ix x196 x200).bind fun x206 =>
  (laws_toTable N x206.1 x206.2.1 x206.2.2).bind fun r218 =>
  (ix x199 x200).bind fun x224 =>
  (sto x199 x200 (r218.1,(r218.2.1,r218.2.2))).bind fun x238 =>
  (ad x200 1).bind fun x239 =>
  laws_toTableS_L1 N k x196 x238 x239
  else
  some (x199,x200))
def laws_toTableS (N:Nat) (a0:List (ByteArray × (Int × List (List Int)))):Option (List (ByteArray × (Int × List (List Int)))) :=
  (mk 48 ((ByteArray.empty,(0,[])):ByteArray × (Int × List (List Int))) (a0.length:Int)).bind fun x106 =>
  (laws_toTableS_L1 N N a0 x106 0).bind fun s245 =>
  lpB s245 fun (x242,x243) =>
  some x242
def laws_toDatabase (N:Nat) (a0:List (ByteArray × (Int × List (List Int)))):Option (List (ByteArray × (Int × List (List Int)))) :=
  (laws_toTableS N a0).bind fun r116 =>
  some r116
def laws_eqIntSS_L1 (N:Nat):Nat→(List (List Int))→(List (List Int))→Int→Option (Sum Bool Int)
 | 0,_,_,_=>none
 | k+1,x164,x167,x168 =>
  (bif decide (x168<(x164.length:Int)) then
  (ix x164 x168).bind fun x175 =>
  (ix x167 x168).bind fun x182 =>
  (laws_eqIntS N x175 x182).bind fun r189 =>
  (bif r189 then
  (ad x168 1).bind fun x193 =>
  laws_eqIntSS_L1 N k x164 x167 x193
  else
  some (.inl false))
  else
  some (.inr x168))
def laws_eqIntSS (N:Nat) (a0:List (List Int)) (a1:List (List Int)):Option Bool :=
  (bif ((a0.length:Int) != (a1.length:Int)) then
  some false
  else
  (laws_eqIntSS_L1 N N a0 a1 0).bind fun s197 =>
  lpS s197 (fun q=>some q) fun x195 =>
  some true)
def laws_eqRelation (N:Nat) (a0:Int) (a1:List (List Int)) (a2:Int) (a3:List (List Int)):Option Bool :=
  (bif (a0 != a2) then
  some false
  else
  (laws_eqIntSS N a1 a3).bind fun r116 =>
  (bif r116 then
  some true
  else
  some false))
end Go.Proofs.Ytkpeabpdiffjhaa
namespace Go.Proofs.Ytkpeabpdiffjhaa
open Go.RowKit
def laws_eqTable (N:Nat) (a0:ByteArray) (a1:Int) (a2:List (List Int)) (a3:ByteArray) (a4:Int) (a5:List (List Int)):Option Bool :=
  (bif (eqS a0 a3) then
  (laws_eqRelation N a1 a2 a4 a5).bind fun r115 =>
  (bif r115 then
  some true
  else
  some false)
  else
  some false)
def laws_eqTableS_L1 (N:Nat):Nat→(List (ByteArray × (Int × List (List Int))))→(List (ByteArray × (Int × List (List Int))))→Int→Option (Sum Bool Int)
 | 0,_,_,_=>none
 | k+1,x184,x187,x188 =>
  (bif decide (x188<(x184.length:Int)) then
  (ix x184 x188).bind fun x195 =>
  (ix x187 x188).bind fun x207 =>
  (laws_eqTable N x195.1 x195.2.1 x195.2.2 x207.1 x207.2.1 x207.2.2).bind fun r219 =>
  (bif r219 then
  (ad x188 1).bind fun x223 =>
  laws_eqTableS_L1 N k x184 x187 x223
  else
  some (.inl false))
  else
  some (.inr x188))
def laws_eqTableS (N:Nat) (a0:List (ByteArray × (Int × List (List Int)))) (a1:List (ByteArray × (Int × List (List Int)))):Option Bool :=
  (bif ((a0.length:Int) != (a1.length:Int)) then
  some false
  else
  (laws_eqTableS_L1 N N a0 a1 0).bind fun s227 =>
  lpS s227 (fun q=>some q) fun x225 =>
  some true)
def laws_eqDatabase (N:Nat) (a0:List (ByteArray × (Int × List (List Int)))) (a1:List (ByteArray × (Int × List (List Int)))):Option Bool :=
  (laws_eqTableS N a0 a1).bind fun r112 =>
  (bif r112 then
  some true
  else
  some false)
def laws_markIntS_L1 (N:Nat):Nat→(List Int)→Int→Int→Option ((List Int) × Int × Int)
 | 0,_,_,_=>none
 | k+1,x138,x139,x140 =>
  (bif decide (x140<(x138.length:Int)) then
  (ix x138 x140).bind fun x147 =>
  (sto x138 x140 x139).bind fun x152 =>
  (ad x139 1).bind fun x153 =>
  (ad x140 1).bind fun x154 =>
  laws_markIntS_L1 N k x152 x153 x154
  else
  some (x138,x139,x140))
def laws_markIntS (N:Nat) (a0:List Int) (a1:Int):Option (Int × (List Int)) :=
  (laws_markIntS_L1 N N a0 a1 0).bind fun s160 =>
  lpB s160 fun (x156,x157,x158) =>
  some (x157,x156)
def laws_markIntSS_L1 (N:Nat):Nat→(List (List Int))→Int→Int→Option ((List (List Int)) × Int × Int)
 | 0,_,_,_=>none
 | k+1,x146,x147,x148 =>
  (bif decide (x148<(x146.length:Int)) then
  (ix x146 x148).bind fun x154 =>
  (laws_markIntS N x154 x147).bind fun r163 =>
  (sto x146 x148 r163.2).bind fun x165 =>
  (ad x148 1).bind fun x166 =>
  laws_markIntSS_L1 N k x165 r163.1 x166
  else
  some (x146,x147,x148))
def laws_markIntSS (N:Nat) (a0:List (List Int)) (a1:Int):Option (Int × (List (List Int))) :=
  (laws_markIntSS_L1 N N a0 a1 0).bind fun s172 =>
  lpB s172 fun (x168,x169,x170) =>
  some (x169,x168)
def laws_markText_L1 (N:Nat):Nat→Int→ByteArray→Option (Int × ByteArray)
 | 0,_,_=>none
 | k+1,x141,x142 =>
  (bif decide (0<x141) then
  (rm x141 10).bind fun x148 =>
  (ad 48 x148).bind fun x149 =>
  (scat (ofB ([(IntKind.u8.wrap x149)])) x142).bind fun x156 =>
  (qt x141 10).bind fun x157 =>
  laws_markText_L1 N k x157 x156
  else
  some (x141,x142))
def laws_markText (N:Nat) (a0:Int):Option ByteArray :=
  (bif decide (a0≤0) then
  some (⟨#[109,48]⟩:ByteArray)
  else
  (laws_markText_L1 N N a0 ByteArray.empty).bind fun s162 =>
  lpB s162 fun (x158,x159) =>
  (scat (⟨#[109]⟩:ByteArray) x159).bind fun x161 =>
  some x161)
def laws_markTableS_L1 (N:Nat):Nat→(List (ByteArray × (Int × List (List Int))))→Int→Int→Option ((List (ByteArray × (Int × List (List Int)))) × Int × Int)
 | 0,_,_,_=>none
 | k+1,x240,x241,x242 =>
  (bif decide (x242<(x240.length:Int)) then
  (laws_markText N x241).bind fun r249 =>
  (ix x240 x242).bind fun x253 =>
  (sto x240 x242 (r249,(x253.2.1,x253.2.2))).bind fun x267 =>
  (ad x241 1).bind fun x269 =>
  (ix x267 x242).bind fun x271 =>
  (sto x267 x242 (x271.1,(x269,x271.2.2))).bind fun x285 =>
  (ad x269 1).bind fun x287 =>
  (ix x285 x242).bind fun x288 =>
  (laws_markIntSS N x288.2.2 x287).bind fun r304 =>
  (sto x285 x242 (x288.1,x288.2.1,r304.2)).bind fun x306 =>
  (ad x242 1).bind fun x307 =>
  laws_markTableS_L1 N k x306 r304.1 x307
  else
  some (x240,x241,x242))
def laws_markTableS (N:Nat) (a0:List (ByteArray × (Int × List (List Int)))) (a1:Int):Option (Int × (List (ByteArray × (Int × List (List Int))))) :=
  (laws_markTableS_L1 N N a0 a1 0).bind fun s313 =>
  lpB s313 fun (x309,x310,x311) =>
  some (x310,x309)
def laws_markDatabase (N:Nat) (a0:List (ByteArray × (Int × List (List Int)))) (a1:Int):Option (Int × (List (ByteArray × (Int × List (List Int))))) :=
  (laws_markTableS N a0 a1).bind fun r107 =>
  some (r107.1,r107.2)
def laws_markAtomS_L1 (N:Nat):Nat→(List (ByteArray × List Int))→Int→Int→Option ((List (ByteArray × List Int)) × Int × Int)
 | 0,_,_,_=>none
 | k+1,x194,x195,x196 =>
  (bif decide (x196<(x194.length:Int)) then
  (laws_markText N x195).bind fun r203 =>
  (ix x194 x196).bind fun x207 =>
  (sto x194 x196 (r203,x207.2)).bind fun x219 =>
  (ad x195 1).bind fun x221 =>
  (ix x219 x196).bind fun x222 =>
  (laws_markIntS N x222.2 x221).bind fun r235 =>
  (sto x219 x196 (x222.1,r235.2)).bind fun x237 =>
  (ad x196 1).bind fun x238 =>
  laws_markAtomS_L1 N k x237 r235.1 x238
  else
  some (x194,x195,x196))
def laws_markAtomS (N:Nat) (a0:List (ByteArray × List Int)) (a1:Int):Option (Int × (List (ByteArray × List Int))) :=
  (laws_markAtomS_L1 N N a0 a1 0).bind fun s244 =>
  lpB s244 fun (x240,x241,x242) =>
  some (x241,x240)
def laws_markQuery (N:Nat) (a0:Int) (a1:List (ByteArray × List Int)) (a2:List Int) (a3:Int):Option (Int × (List (ByteArray × List Int)) × (List Int)) :=
  (laws_markAtomS N a1 a3).bind fun r107 =>
  (laws_markIntS N a2 r107.1).bind fun r110 =>
  some (r110.1,r107.2,r110.2)
def spec_l1In (N:Nat) (a0:Int) (a1:Int) (a2:Int):Option Bool :=
  (bif decide (a1≤a0) then
  some (decide (a0≤a2))
  else
  some false)
def spec_IsValidName_L1 (N:Nat):Nat→ByteArray→Int→Option (Sum Bool Int)
 | 0,_,_=>none
 | k+1,x132,x133 =>
  (bif decide (x133<(x132.size:Int)) then
  (bx x132 x133).bind fun x140 =>
  (bif decide (x140<97) then
  some (.inl false)
  else
  (bx x132 x133).bind fun x143 =>
  (bif decide (122<x143) then
  some (.inl false)
  else
  (ad x133 1).bind fun x146 =>
  spec_IsValidName_L1 N k x132 x146))
  else
  some (.inr x133))
def spec_IsValidName (N:Nat) (a0:ByteArray):Option Bool :=
  (spec_IsValidName_L1 N N a0 0).bind fun s152 =>
  lpS s152 (fun q=>some q) fun x147 =>
  (spec_l1In N (a0.size:Int) 1 4).bind fun r149 =>
  some r149
end Go.Proofs.Ytkpeabpdiffjhaa
namespace Go.Proofs.Ytkpeabpdiffjhaa
open Go.RowKit
def spec_ContainsVariable_L1 (N:Nat):Nat→Int→ByteArray→(List Int)→Int→Option (Sum Bool Int)
 | 0,_,_,_,_=>none
 | k+1,x140,x141,x144,x145 =>
  (bif decide (x145<(x144.length:Int)) then
  (ix x144 x145).bind fun x152 =>
  (bif (x152 == x140) then
  some (.inl true)
  else
  (ad x145 1).bind fun x160 =>
  spec_ContainsVariable_L1 N k x140 x141 x144 x160)
  else
  some (.inr x145))
def spec_ContainsVariable (N:Nat) (a0:ByteArray) (a1:List Int) (a2:Int):Option Bool :=
  (spec_ContainsVariable_L1 N N a2 a0 a1 0).bind fun s163 =>
  lpS s163 (fun q=>some q) fun x161 =>
  some false
def spec_l7Find_L1 (N:Nat):Nat→(List Int)→Int→Int→Option (Sum Int Int)
 | 0,_,_,_=>none
 | k+1,x138,x139,x140 =>
  (bif decide (x140<(x138.length:Int)) then
  (ix x138 x140).bind fun x147 =>
  (bif (x147 == x139) then
  some (.inl x140)
  else
  (ad x140 1).bind fun x155 =>
  spec_l7Find_L1 N k x138 x139 x155)
  else
  some (.inr x140))
def spec_l7Find (N:Nat) (a0:List Int) (a1:Int):Option Int :=
  (spec_l7Find_L1 N N a0 a1 0).bind fun s158 =>
  lpS s158 (fun q=>some q) fun x156 =>
  some (-1)
def spec_IsValidQuery_L2 (N:Nat):Nat→Int→(List (ByteArray × List Int))→(List Int)→Int→Int→Option (Sum Bool Int)
 | 0,_,_,_,_,_=>none
 | k+1,x328,x331,x334,x335,x336 =>
  (ix x331 x335).bind fun x339 =>
  (bif decide (x336<(x339.2.length:Int)) then
  (ix x331 x335).bind fun x353 =>
  (ix x353.2 x336).bind fun x363 =>
  (sb x328 1).bind fun x369 =>
  (spec_l1In N x363 0 x369).bind fun r370 =>
  (bif r370 then
  (ad x336 1).bind fun x374 =>
  spec_IsValidQuery_L2 N k x328 x331 x334 x335 x374
  else
  some (.inl false))
  else
  some (.inr x336))
def spec_IsValidQuery_L1 (N:Nat):Nat→Int→(List (ByteArray × List Int))→(List Int)→Int→Option (Sum Bool Int)
 | 0,_,_,_,_=>none
 | k+1,x283,x286,x289,x290 =>
  (bif decide (x290<(x286.length:Int)) then
  (ix x286 x290).bind fun x298 =>
  (spec_IsValidName N x298.1).bind fun r308 =>
  (bif r308 then
  (ix x286 x290).bind fun x312 =>
  (spec_l1In N (x312.2.length:Int) 1 5).bind fun r322 =>
  (bif r322 then
  (spec_IsValidQuery_L2 N N x283 x286 x289 x290 0).bind fun s378 =>
  lpS s378 (fun q=>some (.inl q)) fun x376 =>
  (ad x290 1).bind fun x377 =>
  spec_IsValidQuery_L1 N k x283 x286 x289 x377
  else
  some (.inl false))
  else
  some (.inl false))
  else
  some (.inr x290))
def spec_IsValidQuery_L4 (N:Nat):Nat→Int→(List (ByteArray × List Int))→(List Int)→Int→Bool→Int→Option (Bool × Int)
 | 0,_,_,_,_,_,_=>none
 | k+1,x475,x478,x481,x482,x483,x484 =>
  (bif decide (x484<(x478.length:Int)) then
  (bif x483 then
  (ad x484 1).bind fun x491 =>
  spec_IsValidQuery_L4 N k x475 x478 x481 x482 true x491
  else
  (ix x478 x484).bind fun x492 =>
  (spec_ContainsVariable N x492.1 x492.2 x482).bind fun r502 =>
  (ad x484 1).bind fun x505 =>
  spec_IsValidQuery_L4 N k x475 x478 x481 x482 r502 x505)
  else
  some (x483,x484))
def spec_IsValidQuery_L3 (N:Nat):Nat→Int→(List (ByteArray × List Int))→(List Int)→Int→Option (Sum Bool Int)
 | 0,_,_,_,_=>none
 | k+1,x458,x461,x464,x465 =>
  (bif decide (x465<x458) then
  (spec_IsValidQuery_L4 N N x458 x461 x464 x465 false 0).bind fun s512 =>
  lpB s512 fun (x506,x507) =>
  (bif x506 then
  (ad x465 1).bind fun x510 =>
  spec_IsValidQuery_L3 N k x458 x461 x464 x510
  else
  some (.inl false))
  else
  some (.inr x465))
def spec_IsValidQuery_L5 (N:Nat):Nat→Int→(List (ByteArray × List Int))→(List Int)→Int→Option (Sum Bool Int)
 | 0,_,_,_,_=>none
 | k+1,x584,x587,x590,x591 =>
  (bif decide (x591<(x590.length:Int)) then
  (ix x590 x591).bind fun x598 =>
  (sb x584 1).bind fun x604 =>
  (spec_l1In N x598 0 x604).bind fun r605 =>
  (bif r605 then
  (slc x590 0 x591).bind fun x607 =>
  (ix x590 x591).bind fun x610 =>
  (spec_l7Find N x607 x610).bind fun r616 =>
  (bif decide (0≤r616) then
  some (.inl false)
  else
  (ad x591 1).bind fun x621 =>
  spec_IsValidQuery_L5 N k x584 x587 x590 x621)
  else
  some (.inl false))
  else
  some (.inr x591))
def spec_IsValidQuery (N:Nat) (a0:Int) (a1:List (ByteArray × List Int)) (a2:List Int):Option Bool :=
  (spec_l1In N a0 1 5).bind fun r108 =>
  (bif r108 then
  (spec_l1In N (a1.length:Int) 1 4).bind fun r112 =>
  (bif r112 then
  (bif decide (a0<(a2.length:Int)) then
  some false
  else
  (spec_IsValidQuery_L1 N N a0 a1 a2 0).bind fun s629 =>
  lpS s629 (fun q=>some q) fun x381 =>
  (spec_IsValidQuery_L3 N N a0 a1 a2 0).bind fun s628 =>
  lpS s628 (fun q=>some q) fun x513 =>
  (spec_IsValidQuery_L5 N N a0 a1 a2 0).bind fun s627 =>
  lpS s627 (fun q=>some q) fun x625 =>
  some true)
  else
  some false)
  else
  some false)
def spec_CompareRows_L1 (N:Nat):Nat→(List Int)→(List Int)→Int→Option (Sum Int Int)
 | 0,_,_,_=>none
 | k+1,x192,x195,x196 =>
  (bif decide (x196<(x192.length:Int)) then
  (bif decide (x196<(x195.length:Int)) then
  (ix x192 x196).bind fun x205 =>
  (ix x195 x196).bind fun x211 =>
  (bif decide (x205<x211) then
  some (.inl (-1))
  else
  (ix x192 x196).bind fun x222 =>
  (ix x195 x196).bind fun x228 =>
  (bif decide (x228<x222) then
  some (.inl 1)
  else
  (ad x196 1).bind fun x238 =>
  spec_CompareRows_L1 N k x192 x195 x238))
  else
  some (.inr x196))
  else
  some (.inr x196))
def spec_CompareRows (N:Nat) (a0:List Int) (a1:List Int):Option Int :=
  (spec_CompareRows_L1 N N a0 a1 0).bind fun s249 =>
  lpS s249 (fun q=>some q) fun x239 =>
  (bif decide ((a0.length:Int)<(a1.length:Int)) then
  some (-1)
  else
  (bif decide ((a1.length:Int)<(a0.length:Int)) then
  some 1
  else
  some 0))
def spec_AreValidValues_L1 (N:Nat):Nat→(List Int)→Int→Option (Sum Bool Int)
 | 0,_,_=>none
 | k+1,x144,x145 =>
  (bif decide (x145<(x144.length:Int)) then
  (ix x144 x145).bind fun x152 =>
  (spec_l1In N x152 0 99).bind fun r158 =>
  (bif r158 then
  (ad x145 1).bind fun x162 =>
  spec_AreValidValues_L1 N k x144 x162
  else
  some (.inl false))
  else
  some (.inr x145))
def spec_AreValidValues (N:Nat) (a0:List Int):Option Bool :=
  (spec_AreValidValues_L1 N N a0 0).bind fun s166 =>
  lpS s166 (fun q=>some q) fun x164 =>
  some true
def spec_IsValidRelation_L1 (N:Nat):Nat→Int→(List (List Int))→Int→Option (Sum Bool Int)
 | 0,_,_,_=>none
 | k+1,x226,x229,x230 =>
  (bif decide (x230<(x229.length:Int)) then
  (ix x229 x230).bind fun x237 =>
  (bif ((x237.length:Int) != x226) then
  some (.inl false)
  else
  (ix x229 x230).bind fun x248 =>
  (spec_AreValidValues N x248).bind fun r255 =>
  (bif r255 then
  (bif decide (0<x230) then
  (sb x230 1).bind fun x258 =>
  (ix x229 x258).bind fun x259 =>
  (ix x229 x230).bind fun x266 =>
  (spec_CompareRows N x259 x266).bind fun r273 =>
  (bif decide (0≤r273) then
  some (.inl false)
  else
  (ad x230 1).bind fun x278 =>
  spec_IsValidRelation_L1 N k x226 x229 x278)
  else
  (ad x230 1).bind fun x281 =>
  spec_IsValidRelation_L1 N k x226 x229 x281)
  else
  some (.inl false)))
  else
  some (.inr x230))
def spec_IsValidRelation (N:Nat) (a0:Int) (a1:List (List Int)):Option Bool :=
  (spec_l1In N a0 0 5).bind fun r108 =>
  (bif r108 then
  (bif decide (4000<(a1.length:Int)) then
  some false
  else
  (spec_IsValidRelation_L1 N N a0 a1 0).bind fun s287 =>
  lpS s287 (fun q=>some q) fun x285 =>
  some true)
  else
  some false)
def spec_IsValidDatabase_L1 (N:Nat):Nat→(List (ByteArray × (Int × List (List Int))))→Int→Option (Sum Bool Int)
 | 0,_,_=>none
 | k+1,x262,x263 =>
  (bif decide (x263<(x262.length:Int)) then
  (ix x262 x263).bind fun x270 =>
  (spec_IsValidName N x270.1).bind fun r288 =>
  (bif r288 then
  (bif decide (0<x263) then
  (sb x263 1).bind fun x291 =>
  (ix x262 x291).bind fun x292 =>
  (bif (ltS x292.1 x270.1) then
  (spec_IsValidRelation N x270.2.1 x270.2.2).bind fun r305 =>
  (bif r305 then
  (bif decide (16<(x270.2.2.length:Int)) then
  some (.inl false)
  else
  (bif decide (x270.2.1<1) then
  some (.inl false)
  else
  (ad x263 1).bind fun x315 =>
  spec_IsValidDatabase_L1 N k x262 x315))
  else
  some (.inl false))
  else
  some (.inl false))
  else
  (spec_IsValidRelation N x270.2.1 x270.2.2).bind fun r322 =>
  (bif r322 then
  (bif decide (16<(x270.2.2.length:Int)) then
  some (.inl false)
  else
  (bif decide (x270.2.1<1) then
  some (.inl false)
  else
  (ad x263 1).bind fun x332 =>
  spec_IsValidDatabase_L1 N k x262 x332))
  else
  some (.inl false)))
  else
  some (.inl false))
  else
  some (.inr x263))
def spec_IsValidDatabase (N:Nat) (a0:List (ByteArray × (Int × List (List Int)))):Option Bool :=
  (spec_IsValidDatabase_L1 N N a0 0).bind fun s341 =>
  lpS s341 (fun q=>some q) fun x339 =>
  some (decide ((a0.length:Int)≤6))
def spec_l5Copy_L1 (N:Nat):Nat→Int→(List (List Int))→Int→(List (List Int))→Int→(List (List Int))→Int→Option ((List (List Int)) × Int)
 | 0,_,_,_,_,_,_,_=>none
 | k+1,x244,x247,x248,x251,x252,x255,x257 =>
  (bif decide (x257<(x247.length:Int)) then
  (ix x247 x257).bind fun x265 =>
  (apd 8 [] x265).bind fun x278 =>
  (apd 24 x255 [x278]).bind fun x291 =>
  (ad x257 1).bind fun x295 =>
  spec_l5Copy_L1 N k x244 x247 x248 x251 x252 x291 x295
  else
  some (x255,x257))
def spec_l5Copy (N:Nat) (a0:Int) (a1:List (List Int)):Option (Int × List (List Int)) :=
  (spec_l5Copy_L1 N N a0 a1 0 [] a0 [] 0).bind fun s303 =>
  lpB s303 fun (x298,x300) =>
  some (a0,x298)
def spec_LookupRelation_L1 (N:Nat):Nat→ByteArray→(List (ByteArray × (Int × List (List Int))))→Int→(List (List Int))→Int→Option (Sum ((Int × List (List Int)) × Bool) Int)
 | 0,_,_,_,_,_=>none
 | k+1,x200,x203,x204,x207,x208 =>
  (bif decide (x208<(x203.length:Int)) then
  (spec_IsValidDatabase N x203).bind fun r212 =>
  (bif r212 then
  (ix x203 x208).bind fun x219 =>
  (bif (eqS x219.1 x200) then
  (ix x203 x208).bind fun x233 =>
  (spec_l5Copy N x233.2.1 x233.2.2).bind fun r245 =>
  some (.inl ((r245.1,r245.2),true))
  else
  (ad x208 1).bind fun x251 =>
  spec_LookupRelation_L1 N k x200 x203 x204 x207 x251)
  else
  some (.inr x208))
  else
  some (.inr x208))
def spec_LookupRelation (N:Nat) (a0:List (ByteArray × (Int × List (List Int)))) (a1:ByteArray):Option ((Int × List (List Int)) × Bool) :=
  (spec_LookupRelation_L1 N N a1 a0 0 [] 0).bind fun s255 =>
  lpS s255 (fun q=>some q) fun x252 =>
  some ((0,[]),false)
def spec_IsQueryFor_L1 (N:Nat):Nat→(List (ByteArray × (Int × List (List Int))))→Int→(List (ByteArray × List Int))→(List Int)→Int→Option (Sum Bool Int)
 | 0,_,_,_,_,_=>none
 | k+1,x212,x213,x216,x219,x220 =>
  (bif decide (x220<(x216.length:Int)) then
  (ix x216 x220).bind fun x229 =>
  (spec_LookupRelation N x212 x229.1).bind fun r239 =>
  (bif r239.2 then
  (ix x216 x220).bind fun x251 =>
  (bif (r239.1.1 != (x251.2.length:Int)) then
  some (.inl false)
  else
  (ad x220 1).bind fun x265 =>
  spec_IsQueryFor_L1 N k x212 x213 x216 x219 x265)
  else
  some (.inl false))
  else
  some (.inr x220))
def spec_IsQueryFor (N:Nat) (a0:List (ByteArray × (Int × List (List Int)))) (a1:Int) (a2:List (ByteArray × List Int)) (a3:List Int):Option Bool :=
  (spec_IsQueryFor_L1 N N a0 a1 a2 a3 0).bind fun s278 =>
  lpS s278 (fun q=>some q) fun x269 =>
  (spec_IsValidQuery N a1 a2 a3).bind fun r271 =>
  (bif r271 then
  (spec_IsValidDatabase N a0).bind fun r275 =>
  some r275
  else
  some false)
def spec_AtomVariables_L1 (N:Nat):Nat→ByteArray→(List Int)→(List Int)→Int→Option ((List Int) × Int)
 | 0,_,_,_,_=>none
 | k+1,x185,x188,x191,x192 =>
  (bif decide (x192<5) then
  (spec_ContainsVariable N x185 x188 x192).bind fun r199 =>
  (bif r199 then
  (apd 8 x191 [x192]).bind fun x209 =>
  (ad x192 1).bind fun x212 =>
  spec_AtomVariables_L1 N k x185 x188 x209 x212
  else
  (ad x192 1).bind fun x213 =>
  spec_AtomVariables_L1 N k x185 x188 x191 x213)
  else
  some (x191,x192))
def spec_AtomVariables (N:Nat) (a0:ByteArray) (a1:List Int):Option (List Int) :=
  (spec_AtomVariables_L1 N N a0 a1 [] 0).bind fun s219 =>
  lpB s219 fun (x216,x217) =>
  some x216
def spec_l5Sort_L1 (rec:(List (List Int))→Option (List (List Int))) (N:Nat):Nat→(List (List Int))→(List (List Int))→(List (List Int))→Option ((List (List Int)) × (List (List Int)) × (List (List Int)))
 | 0,_,_,_=>none
 | k+1,x1731,x1734,x1737 =>
  (bif decide (0<(x1731.length:Int)) then
  (bif ((x1731.length:Int) == 0) then
  (bif decide (0<(1:Int)) then
  (ix x1734 0).bind fun x1756 =>
  (slc x1734 1 (x1734.length:Int)).bind fun x1763 =>
  (bif ((x1737.length:Int) == 0) then
  (apd 24 x1737 [x1756]).bind fun x1774 =>
  spec_l5Sort_L1 rec N k x1731 x1763 x1774
  else
  (sb (x1737.length:Int) 1).bind fun x1777 =>
  (ix x1737 x1777).bind fun x1778 =>
  (spec_CompareRows N x1778 x1756).bind fun r1785 =>
  (bif (r1785 != 0) then
  (apd 24 x1737 [x1756]).bind fun x1795 =>
  spec_l5Sort_L1 rec N k x1731 x1763 x1795
  else
  spec_l5Sort_L1 rec N k x1731 x1763 x1737))
  else
  (ix x1731 0).bind fun x1799 =>
  (slc x1731 1 (x1731.length:Int)).bind fun x1806 =>
  (bif ((x1737.length:Int) == 0) then
  (apd 24 x1737 [x1799]).bind fun x1817 =>
  spec_l5Sort_L1 rec N k x1806 x1734 x1817
  else
  (sb (x1737.length:Int) 1).bind fun x1820 =>
  (ix x1737 x1820).bind fun x1821 =>
  (spec_CompareRows N x1821 x1799).bind fun r1828 =>
  (bif (r1828 != 0) then
  (apd 24 x1737 [x1799]).bind fun x1838 =>
  spec_l5Sort_L1 rec N k x1806 x1734 x1838
  else
  spec_l5Sort_L1 rec N k x1806 x1734 x1737)))
  else
  (bif decide (0<(x1734.length:Int)) then
  (ix x1731 0).bind fun x1843 =>
  (ix x1734 0).bind fun x1850 =>
  (spec_CompareRows N x1843 x1850).bind fun r1857 =>
  (bif decide (0<r1857) then
  (ix x1734 0).bind fun x1869 =>
  (slc x1734 1 (x1734.length:Int)).bind fun x1876 =>
  (bif ((x1737.length:Int) == 0) then
  (apd 24 x1737 [x1869]).bind fun x1887 =>
  spec_l5Sort_L1 rec N k x1731 x1876 x1887
  else
  (sb (x1737.length:Int) 1).bind fun x1890 =>
  (ix x1737 x1890).bind fun x1891 =>
  (spec_CompareRows N x1891 x1869).bind fun r1898 =>
  (bif (r1898 != 0) then
  (apd 24 x1737 [x1869]).bind fun x1908 =>
  spec_l5Sort_L1 rec N k x1731 x1876 x1908
  else
  spec_l5Sort_L1 rec N k x1731 x1876 x1737))
  else
  (ix x1731 0).bind fun x1912 =>
  (slc x1731 1 (x1731.length:Int)).bind fun x1919 =>
  (bif ((x1737.length:Int) == 0) then
  (apd 24 x1737 [x1912]).bind fun x1930 =>
  spec_l5Sort_L1 rec N k x1919 x1734 x1930
  else
  (sb (x1737.length:Int) 1).bind fun x1933 =>
  (ix x1737 x1933).bind fun x1934 =>
  (spec_CompareRows N x1934 x1912).bind fun r1941 =>
  (bif (r1941 != 0) then
  (apd 24 x1737 [x1912]).bind fun x1951 =>
  spec_l5Sort_L1 rec N k x1919 x1734 x1951
  else
  spec_l5Sort_L1 rec N k x1919 x1734 x1737)))
  else
  (bif decide (0<((-1):Int)) then
  (ix x1734 0).bind fun x1963 =>
  (slc x1734 1 (x1734.length:Int)).bind fun x1970 =>
  (bif ((x1737.length:Int) == 0) then
  (apd 24 x1737 [x1963]).bind fun x1981 =>
  spec_l5Sort_L1 rec N k x1731 x1970 x1981
  else
  (sb (x1737.length:Int) 1).bind fun x1984 =>
  (ix x1737 x1984).bind fun x1985 =>
  (spec_CompareRows N x1985 x1963).bind fun r1992 =>
  (bif (r1992 != 0) then
  (apd 24 x1737 [x1963]).bind fun x2002 =>
  spec_l5Sort_L1 rec N k x1731 x1970 x2002
  else
  spec_l5Sort_L1 rec N k x1731 x1970 x1737))
  else
  (ix x1731 0).bind fun x2006 =>
  (slc x1731 1 (x1731.length:Int)).bind fun x2013 =>
  (bif ((x1737.length:Int) == 0) then
  (apd 24 x1737 [x2006]).bind fun x2024 =>
  spec_l5Sort_L1 rec N k x2013 x1734 x2024
  else
  (sb (x1737.length:Int) 1).bind fun x2027 =>
  (ix x1737 x2027).bind fun x2028 =>
  (spec_CompareRows N x2028 x2006).bind fun r2035 =>
  (bif (r2035 != 0) then
  (apd 24 x1737 [x2006]).bind fun x2045 =>
  spec_l5Sort_L1 rec N k x2013 x1734 x2045
  else
  spec_l5Sort_L1 rec N k x2013 x1734 x1737)))))
  else
  (bif decide (0<(x1734.length:Int)) then
  (bif ((x1731.length:Int) == 0) then
  (bif decide (0<(1:Int)) then
  (ix x1734 0).bind fun x2064 =>
  (slc x1734 1 (x1734.length:Int)).bind fun x2071 =>
  (bif ((x1737.length:Int) == 0) then
  (apd 24 x1737 [x2064]).bind fun x2082 =>
  spec_l5Sort_L1 rec N k x1731 x2071 x2082
  else
  (sb (x1737.length:Int) 1).bind fun x2085 =>
  (ix x1737 x2085).bind fun x2086 =>
  (spec_CompareRows N x2086 x2064).bind fun r2093 =>
  (bif (r2093 != 0) then
  (apd 24 x1737 [x2064]).bind fun x2103 =>
  spec_l5Sort_L1 rec N k x1731 x2071 x2103
  else
  spec_l5Sort_L1 rec N k x1731 x2071 x1737))
  else
  (ix x1731 0).bind fun x2107 =>
  (slc x1731 1 (x1731.length:Int)).bind fun x2114 =>
  (bif ((x1737.length:Int) == 0) then
  (apd 24 x1737 [x2107]).bind fun x2125 =>
  spec_l5Sort_L1 rec N k x2114 x1734 x2125
  else
  (sb (x1737.length:Int) 1).bind fun x2128 =>
  (ix x1737 x2128).bind fun x2129 =>
  (spec_CompareRows N x2129 x2107).bind fun r2136 =>
  (bif (r2136 != 0) then
  (apd 24 x1737 [x2107]).bind fun x2146 =>
  spec_l5Sort_L1 rec N k x2114 x1734 x2146
  else
  spec_l5Sort_L1 rec N k x2114 x1734 x1737)))
  else
  (ix x1731 0).bind fun x2150 =>
  (ix x1734 0).bind fun x2157 =>
  (spec_CompareRows N x2150 x2157).bind fun r2164 =>
  (bif decide (0<r2164) then
  (ix x1734 0).bind fun x2176 =>
  (slc x1734 1 (x1734.length:Int)).bind fun x2183 =>
  (bif ((x1737.length:Int) == 0) then
  (apd 24 x1737 [x2176]).bind fun x2194 =>
  spec_l5Sort_L1 rec N k x1731 x2183 x2194
  else
  (sb (x1737.length:Int) 1).bind fun x2197 =>
  (ix x1737 x2197).bind fun x2198 =>
  (spec_CompareRows N x2198 x2176).bind fun r2205 =>
  (bif (r2205 != 0) then
  (apd 24 x1737 [x2176]).bind fun x2215 =>
  spec_l5Sort_L1 rec N k x1731 x2183 x2215
  else
  spec_l5Sort_L1 rec N k x1731 x2183 x1737))
  else
  (ix x1731 0).bind fun x2219 =>
  (slc x1731 1 (x1731.length:Int)).bind fun x2226 =>
  (bif ((x1737.length:Int) == 0) then
  (apd 24 x1737 [x2219]).bind fun x2237 =>
  spec_l5Sort_L1 rec N k x2226 x1734 x2237
  else
  (sb (x1737.length:Int) 1).bind fun x2240 =>
  (ix x1737 x2240).bind fun x2241 =>
  (spec_CompareRows N x2241 x2219).bind fun r2248 =>
  (bif (r2248 != 0) then
  (apd 24 x1737 [x2219]).bind fun x2258 =>
  spec_l5Sort_L1 rec N k x2226 x1734 x2258
  else
  spec_l5Sort_L1 rec N k x2226 x1734 x1737))))
  else
  some (x1731,x1734,x1737)))
def spec_l5Sort:Nat→(List (List Int))→Option (List (List Int))
 | 0,_=>none
 | N+1,a0 =>
  (bif decide ((a0.length:Int)<2) then
  some a0
  else
  (qt (a0.length:Int) 2).bind fun x107 =>
  (slc a0 0 x107).bind fun x109 =>
  (spec_l5Sort N x109).bind fun r112 =>
  (slc a0 x107 (a0.length:Int)).bind fun x122 =>
  (spec_l5Sort N x122).bind fun r125 =>
  (spec_l5Sort_L1 (spec_l5Sort N) N N r112 r125 []).bind fun s2271 =>
  lpB s2271 fun (x2263,x2266,x2269) =>
  some x2269)
end Go.Proofs.Ytkpeabpdiffjhaa
namespace Go.Proofs.Ytkpeabpdiffjhaa
open Go.RowKit
def spec_NewRelation_L1 (N:Nat):Nat→Int→(List (List Int))→Int→(List (List Int))→Int→Option (Sum ((Int × List (List Int)) × Bool) Int)
 | 0,_,_,_,_,_=>none
 | k+1,x170,x173,x174,x177,x178 =>
  (bif decide (x178<(x173.length:Int)) then
  (ix x173 x178).bind fun x185 =>
  (bif ((x185.length:Int) != x170) then
  some (.inl ((0,[]),false))
  else
  (ix x173 x178).bind fun x195 =>
  (spec_AreValidValues N x195).bind fun r202 =>
  (bif r202 then
  (ad x178 1).bind fun x206 =>
  spec_NewRelation_L1 N k x170 x173 x174 x177 x206
  else
  some (.inl ((0,[]),false))))
  else
  some (.inr x178))
def spec_NewRelation (N:Nat) (a0:Int) (a1:List (List Int)):Option ((Int × List (List Int)) × Bool) :=
  (spec_NewRelation_L1 N N a0 a1 0 [] 0).bind fun s236 =>
  lpS s236 (fun q=>some q) fun x209 =>
  (spec_l5Sort N a1).bind fun r211 =>
  (spec_l5Copy N a0 r211).bind fun r216 =>
  (spec_IsValidRelation N r216.1 r216.2).bind fun r228 =>
  (bif r228 then
  some ((r216.1,r216.2),true)
  else
  some ((0,[]),false))
def spec_AtomBindings_L2 (N:Nat):Nat→ByteArray→(List Int)→Int→(List (List Int))→(List Int)→Int→(List (List Int))→Int→(List (List Int))→(List (List Int))→Int→(List Int)→Int→Option ((List Int) × Int)
 | 0,_,_,_,_,_,_,_,_,_,_,_,_,_=>none
 | k+1,x538,x541,x542,x545,x548,x549,x552,x553,x556,x559,x560,x563,x564 =>
  (bif decide (x564<(x548.length:Int)) then
  (ix x552 x560).bind fun x572 =>
  (ix x548 x564).bind fun x582 =>
  (spec_l7Find N x541 x582).bind fun r586 =>
  (ix x572 r586).bind fun x589 =>
  (apd 8 x563 [x589]).bind fun x604 =>
  (ad x564 1).bind fun x607 =>
  spec_AtomBindings_L2 N k x538 x541 x542 x545 x548 x549 x552 x553 x556 x559 x560 x604 x607
  else
  some (x563,x564))
def spec_AtomBindings_L3 (N:Nat):Nat→ByteArray→(List Int)→Int→(List (List Int))→(List Int)→Int→(List (List Int))→Int→(List (List Int))→(List (List Int))→Int→(List Int)→Bool→Int→Option (Bool × Int)
 | 0,_,_,_,_,_,_,_,_,_,_,_,_,_,_=>none
 | k+1,x616,x619,x620,x623,x626,x627,x630,x631,x634,x637,x638,x641,x642,x643 =>
  (bif decide (x643<(x619.length:Int)) then
  (ix x619 x643).bind fun x650 =>
  (spec_l7Find N x626 x650).bind fun r656 =>
  (bif x642 then
  (bif decide (0≤r656) then
  (ix x641 r656).bind fun x661 =>
  (ix x630 x638).bind fun x665 =>
  (ix x665 x643).bind fun x675 =>
  (ad x643 1).bind fun x686 =>
  spec_AtomBindings_L3 N k x616 x619 x620 x623 x626 x627 x630 x631 x634 x637 x638 x641 (x661 == x675) x686
  else
  (ad x643 1).bind fun x689 =>
  spec_AtomBindings_L3 N k x616 x619 x620 x623 x626 x627 x630 x631 x634 x637 x638 x641 false x689)
  else
  (ad x643 1).bind fun x692 =>
  spec_AtomBindings_L3 N k x616 x619 x620 x623 x626 x627 x630 x631 x634 x637 x638 x641 false x692)
  else
  some (x642,x643))
def spec_AtomBindings_L1 (N:Nat):Nat→ByteArray→(List Int)→Int→(List (List Int))→(List Int)→Int→(List (List Int))→Int→(List (List Int))→(List (List Int))→Int→Option ((List (List Int)) × Int)
 | 0,_,_,_,_,_,_,_,_,_,_,_=>none
 | k+1,x502,x505,x506,x509,x512,x513,x516,x517,x520,x523,x524 =>
  (bif decide (x524<(x516.length:Int)) then
  (spec_AtomBindings_L2 N N x502 x505 x506 x509 x512 x513 x516 x517 x520 x523 x524 [] 0).bind fun s709 =>
  lpB s709 fun (x610,x611) =>
  (spec_AtomBindings_L3 N N x502 x505 x506 x509 x512 x513 x516 x517 x520 x523 x524 x610 true 0).bind fun s708 =>
  lpB s708 fun (x693,x694) =>
  (bif x693 then
  (apd 24 x523 [x610]).bind fun x703 =>
  (ad x524 1).bind fun x706 =>
  spec_AtomBindings_L1 N k x502 x505 x506 x509 x512 x513 x516 x517 x520 x703 x706
  else
  (ad x524 1).bind fun x707 =>
  spec_AtomBindings_L1 N k x502 x505 x506 x509 x512 x513 x516 x517 x520 x523 x707)
  else
  some (x523,x524))
def spec_AtomBindings (N:Nat) (a0:List (ByteArray × (Int × List (List Int)))) (a1:ByteArray) (a2:List Int):Option (Int × List (List Int)) :=
  (spec_AtomVariables N a1 a2).bind fun r115 =>
  (spec_LookupRelation N a0 a1).bind fun r121 =>
  (bif r121.2 then
  (bif (r121.1.1 != (a2.length:Int)) then
  some ((r115.length:Int),[])
  else
  (spec_AtomBindings_L1 N N a1 a2 0 [] r115 r121.1.1 r121.1.2 (r115.length:Int) [] [] 0).bind fun s732 =>
  lpB s732 fun (x712,x713) =>
  (spec_NewRelation N (r115.length:Int) x712).bind fun r715 =>
  (bif r715.2 then
  some (r715.1.1,r715.1.2)
  else
  some ((r115.length:Int),[])))
  else
  some ((r115.length:Int),[]))
def spec_AtomRelation (N:Nat) (a0:List (ByteArray × (Int × List (List Int)))) (a1:ByteArray) (a2:List Int):Option (List Int × (Int × List (List Int))) :=
  (spec_AtomVariables N a1 a2).bind fun r117 =>
  (spec_AtomBindings N a0 a1 a2).bind fun r122 =>
  some (r117,(r122.1,r122.2))
def spec_IsValidVarRelation_L1 (N:Nat):Nat→(List Int)→Int→(List (List Int))→Int→Option (Sum Bool Int)
 | 0,_,_,_,_=>none
 | k+1,x190,x191,x194,x195 =>
  (bif decide (x195<(x190.length:Int)) then
  (ix x190 x195).bind fun x202 =>
  (spec_l1In N x202 0 4).bind fun r208 =>
  (bif r208 then
  (bif decide (0<x195) then
  (ix x190 x195).bind fun x211 =>
  (sb x195 1).bind fun x217 =>
  (ix x190 x217).bind fun x218 =>
  (bif decide (x211≤x218) then
  some (.inl false)
  else
  (ad x195 1).bind fun x228 =>
  spec_IsValidVarRelation_L1 N k x190 x191 x194 x228)
  else
  (ad x195 1).bind fun x231 =>
  spec_IsValidVarRelation_L1 N k x190 x191 x194 x231)
  else
  some (.inl false))
  else
  some (.inr x195))
def spec_IsValidVarRelation (N:Nat) (a0:List Int) (a1:Int) (a2:List (List Int)):Option Bool :=
  (spec_IsValidVarRelation_L1 N N a0 a1 a2 0).bind fun s241 =>
  lpS s241 (fun q=>some q) fun x235 =>
  (spec_IsValidRelation N a1 a2).bind fun r237 =>
  (bif r237 then
  some (a1 == (a0.length:Int))
  else
  some false)
def spec_l11Both_L1 (N:Nat):Nat→(List Int)→Int→(List (List Int))→(List Int)→Int→(List (List Int))→(List Int)→(List Int)→Int→Option ((List Int) × (List Int) × Int)
 | 0,_,_,_,_,_,_,_,_,_=>none
 | k+1,x253,x254,x257,x260,x261,x264,x267,x270,x271 =>
  (bif decide (x271<(x253.length:Int)) then
  (ix x253 x271).bind fun x278 =>
  (spec_l7Find N x260 x278).bind fun r284 =>
  (bif decide (0≤r284) then
  (apd 8 x267 [x271]).bind fun x296 =>
  (apd 8 x270 [r284]).bind fun x305 =>
  (ad x271 1).bind fun x308 =>
  spec_l11Both_L1 N k x253 x254 x257 x260 x261 x264 x296 x305 x308
  else
  (ad x271 1).bind fun x309 =>
  spec_l11Both_L1 N k x253 x254 x257 x260 x261 x264 x267 x270 x309)
  else
  some (x267,x270,x271))
def spec_l11Both (N:Nat) (a0:List Int) (a1:Int) (a2:List (List Int)) (a3:List Int) (a4:Int) (a5:List (List Int)):Option ((List Int) × (List Int)) :=
  (spec_l11Both_L1 N N a0 a1 a2 a3 a4 a5 [] [] 0).bind fun s318 =>
  lpB s318 fun (x312,x315,x316) =>
  some (x312,x315)
def spec_l11Vars_L1 (N:Nat):Nat→(List Int)→(List Int)→(List Int)→Int→Option ((List Int) × Int)
 | 0,_,_,_,_=>none
 | k+1,x225,x228,x231,x232 =>
  (bif decide (x232<5) then
  (spec_l7Find N x225 x232).bind fun r239 =>
  (bif decide (0≤r239) then
  (apd 8 x231 [x232]).bind fun x249 =>
  (ad x232 1).bind fun x252 =>
  spec_l11Vars_L1 N k x225 x228 x249 x252
  else
  (spec_l7Find N x228 x232).bind fun r253 =>
  (bif decide (0≤r253) then
  (apd 8 x231 [x232]).bind fun x263 =>
  (ad x232 1).bind fun x266 =>
  spec_l11Vars_L1 N k x225 x228 x263 x266
  else
  (ad x232 1).bind fun x267 =>
  spec_l11Vars_L1 N k x225 x228 x231 x267))
  else
  some (x231,x232))
def spec_l11Vars (N:Nat) (a0:List Int) (a1:List Int):Option (List Int) :=
  (spec_l11Vars_L1 N N a0 a1 [] 0).bind fun s273 =>
  lpB s273 fun (x270,x271) =>
  some x270
def spec_l5Cols_L1 (N:Nat):Nat→(List Int)→(List Int)→(List Int)→Int→Option ((List Int) × Int)
 | 0,_,_,_,_=>none
 | k+1,x201,x204,x207,x208 =>
  (bif decide (x208<(x204.length:Int)) then
  (ix x204 x208).bind fun x214 =>
  (ix x201 x214).bind fun x220 =>
  (apd 8 x207 [x220]).bind fun x232 =>
  (ad x208 1).bind fun x235 =>
  spec_l5Cols_L1 N k x201 x204 x232 x235
  else
  some (x207,x208))
def spec_l5Cols (N:Nat) (a0:List Int) (a1:List Int):Option (List Int) :=
  (spec_l5Cols_L1 N N a0 a1 [] 0).bind fun s241 =>
  lpB s241 fun (x238,x239) =>
  some x238
def spec_NaturalJoin_L3 (N:Nat):Nat→(List Int)→Int→(List (List Int))→(List Int)→Int→(List (List Int))→(List Int)→Int→(List (List Int))→(List Int)→(List Int)→(List Int)→(List (List Int))→Int→Int→(List Int)→Int→Option ((List Int) × Int)
 | 0,_,_,_,_,_,_,_,_,_,_,_,_,_,_,_,_,_=>none
 | k+1,x720,x721,x724,x727,x728,x731,x734,x735,x738,x741,x744,x747,x750,x751,x752,x755,x756 =>
  (bif decide (x756<(x747.length:Int)) then
  (ix x747 x756).bind fun x763 =>
  (spec_l7Find N x720 x763).bind fun r767 =>
  (bif decide (0≤r767) then
  (ix x724 x751).bind fun x772 =>
  (ix x772 r767).bind fun x779 =>
  (apd 8 x755 [x779]).bind fun x791 =>
  (ad x756 1).bind fun x794 =>
  spec_NaturalJoin_L3 N k x720 x721 x724 x727 x728 x731 x734 x735 x738 x741 x744 x747 x750 x751 x752 x791 x794
  else
  (ix x731 x752).bind fun x797 =>
  (ix x747 x756).bind fun x804 =>
  (spec_l7Find N x727 x804).bind fun r808 =>
  (ix x797 r808).bind fun x811 =>
  (apd 8 x755 [x811]).bind fun x823 =>
  (ad x756 1).bind fun x826 =>
  spec_NaturalJoin_L3 N k x720 x721 x724 x727 x728 x731 x734 x735 x738 x741 x744 x747 x750 x751 x752 x823 x826)
  else
  some (x755,x756))
def spec_NaturalJoin_L2 (N:Nat):Nat→(List Int)→Int→(List (List Int))→(List Int)→Int→(List (List Int))→(List Int)→Int→(List (List Int))→(List Int)→(List Int)→(List Int)→(List (List Int))→Int→Int→Option ((List (List Int)) × Int)
 | 0,_,_,_,_,_,_,_,_,_,_,_,_,_,_,_=>none
 | k+1,x639,x640,x643,x646,x647,x650,x653,x654,x657,x660,x663,x666,x669,x670,x671 =>
  (bif decide (x671<(x650.length:Int)) then
  (ix x643 x670).bind fun x681 =>
  (ix x650 x671).bind fun x688 =>
  (spec_l5Cols N x681 x660).bind fun r695 =>
  (spec_l5Cols N x688 x663).bind fun r700 =>
  (spec_CompareRows N r695 r700).bind fun r705 =>
  (bif (r705 != 0) then
  (ad x671 1).bind fun x709 =>
  spec_NaturalJoin_L2 N k x639 x640 x643 x646 x647 x650 x653 x654 x657 x660 x663 x666 x669 x670 x709
  else
  (spec_NaturalJoin_L3 N N x639 x640 x643 x646 x647 x650 x653 x654 x657 x660 x663 x666 x669 x670 x671 [] 0).bind fun s841 =>
  lpB s841 fun (x829,x830) =>
  (apd 24 x669 [x829]).bind fun x837 =>
  (ad x671 1).bind fun x840 =>
  spec_NaturalJoin_L2 N k x639 x640 x643 x646 x647 x650 x653 x654 x657 x660 x663 x666 x837 x670 x840)
  else
  some (x669,x671))
def spec_NaturalJoin_L1 (N:Nat):Nat→(List Int)→Int→(List (List Int))→(List Int)→Int→(List (List Int))→(List Int)→Int→(List (List Int))→(List Int)→(List Int)→(List Int)→(List (List Int))→Int→Option ((List (List Int)) × Int)
 | 0,_,_,_,_,_,_,_,_,_,_,_,_,_,_=>none
 | k+1,x598,x599,x602,x605,x606,x609,x612,x613,x616,x619,x622,x625,x628,x629 =>
  (bif decide (x629<(x602.length:Int)) then
  (spec_NaturalJoin_L2 N N x598 x599 x602 x605 x606 x609 x612 x613 x616 x619 x622 x625 x628 x629 0).bind fun s847 =>
  lpB s847 fun (x844,x845) =>
  (ad x629 1).bind fun x846 =>
  spec_NaturalJoin_L1 N k x598 x599 x602 x605 x606 x609 x612 x613 x616 x619 x622 x625 x844 x846
  else
  some (x628,x629))
def spec_NaturalJoin (N:Nat) (a0:List Int) (a1:Int) (a2:List (List Int)) (a3:List Int) (a4:Int) (a5:List (List Int)):Option ((List Int × (Int × List (List Int))) × Bool) :=
  (spec_IsValidVarRelation N a0 a1 a2).bind fun r116 =>
  (bif r116 then
  (spec_IsValidVarRelation N a3 a4 a5).bind fun r120 =>
  (bif r120 then
  (spec_l11Both N a0 a1 a2 a3 a4 a5).bind fun r125 =>
  (spec_l11Vars N a0 a3).bind fun r133 =>
  (spec_NaturalJoin_L1 N N a0 a1 a2 a3 a4 a5 [] 0 [] r125.1 r125.2 r133 [] 0).bind fun s870 =>
  lpB s870 fun (x850,x851) =>
  (spec_NewRelation N (r133.length:Int) x850).bind fun r853 =>
  (bif r853.2 then
  some ((r133,(r853.1.1,r853.1.2)),true)
  else
  some (([],(0,[])),false))
  else
  some (([],(0,[])),false))
  else
  some (([],(0,[])),false))
def spec_Project_L1 (N:Nat):Nat→(List Int)→Int→(List (List Int))→Int→(List (List Int))→Int→Option (Sum ((Int × List (List Int)) × Bool) Int)
 | 0,_,_,_,_,_,_=>none
 | k+1,x156,x157,x160,x161,x164,x165 =>
  (bif decide (x165<(x156.length:Int)) then
  (ix x156 x165).bind fun x172 =>
  (sb x157 1).bind fun x178 =>
  (spec_l1In N x172 0 x178).bind fun r179 =>
  (bif r179 then
  (ad x165 1).bind fun x183 =>
  spec_Project_L1 N k x156 x157 x160 x161 x164 x183
  else
  some (.inl ((0,[]),false)))
  else
  some (.inr x165))
def spec_Project_L2 (N:Nat):Nat→(List Int)→Int→(List (List Int))→Int→(List (List Int))→(List (List Int))→Int→Option ((List (List Int)) × Int)
 | 0,_,_,_,_,_,_,_=>none
 | k+1,x295,x296,x299,x300,x303,x306,x307 =>
  (bif decide (x307<(x299.length:Int)) then
  (ix x299 x307).bind fun x313 =>
  (spec_l5Cols N x313 x295).bind fun r320 =>
  (apd 24 x306 [r320]).bind fun x331 =>
  (ad x307 1).bind fun x334 =>
  spec_Project_L2 N k x295 x296 x299 x300 x303 x331 x334
  else
  some (x306,x307))
def spec_Project (N:Nat) (a0:Int) (a1:List (List Int)) (a2:List Int):Option ((Int × List (List Int)) × Bool) :=
  (spec_Project_L1 N N a2 a0 a1 0 [] 0).bind fun s355 =>
  lpS s355 (fun q=>some q) fun x186 =>
  (spec_IsValidRelation N a0 a1).bind fun r189 =>
  (bif r189 then
  (bif decide (5<(a2.length:Int)) then
  some ((0,[]),false)
  else
  (spec_Project_L2 N N a2 a0 a1 0 [] [] 0).bind fun s352 =>
  lpB s352 fun (x337,x338) =>
  (spec_NewRelation N (a2.length:Int) x337).bind fun r340 =>
  some ((r340.1.1,r340.1.2),r340.2))
  else
  some ((0,[]),false))
def spec_PairwiseJoin_L1 (N:Nat):Nat→(List (ByteArray × (Int × List (List Int))))→Int→(List (ByteArray × List Int))→(List Int)→Int→(List (List Int))→(List Int)→Int→(List (List Int))→Int→Int→Option (Sum ((Int × List (List Int)) × Int × Bool) ((List Int) × Int × (List (List Int)) × Int × Int))
 | 0,_,_,_,_,_,_,_,_,_,_,_=>none
 | k+1,x307,x308,x311,x314,x315,x318,x321,x322,x325,x326,x327 =>
  (bif decide (x327<(x311.length:Int)) then
  (ix x311 x327).bind fun x336 =>
  (spec_AtomRelation N x307 x336.1 x336.2).bind fun r346 =>
  (spec_NaturalJoin N x321 x322 x325 r346.1 r346.2.1 r346.2.2).bind fun r353 =>
  (bif r353.2 then
  (ad x326 (r353.1.2.2.length:Int)).bind fun x370 =>
  (ad x327 1).bind fun x371 =>
  spec_PairwiseJoin_L1 N k x307 x308 x311 x314 x315 x318 r353.1.1 r353.1.2.1 r353.1.2.2 x370 x371
  else
  some (.inl ((0,[]),0,false)))
  else
  some (.inr (x321,x322,x325,x326,x327)))
def spec_PairwiseJoin (N:Nat) (a0:List (ByteArray × (Int × List (List Int)))) (a1:Int) (a2:List (ByteArray × List Int)) (a3:List Int):Option ((Int × List (List Int)) × Int × Bool) :=
  (spec_IsQueryFor N a0 a1 a2 a3).bind fun r116 =>
  (bif r116 then
  (ix a2 0).bind fun x123 =>
  (spec_AtomRelation N a0 x123.1 x123.2).bind fun r133 =>
  (spec_PairwiseJoin_L1 N N a0 a1 a2 a3 0 [] r133.1 r133.2.1 r133.2.2 (r133.2.2.length:Int) 1).bind fun s396 =>
  lpS s396 (fun q=>some q) fun (x376,x377,x380,x381,x382) =>
  (spec_Project N x377 x380 a3).bind fun r384 =>
  some ((r384.1.1,r384.1.2),x381,r384.2)
  else
  some ((0,[]),0,false))
def impl_within (N:Nat) (a0:Int) (a1:Int) (a2:Int):Option Bool :=
  (bif decide (a1≤a0) then
  some (decide (a0≤a2))
  else
  some false)
def impl_indexOf_L1 (N:Nat):Nat→Int→(List Int)→Int→Int→Option (Sum Int Int)
 | 0,_,_,_,_=>none
 | k+1,x138,x141,x142,x143 =>
  (bif decide (x143<x142) then
  (ix x141 x143).bind fun x150 =>
  (bif (x150 == x138) then
  some (.inl x143)
  else
  (ad x143 1).bind fun x159 =>
  impl_indexOf_L1 N k x138 x141 x142 x159)
  else
  some (.inr x143))
def impl_indexOf (N:Nat) (a0:List Int) (a1:Int):Option Int :=
  (impl_indexOf_L1 N N a1 a0 (a0.length:Int) 0).bind fun s162 =>
  lpS s162 (fun q=>some q) fun x160 =>
  some (-1)
end Go.Proofs.Ytkpeabpdiffjhaa
namespace Go.Proofs.Ytkpeabpdiffjhaa
open Go.RowKit
def impl_hasInt (N:Nat) (a0:List Int) (a1:Int):Option Bool :=
  (impl_indexOf N a0 a1).bind fun r103 =>
  some (decide (0≤r103))
def impl_isSetOf_L1 (N:Nat):Nat→(List Int)→Int→(List Int)→Int→Int→Option (Sum Bool Int)
 | 0,_,_,_,_,_=>none
 | k+1,x164,x165,x168,x169,x170 =>
  (bif decide (x170<x169) then
  (ix x168 x170).bind fun x177 =>
  (sb x165 1).bind fun x184 =>
  (impl_within N x177 0 x184).bind fun r185 =>
  (bif r185 then
  (slc x164 0 x170).bind fun x189 =>
  (impl_hasInt N x189 x177).bind fun r192 =>
  (bif r192 then
  some (.inl false)
  else
  (ad x170 1).bind fun x197 =>
  impl_isSetOf_L1 N k x164 x165 x168 x169 x197)
  else
  some (.inl false))
  else
  some (.inr x170))
def impl_isSetOf (N:Nat) (a0:List Int) (a1:Int):Option Bool :=
  (impl_isSetOf_L1 N N a0 a1 a0 (a0.length:Int) 0).bind fun s201 =>
  lpS s201 (fun q=>some q) fun x199 =>
  some true
def impl_isLetters_L1 (N:Nat):Nat→ByteArray→Int→Option (Sum Bool Int)
 | 0,_,_=>none
 | k+1,x138,x139 =>
  (bif decide (x139<(x138.size:Int)) then
  (bx x138 x139).bind fun x146 =>
  (bif decide (x146<97) then
  some (.inl false)
  else
  (bx x138 x139).bind fun x149 =>
  (bif decide (122<x149) then
  some (.inl false)
  else
  (ad x139 1).bind fun x152 =>
  impl_isLetters_L1 N k x138 x152))
  else
  some (.inr x139))
def impl_isLetters (N:Nat) (a0:ByteArray) (a1:Int):Option Bool :=
  (bif decide ((a0.size:Int)<1) then
  some false
  else
  (bif decide (a1<(a0.size:Int)) then
  some false
  else
  (impl_isLetters_L1 N N a0 0).bind fun s155 =>
  lpS s155 (fun q=>some q) fun x153 =>
  some true))
def impl_IsValidName (N:Nat) (a0:ByteArray):Option Bool :=
  (impl_isLetters N a0 4).bind fun r103 =>
  some r103
def impl_IsValidQuery_L2 (N:Nat):Nat→Int→(List Bool)→(List (ByteArray × List Int))→Int→Int→(List Int)→Int→Int→Option (Sum Bool ((List Bool) × Int))
 | 0,_,_,_,_,_,_,_,_=>none
 | k+1,x359,x362,x365,x366,x367,x370,x371,x372 =>
  (bif decide (x372<x371) then
  (ix x370 x372).bind fun x379 =>
  (sb x359 1).bind fun x387 =>
  (impl_within N x379 0 x387).bind fun r388 =>
  (bif r388 then
  (ix x362 x379).bind fun x392 =>
  (sto x362 x379 true).bind fun x397 =>
  (ad x372 1).bind fun x398 =>
  impl_IsValidQuery_L2 N k x359 x397 x365 x366 x367 x370 x371 x398
  else
  some (.inl false))
  else
  some (.inr (x362,x372)))
def impl_IsValidQuery_L1 (N:Nat):Nat→Int→(List Bool)→(List (ByteArray × List Int))→Int→Int→Option (Sum Bool ((List Bool) × Int))
 | 0,_,_,_,_,_=>none
 | k+1,x317,x320,x323,x324,x325 =>
  (bif decide (x325<x324) then
  (ix x323 x325).bind fun x332 =>
  (impl_IsValidName N x332.1).bind fun r349 =>
  (bif r349 then
  (impl_within N (x332.2.length:Int) 1 5).bind fun r353 =>
  (bif r353 then
  (impl_IsValidQuery_L2 N N x317 x320 x323 x324 x325 x332.2 (x332.2.length:Int) 0).bind fun s405 =>
  lpS s405 (fun q=>some (.inl q)) fun (x402,x403) =>
  (ad x325 1).bind fun x404 =>
  impl_IsValidQuery_L1 N k x317 x402 x323 x324 x404
  else
  some (.inl false))
  else
  some (.inl false))
  else
  some (.inr (x320,x325)))
def impl_IsValidQuery_L3 (N:Nat):Nat→(List Bool)→Int→Int→Option (Sum Bool Int)
 | 0,_,_,_=>none
 | k+1,x446,x447,x448 =>
  (bif decide (x448<x447) then
  (ix x446 x448).bind fun x455 =>
  (bif x455 then
  (ad x448 1).bind fun x461 =>
  impl_IsValidQuery_L3 N k x446 x447 x461
  else
  some (.inl false))
  else
  some (.inr x448))
def impl_IsValidQuery (N:Nat) (a0:Int) (a1:List (ByteArray × List Int)) (a2:List Int):Option Bool :=
  (impl_within N a0 1 5).bind fun r109 =>
  (bif r109 then
  (impl_within N (a1.length:Int) 1 4).bind fun r113 =>
  (bif r113 then
  (impl_isSetOf N a2 a0).bind fun r117 =>
  (bif r117 then
  (mk 1 (false:Bool) a0).bind fun x125 =>
  (impl_IsValidQuery_L1 N N a0 x125 a1 (a1.length:Int) 0).bind fun s466 =>
  lpS s466 (fun q=>some q) fun (x410,x411) =>
  (impl_IsValidQuery_L3 N N x410 (x410.length:Int) 0).bind fun s465 =>
  lpS s465 (fun q=>some q) fun x463 =>
  some true
  else
  some false)
  else
  some false)
  else
  some false)
def impl_compareInts (N:Nat) (a0:Int) (a1:Int):Option Int :=
  (bif decide (a0<a1) then
  some (-1)
  else
  (bif decide (a1<a0) then
  some 1
  else
  some 0))
def impl_CompareRows_L1 (N:Nat):Nat→(List Int)→(List Int)→Int→Option (Sum Int Int)
 | 0,_,_,_=>none
 | k+1,x186,x189,x190 =>
  (bif decide (x190<(x186.length:Int)) then
  (bif decide (x190<(x189.length:Int)) then
  (ix x186 x190).bind fun x198 =>
  (ix x189 x190).bind fun x204 =>
  (bif (x198 != x204) then
  (ix x186 x190).bind fun x214 =>
  (ix x189 x190).bind fun x220 =>
  (impl_compareInts N x214 x220).bind fun r226 =>
  some (.inl r226)
  else
  (ad x190 1).bind fun x229 =>
  impl_CompareRows_L1 N k x186 x189 x229)
  else
  some (.inr x190))
  else
  some (.inr x190))
def impl_CompareRows (N:Nat) (a0:List Int) (a1:List Int):Option Int :=
  (impl_CompareRows_L1 N N a0 a1 0).bind fun s235 =>
  lpS s235 (fun q=>some q) fun x230 =>
  (impl_compareInts N (a0.length:Int) (a1.length:Int)).bind fun r232 =>
  some r232
def impl_AreValidValues_L1 (N:Nat):Nat→(List Int)→Int→Int→Option (Sum Bool Int)
 | 0,_,_,_=>none
 | k+1,x146,x147,x148 =>
  (bif decide (x148<x147) then
  (ix x146 x148).bind fun x155 =>
  (impl_within N x155 0 99).bind fun r162 =>
  (bif r162 then
  (ad x148 1).bind fun x166 =>
  impl_AreValidValues_L1 N k x146 x147 x166
  else
  some (.inl false))
  else
  some (.inr x148))
def impl_AreValidValues (N:Nat) (a0:List Int):Option Bool :=
  (impl_AreValidValues_L1 N N a0 (a0.length:Int) 0).bind fun s170 =>
  lpS s170 (fun q=>some q) fun x168 =>
  some true
def impl_rowsValid_L1 (N:Nat):Nat→Int→(List (List Int))→(List (List Int))→Int→Int→Option (Sum Bool Int)
 | 0,_,_,_,_,_=>none
 | k+1,x188,x191,x194,x195,x196 =>
  (bif decide (x196<x195) then
  (ix x194 x196).bind fun x203 =>
  (bif ((x203.length:Int) != x188) then
  some (.inl false)
  else
  (impl_AreValidValues N x203).bind fun r213 =>
  (bif r213 then
  (bif decide (0<x196) then
  (sb x196 1).bind fun x218 =>
  (ix x191 x218).bind fun x219 =>
  (impl_CompareRows N x219 x203).bind fun r226 =>
  (bif decide (0≤r226) then
  some (.inl false)
  else
  (ad x196 1).bind fun x231 =>
  impl_rowsValid_L1 N k x188 x191 x194 x195 x231)
  else
  (ad x196 1).bind fun x232 =>
  impl_rowsValid_L1 N k x188 x191 x194 x195 x232)
  else
  some (.inl false)))
  else
  some (.inr x196))
def impl_rowsValid (N:Nat) (a0:Int) (a1:List (List Int)):Option Bool :=
  (impl_within N a0 0 5).bind fun r104 =>
  (bif r104 then
  (bif decide (4000<(a1.length:Int)) then
  some false
  else
  (impl_rowsValid_L1 N N a0 a1 a1 (a1.length:Int) 0).bind fun s236 =>
  lpS s236 (fun q=>some q) fun x234 =>
  some true)
  else
  some false)
def impl_IsValidRelation (N:Nat) (a0:Int) (a1:List (List Int)):Option Bool :=
  (impl_rowsValid N a0 a1).bind fun r107 =>
  some r107
def impl_IsValidDatabase_L1 (N:Nat):Nat→(List (ByteArray × (Int × List (List Int))))→(List (ByteArray × (Int × List (List Int))))→Int→Int→Option (Sum Bool Int)
 | 0,_,_,_,_=>none
 | k+1,x266,x269,x270,x271 =>
  (bif decide (x271<x270) then
  (ix x269 x271).bind fun x278 =>
  (impl_IsValidName N x278.1).bind fun r296 =>
  (bif r296 then
  (bif decide (0<x271) then
  (sb x271 1).bind fun x299 =>
  (ix x266 x299).bind fun x300 =>
  (bif (ltS x300.1 x278.1) then
  (impl_IsValidRelation N x278.2.1 x278.2.2).bind fun r313 =>
  (bif r313 then
  (bif decide (x278.2.1<1) then
  some (.inl false)
  else
  (bif decide (16<(x278.2.2.length:Int)) then
  some (.inl false)
  else
  (ad x271 1).bind fun x323 =>
  impl_IsValidDatabase_L1 N k x266 x269 x270 x323))
  else
  some (.inl false))
  else
  some (.inl false))
  else
  (impl_IsValidRelation N x278.2.1 x278.2.2).bind fun r330 =>
  (bif r330 then
  (bif decide (x278.2.1<1) then
  some (.inl false)
  else
  (bif decide (16<(x278.2.2.length:Int)) then
  some (.inl false)
  else
  (ad x271 1).bind fun x340 =>
  impl_IsValidDatabase_L1 N k x266 x269 x270 x340))
  else
  some (.inl false)))
  else
  some (.inl false))
  else
  some (.inr x271))
def impl_IsValidDatabase (N:Nat) (a0:List (ByteArray × (Int × List (List Int)))):Option Bool :=
  (bif decide (6<(a0.length:Int)) then
  some false
  else
  (impl_IsValidDatabase_L1 N N a0 a0 (a0.length:Int) 0).bind fun s349 =>
  lpS s349 (fun q=>some q) fun x347 =>
  some true)
def impl_copyInts (N:Nat) (a0:List Int):Option (List Int) :=
  (apd 8 [] a0).bind fun x109 =>
  some x109
end Go.Proofs.Ytkpeabpdiffjhaa
