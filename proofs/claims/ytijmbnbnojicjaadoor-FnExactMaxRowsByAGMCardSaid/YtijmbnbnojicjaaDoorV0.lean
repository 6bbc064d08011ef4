/- A small separation logic over the model: how lists, rows and structs of Go read in memory ('Rep'), what a call owns ('Sat'), and the laws of the walk for them. Program-independent. -/
import Derived.WalkKit
import Derived.ProofKit
import Derived.WalkLawsBesides
import Derived.Outline
import Derived.Lib.Hide
import Derived.Deep.Quiet
import Derived.Deep.LoopGhost
import Derived.IntWalk
import Derived.Test.YtijmbnbnojicjaaDoorRows
import Derived.OpenShut
import Derived.Lib.SmallJoins
import Derived.Laws.BytesString
namespace Go.Proofs.YtijmbnbnojicjaaDoor
open Go.RowKit
abbrev Ext (w w':World):Prop:=Below w.heap.size w w'

theorem Ext.refl (w:World):Ext w w:=Below.refl _ _
theorem Ext.trans {a b c:World} (h:Ext a b) (k:Ext b c):Ext a c:=Below.trans h (k.mono h.size)
theorem Below.andExt {B:Nat} {a b c:World} (h:Below B a b) (hB:B≤b.heap.size) (k:Ext b c):Below B a c:=Below.trans h (k.mono hB)

structure Chg (fp:List Nat) (w w':World):Prop where
 os:w'.os=w.os
 tape:w'.tape=w.tape
 output:w'.output=w.output
 size:w.heap.size≤w'.heap.size
 block:∀ k,k<w.heap.size→k∉fp→w'.heap[k]? = w.heap[k]?

theorem Chg.of_ext {w w':World} (h:Ext w w') (fp:List Nat):Chg fp w w':=⟨h.os,h.tape,h.output,h.size,fun k hk _=>h.block k hk⟩
theorem Chg.trans {fp:List Nat} {a b c:World} (h:Chg fp a b) (k:Chg fp b c):Chg fp a c :=
 ⟨k.os.trans h.os,k.tape.trans h.tape,k.output.trans h.output,Nat.le_trans h.size k.size,fun i hi hn=>(k.block i (Nat.lt_of_lt_of_le hi h.size) hn).trans (h.block i hi hn)⟩
theorem Chg.mono {fp fp':List Nat} {a b:World} (h:Chg fp a b) (hs:∀ x∈fp,x∈fp'):Chg fp' a b :=
 ⟨h.os,h.tape,h.output,h.size,fun k hk hn=>h.block k hk (fun hm=>hn (hs k hm))⟩
theorem Chg.ext {a b:World} (h:Chg [] a b):Ext a b:=⟨h.os,h.tape,h.output,h.size,fun k hk=>h.block k hk (by simp)⟩
theorem Chg.refl (fp:List Nat) (w:World):Chg fp w w:=⟨rfl,rfl,rfl,Nat.le_refl _,fun _ _ _=>rfl⟩
theorem Chg.alloc (w:World) (o:Obj):Chg [] w (w.alloc o):=Chg.of_ext ((Below.refl _ _).alloc (Nat.le_refl _) o) _

theorem tt {B:Nat} {a b c:World} {fp:List Nat} (h:Below B a b) (hB:B≤b.heap.size) (k:Chg fp b c) (hf:∀ x∈fp,B≤x):Below B a c :=
  ⟨k.os.trans h.os,k.tape.trans h.tape,k.output.trans h.output,Nat.le_trans h.size k.size,
   fun i hi=>(k.block i (Nat.lt_of_lt_of_le hi hB) (fun hm=>by have:=hf i hm;omega)).trans (h.block i hi)⟩

structure Rep (α:Type) where
 sz:Nat
 rd:World→List Value→α→Prop
 own:World→List Value→α→List Nat→Prop
 rd_len:∀ {w cs x},rd w cs x→cs.length=sz
 rd_one:∀ {w cs x},rd w cs x→∀ c∈cs,c.oneCell'=true
 rd_ext:∀ {w w' cs x},rd w cs x→Ext w w'→rd w' cs x
 own_rd:∀ {w cs x fp},own w cs x fp→rd w cs x
 own_ext:∀ {w w' cs x fp},own w cs x fp→(∀ b∈fp,w'.heap[b]? = w.heap[b]?)→own w' cs x fp
 own_lt:∀ {w cs x fp},own w cs x fp→∀ b∈fp,b<w.heap.size

def bH:Rep Int where
 sz:=1
 rd _ cs n:=cs=[.int .i64 n]
 own _ cs n fp:=cs=[.int .i64 n]∧fp=[]
 rd_len h:=by subst h;rfl
 rd_one h:=by subst h;simp [Value.oneCell']
 rd_ext h _:=h
 own_rd h:=h.1
 own_ext h _:=h
 own_lt h:=by rw [h.2];simp

def jn:Rep ByteArray where
 sz:=1
 rd _ cs s:=cs=[.string s]∧s.size≤9223372036854775807
 own _ cs s fp:=(cs=[.string s]∧s.size≤9223372036854775807)∧fp=[]
 rd_len h:=by rw [h.1];rfl
 rd_one h:=by rw [h.1];simp [Value.oneCell']
 rd_ext h _:=h
 own_rd h:=h.1
 own_ext h _:=h
 own_lt h:=by rw [h.2];simp

def f7 {α β:Type} (R:Rep α) (S:Rep β):Rep (α × β) where
 sz:=R.sz+S.sz
 rd w cs x:=∃ c1 c2,cs=c1++c2∧R.rd w c1 x.1∧S.rd w c2 x.2
 own w cs x fp:=∃ c1 c2 f1 f2,cs=c1++c2∧fp=f1++f2∧R.own w c1 x.1 f1∧S.own w c2 x.2 f2
 rd_len h:=by obtain ⟨c1,c2,rfl,h1,h2⟩:=h;rw [List.length_append,R.rd_len h1,S.rd_len h2]
 rd_one h:=by
  obtain ⟨c1,c2,rfl,h1,h2⟩:=h
  intro c hc
  rcases List.mem_append.1 hc with h | h
  ·exact R.rd_one h1 c h
  ·exact S.rd_one h2 c h
 rd_ext h he:=by obtain ⟨c1,c2,rfl,h1,h2⟩:=h;exact ⟨c1,c2,rfl,R.rd_ext h1 he,S.rd_ext h2 he⟩
 own_rd h:=by obtain ⟨c1,c2,f1,f2,rfl,rfl,h1,h2⟩:=h;exact ⟨c1,c2,rfl,R.own_rd h1,S.own_rd h2⟩
 own_ext h he:=by
  obtain ⟨c1,c2,f1,f2,rfl,rfl,h1,h2⟩:=h
  exact ⟨c1,c2,f1,f2,rfl,rfl,R.own_ext h1 (fun b hb=>he b (List.mem_append_left _ hb)),S.own_ext h2 (fun b hb=>he b (List.mem_append_right _ hb))⟩
 own_lt h:=by
  obtain ⟨c1,c2,f1,f2,rfl,rfl,h1,h2⟩:=h
  intro b hb
  rcases List.mem_append.1 hb with h | h
  ·exact R.own_lt h1 b h
  ·exact S.own_lt h2 b h

def kQ (w:World) (ao:Option Addr) (ccs:List Value):Prop :=
 ccs=[]∨∃ b off,ao=some ⟨b,off,none⟩∧∀ j c,ccs[j]? = some c→w.cell? ⟨b,off+j,none⟩=some c

section
variable {α:Type} (R:Rep α)
def rdL (w:World):List Value→List α→Prop
 | ccs,[]=>ccs=[]
 | ccs,x :: xs=>∃ ec rest,ccs=ec++rest∧R.rd w ec x∧rdL w rest xs
def eZ (w:World):List Value→List α→List Nat→Prop
 | ccs,[],fp=>ccs=[]∧fp=[]
 | ccs,x :: xs,fp=>∃ ec rest f1 f2,ccs=ec++rest∧fp=f1++f2∧R.own w ec x f1∧eZ w rest xs f2
variable {R}
theorem i6 {w:World}:∀ {xs:List α} {ccs:List Value},rdL R w ccs xs→ccs.length=xs.length*R.sz
 | [],_,h=>by simp only [rdL] at h;subst h;simp
 | x :: xs,_,h=>by
  obtain ⟨ec,rest,rfl,h1,h2⟩:=h
  rw [List.length_append,R.rd_len h1,i6 h2,List.length_cons,Nat.add_mul,Nat.one_mul,Nat.add_comm]
theorem rE {w:World}:∀ {xs:List α} {ccs:List Value},rdL R w ccs xs→∀ c∈ccs,c.oneCell'=true
 | [],_,h=>by simp only [rdL] at h;subst h;simp
 | x :: xs,_,h=>by
  obtain ⟨ec,rest,rfl,h1,h2⟩:=h
  intro c hc
  rcases List.mem_append.1 hc with h | h
  ·exact R.rd_one h1 c h
  ·exact rE h2 c h
theorem rC {w w':World} (he:Ext w w'):∀ {xs:List α} {ccs:List Value},rdL R w ccs xs→rdL R w' ccs xs
 | [],_,h=>h
 | x :: xs,_,h=>by
  obtain ⟨ec,rest,rfl,h1,h2⟩:=h
  exact ⟨ec,rest,rfl,R.rd_ext h1 he,rC he h2⟩
theorem hG {w:World}:∀ {xs:List α} {ccs:List Value} {fp:List Nat},eZ R w ccs xs fp→rdL R w ccs xs
 | [],_,_,h=>h.1
 | x :: xs,_,_,h=>by
  obtain ⟨ec,rest,f1,f2,rfl,rfl,h1,h2⟩:=h
  exact ⟨ec,rest,rfl,R.own_rd h1,hG h2⟩
theorem gb {w w':World}:∀ {xs:List α} {ccs:List Value} {fp:List Nat},eZ R w ccs xs fp→(∀ b∈fp,w'.heap[b]? = w.heap[b]?)→eZ R w' ccs xs fp
 | [],_,_,h,_=>h
 | x :: xs,_,_,h,he=>by
  obtain ⟨ec,rest,f1,f2,rfl,rfl,h1,h2⟩:=h
  exact ⟨ec,rest,f1,f2,rfl,rfl,R.own_ext h1 (fun b hb=>he b (List.mem_append_left _ hb)),gb h2 (fun b hb=>he b (List.mem_append_right _ hb))⟩
theorem gO {w:World}:∀ {xs:List α} {ccs:List Value} {fp:List Nat},eZ R w ccs xs fp→∀ b∈fp,b<w.heap.size
 | [],_,_,h=>by rw [h.2];simp
 | x :: xs,_,_,h=>by
  obtain ⟨ec,rest,f1,f2,rfl,rfl,h1,h2⟩:=h
  intro b hb
  rcases List.mem_append.1 hb with h | h
  ·exact R.own_lt h1 b h
  ·exact gO h2 b h
theorem kY {w:World} {ys:List α} {ccs':List Value} {fp':List Nat} (h':eZ R w ccs' ys fp') :
  ∀ {xs:List α} {ccs:List Value} {fp:List Nat},eZ R w ccs xs fp→eZ R w (ccs++ccs') (xs++ys) (fp++fp')
 | [],_,_,h=>by obtain ⟨rfl,rfl⟩:=h;simpa using h'
 | x :: xs,_,_,h=>by
  obtain ⟨ec,rest,f1,f2,rfl,rfl,h1,h2⟩:=h
  exact ⟨ec,rest++ccs',f1,f2++fp',by simp,by simp,h1,kY h' h2⟩
theorem oK {w:World} {ys:List α} {ccs':List Value} (h':rdL R w ccs' ys) :
  ∀ {xs:List α} {ccs:List Value},rdL R w ccs xs→rdL R w (ccs++ccs') (xs++ys)
 | [],_,h=>by simp only [rdL] at h;subst h;simpa using h'
 | x :: xs,_,h=>by
  obtain ⟨ec,rest,rfl,h1,h2⟩:=h
  exact ⟨ec,rest++ccs',by simp,h1,oK h' h2⟩
theorem lx {w:World}:∀ {xs:List α} {ccs:List Value},rdL R w ccs xs→∀ (i:Nat) (h:i<xs.length),
  ∃ ec,R.rd w ec xs[i]∧∀ j c,ec[j]? = some c→ccs[i*R.sz+j]? = some c
 | [],_,_,i,h=>absurd h (by simp)
 | x :: xs,_,hr,i,h=>by
  obtain ⟨ec,rest,rfl,h1,h2⟩:=hr
  cases i with
  | zero =>
   refine ⟨ec,h1,fun j c hj=>?_⟩
   have hlt:j<ec.length:=(List.getElem?_eq_some_iff.1 hj).1
   rw [Nat.zero_mul,Nat.zero_add,List.getElem?_append_left hlt]
   exact hj
  | succ i =>
   obtain ⟨ec',h3,h4⟩:=lx h2 i (by simpa using h)
   refine ⟨ec',by simpa using h3,fun j c hj=>?_⟩
   have e:(i+1)*R.sz+j=ec.length+(i*R.sz+j):=by rw [R.rd_len h1,Nat.add_mul];omega
   rw [e,List.getElem?_append_right (by omega),Nat.add_sub_cancel_left]
   exact h4 j c hj
theorem j4 {w:World}:∀ (k:Nat) {xs:List α} {ccs:List Value},rdL R w ccs xs→rdL R w (ccs.take (k*R.sz)) (xs.take k)∧rdL R w (ccs.drop (k*R.sz)) (xs.drop k)
 | 0,xs,ccs,h=>by simp [rdL];simpa using h
 | k+1,[],ccs,h=>by simp only [rdL] at h;subst h;simp [rdL]
 | k+1,x :: xs,ccs,h=>by
  obtain ⟨ec,rest,rfl,h1,h2⟩:=h
  obtain ⟨i1,i2⟩:=j4 k h2
  have e:(k+1)*R.sz=ec.length+k*R.sz:=by rw [R.rd_len h1,Nat.add_mul];omega
  constructor
  ·refine ⟨ec,rest.take (k*R.sz),?_,h1,i1⟩
   rw [e,List.take_append,List.take_of_length_le (by omega),Nat.add_sub_cancel_left]
  ·rw [e,List.drop_append,List.drop_of_length_le (by omega),Nat.add_sub_cancel_left]
   simpa using i2
end

def aD {α:Type} (R:Rep α) (E:TypeId):Rep (List α) where
 sz:=1
 rd w cs xs:=∃ ao cap ccs,cs=[.slice ao xs.length cap]∧xs.length≤cap∧cap≤maxLen∧(ao=none→cap=0)∧rdL R w ccs xs∧kQ w ao ccs
 own w cs xs fp:=(cs=[.slice none 0 0]∧xs=[]∧fp=[]) ∨
  ∃ g cap cur ccs f2,cs=[.slice (some ⟨g,0,none⟩) xs.length cap]∧w.heap[g]? = some (.cells cur E (0,0))∧xs.length≤cap∧cap≤maxLen∧cur.size=cap*R.sz ∧
   cur.toList.take (xs.length*R.sz)=ccs∧eZ R w ccs xs f2∧fp=g :: f2
 rd_len h:=by obtain ⟨_,_,_,rfl,_⟩:=h;rfl
 rd_one h:=by obtain ⟨_,_,_,rfl,_⟩:=h;simp [Value.oneCell']
 rd_ext h he:=by
  obtain ⟨ao,cap,ccs,rfl,h1,h2,h3,h4,h5⟩:=h
  refine ⟨ao,cap,ccs,rfl,h1,h2,h3,rC he h4,?_⟩
  rcases h5 with h5 | ⟨b,off,rfl,h5⟩
  ·exact .inl h5
  ·exact .inr ⟨b,off,rfl,fun j c hj=>by have:=h5 j c hj;rw [he.cell (block_lt_of_cell this)];exact this⟩
 own_rd h:=by
  rcases h with ⟨rfl,rfl,rfl⟩ | ⟨g,cap,cur,ccs,f2,rfl,hg,h1,h2,h3,h4,h5,rfl⟩
  ·exact ⟨none,0,[],rfl,Nat.le_refl _,Nat.zero_le _,fun _=>rfl,rfl,.inl rfl⟩
  ·refine ⟨_,cap,ccs,rfl,h1,h2,by simp,hG h5,.inr ⟨g,0,rfl,fun j c hj=>?_⟩⟩
   rw [Nat.zero_add,cell_of_row _ g j cur E (0,0) hg,← Array.getElem?_toList]
   rw [← h4,List.getElem?_take] at hj
   split at hj
   ·exact hj
   ·cases hj
 own_ext h he:=by
  rcases h with h | ⟨g,cap,cur,ccs,f2,rfl,hg,h1,h2,h3,h4,h5,rfl⟩
  ·exact .inl h
  ·exact .inr ⟨g,cap,cur,ccs,f2,rfl,by rw [he g (by simp)];exact hg,h1,h2,h3,h4,gb h5 (fun b hb=>he b (by simp [hb])),rfl⟩
 own_lt h:=by
  rcases h with ⟨_,_,rfl⟩ | ⟨g,cap,cur,ccs,f2,rfl,hg,h1,h2,h3,h4,h5,rfl⟩
  ·simp
  ·intro b hb
   rcases List.mem_cons.1 hb with rfl | hb
   ·exact (Array.getElem?_eq_some_iff.1 hg).1
   ·exact gO h5 b hb

structure Asn where
 holds:World→List Nat→Prop
 ext:∀ {w w' fp},holds w fp→(∀ b∈fp,w'.heap[b]? = w.heap[b]?)→holds w' fp
 lt:∀ {w fp},holds w fp→∀ b∈fp,b<w.heap.size

def Own {α:Type} (R:Rep α) (cs:List Value) (x:α):Asn:=⟨fun w fp=>R.own w cs x fp,R.own_ext,R.own_lt⟩
def Box (b:Nat) (E:TypeId) (cs:List Value):Asn where
 holds w fp:=fp=[b]∧w.heap[b]? = some (.cells cs.toArray E (0,0))
 ext h he:=by obtain ⟨rfl,h⟩:=h;exact ⟨rfl,by rw [he b (by simp)];exact h⟩
 lt h:=by obtain ⟨rfl,h⟩:=h;intro b' hb;simp at hb;subst hb;exact (Array.getElem?_eq_some_iff.1 h).1

def hQ (w:World):List Asn→List Nat→Prop
 | [],fp=>fp=[]
 | A :: Γ,fp=>∃ f1 f2,fp=f1++f2∧A.holds w f1∧hQ w Γ f2

structure Sat (w0 w:World) (Γ:List Asn):Prop where
 below:Below w0.heap.size w0 w
 sat:∃ fp,hQ w Γ fp∧fp.Nodup∧∀ b∈fp,w0.heap.size≤b

theorem hQ.ext {w w':World}:∀ {Γ:List Asn} {fp:List Nat},hQ w Γ fp→(∀ b∈fp,w'.heap[b]? = w.heap[b]?)→hQ w' Γ fp
 | [],_,h,_=>h
 | A :: Γ,_,h,he=>by
  obtain ⟨f1,f2,rfl,h1,h2⟩:=h
  exact ⟨f1,f2,rfl,A.ext h1 (fun b hb=>he b (List.mem_append_left _ hb)),hQ.ext h2 (fun b hb=>he b (List.mem_append_right _ hb))⟩
theorem hQ.lt {w:World}:∀ {Γ:List Asn} {fp:List Nat},hQ w Γ fp→∀ b∈fp,b<w.heap.size
 | [],_,h=>by simp only [hQ] at h;subst h;simp
 | A :: Γ,_,h=>by
  obtain ⟨f1,f2,rfl,h1,h2⟩:=h
  intro b hb
  rcases List.mem_append.1 hb with h | h
  ·exact A.lt h1 b h
  ·exact hQ.lt h2 b h
theorem hQ.append {w:World} {Δ:List Asn} {g:List Nat} (k:hQ w Δ g):∀ {Γ:List Asn} {fp:List Nat},hQ w Γ fp→hQ w (Γ++Δ) (fp++g)
 | [],_,h=>by simp only [hQ] at h;subst h;simpa using k
 | A :: Γ,_,h=>by
  obtain ⟨f1,f2,rfl,h1,h2⟩:=h
  exact ⟨f1,f2++g,by simp,h1,hQ.append k h2⟩
theorem hQ.perm {w:World} {Γ Δ:List Asn} (hp:Γ.Perm Δ):∀ {fp:List Nat},hQ w Γ fp→∃ fp',fp.Perm fp'∧hQ w Δ fp':=by
 induction hp with
 | nil=>intro fp h;exact ⟨fp,.refl _,h⟩
 | cons A _ ih =>
  rintro _ ⟨f1,f2,rfl,h1,h2⟩
  obtain ⟨f2',p,h2'⟩:=ih h2
  exact ⟨f1++f2',List.Perm.append_left _ p,f1,f2',rfl,h1,h2'⟩
 | swap A B Γ =>
  rintro _ ⟨f1,_,rfl,h1,f2,f3,rfl,h2,h3⟩
  refine ⟨f2++(f1++f3),?_,f2,f1++f3,rfl,h2,f1,f3,rfl,h1,h3⟩
  rw [← List.append_assoc,← List.append_assoc]
  exact List.Perm.append_right _ List.perm_append_comm
 | trans _ _ ih1 ih2 =>
  intro fp h
  obtain ⟨f1,p1,h1⟩:=ih1 h
  obtain ⟨f2,p2,h2⟩:=ih2 h1
  exact ⟨f2,p1.trans p2,h2⟩

theorem Sat.start (w:World):Sat w w []:=⟨Below.refl _ _,[],rfl,by simp,by simp⟩
theorem Sat.le {w0 w:World} {Γ:List Asn} (h:Sat w0 w Γ):w0.heap.size≤w.heap.size:=h.below.size
theorem Sat.ext {w0 w w':World} {Γ:List Asn} (h:Sat w0 w Γ) (he:Ext w w'):Sat w0 w' Γ:=by
 obtain ⟨hb,fp,h1,h2,h3⟩:=h
 exact ⟨Below.andExt hb hb.size he,fp,h1.ext (fun b hb'=>he.block b (h1.lt b hb')),h2,h3⟩
theorem Sat.call {w0 w w':World} {Γ Δ:List Asn} (h:Sat w0 w Γ) (k:Sat w w' Δ):Sat w0 w' (Δ++Γ):=by
 obtain ⟨hb,fp,h1,h2,h3⟩:=h
 obtain ⟨kb,fk,k1,k2,k3⟩:=k
 refine ⟨Below.andExt hb hb.size kb,fk++fp,hQ.append (h1.ext (fun b hb'=>kb.block b (h1.lt b hb'))) k1,?_,?_⟩
 ·rw [List.nodup_append]
  exact ⟨k2,h2,fun a ha b hb' e=>by have:=k3 a ha;have:=h1.lt b hb';omega⟩
 ·intro b hb'
  rcases List.mem_append.1 hb' with h | h
  ·have:=k3 b h;have:=hb.size;omega
  ·exact h3 b h
theorem Sat.call1 {w0 w w':World} {Γ:List Asn} {A:Asn} (h:Sat w0 w Γ) (k:Sat w w' [A]):Sat w0 w' (A :: Γ):=h.call k
theorem Sat.call2 {w0 w w':World} {Γ:List Asn} {A B:Asn} (h:Sat w0 w Γ) (k:Sat w w' [A,B]):Sat w0 w' (A :: B :: Γ):=h.call k
theorem Sat.call3 {w0 w w':World} {Γ:List Asn} {A B C:Asn} (h:Sat w0 w Γ) (k:Sat w w' [A,B,C]):Sat w0 w' (A :: B :: C :: Γ):=h.call k
theorem Sat.perm {w0 w:World} {Γ Δ:List Asn} (h:Sat w0 w Γ) (hp:Γ.Perm Δ):Sat w0 w Δ:=by
 obtain ⟨hb,fp,h1,h2,h3⟩:=h
 obtain ⟨fp',p,h1'⟩:=hQ.perm hp h1
 exact ⟨hb,fp',h1',p.nodup_iff.1 h2,fun b hb'=>h3 b (p.mem_iff.2 hb')⟩
theorem Sat.tail {w0 w:World} {A:Asn} {Γ:List Asn} (h:Sat w0 w (A :: Γ)):Sat w0 w Γ:=by
 obtain ⟨hb,_,⟨f1,f2,rfl,_,h2⟩,hn,h3⟩:=h
 exact ⟨hb,f2,h2,(List.nodup_append.1 hn).2.1,fun b hb'=>h3 b (List.mem_append_right _ hb')⟩
theorem Sat.head {w0 w:World} {A:Asn} {Γ:List Asn} (h:Sat w0 w (A :: Γ)):∃ fp,A.holds w fp∧fp.Nodup∧∀ b∈fp,w0.heap.size≤b:=by
 obtain ⟨_,_,⟨f1,f2,rfl,h1,_⟩,hn,h3⟩:=h
 exact ⟨f1,h1,(List.nodup_append.1 hn).1,fun b hb'=>h3 b (List.mem_append_left _ hb')⟩
theorem Sat.take {w0 w:World} {Γ:List Asn} (h:Sat w0 w Γ) (Δ Θ:List Asn) (hp:Γ.Perm (Δ++Θ)):Sat w0 w Δ:=by
 have h':=h.perm (hp.trans List.perm_append_comm)
 clear h hp
 induction Θ with
 | nil=>simpa using h'
 | cons A Θ ih=>exact ih h'.tail
theorem Sat.upd {w0 w w':World} {A B:Asn} {Γ:List Asn} (h:Sat w0 w (A :: Γ))
  (k:∀ fp,A.holds w fp→fp.Nodup→∃ fp',B.holds w' fp'∧fp'.Nodup∧Chg fp w w'∧∀ b∈fp',b∈fp∨w.heap.size≤b):Sat w0 w' (B :: Γ):=by
 obtain ⟨hb,_,⟨f1,f2,rfl,h1,h2⟩,hn,h3⟩:=h
 obtain ⟨n1,n2,n3⟩:=List.nodup_append.1 hn
 obtain ⟨f1',k1,k2,k3,k4⟩:=k f1 h1 n1
 refine ⟨tt hb hb.size k3 (fun x hx=>h3 x (List.mem_append_left _ hx)),f1'++f2,⟨f1',f2,rfl,k1,h2.ext (fun b hb'=>k3.block b (h2.lt b hb') (fun hm=>n3 b hm b hb' rfl))⟩,?_,?_⟩
 ·rw [List.nodup_append]
  refine ⟨k2,n2,fun a ha b hb' e=>?_⟩
  subst e
  rcases k4 a ha with h | h
  ·exact n3 a h a hb' rfl
  ·have:=h2.lt a hb';omega
 ·intro b hb'
  rcases List.mem_append.1 hb' with h | h
  ·rcases k4 b h with h | h
   ·exact h3 b (List.mem_append_left _ h)
   ·have:=hb.size;omega
  ·exact h3 b (List.mem_append_right _ h)
theorem Sat.join {w0 w:World} {A B C:Asn} {Γ:List Asn} (h:Sat w0 w (A :: B :: Γ)) (k:∀ f g,A.holds w f→B.holds w g→C.holds w (f++g)):Sat w0 w (C :: Γ):=by
 obtain ⟨hb,_,⟨f1,_,rfl,h1,f2,f3,rfl,h2,h4⟩,hn,h3⟩:=h
 exact ⟨hb,(f1++f2)++f3,⟨f1++f2,f3,rfl,k _ _ h1 h2,h4⟩,by simpa using hn,by simpa using h3⟩
theorem Sat.conv {w0 w:World} {A B:Asn} {Γ:List Asn} (h:Sat w0 w (A :: Γ)) (k:∀ f,A.holds w f→B.holds w f):Sat w0 w (B :: Γ):=by
 obtain ⟨hb,_,⟨f1,f2,rfl,h1,h2⟩,hn,h3⟩:=h
 exact ⟨hb,_,⟨f1,f2,rfl,k _ h1,h2⟩,hn,h3⟩
theorem Sat.add {w0 w:World} {A:Asn} {Γ:List Asn} (h:Sat w0 w Γ) (k:A.holds w []):Sat w0 w (A :: Γ):=by
 obtain ⟨hb,fp,h1,h2,h3⟩:=h
 exact ⟨hb,fp,⟨[],fp,rfl,k,h1⟩,h2,h3⟩
theorem Sat.box {w0 w:World} {Γ:List Asn} (h:Sat w0 w Γ) (E:TypeId) (cs:List Value):Sat w0 (w.alloc (.cells cs.toArray E)) (Box w.heap.size E cs :: Γ):=by
 have k:Sat w (w.alloc (.cells cs.toArray E)) [Box w.heap.size E cs] :=
  ⟨(Below.refl _ _).alloc (Nat.le_refl _) _,[w.heap.size],⟨[w.heap.size],[],by simp,⟨rfl,heap_alloc_new w _⟩,rfl⟩,by simp,by simp⟩
 simpa using h.call k
theorem jt (w:World) (o:Obj):Ext w (w.alloc o):=(Below.refl _ _).alloc (Nat.le_refl _) _
theorem Sat.rd {α:Type} {R:Rep α} {w0 w:World} {cs:List Value} {x:α} {Γ:List Asn} (h:Sat w0 w (Own R cs x :: Γ)):R.rd w cs x:=by
 obtain ⟨fp,h,_⟩:=h.head
 exact R.own_rd h

class AtBox (Γ:List Asn) (b:Nat) (E:outParam TypeId) (cs:outParam (List Value)) (rest:outParam (List Asn)):Prop where
 perm:Γ.Perm (Box b E cs :: rest)
instance (Γ:List Asn) (b:Nat) (E:TypeId) (cs:List Value):AtBox (Box b E cs :: Γ) b E cs Γ:=⟨.refl _⟩
instance (A:Asn) (Γ:List Asn) (b:Nat) (E:TypeId) (cs:List Value) (rest:List Asn) [h:AtBox Γ b E cs rest]:AtBox (A :: Γ) b E cs (A :: rest) :=
 ⟨(List.Perm.cons A h.perm).trans (.swap _ _ _)⟩
class AtOwn (Γ:List Asn) (v:Value) (α:outParam Type) (R:outParam (Rep α)) (x:outParam α) (rest:outParam (List Asn)):Prop where
 perm:Γ.Perm (Own R [v] x :: rest)
instance {α:Type} (Γ:List Asn) (v:Value) (R:Rep α) (x:α):AtOwn (Own R [v] x :: Γ) v α R x Γ:=⟨.refl _⟩
instance {α:Type} (A:Asn) (Γ:List Asn) (v:Value) (R:Rep α) (x:α) (rest:List Asn) [h:AtOwn Γ v α R x rest]:AtOwn (A :: Γ) v α R x (A :: rest) :=
 ⟨(List.Perm.cons A h.perm).trans (.swap _ _ _)⟩
theorem Sat.own {α:Type} {R:Rep α} {w0 w:World} {v:Value} {x:α} {Γ rest:List Asn} (h:Sat w0 w Γ) [k:AtOwn Γ v α R x rest]:Sat w0 w (Own R [v] x :: rest):=h.perm k.perm
theorem Sat.read {α:Type} {R:Rep α} {w0 w:World} {v:Value} {x:α} {Γ rest:List Asn} (h:Sat w0 w Γ) [AtOwn Γ v α R x rest]:R.rd w [v] x:=h.own.rd

theorem Sat.keep {w0 w:World} {Γ:List Asn} (n:Nat) (h:Sat w0 w Γ):Sat w0 w (Γ.take n):=h.take (Γ.take n) (Γ.drop n) (by rw [List.take_append_drop])
theorem uY {w:World} {c:Value} {n:Int} (h:bH.rd w [c] n):c=.int .i64 n:=by simpa [bH] using h
theorem kg {α β:Type} {R:Rep α} {S:Rep β} {w:World} {cs:List Value} {x:α × β} (h:(f7 R S).rd w cs x):R.rd w (cs.take R.sz) x.1∧S.rd w (cs.drop R.sz) x.2:=by
 obtain ⟨c1,c2,rfl,h1,h2⟩:=h
 have hl:=R.rd_len h1
 rw [← hl,List.take_left' rfl,List.drop_left' rfl]
 exact ⟨h1,h2⟩

class PlainT (P:Program) (t:TypeId):Prop where
 h:∃ d,P.underlying t=some d∧(match d with | .struct _ | .array _ _=>False | _=>True)
class AggT (P:Program) (t:TypeId) (n:outParam Nat):Prop where
 h:∃ d,P.underlying t=some d∧(match d with | .struct _ | .array _ _=>True | _=>False)
 size:(P.info? t).map (·.size)=some n
class SliceT (P:Program) (t:TypeId) (e:outParam TypeId):Prop where
 h:P.underlying t=some (.slice e)
class ElemT (P:Program) (t:TypeId) (z:outParam (List Value)) (n bytes:outParam Nat):Prop where
 h:(P.info? t).map (fun i=>(i.zero.map fun v=>v.cells.toList,i.size,i.bytes))=some (some z,n,bytes)

section laws
variable {P:Program} {ops:Array Oper} {rest:List Oper} {o:Oper} {a:Act} {Q:Exit→Act→World→Prop} {w w0:World} {Γ rΓ:List Asn}

theorem vx (hg:o.guard=none) {t:TypeId} {x:Operand} (ho:o.op=.box t x) (cs:List Value) (hx:(a.eval x).cells=cs.toArray) (hS:Sat w0 w Γ)
  (hK:∀ w' b,Sat w0 w' (Box b t cs :: Γ)→Ext w w'→wpList P ops Q rest (a.put o.dst (.pointer (some ⟨b,0,none⟩))) w'):wpList P ops Q (o :: rest) a w:=by
 refine wpList_plain hg fun K hK'=>?_
 unfold Oper.wp execOp
 simp only [ho,Instr.box,newVar,newRow,hx,Sem.run_bind,Sem.run_pure,run_newObj,Result.andThen_ok,Oper.upon_value]
 exact hK' _ _ (hK _ _ (hS.box t cs) (jt _ _))

theorem tU (hg:o.guard=none) {t:TypeId} (ho:o.op=.alloc t) {cs:List Value} {n bytes:Nat} [hz:ElemT P t cs n bytes] (hS:Sat w0 w Γ)
  (hK:∀ w' b,Sat w0 w' (Box b t cs :: Γ)→Ext w w'→wpList P ops Q rest (a.put o.dst (.pointer (some ⟨b,0,none⟩))) w'):wpList P ops Q (o :: rest) a w:=by
 refine wpList_plain hg fun K hK'=>?_
 have hz:=hz.h
 cases hi:P.info? t with
 | none=>simp [hi] at hz
 | some i =>
  cases hzz:i.zero with
  | none=>simp [hi,hzz] at hz
  | some z =>
   simp [hi,hzz] at hz
   have hzc:z.cells=cs.toArray:=by rw [← hz.1]
   unfold Oper.wp execOp
   simp only [ho,Instr.alloc,zeroValue,typeInfo,hi,hzz,newVar,newRow,hzc,Sem.run_bind,Sem.run_pure,run_newObj,run_program,Result.andThen_ok,Oper.upon_value]
   exact hK' _ _ (hK _ _ (hS.box t cs) (jt _ _))

theorem mX {t:TypeId} [hT:PlainT P t] {ad:Addr} {c:Value} (hc:w.cell? ad=some c):(loadVar t ad).run P w=.ok c w:=by
 obtain ⟨d,hd,hk⟩:=hT.h
 have hagg:(isAgg t).run P w=.ok false w:=by
  unfold isAgg
  rw [Sem.run_bind,run_underlying hd w]
  cases d <;> simp_all
 simp [loadVar,Sem.run_bind,hagg,hc]

theorem jC {t:TypeId} {n:Nat} [hT:AggT P t n] {b off:Nat} {cs:List Value} (hn:cs.length=n) (hc:∀ j c,cs[j]? = some c→w.cell? ⟨b,off+j,none⟩=some c) :
  (loadVar t ⟨b,off,none⟩).run P w=.ok (.agg cs.toArray) w:=by
 obtain ⟨d,hd,hk⟩:=hT.h
 have hagg:(isAgg t).run P w=.ok true w:=by
  unfold isAgg
  rw [Sem.run_bind,run_underlying hd w]
  cases d <;> simp_all
 have hs:=hT.size
 cases hi:P.info? t with
 | none=>simp [hi] at hs
 | some i =>
  simp [hi] at hs
  have hl:=run_loadCells_list (P:=P) w ⟨b,off,none⟩ cs (fun j c hj=>by rw [Addr.add_lit];exact hc j c hj)
  rw [hn,← hs] at hl
  simp [loadVar,Sem.run_bind,hagg,sizeOf,typeInfo,hi,hl]

theorem Sat.boxCell {b:Nat} {E:TypeId} {cs:List Value} (hS:Sat w0 w Γ) [k:AtBox Γ b E cs rΓ]:∀ j c,cs[j]? = some c→w.cell? ⟨b,j,none⟩=some c:=by
 obtain ⟨fp,⟨_,hh⟩,_⟩:=(hS.perm k.perm).head
 intro j c hj
 rw [cell_of_row w b j _ E (0,0) hh]
 simpa using hj

theorem gZ {b:Nat} {E:TypeId}:∀ (vs:List Value) (off i:Nat) (cur:List Value) (w:World),w.heap[b]? = some (.cells cur.toArray E (0,0))→off+i+vs.length≤cur.length→(∀ v∈vs,v.oneCell'=true) →
  ∃ w',(storeCells ⟨b,off,none⟩ vs i).run P w=.ok () w'∧w'.heap[b]? = some (.cells (cur.take (off+i)++vs++cur.drop (off+i+vs.length)).toArray E (0,0))∧Chg [b] w w'
 | [],off,i,cur,w,hb,_,_=>by
  refine ⟨w,rfl,?_,Chg.refl _ _⟩
  rw [hb];simp
 | v :: vs,off,i,cur,w,hb,hl,h1=>by
  simp only [List.length_cons] at hl
  have hi:off+i<cur.length:=by omega
  have hcell:w.cell? ⟨b,off+i,none⟩=some cur[off+i]:=by rw [cell_of_row w b _ _ E (0,0) hb];simp [hi]
  have hfro:w.frozen? ⟨b,off+i,none⟩=false:=frozen_of_row w b _ _ E hb
  have hst:(store ((⟨b,off,none⟩:Addr).add i) v).run P w=.ok () (w.setCell ⟨b,off+i,none⟩ v):=by
   rw [Addr.add_lit,run_store P w _ v _ (h1 v (by simp)),hcell]
   simp [hfro]
  have hb':(w.setCell ⟨b,off+i,none⟩ v).heap[b]? = some (.cells ((cur.set (off+i) v).toArray) E (0,0)):=by
   rw [heap_setCell_same w b (off+i) _ E v hb];simp
  obtain ⟨w',h2,h3,h4⟩:=gZ vs off (i+1) (cur.set (off+i) v) _ hb' (by simp;omega) (fun x hx=>h1 x (by simp [hx]))
  refine ⟨w',?_,?_,?_⟩
  ·simp only [storeCells,Sem.run_bind,hst,Result.andThen_ok];exact h2
  ·rw [h3]
   congr 3
   have e1:(cur.set (off+i) v).take (off+(i+1))=cur.take (off+i)++[v]:=by
    rw [show off+(i+1)=(off+i)+1 by omega,List.take_set,List.take_succ_eq_append_getElem hi,List.set_append_right _ _ (by simp;omega)]
    simp [show min (off+i) cur.length=off+i by omega]
   have e2:(cur.set (off+i) v).drop (off+(i+1)+vs.length)=cur.drop (off+i+(v :: vs).length):=by
    rw [List.drop_set_of_lt (by omega)]
    congr 1
    simp only [List.length_cons];omega
   rw [e1,e2];simp
  ·exact Chg.trans (show Chg [b] w (w.setCell ⟨b,off+i,none⟩ v) from ⟨rfl,rfl,rfl,by simp,fun k _ hk=>Below.heap_setCell _ _ _ _ (by simpa using hk)⟩) h4

theorem sa {t:TypeId} {x y:Operand} (hg:o.guard=none) (ho:o.op=.store t x y) {z:List Value} {n bytes:Nat} [hz:ElemT P t z n bytes] (hS:Sat w0 w Γ) {b j:Nat} (hx:a.eval x=.pointer (some ⟨b,j,none⟩))
  {E:TypeId} {cs:List Value} [k:AtBox Γ b E cs rΓ] (vs:List Value) (hy:(a.eval y).cells=vs.toArray) (hn:vs.length=n) (hl:j+n≤cs.length) (h1:vs.all (·.oneCell')=true)
  (hK:∀ w',Sat w0 w' (Box b E (cs.take j++vs++cs.drop (j+n)) :: rΓ)→wpList P ops Q rest (a.put o.dst undef) w'):wpList P ops Q (o :: rest) a w:=by
 refine wpList_plain hg fun K hK'=>?_
 have hz:=hz.h
 cases hi:P.info? t with
 | none=>simp [hi] at hz
 | some i =>
  simp [hi] at hz
  obtain ⟨fp,⟨_,hh⟩,_⟩:=(hS.perm k.perm).head
  obtain ⟨w',hr,hh',hc⟩:=gZ (P:=P) vs j 0 cs w hh (by omega) (by simpa using h1)
  have hsz:¬ (vs.toArray.size≠i.size):=by simp;omega
  unfold Oper.wp execOp
  simp only [ho,hx,Instr.storeAt,Instr.sureAddr,storeVar,sizeOf,typeInfo,hi,hy,Sem.run_bind,Sem.run_pure,run_program,Result.andThen_ok,hsz,if_false,Sem.run_ite,List.toList_toArray,hr,Oper.upon_skip]
  refine hK' _ _ (hK w' ?_)
  refine Sat.upd (hS.perm k.perm) fun fp hfp hnd=>?_
  obtain ⟨rfl,_⟩:=hfp
  refine ⟨[b],⟨rfl,?_⟩,by simp,hc,fun x hx=>.inl hx⟩
  rw [hh']
  simp [hn]
theorem sE {v:Value} (h:v.oneCell'=true):v.cells=[v].toArray:=by cases v <;> first | rfl | simp [Value.oneCell'] at h
end laws

section laws2
variable {P:Program} {ops:Array Oper} {rest:List Oper} {o:Oper} {a:Act} {Q:Exit→Act→World→Prop} {w w0 wA:World} {Γ rΓ:List Asn} {α:Type} {R:Rep α} {E:TypeId}

theorem qB {w:World} {v:Value} {xs:List α} (h:(aD R E).rd w [v] xs):∃ ao cap,v=.slice ao xs.length cap:=by
 obtain ⟨ao,cap,ccs,hv,_⟩:=h
 exact ⟨ao,cap,by simpa using hv⟩

def my (R:Rep α) (ccs:List Value) (ys:List α):Asn:=⟨fun w fp=>eZ R w ccs ys fp,fun h he=>gb h he,fun h=>gO h⟩
def va (A B:Asn):Asn where
 holds w fp:=∃ f g,fp=f++g∧A.holds w f∧B.holds w g
 ext h he:=by
  obtain ⟨f,g,rfl,h1,h2⟩:=h
  exact ⟨f,g,rfl,A.ext h1 (fun b hb=>he b (List.mem_append_left _ hb)),B.ext h2 (fun b hb=>he b (List.mem_append_right _ hb))⟩
 lt h:=by
  obtain ⟨f,g,rfl,h1,h2⟩:=h
  intro b hb
  rcases List.mem_append.1 hb with h | h
  ·exact A.lt h1 b h
  ·exact B.lt h2 b h

theorem lk (z:Value) (k:Nat):(Builtin.zeroCells z.cells k).size=k*z.cells.size:=size_zeroCells _ _

theorem ri {w:World} {cur:Array Value} {xs:List α} {ccs:List Value} {f:List Nat} {cap:Nat} (h:eZ R w ccs xs f) (hcap:xs.length≤cap) (hm:cap≤maxLen) (hs:cur.size=cap*R.sz)
  (ht:cur.toList.take ccs.length=ccs):(aD R E).own (w.drew.alloc (.cells cur E)) [.slice (some ⟨w.heap.size,0,none⟩) xs.length cap] xs (w.heap.size :: f):=by
 refine .inr ⟨w.heap.size,cap,cur,ccs,f,rfl,heap_alloc_new w.drew _,hcap,hm,hs,by rw [← i6 (hG h)];exact ht,gb h (fun b hb=>?_),rfl⟩
 exact Below.heap_alloc w.drew _ b (gO h b hb)

theorem mf {t ty:TypeId} [ht:SliceT P t E] {z:List Value} {n bytes:Nat} [hz:ElemT P E z n bytes] (hn:R.sz=n) (hpos:0<n) (hzl:z.length=n) (hb0:0<bytes)
  {v:Value} {xs:List α} {f:List Nat} (hv:(aD R E).own w [v] xs f) {ccs:List Value} {ys:List α} {fy:List Nat} (hy:eZ R w ccs ys fy) (hnd:(fy++f).Nodup)
  {ao:Option Addr} {c:Nat} (hnone:ao=none→c=0) (hrow:kQ w ao ccs) (hby:(xs.length+ys.length)*bytes≤140737488355328) :
  ∃ v' w' f',(Builtin.append_ #[t,t] ty #[v,.slice ao ys.length c]).run P w=.ok v' w'∧(aD R E).own w' [v'] (xs++ys) f'∧f'.Nodup∧Chg (fy++f) w w'∧∀ b∈f',b∈fy++f∨w.heap.size≤b:=by
 have hz:=hz.h
 have hmax:xs.length+ys.length≤140737488355328:=Nat.le_trans (Nat.le_mul_of_pos_right _ hb0) hby
 have hyl:ccs.length=ys.length*R.sz:=i6 (hG hy)
 have hy1:∀ u∈ccs,u.oneCell'=true:=rE (hG hy)
 cases hi:P.info? E with
 | none=>simp [hi] at hz
 | some i =>
 cases hzz:i.zero with
 | none=>simp [hi,hzz] at hz
 | some zv =>
 simp [hi,hzz] at hz
 obtain ⟨hz1,hz2,hz3⟩:=hz
 have hzs:zv.cells.size=R.sz:=by rw [← Array.length_toList,hz1,hzl,hn]
 have hsz:i.size=R.sz:=by omega
 have hdrew:Chg (fy++f) w w.drew:=⟨rfl,rfl,rfl,Nat.le_refl _,fun _ _ _=>rfl⟩
 have hgrow:∀ cur:Array Value,Chg (fy++f) w (w.drew.alloc (.cells cur E)):=fun cur=>hdrew.trans ((Chg.alloc w.drew _).mono (by simp))
 have hlt:∀ b∈fy++f,b<w.heap.size:=fun b hb=>by
  rcases List.mem_append.1 hb with h | h
  ·exact gO hy b h
  ·exact (aD R E).own_lt hv b h
 obtain ⟨nd1,nd2,nd3⟩:=List.nodup_append.1 hnd
 -- nothing is appended
 by_cases hy0:ys=[]
 ·subst hy0
  have hccs:ccs=[]:=by simp only [eZ] at hy;exact hy.1
  have hfy:fy=[]:=by simp only [eZ] at hy;exact hy.2
  subst hccs;subst hfy
  refine ⟨v,w,f,?_,by simpa using hv,by simpa using hnd,Chg.refl _ _,fun b hb=>.inl (by simpa using hb)⟩
  rcases hv with ⟨hv,rfl,rfl⟩ | ⟨g,cap,cur,cs,f2,hv,hg,h1,h2,h3,h4,h5,rfl⟩
  ·obtain rfl:v=.slice none 0 0:=by simpa using hv
   cases ao <;> simp [Builtin.append_,run_underlying ht.h,sizeOf,typeInfo,hi,Builtin.lenOf,Builtin.firstCells,loadCells,loadCellsFrom]
  ·obtain rfl:v=.slice (some ⟨g,0,none⟩) xs.length cap:=by simpa using hv
   cases ao <;> simp [Builtin.append_,run_underlying ht.h,sizeOf,typeInfo,hi,Builtin.lenOf,Builtin.firstCells,loadCells,loadCellsFrom,h1,storeCells]
 have hyp:0<ys.length:=List.length_pos_iff.2 hy0
 obtain ⟨b,off,rfl,hcell⟩:∃ b off,ao=some ⟨b,off,none⟩∧∀ j c,ccs[j]? = some c→w.cell? ⟨b,off+j,none⟩=some c:=by
  rcases hrow with rfl | h
  ·exfalso
   have:0<ys.length*R.sz:=Nat.mul_pos hyp (by omega)
   simp at hyl;omega
  ·exact h
 have hnews:∀ j u,ccs[j]? = some u→w.cell? ((⟨b,off,none⟩:Addr).add j)=some u:=fun j u hj=>by rw [Addr.add_lit];exact hcell j u hj
 rcases hv with ⟨hv,rfl,rfl⟩ | ⟨g,cap,cur,cs,f2,hv,hg,h1,h2,h3,h4,h5,rfl⟩
 ·obtain rfl:v=.slice none 0 0:=by simpa using hv
  simp only [List.length_nil,Nat.zero_add] at hby hmax
  have hr:=run_append_nil (P:=P) w t ty E i zv ht.h hi hzz ⟨b,off,none⟩ ys.length c ccs (by rw [hyl,hsz]) hnews hyp (by omega) (by rw [hz3];omega)
  refine ⟨_,_,w.heap.size :: fy,hr,?_,?_,hgrow _,?_⟩
  ·have hge:=grownCap_ge w ys.length 0 E
   rw [List.nil_append]
   refine ri hy hge (grownCap_le_maxLen w ys.length 0 E (by unfold maxLen;omega)) ?_ ?_
   ·rw [Array.size_append,lk,hzs,List.size_toArray,hyl,← Nat.add_mul]
    congr 1;omega
   ·rw [Array.toList_append,List.toList_toArray,List.take_left']
    rfl
  ·refine List.nodup_cons.2 ⟨fun hm=>?_,nd1⟩
   have:=hlt _ (List.mem_append_left _ hm);omega
  ·intro x hx
   rcases List.mem_cons.1 hx with rfl | hx
   ·exact .inr (Nat.le_refl _)
   ·exact .inl (List.mem_append_left _ hx)
 ·obtain rfl:v=.slice (some ⟨g,0,none⟩) xs.length cap:=by simpa using hv
  have hcl:cs.length=xs.length*R.sz:=i6 (hG h5)
  have hfit:xs.length*R.sz≤cur.size:=by rw [h3];exact Nat.mul_le_mul_right _ h1
  obtain ⟨ng,nf2⟩:=List.nodup_cons.1 nd2
  by_cases hroom:xs.length+ys.length≤cap
  ·have hfit2:xs.length*i.size+ccs.length≤cur.size:=by rw [hsz,hyl,h3,← Nat.add_mul];exact Nat.mul_le_mul_right _ hroom
   have hr:=run_append_room (P:=P) w t ty E i ht.h hi g xs.length cap cur hg ⟨b,off,none⟩ ys.length c ccs (by rw [hyl,hsz]) hnews hy1 hroom hfit2
   have hoth:∀ k,k≠g→(w.setRow g (cur.toList.take (xs.length*i.size)++ccs++cur.toList.drop (xs.length*i.size+ccs.length)).toArray).heap[k]? = w.heap[k]?:=fun k hk=>setRow_other w g k _ hk
   refine ⟨_,_,g :: (f2++fy),hr,?_,?_,⟨rfl,rfl,rfl,by simp,fun k _ hk=>hoth k (fun e=>hk (by simp [e]))⟩,?_⟩
   ·rw [show xs.length+ys.length=(xs++ys).length by simp]
    refine .inr ⟨g,cap,_,cs++ccs,f2++fy,rfl,setRow_heap w g cur _ E _ hg,by simpa using hroom,h2,?_,?_,?_,rfl⟩
    ·simp only [List.size_toArray,List.length_append,List.length_take,List.length_drop,Array.length_toList]
     rw [hsz] at hfit2 ⊢
     omega
    ·rw [hsz,h4,List.length_append,Nat.add_mul,← hcl,← hyl,← List.length_append]
     exact List.take_left' rfl
    ·refine kY (gb hy fun x hx=>hoth x fun e=>?_) (gb h5 fun x hx=>hoth x fun e=>?_)
     ·subst e;exact nd3 x hx x (by simp) rfl
     ·subst e;exact ng hx
   ·refine List.nodup_cons.2 ⟨fun hm=>?_,List.nodup_append.2 ⟨nf2,nd1,fun a ha b hb e=>nd3 b hb a (by simp [ha]) e.symm⟩⟩
    rcases List.mem_append.1 hm with h | h
    ·exact ng h
    ·exact nd3 g h g (by simp) rfl
   ·intro x hx
    refine .inl ?_
    simp only [List.mem_cons,List.mem_append] at hx ⊢
    rcases hx with h | h | h <;> simp [h]
  ·have hcells:∀ j u,cs[j]? = some u→w.cell? ((⟨g,0,none⟩:Addr).add j)=some u:=fun j u hj=>by
    rw [Addr.add_lit,Nat.zero_add,cell_of_row w g j cur E (0,0) hg,← Array.getElem?_toList]
    rw [← h4,List.getElem?_take] at hj
    split at hj
    ·exact hj
    ·cases hj
   have hr:=run_append_grow (P:=P) w t ty E i zv ht.h hi hzz ⟨g,0,none⟩ xs.length cap cs (by rw [hcl,hsz]) hcells ⟨b,off,none⟩ ys.length c ccs (by rw [hyl,hsz]) hnews (by omega) (by omega) (growslice_fits (by omega) (by rw [hz3];exact hby))
   refine ⟨_,_,w.heap.size :: (f2++fy),hr,?_,?_,hgrow _,?_⟩
   ·have hge:=grownCap_ge w (xs.length+ys.length) cap E
    rw [show (xs.length+ys.length:Nat)=(xs++ys).length by simp] at hge ⊢
    refine ri (kY hy h5) hge (grownCap_le_maxLen w _ cap E (by unfold maxLen;simp;omega)) ?_ ?_
    ·rw [Array.size_append,Array.size_append,lk,hzs,List.size_toArray,List.size_toArray,hyl,hcl,← Nat.add_mul,← Nat.add_mul]
     congr 1;simp at hge ⊢;omega
    ·rw [Array.toList_append,Array.toList_append,List.toList_toArray,List.toList_toArray,List.take_left']
     rfl
   ·refine List.nodup_cons.2 ⟨fun hm=>?_,List.nodup_append.2 ⟨nf2,nd1,fun a ha b hb e=>nd3 b hb a (by simp [ha]) e.symm⟩⟩
    have:=hlt w.heap.size (by
     rcases List.mem_append.1 hm with h | h
     ·exact List.mem_append_right _ (by simp [h])
     ·exact List.mem_append_left _ h)
    omega
   ·intro x hx
    simp only [List.mem_cons,List.mem_append] at hx ⊢
    rcases hx with h | h | h
    ·exact .inr (by omega)
    ·exact .inl (by simp [h])
    ·exact .inl (by simp [h])

theorem su (hg:o.guard=none) {t:TypeId} {s x:Operand} (ho:o.op=.call { callee:=.builtin .append,args:=#[s,x],argTypes:=#[t,t] })
  [SliceT P t E] {z:List Value} {n bytes:Nat} [ElemT P E z n bytes] (hn:R.sz=n) (hpos:0<n) (hzl:z.length=n) (hb0:0<bytes)
  {v:Value} {xs:List α} {ccs:List Value} {ys:List α} (hS:Sat w0 w (my R ccs ys :: Own (aD R E) [v] xs :: Γ)) (hs:a.eval s=v)
  {ao:Option Addr} {m c:Nat} (hx:a.eval x=.slice ao m c) (hm:m=ys.length) (hnone:ao=none→c=0) (hrow:kQ w ao ccs) (hby:(xs.length+ys.length)*bytes≤140737488355328)
  (hK:∀ v' w',Sat w0 w' (Own (aD R E) [v'] (xs++ys) :: Γ)→wpList P ops Q rest (a.put o.dst v') w'):wpList P ops Q (o :: rest) a w:=by
 subst hm
 refine wpList_plain hg fun K hK'=>?_
 have hS':Sat w0 w (va (my R ccs ys) (Own (aD R E) [v] xs) :: Γ):=hS.join fun f g h1 h2=>⟨f,g,rfl,h1,h2⟩
 obtain ⟨fp,⟨fy,f,rfl,hy,hv⟩,hnd,_⟩:=hS'.head
 obtain ⟨v',w',f',hr,k1,k2,k3,k4⟩:=mf (P:=P) (t:=t) (ty:=o.type) hn hpos hzl hb0 hv hy hnd hnone hrow hby
 unfold Oper.wp execOp
 simp only [ho,resolve,invoke,builtin,Sem.run_bind,Sem.run_pure,Result.andThen_ok,List.map_toArray,List.map_cons,List.map_nil,hs,hx,hr,Oper.upon_value]
 refine hK' _ _ (hK v' w' ?_)
 have hex:∀ fp,(va (my R ccs ys) (Own (aD R E) [v] xs)).holds w fp→fp.Nodup→∃ fp',(Own (aD R E) [v'] (xs++ys)).holds w' fp'∧fp'.Nodup∧Chg fp w w'∧∀ b∈fp',b∈fp∨w.heap.size≤b:=by
  rintro _ ⟨gy,g,rfl,hy2,hv2⟩ hnd2
  obtain ⟨v2,w2,f2,hr2,l1,l2,l3,l4⟩:=mf (P:=P) (t:=t) (ty:=o.type) hn hpos hzl hb0 hv2 hy2 hnd2 hnone hrow hby
  rw [hr] at hr2
  obtain ⟨rfl,rfl⟩:v'=v2∧w'=w2:=by simpa using hr2
  exact ⟨f2,l1,l2,l3,l4⟩
 exact hS'.upd hex

theorem md (z:Array Value) (h:0<z.size):∀ k,(madeCells z (k*z.size)).toList=(List.replicate k z.toList).flatten
 | 0=>by simp [madeCells]
 | k+1=>by
  have ih:=md z h k
  rw [List.replicate_succ',List.flatten_append,← ih]
  unfold madeCells
  rw [Nat.add_mul,Nat.one_mul]
  simp only [Array.toList_map,Array.toList_range,List.range_add,List.map_append,List.map_map,List.flatten_cons,List.flatten_nil,List.append_nil]
  congr 1
  apply List.ext_getElem
  ·simp
  ·intro j h1 h2
   have hj:j<z.size:=by simpa using h1
   simp only [List.getElem_map,List.getElem_range,Function.comp]
   rw [Nat.mul_add_mod_self_right,Nat.mod_eq_of_lt hj]
   simp [hj]
theorem uq (hg:o.guard=none) {t:TypeId} {l c:Operand} (ho:o.op=.makeSlice t l c) [ht:SliceT P t E] {z:List Value} {n bytes:Nat} [hz:ElemT P E z n bytes] (hn:R.sz=n) (hpos:0<n) (hzl:z.length=n)
  {x0:α} (hx0:∀ w,R.own w z x0 []) {L C:Int} (hl:a.eval l=.int .i64 L) (hc:a.eval c=.int .i64 C) (k:Nat) (hL:L=(k:Int)) (hC:C=(k:Int)) (hby:k*bytes≤281474976710656) (hk:k≤140737488355328) (hS:Sat w0 w Γ)
  (hK:∀ w' g,Sat w0 w' (Own (aD R E) [.slice (some ⟨g,0,none⟩) k k] (List.replicate k x0) :: Γ)→Ext w w'→wpList P ops Q rest (a.put o.dst (.slice (some ⟨g,0,none⟩) k k)) w'):wpList P ops Q (o :: rest) a w:=by
 refine wpList_plain hg fun K hK'=>?_
 have hz:=hz.h
 cases hi:P.info? E with
 | none=>simp [hi] at hz
 | some i =>
 cases hzz:i.zero with
 | none=>simp [hi,hzz] at hz
 | some zv =>
 simp [hi,hzz] at hz
 obtain ⟨hz1,hz2,hz3⟩:=hz
 subst hL;subst hC
 have hr:=run_make (P:=P) w t E i zv ht.h hi hzz .i64 .i64 k k (by omega) (by omega) (by rw [hz3];have:=hby;rw [Nat.mul_comm] at this;omega) (by omega)
 simp only [Int.toNat_natCast] at hr
 unfold Oper.wp execOp
 simp only [ho,hl,hc,Sem.run_bind,hr,Sem.run_pure,Result.andThen_ok,Oper.upon_value]
 have hzs:zv.cells.size=n:=by rw [← Array.length_toList,hz1,hzl]
 have hcur:(madeCells zv.cells (k*i.size)).toList=(List.replicate k z).flatten:=by
  rw [← hz1,hz2,← hzs]
  exact md _ (by omega) k
 refine hK' _ _ (hK _ _ ?_ (jt _ _))
 have hown:∀ k',eZ R (w.alloc (.cells (madeCells zv.cells (k*i.size)) E)) (List.replicate k' z).flatten (List.replicate k' x0) []:=by
  intro k'
  induction k' with
  | zero=>exact ⟨rfl,rfl⟩
  | succ k' ih=>exact ⟨z,_,[],[],by simp [List.replicate_succ],rfl,hx0 _,ih⟩
 have kk:Sat w (w.alloc (.cells (madeCells zv.cells (k*i.size)) E)) [Own (aD R E) [.slice (some ⟨w.heap.size,0,none⟩) k k] (List.replicate k x0)]:=by
  refine ⟨jt _ _,[w.heap.size],⟨[w.heap.size],[],rfl,.inr ⟨w.heap.size,k,_,_,[],by simp,heap_alloc_new w _,by simp,by unfold maxLen;omega,?_,rfl,?_,rfl⟩,rfl⟩,by simp,by simp⟩
  ·rw [← Array.length_toList,hcur];simp [hzl,hn]
  ·rw [hcur,List.take_of_length_le (by simp [hzl,hn])]
   exact hown k
 simpa using hS.call kk

theorem tL {v:Value} {xs:List α} {fp:List Nat} (h:(aD R E).own w [v] xs fp):(v=.slice none 0 0∧xs=[])∨∃ g cap,v=.slice (some ⟨g,0,none⟩) xs.length cap:=by
 rcases h with ⟨h,h2,_⟩ | ⟨g,cap,_,_,_,h,_⟩
 ·exact .inl ⟨by simpa using h,h2⟩
 ·exact .inr ⟨g,cap,by simpa using h⟩
theorem Sat.shape {v:Value} {xs:List α} (h:Sat w0 w (Own (aD R E) [v] xs :: Γ)):(v=.slice none 0 0∧xs=[])∨∃ g cap,v=.slice (some ⟨g,0,none⟩) xs.length cap:=by
 obtain ⟨fp,h,_⟩:=h.head
 exact tL h

theorem qy {w:World}:∀ {xs:List α} {ccs:List Value} {fp:List Nat},eZ R w ccs xs fp→∀ (k:Nat) (_:k<xs.length) {ec:List Value} {y:α} {fy:List Nat},R.own w ec y fy →
  ∃ fl fk fr,fp=fl++fk++fr∧eZ R w (ccs.take (k*R.sz)++ec++ccs.drop (k*R.sz+R.sz)) (xs.set k y) (fl++fy++fr)
 | [],_,_,_,k,hk,_,_,_,_=>absurd hk (by simp)
 | x :: xs,_,_,h,0,_,ec,y,fy,hy=>by
  obtain ⟨e0,rest,f1,f2,rfl,rfl,h1,h2⟩:=h
  refine ⟨[],f1,f2,by simp,ec,rest,fy,f2,?_,by simp,hy,h2⟩
  have:=R.rd_len (R.own_rd h1)
  simp [← this]
 | x :: xs,_,_,h,k+1,hk,ec,y,fy,hy=>by
  obtain ⟨e0,rest,f1,f2,rfl,rfl,h1,h2⟩:=h
  obtain ⟨fl,fk,fr,rfl,h3⟩:=qy h2 k (by simpa using hk) hy
  refine ⟨f1++fl,fk,fr,by simp,e0,_,f1,fl++fy++fr,?_,by simp,h1,h3⟩
  have hl:=R.rd_len (R.own_rd h1)
  have e:(k+1)*R.sz=e0.length+k*R.sz:=by rw [hl,Nat.add_mul];omega
  rw [e,List.take_append,List.take_of_length_le (by omega),Nat.add_sub_cancel_left,show e0.length+k*R.sz+R.sz=e0.length+(k*R.sz+R.sz) by omega,List.drop_append,List.drop_of_length_le (by omega),Nat.add_sub_cancel_left]
  simp

theorem rb (L ec:List Value) (p s N:Nat) (h1:p+s≤N) (h2:N≤L.length) (h3:ec.length=s):(L.take (p+0)++ec++L.drop (p+0+s)).take N=(L.take N).take p++ec++(L.take N).drop (p+s):=by
 rw [Nat.add_zero,List.take_append,List.take_of_length_le (by simp;omega),List.take_take,Nat.min_eq_left (by omega:p≤N),List.drop_take]
 congr 2
 simp;omega
theorem sv {t:TypeId} {x y:Operand} (hg:o.guard=none) (ho:o.op=.store t x y) {z:List Value} {n bytes:Nat} [hz:ElemT P t z n bytes] (hn:R.sz=n) {ec:List Value} {yv:α} {xs:List α} {g m cap:Nat}
  (hS:Sat w0 w (Own R ec yv :: Own (aD R E) [.slice (some ⟨g,0,none⟩) m cap] xs :: Γ)) (k off:Nat) (hk:k<xs.length) (hoff:off=k*n) (hx:a.eval x=.pointer (some ⟨g,off,none⟩)) (hy:(a.eval y).cells=ec.toArray)
  (hK:∀ w',Sat w0 w' (Own (aD R E) [.slice (some ⟨g,0,none⟩) m cap] (xs.set k yv) :: Γ)→wpList P ops Q rest (a.put o.dst undef) w'):wpList P ops Q (o :: rest) a w:=by
 refine wpList_plain hg fun K hK'=>?_
 have hz:=hz.h
 cases hi:P.info? t with
 | none=>simp [hi] at hz
 | some i =>
  simp [hi] at hz
  have hS':Sat w0 w (va (Own R ec yv) (Own (aD R E) [.slice (some ⟨g,0,none⟩) m cap] xs) :: Γ):=hS.join fun f g h1 h2=>⟨f,g,rfl,h1,h2⟩
  obtain ⟨fp,⟨fy,f,rfl,hyo,hv⟩,hnd,_⟩:=hS'.head
  have hel:ec.length=R.sz:=R.rd_len (R.own_rd hyo)
  obtain ⟨cur,hh,hcs⟩:∃ cur,w.heap[g]? = some (.cells cur E (0,0))∧xs.length*R.sz≤cur.size:=by
   rcases hv with ⟨h,_⟩ | ⟨g',cap',cur,ccs,f2,h,hg',h1,h2,h3,_⟩
   ·simp at h
   ·simp at h
    obtain ⟨rfl,_⟩:=h
    exact ⟨cur,hg',by rw [h3];exact Nat.mul_le_mul_right _ h1⟩
  have hkk:k*R.sz+R.sz≤xs.length*R.sz:=by have:=Nat.mul_le_mul_right R.sz hk;rw [Nat.succ_mul] at this;exact this
  have hh':w.heap[g]? = some (.cells cur.toList.toArray E (0,0)):=by simpa using hh
  obtain ⟨w',hr,hnew,hc⟩:=gZ (P:=P) ec off 0 cur.toList w hh' (by rw [hoff,hel,← hn];simp;omega) (R.rd_one (R.own_rd hyo))
  have hsz:¬ (ec.toArray.size≠i.size):=by simp;omega
  unfold Oper.wp execOp
  simp only [ho,hx,Instr.storeAt,Instr.sureAddr,storeVar,sizeOf,typeInfo,hi,hy,Sem.run_bind,Sem.run_pure,run_program,Result.andThen_ok,hsz,if_false,Sem.run_ite,List.toList_toArray,hr,Oper.upon_skip]
  refine hK' _ _ (hK w' ?_)
  refine hS'.upd ?_
  rintro _ ⟨gy,gf,rfl,hy2,hv2⟩ hnd2
  rcases hv2 with ⟨h,_⟩ | ⟨g',cap',cur',ccs,f2,h,hg',h1,h2,h3,h4,h5,rfl⟩
  ·simp at h
  ·simp at h
   obtain ⟨rfl,rfl,rfl⟩:=h
   obtain ⟨rfl⟩:cur'=cur:=by rw [hh] at hg';simpa using hg'.symm
   obtain ⟨fl,fk,fr,rfl,h6⟩:=qy h5 k hk hy2
   have hoth:∀ x,x≠g→x<w.heap.size→w'.heap[x]? = w.heap[x]?:=fun x hx hlt=>hc.block x hlt (by simpa using hx)
   have hnd3:(gy++g :: (fl++fk++fr)).Nodup:=hnd2
   simp only [List.nodup_append,List.nodup_cons,List.mem_append,List.mem_cons] at hnd3
   have hgn:g∉fl++gy++fr:=by
    simp only [List.mem_append,not_or]
    refine ⟨⟨fun hm=>hnd3.2.1.1 (.inl (.inl hm)),fun hm=>hnd3.2.2 g hm g (.inl rfl) rfl⟩,fun hm=>hnd3.2.1.1 (.inr hm)⟩
   refine ⟨g :: (fl++gy++fr),.inr ⟨g,cap,_,ccs.take (k*R.sz)++ec++ccs.drop (k*R.sz+R.sz),fl++gy++fr,by simp,hnew,by simpa using h1,h2,?_,?_,gb h6 (fun b hb=>hoth b (fun e=>hgn (e ▸ hb)) ?_),rfl⟩,?_,hc.mono (by simp),?_⟩
   ·simp only [List.size_toArray,List.length_append,List.length_take,List.length_drop,Array.length_toList]
    rw [hoff,← hn]
    omega
   ·have hcl:ccs.length=xs.length*R.sz:=i6 (hG h5)
    rw [← h4,hoff,← hn,hel,List.length_set]
    exact rb _ _ _ _ _ hkk (by simpa using hcs) hel
   ·exact gO h6 b hb
   ·refine List.nodup_cons.2 ⟨hgn,?_⟩
    have hs:(gy++(fl++fr)).Nodup:=List.Nodup.sublist (List.Sublist.append (List.Sublist.refl gy) (List.Sublist.cons g (List.Sublist.append (List.sublist_append_left fl fk) (List.Sublist.refl fr)))) hnd2
    rw [← List.append_assoc] at hs
    exact (List.Perm.append_right fr List.perm_append_comm).nodup_iff.1 hs
   ·intro b hb
    refine .inl ?_
    simp only [List.mem_cons,List.mem_append] at hb ⊢
    rcases hb with h | (h | h) | h <;> simp [h]

theorem ou {t e:TypeId} [ht:SliceT P t e] {z:List Value} {n bytes:Nat} [hz:ElemT P e z n bytes] {v:Value} {cs:List Value} (hcs:v.cells=cs.toArray) (hl:cs.length=n) (hpos:0<n) (hzl:z.length=n) (hn:n≤16) :
  (Instr.buildSlice t 1 #[(0,v)]).run P w=.ok (.slice (some ⟨w.heap.size,0,none⟩) 1 1) (w.alloc (.cells cs.toArray e)):=by
 have hz:=hz.h
 cases hi:P.info? e with
 | none=>simp [hi] at hz
 | some i =>
 cases hzz:i.zero with
 | none=>simp [hi,hzz] at hz
 | some zv =>
 simp [hi,hzz] at hz
 obtain ⟨hz1,hz2,hz3⟩:=hz
 have h24:¬ (n > 2 ^ 24):=by omega
 have hn0:¬ (n=0):=by omega
 have hfill:Instr.fill (fun i=>some (i*n,n)) ((Array.range n).map (zv.cells[· % zv.cells.size]!)) [(0,v)]=some cs.toArray:=by
  have hsz:((Array.range n).map (zv.cells[· % zv.cells.size]!)).size=n:=by simp
  have hfold:∀ (l:List Value) (pre:List Value) (A:Array Value),A.size=pre.length+l.length→A.toList.take pre.length=pre →
    ((l.zipIdx pre.length).foldl (fun A (c:Value × Nat)=>A.setIfInBounds c.2 c.1) A).toList=pre++l:=by
   intro l
   induction l with
   | nil=>intro pre A h1 h2;simp;rw [← h2,List.take_of_length_le (by simp at h1 ⊢;omega)]
   | cons x l ih =>
    intro pre A h1 h2
    simp only [List.zipIdx_cons,List.foldl_cons]
    have:=ih (pre++[x]) (A.setIfInBounds pre.length x) (by simp at h1 ⊢;omega) (by
     simp only [Array.toList_setIfInBounds,List.length_append,List.length_singleton]
     rw [List.take_set,List.take_succ_eq_append_getElem (by simp at h1 ⊢;omega),h2,List.set_append_right _ _ (Nat.le_refl _)]
     simp)
    simpa using this
  have h0:=hfold cs [] ((Array.range n).map (zv.cells[· % zv.cells.size]!)) (by simp [hl]) (by simp)
  simp only [Instr.fill,hcs,List.size_toArray,hl,hsz,Nat.zero_mul,Nat.zero_add,ne_eq,not_true_eq_false,decide_false,Bool.false_or,gt_iff_lt,Nat.lt_irrefl,Bool.false_eq_true,if_false]
  congr 1
  apply Array.ext'
  simpa using h0
 simp [Instr.buildSlice,run_underlying ht.h,sizeOf,typeInfo,hi,hz2,h24,hn0,zeroValue,hzz,hfill,newRow]

theorem oo (hg:o.guard=none) {t e:TypeId} {x:Operand} (ho:o.op=.buildSlice t 1 #[(0,x)]) [SliceT P t e] {z:List Value} {n bytes:Nat} [ElemT P e z n bytes] {cs:List Value} (hcs:(a.eval x).cells=cs.toArray) (hl:cs.length=n) (hpos:0<n) (hzl:z.length=n) (hn:n≤16)
  (hS:Sat w0 w Γ) (hK:∀ w' b,Sat w0 w' (Box b e cs :: Γ)→Ext w w'→wpList P ops Q rest (a.put o.dst (.slice (some ⟨b,0,none⟩) 1 1)) w'):wpList P ops Q (o :: rest) a w:=by
 refine wpList_plain hg fun K hK'=>?_
 have hr:=ou (P:=P) (w:=w) (t:=t) (e:=e) hcs hl hpos hzl hn
 unfold Oper.wp execOp
 simp only [ho,List.map_toArray,List.map_cons,List.map_nil,hr,Sem.run_bind,Sem.run_pure,Result.andThen_ok,Oper.upon_value]
 exact hK' _ _ (hK _ _ (hS.box e cs) (jt _ _))

theorem nQ (R:Rep α) (hg:o.guard=none) {t:TypeId} (ho:o.op=.buildSlice t 0 #[]) [ht:SliceT P t E] {z:List Value} {n bytes:Nat} [hz:ElemT P E z n bytes]
  (hS:Sat w0 w Γ) (hK:∀ w' b,Sat w0 w' (Own (aD R E) [.slice (some ⟨b,0,none⟩) 0 0] [] :: Γ)→Ext w w'→wpList P ops Q rest (a.put o.dst (.slice (some ⟨b,0,none⟩) 0 0)) w'):wpList P ops Q (o :: rest) a w:=by
 refine wpList_plain hg fun K hK'=>?_
 have hz:=hz.h
 cases hi:P.info? E with
 | none=>simp [hi] at hz
 | some i =>
 have hr:(Instr.buildSlice t 0 #[]).run P w=.ok (.slice (some ⟨w.heap.size,0,none⟩) 0 0) (w.alloc (.cells #[] E)):=by
  simp [Instr.buildSlice,run_underlying ht.h,sizeOf,typeInfo,hi,Instr.fill,newRow,Array.range_zero']
 unfold Oper.wp execOp
 simp only [ho,List.map_toArray,List.map_nil,hr,Sem.run_bind,Sem.run_pure,Result.andThen_ok,Oper.upon_value]
 have hB:=hS.box E []
 refine hK' _ _ (hK _ _ (hB.conv (B:=Own (aD R E) [.slice (some ⟨w.heap.size,0,none⟩) 0 0] []) fun f hf=>?_) (jt _ _))
 obtain ⟨rfl,hf⟩:=hf
 exact .inr ⟨w.heap.size,0,#[],[],[],rfl,hf,Nat.le_refl _,Nat.zero_le _,by simp,by simp,⟨rfl,rfl⟩,rfl⟩

theorem Sat.one {ec:List Value} {y:α} (h:Sat w0 w (Own R ec y :: Γ)):Sat w0 w (my R ec [y] :: Γ) :=
 h.conv fun f hf=>⟨ec,[],f,[],by simp,by simp,hf,rfl,rfl⟩
theorem Sat.str (h:Sat w0 w Γ) (s:ByteArray) (hs:s.size≤9223372036854775807):Sat w0 w (Own jn [.string s] s :: Γ):=h.add ⟨⟨rfl,hs⟩,rfl⟩
theorem Sat.int (h:Sat w0 w Γ) (n:Int):Sat w0 w (Own bH [.int .i64 n] n :: Γ):=h.add ⟨rfl,rfl⟩
theorem Sat.pair {α β:Type} {R:Rep α} {S:Rep β} {c d:List Value} {x:α} {y:β} (h:Sat w0 w (Own R c x :: Own S d y :: Γ)):Sat w0 w (Own (f7 R S) (c++d) (x,y) :: Γ) :=
 h.join fun f g h1 h2=>⟨c,d,f,g,rfl,rfl,h1,h2⟩
theorem Sat.ints {xs:List Int} (h:Sat w0 w Γ):Sat w0 w (my bH (xs.map (Value.int .i64)) xs :: Γ):=by
 refine h.add ?_
 induction xs with
 | nil=>exact ⟨rfl,rfl⟩
 | cons x xs ih=>exact ⟨[.int .i64 x],_,[],[],rfl,rfl,⟨rfl,rfl⟩,ih⟩
end laws2
abbrev Env:=Nat→Value
def upd (e:Env) (d:Nat) (v:Value):Env:=fun t=>bif Nat.beq t d then v else e t
def ev (e:Env):Operand→Value
 | .tmp t=>e t
 | .const v=>v
 | .global g=>.pointer (some ⟨g,0,none⟩)
 | .func f=>.func (.func f) #[] #[]
theorem lf {a b:Nat} (h:¬ a=b):Nat.beq a b=false:=by
 cases hb:Nat.beq a b
 ·rfl
 ·exact absurd (Nat.eq_of_beq_eq_true hb) h
structure Mt (n:Nat) (e:Env) (a:Act):Prop where
 size:a.tmps.size=n
 defers:a.defers=[]
 get:∀ t,a.tmps.getD t undef=e t
theorem Mt.eval {n:Nat} {e:Env} {a:Act} (h:Mt n e a):a.eval=ev e:=by
 funext x
 cases x <;> simp only [Act.eval,ev]
 exact h.get _
theorem Mt.put {n:Nat} {e:Env} {a:Act} (h:Mt n e a) {d:Nat} (hd:d<n) (v:Value):Mt n (upd e d v) (a.put (some d) v):=by
 refine ⟨by simp [Act.put,h.size],by simpa [Act.put] using h.defers,fun t=>?_⟩
 have hg:=h.get t
 have hs:=h.size
 simp only [Act.put,upd]
 by_cases ht:t=d
 ·subst ht
  simp [Array.getD,hs,hd]
 ·have:Nat.beq t d=false:=lf ht
  rw [this]
  simp only [cond_false,← hg,Array.getD,Array.size_setIfInBounds]
  split
  ·rename_i hlt
   have:=Array.getElem_setIfInBounds (xs:=a.tmps) (i:=d) (a:=v) (j:=t) (by simpa using hlt)
   rw [if_neg (fun e=>ht e.symm)] at this
   exact this
  ·rfl
theorem ui {e:Env} {d:Nat} {v:Value} (h:e d=v):upd e d v=e:=by
 funext t
 unfold upd
 by_cases ht:t=d
 ·subst ht;simp [h]
 ·have:Nat.beq t d=false:=lf ht
  rw [this];rfl
theorem keep {e e':Env} {d:Nat} {v:Value} (h:e' d=v) (h2:e=e'):e=upd e' d v:=by rw [ui h,h2]
def PV (P:Program) (o:Oper) (e:Env) (w:World) (v:Value):Prop:=∀ w',Ext w w'→(execOp (ev e) o).run P w'=.ok (.value v) w'
theorem PV.ext {P:Program} {o:Oper} {e:Env} {w w1:World} {v:Value} (h:PV P o e w v) (hx:Ext w w1):PV P o e w1 v:=fun w' h'=>h w' (hx.trans h')

def nrm (n:Nat) (K:Env→World→Prop):Exit→Act→World→Prop:=fun x a w=>x=.normal∧∃ e,Mt n e a∧K e w
def EL (P:Program) (n:Nat) (ops:Array Oper) (K:Env→World→Prop) (rest:List Oper) (e:Env) (w:World):Prop:=∀ a,Mt n e a→wpList P ops (nrm n K) rest a w
def QL (P:Program) (n:Nat) (ops:Array Oper) (w:World) (K:Env→Prop) (rest:List Oper) (e:Env):Prop:=∀ a,Mt n e a→wpQuiet P ops (fun w'=>Ext w w') (fun a'=>∃ e',Mt n e' a'∧K e') rest a

structure Goes (P:Program) (f:FuncId):Prop where
 h:∃ fn,P.funcs[f]? = some fn∧(fn.name == "runtime.NumGoroutine")=false∧fn.body.isNone=false
theorem Goes.run {P:Program} {f:FuncId} (h:Goes P f) (args:Array Value) (w:World):(callFunc f args).run P w=.ok (.enter f args) w:=by
 obtain ⟨fn,h1,h2,h3⟩:=h.h
 simp only [callFunc,Sem.run_bind,run_program,Result.andThen_ok,h1,h2,h3,Bool.false_eq_true,if_false]
 rfl

section
variable {P:Program} {n:Nat} {ops:Array Oper} {K:Env→World→Prop} {KQ:Env→Prop} {rest:List Oper} {e:Env} {w w0:World} {v:Value} {d:Nat} {op:Op} {ty:TypeId} {pos:String} {af:Array Edge} {Γ rΓ:List Asn}

theorem ah (h:K e w):EL P n ops K [] e w:=fun _ ha=>⟨rfl,e,ha,h⟩
theorem ft (h:KQ e):QL P n ops w KQ [] e:=fun _ ha=>⟨e,ha,h⟩
theorem kn (hp:PV P ⟨some d,op,ty,pos,af,none⟩ e w v) (hd:d<n) (hK:EL P n ops K rest (upd e d v) w):EL P n ops K (⟨some d,op,ty,pos,af,none⟩ :: rest) e w:=by
 intro a ha
 refine wpList_plain rfl fun K' hK'=>?_
 unfold Oper.wp
 rw [ha.eval,hp w (Ext.refl w)]
 exact hK' _ _ (hK _ (ha.put hd v))
theorem oQ (hp:PV P ⟨some d,op,ty,pos,af,none⟩ e w v) (hd:d<n) (hK:QL P n ops w KQ rest (upd e d v)):QL P n ops w KQ (⟨some d,op,ty,pos,af,none⟩ :: rest) e:=by
 intro a ha
 unfold wpQuiet
 rw [if_pos (by rfl)]
 refine ⟨v,fun w' hw'=>?_,hK _ (ha.put hd v)⟩
 unfold Oper.quietAt
 rw [ha.eval,hp w' hw']
 exact ⟨rfl,rfl⟩
theorem fK {f:FuncId} {args:Array Operand} {tys:Array TypeId} {vals:Array Value} {R:Ending→World→Prop} (hg:Goes P f) (hc:Calls P f vals w R) (hv:(args.toList.map (ev e)).toArray=vals) (hd:d<n)
  (hK:∀ x w',R x w'→∃ v,x=.returned v∧EL P n ops K rest (upd e d v) w'):EL P n ops K (⟨some d,.call ⟨.value (.func f),args,tys⟩,ty,pos,af,none⟩ :: rest) e w:=by
 intro a ha
 refine wpList_plain rfl fun K' hK'=>?_
 unfold Oper.wp execOp
 have he:args.map (ev e)=vals:=by rw [← hv];apply Array.ext';simp
 simp only [ha.eval,resolve,ev,Deferred.ofValue,Sem.run_bind,Sem.run_pure,Result.andThen_ok,Array.empty_append,Array.append_empty,he,invoke,hg.run,Oper.upon_enter]
 refine hc.mono fun x w' hx=>?_
 obtain ⟨v,rfl,h⟩:=hK x w' hx
 exact hK' _ _ (h _ (ha.put hd v))
theorem gq {f:FuncId} {args:Array Operand} {tys:Array TypeId} {vals:Array Value} (v:Value) (hg:Goes P f)
  (hc:∀ w',Ext w w'→Calls P f vals w' fun x w''=>x=.returned v∧Ext w' w'') (hv:(args.toList.map (ev e)).toArray=vals) (hd:d<n)
  (hK:QL P n ops w KQ rest (upd e d v)):QL P n ops w KQ (⟨some d,.call ⟨.value (.func f),args,tys⟩,ty,pos,af,none⟩ :: rest) e:=by
 intro a ha
 unfold wpQuiet
 rw [if_pos (by rfl)]
 refine ⟨v,fun w' hw'=>?_,hK _ (ha.put hd v)⟩
 unfold Oper.quietAt execOp
 have he:args.map (ev e)=vals:=by rw [← hv];apply Array.ext';simp
 simp only [ha.eval,resolve,ev,Deferred.ofValue,Sem.run_bind,Sem.run_pure,Result.andThen_ok,Array.empty_append,Array.append_empty,he,invoke,hg.run]
 exact ⟨rfl,(hc w' hw').mono fun x w'' ⟨h1,h2⟩=>⟨h1,hw'.trans h2⟩⟩
def yld (ops:Array Oper) (e:Env) (j:Nat):Option Bool :=
 match (ops[j]?).bind (·.dst) with
 | some t=>match e t with | .bool b=>some b | _=>none
 | none=>none
theorem i7 {a:Act} (ha:Mt n e a) {j:Nat} {b:Bool} (h:yld ops e j=some b):yielded ops a.tmps j=some b:=by
 unfold yld at h
 unfold yielded
 cases hj:(ops[j]?).bind (·.dst) with
 | none=>simp [hj] at h
 | some t =>
  simp only [hj] at h
  have hg:=ha.get t
  simp only [Option.bind_some]
  cases hv:e t with
  | bool c =>
   rw [hv] at h hg
   simp only [Option.some.injEq] at h
   subst h
   unfold Array.getD at hg
   split at hg
   ·rename_i hlt
    rw [Array.getElem?_eq_getElem hlt]
    have:a.tmps[t]=.bool c:=hg
    rw [this]
   ·simp [undef] at hg
  | _=>simp [hv] at h
theorem qE {a:Act} (ha:Mt n e a) {j:Nat} (h:(match (ops[j]?).bind (·.dst) with | some t=>e t | none=>undef)=undef):yielded ops a.tmps j=none:=by
 unfold yielded
 cases hj:(ops[j]?).bind (·.dst) with
 | none=>rfl
 | some t =>
  simp only [hj] at h
  have hg:=ha.get t
  rw [h] at hg
  simp only [Option.bind_some]
  cases hv:a.tmps[t]? with
  | none=>rfl
  | some v =>
   have:a.tmps.getD t undef=v:=by
    obtain ⟨h1,h2⟩:=Array.getElem?_eq_some_iff.1 hv
    simp [Array.getD,h1,h2]
   rw [this] at hg
   subst hg
   rfl
theorem yF {j:Nat} {b c:Bool} {dst:Option Nat} (h:yld ops e j=some c) (hc:c=b) (hK:EL P n ops K (⟨dst,op,ty,pos,af,none⟩ :: rest) e w):EL P n ops K (⟨dst,op,ty,pos,af,some (j,b)⟩ :: rest) e w:=by
 subst hc
 intro a ha
 have:=hK a ha
 unfold wpList at this ⊢
 rw [if_pos (by simp [Region.wanted])] at this
 rw [if_pos (by simp [Region.wanted,i7 ha h])]
 exact this
theorem xb {j:Nat} {b b' c:Bool} {d:Nat} (h:yld ops e j=some c) (hc:c=b) (hb:(b == b')=false) (hd:d<n) (hK:EL P n ops K rest (upd e d undef) w):EL P n ops K (⟨some d,op,ty,pos,af,some (j,b')⟩ :: rest) e w:=by
 subst hc
 intro a ha
 unfold wpList
 rw [if_neg (by simp [Region.wanted,i7 ha h];simpa using hb)]
 exact hK _ (ha.put hd _)
theorem yQ {j:Nat} {b c:Bool} {dst:Option Nat} (h:yld ops e j=some c) (hc:c=b) (hK:QL P n ops w KQ (⟨dst,op,ty,pos,af,none⟩ :: rest) e):QL P n ops w KQ (⟨dst,op,ty,pos,af,some (j,b)⟩ :: rest) e:=by
 subst hc
 intro a ha
 have:=hK a ha
 unfold wpQuiet at this ⊢
 rw [if_pos (by simp [Region.wanted])] at this
 rw [if_pos (by simp [Region.wanted,i7 ha h])]
 exact this
theorem wU {j:Nat} {b b' c:Bool} {d:Nat} (h:yld ops e j=some c) (hc:c=b) (hb:(b == b')=false) (hd:d<n) (hK:QL P n ops w KQ rest (upd e d undef)):QL P n ops w KQ (⟨some d,op,ty,pos,af,some (j,b')⟩ :: rest) e:=by
 subst hc
 intro a ha
 unfold wpQuiet
 rw [if_neg (by simp [Region.wanted,i7 ha h];simpa using hb)]
 exact hK _ (ha.put hd _)
end

def Lf (n:Nat) (Q:Exit→Env→World→Prop):Exit→Act→World→Prop:=fun x a w=>∃ e,Mt n e a∧Q x e w
def CW (P:Program) (n:Nat) (c:Code) (Q:Exit→Env→World→Prop) (e:Env) (w:World):Prop:=∀ a,Mt n e a→c.wp P (Lf n Q) a w
def thn (K:Env→World→Prop) (Q:Exit→Env→World→Prop):Exit→Env→World→Prop
 | .normal,e,w=>K e w
 | x,e,w=>Q x e w
def inb (id:Nat) (Q:Exit→Env→World→Prop):Exit→Env→World→Prop
 | .exit id',e,w=>bif Nat.beq id' id then Q .normal e w else Q (.exit id') e w
 | x,e,w=>Q x e w
section
variable {P:Program} {n:Nat} {Q:Exit→Env→World→Prop} {K:Env→World→Prop} {e:Env} {w:World} {c x y:Code}
theorem n6 (h:∀ Q',(∀ x e w,Q x e w→Q' x e w)→CW P n c Q' e w):CW P n c Q e w:=h Q fun _ _ _ h=>h
theorem yX {i:Nat} (h:Q .normal e w):inb i Q (.exit i) e w:=by
 have:Nat.beq i i=true:=by simp
 show (bif Nat.beq i i then _ else _)
 rw [this];exact h
theorem sU (h:CW P n x (thn (fun e w=>CW P n y Q e w) Q) e w):CW P n (.seq x y) Q e w:=by
 intro a ha
 refine wp_seq (wp_mono (h a ha) ?_)
 rintro x' a' w' ⟨e',he',hq⟩
 cases x' with
 | normal=>exact hq a' he'
 | _=>exact ⟨e',he',hq⟩
theorem bk (h:Q .normal e w):CW P n .skip Q e w:=fun _ ha=>wp_skip ⟨e,ha,h⟩
theorem aH {i:Nat} (h:Q (.exit i) e w):CW P n (.exit i) Q e w:=fun _ ha=>wp_exit ⟨e,ha,h⟩
theorem ae (h:Q .ret e w):CW P n .ret Q e w:=fun _ ha=>wp_ret ⟨e,ha,h⟩
theorem tS {o:Operand} {b:Bool} (hc:ev e o=.bool b) (hb:b=true) (h:CW P n x Q e w):CW P n (.cond o x y) Q e w :=
 fun a ha=>wp_cond_true (by rw [ha.eval,hc,hb]) (h a ha)
theorem tY {o:Operand} {b:Bool} (hc:ev e o=.bool b) (hb:b=false) (h:CW P n y Q e w):CW P n (.cond o x y) Q e w :=
 fun a ha=>wp_cond_false (by rw [ha.eval,hc,hb]) (h a ha)
theorem uO {i:Nat} (h:CW P n c (inb i Q) e w):CW P n (.block i c) Q e w:=by
 intro a ha
 refine wp_block (wp_mono (h a ha) ?_)
 rintro x' a' w' ⟨e',he',hq⟩
 cases x' with
 | exit id' =>
  by_cases hi:id'=i
  ·subst hi
   have:Nat.beq id' id'=true:=by simp
   have hq':(bif Nat.beq id' id' then Q .normal e' w' else Q (.exit id') e' w'):=hq
   rw [this] at hq'
   simp only [Exit.inBlock,if_true]
   exact ⟨e',he',hq'⟩
  ·have:Nat.beq id' i=false:=lf hi
   have hq':(bif Nat.beq id' i then Q .normal e' w' else Q (.exit id') e' w'):=hq
   rw [this] at hq'
   simp only [Exit.inBlock,hi,if_false]
   exact ⟨e',he',hq'⟩
 | _=>exact ⟨e',he',hq⟩
theorem ac {id:Nat} {l:List Oper} (h:EL P n l.toArray (fun e w=>Q .normal e w) l e w):CW P n (.region id l.toArray false) Q e w:=by
 intro a ha
 refine wp_mono (wp_region_lit (h a ha)) ?_
 rintro x a w ⟨rfl,e,he,hk⟩
 exact ⟨e,he,hk⟩
theorem fw {id:Nat} {l:List Oper} (hm:P.follows .mixedOrders=true) (hB:Region.lexB .any l.toArray=true) (h:QL P n l.toArray w (fun e=>∀ w',Ext w w'→Q .normal e w') l e):CW P n (.region id l.toArray true) Q e w:=by
 intro a ha
 refine wp_region_quiet (C:=fun w'=>Ext w w') hm hB ⟨rfl,rfl,rfl,Nat.le_refl _,fun _ _=>rfl⟩ ?_
 have:=h a ha
 have key:∀ (r:List Oper) (a:Act),wpQuiet P l.toArray (fun w'=>Ext w w') (fun a'=>∃ e',Mt n e' a'∧∀ w',Ext w w'→Q .normal e' w') r a→wpQuiet P l.toArray (fun w'=>Ext w w') (fun a'=>∀ w',Ext w w'→Lf n Q .normal a' w') r a:=by
  intro r
  induction r with
  | nil=>rintro a ⟨e',h1,h2⟩ w' hw';exact ⟨e',h1,h2 w' hw'⟩
  | cons o r ih =>
   intro a h
   unfold wpQuiet at h ⊢
   split
   ·rename_i hw
    rw [if_pos hw] at h
    exact Oper.quiet_mono ih h
   ·rename_i hw
    rw [if_neg hw] at h
    exact ih _ h
 exact key _ _ this
theorem wI (I:Nat→Env→World→Prop) (k0:Nat) (h0:I k0 e w)
  (hr:∀ k e w,I k e w→CW P n c (thn (fun e w=>∃ k',k'<k∧I k' e w) Q) e w):CW P n (.loop c) Q e w:=by
 intro a ha
 refine wp_loop_ghost (fun k a w=>∃ e,Mt n e a∧I k e w) k0 ⟨e,ha,h0⟩ ?_
 rintro k a w ⟨e,he,hI⟩
 refine wp_mono (hr k e w hI a he) ?_
 rintro x' a' w' ⟨e',he',hq⟩
 cases x' with
 | normal =>
  obtain ⟨k',hk',hI'⟩:=hq
  exact ⟨k',hk',e',he',hI'⟩
 | _=>exact ⟨e',he',hq⟩
theorem aC (I:Nat→Env→World→Prop) (k0:Nat) (h0:I k0 e w) (hz:∀ e w,¬ I 0 e w)
  (hr:∀ k e w,I (k+1) e w→CW P n c (thn (fun e w=>I k e w) Q) e w):CW P n (.loop c) Q e w:=by
 refine wI I k0 h0 ?_
 intro k e w hI
 cases k with
 | zero=>exact absurd hI (hz e w)
 | succ k =>
  intro a ha
  refine wp_mono (hr k e w hI a ha) ?_
  rintro x' a' w' ⟨e',he',hq⟩
  cases x' with
  | normal=>exact ⟨e',he',k,Nat.lt_succ_self k,hq⟩
  | _=>exact ⟨e',he',hq⟩
end

def Fin (P:Program) (fn:Func) (n:Nat) (R:Ending→World→Prop):Exit→Env→World→Prop
 | .normal,e,w=>∃ v,(∀ a,Mt n e a→(results fn a.tmps).run P w=.ok v w)∧R (.returned v) w
 | .ret,e,w=>∃ v,(∀ a,Mt n e a→(results fn a.tmps).run P w=.ok v w)∧R (.returned v) w
 | _,_,_=>False
def oq:List Value→Nat→Env
 | [],_=>fun _=>undef
 | v :: l,k=>upd (oq l (k+1)) k v
theorem pH:∀ (l:List Value) (k t:Nat),oq l k t=if k≤t then l.getD (t-k) undef else undef
 | [],k,t=>by simp [oq]
 | v :: l,k,t=>by
  unfold oq upd
  by_cases h:t=k
  ·subst h;simp
  ·have hb:Nat.beq t k=false:=lf h
   rw [hb,cond_false,pH l (k+1) t]
   by_cases hk:k+1≤t
   ·rw [if_pos hk,if_pos (by omega),show t-k=(t-(k+1))+1 by omega]
    simp
   ·rw [if_neg hk]
    by_cases hk2:k≤t
    ·omega
    ·rw [if_neg hk2]
theorem aJ {P:Program} {f:FuncId} {fn:Func} {c:Code} {l:List Value} {w:World} {R:Ending→World→Prop} (hf:P.funcs[f]? = some fn) (hb:fn.body=some c) {n:Nat} (hn:fn.ntmps=n) (hl:l.length≤n)
  (h:CW P n c (Fin P fn n R) (oq l 0) w):Calls P f l.toArray w R:=by
 refine calls_of_wp hf hb (wp_mono (h _ ?_) ?_)
 ·refine ⟨by simp;omega,rfl,fun t=>?_⟩
  rw [pH]
  simp only [Nat.zero_le,if_true,Nat.sub_zero,Array.getD,Array.size_append,List.size_toArray,Array.size_replicate]
  by_cases h1:t<l.length
  ·rw [dif_pos (by omega)]
   simp [h1]
  ·have h2:l.getD t undef=undef:=by simp [h1]
   rw [h2]
   split
   ·rename_i h3
    have:=Array.getElem_append_right (xs:=l.toArray) (ys:=Array.replicate (fn.ntmps-l.length) undef) (i:=t) (by simpa using h1) (h:=by simpa using h3)
    simpa using this
   ·rfl
 ·rintro x a w' ⟨e,he,hq⟩
  cases x with
  | normal=>obtain ⟨v,h1,h2⟩:=hq;exact bodyPost_end (h1 a he) he.defers h2
  | ret=>obtain ⟨v,h1,h2⟩:=hq;exact bodyPost_ret (h1 a he) he.defers h2
  | _=>exact hq.elim
def rng (n:Int):Bool:=decide (-9223372036854775808≤n)&&decide (n≤9223372036854775807)
def ad (a b:Int):Option Int:=if rng (a+b) then some (a+b) else none
def sb (a b:Int):Option Int:=if rng (a-b) then some (a-b) else none
def ml (a b:Int):Option Int:=if rng (a*b) then some (a*b) else none
def qt (a b:Int):Option Int:=if b≠0∧rng (a.tdiv b) then some (a.tdiv b) else none
def rm (a b:Int):Option Int:=if b≠0 then some (a.tmod b) else none
def ix {α:Type} (xs:List α) (i:Int):Option α:=if 0≤i then xs[i.toNat]? else none
def bx (s:ByteArray) (i:Int):Option Int:=if 0≤i then (s[i.toNat]?).map (fun b=>(b.toNat:Int)) else none
def slc {α:Type} (xs:List α) (lo hi:Int):Option (List α):=if 0≤lo∧lo≤hi∧hi≤xs.length then some ((xs.take hi.toNat).drop lo.toNat) else none
def apd {α:Type} (bytes:Nat) (xs ys:List α):Option (List α):=if (xs.length+ys.length)*bytes≤140737488355328 then some (xs++ys) else none
def mk {α:Type} (bytes:Nat) (z:α) (n:Int):Option (List α):=if 0≤n∧n.toNat*bytes≤281474976710656∧n.toNat≤140737488355328 then some (List.replicate n.toNat z) else none
def sto {α:Type} (xs:List α) (i:Int) (y:α):Option (List α):=if 0≤i∧i.toNat<xs.length then some (xs.set i.toNat y) else none

theorem ob {α β:Type} {o:Option α} {f:α→Option β} {r:β} (h:o.bind f=some r):∃ x,o=some x∧f x=some r:=Option.bind_eq_some_iff.1 h
theorem oif {α:Type} {c:Bool} {x y:Option α} {r:α} (h:(bif c then x else y)=some r):(c=true∧x=some r)∨(c=false∧y=some r):=by
 cases c
 ·exact .inr ⟨rfl,h⟩
 ·exact .inl ⟨rfl,h⟩
theorem jQ {n:Int} (h:rng n=true):IntKind.i64.wrap n=n:=by
 simp only [rng,Bool.and_eq_true,decide_eq_true_eq] at h
 exact IntWalk.i64_in n h
theorem rr {a b c:Int} (h:ad a b=some c):rng (a+b)=true∧c=a+b:=by
 unfold ad at h;split at h
 ·exact ⟨by assumption,by simpa using h.symm⟩
 ·cases h
theorem rk {a b c:Int} (h:sb a b=some c):rng (a-b)=true∧c=a-b:=by
 unfold sb at h;split at h
 ·exact ⟨by assumption,by simpa using h.symm⟩
 ·cases h
theorem vu {a b c:Int} (h:ml a b=some c):rng (a*b)=true∧c=a*b:=by
 unfold ml at h;split at h
 ·exact ⟨by assumption,by simpa using h.symm⟩
 ·cases h
theorem eS {α:Type} {xs:List α} {i:Int} {x:α} (h:ix xs i=some x):∃ k:Nat,i=(k:Int)∧∃ h:k<xs.length,xs[k]=x:=by
 unfold ix at h
 split at h
 ·rename_i h0
  obtain ⟨h1,h2⟩:=List.getElem?_eq_some_iff.1 h
  exact ⟨i.toNat,by omega,h1,h2⟩
 ·cases h

section
variable {P:Program} {e:Env} {w w0:World} {d:Option Nat} {ty:TypeId} {pos:String} {af:Array Edge} {x y z:Operand} {Γ rΓ:List Asn}

theorem aq {v:Value} (hx:ev e x=v):PV P ⟨d,.move x,ty,pos,af,none⟩ e w v:=fun w' _=>by
 unfold execOp;simp only [hx];rfl
theorem gY {v:Value} (hx:ev e x=v):PV P ⟨d,.assign x,ty,pos,af,none⟩ e w v:=fun w' _=>by
 unfold execOp;simp only [hx];rfl
theorem ar {b:Bool} {v:Value} (hx:ev e x=.bool b) (hb:b=true) (hy:ev e y=v):PV P ⟨d,.pick x y z,ty,pos,af,none⟩ e w v:=fun w' _=>by
 unfold execOp;subst hb;simp [hx,hy,asBool]
theorem au {b:Bool} {v:Value} (hx:ev e x=.bool b) (hb:b=false) (hz:ev e z=v):PV P ⟨d,.pick x y z,ty,pos,af,none⟩ e w v:=fun w' _=>by
 unfold execOp;subst hb;simp [hx,hz,asBool]
theorem aK {t:TypeId} {b:Bool} (hx:ev e x=.bool b):PV P ⟨d,.unOp .not t x,ty,pos,af,none⟩ e w (.bool (!b)):=fun w' _=>by
 unfold execOp;simp [hx,Op.unary]
theorem iz {t:TypeId} {a c:Int} (hx:ev e x=.int .i64 a) (h:sb 0 a=some c):PV P ⟨d,.unOp .neg t x,ty,pos,af,none⟩ e w (.int .i64 c):=fun w' _=>by
 obtain ⟨h1,rfl⟩:=rk h
 unfold execOp;simp [hx,Op.unary,Op.intArith,jQ h1];simpa using jQ h1
section
variable {t u:TypeId} {a b c:Int}
theorem aE (hx:ev e x=.int .i64 a) (hy:ev e y=.int .i64 b) (h:ad a b=some c):PV P ⟨d,.binOp .add t x y u,ty,pos,af,none⟩ e w (.int .i64 c):=fun w' _=>by
 obtain ⟨h1,rfl⟩:=rr h
 unfold execOp;simp [hx,hy,eqGuard,binOp,Op.intArith,jQ h1]
theorem eV (hx:ev e x=.int .i64 a) (hy:ev e y=.int .i64 b) (h:sb a b=some c):PV P ⟨d,.binOp .sub t x y u,ty,pos,af,none⟩ e w (.int .i64 c):=fun w' _=>by
 obtain ⟨h1,rfl⟩:=rk h
 unfold execOp;simp [hx,hy,eqGuard,binOp,Op.intArith,jQ h1]
theorem dE (hx:ev e x=.int .i64 a) (hy:ev e y=.int .i64 b) (h:ml a b=some c):PV P ⟨d,.binOp .mul t x y u,ty,pos,af,none⟩ e w (.int .i64 c):=fun w' _=>by
 obtain ⟨h1,rfl⟩:=vu h
 unfold execOp;simp [hx,hy,eqGuard,binOp,Op.intArith,jQ h1]
theorem e9 (hx:ev e x=.int .i64 a) (hy:ev e y=.int .i64 b) (h:qt a b=some c):PV P ⟨d,.binOp .quo t x y u,ty,pos,af,none⟩ e w (.int .i64 c):=fun w' _=>by
 unfold qt at h;split at h
 ·rename_i h1
  obtain rfl:=Option.some.inj h
  unfold execOp;simp [hx,hy,eqGuard,binOp,Op.intDiv,h1.1,jQ h1.2]
 ·cases h
theorem j6 (hx:ev e x=.int .i64 a) (hy:ev e y=.int .i64 b) (h:rm a b=some c):PV P ⟨d,.binOp .rem t x y u,ty,pos,af,none⟩ e w (.int .i64 c):=fun w' _=>by
 unfold rm at h;split at h
 ·rename_i h1
  obtain rfl:=Option.some.inj h
  unfold execOp;simp [hx,hy,eqGuard,binOp,Op.intDiv,h1]
 ·cases h
theorem dx {k:IntKind} (hx:ev e x=.int k a) (hy:ev e y=.int k b):PV P ⟨d,.binOp .eql t x y u,ty,pos,af,none⟩ e w (.bool (a == b)):=fun w' _=>by
 unfold execOp;simp [hx,hy,eqGuard,binOp,Op.intCmp]
theorem cK {k:IntKind} (hx:ev e x=.int k a) (hy:ev e y=.int k b):PV P ⟨d,.binOp .neq t x y u,ty,pos,af,none⟩ e w (.bool (a != b)):=fun w' _=>by
 unfold execOp;simp [hx,hy,eqGuard,binOp,Op.intCmp]
theorem aG {k:IntKind} (hx:ev e x=.int k a) (hy:ev e y=.int k b):PV P ⟨d,.binOp .lss t x y u,ty,pos,af,none⟩ e w (.bool (decide (a<b))):=fun w' _=>by
 unfold execOp;simp [hx,hy,eqGuard,binOp,Op.intCmp]
theorem kI {k:IntKind} (hx:ev e x=.int k a) (hy:ev e y=.int k b):PV P ⟨d,.binOp .leq t x y u,ty,pos,af,none⟩ e w (.bool (decide (a≤b))):=fun w' _=>by
 unfold execOp;simp [hx,hy,eqGuard,binOp,Op.intCmp]
theorem et {k:IntKind} (hx:ev e x=.int k a) (hy:ev e y=.int k b):PV P ⟨d,.binOp .gtr t x y u,ty,pos,af,none⟩ e w (.bool (decide (b<a))):=fun w' _=>by
 unfold execOp;simp [hx,hy,eqGuard,binOp,Op.intCmp]
theorem lz {k:IntKind} (hx:ev e x=.int k a) (hy:ev e y=.int k b):PV P ⟨d,.binOp .geq t x y u,ty,pos,af,none⟩ e w (.bool (decide (b≤a))):=fun w' _=>by
 unfold execOp;simp [hx,hy,eqGuard,binOp,Op.intCmp]
end
def eqS (s r:ByteArray):Bool:=s.toList == r.toList
def ltS (s r:ByteArray):Bool:=Op.bytesLess s.toList r.toList
section
variable {t u:TypeId} {s r:ByteArray}
theorem v7 (hx:ev e x=.string s) (hy:ev e y=.string r):PV P ⟨d,.binOp .neq t x y u,ty,pos,af,none⟩ e w (.bool (!(eqS s r))):=fun w' _=>by
 unfold execOp eqS;simp [hx,hy,eqGuard,binOp,Op.stringOp]
end
theorem uZ (k:Nat) {t:TypeId} (ht:P.underlying t=some .bool) (a b:Bool) (w:World):(Op.equalIn (k+1) t (.bool a) (.bool b)).run P w=.ok (a == b) w:=by
 simp only [Op.equalIn,Sem.run_bind,run_underlying ht,Result.andThen_ok,Sem.run_pure]
theorem wx {t:TypeId} (ht:P.underlying t=some .bool) (a b:Bool) (w:World):(Op.equal t (.bool a) (.bool b)).run P w=.ok (a == b) w:=uZ 9999 ht a b w
theorem wB {t u:TypeId} {a b:Bool} (ht:P.underlying t=some .bool) (hx:ev e x=.bool a) (hy:ev e y=.bool b):PV P ⟨d,.binOp .neq t x y u,ty,pos,af,none⟩ e w (.bool (a != b)):=fun w' _=>by
 have h1:(eqGuard .neq t x y (.bool a) (.bool b)).run P w'=.ok () w':=by simp [eqGuard]
 have h2:(binOp .neq t (.bool a) (.bool b)).run P w'=.ok (.bool (a != b)) w':=by
  show (do pure (.bool (!(← Op.equal t (.bool a) (.bool b)))):Sem Value).run P w'=_
  simp only [Sem.run_bind,wx ht,Result.andThen_ok,Sem.run_pure]
  rfl
 unfold execOp
 simp only [hx,hy,Sem.run_bind,h1,h2,Result.andThen_ok,Sem.run_pure]
theorem am {k:Nat} {vs:Array Value} {v:Value} (hx:ev e x=.tuple vs) (h:vs[k]? = some v):PV P ⟨d,.extract x k,ty,pos,af,none⟩ e w v:=fun w' _=>by
 unfold execOp;simp [hx,Instr.extract,h]
theorem ku {t:TypeId} {s:ByteArray} (ht:P.underlying t=some .string) (hx:ev e x=.string s):PV P ⟨d,.call ⟨.builtin .len,#[x],#[t]⟩,ty,pos,af,none⟩ e w (.int .i64 s.size):=fun w' _=>by
 unfold execOp;simp [resolve,invoke,builtin,hx,Builtin.len_,run_underlying ht,goInt]
def imx (a b:Int):Int:=if a<b then b else a
theorem n0 {t t2:TypeId} {a b:Int} (hx:ev e x=.int .i64 a) (hy:ev e y=.int .i64 b):PV P ⟨d,.call ⟨.builtin .max,#[x,y],#[t,t2]⟩,ty,pos,af,none⟩ e w (.int .i64 (imx a b)):=fun w' _=>by
 unfold execOp imx;simp [resolve,invoke,builtin,hx,hy,Builtin.max_,Builtin.max2]
theorem pU {t:TypeId} {s:ByteArray} {i:Int} {k:IntKind} {b:Int} (ht:P.underlying t=some .string) (hx:ev e x=.string s) (hy:ev e y=.int k i) (h:bx s i=some b):PV P ⟨d,.index t x y,ty,pos,af,none⟩ e w (.int .u8 b):=fun w' _=>by
 unfold bx at h
 split at h
 ·rename_i h0
  cases hb:s[i.toNat]? with
  | none=>simp [hb] at h
  | some c =>
   simp [hb] at h;subst h
   unfold execOp;simp [hx,hy,Instr.index,asIntOf,run_underlying ht,h0,hb]
 ·cases h
class FldT (P:Program) (t:TypeId) (k:Nat) (off:outParam Nat):Prop where
 h:∃ fs f,P.underlying t=some (.struct fs)∧fs[k]? = some f∧f.offset=off∧((P.info? f.type).map fun i=>Nat.beq i.size 0)=some false
theorem aa {t:TypeId} {k off b o:Nat} [ht:FldT P t k off] (hx:ev e x=.pointer (some ⟨b,o,none⟩)):PV P ⟨d,.fieldAddr t x k,ty,pos,af,none⟩ e w (.pointer (some ⟨b,o+off,none⟩)):=fun w' _=>by
 obtain ⟨fs,f,h1,h2,h3,h4⟩:=ht.h
 cases hi:P.info? f.type with
 | none=>simp [hi] at h4
 | some i =>
  have h5:¬ i.size=0:=by
   intro e0
   simp [hi,e0] at h4
  unfold execOp
  simp [hx,Instr.fieldAt,run_underlying h1,h2,Instr.sureAddr,fieldPlace,sizeOf,typeInfo,hi,h5,h3,Addr.add_lit]
theorem p6 {w w':World} {p:Addr} {c:Value} (hE:Ext w w') (h:w.cell? p=some c):w'.cell? p=some c:=by rw [hE.cell (block_lt_of_cell h)];exact h
theorem aw {w w':World} {b off:Nat} {ec:List Value} (hE:Ext w w') (h:∀ j c,ec[j]? = some c→w.cell? ⟨b,off+j,none⟩=some c):∀ j c,ec[j]? = some c→w'.cell? ⟨b,off+j,none⟩=some c :=
 fun j c hj=>p6 hE (h j c hj)
theorem ab {t:TypeId} [PlainT P t] {p:Addr} {c:Value} (hx:ev e x=.pointer (some p)) (hc:w.cell? p=some c):PV P ⟨d,.load t x,ty,pos,af,none⟩ e w c:=fun w' hw'=>by
 unfold execOp
 simp only [hx,Instr.loadAt,Instr.sureAddr,Sem.run_bind,Sem.run_pure,Result.andThen_ok,mX (p6 hw' hc)]
theorem an {t:TypeId} {n b off:Nat} [AggT P t n] {cs:List Value} (hx:ev e x=.pointer (some ⟨b,off,none⟩)) (hn:cs.length=n) (hc:∀ j c,cs[j]? = some c→w.cell? ⟨b,off+j,none⟩=some c) :
  PV P ⟨d,.load t x,ty,pos,af,none⟩ e w (.agg cs.toArray):=fun w' hw'=>by
 unfold execOp
 simp only [hx,Instr.loadAt,Instr.sureAddr,Sem.run_bind,Sem.run_pure,Result.andThen_ok,jC hn (aw hw' hc)]
theorem az {α:Type} {R:Rep α} {E E':TypeId} {t:TypeId} [ht:SliceT P t E'] {wA:World} {v:Value} {xs:List α} (hx:ev e x=v) (hr:(aD R E).rd wA [v] xs) :
  PV P ⟨d,.call ⟨.builtin .len,#[x],#[t]⟩,ty,pos,af,none⟩ e w (.int .i64 xs.length):=fun w' _=>by
 obtain ⟨ao,cap,rfl⟩:=qB hr
 unfold execOp;simp [resolve,invoke,builtin,hx,Builtin.len_,run_underlying ht.h,goInt]
theorem lT {α:Type} {R:Rep α} {E E':TypeId} {t:TypeId} [ht:SliceT P t E'] {zz:List Value} {n bytes:Nat} [hz:ElemT P E' zz n bytes] {wA:World} {v:Value} {xs:List α} (hs:ev e x=v) (hr:(aD R E).rd wA [v] xs)
  (hn:R.sz=n) (hpos:0<n) {k:IntKind} {i:Int} (hi:ev e y=.int k i) {u:α} (h:ix xs i=some u) :
  ∃ b off ec,R.rd wA ec u∧(∀ j c,ec[j]? = some c→wA.cell? ⟨b,off+j,none⟩=some c)∧∀ w,PV P ⟨d,.indexAddr t x y,ty,pos,af,none⟩ e w (.pointer (some ⟨b,off,none⟩)):=by
 obtain ⟨k',rfl,hk,rfl⟩:=eS h
 obtain ⟨ao,cap,ccs,hv,h1,h2,h3,h4,h5⟩:=hr
 obtain rfl:v=.slice ao xs.length cap:=by simpa using hv
 obtain ⟨ec,hec,hcc⟩:=lx h4 k' hk
 have hz:=hz.h
 have hlen:=i6 h4
 cases hq:P.info? E' with
 | none=>simp [hq] at hz
 | some inf =>
  simp [hq] at hz
  obtain ⟨b,off,rfl,hc⟩:∃ b off,ao=some ⟨b,off,none⟩∧∀ j c,ccs[j]? = some c→wA.cell? ⟨b,off+j,none⟩=some c:=by
   rcases h5 with rfl | ⟨b,off,rfl,hc⟩
   ·have:0<xs.length*R.sz:=Nat.mul_pos (by omega) (by omega)
    simp at hlen
    omega
   ·exact ⟨b,off,rfl,hc⟩
  have hsz:inf.size=R.sz:=by rw [hn];exact hz.2.1
  refine ⟨b,off+k'*R.sz,ec,hec,fun j c hj=>by rw [Nat.add_assoc];exact hc _ _ (hcc j c hj),fun w w' _=>?_⟩
  unfold execOp
  simp [hs,hi,Instr.indexAt,asIntOf,run_underlying ht.h,sizeOf,typeInfo,hq,hk,Addr.add_lit,hsz]
end

section
variable {P:Program} {n:Nat} {ops:Array Oper} {K:Env→World→Prop} {KQ:Env→Prop} {rest:List Oper} {e:Env} {w w0 wA:World} {v:Value} {d:Nat} {ty:TypeId} {pos:String} {af:Array Edge} {Γ rΓ:List Asn} {x y:Operand} {α:Type} {R:Rep α} {E E':TypeId}
theorem aU {t:TypeId} [SliceT P t E'] {zz:List Value} {m bytes:Nat} [ElemT P E' zz m bytes] {xs:List α} (hs:ev e x=v) (hr:(aD R E).rd wA [v] xs)
  (hn:R.sz=m) (hpos:0<m) {k:IntKind} {i:Int} (hi:ev e y=.int k i) {u:α} (h:ix xs i=some u) (hd:d<n)
  (hK:∀ b off ec,R.rd wA ec u→(∀ j c,ec[j]? = some c→wA.cell? ⟨b,off+j,none⟩=some c)→EL P n ops K rest (upd e d (.pointer (some ⟨b,off,none⟩))) w):EL P n ops K (⟨some d,.indexAddr t x y,ty,pos,af,none⟩ :: rest) e w:=by
 obtain ⟨b,off,ec,h1,h2,h3⟩:=lT (P:=P) (d:=some d) (ty:=ty) (pos:=pos) (af:=af) (t:=t) hs hr hn hpos hi h
 exact kn (h3 _) hd (hK b off ec h1 h2)
theorem cS {t:TypeId} [SliceT P t E'] {zz:List Value} {m bytes:Nat} [ElemT P E' zz m bytes] {xs:List α} (hs:ev e x=v) (hr:(aD R E).rd wA [v] xs)
  (hn:R.sz=m) (hpos:0<m) {k:IntKind} {i:Int} (hi:ev e y=.int k i) {u:α} (h:ix xs i=some u) (hd:d<n)
  (hK:∀ b off ec,R.rd wA ec u→(∀ j c,ec[j]? = some c→wA.cell? ⟨b,off+j,none⟩=some c)→QL P n ops w KQ rest (upd e d (.pointer (some ⟨b,off,none⟩)))):QL P n ops w KQ (⟨some d,.indexAddr t x y,ty,pos,af,none⟩ :: rest) e:=by
 obtain ⟨b,off,ec,h1,h2,h3⟩:=lT (P:=P) (d:=some d) (ty:=ty) (pos:=pos) (af:=af) (t:=t) hs hr hn hpos hi h
 exact oQ (h3 _) hd (hK b off ec h1 h2)
theorem be {t:TypeId} (cs:List Value) (hx:(ev e x).cells=cs.toArray) (hS:Sat w0 w Γ) (hd:d<n)
  (hK:∀ w' b,Sat w0 w' (Box b t cs :: Γ)→Ext w w'→EL P n ops K rest (upd e d (.pointer (some ⟨b,0,none⟩))) w'):EL P n ops K (⟨some d,.box t x,ty,pos,af,none⟩ :: rest) e w :=
 fun a ha=>vx rfl rfl cs (by rw [ha.eval];exact hx) hS fun w' b h1 h2=>hK w' b h1 h2 _ (ha.put hd _)
theorem aB {t:TypeId} {cs:List Value} {m bytes:Nat} [ElemT P t cs m bytes] (hS:Sat w0 w Γ) (hd:d<n)
  (hK:∀ w' b,Sat w0 w' (Box b t cs :: Γ)→Ext w w'→EL P n ops K rest (upd e d (.pointer (some ⟨b,0,none⟩))) w'):EL P n ops K (⟨some d,.alloc t,ty,pos,af,none⟩ :: rest) e w :=
 fun _ ha=>tU rfl rfl hS fun w' b h1 h2=>hK w' b h1 h2 _ (ha.put hd _)
theorem ak {t:TypeId} {z:List Value} {m bytes:Nat} [ElemT P t z m bytes] (hS:Sat w0 w Γ) {b j:Nat} (hx:ev e x=.pointer (some ⟨b,j,none⟩))
  {E:TypeId} {cs:List Value} [AtBox Γ b E cs rΓ] (vs:List Value) (hy:(ev e y).cells=vs.toArray) (hn:vs.length=m) (hl:j+m≤cs.length) (h1:vs.all (·.oneCell')=true)
  (hK:∀ w',Sat w0 w' (Box b E (cs.take j++vs++cs.drop (j+m)) :: rΓ)→EL P n ops K rest e w'):EL P n ops K (⟨none,.store t x y,ty,pos,af,none⟩ :: rest) e w :=
 fun _ ha=>sa rfl rfl hS (by rw [ha.eval];exact hx) vs (by rw [ha.eval];exact hy) hn hl h1 fun w' h1=>hK w' h1 _ ha
theorem tR {t:TypeId} {z:List Value} {m bytes:Nat} [ElemT P t z m bytes] (hn:R.sz=m) {ec:List Value} {yv:α} {xs ys:List α} {g ln cap:Nat}
  (hS:Sat w0 w (Own R ec yv :: Own (aD R E) [.slice (some ⟨g,0,none⟩) ln cap] xs :: Γ)) (k off:Nat) {i:Int} (hi:i=(k:Int)) (h:sto xs i yv=some ys) (hoff:off=k*m) (hx:ev e x=.pointer (some ⟨g,off,none⟩)) (hy:(ev e y).cells=ec.toArray)
  (hK:∀ w',Sat w0 w' (Own (aD R E) [.slice (some ⟨g,0,none⟩) ln cap] ys :: Γ)→EL P n ops K rest e w'):EL P n ops K (⟨none,.store t x y,ty,pos,af,none⟩ :: rest) e w:=by
 intro a ha
 subst hi
 unfold sto at h
 split at h
 ·rename_i h0
  obtain rfl:=Option.some.inj h
  simp only [Int.toNat_natCast] at h0 hK
  exact sv rfl rfl hn hS k off h0.2 hoff (by rw [ha.eval];exact hx) (by rw [ha.eval];exact hy) fun w' h1=>hK w' h1 _ ha
 ·cases h
theorem aT {t:TypeId} [SliceT P t E] {z:List Value} {m bytes:Nat} [ElemT P E z m bytes] (hn:R.sz=m) (hpos:0<m) (hzl:z.length=m) (hb0:0<bytes)
  {xs:List α} {ccs:List Value} {ys zs:List α} (hS:Sat w0 w (my R ccs ys :: Own (aD R E) [v] xs :: Γ)) (hs:ev e x=v)
  {ao:Option Addr} {ln c:Nat} (hx:ev e y=.slice ao ln c) (hm:ln=ys.length) (hnone:ao=none→c=0) (hrow:kQ w ao ccs) (h:apd bytes xs ys=some zs) (hd:d<n)
  (hK:∀ w' v',Sat w0 w' (Own (aD R E) [v'] zs :: Γ)→EL P n ops K rest (upd e d v') w'):EL P n ops K (⟨some d,.call ⟨.builtin .append,#[x,y],#[t,t]⟩,ty,pos,af,none⟩ :: rest) e w:=by
 intro a ha
 unfold apd at h
 split at h
 ·rename_i hby
  obtain rfl:=Option.some.inj h
  exact su rfl rfl hn hpos hzl hb0 hS (by rw [ha.eval];exact hs) (by rw [ha.eval];exact hx) hm hnone hrow hby fun v' w' h1=>hK w' v' h1 _ (ha.put hd _)
 ·cases h
theorem lu {t:TypeId} [SliceT P t E] {z:List Value} {m bytes:Nat} [ElemT P E z m bytes] (hn:R.sz=m) (hpos:0<m) (hzl:z.length=m) {x0:α} (hx0:∀ w,R.own w z x0 []) {i:Int} {xs:List α}
  (hl:ev e x=.int .i64 i) (hc:ev e y=.int .i64 i) (h:mk bytes x0 i=some xs) (hS:Sat w0 w Γ) (hd:d<n)
  (hK:∀ w' g k,Sat w0 w' (Own (aD R E) [.slice (some ⟨g,0,none⟩) k k] xs :: Γ)→Ext w w'→xs.length=k→EL P n ops K rest (upd e d (.slice (some ⟨g,0,none⟩) k k)) w'):EL P n ops K (⟨some d,.makeSlice t x y,ty,pos,af,none⟩ :: rest) e w:=by
 intro a ha
 unfold mk at h
 split at h
 ·rename_i h0
  obtain rfl:=Option.some.inj h
  exact uq rfl rfl hn hpos hzl hx0 (by rw [ha.eval];exact hl) (by rw [ha.eval];exact hc) i.toNat (by omega) (by omega) h0.2.1 h0.2.2 hS fun w' g h1 h2=>hK w' g _ h1 h2 (by simp) _ (ha.put hd _)
 ·cases h
theorem aI {t u:TypeId} [SliceT P t u] {z:List Value} {m bytes:Nat} [ElemT P u z m bytes] (cs:List Value) (hcs:(ev e x).cells=cs.toArray) (hl:cs.length=m) (hpos:0<m) (hzl:z.length=m) (hn:m≤16)
  (hS:Sat w0 w Γ) (hd:d<n) (hK:∀ w' b,Sat w0 w' (Box b u cs :: Γ)→Ext w w'→EL P n ops K rest (upd e d (.slice (some ⟨b,0,none⟩) 1 1)) w'):EL P n ops K (⟨some d,.buildSlice t 1 #[(0,x)],ty,pos,af,none⟩ :: rest) e w :=
 fun _ ha=>oo rfl rfl (by rw [ha.eval];exact hcs) hl hpos hzl hn hS fun w' b h1 h2=>hK w' b h1 h2 _ (ha.put hd _)
theorem aY (R:Rep α) {t:TypeId} [SliceT P t E] {z:List Value} {m bytes:Nat} [ElemT P E z m bytes] (hS:Sat w0 w Γ) (hd:d<n)
  (hK:∀ w' v,Sat w0 w' (Own (aD R E) [v] [] :: Γ)→Ext w w'→EL P n ops K rest (upd e d v) w'):EL P n ops K (⟨some d,.buildSlice t 0 #[],ty,pos,af,none⟩ :: rest) e w :=
 fun _ ha=>nQ R rfl rfl hS fun w' b h1 h2=>hK w' _ h1 h2 _ (ha.put hd _)
theorem qw {t:TypeId} {lo hi:Option Operand} [ht:SliceT P t E'] {z:List Value} {m bytes:Nat} [hz:ElemT P E' z m bytes] (hn:R.sz=m) {d:Option Nat}
    (hx:ev e x=v) {xs ys:List α} (hr:(aD R E).rd wA [v] xs) {l h:Int} (hlo:(lo.map (ev e)=some (.int .i64 l))∨(lo=none∧l=0)) (hhi:(hi.map (ev e)=some (.int .i64 h))∨(hi=none∧h=xs.length)) (hq:slc xs l h=some ys) :
    ∃ v',(aD R E).rd wA [v'] ys∧∀ w,PV P ⟨d,.slice t x lo hi none,ty,pos,af,none⟩ e w v':=by
  unfold slc at hq
  split at hq
  case isFalse=>cases hq
  rename_i h0
  obtain rfl:=Option.some.inj hq
  obtain ⟨l',rfl⟩:=Int.eq_ofNat_of_zero_le h0.1
  obtain ⟨h',rfl⟩:=Int.eq_ofNat_of_zero_le (Int.le_trans h0.1 h0.2.1)
  obtain ⟨_,hlh,hh⟩:=h0
  replace hlh:l'≤h':=by omega
  replace hh:h'≤xs.length:=by omega
  simp only [Int.toNat_natCast]
  obtain ⟨ao,cap,ccs,hv,h1,h2,h3,h4,h5⟩:=hr
  obtain rfl:v=.slice ao xs.length cap:=by simpa using hv
  have hz:=hz.h
  cases hq:P.info? E' with
  | none=>simp [hq] at hz
  | some inf =>
    simp [hq] at hz
    have hcap:h'≤cap:=by omega
    have hsz:inf.size=R.sz:=by rw [hn];exact hz.2.1
    have hlen:((xs.take h').drop l').length=h' - l':=by simp;omega
    have hccl:=i6 h4
    have hrd:=(j4 l' (j4 h' h4).1).2
    refine ⟨.slice (if cap=l' then ao else ao.map (·.add (l'*inf.size))) (h' - l') (cap-l'),⟨_,cap-l',_,by rw [hlen],by rw [hlen];omega,by omega,?_,hrd,?_⟩,fun w w' _=>?_⟩
    · intro e
      split at e
      · omega
      · cases ao with
        | none=>have:=h3 rfl;omega
        | some _=>simp at e
    · by_cases hcl:cap=l'
      · left
        have:h'=l':=by omega
        subst this
        apply List.eq_nil_of_length_eq_zero
        simp
      · rw [if_neg hcl]
        rcases h5 with rfl | ⟨b,off,rfl,h5⟩
        · left;simp
        · right
          refine ⟨b,off+l'*R.sz,by rw [hsz];simp [Addr.add_lit],fun j c hj=>?_⟩
          rw [List.getElem?_drop,List.getElem?_take] at hj
          split at hj
          · rw [Nat.add_assoc];exact h5 _ c hj
          · cases hj
    · have hb:(Instr.sliceBounds true xs.length cap (lo.map (ev e)) (hi.map (ev e)) none).run P w'=.ok (l',h',cap) w':=by
        rcases hlo with e1 | ⟨e1,e1'⟩ <;> rcases hhi with e2 | ⟨e2,e2'⟩
        all_goals
          (try rw [e1]);(try rw [e2])
          first
            | (simp [Instr.sliceBounds,Instr.sliceBound,asIntOf,hcap,hlh];done)
            | (have:l'=0:=by omega
               subst this
               simp [Instr.sliceBounds,Instr.sliceBound,asIntOf,hcap,hlh];done)
            | (have:h'=xs.length:=by omega
               subst this
               simp [Instr.sliceBounds,Instr.sliceBound,asIntOf,hcap,hlh];done)
            | (have:l'=0:=by omega
               have:h'=xs.length:=by omega
               subst_vars
               simp [Instr.sliceBounds,Instr.sliceBound,asIntOf])
      unfold execOp
      simp only [hx,Instr.sliceAt,Sem.run_bind,run_underlying ht.h,Result.andThen_ok,Instr.slice,hb,sizeOf,typeInfo,hq,run_program,Sem.run_pure,Option.map_none]
theorem uu {t:TypeId} {lo hi:Option Operand} [SliceT P t E'] {z:List Value} {m bytes:Nat} [ElemT P E' z m bytes] (hn:R.sz=m)
  (hx:ev e x=v) {xs ys:List α} (hr:(aD R E).rd wA [v] xs) {l h:Int} (hlo:(lo.map (ev e)=some (.int .i64 l))∨(lo=none∧l=0)) (hhi:(hi.map (ev e)=some (.int .i64 h))∨(hi=none∧h=xs.length)) (hq:slc xs l h=some ys) (hd:d<n)
  (hK:∀ v',(aD R E).rd wA [v'] ys→EL P n ops K rest (upd e d v') w):EL P n ops K (⟨some d,.slice t x lo hi none,ty,pos,af,none⟩ :: rest) e w:=by
 obtain ⟨v',h1,h2⟩:=qw (P:=P) (d:=some d) (ty:=ty) (pos:=pos) (af:=af) (t:=t) hn hx hr hlo hhi hq
 exact kn (h2 _) hd (hK v' h1)
theorem uM {t:TypeId} {lo hi:Option Operand} [SliceT P t E'] {z:List Value} {m bytes:Nat} [ElemT P E' z m bytes] (hn:R.sz=m)
  (hx:ev e x=v) {xs ys:List α} (hr:(aD R E).rd wA [v] xs) {l h:Int} (hlo:(lo.map (ev e)=some (.int .i64 l))∨(lo=none∧l=0)) (hhi:(hi.map (ev e)=some (.int .i64 h))∨(hi=none∧h=xs.length)) (hq:slc xs l h=some ys) (hd:d<n)
  (hK:∀ v',(aD R E).rd wA [v'] ys→QL P n ops w KQ rest (upd e d v')):QL P n ops w KQ (⟨some d,.slice t x lo hi none,ty,pos,af,none⟩ :: rest) e:=by
 obtain ⟨v',h1,h2⟩:=qw (P:=P) (d:=some d) (ty:=ty) (pos:=pos) (af:=af) (t:=t) hn hx hr hlo hhi hq
 exact oQ (h2 _) hd (hK v' h1)
end
section
variable {P:Program} {fn:Func} {n:Nat} {e:Env} {w:World} {R:Ending→World→Prop}
theorem aF {t:Tmp} (h:fn.results=#[.tmp t]) {v:Value} (ht:e t=v) (hR:R (.returned v) w):Fin P fn n R .ret e w :=
 ⟨v,fun a ha=>by rw [results_tmp h,ha.get,ht],hR⟩
theorem yW (h:Fin P fn n R .ret e w):Fin P fn n R .normal e w:=h
theorem bX {t u:Tmp} (h:fn.results=#[.tmp t,.tmp u]) {v v2:Value} (ht:e t=v) (hu:e u=v2) (hR:R (.returned (.tuple #[v,v2])) w):Fin P fn n R .ret e w :=
 ⟨_,fun a ha=>by rw [results_tmp2 h,ha.get,ha.get,ht,hu],hR⟩
theorem qv {p:Tmp} {ty:TypeId} {m:Nat} [AggT P ty m] (h:fn.results=#[.cell p ty]) {b off:Nat} {cs:List Value} (hp:e p=.pointer (some ⟨b,off,none⟩)) (hm:cs.length=m) (hc:∀ j c,cs[j]? = some c→w.cell? ⟨b,off+j,none⟩=some c) (hR:R (.returned (.agg cs.toArray)) w) :
  Fin P fn n R .ret e w:=by
 refine ⟨_,fun a ha=>?_,hR⟩
 have h1:a.tmps.getD p undef=.pointer (some ⟨b,off,none⟩):=by rw [ha.get,hp]
 have h1':a.tmps[p]?.getD undef=.pointer (some ⟨b,off,none⟩):=by simpa using h1
 simp [results,h,h1',asAddr,jC (P:=P) (t:=ty) hm hc]
theorem bh {p t:Tmp} {ty:TypeId} {m:Nat} [AggT P ty m] (h:fn.results=#[.cell p ty,.tmp t]) {b off:Nat} {cs:List Value} {v2:Value} (hp:e p=.pointer (some ⟨b,off,none⟩)) (hm:cs.length=m) (hc:∀ j c,cs[j]? = some c→w.cell? ⟨b,off+j,none⟩=some c) (ht:e t=v2) (hR:R (.returned (.tuple #[.agg cs.toArray,v2])) w) :
  Fin P fn n R .ret e w:=by
 refine ⟨_,fun a ha=>?_,hR⟩
 have h1:a.tmps.getD p undef=.pointer (some ⟨b,off,none⟩):=by rw [ha.get,hp]
 have h1':a.tmps[p]?.getD undef=.pointer (some ⟨b,off,none⟩):=by simpa using h1
 have h2:a.tmps.getD t undef=v2:=by rw [ha.get,ht]
 have h2':a.tmps[t]?.getD undef=v2:=by simpa using h2
 simp [results,h,h1',h2',asAddr,jC (P:=P) (t:=ty) hm hc]
end
def kX:Rep Bool where
 sz:=1
 rd _ cs b:=cs=[.bool b]
 own _ cs b fp:=cs=[.bool b]∧fp=[]
 rd_len h:=by subst h;rfl
 rd_one h:=by subst h;simp [Value.oneCell']
 rd_ext h _:=h
 own_rd h:=h.1
 own_ext h _:=h
 own_lt h:=by rw [h.2];simp
def u8R:Rep Int where
 sz:=1
 rd _ cs n:=cs=[.int .u8 n]
 own _ cs n fp:=cs=[.int .u8 n]∧fp=[]
 rd_len h:=by subst h;rfl
 rd_one h:=by subst h;simp [Value.oneCell']
 rd_ext h _:=h
 own_rd h:=h.1
 own_ext h _:=h
 own_lt h:=by rw [h.2];simp

def lpS {R V S:Type} (s:Sum R V) (f:R→Option S) (g:V→Option S):Option S:=match s with | .inl r=>f r | .inr v=>g v
def lpB {V S:Type} (s:V) (g:V→Option S):Option S:=g s
theorem exA {R V S:Type} {s:Sum R V} {v:V} {f:R→Option S} {g:V→Option S} {r:S} (h:some (Sum.inr v)=some s) (hK:lpS s f g=some r):g v=some r:=by cases h;exact hK
theorem exL {R V S:Type} {s:Sum R V} {q:R} {f:R→Option S} {g:V→Option S} {r:S} (h:some (Sum.inl q)=some s) (hK:lpS s f g=some r):f q=some r:=by cases h;exact hK
theorem exB {V S:Type} {s v:V} {g:V→Option S} {r:S} (h:some v=some s) (hK:lpB s g=some r):g v=some r:=by cases h;exact hK
theorem ag {α β:Type} {f:α→β} {a:α} {b:β} {l:List α} {m:List β} (h:f a=b) (t:l.map f=m):(a :: l).map f=b :: m:=by rw [List.map_cons,h,t]
theorem ai {x:Bool} (h:x=true):(!x)=false:=by rw [h];rfl
theorem aj {x:Bool} (h:x=false):(!x)=true:=by rw [h];rfl

theorem fB {P:Program} {n:Nat} {ops:Array Oper} {K:Env→World→Prop} {rest:List Oper} {e:Env} {w:World} {op:Op} {ty:TypeId} {pos:String} {af:Array Edge} {j:Nat} {b':Bool} {d:Nat} (h:(match (ops[j]?).bind (·.dst) with | some t=>e t | none=>undef)=undef) (hd:d<n) (hK:EL P n ops K rest (upd e d undef) w):EL P n ops K (⟨some d,op,ty,pos,af,some (j,b')⟩ :: rest) e w:=by
 intro a ha
 have hy:yielded ops a.tmps j=none:=qE ha h
 unfold wpList
 rw [if_neg (by simp [Region.wanted,hy])]
 exact hK _ (ha.put hd _)
theorem oc {w:World} {α:Type} {R:Rep α} {E:TypeId} {v:Value} {xs:List α} (h:(aD R E).rd w [v] xs):v.oneCell'=true:=(aD R E).rd_one h v (List.mem_singleton.2 rfl)
theorem bc {e:Env} {x:Operand} {v:Value} (h:ev e x=v) (h1:v.oneCell'=true):(ev e x).cells=[v].toArray:=by rw [h];exact sE h1
theorem all_cons {α:Type} {p:α→Bool} {a:α} {l:List α} (h:p a=true) (t:l.all p=true):(a :: l).all p=true:=by simp [h,t]
section
variable {w w0 wA:World} {Γ rest:List Asn} {α:Type} {R:Rep α} {E:TypeId} {v:Value} {xs:List α}
theorem Sat.top (i:Nat) {A:Asn} (h:Sat w0 w Γ) (hi:Γ[i]? = some A):Sat w0 w (A :: Γ.eraseIdx i):=by
 refine h.perm ?_
 clear h
 induction Γ generalizing i with
 | nil=>simp at hi
 | cons B Γ ih =>
  cases i with
  | zero=>simp at hi;subst hi;exact .refl _
  | succ i =>
   simp at hi
   exact (List.Perm.cons B (ih i hi)).trans (.swap _ _ _)
theorem Sat.rem (i:Nat) {A:Asn} (h:Sat w0 w Γ) (hi:Γ[i]? = some A):Sat w0 w (Γ.eraseIdx i):=(h.top i hi).tail
theorem Sat.rdAt (i:Nat) {cs:List Value} {x:α} {R:Rep α} (h:Sat w0 w Γ) (hi:Γ[i]? = some (Own R cs x)):R.rd w cs x:=(h.top i hi).rd
theorem Sat.nil (R:Rep α) (E:TypeId) (h:Sat w0 w Γ):Sat w0 w (Own (aD R E) [.slice none 0 0] [] :: Γ):=h.add (.inl ⟨rfl,rfl,rfl⟩)
theorem Sat.bool (h:Sat w0 w Γ) (b:Bool):Sat w0 w (Own kX [.bool b] b :: Γ):=h.add ⟨rfl,rfl⟩
theorem Sat.u8 (h:Sat w0 w Γ) (n:Int):Sat w0 w (Own u8R [.int .u8 n] n :: Γ):=h.add ⟨rfl,rfl⟩
theorem aN {cs:List Value} (h:(aD R E).rd w cs xs):∃ v,cs=[v]:=List.length_eq_one_iff.1 ((aD R E).rd_len h)
theorem fN {cs:List Value} {x:α} (h:R.rd w0 cs x) (hx:Ext w0 w):R.rd w cs x:=R.rd_ext h hx
theorem Sat.up {cs:List Value} {x:α} (hS:Sat w0 w Γ) (h:R.rd w0 cs x):R.rd w cs x:=R.rd_ext h hS.below
theorem Sat.boxAt (i:Nat) {b:Nat} {cs:List Value} (h:Sat w0 w Γ) (hi:Γ[i]? = some (Box b E cs)):∀ j c,cs[j]? = some c→w.cell? ⟨b,j,none⟩=some c:=by
 have h2:=h.top i hi
 exact h2.boxCell
theorem av {b:Nat} {cs:List Value} (h:∀ j c,cs[j]? = some c→w.cell? ⟨b,j,none⟩=some c):∀ j c,cs[j]? = some c→w.cell? ⟨b,0+j,none⟩=some c:=by
 intro j c hj;rw [Nat.zero_add];exact h j c hj
theorem Sat.boxRow (i:Nat) {b:Nat} {cs:List Value} (h:Sat w0 w Γ) (hi:Γ[i]? = some (Box b E cs)):kQ w (some ⟨b,0,none⟩) cs :=
 .inr ⟨b,0,rfl,av (h.boxAt i hi)⟩
theorem Sat.lit1 {b:Nat} {cs:List Value} {y:α} (h:Sat w0 w (Box b E cs :: Own R cs y :: Γ)):Sat w0 w (Own (aD R E) [.slice (some ⟨b,0,none⟩) 1 1] [y] :: Γ):=by
 refine h.join ?_
 rintro f g ⟨rfl,h1⟩ h2
 have hl:=R.rd_len (R.own_rd h2)
 refine .inr ⟨b,1,cs.toArray,cs,g,rfl,h1,by simp,by unfold maxLen;omega,by simp [hl],by simp [← hl],⟨cs,[],g,[],by simp,by simp,h2,rfl,rfl⟩,by simp⟩
theorem uW {ccs:List Value} {ys:List Int} (h:rdL bH w ccs ys):ccs=ys.map (Value.int .i64):=by
 induction ys generalizing ccs with
 | nil=>simpa [rdL] using h
 | cons y ys ih =>
  obtain ⟨ec,r,rfl,h1,h2⟩:=h
  obtain rfl:=ih h2
  have:ec=[.int .i64 y]:=h1
  rw [this];rfl
theorem qO {v:Value} {ys:List Int} (h:(aD bH E).rd w [v] ys):∃ ao c,v=.slice ao ys.length c∧(ao=none→c=0)∧kQ w ao (ys.map (Value.int .i64)):=by
 obtain ⟨ao,cap,ccs,hv,h1,h2,h3,h4,h5⟩:=h
 obtain rfl:=uW h4
 exact ⟨ao,cap,by simpa using hv,h3,h5⟩
end
section
variable {P:Program} {n:Nat} {ops:Array Oper} {K:Env→World→Prop} {rest:List Oper} {e:Env} {w w0 wA:World} {v:Value} {d:Nat} {ty:TypeId} {pos:String} {af:Array Edge} {Γ rΓ:List Asn} {x y:Operand} {α:Type} {R:Rep α} {E E':TypeId}
theorem fg {t:TypeId} [ht:SliceT P t E] {zz:List Value} {m bytes:Nat} [hz:ElemT P E zz m bytes] {xs:List α} (hS:Sat w0 w (Own (aD R E) [v] xs :: Γ)) (hs:ev e x=v)
  (hn:R.sz=m) (hpos:0<m) {k:IntKind} {i:Int} (hi:ev e y=.int k i) {u:α} (h:ix xs i=some u) (hd:d<n)
  (hK:∀ g cap ec,v=.slice (some ⟨g,0,none⟩) xs.length cap→R.rd w ec u→(∀ j c,ec[j]? = some c→w.cell? ⟨g,i.toNat*m+j,none⟩=some c)→EL P n ops K rest (upd e d (.pointer (some ⟨g,i.toNat*m,none⟩))) w) :
  EL P n ops K (⟨some d,.indexAddr t x y,ty,pos,af,none⟩ :: rest) e w:=by
 obtain ⟨k',rfl,hk,rfl⟩:=eS h
 obtain ⟨fp,hv,_⟩:=hS.head
 rcases hv with ⟨_,h2,_⟩ | ⟨g,cap,cur,ccs,f2,hv,hg,h1,h2,h3,h4,h5,rfl⟩
 ·subst h2;simp at hk
 obtain rfl:v=.slice (some ⟨g,0,none⟩) xs.length cap:=by simpa using hv
 obtain ⟨ec,hec,hcc⟩:=lx (hG h5) k' hk
 have hz:=hz.h
 cases hq:P.info? E with
 | none=>simp [hq] at hz
 | some inf =>
  simp [hq] at hz
  have hsz:inf.size=m:=hz.2.1
  refine kn (v:=.pointer (some ⟨g,k'*m,none⟩)) ?_ hd ?_
  ·intro w' _
   unfold execOp
   simp [hs,hi,Instr.indexAt,asIntOf,run_underlying ht.h,sizeOf,typeInfo,hq,hk,Addr.add_lit,hsz]
  ·refine hK g cap ec rfl hec ?_
   intro j c hj
   have h0:=hcc j c hj
   simp only [Int.toNat_natCast]
   rw [cell_of_row w g _ cur E (0,0) hg,← Array.getElem?_toList]
   rw [← h4,List.getElem?_take] at h0
   rw [← hn]
   split at h0
   ·exact h0
   ·cases h0
theorem fS {t:TypeId} {z:List Value} {m bytes:Nat} [ElemT P t z m bytes] (hn:R.sz=m) {ec:List Value} {yv:α} {xs ys:List α} {g ln cap:Nat} (hv:v=.slice (some ⟨g,0,none⟩) ln cap)
  (hS:Sat w0 w (Own R ec yv :: Own (aD R E) [v] xs :: Γ)) {i:Int} (h:sto xs i yv=some ys) (hx:ev e x=.pointer (some ⟨g,i.toNat*m,none⟩)) (hy:(ev e y).cells=ec.toArray)
  (hK:∀ w',Sat w0 w' (Own (aD R E) [v] ys :: Γ)→EL P n ops K rest e w'):EL P n ops K (⟨none,.store t x y,ty,pos,af,none⟩ :: rest) e w:=by
 subst hv
 have h0:0≤i:=by
  unfold sto at h;split at h
  ·rename_i h1;exact h1.1
  ·cases h
 exact tR hn hS i.toNat (i.toNat*m) (by omega) h rfl hx hy hK
end
class BldT (P:Program) (t:TypeId) (pl:outParam (Array (Nat × Nat))):Prop where
 h:∃ fs,P.underlying t=some (.struct fs)∧∀ w,(fs.mapM (fun f=>do pure (f.offset,← sizeOf f.type)):Sem (Array (Nat × Nat))).run P w=.ok pl w
def oL (place:Nat→Option (Nat × Nat)) (cells:List Value):List (Nat × List Value)→Option (List Value)
  | []=>some cells
  | (i,v) :: rest=>match place i with
    | none=>none
    | some (off,size)=>bif Nat.beq v.length size&&Nat.ble (off+v.length) cells.length then oL place (cells.take off++v++cells.drop (off+v.length)) rest else none
theorem pu:∀ (v:List Value) (off k:Nat) (cells:List Value),off+k+v.length≤cells.length →
  ((v.zipIdx k).foldl (fun (cs:Array Value) (c:Value × Nat)=>cs.setIfInBounds (off+c.2) c.1) cells.toArray)=(cells.take (off+k)++v++cells.drop (off+k+v.length)).toArray
 | [],off,k,cells,h=>by simp
 | x :: v,off,k,cells,h=>by
  simp only [List.length_cons] at h
  have hi:off+k<cells.length:=by omega
  simp only [List.zipIdx_cons,List.foldl_cons,List.setIfInBounds_toArray]
  rw [pu v off (k+1) (cells.set (off+k) x) (by simp;omega)]
  have e1:(cells.set (off+k) x).take (off+(k+1))=cells.take (off+k)++[x]:=by
   rw [show off+(k+1)=(off+k)+1 by omega,List.take_set,List.take_succ_eq_append_getElem hi,List.set_append_right _ _ (by simp;omega)]
   simp [show min (off+k) cells.length=off+k by omega]
  have e2:(cells.set (off+k) x).drop (off+(k+1)+v.length)=cells.drop (off+k+(x :: v).length):=by
   rw [List.drop_set_of_lt (by omega)]
   congr 1
   simp only [List.length_cons];omega
  rw [e1,e2];simp
theorem rc (place:Nat→Option (Nat × Nat)):∀ (ps:List (Nat × Value)) (qs:List (Nat × List Value)) (cells:List Value) {r:List Value},ps.map (fun p=>(p.1,p.2.cells))=qs.map (fun q=>(q.1,q.2.toArray))→oL place cells qs=some r→Instr.fill place cells.toArray ps=some r.toArray
  | [],[],cells,r,_,h=>by simp only [oL,Option.some.injEq] at h;subst h;rfl
  | [],_ :: _,_,_,h,_=>by simp at h
  | _ :: _,[],_,_,h,_=>by simp at h
  | (i,v) :: ps,(j,c) :: qs,cells,r,h,hf=>by
    simp only [List.map_cons,List.cons.injEq,Prod.mk.injEq] at h
    obtain ⟨⟨rfl,hc⟩,ht⟩:=h
    unfold oL at hf
    unfold Instr.fill
    cases hp:place i with
    | none=>simp [hp] at hf
    | some os =>
      obtain ⟨off,size⟩:=os
      simp only [hp] at hf ⊢
      cases hb:(Nat.beq c.length size&&Nat.ble (off+c.length) cells.length) with
      | false=>rw [hb] at hf;cases hf
      | true =>
        rw [hb] at hf
        simp only [Bool.and_eq_true] at hb
        have h1:=Nat.eq_of_beq_eq_true hb.1
        have h2:=Nat.le_of_ble_eq_true hb.2
        rw [hc]
        have hn:(decide (c.toArray.size≠size)||decide (off+c.toArray.size > cells.toArray.size))=false:=by simp;omega
        rw [if_neg (by simp only [hn];simp)]
        have:=pu c off 0 cells (by omega)
        simp only [Nat.add_zero] at this
        have e:c.toArray.zipIdx.foldl (fun cs (c,j)=>cs.setIfInBounds (off+j) c) cells.toArray=(cells.take off++c++cells.drop (off+c.length)).toArray:=by
          rw [← this]
          simp
        rw [e]
        exact rc place ps qs _ ht hf
theorem aQ {P:Program} {e:Env} {w:World} {d:Option Nat} {ty:TypeId} {pos:String} {af:Array Edge} {t:TypeId} {z:List Value} {n bytes:Nat} {pl:Array (Nat × Nat)} [hz:ElemT P t z n bytes] [hb:BldT P t pl] {parts:Array (Nat × Operand)} (qs:List (Nat × List Value)) (r:List Value)
  (hp:parts.toList.map (fun p=>(p.1,(ev e p.2).cells))=qs.map (fun q=>(q.1,q.2.toArray))) (hf:oL (pl[·]?) z qs=some r):PV P ⟨d,.build t parts,ty,pos,af,none⟩ e w (.agg r.toArray):=fun w' _=>by
 have hz:=hz.h
 obtain ⟨fs,h1,h2⟩:=hb.h
 cases hi:P.info? t with
 | none=>simp [hi] at hz
 | some i =>
 cases hzz:i.zero with
 | none=>simp [hi,hzz] at hz
 | some zv =>
 simp [hi,hzz] at hz
 have hzc:zv.cells=z.toArray:=by rw [← hz.1]
 have hff:=rc (pl[·]?) (parts.toList.map fun p=>(p.1,ev e p.2)) qs z (by rw [List.map_map];exact hp) hf
 unfold execOp
 simp only [Instr.build,zeroValue,typeInfo,hi,hzz,Sem.run_bind,Sem.run_pure,run_program,Result.andThen_ok,run_underlying h1,h2,hzc,Array.toList_map]
 rw [hff]
 simp
theorem el {e:Env} {i:Nat} {x:Operand} {c:List Value} {l:List (Nat × Operand)} {m:List (Nat × List Value)} (h:(ev e x).cells=c.toArray) (t:l.map (fun p=>(p.1,(ev e p.2).cells))=m.map (fun q=>(q.1,q.2.toArray))) :
  ((i,x) :: l).map (fun p=>(p.1,(ev e p.2).cells))=((i,c) :: m).map (fun q=>(q.1,q.2.toArray)):=by
 rw [List.map_cons,List.map_cons,t,h]
-- func()
instance:PlainT Tryd.prog 1:=⟨_,Tryd.underlying1,trivial⟩
instance:ElemT Tryd.prog 1 [.nilFunc] 1 8:=⟨by kernel_rfl⟩
-- int64
instance:PlainT Tryd.prog 2:=⟨_,Tryd.underlying2,trivial⟩
instance:ElemT Tryd.prog 2 [.int .i64 0] 1 8:=⟨by kernel_rfl⟩
-- int
instance:PlainT Tryd.prog 3:=⟨_,Tryd.underlying3,trivial⟩
instance:ElemT Tryd.prog 3 [.int .i64 0] 1 8:=⟨by kernel_rfl⟩
-- bool
instance:PlainT Tryd.prog 4:=⟨_,Tryd.underlying4,trivial⟩
instance:ElemT Tryd.prog 4 [.bool false] 1 1:=⟨by kernel_rfl⟩
-- uint8
instance:PlainT Tryd.prog 5:=⟨_,Tryd.underlying5,trivial⟩
instance:ElemT Tryd.prog 5 [.int .u8 0] 1 1:=⟨by kernel_rfl⟩
-- string
instance:PlainT Tryd.prog 9:=⟨_,Tryd.underlying9,trivial⟩
instance:ElemT Tryd.prog 9 [.string ByteArray.empty] 1 16:=⟨by kernel_rfl⟩
-- uintptr
instance:PlainT Tryd.prog 12:=⟨_,Tryd.underlying12,trivial⟩
instance:ElemT Tryd.prog 12 [.int .u64 0] 1 8:=⟨by kernel_rfl⟩
-- int32
instance:PlainT Tryd.prog 21:=⟨_,Tryd.underlying21,trivial⟩
instance:ElemT Tryd.prog 21 [.int .i32 0] 1 4:=⟨by kernel_rfl⟩
-- []laws.Atom
instance:PlainT Tryd.prog 22:=⟨_,Tryd.underlying22,trivial⟩
instance:SliceT Tryd.prog 22 47:=⟨Tryd.underlying22⟩
instance:ElemT Tryd.prog 22 [.slice none 0 0] 1 24:=⟨by kernel_rfl⟩
-- []int
instance:PlainT Tryd.prog 23:=⟨_,Tryd.underlying23,trivial⟩
instance:SliceT Tryd.prog 23 3:=⟨Tryd.underlying23⟩
instance:ElemT Tryd.prog 23 [.slice none 0 0] 1 24:=⟨by kernel_rfl⟩
-- struct { VariableCount int;Atoms []laws.Atom;Output []int }
instance:AggT Tryd.prog 24 3:=⟨⟨_,Tryd.underlying24,trivial⟩,by kernel_rfl⟩
instance:FldT Tryd.prog 24 0 0:=⟨_,_,Tryd.underlying24,rfl,rfl,by kernel_rfl⟩
instance:FldT Tryd.prog 24 1 1:=⟨_,_,Tryd.underlying24,rfl,rfl,by kernel_rfl⟩
instance:FldT Tryd.prog 24 2 2:=⟨_,_,Tryd.underlying24,rfl,rfl,by kernel_rfl⟩
instance:BldT Tryd.prog 24 #[(0,1),(1,1),(2,1)]:=⟨_,Tryd.underlying24,fun w=>by kernel_rfl⟩
instance:ElemT Tryd.prog 24 [.int .i64 0,.slice none 0 0,.slice none 0 0] 3 56:=⟨by kernel_rfl⟩
-- laws.Query
instance:AggT Tryd.prog 25 3:=⟨⟨_,Tryd.underlying25,trivial⟩,by kernel_rfl⟩
instance:FldT Tryd.prog 25 0 0:=⟨_,_,Tryd.underlying25,rfl,rfl,by kernel_rfl⟩
instance:FldT Tryd.prog 25 1 1:=⟨_,_,Tryd.underlying25,rfl,rfl,by kernel_rfl⟩
instance:FldT Tryd.prog 25 2 2:=⟨_,_,Tryd.underlying25,rfl,rfl,by kernel_rfl⟩
instance:BldT Tryd.prog 25 #[(0,1),(1,1),(2,1)]:=⟨_,Tryd.underlying25,fun w=>by kernel_rfl⟩
instance:ElemT Tryd.prog 25 [.int .i64 0,.slice none 0 0,.slice none 0 0] 3 56:=⟨by kernel_rfl⟩
-- func(laws.Query,int) int
instance:PlainT Tryd.prog 26:=⟨_,Tryd.underlying26,trivial⟩
instance:ElemT Tryd.prog 26 [.nilFunc] 1 8:=⟨by kernel_rfl⟩
-- func(impl.Query,[]int) (int,bool)
instance:PlainT Tryd.prog 28:=⟨_,Tryd.underlying28,trivial⟩
instance:ElemT Tryd.prog 28 [.nilFunc] 1 8:=⟨by kernel_rfl⟩
-- []impl.Atom
instance:PlainT Tryd.prog 29:=⟨_,Tryd.underlying29,trivial⟩
instance:SliceT Tryd.prog 29 64:=⟨Tryd.underlying29⟩
instance:ElemT Tryd.prog 29 [.slice none 0 0] 1 24:=⟨by kernel_rfl⟩
-- struct { VariableCount int;Atoms []impl.Atom;Output []int }
instance:AggT Tryd.prog 30 3:=⟨⟨_,Tryd.underlying30,trivial⟩,by kernel_rfl⟩
instance:FldT Tryd.prog 30 0 0:=⟨_,_,Tryd.underlying30,rfl,rfl,by kernel_rfl⟩
instance:FldT Tryd.prog 30 1 1:=⟨_,_,Tryd.underlying30,rfl,rfl,by kernel_rfl⟩
instance:FldT Tryd.prog 30 2 2:=⟨_,_,Tryd.underlying30,rfl,rfl,by kernel_rfl⟩
instance:BldT Tryd.prog 30 #[(0,1),(1,1),(2,1)]:=⟨_,Tryd.underlying30,fun w=>by kernel_rfl⟩
instance:ElemT Tryd.prog 30 [.int .i64 0,.slice none 0 0,.slice none 0 0] 3 56:=⟨by kernel_rfl⟩
-- impl.Query
instance:AggT Tryd.prog 31 3:=⟨⟨_,Tryd.underlying31,trivial⟩,by kernel_rfl⟩
instance:FldT Tryd.prog 31 0 0:=⟨_,_,Tryd.underlying31,rfl,rfl,by kernel_rfl⟩
instance:FldT Tryd.prog 31 1 1:=⟨_,_,Tryd.underlying31,rfl,rfl,by kernel_rfl⟩
instance:FldT Tryd.prog 31 2 2:=⟨_,_,Tryd.underlying31,rfl,rfl,by kernel_rfl⟩
instance:BldT Tryd.prog 31 #[(0,1),(1,1),(2,1)]:=⟨_,Tryd.underlying31,fun w=>by kernel_rfl⟩
instance:ElemT Tryd.prog 31 [.int .i64 0,.slice none 0 0,.slice none 0 0] 3 56:=⟨by kernel_rfl⟩
-- func(laws.Query) impl.Query
instance:PlainT Tryd.prog 32:=⟨_,Tryd.underlying32,trivial⟩
instance:ElemT Tryd.prog 32 [.nilFunc] 1 8:=⟨by kernel_rfl⟩
-- func([]int) []int
instance:PlainT Tryd.prog 33:=⟨_,Tryd.underlying33,trivial⟩
instance:ElemT Tryd.prog 33 [.nilFunc] 1 8:=⟨by kernel_rfl⟩
-- func(impl.Query,impl.Query) bool
instance:PlainT Tryd.prog 34:=⟨_,Tryd.underlying34,trivial⟩
instance:ElemT Tryd.prog 34 [.nilFunc] 1 8:=⟨by kernel_rfl⟩
-- func([]int,[]int) bool
instance:PlainT Tryd.prog 35:=⟨_,Tryd.underlying35,trivial⟩
instance:ElemT Tryd.prog 35 [.nilFunc] 1 8:=⟨by kernel_rfl⟩
-- func(laws.Query,[]int) bool
instance:PlainT Tryd.prog 36:=⟨_,Tryd.underlying36,trivial⟩
instance:ElemT Tryd.prog 36 [.nilFunc] 1 8:=⟨by kernel_rfl⟩
-- func([]laws.Atom,int) int
instance:PlainT Tryd.prog 37:=⟨_,Tryd.underlying37,trivial⟩
instance:ElemT Tryd.prog 37 [.nilFunc] 1 8:=⟨by kernel_rfl⟩
-- func([]int,int) int
instance:PlainT Tryd.prog 38:=⟨_,Tryd.underlying38,trivial⟩
instance:ElemT Tryd.prog 38 [.nilFunc] 1 8:=⟨by kernel_rfl⟩
-- []impl.Rational
instance:PlainT Tryd.prog 39:=⟨_,Tryd.underlying39,trivial⟩
instance:SliceT Tryd.prog 39 71:=⟨Tryd.underlying39⟩
instance:ElemT Tryd.prog 39 [.slice none 0 0] 1 24:=⟨by kernel_rfl⟩
-- func(impl.Query,[]int) ([]impl.Rational,bool)
instance:PlainT Tryd.prog 41:=⟨_,Tryd.underlying41,trivial⟩
instance:ElemT Tryd.prog 41 [.nilFunc] 1 8:=⟨by kernel_rfl⟩
-- func([]int,[]impl.Rational,int) bool
instance:PlainT Tryd.prog 42:=⟨_,Tryd.underlying42,trivial⟩
instance:ElemT Tryd.prog 42 [.nilFunc] 1 8:=⟨by kernel_rfl⟩
-- func([]laws.Atom) []impl.Atom
instance:PlainT Tryd.prog 43:=⟨_,Tryd.underlying43,trivial⟩
instance:ElemT Tryd.prog 43 [.nilFunc] 1 8:=⟨by kernel_rfl⟩
-- func([]impl.Atom,[]impl.Atom) bool
instance:PlainT Tryd.prog 44:=⟨_,Tryd.underlying44,trivial⟩
instance:ElemT Tryd.prog 44 [.nilFunc] 1 8:=⟨by kernel_rfl⟩
-- func(laws.Atom,int) int
instance:PlainT Tryd.prog 45:=⟨_,Tryd.underlying45,trivial⟩
instance:ElemT Tryd.prog 45 [.nilFunc] 1 8:=⟨by kernel_rfl⟩
-- struct { Relation string;Vars []int }
instance:AggT Tryd.prog 46 2:=⟨⟨_,Tryd.underlying46,trivial⟩,by kernel_rfl⟩
instance:FldT Tryd.prog 46 0 0:=⟨_,_,Tryd.underlying46,rfl,rfl,by kernel_rfl⟩
instance:FldT Tryd.prog 46 1 1:=⟨_,_,Tryd.underlying46,rfl,rfl,by kernel_rfl⟩
instance:BldT Tryd.prog 46 #[(0,1),(1,1)]:=⟨_,Tryd.underlying46,fun w=>by kernel_rfl⟩
instance:ElemT Tryd.prog 46 [.string ByteArray.empty,.slice none 0 0] 2 40:=⟨by kernel_rfl⟩
-- laws.Atom
instance:AggT Tryd.prog 47 2:=⟨⟨_,Tryd.underlying47,trivial⟩,by kernel_rfl⟩
instance:FldT Tryd.prog 47 0 0:=⟨_,_,Tryd.underlying47,rfl,rfl,by kernel_rfl⟩
instance:FldT Tryd.prog 47 1 1:=⟨_,_,Tryd.underlying47,rfl,rfl,by kernel_rfl⟩
instance:BldT Tryd.prog 47 #[(0,1),(1,1)]:=⟨_,Tryd.underlying47,fun w=>by kernel_rfl⟩
instance:ElemT Tryd.prog 47 [.string ByteArray.empty,.slice none 0 0] 2 40:=⟨by kernel_rfl⟩
-- [][]impl.Rational
instance:PlainT Tryd.prog 48:=⟨_,Tryd.underlying48,trivial⟩
instance:SliceT Tryd.prog 48 39:=⟨Tryd.underlying48⟩
instance:ElemT Tryd.prog 48 [.slice none 0 0] 1 24:=⟨by kernel_rfl⟩
-- struct { A [][]impl.Rational;B []impl.Rational;C []impl.Rational }
instance:AggT Tryd.prog 49 3:=⟨⟨_,Tryd.underlying49,trivial⟩,by kernel_rfl⟩
instance:FldT Tryd.prog 49 0 0:=⟨_,_,Tryd.underlying49,rfl,rfl,by kernel_rfl⟩
instance:FldT Tryd.prog 49 1 1:=⟨_,_,Tryd.underlying49,rfl,rfl,by kernel_rfl⟩
instance:FldT Tryd.prog 49 2 2:=⟨_,_,Tryd.underlying49,rfl,rfl,by kernel_rfl⟩
instance:BldT Tryd.prog 49 #[(0,1),(1,1),(2,1)]:=⟨_,Tryd.underlying49,fun w=>by kernel_rfl⟩
instance:ElemT Tryd.prog 49 [.slice none 0 0,.slice none 0 0,.slice none 0 0] 3 72:=⟨by kernel_rfl⟩
-- impl.LinearProgram
instance:AggT Tryd.prog 50 3:=⟨⟨_,Tryd.underlying50,trivial⟩,by kernel_rfl⟩
instance:FldT Tryd.prog 50 0 0:=⟨_,_,Tryd.underlying50,rfl,rfl,by kernel_rfl⟩
instance:FldT Tryd.prog 50 1 1:=⟨_,_,Tryd.underlying50,rfl,rfl,by kernel_rfl⟩
instance:FldT Tryd.prog 50 2 2:=⟨_,_,Tryd.underlying50,rfl,rfl,by kernel_rfl⟩
instance:BldT Tryd.prog 50 #[(0,1),(1,1),(2,1)]:=⟨_,Tryd.underlying50,fun w=>by kernel_rfl⟩
instance:ElemT Tryd.prog 50 [.slice none 0 0,.slice none 0 0,.slice none 0 0] 3 72:=⟨by kernel_rfl⟩
-- func(impl.Query) (impl.LinearProgram,bool)
instance:PlainT Tryd.prog 52:=⟨_,Tryd.underlying52,trivial⟩
instance:ElemT Tryd.prog 52 [.nilFunc] 1 8:=⟨by kernel_rfl⟩
-- func(int,int,int) bool
instance:PlainT Tryd.prog 53:=⟨_,Tryd.underlying53,trivial⟩
instance:ElemT Tryd.prog 53 [.nilFunc] 1 8:=⟨by kernel_rfl⟩
-- func(impl.LinearProgram) [][]impl.Rational
instance:PlainT Tryd.prog 54:=⟨_,Tryd.underlying54,trivial⟩
instance:ElemT Tryd.prog 54 [.nilFunc] 1 8:=⟨by kernel_rfl⟩
-- func([]int,[]impl.Rational,[]impl.Rational) (int,bool)
instance:PlainT Tryd.prog 55:=⟨_,Tryd.underlying55,trivial⟩
instance:ElemT Tryd.prog 55 [.nilFunc] 1 8:=⟨by kernel_rfl⟩
-- func([]impl.Rational) ([]int,int)
instance:PlainT Tryd.prog 57:=⟨_,Tryd.underlying57,trivial⟩
instance:ElemT Tryd.prog 57 [.nilFunc] 1 8:=⟨by kernel_rfl⟩
-- struct { Digits []int }
instance:AggT Tryd.prog 58 1:=⟨⟨_,Tryd.underlying58,trivial⟩,by kernel_rfl⟩
instance:FldT Tryd.prog 58 0 0:=⟨_,_,Tryd.underlying58,rfl,rfl,by kernel_rfl⟩
instance:BldT Tryd.prog 58 #[(0,1)]:=⟨_,Tryd.underlying58,fun w=>by kernel_rfl⟩
instance:ElemT Tryd.prog 58 [.slice none 0 0] 1 24:=⟨by kernel_rfl⟩
-- impl.BigInt
instance:AggT Tryd.prog 59 1:=⟨⟨_,Tryd.underlying59,trivial⟩,by kernel_rfl⟩
instance:FldT Tryd.prog 59 0 0:=⟨_,_,Tryd.underlying59,rfl,rfl,by kernel_rfl⟩
instance:BldT Tryd.prog 59 #[(0,1)]:=⟨_,Tryd.underlying59,fun w=>by kernel_rfl⟩
instance:ElemT Tryd.prog 59 [.slice none 0 0] 1 24:=⟨by kernel_rfl⟩
-- func([]int,[]int) (impl.BigInt,bool)
instance:PlainT Tryd.prog 61:=⟨_,Tryd.underlying61,trivial⟩
instance:ElemT Tryd.prog 61 [.nilFunc] 1 8:=⟨by kernel_rfl⟩
-- func(int,int) (impl.BigInt,bool)
instance:PlainT Tryd.prog 62:=⟨_,Tryd.underlying62,trivial⟩
instance:ElemT Tryd.prog 62 [.nilFunc] 1 8:=⟨by kernel_rfl⟩
-- func(impl.BigInt,impl.BigInt) int
instance:PlainT Tryd.prog 63:=⟨_,Tryd.underlying63,trivial⟩
instance:ElemT Tryd.prog 63 [.nilFunc] 1 8:=⟨by kernel_rfl⟩
-- impl.Atom
instance:AggT Tryd.prog 64 2:=⟨⟨_,Tryd.underlying64,trivial⟩,by kernel_rfl⟩
instance:FldT Tryd.prog 64 0 0:=⟨_,_,Tryd.underlying64,rfl,rfl,by kernel_rfl⟩
instance:FldT Tryd.prog 64 1 1:=⟨_,_,Tryd.underlying64,rfl,rfl,by kernel_rfl⟩
instance:BldT Tryd.prog 64 #[(0,1),(1,1)]:=⟨_,Tryd.underlying64,fun w=>by kernel_rfl⟩
instance:ElemT Tryd.prog 64 [.string ByteArray.empty,.slice none 0 0] 2 40:=⟨by kernel_rfl⟩
-- func(laws.Atom) impl.Atom
instance:PlainT Tryd.prog 65:=⟨_,Tryd.underlying65,trivial⟩
instance:ElemT Tryd.prog 65 [.nilFunc] 1 8:=⟨by kernel_rfl⟩
-- func(impl.Query) bool
instance:PlainT Tryd.prog 66:=⟨_,Tryd.underlying66,trivial⟩
instance:ElemT Tryd.prog 66 [.nilFunc] 1 8:=⟨by kernel_rfl⟩
-- func([]int,[]impl.Rational,int,int) bool
instance:PlainT Tryd.prog 67:=⟨_,Tryd.underlying67,trivial⟩
instance:ElemT Tryd.prog 67 [.nilFunc] 1 8:=⟨by kernel_rfl⟩
-- func(impl.Atom,impl.Atom) bool
instance:PlainT Tryd.prog 68:=⟨_,Tryd.underlying68,trivial⟩
instance:ElemT Tryd.prog 68 [.nilFunc] 1 8:=⟨by kernel_rfl⟩
-- func(impl.Atom,int) bool
instance:PlainT Tryd.prog 69:=⟨_,Tryd.underlying69,trivial⟩
instance:ElemT Tryd.prog 69 [.nilFunc] 1 8:=⟨by kernel_rfl⟩
-- struct { Num int;Den int }
instance:AggT Tryd.prog 70 2:=⟨⟨_,Tryd.underlying70,trivial⟩,by kernel_rfl⟩
instance:FldT Tryd.prog 70 0 0:=⟨_,_,Tryd.underlying70,rfl,rfl,by kernel_rfl⟩
instance:FldT Tryd.prog 70 1 1:=⟨_,_,Tryd.underlying70,rfl,rfl,by kernel_rfl⟩
instance:BldT Tryd.prog 70 #[(0,1),(1,1)]:=⟨_,Tryd.underlying70,fun w=>by kernel_rfl⟩
instance:ElemT Tryd.prog 70 [.int .i64 0,.int .i64 0] 2 16:=⟨by kernel_rfl⟩
-- impl.Rational
instance:AggT Tryd.prog 71 2:=⟨⟨_,Tryd.underlying71,trivial⟩,by kernel_rfl⟩
instance:FldT Tryd.prog 71 0 0:=⟨_,_,Tryd.underlying71,rfl,rfl,by kernel_rfl⟩
instance:FldT Tryd.prog 71 1 1:=⟨_,_,Tryd.underlying71,rfl,rfl,by kernel_rfl⟩
instance:BldT Tryd.prog 71 #[(0,1),(1,1)]:=⟨_,Tryd.underlying71,fun w=>by kernel_rfl⟩
instance:ElemT Tryd.prog 71 [.int .i64 0,.int .i64 0] 2 16:=⟨by kernel_rfl⟩
-- func(impl.LinearProgram) bool
instance:PlainT Tryd.prog 72:=⟨_,Tryd.underlying72,trivial⟩
instance:ElemT Tryd.prog 72 [.nilFunc] 1 8:=⟨by kernel_rfl⟩
-- func(impl.LinearProgram,int) [][]impl.Rational
instance:PlainT Tryd.prog 73:=⟨_,Tryd.underlying73,trivial⟩
instance:ElemT Tryd.prog 73 [.nilFunc] 1 8:=⟨by kernel_rfl⟩
-- func(impl.Rational) bool
instance:PlainT Tryd.prog 74:=⟨_,Tryd.underlying74,trivial⟩
instance:ElemT Tryd.prog 74 [.nilFunc] 1 8:=⟨by kernel_rfl⟩
-- func(int,int) int
instance:PlainT Tryd.prog 75:=⟨_,Tryd.underlying75,trivial⟩
instance:ElemT Tryd.prog 75 [.nilFunc] 1 8:=⟨by kernel_rfl⟩
-- func(int) impl.BigInt
instance:PlainT Tryd.prog 76:=⟨_,Tryd.underlying76,trivial⟩
instance:ElemT Tryd.prog 76 [.nilFunc] 1 8:=⟨by kernel_rfl⟩
-- func(impl.BigInt,impl.BigInt) (impl.BigInt,bool)
instance:PlainT Tryd.prog 77:=⟨_,Tryd.underlying77,trivial⟩
instance:ElemT Tryd.prog 77 [.nilFunc] 1 8:=⟨by kernel_rfl⟩
-- func(impl.BigInt) bool
instance:PlainT Tryd.prog 78:=⟨_,Tryd.underlying78,trivial⟩
instance:ElemT Tryd.prog 78 [.nilFunc] 1 8:=⟨by kernel_rfl⟩
-- func([]int,int) bool
instance:PlainT Tryd.prog 79:=⟨_,Tryd.underlying79,trivial⟩
instance:ElemT Tryd.prog 79 [.nilFunc] 1 8:=⟨by kernel_rfl⟩
-- []bool
instance:PlainT Tryd.prog 80:=⟨_,Tryd.underlying80,trivial⟩
instance:SliceT Tryd.prog 80 4:=⟨Tryd.underlying80⟩
instance:ElemT Tryd.prog 80 [.slice none 0 0] 1 24:=⟨by kernel_rfl⟩
-- func(string) bool
instance:PlainT Tryd.prog 81:=⟨_,Tryd.underlying81,trivial⟩
instance:ElemT Tryd.prog 81 [.nilFunc] 1 8:=⟨by kernel_rfl⟩
-- func(impl.Query,[]int) impl.LinearProgram
instance:PlainT Tryd.prog 82:=⟨_,Tryd.underlying82,trivial⟩
instance:ElemT Tryd.prog 82 [.nilFunc] 1 8:=⟨by kernel_rfl⟩
-- func(impl.Query) []int
instance:PlainT Tryd.prog 83:=⟨_,Tryd.underlying83,trivial⟩
instance:ElemT Tryd.prog 83 [.nilFunc] 1 8:=⟨by kernel_rfl⟩
-- func([]int,int) []int
instance:PlainT Tryd.prog 84:=⟨_,Tryd.underlying84,trivial⟩
instance:ElemT Tryd.prog 84 [.nilFunc] 1 8:=⟨by kernel_rfl⟩
-- func([][]impl.Rational,int,int) bool
instance:PlainT Tryd.prog 85:=⟨_,Tryd.underlying85,trivial⟩
instance:ElemT Tryd.prog 85 [.nilFunc] 1 8:=⟨by kernel_rfl⟩
-- [][]int
instance:PlainT Tryd.prog 86:=⟨_,Tryd.underlying86,trivial⟩
instance:SliceT Tryd.prog 86 23:=⟨Tryd.underlying86⟩
instance:ElemT Tryd.prog 86 [.slice none 0 0] 1 24:=⟨by kernel_rfl⟩
-- func(int,int,int) [][]int
instance:PlainT Tryd.prog 87:=⟨_,Tryd.underlying87,trivial⟩
instance:ElemT Tryd.prog 87 [.nilFunc] 1 8:=⟨by kernel_rfl⟩
-- func([][]impl.Rational,[]impl.Rational) ([]impl.Rational,bool)
instance:PlainT Tryd.prog 88:=⟨_,Tryd.underlying88,trivial⟩
instance:ElemT Tryd.prog 88 [.nilFunc] 1 8:=⟨by kernel_rfl⟩
-- func(impl.LinearProgram,[]impl.Rational,int) bool
instance:PlainT Tryd.prog 89:=⟨_,Tryd.underlying89,trivial⟩
instance:ElemT Tryd.prog 89 [.nilFunc] 1 8:=⟨by kernel_rfl⟩
-- func([]impl.Rational,[]impl.Rational) bool
instance:PlainT Tryd.prog 90:=⟨_,Tryd.underlying90,trivial⟩
instance:ElemT Tryd.prog 90 [.nilFunc] 1 8:=⟨by kernel_rfl⟩
-- func([]int) (impl.BigInt,bool)
instance:PlainT Tryd.prog 91:=⟨_,Tryd.underlying91,trivial⟩
instance:ElemT Tryd.prog 91 [.nilFunc] 1 8:=⟨by kernel_rfl⟩
-- func(string,int) bool
instance:PlainT Tryd.prog 92:=⟨_,Tryd.underlying92,trivial⟩
instance:ElemT Tryd.prog 92 [.nilFunc] 1 8:=⟨by kernel_rfl⟩
-- func(bool) int
instance:PlainT Tryd.prog 93:=⟨_,Tryd.underlying93,trivial⟩
instance:ElemT Tryd.prog 93 [.nilFunc] 1 8:=⟨by kernel_rfl⟩
-- func([]impl.Rational) bool
instance:PlainT Tryd.prog 94:=⟨_,Tryd.underlying94,trivial⟩
instance:ElemT Tryd.prog 94 [.nilFunc] 1 8:=⟨by kernel_rfl⟩
-- func([]impl.Rational) []impl.Rational
instance:PlainT Tryd.prog 95:=⟨_,Tryd.underlying95,trivial⟩
instance:ElemT Tryd.prog 95 [.nilFunc] 1 8:=⟨by kernel_rfl⟩
-- func(int,[]int)
instance:PlainT Tryd.prog 96:=⟨_,Tryd.underlying96,trivial⟩
instance:ElemT Tryd.prog 96 [.nilFunc] 1 8:=⟨by kernel_rfl⟩
-- func([][]impl.Rational,int) bool
instance:PlainT Tryd.prog 97:=⟨_,Tryd.underlying97,trivial⟩
instance:ElemT Tryd.prog 97 [.nilFunc] 1 8:=⟨by kernel_rfl⟩
-- func(impl.Rational,impl.Rational) (impl.Rational,bool)
instance:PlainT Tryd.prog 99:=⟨_,Tryd.underlying99,trivial⟩
instance:ElemT Tryd.prog 99 [.nilFunc] 1 8:=⟨by kernel_rfl⟩
-- func(impl.Rational,impl.Rational) int
instance:PlainT Tryd.prog 100:=⟨_,Tryd.underlying100,trivial⟩
instance:ElemT Tryd.prog 100 [.nilFunc] 1 8:=⟨by kernel_rfl⟩
-- func([]impl.Rational,[]impl.Rational,int) bool
instance:PlainT Tryd.prog 101:=⟨_,Tryd.underlying101,trivial⟩
instance:ElemT Tryd.prog 101 [.nilFunc] 1 8:=⟨by kernel_rfl⟩
-- func(int) int
instance:PlainT Tryd.prog 102:=⟨_,Tryd.underlying102,trivial⟩
instance:ElemT Tryd.prog 102 [.nilFunc] 1 8:=⟨by kernel_rfl⟩
-- func(int,int) (impl.Rational,bool)
instance:PlainT Tryd.prog 103:=⟨_,Tryd.underlying103,trivial⟩
instance:ElemT Tryd.prog 103 [.nilFunc] 1 8:=⟨by kernel_rfl⟩
-- func([]impl.Rational,[]impl.Rational) (impl.Rational,bool)
instance:PlainT Tryd.prog 104:=⟨_,Tryd.underlying104,trivial⟩
instance:ElemT Tryd.prog 104 [.nilFunc] 1 8:=⟨by kernel_rfl⟩
-- func(impl.Rational,impl.Rational) bool
instance:PlainT Tryd.prog 105:=⟨_,Tryd.underlying105,trivial⟩
instance:ElemT Tryd.prog 105 [.nilFunc] 1 8:=⟨by kernel_rfl⟩
-- func() string
instance:PlainT Tryd.prog 106:=⟨_,Tryd.underlying106,trivial⟩
instance:ElemT Tryd.prog 106 [.nilFunc] 1 8:=⟨by kernel_rfl⟩
-- func() int
instance:PlainT Tryd.prog 112:=⟨_,Tryd.underlying112,trivial⟩
instance:ElemT Tryd.prog 112 [.nilFunc] 1 8:=⟨by kernel_rfl⟩
-- uint32
instance:PlainT Tryd.prog 113:=⟨_,Tryd.underlying113,trivial⟩
instance:ElemT Tryd.prog 113 [.int .u32 0] 1 4:=⟨by kernel_rfl⟩
-- func(unsafe.Pointer,unsafe.Pointer) bool
instance:PlainT Tryd.prog 116:=⟨_,Tryd.underlying116,trivial⟩
instance:ElemT Tryd.prog 116 [.nilFunc] 1 8:=⟨by kernel_rfl⟩
def AL (P:Program) (n:Nat) (ops:Array Oper) (X:List Nat) (C:World→Prop) (K:Env→World→Prop):Nat→Array Bool→Env→World→Prop
 | 0,L,e,w=>Region.ready .any ops L=[]∧K e w
 | f+1,L,e,w=>(Region.ready .any ops L=[]→K e w) ∧
  ∀ i∈Region.ready .any ops L,∃ o,ops[i]? = some o∧EL P n ops (fun e' w'=>(X.contains i=true→C w')∧AL P n ops X C K f (L.setIfInBounds i true) e' w') [o] e w

section
variable {P:Program} {n:Nat} {ops:Array Oper} {X:List Nat} {C:World→Prop} {K:Env→World→Prop}
theorem tf {o:Oper} {a:Act} {w:World} {N N2:Act→World→Prop} {K1 K2:Env→World→Prop} (h:∀ a w,N a w→N2 a w) (hh:o.wp P a w N (nrm n K1)):o.wp P a w N2 (nrm n K2):=by
  unfold Oper.wp at *
  generalize (execOp a.eval o).run P w=r at *
  cases r with
  | ok m w' =>
    cases m <;> simp only [Oper.upon] at hh ⊢ <;>
      first
        | exact h _ _ hh
        | exact Calls.mono hh (fun e w'' he=>by
            cases e with
            | returned v=>exact h _ _ he
            | panicked ch=>exact absurd he.1 (by simp)
            | outgrown=>obtain ⟨_,_,hx,_⟩:=he;exact absurd hx (by simp))
        | exact Rows.mono hh (fun _ _ he=>h _ _ he)
  | halt x w' =>
    cases x <;> simp only [Oper.upon] at hh ⊢
    exact absurd hh.1 (by simp)
theorem oJ {K:Env→World→Prop}:¬ LetsOut (nrm n K):=by
 rintro ⟨_,_,h,_⟩;exact absurd h (by simp)
theorem AL.any:∀ (f:Nat) (L:Array Bool) (e:Env) (a:Act) (w:World),Mt n e a→AL P n ops X C K f L e w→wpAny P .any ops (nrm n K) f L a w
 | 0,_,e,a,_,ha,h=>⟨h.1,rfl,e,ha,h.2⟩
 | f+1,L,e,a,w,ha,h=>by
  refine ⟨fun h0=>⟨rfl,e,ha,h.1 h0⟩,fun i hi=>?_⟩
  obtain ⟨o,ho,hE⟩:=h.2 i hi
  have:=hE a ha
  unfold wpOp
  simp only [ho]
  unfold wpList at this
  have key:∀ a w,wpList P ops (nrm n fun e' w'=>(X.contains i=true→C w')∧AL P n ops X C K f (L.setIfInBounds i true) e' w') [] a w→wpAny P .any ops (nrm n K) f (L.setIfInBounds i true) a w:=by
   rintro a w ⟨_,e',ha',_,h2⟩
   exact AL.any f _ e' a w ha' h2
  split
  ·rename_i hw
   rw [if_pos hw] at this
   rcases this with h1 | ⟨_,h1⟩
   ·exact .inl (tf key h1)
   ·exact absurd h1 oJ
  ·rename_i hw
   rw [if_neg hw] at this
   exact key _ _ this
theorem cl {id:Nat} {l:List Oper} {Q:Exit→Env→World→Prop} {e:Env} {w:World} (X:List Nat) (C:World→Prop) (hm:P.follows .mixedOrders=true)
  (hx:∀ w',Ext w w'→AL P n l.toArray X C (fun e w=>Q .normal e w) l.length (Array.replicate l.length false) e w'):CW P n (.region id l.toArray true) Q e w:=by
 intro a ha
 have h2:=hx { w with drawn:=w.drawn+1 } ⟨rfl,rfl,rfl,Nat.le_refl _,fun _ _=>rfl⟩
 have:=AL.any _ _ _ a _ ha h2
 refine wp_mono (wp_region_any (Q:=nrm n fun e w=>Q .normal e w) hm (by simpa using this)) ?_
 rintro x a w ⟨rfl,e,he,hk⟩
 exact ⟨e,he,hk⟩

def SV (P:Program) (n:Nat) (ops:Array Oper) (C:World→Prop) (o:Oper) (e:Env) (v:Value):Prop :=
 ∀ a,Mt n e a→(Region.wanted o (yielded ops a.tmps)=true∧∀ w',C w'→(execOp a.eval o).run P w'=.ok (.value v) w')∨(Region.wanted o (yielded ops a.tmps)=false∧v=undef)
def ma (ops:Array Oper) (X:List Nat) (L:Array Bool) (i:Nat) (o:Oper):Bool :=
 (List.range ops.size).all fun j=>Nat.beq j i||L.getD j true||(match ops[j]? with
  | some oj=>oj.after.any (fun e=>Region.binds .any e&&Nat.beq e.on i)||(o.apart ops oj&&X.contains j)
  | none=>true)
theorem js {L:Array Bool} {i:Nat}:i∈Region.ready .any ops L↔L.getD i true=false∧∃ o,ops[i]? = some o∧∀ e∈o.after,Region.binds .any e=true→L.getD e.on false=true:=by
 unfold Region.ready
 simp only [List.mem_filter,List.mem_range,Bool.and_eq_true,Bool.not_eq_true']
 constructor
 ·rintro ⟨h1,h2,h3⟩
  refine ⟨h2,ops[i],Array.getElem?_eq_getElem h1,fun e he hb=>?_⟩
  rw [Array.getElem?_eq_getElem h1] at h3
  simp only [Option.map_some,Option.getD_some,Array.all_eq_true_iff_forall_mem] at h3
  have:=h3 e he
  simpa [hb] using this
 ·rintro ⟨h2,o,h1,h3⟩
  obtain ⟨hlt,rfl⟩:=Array.getElem?_eq_some_iff.1 h1
  refine ⟨hlt,h2,?_⟩
  rw [h1]
  simp only [Option.map_some,Option.getD_some,Array.all_eq_true_iff_forall_mem]
  intro e he
  by_cases hb:Region.binds .any e=true
  ·simp [h3 e he hb]
  ·simp [hb]
theorem jY {L:Array Bool} {i j:Nat} {d:Bool} (h:j≠i):(L.setIfInBounds i true).getD j d=L.getD j d:=by
 simp [Array.getElem?_setIfInBounds_ne (Ne.symm h)]
theorem q6 {L:Array Bool} {i j:Nat} (h:L.getD j false=true):(L.setIfInBounds i true).getD j false=true:=by
 by_cases hj:j=i
 ·subst hj
  have:j<L.size:=by
   rcases Nat.lt_or_ge j L.size with h1 | h1
   ·exact h1
   ·simp [Array.getElem?_eq_none h1] at h
  simp [this]
 ·rw [jY hj];exact h
theorem jv {L:Array Bool} {i j:Nat} (hij:j≠i) (h:j∈Region.ready .any ops L):j∈Region.ready .any ops (L.setIfInBounds i true):=by
 obtain ⟨h1,o,h2,h3⟩:=js.1 h
 exact js.2 ⟨by rw [jY hij];exact h1,o,h2,fun e he hb=>q6 (h3 e he hb)⟩
theorem set_comm (L:Array Bool) (i j:Nat):(L.setIfInBounds i true).setIfInBounds j true=(L.setIfInBounds j true).setIfInBounds i true:=by
 by_cases h:i=j
 ·subst h;rfl
 ·exact Array.setIfInBounds_comm _ _ h
theorem uf {L:Array Bool} {i j:Nat} {o:Oper} (h:ma ops X L i o=true):ma ops X (L.setIfInBounds j true) i o=true:=by
 unfold ma at *
 rw [List.all_eq_true] at *
 intro k hk
 have:=h k hk
 by_cases hkj:k=j
 ·subst hkj
  have:k<ops.size:=by simpa using hk
  by_cases hkl:k<L.size
  ·simp [hkl]
  ·have hn:L[k]? = none:=Array.getElem?_eq_none (by omega)
   simp [hkl]
 ·rw [jY hkj];exact this
def sf (a:Act):Env:=fun t=>a.tmps.getD t undef
theorem vm {a:Act} (h1:a.tmps.size=n) (h2:a.defers=[]):Mt n (sf a) a:=⟨h1,h2,fun _=>rfl⟩
theorem Mt.uniq {a:Act} {e e':Env} (h:Mt n e a) (h':Mt n e' a):e=e':=by funext t;rw [← h.get,← h'.get]
theorem qq (a:Act) (d:Option Nat) (v:Value):(a.put d v).tmps.size=a.tmps.size:=by cases d <;> simp [Act.put]
theorem rh (a:Act) (d:Option Nat) (v:Value):(a.put d v).defers=a.defers:=by cases d <;> rfl
theorem mE {a b:Act} (h:∀ t,a.tmps.getD t undef=b.tmps.getD t undef) (hs:a.tmps.size=b.tmps.size):a.tmps=b.tmps:=by
 apply Array.ext hs
 intro i h1 h2
 have:=h i
 simpa [Array.getD,h1,h2] using this
theorem qc {o:Oper} {a a':Act} {N N2:Act→World→Prop} {K1 K2:Env→World→Prop} (h:∀ u w,N (a'.put o.dst u) w→N2 (a.put o.dst u) w) (hd:∀ d u w,¬ N (({ a' with defers:=d :: a'.defers }:Act).put o.dst u) w) {r:Result Next}
    (hh:o.upon P a' N (nrm n K1) r):o.upon P a N2 (nrm n K2) r:=by
  cases r with
  | ok m w' =>
    cases m <;> simp only [Oper.upon] at hh ⊢ <;>
      first
        | exact h _ _ hh
        | exact absurd hh (hd _ _ _)
        | exact Calls.mono hh (fun e w'' he=>by
            cases e with
            | returned v=>exact h _ _ he
            | panicked ch=>exact absurd he.1 (by simp)
            | outgrown=>obtain ⟨_,_,hx,_⟩:=he;exact absurd hx (by simp))
        | exact Rows.mono hh (fun _ _ he=>h _ _ he)
  | halt x w' =>
    cases x <;> simp only [Oper.upon] at hh ⊢
    exact absurd hh.1 (by simp)
def jm (ops:Array Oper):Bool:=ops.all fun o=>match o.op with | .select ..=>false | _=>true
theorem lC (h:jm ops=true) {i:Nat} {o:Oper} (hi:ops[i]? = some o):∀ cs b,o.op≠.select cs b:=by
 intro cs b e
 unfold jm at h
 rw [Array.all_eq_true_iff_forall_mem] at h
 have:=h o (Array.mem_of_getElem? hi)
 simp [e] at this
theorem vy (hsel:jm ops=true) (i:Nat) {o:Oper} {d:Nat} {v:Value} (hi:ops[i]? = some o) (hdst:o.dst=some d) (hdn:d<n) :
  ∀ (f:Nat) (L:Array Bool) (e:Env) (w:World),C w→ma ops X L i o=true→i∈Region.ready .any ops L→SV P n ops C o e v→AL P n ops X C K f (L.setIfInBounds i true) (upd e d v) w→AL P n ops X C K (f+1) L e w:=by
 intro f
 induction f with
 | zero =>
  intro L e w hC hf hr hy H
  refine ⟨fun h=>(by rw [h] at hr;cases hr),fun j hj=>?_⟩
  by_cases hji:j=i
  ·subst hji
   refine ⟨o,hi,fun a ha=>?_⟩
   unfold wpList
   rcases hy a ha with ⟨hw,hv⟩ | ⟨hw,rfl⟩
   ·rw [if_pos hw]
    refine .inl ?_
    unfold Oper.wp
    rw [hv w hC]
    simp only [Oper.upon,hdst]
    exact ⟨rfl,_,ha.put hdn v,fun _=>hC,H⟩
   ·rw [if_neg (by simp [hw])]
    rw [hdst]
    exact ⟨rfl,_,ha.put hdn _,fun _=>hC,H⟩
  ·have:=jv (i:=i) hji hj
   rw [H.1] at this;cases this
 | succ f ih =>
  intro L e w hC hf hr hy H
  refine ⟨fun h=>(by rw [h] at hr;cases hr),fun j hj=>?_⟩
  by_cases hji:j=i
  ·subst hji
   refine ⟨o,hi,fun a ha=>?_⟩
   unfold wpList
   rcases hy a ha with ⟨hw,hv⟩ | ⟨hw,rfl⟩
   ·rw [if_pos hw]
    refine .inl ?_
    unfold Oper.wp
    rw [hv w hC]
    simp only [Oper.upon,hdst]
    exact ⟨rfl,_,ha.put hdn v,fun _=>hC,H⟩
   ·rw [if_neg (by simp [hw])]
    rw [hdst]
    exact ⟨rfl,_,ha.put hdn _,fun _=>hC,H⟩
  ·obtain ⟨oj,hoj,hE⟩:=H.2 j (jv hji hj)
   have hjL:=(js.1 hj)
   have hiL:=(js.1 hr)
   have hap:o.apart ops oj=true∧X.contains j=true:=by
    have h1:=hf
    unfold ma at h1
    rw [List.all_eq_true] at h1
    have h2:=h1 j (by simp [(Array.getElem?_eq_some_iff.1 hoj).1])
    have hb:Nat.beq j i=false:=lf hji
    simp only [hb,hjL.1,hoj,Bool.false_or,Bool.or_eq_true,Bool.and_eq_true] at h2
    rcases h2 with h2 | h2
    ·exfalso
     obtain ⟨_,h3,h4⟩:=hjL.2
     rw [hoj] at h3;obtain rfl:=Option.some.inj h3
     rw [Array.any_eq_true'] at h2
     obtain ⟨ed,hm,h5⟩:=h2
     simp only [Bool.and_eq_true] at h5
     have h6:=h4 ed hm h5.1
     have h7:ed.on=i:=Nat.eq_of_beq_eq_true h5.2
     rw [h7] at h6
     have:=hiL.1
     cases hx:L[i]? with
     | none=>simp [Array.getD_eq_getD_getElem?,hx] at this
     | some b=>simp [Array.getD_eq_getD_getElem?,hx] at this h6;simp [this] at h6
    ·exact h2
   obtain ⟨h1,h2,h3⟩:=Oper.apart_spec hap.1
   have hso:=lC hsel hi
   have hsj:=lC hsel hoj
   refine ⟨oj,hoj,fun a ha=>?_⟩
   have h4:=hE _ (ha.put hdn v)
   have key:∀ u w',nrm n (fun e' w'=>(X.contains j=true→C w')∧AL P n ops X C K f ((L.setIfInBounds i true).setIfInBounds j true) e' w') .normal ((a.put (some d) v).put oj.dst u) w' →
     nrm n (fun e' w'=>(X.contains j=true→C w')∧AL P n ops X C K (f+1) (L.setIfInBounds j true) e' w') .normal (a.put oj.dst u) w':=by
    rintro u w' ⟨_,e1,he1,hc1,hA1⟩
    have hm2:Mt n (sf (a.put oj.dst u)) (a.put oj.dst u):=vm (by rw [qq,ha.size]) (by rw [rh,ha.defers])
    have hcm:(a.put (some d) v).put oj.dst u=(a.put oj.dst u).put (some d) v:=Act.put_comm a v u (fun x hx=>by
     have:=h2 d hdst
     simp only [Option.some.injEq] at hx;subst hx;exact this)
    rw [hcm] at he1
    obtain rfl:=he1.uniq (hm2.put hdn v)
    refine ⟨rfl,_,hm2,hc1,ih _ _ _ (hc1 hap.2) (uf hf) (jv (Ne.symm hji) hr) ?_ (by rw [← set_comm];exact hA1)⟩
    intro b hb
    have hbt:b.tmps=(a.put oj.dst u).tmps:=mE (fun t=>by rw [hb.get t];rfl) (by rw [hb.size,hm2.size])
    have hbe:b.eval=(a.put oj.dst u).eval:=by rw [hb.eval,hm2.eval]
    rw [hbt,hbe,execOp_put o hso a oj.dst u h3,wanted_put o a oj.dst u h3]
    exact hy a ha
   unfold wpList at h4 ⊢
   have hwe:=wanted_put (ops:=ops) oj a (some d) v (fun x hx=>by simp only [Option.some.injEq] at hx;subst hx;exact h1 d hdst)
   have hxe:=execOp_put oj hsj a (some d) v (fun x hx=>by simp only [Option.some.injEq] at hx;subst hx;exact h1 d hdst)
   rw [hwe] at h4
   split
   ·rename_i hw
    rw [if_pos hw] at h4
    rcases h4 with h5 | ⟨_,h5⟩
    ·refine .inl ?_
     unfold Oper.wp at h5 ⊢
     rw [hxe] at h5
     refine qc key ?_ h5
     rintro dd u w' ⟨_,e1,he1,_⟩
     have:=he1.defers
     cases hdj:oj.dst <;> simp [Act.put,hdj] at this
    ·exact absurd h5 oJ
   ·rename_i hw
    rw [if_neg hw] at h4
    exact key _ _ h4
def kh (ops:Array Oper) (X T:List Nat) (L:Array Bool) (i:Nat) (o:Oper):Bool :=
 (List.range ops.size).all fun j=>Nat.beq j i||(match ops[j]? with
  | some oj=>if T.contains j then !L.getD j true&&oj.after.any (fun e=>Region.binds .any e&&Nat.blt e.on ops.size&&(Nat.beq e.on i||T.contains e.on)) else L.getD j true||(o.apart ops oj&&X.contains j)
  | none=>true)
theorem tI {T:List Nat} {L:Array Bool} {i j:Nat} {o:Oper} (hT:T.contains j=false) (h:kh ops X T L i o=true):kh ops X T (L.setIfInBounds j true) i o=true:=by
 unfold kh at *
 rw [List.all_eq_true] at *
 intro k hk
 have:=h k hk
 by_cases hkj:k=j
 ·subst hkj
  have hlt:k<ops.size:=by simpa using hk
  rw [Array.getElem?_eq_getElem hlt]
  dsimp only
  rw [hT,if_neg (by decide),Bool.or_eq_true]
  refine .inr ?_
  by_cases hkl:k<L.size
  ·simp [hkl]
  ·have hn:L[k]? = none:=Array.getElem?_eq_none (by omega)
   simp [hkl]
 ·rw [jY hkj];exact this
theorem uA (T:List Nat) (hsel:jm ops=true) (i:Nat) {o:Oper} {d:Nat} {v:Value} (hi:ops[i]? = some o) (hdst:o.dst=some d) (hdn:d<n) :
  ∀ (f:Nat) (L:Array Bool) (e:Env) (w:World),C w→kh ops X T L i o=true→i∈Region.ready .any ops L→SV P n ops C o e v→AL P n ops X C K f (L.setIfInBounds i true) (upd e d v) w→AL P n ops X C K (f+1) L e w:=by
 intro f
 induction f with
 | zero =>
  intro L e w hC hf hr hy H
  refine ⟨fun h=>(by rw [h] at hr;cases hr),fun j hj=>?_⟩
  by_cases hji:j=i
  ·subst hji
   refine ⟨o,hi,fun a ha=>?_⟩
   unfold wpList
   rcases hy a ha with ⟨hw,hv⟩ | ⟨hw,rfl⟩
   ·rw [if_pos hw]
    refine .inl ?_
    unfold Oper.wp
    rw [hv w hC]
    simp only [Oper.upon,hdst]
    exact ⟨rfl,_,ha.put hdn v,fun _=>hC,H⟩
   ·rw [if_neg (by simp [hw])]
    rw [hdst]
    exact ⟨rfl,_,ha.put hdn _,fun _=>hC,H⟩
  ·have:=jv (i:=i) hji hj
   rw [H.1] at this;cases this
 | succ f ih =>
  intro L e w hC hf hr hy H
  refine ⟨fun h=>(by rw [h] at hr;cases hr),fun j hj=>?_⟩
  by_cases hji:j=i
  ·subst hji
   refine ⟨o,hi,fun a ha=>?_⟩
   unfold wpList
   rcases hy a ha with ⟨hw,hv⟩ | ⟨hw,rfl⟩
   ·rw [if_pos hw]
    refine .inl ?_
    unfold Oper.wp
    rw [hv w hC]
    simp only [Oper.upon,hdst]
    exact ⟨rfl,_,ha.put hdn v,fun _=>hC,H⟩
   ·rw [if_neg (by simp [hw])]
    rw [hdst]
    exact ⟨rfl,_,ha.put hdn _,fun _=>hC,H⟩
  ·obtain ⟨oj,hoj,hE⟩:=H.2 j (jv hji hj)
   have hjL:=(js.1 hj)
   have hiL:=(js.1 hr)
   have hpend:L.getD i false≠true:=fun h6=>by
    have:=hiL.1
    cases hx:L[i]? with
    | none=>simp [Array.getD_eq_getD_getElem?,hx] at this
    | some b=>simp [Array.getD_eq_getD_getElem?,hx] at this h6;simp [this] at h6
   have hap:T.contains j=false∧o.apart ops oj=true∧X.contains j=true:=by
    have h1:=hf
    unfold kh at h1
    rw [List.all_eq_true] at h1
    have h2:=h1 j (by simp [(Array.getElem?_eq_some_iff.1 hoj).1])
    have hb:Nat.beq j i=false:=lf hji
    rw [hb,Bool.false_or,hoj] at h2
    dsimp only at h2
    cases hT:T.contains j with
    | true =>
     exfalso
     rw [hT,if_pos rfl,Bool.and_eq_true] at h2
     obtain ⟨_,h3,h4⟩:=hjL.2
     rw [hoj] at h3;obtain rfl:=Option.some.inj h3
     have h2':=h2.2
     rw [Array.any_eq_true'] at h2'
     obtain ⟨ed,hm,h5⟩:=h2'
     rw [Bool.and_eq_true,Bool.and_eq_true,Bool.or_eq_true] at h5
     have h6:=h4 ed hm h5.1.1
     rcases h5.2 with h7 | h7
     ·rw [Nat.eq_of_beq_eq_true h7] at h6;exact hpend h6
     ·have hlt:ed.on<ops.size:=by simpa using h5.1.2
      have h8:=h1 ed.on (by simpa using hlt)
      rw [Array.getElem?_eq_getElem hlt] at h8
      dsimp only at h8
      rw [if_pos h7,Bool.or_eq_true,Bool.and_eq_true] at h8
      rcases h8 with h8 | ⟨h8,_⟩
      ·rw [Nat.eq_of_beq_eq_true h8] at h6;exact hpend h6
      ·cases hx:L[ed.on]? with
       | none=>simp [Array.getD_eq_getD_getElem?,hx] at h6
       | some b=>simp [Array.getD_eq_getD_getElem?,hx] at h8 h6;simp [h6] at h8
    | false =>
     rw [hT,if_neg (by decide),Bool.or_eq_true,Bool.and_eq_true] at h2
     rcases h2 with h2 | h2
     ·rw [hjL.1] at h2;cases h2
     ·exact ⟨rfl,h2⟩
   obtain ⟨h1,h2,h3⟩:=Oper.apart_spec hap.2.1
   have hso:=lC hsel hi
   have hsj:=lC hsel hoj
   refine ⟨oj,hoj,fun a ha=>?_⟩
   have h4:=hE _ (ha.put hdn v)
   have key:∀ u w',nrm n (fun e' w'=>(X.contains j=true→C w')∧AL P n ops X C K f ((L.setIfInBounds i true).setIfInBounds j true) e' w') .normal ((a.put (some d) v).put oj.dst u) w' →
     nrm n (fun e' w'=>(X.contains j=true→C w')∧AL P n ops X C K (f+1) (L.setIfInBounds j true) e' w') .normal (a.put oj.dst u) w':=by
    rintro u w' ⟨_,e1,he1,hc1,hA1⟩
    have hm2:Mt n (sf (a.put oj.dst u)) (a.put oj.dst u):=vm (by rw [qq,ha.size]) (by rw [rh,ha.defers])
    have hcm:(a.put (some d) v).put oj.dst u=(a.put oj.dst u).put (some d) v:=Act.put_comm a v u (fun x hx=>by
     have:=h2 d hdst
     simp only [Option.some.injEq] at hx;subst hx;exact this)
    rw [hcm] at he1
    obtain rfl:=he1.uniq (hm2.put hdn v)
    refine ⟨rfl,_,hm2,hc1,ih _ _ _ (hc1 hap.2.2) (tI hap.1 hf) (jv (Ne.symm hji) hr) ?_ (by rw [← set_comm];exact hA1)⟩
    intro b hb
    have hbt:b.tmps=(a.put oj.dst u).tmps:=mE (fun t=>by rw [hb.get t];rfl) (by rw [hb.size,hm2.size])
    have hbe:b.eval=(a.put oj.dst u).eval:=by rw [hb.eval,hm2.eval]
    rw [hbt,hbe,execOp_put o hso a oj.dst u h3,wanted_put o a oj.dst u h3]
    exact hy a ha
   unfold wpList at h4 ⊢
   have hwe:=wanted_put (ops:=ops) oj a (some d) v (fun x hx=>by simp only [Option.some.injEq] at hx;subst hx;exact h1 d hdst)
   have hxe:=execOp_put oj hsj a (some d) v (fun x hx=>by simp only [Option.some.injEq] at hx;subst hx;exact h1 d hdst)
   rw [hwe] at h4
   split
   ·rename_i hw
    rw [if_pos hw] at h4
    rcases h4 with h5 | ⟨_,h5⟩
    ·refine .inl ?_
     unfold Oper.wp at h5 ⊢
     rw [hxe] at h5
     refine qc key ?_ h5
     rintro dd u w' ⟨_,e1,he1,_⟩
     have:=he1.defers
     cases hdj:oj.dst <;> simp [Act.put,hdj] at this
    ·exact absurd h5 oJ
   ·rename_i hw
    rw [if_neg hw] at h4
    exact key _ _ h4
theorem aL (T:List Nat) (hsel:jm ops=true) (i:Nat) {o:Oper} {d:Nat} {v:Value} {f:Nat} {L:Array Bool} {e:Env} {w:World} (hi:ops[i]? = some o) (hdst:o.dst=some d) (hdn:d<n) (hC:C w) (hf:kh ops X T L i o=true) (hr:(Region.ready .any ops L).contains i=true)
  (hy:SV P n ops C o e v) (hK:AL P n ops X C K f (L.setIfInBounds i true) (upd e d v) w):AL P n ops X C K (f+1) L e w :=
 uA T hsel i hi hdst hdn f L e w hC hf (by simpa using hr) hy hK
theorem bt {f:Nat} {L:Array Bool} {e:Env} {w:World} (h:Region.ready .any ops L=[]) (hK:K e w):AL P n ops X C K f L e w:=by
 cases f with
 | zero=>exact ⟨h,hK⟩
 | succ f=>exact ⟨fun _=>hK,fun i hi=>by rw [h] at hi;cases hi⟩
theorem xA (i:Nat) {f:Nat} {L:Array Bool} {e:Env} {w:World} {o:Oper} (hr:Region.ready .any ops L=[i]) (ho:ops[i]? = some o)
  (h:EL P n ops (fun e' w'=>(X.contains i=true→C w')∧AL P n ops X C K f (L.setIfInBounds i true) e' w') [o] e w):AL P n ops X C K (f+1) L e w :=
 ⟨fun h0=>(by rw [hr] at h0;cases h0),fun j hj=>by
  rw [hr] at hj
  have e:j=i:=by simpa using hj
  rw [e]
  exact ⟨o,ho,h⟩⟩
theorem ap {o:Oper} {e:Env} {v:Value} (hg:o.guard=none) (h:∀ w',C w'→PV P o e w' v):SV P n ops C o e v:=fun a ha=>.inl ⟨by simp [Region.wanted,hg],fun w' hw'=>by rw [ha.eval];exact h w' hw' w' (Ext.refl _)⟩
theorem uo {dst:Option Nat} {op:Op} {ty:TypeId} {pos:String} {af:Array Edge} {j:Nat} {b c:Bool} {e:Env} {v:Value} (hy:yld ops e j=some c) (hc:c=b) (h:∀ w',C w'→PV P ⟨dst,op,ty,pos,af,none⟩ e w' v):SV P n ops C ⟨dst,op,ty,pos,af,some (j,b)⟩ e v:=fun a ha=>.inl ⟨by simp [Region.wanted,i7 ha hy,hc],fun w' hw'=>by
 rw [ha.eval]
 exact h w' hw' w' (Ext.refl _)⟩
theorem bi {dst:Option Nat} {op:Op} {ty:TypeId} {pos:String} {af:Array Edge} {j:Nat} {b b' c:Bool} {e:Env} (hy:yld ops e j=some c) (hc:c=b) (hb:(b == b')=false):SV P n ops C ⟨dst,op,ty,pos,af,some (j,b')⟩ e undef:=fun a ha=>.inr ⟨by simp [Region.wanted,i7 ha hy,hc];simpa using hb,rfl⟩
theorem ur (hsel:jm ops=true) (i:Nat) {o:Oper} {d:Nat} {v:Value} {f:Nat} {L:Array Bool} {e:Env} {w:World} (hi:ops[i]? = some o) (hdst:o.dst=some d) (hdn:d<n) (hC:C w) (hf:ma ops X L i o=true) (hr:(Region.ready .any ops L).contains i=true)
  (hy:SV P n ops C o e v) (hK:AL P n ops X C K f (L.setIfInBounds i true) (upd e d v) w):AL P n ops X C K (f+1) L e w :=
 vy hsel i hi hdst hdn f L e w hC hf (by simpa using hr) hy hK
section
variable {wA:World} {v:Value} {d:Nat} {ty:TypeId} {pos:String} {af:Array Edge} {x y:Operand} {α:Type} {R:Rep α} {E E':TypeId} {f:Nat} {L:Array Bool} {e:Env} {w:World}
theorem fI (hsel:jm ops=true) (i:Nat) {t:TypeId} [SliceT P t E'] {zz:List Value} {m bytes:Nat} [ElemT P E' zz m bytes] {xs:List α} (hi':ops[i]? = some ⟨some d,.indexAddr t x y,ty,pos,af,none⟩) (hC:C w) (hf:ma ops X L i ⟨some d,.indexAddr t x y,ty,pos,af,none⟩=true) (hrd:(Region.ready .any ops L).contains i=true)
  (hs:ev e x=v) (hr:(aD R E).rd wA [v] xs) (hn:R.sz=m) (hpos:0<m) {k:IntKind} {j:Int} (hi:ev e y=.int k j) {u:α} (h:ix xs j=some u) (hd:d<n)
  (hK:∀ b off ec,R.rd wA ec u→(∀ j c,ec[j]? = some c→wA.cell? ⟨b,off+j,none⟩=some c)→AL P n ops X C K f (L.setIfInBounds i true) (upd e d (.pointer (some ⟨b,off,none⟩))) w):AL P n ops X C K (f+1) L e w:=by
 obtain ⟨b,off,ec,h1,h2,h3⟩:=lT (P:=P) (d:=some d) (ty:=ty) (pos:=pos) (af:=af) (t:=t) hs hr hn hpos hi h
 exact ur hsel i hi' rfl hd hC hf hrd (ap rfl fun w' _=>h3 w') (hK b off ec h1 h2)
end
end
class FlatR {α:Type} (R:Rep α) (f:outParam (α→Value)):Prop where
 h:∀ {w:World} {cs:List Value} {x:α},R.rd w cs x→cs=[f x]
instance:FlatR bH (Value.int .i64):=⟨fun h=>h⟩
instance:FlatR u8R (Value.int .u8):=⟨fun h=>h⟩
instance:FlatR kX Value.bool:=⟨fun h=>h⟩
section
variable {P:Program} {n:Nat} {ops:Array Oper} {K:Env→World→Prop} {KQ:Env→Prop} {rest:List Oper} {e:Env} {w w0:World} {v:Value} {d:Nat} {ty:TypeId} {pos:String} {af:Array Edge} {Γ:List Asn} {x y:Operand} {α:Type} {R:Rep α} {E:TypeId} {f:α→Value}
theorem Sat.ownCell (i:Nat) [hf:FlatR R f] {xs:List α} (hS:Sat w0 w Γ) (hi:Γ[i]? = some (Own (aD R E) [v] xs)) {g cap ln:Nat} (hv:v=.slice (some ⟨g,0,none⟩) ln cap) {j:Int} {u:α} (h:ix xs j=some u):w.cell? ⟨g,j.toNat*1,none⟩=some (f u):=by
 obtain ⟨k,rfl,hk,rfl⟩:=eS h
 obtain ⟨fp,ho,_⟩:=(hS.top i hi).head
 rcases ho with ⟨_,h2,_⟩ | ⟨g',cap',cur,ccs,f2,hv',hg,h1,h2,h3,h4,h5,rfl⟩
 ·subst h2;simp at hk
 subst hv
 simp at hv'
 obtain ⟨rfl,rfl,rfl⟩:=hv'
 obtain ⟨ec,hec,hcc⟩:=lx (hG h5) k hk
 obtain rfl:=hf.h hec
 have hsz:R.sz=1:=by have:=R.rd_len hec;simpa using this.symm
 have h0:=hcc 0 _ rfl
 rw [cell_of_row w g _ cur E (0,0) hg,← Array.getElem?_toList]
 rw [← h4,List.getElem?_take] at h0
 simp only [Int.toNat_natCast]
 rw [hsz] at h0
 split at h0
 ·simpa using h0
 ·cases h0
theorem fo (i:Nat) {xs:List α} (hS:Sat w0 w Γ) (hi:Γ[i]? = some (Own (aD R E) [v] xs)) {j:Int} {u:α} (h:ix xs j=some u):∃ g cap,v=.slice (some ⟨g,0,none⟩) xs.length cap:=by
 obtain ⟨k,rfl,hk,rfl⟩:=eS h
 rcases (hS.top i hi).shape with ⟨_,h2⟩ | ⟨g,cap,h⟩
 ·subst h2;simp at hk
 ·exact ⟨g,cap,h⟩
theorem eQ {d:Option Nat} {t:TypeId} [ht:SliceT P t E] {zz:List Value} {bytes:Nat} [hz:ElemT P E zz 1 bytes] {xs:List α} (hs:ev e x=v) {g cap:Nat} (hv:v=.slice (some ⟨g,0,none⟩) xs.length cap) {k:IntKind} {j:Int} (hi:ev e y=.int k j) {u:α} (h:ix xs j=some u) :
  PV P ⟨d,.indexAddr t x y,ty,pos,af,none⟩ e w (.pointer (some ⟨g,j.toNat*1,none⟩)):=fun w' _=>by
 obtain ⟨k',rfl,hk,rfl⟩:=eS h
 subst hv
 have hz:=hz.h
 cases hq:P.info? E with
 | none=>simp [hq] at hz
 | some inf =>
  simp [hq] at hz
  have hsz:inf.size=1:=hz.2.1
  unfold execOp
  simp [hs,hi,Instr.indexAt,asIntOf,run_underlying ht.h,sizeOf,typeInfo,hq,hk,Addr.add_lit,hsz]
end
theorem yP:Goes Tryd.prog 4:=⟨_,Tryd.func4,by kernel_rfl,by kernel_rfl⟩
theorem yJ:Goes Tryd.prog 5:=⟨_,Tryd.func5,by kernel_rfl,by kernel_rfl⟩
theorem rV:Goes Tryd.prog 6:=⟨_,Tryd.func6,by kernel_rfl,by kernel_rfl⟩
theorem oN:Goes Tryd.prog 7:=⟨_,Tryd.func7,by kernel_rfl,by kernel_rfl⟩
theorem yC:Goes Tryd.prog 8:=⟨_,Tryd.func8,by kernel_rfl,by kernel_rfl⟩
theorem yO:Goes Tryd.prog 9:=⟨_,Tryd.func9,by kernel_rfl,by kernel_rfl⟩
theorem qZ:Goes Tryd.prog 10:=⟨_,Tryd.func10,by kernel_rfl,by kernel_rfl⟩
theorem xi:Goes Tryd.prog 11:=⟨_,Tryd.func11,by kernel_rfl,by kernel_rfl⟩
theorem tz:Goes Tryd.prog 12:=⟨_,Tryd.func12,by kernel_rfl,by kernel_rfl⟩
theorem yk:Goes Tryd.prog 13:=⟨_,Tryd.func13,by kernel_rfl,by kernel_rfl⟩
theorem s5:Goes Tryd.prog 14:=⟨_,Tryd.func14,by kernel_rfl,by kernel_rfl⟩
theorem yq:Goes Tryd.prog 15:=⟨_,Tryd.func15,by kernel_rfl,by kernel_rfl⟩
theorem wN:Goes Tryd.prog 16:=⟨_,Tryd.func16,by kernel_rfl,by kernel_rfl⟩
theorem tE:Goes Tryd.prog 17:=⟨_,Tryd.func17,by kernel_rfl,by kernel_rfl⟩
theorem xQ:Goes Tryd.prog 18:=⟨_,Tryd.func18,by kernel_rfl,by kernel_rfl⟩
theorem wK:Goes Tryd.prog 19:=⟨_,Tryd.func19,by kernel_rfl,by kernel_rfl⟩
theorem yA:Goes Tryd.prog 20:=⟨_,Tryd.func20,by kernel_rfl,by kernel_rfl⟩
theorem gw:Goes Tryd.prog 21:=⟨_,Tryd.func21,by kernel_rfl,by kernel_rfl⟩
theorem yj:Goes Tryd.prog 22:=⟨_,Tryd.func22,by kernel_rfl,by kernel_rfl⟩
theorem xu:Goes Tryd.prog 23:=⟨_,Tryd.func23,by kernel_rfl,by kernel_rfl⟩
theorem qC:Goes Tryd.prog 24:=⟨_,Tryd.func24,by kernel_rfl,by kernel_rfl⟩
theorem p3:Goes Tryd.prog 25:=⟨_,Tryd.func25,by kernel_rfl,by kernel_rfl⟩
theorem qA:Goes Tryd.prog 26:=⟨_,Tryd.func26,by kernel_rfl,by kernel_rfl⟩
theorem tg:Goes Tryd.prog 27:=⟨_,Tryd.func27,by kernel_rfl,by kernel_rfl⟩
theorem wL:Goes Tryd.prog 28:=⟨_,Tryd.func28,by kernel_rfl,by kernel_rfl⟩
theorem qT:Goes Tryd.prog 29:=⟨_,Tryd.func29,by kernel_rfl,by kernel_rfl⟩
theorem gQ:Goes Tryd.prog 30:=⟨_,Tryd.func30,by kernel_rfl,by kernel_rfl⟩
theorem xZ:Goes Tryd.prog 31:=⟨_,Tryd.func31,by kernel_rfl,by kernel_rfl⟩
theorem wZ:Goes Tryd.prog 32:=⟨_,Tryd.func32,by kernel_rfl,by kernel_rfl⟩
theorem xM:Goes Tryd.prog 33:=⟨_,Tryd.func33,by kernel_rfl,by kernel_rfl⟩
theorem xr:Goes Tryd.prog 34:=⟨_,Tryd.func34,by kernel_rfl,by kernel_rfl⟩
theorem xd:Goes Tryd.prog 35:=⟨_,Tryd.func35,by kernel_rfl,by kernel_rfl⟩
theorem xg:Goes Tryd.prog 36:=⟨_,Tryd.func36,by kernel_rfl,by kernel_rfl⟩
theorem tG:Goes Tryd.prog 37:=⟨_,Tryd.func37,by kernel_rfl,by kernel_rfl⟩
theorem sV:Goes Tryd.prog 38:=⟨_,Tryd.func38,by kernel_rfl,by kernel_rfl⟩
theorem yw:Goes Tryd.prog 39:=⟨_,Tryd.func39,by kernel_rfl,by kernel_rfl⟩
theorem gC:Goes Tryd.prog 40:=⟨_,Tryd.func40,by kernel_rfl,by kernel_rfl⟩
theorem nM:Goes Tryd.prog 41:=⟨_,Tryd.func41,by kernel_rfl,by kernel_rfl⟩
theorem oO:Goes Tryd.prog 42:=⟨_,Tryd.func42,by kernel_rfl,by kernel_rfl⟩
theorem nR:Goes Tryd.prog 43:=⟨_,Tryd.func43,by kernel_rfl,by kernel_rfl⟩
theorem nJ:Goes Tryd.prog 44:=⟨_,Tryd.func44,by kernel_rfl,by kernel_rfl⟩
theorem xR:Goes Tryd.prog 45:=⟨_,Tryd.func45,by kernel_rfl,by kernel_rfl⟩
theorem xf:Goes Tryd.prog 46:=⟨_,Tryd.func46,by kernel_rfl,by kernel_rfl⟩
theorem xK:Goes Tryd.prog 47:=⟨_,Tryd.func47,by kernel_rfl,by kernel_rfl⟩
theorem wW:Goes Tryd.prog 48:=⟨_,Tryd.func48,by kernel_rfl,by kernel_rfl⟩
theorem sF:Goes Tryd.prog 49:=⟨_,Tryd.func49,by kernel_rfl,by kernel_rfl⟩
theorem xj:Goes Tryd.prog 50:=⟨_,Tryd.func50,by kernel_rfl,by kernel_rfl⟩
theorem qR:Goes Tryd.prog 51:=⟨_,Tryd.func51,by kernel_rfl,by kernel_rfl⟩
theorem qL:Goes Tryd.prog 52:=⟨_,Tryd.func52,by kernel_rfl,by kernel_rfl⟩
theorem tZ:Goes Tryd.prog 53:=⟨_,Tryd.func53,by kernel_rfl,by kernel_rfl⟩
theorem tq:Goes Tryd.prog 54:=⟨_,Tryd.func54,by kernel_rfl,by kernel_rfl⟩
theorem oR:Goes Tryd.prog 55:=⟨_,Tryd.func55,by kernel_rfl,by kernel_rfl⟩
theorem mA:Goes Tryd.prog 56:=⟨_,Tryd.func56,by kernel_rfl,by kernel_rfl⟩
theorem w7:Goes Tryd.prog 57:=⟨_,Tryd.func57,by kernel_rfl,by kernel_rfl⟩
theorem xk:Goes Tryd.prog 58:=⟨_,Tryd.func58,by kernel_rfl,by kernel_rfl⟩
theorem ow:Goes Tryd.prog 59:=⟨_,Tryd.func59,by kernel_rfl,by kernel_rfl⟩
theorem sy:Goes Tryd.prog 60:=⟨_,Tryd.func60,by kernel_rfl,by kernel_rfl⟩
theorem xL:Goes Tryd.prog 61:=⟨_,Tryd.func61,by kernel_rfl,by kernel_rfl⟩
theorem wQ:Goes Tryd.prog 62:=⟨_,Tryd.func62,by kernel_rfl,by kernel_rfl⟩
theorem xt:Goes Tryd.prog 63:=⟨_,Tryd.func63,by kernel_rfl,by kernel_rfl⟩
theorem xz:Goes Tryd.prog 64:=⟨_,Tryd.func64,by kernel_rfl,by kernel_rfl⟩
theorem te:Goes Tryd.prog 65:=⟨_,Tryd.func65,by kernel_rfl,by kernel_rfl⟩
theorem xc:Goes Tryd.prog 66:=⟨_,Tryd.func66,by kernel_rfl,by kernel_rfl⟩
theorem sQ:Goes Tryd.prog 67:=⟨_,Tryd.func67,by kernel_rfl,by kernel_rfl⟩
theorem yc:Goes Tryd.prog 68:=⟨_,Tryd.func68,by kernel_rfl,by kernel_rfl⟩
theorem ll:Goes Tryd.prog 69:=⟨_,Tryd.func69,by kernel_rfl,by kernel_rfl⟩
theorem pX:Goes Tryd.prog 70:=⟨_,Tryd.func70,by kernel_rfl,by kernel_rfl⟩
theorem p5:Goes Tryd.prog 71:=⟨_,Tryd.func71,by kernel_rfl,by kernel_rfl⟩
theorem tA:Goes Tryd.prog 72:=⟨_,Tryd.func72,by kernel_rfl,by kernel_rfl⟩
theorem xn:Goes Tryd.prog 73:=⟨_,Tryd.func73,by kernel_rfl,by kernel_rfl⟩
theorem xo:Goes Tryd.prog 74:=⟨_,Tryd.func74,by kernel_rfl,by kernel_rfl⟩
theorem ym:Goes Tryd.prog 75:=⟨_,Tryd.func75,by kernel_rfl,by kernel_rfl⟩
theorem lh:Goes Tryd.prog 76:=⟨_,Tryd.func76,by kernel_rfl,by kernel_rfl⟩
theorem nV:Goes Tryd.prog 77:=⟨_,Tryd.func77,by kernel_rfl,by kernel_rfl⟩
theorem nS:Goes Tryd.prog 78:=⟨_,Tryd.func78,by kernel_rfl,by kernel_rfl⟩
theorem og:Goes Tryd.prog 79:=⟨_,Tryd.func79,by kernel_rfl,by kernel_rfl⟩
theorem pZ:Goes Tryd.prog 80:=⟨_,Tryd.func80,by kernel_rfl,by kernel_rfl⟩
theorem yt:Goes Tryd.prog 81:=⟨_,Tryd.func81,by kernel_rfl,by kernel_rfl⟩
theorem sL:Goes Tryd.prog 82:=⟨_,Tryd.func82,by kernel_rfl,by kernel_rfl⟩
theorem n8:Goes Tryd.prog 83:=⟨_,Tryd.func83,by kernel_rfl,by kernel_rfl⟩
theorem wR:Goes Tryd.prog 84:=⟨_,Tryd.func84,by kernel_rfl,by kernel_rfl⟩
theorem xV:Goes Tryd.prog 85:=⟨_,Tryd.func85,by kernel_rfl,by kernel_rfl⟩
theorem yf:Goes Tryd.prog 86:=⟨_,Tryd.func86,by kernel_rfl,by kernel_rfl⟩
theorem s8:Goes Tryd.prog 87:=⟨_,Tryd.func87,by kernel_rfl,by kernel_rfl⟩
theorem oP:Goes Tryd.prog 88:=⟨_,Tryd.func88,by kernel_rfl,by kernel_rfl⟩
theorem xU:Goes Tryd.prog 89:=⟨_,Tryd.func89,by kernel_rfl,by kernel_rfl⟩
theorem xJ:Goes Tryd.prog 90:=⟨_,Tryd.func90,by kernel_rfl,by kernel_rfl⟩
theorem qr:Goes Tryd.prog 91:=⟨_,Tryd.func91,by kernel_rfl,by kernel_rfl⟩
theorem ov:Goes Tryd.prog 92:=⟨_,Tryd.func92,by kernel_rfl,by kernel_rfl⟩
theorem tu:Goes Tryd.prog 93:=⟨_,Tryd.func93,by kernel_rfl,by kernel_rfl⟩
theorem qz:Goes Tryd.prog 94:=⟨_,Tryd.func94,by kernel_rfl,by kernel_rfl⟩
theorem xh:Goes Tryd.prog 95:=⟨_,Tryd.func95,by kernel_rfl,by kernel_rfl⟩
theorem ox:Goes Tryd.prog 96:=⟨_,Tryd.func96,by kernel_rfl,by kernel_rfl⟩
theorem sT:Goes Tryd.prog 97:=⟨_,Tryd.func97,by kernel_rfl,by kernel_rfl⟩
theorem oe:Goes Tryd.prog 98:=⟨_,Tryd.func98,by kernel_rfl,by kernel_rfl⟩
theorem qb:Goes Tryd.prog 99:=⟨_,Tryd.func99,by kernel_rfl,by kernel_rfl⟩
theorem wf:Goes Tryd.prog 100:=⟨_,Tryd.func100,by kernel_rfl,by kernel_rfl⟩
theorem rO:Goes Tryd.prog 101:=⟨_,Tryd.func101,by kernel_rfl,by kernel_rfl⟩
theorem rg:Goes Tryd.prog 102:=⟨_,Tryd.func102,by kernel_rfl,by kernel_rfl⟩
section
open Go.RowKit Go.ChangeShapes Go.WideShapes Go.ChangeAt
def jD {α:Type} (P:Program) (R:Rep α) (T:TypeId):Prop :=
 ∀ {H:Type} (enc:TypeId × Value→H) (w:World) (base:Nat) (spare:Nat→Bool) (held:Bool) (fuel:Nat) (cs:List Value) (x:DataW H × List MemPlace),DataW.trod enc P w base spare held fuel T cs=some x→∃ y,R.rd w cs y

theorem sG {P:Program} {T:TypeId} (ht:P.underlying T=some (.int .i64)):jD P bH T:=by
 intro H enc w base spare held fuel cs x h
 obtain ⟨n,rfl,_⟩:=DataW.trod_int ht h
 exact ⟨n,rfl⟩
theorem sx {P:Program} {T:TypeId} (ht:P.underlying T=some .string):jD P jn T:=by
 intro H enc w base spare held fuel cs x h
 obtain ⟨s,rfl,_,hs⟩:=DataW.trod_string ht h
 exact ⟨s,rfl,by unfold maxLen at hs;omega⟩
theorem nf {α:Type} {P:Program} {R:Rep α} {T e E:TypeId} (ht:P.underlying T=some (.slice e)) (hs:P.cellsOf e=R.sz) (hpos:0<R.sz) (ho:jD P R e):jD P (aD R E) T:=by
 intro H enc w base spare held fuel cs x h
 rcases DataW.trod_slice ht h with ⟨rfl,_⟩ | ⟨a,len,cap,elems,rst,n,_,rfl,_,hb,hlc,hm,hel,hev,_⟩
 ·exact ⟨[],none,0,[],rfl,Nat.le_refl _,Nat.zero_le _,fun _=>rfl,rfl,.inl rfl⟩
 ·have hone:∀ i,i<len→∃ ec y,R.rd w ec y∧∀ j c,ec[j]? = some c→w.cell? (a.add (i*R.sz) |>.add j)=some c:=by
   intro i hi
   have h1:=hev i hi
   rw [List.getElem?_eq_getElem (by omega),hs] at h1
   obtain ⟨ec,h2,h3⟩:=Option.bind_eq_some_iff.1 h1
   obtain ⟨y,hy⟩:=ho enc w base spare held n ec _ h3
   obtain ⟨_,h4,h5⟩:=World.cells?_some h2
   exact ⟨ec,y,hy,fun j c hj=>by rw [h5 j (by have:=(List.getElem?_eq_some_iff.1 hj).1;omega)];exact hj⟩
  by_cases hl0:len=0
  ·subst hl0
   exact ⟨[],some a,cap,[],rfl,hlc,hm,by simp,rfl,.inl rfl⟩
  obtain ⟨b,off,spot⟩:=a
  have hspot:spot=none:=by
   obtain ⟨ec,y,hy,hc⟩:=hone 0 (by omega)
   have hl:=R.rd_len hy
   have h0:=hc 0 ec[0] (by simp)
   simp only [Nat.zero_mul,Addr.add,if_true] at h0
   cases spot with
   | none=>rfl
   | some s =>
    unfold World.cell? at h0
    split at h0 <;> simp at h0
  subst hspot
  have hall:∀ k,k≤len→∃ ys ccs,ys.length=k∧rdL R w ccs ys∧∀ j c,ccs[j]? = some c→w.cell? ⟨b,off+j,none⟩=some c:=by
   intro k
   induction k with
   | zero=>intro _;exact ⟨[],[],rfl,rfl,by simp⟩
   | succ k ih =>
    intro hk
    obtain ⟨ys,ccs,h1,h2,h3⟩:=ih (by omega)
    obtain ⟨ec,y,hy,hc⟩:=hone k (by omega)
    refine ⟨ys++[y],ccs++ec,by simp [h1],oK (ys:=[y]) ⟨ec,[],by simp,hy,rfl⟩ h2,fun j c hj=>?_⟩
    have hcl:=i6 h2
    by_cases hj1:j<ccs.length
    ·rw [List.getElem?_append_left hj1] at hj;exact h3 j c hj
    ·rw [List.getElem?_append_right (by omega)] at hj
     have:=hc (j-ccs.length) c hj
     rw [Addr.add_lit,Addr.add_lit] at this
     rw [show off+j=off+k*R.sz+(j-ccs.length) by rw [hcl,h1] at *;omega]
     exact this
  obtain ⟨ys,ccs,h1,h2,h3⟩:=hall len (Nat.le_refl _)
  exact ⟨ys,some ⟨b,off,none⟩,cap,ccs,by rw [h1],by omega,hm,by simp,h2,.inr ⟨b,off,rfl,h3⟩⟩
theorem pj {α β:Type} {R:Rep α} {S:Rep β} {w:World} {cs:List Value} {x:α} {y:β} (n:Nat) (h1:R.rd w (cs.take n) x) (h2:S.rd w (cs.drop n) y):(f7 R S).rd w cs (x,y) :=
 ⟨cs.take n,cs.drop n,(List.take_append_drop n cs).symm,h1,h2⟩
theorem jk {α:Type} {P:Program} {R:Rep α} {T:TypeId} (ho:jD P R T) {H:Type} {enc:TypeId × Value→H} {w:World} {base:Nat} {spare:Nat→Bool} {held:Bool} {fuel:Nat} {cs:List Value} {xs:List (DataW H × List MemPlace)} {i:Nat}
  (hi:i<xs.length) (h:DataW.trod enc P w base spare held fuel T cs=xs[i]?):∃ y,R.rd w cs y:=by
 rw [List.getElem?_eq_getElem hi] at h
 exact ho enc w base spare held fuel cs _ h
theorem zu {cs:Array Value} (h:cs.size=3):∃ c0 c1 c2,cs=#[c0,c1,c2]:=by
 obtain ⟨l⟩:=cs
 match l,h with
 | [c0,c1,c2],_=>exact ⟨c0,c1,c2,rfl⟩
end
theorem bs {α β:Type} (a:α) (f:α→Option β):(some a).bind f=f a:=rfl
theorem aV {α:Type} {xs:List α} {i:Nat} (h:i<xs.length):ix xs (i:Int)=some xs[i]:=by
 unfold ix;rw [if_pos (by omega)];simp [h]
theorem lp {n:Int} (h:-4611686018427387904≤n) (h2:n≤4611686018427387904):rng n=true:=by
 unfold rng;simp only [Bool.and_eq_true,decide_eq_true_eq];omega
theorem bE {a b:Int} (h:-4611686018427387904≤a+b) (h2:a+b≤4611686018427387904):ad a b=some (a+b):=by unfold ad;rw [if_pos (lp h h2)]
theorem fj {a b:Int} (h:-4611686018427387904≤a-b) (h2:a-b≤4611686018427387904):sb a b=some (a-b):=by unfold sb;rw [if_pos (lp h h2)]
theorem eN {a b:Int} (h:-4611686018427387904≤a*b) (h2:a*b≤4611686018427387904):ml a b=some (a*b):=by unfold ml;rw [if_pos (lp h h2)]
theorem ad1 {i:Nat} (h:i<1099511627776):ad (i:Int) 1=some ((i+1:Nat):Int):=by rw [bE (by omega) (by omega)];simp
theorem dlt {i n:Nat} (h:i<n):decide ((i:Int)<(n:Int))=true:=by simp;omega
theorem dge {i n:Nat} (h:¬ i<n):decide ((i:Int)<(n:Int))=false:=by simp;omega
theorem kr {α:Type} {xs:List α} {i:Nat} {y:α} (h:i<xs.length):sto xs (i:Int) y=some (xs.set i y):=by
 unfold sto;rw [if_pos ⟨by omega,by simpa using h⟩];simp
theorem yb {α:Type} {b:Nat} {xs ys:List α} (h:(xs.length+ys.length)*b≤140737488355328):apd b xs ys=some (xs++ys):=by unfold apd;rw [if_pos h]
theorem bz {α:Type} {b:Nat} {xs ys:List α} (hb:b≤64) (h:xs.length+ys.length≤2199023255552):apd b xs ys=some (xs++ys):=by
 refine yb (Nat.le_trans (Nat.mul_le_mul h hb) (by omega))
theorem nK {α:Type} {b:Nat} {z:α} {n:Nat} (hb:b≤64) (h:n≤2199023255552):mk b z (n:Int)=some (List.replicate n z):=by
 unfold mk;rw [if_pos ⟨by omega,by simpa using Nat.le_trans (Nat.mul_le_mul h hb) (by omega),by simp;omega⟩];simp
theorem mv {α:Type} {xs:List α} {lo hi:Nat} (h1:lo≤hi) (h2:hi≤xs.length):slc xs (lo:Int) (hi:Int)=some ((xs.take hi).drop lo):=by
 unfold slc;rw [if_pos ⟨by omega,by omega,by omega⟩];simp

theorem mP {R V:Type} (L:Nat→Int→Option (Sum R V)) (n:Nat) (hn:n<1099511627776) (b:R) (p:Nat→Bool) (v:V)
  (hstep:∀ k i,i<n→L (k+1) (i:Int)=bif p i then L k ((i+1:Nat):Int) else some (.inl b))
  (hend:∀ k,L (k+1) (n:Int)=some (.inr v)) :
  ∀ k i,i≤n→n-i<k→L k (i:Int)=some (bif (List.range' i (n-i)).all p then .inr v else .inl b):=by
 intro k
 induction k with
 | zero=>intro i hi hk;omega
 | succ k ih =>
  intro i hi hk
  by_cases h:i<n
  ·rw [hstep k i h,show n-i=(n-(i+1))+1 by omega,List.range'_succ,List.all_cons]
   cases hp:p i with
   | true=>rw [cond_true,Bool.true_and];exact ih (i+1) (by omega) (by omega)
   | false=>rfl
  ·obtain rfl:i=n:=by omega
   rw [hend k,Nat.sub_self];rfl
theorem mz {α:Type} (xs:List α) (p:α→Bool) (q:Nat→Bool) (h:∀ i (hi:i<xs.length),q i=p xs[i]):(List.range' 0 xs.length).all q=xs.all p:=by
 rw [Bool.eq_iff_iff,List.all_eq_true,List.all_eq_true]
 constructor
 ·intro hq x hx
  obtain ⟨i,hi,rfl⟩:=List.getElem_of_mem hx
  rw [← h i hi];exact hq i (by simp;omega)
 ·intro hp i hi
  have hi':i<xs.length:=by simpa using hi
  rw [h i hi'];exact hp _ (List.getElem_mem hi')
theorem uL {α:Type} [DecidableEq α] {xs ys:List α} (hl:xs.length=ys.length) (q:Nat→Bool) (h:∀ i (hi:i<xs.length),q i=decide (xs[i]=ys[i]'(by omega))):(List.range' 0 xs.length).all q=decide (xs=ys):=by
 rw [Bool.eq_iff_iff,List.all_eq_true,decide_eq_true_iff]
 constructor
 ·intro hq
  refine List.ext_getElem hl fun i h1 h2=>?_
  have:=hq i (by simp;omega)
  rw [h i h1] at this
  exact of_decide_eq_true this
 ·rintro rfl i hi
  have hi':i<xs.length:=by simpa using hi
  rw [h i hi'];simp

theorem pk {α:Type} (xs:List α) (z:α) (k n:Nat) (hk:k<xs.length) (hn:xs.length=n):(xs.take k++List.replicate (n-k) z).set k xs[k]=xs.take (k+1)++List.replicate (n-(k+1)) z:=by
 rw [List.set_append_right _ _ (by simp;omega),List.length_take,Nat.min_eq_left (by omega),Nat.sub_self,show n-k=(n-(k+1))+1 by omega,List.replicate_succ,List.set_cons_zero,List.take_succ_eq_append_getElem hk,List.append_assoc]
 rfl
section
variable {α:Type}
def o3 (f:α→Int→Option Int):Nat→List α→Int→Int→Option (Sum Int (Int × Int))
 | 0,_,_,_=>none
 | k+1,xs,l,i =>
  bif decide (i<(xs.length:Int)) then
   (ix xs i).bind fun x=>(f x l).bind fun r =>
   bif decide (r<0) then some (.inl (-1)) else (ad i 1).bind fun i'=>o3 f k xs r i'
  else some (.inr (l,i))
def gsz (f:α→Int→Option Int) (N:Nat) (xs:List α) (l:Int):Option Int :=
 (sb l (xs.length:Int)).bind fun x=>bif decide (x<0) then some (-1) else
 (o3 f N xs x 0).bind fun s=>lpS s (fun q=>some q) fun v=>some v.1
def mw {β:Type} (f:α→Option β):Nat→List α→List β→Int→Option (List β × Int)
 | 0,_,_,_=>none
 | k+1,xs,ys,i =>
  bif decide (i<(xs.length:Int)) then
   (ix xs i).bind fun x=>(f x).bind fun r=>(ix ys i).bind fun _=>(sto ys i r).bind fun ys'=>(ad i 1).bind fun i'=>mw f k xs ys' i'
  else some (ys,i)
def gto {β:Type} (f:α→Option β) (b:Nat) (z:β) (N:Nat) (xs:List α):Option (List β) :=
 (mk b z (xs.length:Int)).bind fun ys=>(mw f N xs ys 0).bind fun v=>some v.1
def kA (f:α→α→Option Bool):Nat→List α→List α→Int→Option (Sum Bool Int)
 | 0,_,_,_=>none
 | k+1,xs,ys,i =>
  bif decide (i<(xs.length:Int)) then
   (ix xs i).bind fun x=>(ix ys i).bind fun y=>(f x y).bind fun r =>
   bif r then (ad i 1).bind fun i'=>kA f k xs ys i' else some (.inl false)
  else some (.inr i)
def geq (f:α→α→Option Bool) (N:Nat) (xs ys:List α):Option Bool :=
 bif ((xs.length:Int) != (ys.length:Int)) then some false else
 (kA f N xs ys 0).bind fun s=>lpS s (fun q=>some q) fun _=>some true
def bP (p:α→Prop) (m:Nat) (xs:List α):Prop:=xs.length≤m∧∀ x∈xs,p x

theorem xG {f:α→Int→Option Int} {p ok:α→Prop} {N:Nat} (hN:1073741824≤N) (hf:∀ x l,p x→0≤l→l≤1048576→∃ r,f x l=some r∧(0≤r→ok x∧r≤1048576)) {xs:List α} {l:Int} (hp:bP p 9223372036854775807 xs) (h0:0≤l) (h1:l≤1048576) :
  ∃ r,gsz f N xs l=some r∧(0≤r→bP ok 1048576 xs∧r≤1048576):=by
 unfold gsz
 have hs:sb l (xs.length:Int)=some (l-xs.length):=by
  unfold sb;rw [if_pos];unfold rng;simp only [Bool.and_eq_true,decide_eq_true_eq];have:=hp.1;omega
 rw [hs,bs]
 by_cases hl:l-xs.length<0
 ·rw [decide_eq_true hl,cond_true];exact ⟨-1,rfl,fun h=>absurd h (by omega)⟩
 rw [decide_eq_false hl,cond_false]
 have key:∀ k i l,i≤xs.length→xs.length-i<k→0≤l→l≤1048576→∃ s,o3 f k xs l (i:Int)=some s∧(match s with | .inl r=>r=-1 | .inr v=>0≤v.1∧v.1≤1048576∧∀ j (hj:j<xs.length),i≤j→ok xs[j]):=by
  intro k
  induction k with
  | zero=>intro i l hi hk;omega
  | succ k ih =>
   intro i l hi hk h0 h1
   unfold o3
   by_cases h:i<xs.length
   ·obtain ⟨r,e1,e2⟩:=hf xs[i] l (hp.2 _ (List.getElem_mem h)) h0 h1
    rw [dlt h,cond_true,aV h,bs,e1,bs]
    by_cases hr:r<0
    ·rw [decide_eq_true hr,cond_true];exact ⟨_,rfl,rfl⟩
    ·rw [decide_eq_false hr,cond_false,ad1 (by omega),bs]
     obtain ⟨s,e3,e4⟩:=ih (i+1) r (by omega) (by omega) (by omega) (e2 (by omega)).2
     refine ⟨s,e3,?_⟩
     cases s with
     | inl r=>exact e4
     | inr v =>
      refine ⟨e4.1,e4.2.1,fun j hj hij=>?_⟩
      by_cases e:i=j
      ·subst e;exact (e2 (by omega)).1
      ·exact e4.2.2 j hj (by omega)
   ·rw [dge h,cond_false]
    exact ⟨_,rfl,h0,h1,fun j hj hij=>by omega⟩
 obtain ⟨s,e1,e2⟩:=key N 0 (l-xs.length) (by omega) (by omega) (by omega) (by omega)
 rw [show ((0:Int))=((0:Nat):Int) from rfl,e1,bs]
 cases s with
 | inl r=>exact ⟨-1,by rw [show r=-1 from e2];rfl,fun h=>absurd h (by omega)⟩
 | inr v =>
  refine ⟨v.1,rfl,fun _=>⟨⟨by omega,fun x hx=>?_⟩,e2.2.1⟩⟩
  obtain ⟨j,hj,rfl⟩:=List.getElem_of_mem hx
  exact e2.2.2 j hj (by omega)
theorem tM {f:α→Option α} {ok:α→Prop} {b:Nat} (hb:b≤64) {z:α} {N:Nat} (hN:1073741824≤N) (hf:∀ x,ok x→f x=some x) {xs:List α} (hp:bP ok 1048576 xs):gto f b z N xs=some xs:=by
 unfold gto
 rw [nK hb (by have:=hp.1;omega),bs]
 have key:∀ k i,i≤xs.length→xs.length-i<k→mw f k xs (xs.take i++List.replicate (xs.length-i) z) (i:Int)=some (xs,(xs.length:Int)):=by
  intro k
  induction k with
  | zero=>intro i hi hk;omega
  | succ k ih =>
   intro i hi hk
   unfold mw
   by_cases h:i<xs.length
   ·have h2:i<(xs.take i++List.replicate (xs.length-i) z).length:=by simp;omega
    rw [dlt h,cond_true,aV h,bs,hf _ (hp.2 _ (List.getElem_mem h)),bs,aV h2,bs,kr h2,bs,ad1 (by have:=hp.1;omega),bs,pk xs z i _ h rfl]
    exact ih (i+1) (by omega) (by omega)
   ·rw [dge h,cond_false]
    obtain rfl:i=xs.length:=by omega
    simp
 have:=key N 0 (by omega) (by have:=hp.1;omega)
 simp only [List.take_zero,List.nil_append,Nat.sub_zero] at this
 rw [show ((0:Int))=((0:Nat):Int) from rfl,this,bs]
theorem wv [DecidableEq α] {f:α→α→Option Bool} {ok:α→Prop} {N:Nat} (hN:1073741824≤N) (hf:∀ x y,ok x→ok y→f x y=some (decide (x=y))) {xs ys:List α} (hp:bP ok 1073741823 xs) (hq:bP ok 1073741823 ys):geq f N xs ys=some (decide (xs=ys)):=by
 unfold geq
 by_cases hl:xs.length=ys.length
 ·rw [show ((xs.length:Int) != (ys.length:Int))=false by simp [hl],cond_false]
  have:=mP (L:=fun k i=>kA f k xs ys i) xs.length (by have:=hp.1;omega) false (fun i=>if h:i<xs.length then decide (xs[i]=ys[i]'(by omega)) else true) (xs.length:Int)
   (fun k i h=>by
    show kA f (k+1) xs ys (i:Int)=_
    rw [kA,dlt h,cond_true,aV h,bs,aV (by omega),bs,hf _ _ (hp.2 _ (List.getElem_mem h)) (hq.2 _ (List.getElem_mem _)),bs,ad1 (by have:=hp.1;omega),bs]
    simp only [dif_pos h])
   (fun k=>by
    show kA f (k+1) xs ys (xs.length:Int)=_
    rw [kA,dge (by omega),cond_false]) N 0 (by omega) (by have:=hp.1;omega)
  rw [show ((0:Int))=((0:Nat):Int) from rfl,this,bs,Nat.sub_zero,uL hl _ (fun i hi=>by rw [dif_pos hi])]
  cases decide (xs=ys) <;> rfl
 ·rw [show ((xs.length:Int) != (ys.length:Int))=true by simp;omega,cond_true,eq_comm]
  congr 1
  simp
  intro e;subst e;exact hl rfl
theorem bP.big {ok:α→Prop} {xs:List α} (h:bP ok 1048576 xs):bP ok 1073741823 xs:=⟨by have:=h.1;omega,h.2⟩
theorem sS [DecidableEq α] {f:α→α→Option Bool} {ok:α→Prop} {N:Nat} (hN:1073741824≤N) (hf:∀ x y,ok x→ok y→f x y=some (decide (x=y))) {xs ys:List α} (hp:bP ok 1048576 xs) (hq:bP ok 1048576 ys):geq f N xs ys=some (decide (xs=ys)):=wv hN hf hp.big hq.big
end
theorem xI (x y:Int):(x != y)=!decide (x=y):=by by_cases h:x=y <;> simp [h]
theorem zg (x y:Int):(x == y)=decide (x=y):=by by_cases h:x=y <;> simp [h]
theorem pi (s r:ByteArray):eqS s r=decide (s=r):=by
 unfold eqS
 rw [Bool.eq_iff_iff,decide_eq_true_iff]
 constructor
 ·intro h
  have h1:s.toList=r.toList:=by simpa using h
  rw [ByteArray.toList_eq,ByteArray.toList_eq] at h1
  cases s;cases r;simp_all
 ·rintro rfl;simp
section
open Go.RowKit Go.ChangeShapes Go.WideShapes Go.ChangeAt
theorem vf:ownKnob Tryd.prog.godebug=none:=by kernel_rfl
theorem qF:laidOutB Tryd.prog=true:=by kernel_rfl
theorem pF {α:Type} {R:Rep α} {E:TypeId} {p:α→Prop} (h:∀ {w:World} {cs:List Value} {x:α},R.rd w cs x→p x) {w:World} {cs:List Value} {xs:List α} (hr:(aD R E).rd w cs xs):bP p 9223372036854775807 xs:=by
 obtain ⟨ao,cap,ccs,rfl,h1,h2,h3,h4,h5⟩:=hr
 refine ⟨by unfold maxLen at h2;omega,fun x hx=>?_⟩
 obtain ⟨j,hj,rfl⟩:=List.getElem_of_mem hx
 obtain ⟨ec,h6,_⟩:=lx h4 j hj
 exact h h6
theorem vX {w:World} {cs:List Value} {x:ByteArray} (hr:jn.rd w cs x):x.size≤9223372036854775807:=hr.2
theorem nw {α β:Type} {R:Rep α} {S:Rep β} {w:World} {cs:List Value} {x:α × β} (h:(f7 R S).rd w cs x):(∃ c,R.rd w c x.1)∧∃ c,S.rd w c x.2:=by
 obtain ⟨c1,c2,_,h1,h2⟩:=h;exact ⟨⟨c1,h1⟩,c2,h2⟩
theorem tc:jD Tryd.prog bH 3:=sG Tryd.underlying3
theorem xB:jD Tryd.prog jn 9:=sx Tryd.underlying9
theorem oV:jD Tryd.prog (aD bH 3) 23:=nf Tryd.underlying23 (by kernel_rfl) (by decide) tc
theorem sr {w:World} {cs:List Value} {x:List Int} (h:(aD bH 3).rd w cs x):(bP (fun _=>True) 9223372036854775807) x:=pF (fun _=>trivial) h
theorem wH:jD Tryd.prog (f7 jn (aD bH 3)) 47:=by
 intro H enc w base spare held fuel cs x h
 obtain ⟨xs,n,_,_,hl,hxl,hf⟩:=DataW.trod_struct Tryd.underlying47 h
 have hl2:cs.length=2:=hl.trans (by kernel_rfl)
 obtain ⟨y0,k0⟩:=jk xB (i:=0) (by rw [hxl];decide) (hf 0 _ rfl)
 have m0:(jn).rd w ((cs.drop 0).take (Tryd.prog.cellsOf 9)) y0:=k0
 rw [show Tryd.prog.cellsOf 9=1 by kernel_rfl] at m0
 obtain ⟨y1,k1⟩:=jk oV (i:=1) (by rw [hxl];decide) (hf 1 _ rfl)
 have m1:((aD bH 3)).rd w ((cs.drop 1).take (Tryd.prog.cellsOf 23)) y1:=k1
 rw [show Tryd.prog.cellsOf 23=1 by kernel_rfl] at m1
 rw [List.take_of_length_le (by simp;omega)] at m1
 exact ⟨(y0,y1),(pj 1 (by simpa [List.drop_drop] using m0) (by simpa [List.drop_drop] using m1))⟩
theorem yD {w:World} {cs:List Value} {x:ByteArray × List Int} (h:(f7 jn (aD bH 3)).rd w cs x):(fun x=>(fun s=>s.size≤9223372036854775807) x.1∧(bP (fun _=>True) 9223372036854775807) x.2) x:=by
 obtain ⟨⟨_,a0⟩,_,b0⟩:=nw h
 exact ⟨vX a0,sr b0⟩
theorem vV:jD Tryd.prog (aD (f7 jn (aD bH 3)) 47) 22:=nf Tryd.underlying22 (by kernel_rfl) (by decide) wH
theorem yR {w:World} {cs:List Value} {x:List (ByteArray × List Int)} (h:(aD (f7 jn (aD bH 3)) 47).rd w cs x):(bP (fun x=>(fun s=>s.size≤9223372036854775807) x.1∧(bP (fun _=>True) 9223372036854775807) x.2) 9223372036854775807) x:=pF yD h
theorem wz:jD Tryd.prog (f7 bH (f7 (aD (f7 jn (aD bH 3)) 47) (aD bH 3))) 25:=by
 intro H enc w base spare held fuel cs x h
 obtain ⟨xs,n,_,_,hl,hxl,hf⟩:=DataW.trod_struct Tryd.underlying25 h
 have hl2:cs.length=3:=hl.trans (by kernel_rfl)
 obtain ⟨y0,k0⟩:=jk tc (i:=0) (by rw [hxl];decide) (hf 0 _ rfl)
 have m0:(bH).rd w ((cs.drop 0).take (Tryd.prog.cellsOf 3)) y0:=k0
 rw [show Tryd.prog.cellsOf 3=1 by kernel_rfl] at m0
 obtain ⟨y1,k1⟩:=jk vV (i:=1) (by rw [hxl];decide) (hf 1 _ rfl)
 have m1:((aD (f7 jn (aD bH 3)) 47)).rd w ((cs.drop 1).take (Tryd.prog.cellsOf 22)) y1:=k1
 rw [show Tryd.prog.cellsOf 22=1 by kernel_rfl] at m1
 obtain ⟨y2,k2⟩:=jk oV (i:=2) (by rw [hxl];decide) (hf 2 _ rfl)
 have m2:((aD bH 3)).rd w ((cs.drop 2).take (Tryd.prog.cellsOf 23)) y2:=k2
 rw [show Tryd.prog.cellsOf 23=1 by kernel_rfl] at m2
 rw [List.take_of_length_le (by simp;omega)] at m2
 exact ⟨(y0,y1,y2),(pj 1 (by simpa [List.drop_drop] using m0) (pj 1 (by simpa [List.drop_drop] using m1) (by simpa [List.drop_drop] using m2)))⟩
theorem yV {w:World} {cs:List Value} {x:Int × List (ByteArray × List Int) × List Int} (h:(f7 bH (f7 (aD (f7 jn (aD bH 3)) 47) (aD bH 3))).rd w cs x):(fun x=>(bP (fun x=>(fun s=>s.size≤9223372036854775807) x.1∧(bP (fun _=>True) 9223372036854775807) x.2) 9223372036854775807) x.2.1∧(bP (fun _=>True) 9223372036854775807) x.2.2) x:=by
 obtain ⟨⟨_,a0⟩,_,b0⟩:=nw h
 obtain ⟨⟨_,a1⟩,_,b1⟩:=nw b0
 exact ⟨yR a1,sr b1⟩
end
theorem Sat.splitp {w0 w:World} {A B C:Asn} {Γ:List Asn} (h:Sat w0 w (A :: Γ)) (k:∀ f,A.holds w f→∃ p q,(p++q).Perm f∧B.holds w p∧C.holds w q):Sat w0 w (B :: C :: Γ):=by
 obtain ⟨hb,_,⟨f1,f2,rfl,h1,h2⟩,hn,h3⟩:=h
 obtain ⟨p,q,hp,k1,k2⟩:=k f1 h1
 have hpp:(p++(q++f2)).Perm (f1++f2):=by rw [← List.append_assoc];exact List.Perm.append_right _ hp
 exact ⟨hb,p++(q++f2),⟨p,q++f2,rfl,k1,q,f2,rfl,k2,h2⟩,hpp.nodup_iff.2 hn,fun b hb'=>h3 b (hpp.mem_iff.1 hb')⟩
theorem Sat.joinp {w0 w:World} {A B C:Asn} {Γ:List Asn} (h:Sat w0 w (A :: B :: Γ)) (k:∀ f g,A.holds w f→B.holds w g→∃ p,p.Perm (f++g)∧C.holds w p):Sat w0 w (C :: Γ):=by
 obtain ⟨hb,_,⟨f1,_,rfl,h1,f2,f3,rfl,h2,h4⟩,hn,h3⟩:=h
 obtain ⟨p,hp,k1⟩:=k f1 f2 h1 h2
 have hpp:(p++f3).Perm (f1++(f2++f3)):=by rw [← List.append_assoc];exact List.Perm.append_right _ hp
 exact ⟨hb,p++f3,⟨p,f3,rfl,k1,h4⟩,hpp.nodup_iff.2 hn,fun b hb'=>h3 b (hpp.mem_iff.1 hb')⟩
section
variable {α β:Type} {R:Rep α} {S:Rep β} {w0 w:World} {Γ:List Asn} {E:TypeId} {v:Value}
def o9 (R:Rep α) (E:TypeId) (v:Value) (xs:List α) (i:Nat) (ec:List Value):Asn where
 holds w fp:=(∀ b∈fp,b<w.heap.size)∧∀ w' y f',(∀ b∈fp,w'.heap[b]? = w.heap[b]?)→R.own w' ec y f'→∃ p,p.Perm (f'++fp)∧(aD R E).own w' [v] (xs.set i y) p
 ext h he:=by
  refine ⟨fun b hb=>?_,fun w'' y f' he' ho=>h.2 w'' y f' (fun b hb=>(he' b hb).trans (he b hb)) ho⟩
  have h1:=h.1 b hb
  have h2:=he b hb
  rw [Array.getElem?_eq_getElem h1] at h2
  exact (Array.getElem?_eq_some_iff.1 h2).1
 lt h:=h.1
theorem jX {w:World}:∀ {xs:List α} {ccs:List Value} {f:List Nat},eZ R w ccs xs f→∀ (k:Nat) (hk:k<xs.length),
  ∃ ec f1 f2 f3,R.own w ec xs[k] f2∧f=f1++(f2++f3)∧(∀ j c,ec[j]? = some c→ccs[k*R.sz+j]? = some c) ∧
   ∀ w' y f',(∀ b∈f1++f3,w'.heap[b]? = w.heap[b]?)→R.own w' ec y f'→eZ R w' ccs (xs.set k y) (f1++(f'++f3))
 | [],_,_,_,k,hk=>absurd hk (by simp)
 | x :: xs,_,_,h,k,hk=>by
  obtain ⟨ec,rest,f1,f2,rfl,rfl,h1,h2⟩:=h
  cases k with
  | zero =>
   refine ⟨ec,[],f1,f2,h1,rfl,fun j c hj=>?_,fun w' y f' he ho=>?_⟩
   ·have hlt:j<ec.length:=(List.getElem?_eq_some_iff.1 hj).1
    rw [Nat.zero_mul,Nat.zero_add,List.getElem?_append_left hlt];exact hj
   ·exact ⟨ec,rest,f',f2,rfl,rfl,ho,gb h2 fun b hb=>he b (by simpa using hb)⟩
  | succ k =>
   obtain ⟨ec',g1,g2,g3,k1,rfl,k3,k4⟩:=jX h2 k (by simpa using hk)
   refine ⟨ec',f1++g1,g2,g3,by simpa using k1,by simp,fun j c hj=>?_,fun w' y f' he ho=>?_⟩
   ·have e:(k+1)*R.sz+j=ec.length+(k*R.sz+j):=by rw [R.rd_len (R.own_rd h1),Nat.add_mul];omega
    rw [e,List.getElem?_append_right (by omega),Nat.add_sub_cancel_left]
    exact k3 j c hj
   ·refine ⟨ec,rest,f1,g1++(f'++g3),rfl,by simp,R.own_ext h1 fun b hb=>he b (by simp [hb]),k4 w' y f' (fun b hb=>he b ?_) ho⟩
    rcases List.mem_append.1 hb with h | h
    ·simp [h]
    ·simp [h]
end
theorem Sat.rebase {a b w:World} {Γ:List Asn} (h:Sat b w Γ) (hx:Ext a b):Sat a w Γ:=by
 obtain ⟨hb,fp,h1,h2,h3⟩:=h
 exact ⟨Ext.trans hx hb,fp,h1,h2,fun x hx'=>Nat.le_trans hx.size (h3 x hx')⟩
theorem Sat.drop {w0 w:World} {Γ Δ:List Asn} (h:Sat w0 w (Γ++Δ)):Sat w0 w Δ:=by
 induction Γ with
 | nil=>simpa using h
 | cons A Γ ih=>exact ih h.tail
def roR {α:Type} (W:World) (R:Rep α):Rep α where
 sz:=R.sz
 rd _ cs x:=R.rd W cs x
 own _ cs x fp:=R.rd W cs x∧fp=[]
 rd_len h:=R.rd_len h
 rd_one h:=R.rd_one h
 rd_ext h _:=h
 own_rd h:=h.1
 own_ext h _:=h
 own_lt h:=by rw [h.2];simp
section
variable {α:Type} {R:Rep α} {W w w0 w':World} {E:TypeId} {Γ:List Asn} {v:Value} {xs:List α}
theorem sC (hx:Ext W w):∀ {xs:List α} {ccs:List Value},rdL (roR W R) w ccs xs→rdL R w ccs xs
 | [],_,h=>h
 | x :: xs,_,h=>by
  obtain ⟨ec,rest,rfl,h1,h2⟩:=h
  exact ⟨ec,rest,rfl,R.rd_ext h1 hx,sC hx h2⟩
theorem rY {cs:List Value} (hx:Ext W w) (h:(aD (roR W R) E).rd w cs xs):(aD R E).rd w cs xs:=by
 obtain ⟨ao,cap,ccs,h1,h2,h3,h4,h5,h6⟩:=h
 exact ⟨ao,cap,ccs,h1,h2,h3,h4,sC hx h5,h6⟩
theorem Sat.roOne {cs:List Value} {x:α} (hS:Sat w0 w Γ) (h:R.rd W cs x):Sat w0 w (Own (roR W R) cs x :: Γ):=hS.add ⟨h,rfl⟩
theorem qp:∀ {xs:List α} {ccs:List Value},rdL R W ccs xs→rdL (roR W R) w ccs xs
 | [],_,h=>h
 | x :: xs,_,h=>by
  obtain ⟨ec,rest,rfl,h1,h2⟩:=h
  exact ⟨ec,rest,rfl,h1,qp h2⟩
theorem xy (h:(aD (roR W R) E).rd w [v] xs):∃ ao c ccs,v=.slice ao xs.length c∧(ao=none→c=0)∧kQ w ao ccs∧rdL (roR W R) w ccs xs:=by
 obtain ⟨ao,cap,ccs,hv,h1,h2,h3,h4,h5⟩:=h
 exact ⟨ao,cap,ccs,by simpa using hv,h3,h5,h4⟩
theorem we {cs:List Value} (hx:Ext W w) (h:(aD R E).rd W cs xs):(aD (roR W R) E).rd w cs xs:=by
 obtain ⟨ao,cap,ccs,h1,h2,h3,h4,h5,h6⟩:=h
 refine ⟨ao,cap,ccs,h1,h2,h3,h4,qp h5,?_⟩
 rcases h6 with h6 | ⟨b,off,rfl,h6⟩
 ·exact .inl h6
 ·exact .inr ⟨b,off,rfl,fun j c hj=>by have:=h6 j c hj;rw [hx.cell (block_lt_of_cell this)];exact this⟩

end

section
variable {P:Program} {e:Env} {w:World} {d:Option Nat} {ty:TypeId} {pos:String} {af:Array Edge} {x y:Operand}
instance flat_str:FlatR jn (fun s=>.string s):=⟨fun h=>h.1⟩
end
theorem fi {P:Program} {n:Nat} {ops:Array Oper} {X:List Nat} {C:World→Prop} {K:Env→World→Prop} (i j:Nat) {f:Nat} {L:Array Bool} {e:Env} {w:World} {o o':Oper} (hr:Region.ready .any ops L=[i,j]) (ho:ops[i]? = some o) (ho':ops[j]? = some o')
  (h:EL P n ops (fun e' w'=>(X.contains i=true→C w')∧AL P n ops X C K f (L.setIfInBounds i true) e' w') [o] e w) (h':EL P n ops (fun e' w'=>(X.contains j=true→C w')∧AL P n ops X C K f (L.setIfInBounds j true) e' w') [o'] e w):AL P n ops X C K (f+1) L e w :=
 ⟨fun h0=>(by rw [h0] at hr;cases hr),fun k hk=>by
  rw [hr] at hk
  rcases List.mem_cons.1 hk with rfl | hk
  ·exact ⟨o,ho,h⟩
  ·obtain rfl:k=j:=by simpa using hk
   exact ⟨o',ho',h'⟩⟩
theorem fT {P:Program} {n:Nat} {c:Code} {Q:Exit→Env→World→Prop} {e:Env} {w:World} (I:Env→World→Prop) (h1:CW P n c (fun x e w=>x=.normal∧I e w) e w) (h2:∀ e w,I e w→Q .normal e w):CW P n c Q e w:=by
 intro a ha
 refine wp_mono (h1 a ha) ?_
 rintro x' a' w' ⟨e',he',rfl,hI⟩
 exact ⟨e',he',h2 _ _ hI⟩
def dh (m:Nat):Value→Int→Int→Value
 | .slice ao _ cap,lo,hi=>.slice (if cap=lo.toNat then ao else ao.map (·.add (lo.toNat*m))) (hi.toNat-lo.toNat) (cap-lo.toNat)
 | v,_,_=>v
section
variable {α:Type} {R:Rep α} {E:TypeId} {w w0:World} {v:Value} {xs ys:List α} {Γ:List Asn}
theorem lX {xs ys:List α} {lo hi:Int} (h:slc xs lo hi=some ys):∃ l k:Nat,lo=(l:Int)∧hi=(k:Int)∧l≤k∧k≤xs.length∧ys=(xs.take k).drop l:=by
 unfold slc at h
 split at h
 ·rename_i h0
  exact ⟨lo.toNat,hi.toNat,by omega,by omega,by omega,by omega,(Option.some.inj h).symm⟩
 ·cases h
theorem yy {m:Nat} {lo hi:Int} (hn:R.sz=m) (hr:(aD R E).rd w [v] xs) (hq:slc xs lo hi=some ys):(aD R E).rd w [dh m v lo hi] ys:=by
 obtain ⟨l,h,rfl,rfl,hlh,hh,rfl⟩:=lX hq
 obtain ⟨ao,cap,ccs,hv,h1,h2,h3,h4,h5⟩:=hr
 obtain rfl:v=.slice ao xs.length cap:=by simpa using hv
 have hlen:((xs.take h).drop l).length=h-l:=by simp;omega
 have hrd:=(j4 l (j4 h h4).1).2
 have hccl:=i6 h4
 subst hn
 refine ⟨if cap=l then ao else ao.map (·.add (l*R.sz)),cap-l,_,by simp [dh,hlen],by rw [hlen];omega,by omega,?_,hrd,?_⟩
 ·intro e
  split at e
  ·omega
  ·cases ao with
   | none=>have:=h3 rfl;omega
   | some _=>simp at e
 ·by_cases hcl:cap=l
  ·left
   have:h=l:=by omega
   subst this
   apply List.eq_nil_of_length_eq_zero
   simp
  ·rw [if_neg hcl]
   rcases h5 with rfl | ⟨b,off,rfl,h5⟩
   ·left;simp
   ·right
    refine ⟨b,off+l*R.sz,by simp [Addr.add_lit],fun j c hj=>?_⟩
    rw [List.getElem?_drop,List.getElem?_take] at hj
    split at hj
    ·rw [Nat.add_assoc];exact h5 _ c hj
    ·cases hj
theorem pr {w:World}:∀ (k:Nat) {xs:List α} {ccs:List Value} {f:List Nat},eZ R w ccs xs f→∃ f1 f2,f=f1++f2∧eZ R w (ccs.take (k*R.sz)) (xs.take k) f1∧(∀ b∈f2,b<w.heap.size)
 | 0,xs,ccs,f,h=>⟨[],f,rfl,by simp [eZ],gO h⟩
 | k+1,[],ccs,f,h=>by
  obtain ⟨rfl,rfl⟩:=h
  exact ⟨[],[],rfl,⟨by simp,rfl⟩,by simp⟩
 | k+1,x :: xs,ccs,f,h=>by
  obtain ⟨ec,rest,g1,g2,rfl,rfl,h1,h2⟩:=h
  obtain ⟨f1,f2,rfl,h3,h4⟩:=pr k h2
  refine ⟨g1++f1,f2,by simp,⟨ec,rest.take (k*R.sz),g1,f1,?_,rfl,h1,h3⟩,h4⟩
  have e:(k+1)*R.sz=ec.length+k*R.sz:=by rw [R.rd_len (R.own_rd h1),Nat.add_mul];omega
  rw [e,List.take_append,List.take_of_length_le (by omega),Nat.add_sub_cancel_left]
theorem Sat.prefix {m:Nat} {hi:Int} (hn:R.sz=m) (hS:Sat w0 w (Own (aD R E) [v] xs :: Γ)) (hq:slc xs 0 hi=some ys):Sat w0 w (Own (aD R E) [dh m v 0 hi] ys :: Γ):=by
 obtain ⟨l,k,hl,rfl,hlk,hk,rfl⟩:=lX hq
 obtain rfl:l=0:=by omega
 subst hn
 obtain ⟨ao,hao⟩:∃ A,A=Asn.mk (fun w fp=>True∧∀ b∈fp,b<w.heap.size) (fun h he=>⟨trivial,fun b hb=>by
  have h1:=h.2 b hb
  have h2:=he b hb
  rw [Array.getElem?_eq_getElem h1] at h2
  exact (Array.getElem?_eq_some_iff.1 h2).1⟩) (fun h=>h.2):=⟨_,rfl⟩
 refine Sat.tail (A:=ao) ?_
 refine hS.splitp fun f hf=>?_
 subst hao
 rcases hf with ⟨hv,rfl,rfl⟩ | ⟨g,cap,cur,ccs,f2,hv,hg,h1,h2,h3,h4,h5,rfl⟩
 ·obtain rfl:v=.slice none 0 0:=by simpa using hv
  simp only [List.length_nil,Nat.le_zero] at hk
  subst hk
  exact ⟨[],[],.refl _,⟨trivial,by simp⟩,.inl ⟨by simp [dh],by simp,rfl⟩⟩
 ·obtain rfl:v=.slice (some ⟨g,0,none⟩) xs.length cap:=by simpa using hv
  obtain ⟨f1,f3,rfl,h6,h7⟩:=pr k h5
  refine ⟨f3,g :: f1,?_,⟨trivial,h7⟩,.inr ⟨g,cap,cur,_,f1,?_,hg,?_,h2,h3,?_,h6,rfl⟩⟩
  ·exact List.perm_middle.trans (.cons _ List.perm_append_comm)
  ·have hl:(xs.take k).length=k:=by simp;omega
   simp only [List.drop_zero,hl,dh,Int.toNat_natCast]
   by_cases hc:cap=0
   ·simp [hc]
   ·simp [hc,Addr.add_lit]
  ·simp;omega
  ·rw [← h4]
   simp only [List.drop_zero,List.length_take,List.take_take]
   congr 1
   rw [Nat.min_eq_left hk]
   exact (Nat.min_eq_left (Nat.mul_le_mul_right _ hk)).symm
end
theorem mQ {P:Program} {e:Env} {w wA:World} {d:Option Nat} {ty:TypeId} {pos:String} {af:Array Edge} {x:Operand} {v:Value} {α:Type} {R:Rep α} {E E':TypeId} {t:TypeId} {lo hi:Option Operand} [ht:SliceT P t E'] {z:List Value} {m bytes:Nat} [hz:ElemT P E' z m bytes]
    (hx:ev e x=v) {xs ys:List α} (hr:(aD R E).rd wA [v] xs) {l h:Int} (hlo:(lo.map (ev e)=some (.int .i64 l))∨(lo=none∧l=0)) (hhi:(hi.map (ev e)=some (.int .i64 h))∨(hi=none∧h=xs.length)) (hq:slc xs l h=some ys) :
    PV P ⟨d,.slice t x lo hi none,ty,pos,af,none⟩ e w (dh m v l h):=fun w' _=>by
  obtain ⟨l',h',rfl,rfl,hlh,hh,_⟩:=lX hq
  obtain ⟨ao,cap,ccs,hv,h1,h2,h3,h4,h5⟩:=hr
  obtain rfl:v=.slice ao xs.length cap:=by simpa using hv
  have hz:=hz.h
  cases hq':P.info? E' with
  | none=>simp [hq'] at hz
  | some inf =>
    simp [hq'] at hz
    have hcap:h'≤cap:=by omega
    have hsz:inf.size=m:=hz.2.1
    have hb:(Instr.sliceBounds true xs.length cap (lo.map (ev e)) (hi.map (ev e)) none).run P w'=.ok (l',h',cap) w':=by
      rcases hlo with e1 | ⟨e1,e1'⟩ <;> rcases hhi with e2 | ⟨e2,e2'⟩
      all_goals
        (try rw [e1]);(try rw [e2])
        first
          | (simp [Instr.sliceBounds,Instr.sliceBound,asIntOf,hcap,hlh];done)
          | (have:l'=0:=by omega
             subst this
             simp [Instr.sliceBounds,Instr.sliceBound,asIntOf,hcap,hlh];done)
          | (have:h'=xs.length:=by omega
             subst this
             simp [Instr.sliceBounds,Instr.sliceBound,asIntOf,hcap,hlh];done)
          | (have:l'=0:=by omega
             have:h'=xs.length:=by omega
             subst_vars
             simp [Instr.sliceBounds,Instr.sliceBound,asIntOf])
    unfold execOp
    simp only [hx,Instr.sliceAt,Sem.run_bind,run_underlying ht.h,Result.andThen_ok,Instr.slice,hb,sizeOf,typeInfo,hq',run_program,Sem.run_pure,Option.map_none,dh,hsz,Int.toNat_natCast]
theorem oD {w W:World} {b o:Nat} (h:w.heap[b]? = W.heap[b]?):w.cell? ⟨b,o,none⟩=W.cell? ⟨b,o,none⟩:=by
 unfold World.cell?;simp [h]
def Frz (W:World) (F:List Nat):Asn where
 holds w fp:=fp=F∧(∀ b∈F,w.heap[b]? = W.heap[b]?)∧∀ b∈F,b<W.heap.size
 ext h he:=by obtain ⟨rfl,h1,h2⟩:=h;exact ⟨rfl,fun b hb=>(he b hb).trans (h1 b hb),h2⟩
 lt h:=by
  obtain ⟨rfl,h1,h2⟩:=h
  intro b hb
  have:=h1 b hb
  rw [Array.getElem?_eq_getElem (h2 b hb)] at this
  exact (Array.getElem?_eq_some_iff.1 this).1
section
variable {α:Type} {R:Rep α} {W w w0:World} {Γ:List Asn} {F F':List Nat} {cs:List Value} {x:α}
theorem Sat.frz (hS:Sat w0 w (Own R cs x :: Γ)):∃ F,R.own w cs x F∧Sat w0 w (Frz w F :: Γ):=by
 obtain ⟨hb,_,⟨f1,f2,rfl,h1,h2⟩,hn,h3⟩:=hS
 exact ⟨f1,h1,hb,_,⟨f1,f2,rfl,⟨rfl,fun _ _=>rfl,R.own_lt h1⟩,h2⟩,hn,h3⟩
theorem Sat.frzEq (i:Nat) (hS:Sat w0 w Γ) (hi:Γ[i]? = some (Frz W F)):∀ b∈F,w.heap[b]? = W.heap[b]?:=by
 obtain ⟨fp,⟨rfl,h,_⟩,_⟩:=(hS.top i hi).head
 exact h
theorem Sat.frzRd (i:Nat) (hS:Sat w0 w Γ) (hi:Γ[i]? = some (Frz W F)) (h:R.own W cs x F') (hs:∀ b∈F',b∈F):R.rd w cs x :=
 R.own_rd (R.own_ext h (fun b hb=>hS.frzEq i hi b (hs b hb)))
theorem Sat.frzCells (i:Nat) (hS:Sat w0 w Γ) (hi:Γ[i]? = some (Frz W F)) {b off:Nat} {ec:List Value} (hb:b∈F) (hm:∀ j c,ec[j]? = some c→W.cell? ⟨b,off+j,none⟩=some c):∀ j c,ec[j]? = some c→w.cell? ⟨b,off+j,none⟩=some c :=
 fun j c hj=>by rw [oD (hS.frzEq i hi b hb)];exact hm j c hj
end
section
variable {P:Program} {n:Nat} {ops:Array Oper} {X:List Nat} {C:World→Prop} {K:Env→World→Prop} {KQ:Env→Prop} {rest:List Oper} {e:Env} {w W:World} {v:Value} {d:Nat} {ty:TypeId} {pos:String} {af:Array Edge} {x y:Operand} {α:Type} {R:Rep α} {E:TypeId} {F:List Nat} {fuel:Nat} {L:Array Bool}
theorem pN {d:Option Nat} {t:TypeId} [ht:SliceT P t E] {zz:List Value} {m bytes:Nat} [hz:ElemT P E zz m bytes] {xs:List α} (hs:ev e x=v) (hr:(aD R E).own W [v] xs F)
  (hn:R.sz=m) {k:IntKind} {i:Int} (hi:ev e y=.int k i) {u:α} (h:ix xs i=some u) :
  ∃ b off ec F2,R.own W ec u F2∧(∀ q∈F2,q∈F)∧b∈F∧(∀ j c,ec[j]? = some c→W.cell? ⟨b,off+j,none⟩=some c)∧∀ w,PV P ⟨d,.indexAddr t x y,ty,pos,af,none⟩ e w (.pointer (some ⟨b,off,none⟩)):=by
 obtain ⟨k',rfl,hk,rfl⟩:=eS h
 rcases hr with ⟨_,h2,_⟩ | ⟨g,cap,cur,ccs,f2,hv,hg,h1,h2,h3,h4,h5,rfl⟩
 ·subst h2;simp at hk
 obtain rfl:v=.slice (some ⟨g,0,none⟩) xs.length cap:=by simpa using hv
 obtain ⟨ec,f1,f2',f3,k1,rfl,k3,_⟩:=jX h5 k' hk
 have hz:=hz.h
 cases hq:P.info? E with
 | none=>simp [hq] at hz
 | some inf =>
  simp [hq] at hz
  have hsz:inf.size=m:=hz.2.1
  refine ⟨g,k'*m,ec,f2',k1,fun q hq=>by simp [hq],by simp,fun j c hj=>?_,fun w w' _=>?_⟩
  ·have h0:=k3 j c hj
   rw [cell_of_row W g _ cur E (0,0) hg,← Array.getElem?_toList]
   rw [← h4,List.getElem?_take] at h0
   rw [← hn]
   split at h0
   ·exact h0
   ·cases h0
  ·unfold execOp
   simp [hs,hi,Instr.indexAt,asIntOf,run_underlying ht.h,sizeOf,typeInfo,hq,hk,Addr.add_lit,hsz]
theorem kV {t:TypeId} [SliceT P t E] {zz:List Value} {m bytes:Nat} [ElemT P E zz m bytes] {xs:List α} (hs:ev e x=v) (hr:(aD R E).own W [v] xs F) (hn:R.sz=m) {k:IntKind} {i:Int} (hi:ev e y=.int k i) {u:α} (h:ix xs i=some u) (hd:d<n)
  (hK:∀ b off ec F2,R.own W ec u F2→(∀ q∈F2,q∈F)→b∈F→(∀ j c,ec[j]? = some c→W.cell? ⟨b,off+j,none⟩=some c)→EL P n ops K rest (upd e d (.pointer (some ⟨b,off,none⟩))) w):EL P n ops K (⟨some d,.indexAddr t x y,ty,pos,af,none⟩ :: rest) e w:=by
 obtain ⟨b,off,ec,F2,h1,h2,h3,h4,h5⟩:=pN (P:=P) (d:=some d) (ty:=ty) (pos:=pos) (af:=af) (t:=t) hs hr hn hi h
 exact kn (h5 _) hd (hK b off ec F2 h1 h2 h3 h4)
theorem dq (hsel:jm ops=true) (i':Nat) {t:TypeId} [SliceT P t E] {zz:List Value} {m bytes:Nat} [ElemT P E zz m bytes] {xs:List α} (hi':ops[i']? = some ⟨some d,.indexAddr t x y,ty,pos,af,none⟩) (hC:C w) (hf:ma ops X L i' ⟨some d,.indexAddr t x y,ty,pos,af,none⟩=true) (hrd:(Region.ready .any ops L).contains i'=true)
  (hs:ev e x=v) (hr:(aD R E).own W [v] xs F) (hn:R.sz=m) {k:IntKind} {i:Int} (hi:ev e y=.int k i) {u:α} (h:ix xs i=some u) (hd:d<n)
  (hK:∀ b off ec F2,R.own W ec u F2→(∀ q∈F2,q∈F)→b∈F→(∀ j c,ec[j]? = some c→W.cell? ⟨b,off+j,none⟩=some c)→AL P n ops X C K fuel (L.setIfInBounds i' true) (upd e d (.pointer (some ⟨b,off,none⟩))) w):AL P n ops X C K (fuel+1) L e w:=by
 obtain ⟨b,off,ec,F2,h1,h2,h3,h4,h5⟩:=pN (P:=P) (d:=some d) (ty:=ty) (pos:=pos) (af:=af) (t:=t) hs hr hn hi h
 exact ur hsel i' hi' rfl hd hC hf hrd (ap rfl fun w' _=>h5 w') (hK b off ec F2 h1 h2 h3 h4)
end
theorem qx {P:Program} {fn:Func} {n:Nat} {e:Env} {w:World} {R:Ending→World→Prop} (h:fn.results=#[]) (hR:R (.returned (.tuple #[])) w):Fin P fn n R .ret e w :=
 ⟨_,fun a ha=>by simp [results,h],hR⟩
section
variable {α:Type} {R:Rep α} {w0 w:World} {Γ:List Asn} {E:TypeId} {v:Value}
def lP (R:Rep α) (E:TypeId) (v:Value) (xs:List α) (i:Nat) (ec:List Value) (g m:Nat):Asn where
 holds w fp:=(o9 R E v xs i ec).holds w fp∧g∈fp∧∀ j c,ec[j]? = some c→w.cell? ⟨g,i*m+j,none⟩=some c
 ext h he:=⟨(o9 R E v xs i ec).ext h.1 he,h.2.1,fun j c hj=>by rw [oD (he g h.2.1)];exact h.2.2 j c hj⟩
 lt h:=(o9 R E v xs i ec).lt h.1
theorem Sat.takeOutC {xs:List α} {m:Nat} {i:Int} {u:α} (hS:Sat w0 w (Own (aD R E) [v] xs :: Γ)) (h:ix xs i=some u) (hn:R.sz=m) :
  ∃ g cap ec,v=.slice (some ⟨g,0,none⟩) xs.length cap∧R.rd w ec u∧Sat w0 w (Own R ec u :: lP R E v xs i.toNat ec g m :: Γ):=by
 obtain ⟨k,rfl,hk,rfl⟩:=eS h
 subst hn
 obtain ⟨fp,ho,_⟩:=hS.head
 rcases ho with ⟨_,h2,_⟩ | ⟨g,cap,cur,ccs,fe,hv,hg,h1,h2,h3,h4,h5,rfl⟩
 ·subst h2;simp at hk
 obtain ⟨ec,f1,f2,f3,k1,rfl,k3,k4⟩:=jX h5 k hk
 have hv:v=.slice (some ⟨g,0,none⟩) xs.length cap:=by simpa using hv
 have hm:∀ j c,ec[j]? = some c→w.cell? ⟨g,(k:Int).toNat*R.sz+j,none⟩=some c:=fun j c hj=>by
  have e2:=k3 j c hj
  simp only [Int.toNat_natCast]
  rw [cell_of_row w g _ cur E (0,0) hg,← Array.getElem?_toList]
  rw [← h4,List.getElem?_take] at e2
  split at e2
  ·exact e2
  ·cases e2
 refine ⟨g,cap,ec,hv,R.own_rd k1,?_⟩
 have hrl:=R.rd_len (R.own_rd k1)
 clear k1 k3 k4 h5 h4 h3 h2 h1 hg
 subst hv
 refine hS.splitp fun f hf=>?_
 rcases hf with ⟨_,h2,_⟩ | ⟨g',cap',cur,ccs,fe,hv,hg,h1,h2,h3,h4,h5,rfl⟩
 ·subst h2;simp at hk
 obtain ⟨rfl,rfl⟩:g=g'∧cap=cap':=by simpa using hv
 obtain ⟨ec',f1,f2,f3,k1,rfl,k3,k4⟩:=jX h5 k hk
 have hec:ec=ec':=by
  refine List.ext_getElem (by rw [hrl,R.rd_len (R.own_rd k1)]) fun j hj1 hj2=>?_
  have e1:=hm j ec[j] (List.getElem?_eq_getElem hj1)
  have e2:=k3 j ec'[j] (List.getElem?_eq_getElem hj2)
  simp only [Int.toNat_natCast] at e1
  rw [cell_of_row w g _ cur E (0,0) hg,← Array.getElem?_toList] at e1
  rw [← h4,List.getElem?_take] at e2
  split at e2
  ·rw [e1] at e2;exact Option.some.inj e2
  ·cases e2
 subst hec
 refine ⟨f2,g :: (f1++f3),?_,k1,⟨⟨fun b hb=>?_,fun w' y f' he ho=>⟨g :: (f1++(f'++f3)),?_,.inr ⟨g,cap,cur,ccs,_,by simp,by rw [he g (by simp)];exact hg,by simpa using h1,h2,h3,by simpa using h4,by
  simp only [Int.toNat_natCast]
  exact k4 w' y f' (fun b hb=>he b (List.mem_cons_of_mem _ hb)) ho,rfl⟩⟩⟩,List.mem_cons_self,hm⟩⟩
 ·refine List.perm_middle.trans (.cons _ ?_)
  rw [← List.append_assoc,← List.append_assoc]
  exact List.Perm.append_right _ List.perm_append_comm
 ·rcases List.mem_cons.1 hb with rfl | hb
  ·exact (Array.getElem?_eq_some_iff.1 hg).1
  ·refine gO h5 b ?_
   rcases List.mem_append.1 hb with h | h <;> simp [h]
 ·refine .trans (.cons _ ?_) List.perm_middle.symm
  rw [← List.append_assoc,← List.append_assoc]
  exact List.Perm.append_right _ List.perm_append_comm
theorem Sat.putBackC {xs ys:List α} {i:Int} {y:α} {ec:List Value} {g m:Nat} (hS:Sat w0 w (Own R ec y :: lP R E v xs i.toNat ec g m :: Γ)) (h:sto xs i y=some ys):Sat w0 w (Own (aD R E) [v] ys :: Γ):=by
 have e:ys=xs.set i.toNat y:=by
  unfold sto at h;split at h
  ·exact (Option.some.inj h).symm
  ·cases h
 subst e
 exact hS.joinp fun f g h1 h2=>h2.1.2 w y f (fun _ _=>rfl) h1
theorem Sat.holeCells (a:Nat) {xs:List α} {i g m:Nat} {ec:List Value} (hS:Sat w0 w Γ) (hi:Γ[a]? = some (lP R E v xs i ec g m)):∀ j c,ec[j]? = some c→w.cell? ⟨g,i*m+j,none⟩=some c:=by
 obtain ⟨fp,ho,_⟩:=(hS.top a hi).head
 exact ho.2.2
end
theorem ju {P:Program} {e:Env} {w:World} {v:Value} {ty:TypeId} {pos:String} {af:Array Edge} {x y:Operand} {α:Type} {E:TypeId} {d:Option Nat} {t:TypeId} [ht:SliceT P t E] {zz:List Value} {m bytes:Nat} [hz:ElemT P E zz m bytes] {xs:List α} (hs:ev e x=v) {g cap:Nat} (hv:v=.slice (some ⟨g,0,none⟩) xs.length cap) {k:IntKind} {j:Int} (hi:ev e y=.int k j) {u:α} (h:ix xs j=some u) :
  PV P ⟨d,.indexAddr t x y,ty,pos,af,none⟩ e w (.pointer (some ⟨g,j.toNat*m,none⟩)):=fun w' _=>by
 obtain ⟨k',rfl,hk,rfl⟩:=eS h
 subst hv
 have hz:=hz.h
 cases hq:P.info? E with
 | none=>simp [hq] at hz
 | some inf =>
  simp [hq] at hz
  have hsz:inf.size=m:=hz.2.1
  unfold execOp
  simp [hs,hi,Instr.indexAt,asIntOf,run_underlying ht.h,sizeOf,typeInfo,hq,hk,Addr.add_lit,hsz]
section
variable {α:Type} {R:Rep α} {W w w0 w1:World} {Γ:List Asn} {F F':List Nat} {E:TypeId} {v:Value} {cs:List Value} {x:α}
theorem Sat.frzOwn (i:Nat) (hS:Sat w0 w Γ) (hi:Γ[i]? = some (Frz W F)) (h:R.own W cs x F') (hs:∀ b∈F',b∈F):R.own w cs x F' :=
 R.own_ext h (fun b hb=>hS.frzEq i hi b (hs b hb))
theorem Sat.refrz (hS:Sat w0 w (Frz W F :: Γ)):Sat w0 w (Frz w F :: Γ) :=
 hS.conv fun f h=>⟨h.1,fun _ _=>rfl,fun b hb=>(Frz W F).lt h b (by rw [h.1];exact hb)⟩
end
def iE (N:Nat) (a0:List Int) (a1:Int):Option Int :=
  (sb a1 (a0.length:Int)).bind fun J =>
  (bif decide (J<0) then
  some (-1)
  else
  some J)
def hO (N:Nat) (a0:ByteArray) (a1:List Int) (a2:Int):Option Int :=
  (sb a2 (a0.size:Int)).bind fun J =>
  (bif decide (J<0) then
  some (-1)
  else
  (iE N a1 J).bind fun U =>
  (bif decide (U<0) then
  some (-1)
  else
  some U))
def gX (N:Nat):Nat→(List (ByteArray × List Int))→Int→Int→Option (Sum Int (Int × Int))
 | 0,_,_,_=>none
 | k+1,U,zC,J =>
  (bif decide (J<(U.length:Int)) then
  (ix U J).bind fun zD =>
  (hO N zD.1 zD.2 zC).bind fun zE =>
  (bif decide (zE<0) then
  some (.inl (-1))
  else
  (ad J 1).bind fun zF =>
  gX N k U zE zF)
  else
  some (.inr (zC,J)))
def iY (N:Nat) (a0:List (ByteArray × List Int)) (a1:Int):Option Int :=
  (sb a1 (a0.length:Int)).bind fun J =>
  (bif decide (J<0) then
  some (-1)
  else
  (gX N N a0 J 0).bind fun U =>
  lpS U (fun q=>some q) fun (zC,zD) =>
  some zC)
def iU (N:Nat) (a0:Int) (a1:List (ByteArray × List Int)) (a2:List Int) (a3:Int):Option Int :=
  (iY N a1 a3).bind fun J =>
  (bif decide (J<0) then
  some (-1)
  else
  (iE N a2 J).bind fun U =>
  (bif decide (U<0) then
  some (-1)
  else
  some U))
def cx (N:Nat) (a0:Int) (a1:Int) (a2:Int):Option Bool :=
  (bif decide (a1≤a0) then
  some (decide (a0≤a2))
  else
  some false)
def cd (N:Nat):Nat→Int→ByteArray→(List Int)→Int→Option (Sum Bool Int)
 | 0,_,_,_,_=>none
 | k+1,zC,zD,U,J =>
  (bif decide (J<(U.length:Int)) then
  (ix U J).bind fun zE =>
  (bif (zE == zC) then
  some (.inl true)
  else
  (ad J 1).bind fun zF =>
  cd N k zC zD U zF)
  else
  some (.inr J))
def eF (N:Nat) (a0:ByteArray) (a1:List Int) (a2:Int):Option Bool :=
  (cd N N a2 a0 a1 0).bind fun J =>
  lpS J (fun q=>some q) fun U =>
  some false
def eR (N:Nat):Nat→ByteArray→Int→Option (Sum Bool Int)
 | 0,_,_=>none
 | k+1,U,J =>
  (bif decide (J<(U.size:Int)) then
  (bx U J).bind fun zC =>
  (bif decide (zC<97) then
  some (.inl false)
  else
  (bx U J).bind fun zD =>
  (bif decide (122<zD) then
  some (.inl false)
  else
  (ad J 1).bind fun zE =>
  eR N k U zE))
  else
  some (.inr J))
def gA (N:Nat) (a0:ByteArray):Option Bool :=
  (eR N N a0 0).bind fun J =>
  lpS J (fun q=>some q) fun zC =>
  (cx N (a0.size:Int) 1 4).bind fun U =>
  some U
def ik (N:Nat):Nat→(List Int)→Int→Int→Option (Sum Int Int)
 | 0,_,_,_=>none
 | k+1,U,zC,J =>
  (bif decide (J<(U.length:Int)) then
  (ix U J).bind fun zD =>
  (bif (zD == zC) then
  some (.inl J)
  else
  (ad J 1).bind fun zE =>
  ik N k U zC zE)
  else
  some (.inr J))
def jj (N:Nat) (a0:List Int) (a1:Int):Option Int :=
  (ik N N a0 a1 0).bind fun J =>
  lpS J (fun q=>some q) fun U =>
  some (-1)
def c8 (N:Nat):Nat→Int→(List (ByteArray × List Int))→(List Int)→Int→Int→Option (Sum Bool Int)
 | 0,_,_,_,_,_=>none
 | k+1,zD,U,zE,zC,J =>
  (ix U zC).bind fun zF =>
  (bif decide (J<(zF.2.length:Int)) then
  (ix U zC).bind fun zG =>
  (ix zG.2 J).bind fun zH =>
  (sb zD 1).bind fun zI =>
  (cx N zH 0 zI).bind fun zJ =>
  (bif zJ then
  (ad J 1).bind fun zK =>
  c8 N k zD U zE zC zK
  else
  some (.inl false))
  else
  some (.inr J))
def cZ (N:Nat):Nat→Int→(List (ByteArray × List Int))→(List Int)→Int→Option (Sum Bool Int)
 | 0,_,_,_,_=>none
 | k+1,zC,U,zD,J =>
  (bif decide (J<(U.length:Int)) then
  (ix U J).bind fun zE =>
  (gA N zE.1).bind fun zF =>
  (bif zF then
  (ix U J).bind fun zG =>
  (cx N (zG.2.length:Int) 1 5).bind fun zH =>
  (bif zH then
  (c8 N N zC U zD J 0).bind fun zI =>
  lpS zI (fun q=>some (.inl q)) fun zK =>
  (ad J 1).bind fun zJ =>
  cZ N k zC U zD zJ
  else
  some (.inl false))
  else
  some (.inl false))
  else
  some (.inr J))
def cD (N:Nat):Nat→Int→(List (ByteArray × List Int))→(List Int)→Int→Bool→Int→Option (Bool × Int)
 | 0,_,_,_,_,_,_=>none
 | k+1,zD,U,zE,zC,zF,J =>
  (bif decide (J<(U.length:Int)) then
  (bif zF then
  (ad J 1).bind fun zH =>
  cD N k zD U zE zC true zH
  else
  (ix U J).bind fun zG =>
  (eF N zG.1 zG.2 zC).bind fun zI =>
  (ad J 1).bind fun zJ =>
  cD N k zD U zE zC zI zJ)
  else
  some (zF,J))
def c9 (N:Nat):Nat→Int→(List (ByteArray × List Int))→(List Int)→Int→Option (Sum Bool Int)
 | 0,_,_,_,_=>none
 | k+1,U,zC,zD,J =>
  (bif decide (J<U) then
  (cD N N U zC zD J false 0).bind fun zE =>
  lpB zE fun (zF,zH) =>
  (bif zF then
  (ad J 1).bind fun zG =>
  c9 N k U zC zD zG
  else
  some (.inl false))
  else
  some (.inr J))
def c5 (N:Nat):Nat→Int→(List (ByteArray × List Int))→(List Int)→Int→Option (Sum Bool Int)
 | 0,_,_,_,_=>none
 | k+1,zC,zD,U,J =>
  (bif decide (J<(U.length:Int)) then
  (ix U J).bind fun zE =>
  (sb zC 1).bind fun zF =>
  (cx N zE 0 zF).bind fun zG =>
  (bif zG then
  (slc U 0 J).bind fun zH =>
  (ix U J).bind fun zI =>
  (jj N zH zI).bind fun zJ =>
  (bif decide (0≤zJ) then
  some (.inl false)
  else
  (ad J 1).bind fun zK =>
  c5 N k zC zD U zK)
  else
  some (.inl false))
  else
  some (.inr J))
def gj (N:Nat) (a0:Int) (a1:List (ByteArray × List Int)) (a2:List Int):Option Bool :=
  (cx N a0 1 5).bind fun J =>
  (bif J then
  (cx N (a1.length:Int) 1 4).bind fun U =>
  (bif U then
  (bif decide (a0<(a2.length:Int)) then
  some false
  else
  (cZ N N a0 a1 a2 0).bind fun zC =>
  lpS zC (fun q=>some q) fun zF =>
  (c9 N N a0 a1 a2 0).bind fun zD =>
  lpS zD (fun q=>some q) fun zG =>
  (c5 N N a0 a1 a2 0).bind fun zE =>
  lpS zE (fun q=>some q) fun zH =>
  some true)
  else
  some false)
  else
  some false)
def b9 (N:Nat):Nat→Int→(List (ByteArray × List Int))→(List Int)→(List (List (Int × Int)))→(List (Int × Int))→(List (Int × Int))→(List (List (Int × Int)))→(List (Int × Int))→(List (Int × Int))→Int→(List (Int × Int))→Int→Option ((List (Int × Int)) × Int)
 | 0,_,_,_,_,_,_,_,_,_,_,_,_=>none
 | k+1,zE,U,zF,zG,zH,zI,zJ,zK,zL,zC,zD,J =>
  (bif decide (J<(U.length:Int)) then
  (ix U J).bind fun zM =>
  (eF N zM.1 zM.2 zC).bind fun zN =>
  (bif zN then
  (apd 16 zD [(1,1)]).bind fun zO =>
  (ad J 1).bind fun zP =>
  b9 N k zE U zF zG zH zI zJ zK zL zC zO zP
  else
  (apd 16 zD [(0,1)]).bind fun zQ =>
  (ad J 1).bind fun zR =>
  b9 N k zE U zF zG zH zI zJ zK zL zC zQ zR)
  else
  some (zD,J))
def cG (N:Nat):Nat→Int→(List (ByteArray × List Int))→(List Int)→(List (List (Int × Int)))→(List (Int × Int))→(List (Int × Int))→(List (List (Int × Int)))→(List (Int × Int))→(List (Int × Int))→Int→Option ((List (List (Int × Int))) × (List (Int × Int)) × Int)
 | 0,_,_,_,_,_,_,_,_,_,_=>none
 | k+1,U,zE,zF,zG,zH,zI,zC,zD,zJ,J =>
  (bif decide (J<U) then
  (b9 N N U zE zF zG zH zI zC zD zJ J [] 0).bind fun zK =>
  lpB zK fun (zL,zP) =>
  (apd 24 zC [zL]).bind fun zM =>
  (apd 16 zD [(1,1)]).bind fun zN =>
  (ad J 1).bind fun zO =>
  cG N k U zE zF zG zH zI zM zN zJ zO
  else
  some (zC,zD,J))
def cJ (N:Nat):Nat→Int→(List (ByteArray × List Int))→(List Int)→(List (List (Int × Int)))→(List (Int × Int))→(List (Int × Int))→(List (List (Int × Int)))→(List (Int × Int))→(List (Int × Int))→Int→Option ((List (Int × Int)) × Int)
 | 0,_,_,_,_,_,_,_,_,_,_=>none
 | k+1,zD,U,zE,zF,zG,zH,zI,zJ,zC,J =>
  (bif decide (J<(U.length:Int)) then
  (apd 16 zC [(1,1)]).bind fun zK =>
  (ad J 1).bind fun zL =>
  cJ N k zD U zE zF zG zH zI zJ zK zL
  else
  some (zC,J))
def fz (N:Nat) (a0:Int) (a1:List (ByteArray × List Int)) (a2:List Int):Option ((List (List (Int × Int)) × List (Int × Int) × List (Int × Int)) × Bool) :=
  (gj N a0 a1 a2).bind fun zC =>
  (bif zC then
  (cG N N a0 a1 a2 [] [] [] [] [] [] 0).bind fun zD =>
  lpB zD fun (J,U,zG) =>
  (cJ N N a0 a1 a2 [] [] [] J U [] 0).bind fun zE =>
  lpB zE fun (zF,zH) =>
  some ((J,U,zF),true)
  else
  some (([],[],[]),false))
def cT (N:Nat):Nat→Int→Int→Option (Int × Int)
 | 0,_,_=>none
 | k+1,U,J =>
  (bif (J != 0) then
  (rm U J).bind fun zC =>
  cT N k J zC
  else
  some (U,J))
def dW (N:Nat) (a0:Int) (a1:Int):Option Int :=
  (cT N N a0 a1).bind fun J =>
  lpB J fun (U,zC) =>
  some U
def ay (N:Nat) (a0:Int) (a1:Int):Option Bool :=
  (cx N a1 1 1000000000).bind fun J =>
  (bif J then
  (cx N a0 (-1000000000) 1000000000).bind fun U =>
  (bif U then
  (sb 0 a0).bind fun zC =>
  (dW N (imx a0 zC) a1).bind fun zD =>
  some (zD == 1)
  else
  some false)
  else
  some false)
def cV (N:Nat):Nat→(List (List (Int × Int)))→Int→Int→Int→Int→Option (Sum Bool Int)
 | 0,_,_,_,_,_=>none
 | k+1,U,zF,zC,zD,J =>
  (bif decide (J<zC) then
  (ix U zD).bind fun zG =>
  (ix zG J).bind fun zE =>
  (ay N zE.1 zE.2).bind fun zH =>
  (bif zH then
  (ad J 1).bind fun zI =>
  cV N k U zF zC zD zI
  else
  some (.inl false))
  else
  some (.inr J))
def cY (N:Nat):Nat→(List (List (Int × Int)))→Int→Int→Int→Option (Sum Bool Int)
 | 0,_,_,_,_=>none
 | k+1,U,zD,zC,J =>
  (bif decide (J<(U.length:Int)) then
  (ix U J).bind fun zE =>
  (bif ((zE.length:Int) != zC) then
  some (.inl false)
  else
  (cV N N U zD zC J 0).bind fun zF =>
  lpS zF (fun q=>some (.inl q)) fun zH =>
  (ad J 1).bind fun zG =>
  cY N k U zD zC zG)
  else
  some (.inr J))
def di (N:Nat) (a0:List (List (Int × Int))) (a1:Int) (a2:Int):Option Bool :=
  (cY N N a0 a1 a2 0).bind fun J =>
  lpS J (fun q=>some q) fun U =>
  some ((a0.length:Int) == a1)
def bL (N:Nat) (a0:List (List (Int × Int))) (a1:List (Int × Int)) (a2:List (Int × Int)):Option Bool :=
  (cx N (a2.length:Int) 1 5).bind fun J =>
  (bif J then
  (cx N (a1.length:Int) 1 5).bind fun U =>
  (bif U then
  (di N a0 (a1.length:Int) (a2.length:Int)).bind fun zC =>
  (bif zC then
  (di N ([a2]) 1 (a2.length:Int)).bind fun zD =>
  (bif zD then
  (di N ([a1]) 1 (a1.length:Int)).bind fun zE =>
  some zE
  else
  some false)
  else
  some false)
  else
  some false)
  else
  some false)
def dN (rec:Int→Int→Int→Option (List (List Int))) (N:Nat):Nat→Int→Int→(List (List Int))→Int→(List (List Int))→Int→Option ((List (List Int)) × Int)
 | 0,_,_,_,_,_,_=>none
 | k+1,zE,zF,zC,zD,U,J =>
  (bif decide (J<(U.length:Int)) then
  (ix U J).bind fun zG =>
  (apd 8 ([zD]) zG).bind fun zH =>
  (apd 24 zC [zH]).bind fun zI =>
  (ad J 1).bind fun zJ =>
  dN rec N k zE zF zI zD U zJ
  else
  some (zC,J))
def fV (rec:Int→Int→Int→Option (List (List Int))) (N:Nat):Nat→Int→Int→(List (List Int))→Int→Option ((List (List Int)) × Int)
 | 0,_,_,_,_=>none
 | k+1,U,zC,zD,J =>
  (ad J zC).bind fun zE =>
  (bif decide (zE≤U) then
  (ad J 1).bind fun zF =>
  (sb zC 1).bind fun zG =>
  (rec zF U zG).bind fun zH =>
  (dN rec N N U zC zD J zH 0).bind fun zI =>
  lpB zI fun (zJ,zL) =>
  (ad J 1).bind fun zK =>
  fV rec N k U zC zJ zK
  else
  some (zD,J))
def dD:Nat→Int→Int→Int→Option (List (List Int))
 | 0,_,_,_=>none
 | N+1,a0,a1,a2 =>
  (bif (a2 == 0) then
  some ([[]])
  else
  (fV (dD N) N N a1 a2 [] a0).bind fun J =>
  lpB J fun (U,zC) =>
  some U)
def bD (N:Nat) (a0:Int) (a1:Int):Option ((Int × Int) × Bool) :=
  (bif (a1 == 0) then
  some ((0,0),false)
  else
  (sb 0 4000000000000000000).bind fun zI =>
  (cx N a0 zI 4000000000000000000).bind fun zJ =>
  (bif zJ then
  (sb 0 4000000000000000000).bind fun zK =>
  (cx N a1 zK 4000000000000000000).bind fun zL =>
  (bif zL then
  (bif decide (a1<0) then
  (sb 0 a0).bind fun J =>
  (sb 0 a1).bind fun U =>
  (sb 0 J).bind fun zM =>
  (dW N (imx J zM) U).bind fun zC =>
  (qt J zC).bind fun zD =>
  (qt U zC).bind fun zE =>
  (ay N zD zE).bind fun zN =>
  (bif zN then
  some ((zD,zE),true)
  else
  some ((0,0),false))
  else
  (sb 0 a0).bind fun zO =>
  (dW N (imx a0 zO) a1).bind fun zF =>
  (qt a0 zF).bind fun zG =>
  (qt a1 zF).bind fun zH =>
  (ay N zG zH).bind fun zP =>
  (bif zP then
  some ((zG,zH),true)
  else
  some ((0,0),false)))
  else
  some ((0,0),false))
  else
  some ((0,0),false)))
def dk (N:Nat) (a0:Int) (a1:Int) (a2:Int) (a3:Int):Option ((Int × Int) × Bool) :=
  (ay N a0 a1).bind fun U =>
  (bif U then
  (ay N a2 a3).bind fun zC =>
  (bif zC then
  (ml a0 a3).bind fun zD =>
  (ml a1 a2).bind fun zE =>
  (bD N zD zE).bind fun J =>
  some ((J.1.1,J.1.2),J.2)
  else
  some ((0,0),false))
  else
  some ((0,0),false))
def bJ (N:Nat) (a0:Int) (a1:Int) (a2:Int) (a3:Int):Option ((Int × Int) × Bool) :=
  (ay N a0 a1).bind fun U =>
  (bif U then
  (ay N a2 a3).bind fun zC =>
  (bif zC then
  (ml a0 a2).bind fun zD =>
  (ml a1 a3).bind fun zE =>
  (bD N zD zE).bind fun J =>
  some ((J.1.1,J.1.2),J.2)
  else
  some ((0,0),false))
  else
  some ((0,0),false))
def bI (N:Nat) (a0:Int) (a1:Int) (a2:Int) (a3:Int):Option ((Int × Int) × Bool) :=
  (ay N a0 a1).bind fun U =>
  (bif U then
  (ay N a2 a3).bind fun zC =>
  (bif zC then
  (ml a0 a3).bind fun zD =>
  (ml a2 a1).bind fun zE =>
  (ad zD zE).bind fun zF =>
  (ml a1 a3).bind fun zG =>
  (bD N zF zG).bind fun J =>
  some ((J.1.1,J.1.2),J.2)
  else
  some ((0,0),false))
  else
  some ((0,0),false))
def dG (N:Nat) (a0:Int) (a1:Int) (a2:Int) (a3:Int):Option ((Int × Int) × Bool) :=
  (ay N a2 a3).bind fun U =>
  (bif U then
  (sb 0 a2).bind fun zC =>
  (bI N a0 a1 zC a3).bind fun J =>
  some ((J.1.1,J.1.2),J.2)
  else
  some ((0,0),false))
def bT (N:Nat):Nat→(List (List (Int × Int)))→Int→Int→Int→Int→Bool→Int→Option ((List (List (Int × Int))) × Bool × Int)
 | 0,_,_,_,_,_,_,_=>none
 | k+1,U,zE,zC,zF,zG,zH,J =>
  (ix U zC).bind fun zN =>
  (bif decide (J<(zN.length:Int)) then
  (bif zH then
  (ix U zE).bind fun zO =>
  (ix zO J).bind fun zJ =>
  (bJ N zF zG zJ.1 zJ.2).bind fun zI =>
  (ix U zC).bind fun zP =>
  (ix zP J).bind fun zK =>
  (dG N zK.1 zK.2 zI.1.1 zI.1.2).bind fun zD =>
  (bif zI.2 then
  (ix U zC).bind fun zL =>
  (ix zL J).bind fun zW =>
  (sto zL J (zD.1.1,zD.1.2)).bind fun zQ =>
  (sto U zC zQ).bind fun zR =>
  (ad J 1).bind fun zS =>
  bT N k zR zE zC zF zG zD.2 zS
  else
  (ix U zC).bind fun zM =>
  (ix zM J).bind fun zX =>
  (sto zM J (zD.1.1,zD.1.2)).bind fun zT =>
  (sto U zC zT).bind fun zU =>
  (ad J 1).bind fun zV =>
  bT N k zU zE zC zF zG false zV)
  else
  some (U,zH,J))
  else
  some (U,zH,J))
def bZ (N:Nat):Nat→(List (List (Int × Int)))→Int→Int→Option (Sum (Bool × (List (List (Int × Int)))) ((List (List (Int × Int))) × Int))
 | 0,_,_,_=>none
 | k+1,zC,J,U =>
  (bif decide (U<(zC.length:Int)) then
  (bif (U == J) then
  (ad U 1).bind fun zH =>
  bZ N k zC J zH
  else
  (ix zC U).bind fun zI =>
  (ix zI J).bind fun zJ =>
  (bif (zJ.1 == 0) then
  (ad U 1).bind fun zK =>
  bZ N k zC J zK
  else
  (ix zC U).bind fun zL =>
  (ix zL J).bind fun zE =>
  (ix zC J).bind fun zM =>
  (ix zM J).bind fun zF =>
  (dk N zE.1 zE.2 zF.1 zF.2).bind fun zD =>
  (bT N N zC J U zD.1.1 zD.1.2 zD.2 J).bind fun zN =>
  lpB zN fun (zG,zO,zQ) =>
  (bif zO then
  (ad U 1).bind fun zP =>
  bZ N k zG J zP
  else
  some (.inl (false,zG)))))
  else
  some (.inr (zC,U)))
def fq (N:Nat) (a0:List (List (Int × Int))) (a1:Int):Option (Bool × (List (List (Int × Int)))) :=
  (bZ N N a0 a1 0).bind fun J =>
  lpS J (fun q=>some q) fun (U,zC) =>
  some (true,U)
def bo (N:Nat):Nat→(List (List (Int × Int)))→(List (Int × Int))→Int→(List (List (Int × Int)))→Int→Option (Sum ((List (Int × Int)) × Bool) ((List (List (Int × Int))) × Int))
 | 0,_,_,_,_,_=>none
 | k+1,zC,U,zD,zE,J =>
  (bif decide (J<zD) then
  (ix U J).bind fun zF =>
  (ay N zF.1 zF.2).bind fun zH =>
  (bif zH then
  (ix zC J).bind fun zI =>
  (ix U J).bind fun zG =>
  (apd 16 [] zI).bind fun zJ =>
  (apd 16 zJ [(zG.1,zG.2)]).bind fun zK =>
  (apd 24 zE [zK]).bind fun zL =>
  (ad J 1).bind fun zM =>
  bo N k zC U zD zL zM
  else
  some (.inl ([],false)))
  else
  some (.inr (zE,J)))
def bv (N:Nat):Nat→Int→(List (List (Int × Int)))→Int→Int→Option Int
 | 0,_,_,_,_=>none
 | k+1,U,zC,zD,J =>
  (bif decide (J<U) then
  (ix zC J).bind fun zE =>
  (ix zE zD).bind fun zF =>
  (bif (zF.1 == 0) then
  (ad J 1).bind fun zG =>
  bv N k U zC zD zG
  else
  some J)
  else
  some J)
def bq (N:Nat):Nat→Int→(List (List (Int × Int)))→Int→Option (Sum ((List (Int × Int)) × Bool) ((List (List (Int × Int))) × Int))
 | 0,_,_,_=>none
 | k+1,zC,U,J =>
  (bif decide (J<zC) then
  (bv N N zC U J J).bind fun zF =>
  lpB zF fun zD =>
  (bif (zD == zC) then
  some (.inl ([],false))
  else
  (ix U zD).bind fun zG =>
  (ix U J).bind fun zH =>
  (ix U zD).bind fun zL =>
  (sto U zD zH).bind fun zI =>
  (sto zI J zG).bind fun zJ =>
  (fq N zJ J).bind fun zE =>
  (bif zE.1 then
  (ad J 1).bind fun zK =>
  bq N k zC zE.2 zK
  else
  some (.inl ([],false))))
  else
  some (.inr (U,J)))
def bp (N:Nat):Nat→Int→(List (List (Int × Int)))→(List (Int × Int))→Int→Option (Sum ((List (Int × Int)) × Bool) ((List (Int × Int)) × Int))
 | 0,_,_,_,_=>none
 | k+1,zC,zD,zG,J =>
  (bif decide (J<zC) then
  (ix zD J).bind fun zH =>
  (ix zH zC).bind fun zE =>
  (ix zD J).bind fun zI =>
  (ix zI J).bind fun zF =>
  (dk N zE.1 zE.2 zF.1 zF.2).bind fun U =>
  (bif U.2 then
  (apd 16 zG [(U.1.1,U.1.2)]).bind fun zJ =>
  (ad J 1).bind fun zK =>
  bp N k zC zD zJ zK
  else
  some (.inl ([],false)))
  else
  some (.inr (zG,J)))
def bm (N:Nat) (a0:List (List (Int × Int))) (a1:List (Int × Int)):Option ((List (Int × Int)) × Bool) :=
  (bif decide (6<(a1.length:Int)) then
  some ([],false)
  else
  (di N a0 (a1.length:Int) (a1.length:Int)).bind fun zE =>
  (bif zE then
  (bo N N a0 a1 (a1.length:Int) [] 0).bind fun J =>
  lpS J (fun q=>some q) fun (zF,zI) =>
  (bq N N (a1.length:Int) zF 0).bind fun U =>
  lpS U (fun q=>some q) fun (zG,zJ) =>
  (bp N N (a1.length:Int) zG [] 0).bind fun zC =>
  lpS zC (fun q=>some q) fun (zD,zH) =>
  some (zD,true)
  else
  some ([],false)))
def bw (N:Nat):Nat→(List (Int × Int))→(List (Int × Int))→Int→Int→Int→Int→Int→Option (Sum ((Int × Int) × Bool) (Int × Int × Int))
 | 0,_,_,_,_,_,_,_=>none
 | k+1,U,zE,zJ,zK,zF,zG,J =>
  (bif decide (J<(U.length:Int)) then
  (ix U J).bind fun zH =>
  (ix zE J).bind fun zI =>
  (bJ N zH.1 zH.2 zI.1 zI.2).bind fun zC =>
  (bif zC.2 then
  (bI N zF zG zC.1.1 zC.1.2).bind fun zD =>
  (bif zD.2 then
  (ad J 1).bind fun zL =>
  bw N k U zE zJ zK zD.1.1 zD.1.2 zL
  else
  some (.inl ((0,0),false)))
  else
  some (.inl ((0,0),false)))
  else
  some (.inr (zF,zG,J)))
def dj (N:Nat) (a0:List (Int × Int)) (a1:List (Int × Int)):Option ((Int × Int) × Bool) :=
  (bif ((a0.length:Int) != (a1.length:Int)) then
  some ((0,0),false)
  else
  (bw N N a0 a1 0 0 0 1 0).bind fun J =>
  lpS J (fun q=>some q) fun (U,zC,zD) =>
  some ((U,zC),true))
def aR (N:Nat):Nat→(List (List (Int × Int)))→(List (Int × Int))→(List (Int × Int))→Int→Option (Sum ((List (Int × Int)) × Bool) ((List (Int × Int)) × Int))
 | 0,_,_,_,_=>none
 | k+1,U,zD,zE,J =>
  (bif decide (J<(U.length:Int)) then
  (ix U J).bind fun zF =>
  (dj N zF zD).bind fun zC =>
  (bif zC.2 then
  (apd 16 zE [(zC.1.1,zC.1.2)]).bind fun zG =>
  (ad J 1).bind fun zH =>
  aR N k U zD zG zH
  else
  some (.inl ([],false)))
  else
  some (.inr (zE,J)))
def bB (N:Nat) (a0:List (List (Int × Int))) (a1:List (Int × Int)):Option ((List (Int × Int)) × Bool) :=
  (aR N N a0 a1 [] 0).bind fun J =>
  lpS J (fun q=>some q) fun (U,zC) =>
  some (U,true)
def cn (N:Nat) (a0:Int) (a1:Int) (a2:Int) (a3:Int):Option Int :=
  (ay N a0 a1).bind fun zC =>
  (bif zC then
  (ay N a2 a3).bind fun zD =>
  (bif zD then
  (ml a0 a3).bind fun J =>
  (ml a2 a1).bind fun U =>
  (bif decide (J<U) then
  some (-1)
  else
  (bif decide (U<J) then
  some 1
  else
  some 0))
  else
  some 0)
  else
  some 0)
def cw (N:Nat):Nat→(List (Int × Int))→Int→(List (List (Int × Int)))→(List (Int × Int))→(List (Int × Int))→Int→Option (Sum Bool Int)
 | 0,_,_,_,_,_,_=>none
 | k+1,U,zD,zE,zF,zG,J =>
  (bif decide (J<(U.length:Int)) then
  (ix U J).bind fun zC =>
  (ay N zC.1 zC.2).bind fun zH =>
  (bif zH then
  (ix U J).bind fun zI =>
  (bif decide (zI.1<0) then
  some (.inl false)
  else
  (ad J 1).bind fun zJ =>
  cw N k U zD zE zF zG zJ)
  else
  some (.inl false))
  else
  some (.inr J))
def bU (N:Nat):Nat→Int→(List (List (Int × Int)))→(List (Int × Int))→(List (Int × Int))→(List (Int × Int))→Bool→Int→Option (Sum Bool Int)
 | 0,_,_,_,_,_,_,_=>none
 | k+1,zC,zG,zD,zH,U,zI,J =>
  (bif decide (J<(U.length:Int)) then
  (ix U J).bind fun zE =>
  (ix zD J).bind fun zF =>
  (cn N zE.1 zE.2 zF.1 zF.2).bind fun zJ =>
  (ml zJ zC).bind fun zK =>
  (bif decide (zK<0) then
  some (.inl false)
  else
  (ad J 1).bind fun zL =>
  bU N k zC zG zD zH U zI zL)
  else
  some (.inr J))
def dA (N:Nat) (a0:List (List (Int × Int))) (a1:List (Int × Int)) (a2:List (Int × Int)) (a3:List (Int × Int)) (a4:Int):Option Bool :=
  (bL N a0 a1 a2).bind fun U =>
  (bif U then
  (bif ((a3.length:Int) != (a2.length:Int)) then
  some false
  else
  (cw N N a3 a4 a0 a1 a2 0).bind fun zC =>
  lpS zC (fun q=>some q) fun zE =>
  (bB N a0 a3).bind fun J =>
  (bU N N a4 a0 a1 a2 J.1 J.2 0).bind fun zD =>
  lpS zD (fun q=>some q) fun zF =>
  some J.2)
  else
  some false)
def bu (N:Nat):Nat→(List (Int × Int))→(List (Int × Int))→Int→Option (Sum Bool Int)
 | 0,_,_,_=>none
 | k+1,U,zC,J =>
  (bif decide (J<(U.length:Int)) then
  (ix U J).bind fun zD =>
  (ix zC J).bind fun zE =>
  (bif (zD.1 == zE.1&&zD.2 == zE.2) then
  (ad J 1).bind fun zF =>
  bu N k U zC zF
  else
  some (.inl false))
  else
  some (.inr J))
def cP (N:Nat) (a0:List (Int × Int)) (a1:List (Int × Int)):Option Bool :=
  (bif ((a0.length:Int) != (a1.length:Int)) then
  some false
  else
  (bu N N a0 a1 0).bind fun J =>
  lpS J (fun q=>some q) fun U =>
  some true)
def bR (N:Nat):Nat→Int→(List (List (Int × Int)))→(List (Int × Int))→(List (Int × Int))→(List (List (Int × Int)))→Int→Int→(List (List Int))→Int→(List (List (Int × Int)))→(List (Int × Int))→Int→Int→(List (Int × Int))→Int→Option ((List (Int × Int)) × Int)
 | 0,_,_,_,_,_,_,_,_,_,_,_,_,_,_,_=>none
 | k+1,zD,zE,zF,zG,zH,U,zI,zJ,zK,zL,zM,zN,zO,zC,J =>
  (bif decide (J<U) then
  (apd 16 zC [(0,1)]).bind fun zP =>
  (ad J 1).bind fun zQ =>
  bR N k zD zE zF zG zH U zI zJ zK zL zM zN zO zP zQ
  else
  some (zC,J))
def bN (N:Nat):Nat→Int→(List (List (Int × Int)))→(List (Int × Int))→(List (Int × Int))→(List (List (Int × Int)))→Int→Int→(List (List Int))→Int→(List (List (Int × Int)))→(List (Int × Int))→Int→Option ((List (List (Int × Int))) × (List (Int × Int)) × Int)
 | 0,_,_,_,_,_,_,_,_,_,_,_,_=>none
 | k+1,zK,zD,zE,zL,zM,zF,U,zG,zH,zI,zJ,J =>
  (bif decide (J<zF) then
  (ix zG zH).bind fun zQ =>
  (ix zQ J).bind fun zC =>
  (bif decide (zC<U) then
  (ix zD zC).bind fun zR =>
  (apd 24 zI [zR]).bind fun zS =>
  (ix zE zC).bind fun zN =>
  (apd 16 zJ [(zN.1,zN.2)]).bind fun zT =>
  (ad J 1).bind fun zU =>
  bN N k zK zD zE zL zM zF U zG zH zS zT zU
  else
  (bR N N zK zD zE zL zM zF U zG zH zI zJ J zC [] 0).bind fun zV =>
  lpB zV fun (zO,z4) =>
  (sb zC U).bind fun zP =>
  (ix zO zP).bind fun z5 =>
  (sto zO zP (1,1)).bind fun zW =>
  (apd 24 zI [zW]).bind fun zX =>
  (apd 16 zJ [(0,1)]).bind fun zY =>
  (ad J 1).bind fun zZ =>
  bN N k zK zD zE zL zM zF U zG zH zX zY zZ)
  else
  some (zI,zJ,J))
def bO (N:Nat):Nat→Int→(List (List (Int × Int)))→(List (Int × Int))→(List (Int × Int))→(List (List (Int × Int)))→Int→Int→(List (List Int))→Int→(List (Int × Int))→Bool→Int→Option (Bool × Int)
 | 0,_,_,_,_,_,_,_,_,_,_,_,_=>none
 | k+1,zD,zE,zF,zG,U,zH,zI,zJ,zK,zC,zL,J =>
  (bif decide (J<(U.length:Int)) then
  (bif zL then
  (ad J 1).bind fun zM =>
  bO N k zD zE zF zG U zH zI zJ zK zC true zM
  else
  (ix U J).bind fun zN =>
  (cP N zN zC).bind fun zO =>
  (ad J 1).bind fun zP =>
  bO N k zD zE zF zG U zH zI zJ zK zC zO zP)
  else
  some (zL,J))
def bl (N:Nat):Nat→Int→(List (List (Int × Int)))→(List (Int × Int))→(List (Int × Int))→(List (List (Int × Int)))→Int→Int→(List (List Int))→Int→Option ((List (List (Int × Int))) × Int)
 | 0,_,_,_,_,_,_,_,_,_=>none
 | k+1,U,zC,zD,zE,zF,zH,zI,zG,J =>
  (bif decide (J<(zG.length:Int)) then
  (bN N N U zC zD zE zF zH zI zG J [] [] 0).bind fun zK =>
  lpB zK fun (zQ,zR,zV) =>
  (bm N zQ zR).bind fun zJ =>
  (bif zJ.2 then
  (dA N zC zD zE zJ.1 U).bind fun zS =>
  (bif zS then
  (bO N N U zC zD zE zF zH zI zG J zJ.1 false 0).bind fun zL =>
  lpB zL fun (zT,zW) =>
  (bif zT then
  (ad J 1).bind fun zU =>
  bl N k U zC zD zE zF zH zI zG zU
  else
  (apd 24 zF [zJ.1]).bind fun zM =>
  (ad J 1).bind fun zN =>
  bl N k U zC zD zE zM zH zI zG zN)
  else
  (ad J 1).bind fun zO =>
  bl N k U zC zD zE zF zH zI zG zO)
  else
  (ad J 1).bind fun zP =>
  bl N k U zC zD zE zF zH zI zG zP)
  else
  some (zF,J))
def gt (N:Nat) (a0:List (List (Int × Int))) (a1:List (Int × Int)) (a2:List (Int × Int)) (a3:Int):Option (List (List (Int × Int))) :=
  (ad (a1.length:Int) (a2.length:Int)).bind fun zC =>
  (dD N 0 zC (a2.length:Int)).bind fun zD =>
  (bl N N a3 a0 a1 a2 [] (a2.length:Int) (a1.length:Int) zD 0).bind fun J =>
  lpB J fun (U,zE) =>
  some U
def bV (N:Nat) (a0:List (List (Int × Int))) (a1:List (Int × Int)) (a2:List (Int × Int)):Option (List (List (Int × Int))) :=
  (bL N a0 a1 a2).bind fun J =>
  (bif J then
  (gt N a0 a1 a2 1).bind fun U =>
  some U
  else
  some [])
def bK (N:Nat):Nat→(List (Int × Int))→Int→Int→Option (Sum ((List Int) × Int) (Int × Int))
 | 0,_,_,_=>none
 | k+1,U,zC,J =>
  (bif decide (J<(U.length:Int)) then
  (ix U J).bind fun zD =>
  (ay N zD.1 zD.2).bind fun zF =>
  (bif zF then
  (ix U J).bind fun zG =>
  (bif decide (zG.1<0) then
  some (.inl ([],0))
  else
  (ix U J).bind fun zH =>
  (dW N zC zH.2).bind fun zI =>
  (qt zC zI).bind fun zJ =>
  (ix U J).bind fun zK =>
  (ml zJ zK.2).bind fun zE =>
  (bif decide (1000<zE) then
  some (.inl ([],0))
  else
  (ad J 1).bind fun zL =>
  bK N k U zE zL))
  else
  some (.inl ([],0)))
  else
  some (.inr (zC,J)))
def cq (N:Nat):Nat→(List (Int × Int))→Int→(List Int)→Int→Option ((List Int) × Int)
 | 0,_,_,_,_=>none
 | k+1,U,zC,zD,J =>
  (bif decide (J<(U.length:Int)) then
  (ix U J).bind fun zE =>
  (ix U J).bind fun zF =>
  (qt zC zF.2).bind fun zG =>
  (ml zE.1 zG).bind fun zH =>
  (apd 8 zD [zH]).bind fun zI =>
  (ad J 1).bind fun zJ =>
  cq N k U zC zI zJ
  else
  some (zD,J))
def bG (N:Nat) (a0:List (Int × Int)):Option ((List Int) × Int) :=
  (bK N N a0 1 0).bind fun U =>
  lpS U (fun q=>some q) fun (J,zE) =>
  (cq N N a0 J [] 0).bind fun zC =>
  lpB zC fun (zD,zF) =>
  some (zD,J)
def eE (N:Nat):Nat→Int→(List Int)→(List Int)→Option (Int × (List Int))
 | 0,_,_,_=>none
 | k+1,J,zC,U =>
  (bif decide (0<J) then
  (rm J 10).bind fun zD =>
  (apd 8 U [zD]).bind fun zE =>
  (qt J 10).bind fun zF =>
  eE N k zF zC zE
  else
  some (J,U))
def dC (N:Nat) (a0:Int):Option (List Int) :=
  (eE N N a0 [] []).bind fun J =>
  lpB J fun (zC,U) =>
  some U
def dr (N:Nat):Nat→(List Int)→Int→Option (Sum Bool Int)
 | 0,_,_=>none
 | k+1,U,J =>
  (bif decide (J<(U.length:Int)) then
  (ix U J).bind fun zC =>
  (cx N zC 0 9).bind fun zD =>
  (bif zD then
  (ad J 1).bind fun zE =>
  dr N k U zE
  else
  some (.inl false))
  else
  some (.inr J))
def dR (N:Nat) (a0:List Int):Option Bool :=
  (dr N N a0 0).bind fun J =>
  lpS J (fun q=>some q) fun zD =>
  (bif decide ((a0.length:Int)≤60) then
  (bif ((a0.length:Int) == 0) then
  some true
  else
  (sb (a0.length:Int) 1).bind fun U =>
  (ix a0 U).bind fun zC =>
  some (zC != 0))
  else
  some false)
def eO (N:Nat):Nat→(List Int)→(List Int)→(List Int)→Int→Int→Option ((List Int) × Int × Int)
 | 0,_,_,_,_,_=>none
 | k+1,zC,zE,zD,J,U =>
  (bif decide (U<(zC.length:Int)) then
  (ix zC U).bind fun zG =>
  (ad J zG).bind fun zF =>
  (rm zF 10).bind fun zH =>
  (apd 8 zD [zH]).bind fun zI =>
  (qt zF 10).bind fun zJ =>
  (ad U 1).bind fun zK =>
  eO N k zC zE zI zJ zK
  else
  (bif decide (0<J) then
  (rm J 10).bind fun zL =>
  (apd 8 zD [zL]).bind fun zM =>
  (qt J 10).bind fun zN =>
  (ad U 1).bind fun zO =>
  eO N k zC zE zM zN zO
  else
  some (zD,J,U)))
def f5 (N:Nat):Nat→(List Int)→(List Int)→Option (List Int)
 | 0,_,_=>none
 | k+1,U,J =>
  (bif decide (0<(J.length:Int)) then
  (sb (J.length:Int) 1).bind fun zC =>
  (ix J zC).bind fun zD =>
  (bif (zD == 0) then
  (sb (J.length:Int) 1).bind fun zE =>
  (slc J 0 zE).bind fun zF =>
  f5 N k U zF
  else
  some J)
  else
  some J)
def gv (N:Nat) (a0:List Int):Option ((List Int) × Bool) :=
  (eO N N a0 [] [] 0 0).bind fun U =>
  lpB U fun (zC,zE,zF) =>
  (f5 N N [] zC).bind fun zD =>
  lpB zD fun J =>
  (bif decide (60<(J.length:Int)) then
  some ([],false)
  else
  some (J,true))
def dK (N:Nat):Nat→(List Int)→(List Int)→(List Int)→(List Int)→Int→Int→Option ((List Int) × Int)
 | 0,_,_,_,_,_,_=>none
 | k+1,zE,zD,zG,U,zC,J =>
  (bif decide (J<(zD.length:Int)) then
  (ad zC J).bind fun zF =>
  (ad zC J).bind fun zH =>
  (ix U zH).bind fun zI =>
  (ix zE zC).bind fun zJ =>
  (ix zD J).bind fun zK =>
  (ml zJ zK).bind fun zL =>
  (ad zI zL).bind fun zM =>
  (ix U zF).bind fun zP =>
  (sto U zF zM).bind fun zN =>
  (ad J 1).bind fun zO =>
  dK N k zE zD zG zN zC zO
  else
  some (U,J))
def dL (N:Nat):Nat→(List Int)→(List Int)→(List Int)→(List Int)→Int→Option ((List Int) × Int)
 | 0,_,_,_,_,_=>none
 | k+1,U,zC,zD,zE,J =>
  (bif decide (J<(U.length:Int)) then
  (dK N N U zC zD zE J 0).bind fun zF =>
  lpB zF fun (zG,zI) =>
  (ad J 1).bind fun zH =>
  dL N k U zC zD zG zH
  else
  some (zE,J))
def fc (N:Nat) (a0:List Int) (a1:List Int):Option ((List Int) × Bool) :=
  (dR N a0).bind fun U =>
  (bif U then
  (dR N a1).bind fun zC =>
  (bif zC then
  (ad (a0.length:Int) (a1.length:Int)).bind fun zD =>
  (mk 8 (0:Int) zD).bind fun zE =>
  (dL N N a0 a1 [] zE 0).bind fun zF =>
  lpB zF fun (zG,zH) =>
  (gv N zG).bind fun J =>
  some (J.1,J.2)
  else
  some ([],false))
  else
  some ([],false))
def cB (N:Nat):Nat→Int→Int→(List Int)→(List Int)→Int→Option (Sum ((List Int) × Bool) ((List Int) × Int))
 | 0,_,_,_,_,_=>none
 | k+1,U,zC,zF,zD,J =>
  (bif decide (J<zC) then
  (dC N U).bind fun zG =>
  (fc N zD zG).bind fun zE =>
  (bif zE.2 then
  (ad J 1).bind fun zH =>
  cB N k U zC zF zE.1 zH
  else
  some (.inl ([],false)))
  else
  some (.inr (zD,J)))
def d7 (N:Nat) (a0:Int) (a1:Int):Option ((List Int) × Bool) :=
  (bif decide (a0<0) then
  some ([],false)
  else
  (cx N a1 0 100).bind fun J =>
  (bif J then
  (dC N 1).bind fun U =>
  (cB N N a0 a1 [] U 0).bind fun zC =>
  lpS zC (fun q=>some q) fun (zD,zE) =>
  some (zD,true)
  else
  some ([],false)))
def aS (N:Nat):Nat→(List Int)→(List Int)→(List Int)→(List Int)→Int→Option (Sum ((List Int) × Bool) ((List Int) × Int))
 | 0,_,_,_,_,_=>none
 | k+1,U,zC,zG,zD,J =>
  (bif decide (J<(U.length:Int)) then
  (ix U J).bind fun zH =>
  (ix zC J).bind fun zI =>
  (d7 N zH zI).bind fun zE =>
  (fc N zD zE.1).bind fun zF =>
  (bif zE.2 then
  (bif zF.2 then
  (ad J 1).bind fun zJ =>
  aS N k U zC zG zF.1 zJ
  else
  some (.inl ([],false)))
  else
  some (.inl ([],false)))
  else
  some (.inr (zD,J)))
def bQ (N:Nat) (a0:List Int) (a1:List Int):Option ((List Int) × Bool) :=
  (bif ((a0.length:Int) != (a1.length:Int)) then
  some ([],false)
  else
  (dC N 1).bind fun J =>
  (aS N N a0 a1 [] J 0).bind fun U =>
  lpS U (fun q=>some q) fun (zC,zD) =>
  some (zC,true))
def ef (N:Nat):Nat→(List Int)→(List Int)→Int→Option (Sum Int Int)
 | 0,_,_,_=>none
 | k+1,U,zC,J =>
  (bif decide (0≤J) then
  (ix U J).bind fun zD =>
  (ix zC J).bind fun zE =>
  (bif decide (zD<zE) then
  some (.inl (-1))
  else
  (ix U J).bind fun zF =>
  (ix zC J).bind fun zG =>
  (bif decide (zG<zF) then
  some (.inl 1)
  else
  (sb J 1).bind fun zH =>
  ef N k U zC zH))
  else
  some (.inr J))
def dn (N:Nat) (a0:List Int) (a1:List Int):Option Int :=
  (dR N a0).bind fun J =>
  (bif J then
  (dR N a1).bind fun U =>
  (bif U then
  (bif ((a0.length:Int) != (a1.length:Int)) then
  (bif decide ((a0.length:Int)<(a1.length:Int)) then
  some (-1)
  else
  some 1)
  else
  (sb (a0.length:Int) 1).bind fun zC =>
  (ef N N a0 a1 zC).bind fun zD =>
  lpS zD (fun q=>some q) fun zE =>
  some 0)
  else
  some 0)
  else
  some 0)
def dm (N:Nat):Nat→(List Int)→(List Int)→Int→(List Int)→Int→Int→Option ((List Int) × (List Int) × Int)
 | 0,_,_,_,_,_,_=>none
 | k+1,zF,U,zD,zC,zE,J =>
  (bif decide (J<(U.length:Int)) then
  (ix U J).bind fun zG =>
  (ml zG zE).bind fun zH =>
  (ix U J).bind fun zN =>
  (sto U J zH).bind fun zI =>
  (ix zC J).bind fun zJ =>
  (ml zJ zD).bind fun zK =>
  (ix zC J).bind fun zO =>
  (sto zC J zK).bind fun zL =>
  (ad J 1).bind fun zM =>
  dm N k zF zI zD zL zE zM
  else
  some (U,zC,J))
def fh (N:Nat) (a0:List Int) (a1:List (Int × Int)) (a2:List (Int × Int)):Option (Int × Bool) :=
  (bG N a1).bind fun J =>
  (bG N a2).bind fun U =>
  (bif (J.2 == 0) then
  some (0,false)
  else
  (bif (U.2 == 0) then
  some (0,false)
  else
  (bif ((J.1.length:Int) != (a0.length:Int)) then
  some (0,false)
  else
  (bif ((U.1.length:Int) != (a0.length:Int)) then
  some (0,false)
  else
  (dm N N a0 J.1 J.2 U.1 U.2 0).bind fun zE =>
  lpB zE fun (zF,zG,zI) =>
  (bQ N a0 zF).bind fun zC =>
  (bQ N a0 zG).bind fun zD =>
  (bif zC.2 then
  (bif zD.2 then
  (dn N zC.1 zD.1).bind fun zH =>
  some (zH,true)
  else
  some (0,false))
  else
  some (0,false))))))
def cC (N:Nat):Nat→(List Int)→(List (List (Int × Int)))→(List (Int × Int))→(List (Int × Int))→Int→Option (Sum ((List (Int × Int)) × Bool) Int)
 | 0,_,_,_,_,_=>none
 | k+1,U,zC,zD,zE,J =>
  (bif decide (J<(U.length:Int)) then
  (ix U J).bind fun zF =>
  (cx N zF 0 16).bind fun zG =>
  (bif zG then
  (ad J 1).bind fun zH =>
  cC N k U zC zD zE zH
  else
  some (.inl ([],false)))
  else
  some (.inr J))
def cU (N:Nat):Nat→(List Int)→(List (List (Int × Int)))→(List (Int × Int))→Int→Option ((List (Int × Int)) × Int)
 | 0,_,_,_,_=>none
 | k+1,zC,U,zD,J =>
  (bif decide (J<(U.length:Int)) then
  (ix U J).bind fun zE =>
  (fh N zC zE zD).bind fun zF =>
  (bif decide (zF.1<0) then
  (ix U J).bind fun zG =>
  (ad J 1).bind fun zH =>
  cU N k zC U zG zH
  else
  (ad J 1).bind fun zI =>
  cU N k zC U zD zI)
  else
  some (zD,J))
def gr (N:Nat) (a0:Int) (a1:List (ByteArray × List Int)) (a2:List Int) (a3:List Int):Option ((List (Int × Int)) × Bool) :=
  (fz N a0 a1 a2).bind fun J =>
  (bif J.2 then
  (bif ((a3.length:Int) != (a1.length:Int)) then
  some ([],false)
  else
  (cC N N a3 J.1.1 J.1.2.1 J.1.2.2 0).bind fun zC =>
  lpS zC (fun q=>some q) fun zG =>
  (bV N J.1.1 J.1.2.1 J.1.2.2).bind fun U =>
  (ix U 0).bind fun zD =>
  (cU N N a3 U zD 1).bind fun zE =>
  lpB zE fun (zF,zH) =>
  some (zF,true))
  else
  some ([],false))
def ck (N:Nat) (a0:List Int) (a1:List (Int × Int)) (a2:Int):Option Bool :=
  (bG N a1).bind fun J =>
  (bQ N a0 J.1).bind fun U =>
  (d7 N a2 J.2).bind fun zC =>
  (bif decide (0<J.2) then
  (bif U.2 then
  (bif zC.2 then
  (dn N zC.1 U.1).bind fun zD =>
  some (decide (zD≤0))
  else
  some false)
  else
  some false)
  else
  some false)
def c6 (N:Nat):Nat→(List Int)→(List (Int × Int))→Int→Int→Option (Int × Int)
 | 0,_,_,_,_=>none
 | k+1,zC,zD,J,U =>
  (bif decide (J<U) then
  (ad J U).bind fun zF =>
  (ad zF 1).bind fun zG =>
  (qt zG 2).bind fun zE =>
  (ck N zC zD zE).bind fun zH =>
  (bif zH then
  c6 N k zC zD zE U
  else
  (sb zE 1).bind fun zI =>
  c6 N k zC zD J zI)
  else
  some (J,U))
def gi (N:Nat) (a0:Int) (a1:List (ByteArray × List Int)) (a2:List Int) (a3:List Int):Option (Int × Bool) :=
  (gr N a0 a1 a2 a3).bind fun J =>
  (bif J.2 then
  (ck N a3 J.1 0).bind fun U =>
  (bif U then
  (c6 N N a3 J.1 0 100000).bind fun zC =>
  lpB zC fun (zD,zE) =>
  some (zD,true)
  else
  some (0,false))
  else
  some (0,false))
def ij (N:Nat):Nat→(List Int)→(List Int)→Int→Option ((List Int) × Int)
 | 0,_,_,_=>none
 | k+1,U,zC,J =>
  (bif decide (J<(U.length:Int)) then
  (ix U J).bind fun zD =>
  (ix zC J).bind fun zG =>
  (sto zC J zD).bind fun zE =>
  (ad J 1).bind fun zF =>
  ij N k U zE zF
  else
  some (zC,J))
def fO (N:Nat) (a0:List Int):Option (List Int) :=
  (mk 8 (0:Int) (a0.length:Int)).bind fun J =>
  (ij N N a0 J 0).bind fun U =>
  lpB U fun (zC,zD) =>
  some zC
def g7 (N:Nat) (a0:ByteArray) (a1:List Int):Option (ByteArray × List Int) :=
  (fO N a1).bind fun J =>
  some (a0,J)
def gP (N:Nat):Nat→(List (ByteArray × List Int))→(List (ByteArray × List Int))→Int→Option ((List (ByteArray × List Int)) × Int)
 | 0,_,_,_=>none
 | k+1,U,zC,J =>
  (bif decide (J<(U.length:Int)) then
  (ix U J).bind fun zD =>
  (g7 N zD.1 zD.2).bind fun zE =>
  (ix zC J).bind fun zH =>
  (sto zC J (zE.1,zE.2)).bind fun zF =>
  (ad J 1).bind fun zG =>
  gP N k U zF zG
  else
  some (zC,J))
def iT (N:Nat) (a0:List (ByteArray × List Int)):Option (List (ByteArray × List Int)) :=
  (mk 40 ((ByteArray.empty,[]):ByteArray × List Int) (a0.length:Int)).bind fun J =>
  (gP N N a0 J 0).bind fun U =>
  lpB U fun (zC,zD) =>
  some zC
def gu (N:Nat) (a0:Int) (a1:List (ByteArray × List Int)) (a2:List Int):Option (Int × List (ByteArray × List Int) × List Int) :=
  (iT N a1).bind fun J =>
  (fO N a2).bind fun U =>
  some (a0,J,U)
def cH (N:Nat) (a0:Int) (a1:Int) (a2:Int):Option Bool :=
  (bif decide (a1≤a0) then
  some (decide (a0≤a2))
  else
  some false)
def gT (N:Nat):Nat→Int→(List Int)→Int→Int→Option (Sum Int Int)
 | 0,_,_,_,_=>none
 | k+1,U,zC,zD,J =>
  (bif decide (J<zD) then
  (ix zC J).bind fun zE =>
  (bif (zE == U) then
  some (.inl J)
  else
  (ad J 1).bind fun zF =>
  gT N k U zC zD zF)
  else
  some (.inr J))
def iO (N:Nat) (a0:List Int) (a1:Int):Option Int :=
  (gT N N a1 a0 (a0.length:Int) 0).bind fun J =>
  lpS J (fun q=>some q) fun U =>
  some (-1)
def iG (N:Nat) (a0:List Int) (a1:Int):Option Bool :=
  (iO N a0 a1).bind fun J =>
  some (decide (0≤J))
def eM (N:Nat):Nat→(List Int)→Int→(List Int)→Int→Int→Option (Sum Bool Int)
 | 0,_,_,_,_,_=>none
 | k+1,U,zC,zD,zE,J =>
  (bif decide (J<zE) then
  (ix zD J).bind fun zF =>
  (sb zC 1).bind fun zG =>
  (cH N zF 0 zG).bind fun zH =>
  (bif zH then
  (slc U 0 J).bind fun zI =>
  (iG N zI zF).bind fun zJ =>
  (bif zJ then
  some (.inl false)
  else
  (ad J 1).bind fun zK =>
  eM N k U zC zD zE zK)
  else
  some (.inl false))
  else
  some (.inr J))
def iQ (N:Nat) (a0:List Int) (a1:Int):Option Bool :=
  (eM N N a0 a1 a0 (a0.length:Int) 0).bind fun J =>
  lpS J (fun q=>some q) fun U =>
  some true
def fx (N:Nat):Nat→ByteArray→Int→Option (Sum Bool Int)
 | 0,_,_=>none
 | k+1,U,J =>
  (bif decide (J<(U.size:Int)) then
  (bx U J).bind fun zC =>
  (bif decide (zC<97) then
  some (.inl false)
  else
  (bx U J).bind fun zD =>
  (bif decide (122<zD) then
  some (.inl false)
  else
  (ad J 1).bind fun zE =>
  fx N k U zE))
  else
  some (.inr J))
def jb (N:Nat) (a0:ByteArray) (a1:Int):Option Bool :=
  (bif decide ((a0.size:Int)<1) then
  some false
  else
  (bif decide (a1<(a0.size:Int)) then
  some false
  else
  (fx N N a0 0).bind fun J =>
  lpS J (fun q=>some q) fun U =>
  some true))
def gE (N:Nat) (a0:ByteArray):Option Bool :=
  (jb N a0 4).bind fun J =>
  some J
def cI (N:Nat):Nat→Int→(List Bool)→(List (ByteArray × List Int))→Int→Int→(List Int)→Int→Int→Option (Sum Bool ((List Bool) × Int))
 | 0,_,_,_,_,_,_,_,_=>none
 | k+1,zD,U,zG,zH,zI,zE,zF,J =>
  (bif decide (J<zF) then
  (ix zE J).bind fun zC =>
  (sb zD 1).bind fun zJ =>
  (cH N zC 0 zJ).bind fun zK =>
  (bif zK then
  (ix U zC).bind fun zN =>
  (sto U zC true).bind fun zL =>
  (ad J 1).bind fun zM =>
  cI N k zD zL zG zH zI zE zF zM
  else
  some (.inl false))
  else
  some (.inr (U,J)))
def cE (N:Nat):Nat→Int→(List Bool)→(List (ByteArray × List Int))→Int→Int→Option (Sum Bool ((List Bool) × Int))
 | 0,_,_,_,_,_=>none
 | k+1,zE,zF,zC,zD,J =>
  (bif decide (J<zD) then
  (ix zC J).bind fun U =>
  (gE N U.1).bind fun zG =>
  (bif zG then
  (cH N (U.2.length:Int) 1 5).bind fun zH =>
  (bif zH then
  (cI N N zE zF zC zD J U.2 (U.2.length:Int) 0).bind fun zI =>
  lpS zI (fun q=>some (.inl q)) fun (zJ,zL) =>
  (ad J 1).bind fun zK =>
  cE N k zE zJ zC zD zK
  else
  some (.inl false))
  else
  some (.inl false))
  else
  some (.inr (zF,J)))
def dc (N:Nat):Nat→(List Bool)→Int→Int→Option (Sum Bool Int)
 | 0,_,_,_=>none
 | k+1,U,zC,J =>
  (bif decide (J<zC) then
  (ix U J).bind fun zD =>
  (bif zD then
  (ad J 1).bind fun zE =>
  dc N k U zC zE
  else
  some (.inl false))
  else
  some (.inr J))
def eL (N:Nat) (a0:Int) (a1:List (ByteArray × List Int)) (a2:List Int):Option Bool :=
  (cH N a0 1 5).bind fun U =>
  (bif U then
  (cH N (a1.length:Int) 1 4).bind fun zC =>
  (bif zC then
  (iQ N a2 a0).bind fun zD =>
  (bif zD then
  (mk 1 (false:Bool) a0).bind fun zE =>
  (cE N N a0 zE a1 (a1.length:Int) 0).bind fun zF =>
  lpS zF (fun q=>some q) fun (J,zH) =>
  (dc N N J (J.length:Int) 0).bind fun zG =>
  lpS zG (fun q=>some q) fun zI =>
  some true
  else
  some false)
  else
  some false)
  else
  some false)
def jS (N:Nat) (a0:Bool):Option Int :=
  (bif a0 then
  some 1
  else
  some 0)
def e7 (N:Nat) (a0:ByteArray) (a1:List Int) (a2:Int):Option Bool :=
  (iG N a1 a2).bind fun J =>
  some J
def dP (N:Nat):Nat→Int→(List (ByteArray × List Int))→(List Int)→(List (List (Int × Int)))→(List (Int × Int))→(List (Int × Int))→(List (List (Int × Int)))→(List (Int × Int))→(List (Int × Int))→Int→(List (Int × Int))→(List Int)→Int→Int→(List (ByteArray × List Int))→Int→Int→Option ((List (Int × Int)) × Int)
 | 0,_,_,_,_,_,_,_,_,_,_,_,_,_,_,_,_,_=>none
 | k+1,zG,zH,zI,zJ,zK,zL,zM,zN,zO,U,zC,zP,zQ,zR,zD,zE,J =>
  (bif decide (J<zE) then
  (ix zD J).bind fun zF =>
  (e7 N zF.1 zF.2 U).bind fun zS =>
  (jS N zS).bind fun zT =>
  (apd 16 zC [(zT,1)]).bind fun zU =>
  (ad J 1).bind fun zV =>
  dP N k zG zH zI zJ zK zL zM zN zO U zU zP zQ zR zD zE zV
  else
  some (zC,J))
def dQ (N:Nat):Nat→Int→(List (ByteArray × List Int))→(List Int)→(List (List (Int × Int)))→(List (Int × Int))→(List (Int × Int))→(List (List (Int × Int)))→(List (Int × Int))→(List (Int × Int))→(List Int)→Int→Int→Option ((List (List (Int × Int))) × (List (Int × Int)) × Int)
 | 0,_,_,_,_,_,_,_,_,_,_,_,_=>none
 | k+1,zG,U,zH,zI,zJ,zK,zC,zD,zL,zE,zF,J =>
  (bif decide (J<zF) then
  (ix zE J).bind fun zM =>
  (dP N N zG U zH zI zJ zK zC zD zL zM [] zE zF J U (U.length:Int) 0).bind fun zN =>
  lpB zN fun (zO,zS) =>
  (apd 24 zC [zO]).bind fun zP =>
  (apd 16 zD [(1,1)]).bind fun zQ =>
  (ad J 1).bind fun zR =>
  dQ N k zG U zH zI zJ zK zP zQ zL zE zF zR
  else
  some (zC,zD,J))
def dO (N:Nat):Nat→(List (List (Int × Int)))→(List (Int × Int))→(List (Int × Int))→(List (List (Int × Int)))→(List (Int × Int))→(List (Int × Int))→Int→Int→Option ((List (Int × Int)) × Int)
 | 0,_,_,_,_,_,_,_,_=>none
 | k+1,zD,zE,zF,zG,zH,U,zC,J =>
  (bif decide (J<zC) then
  (apd 16 U [(1,1)]).bind fun zI =>
  (ad J 1).bind fun zJ =>
  dO N k zD zE zF zG zH zI zC zJ
  else
  some (U,J))
def jB (N:Nat) (a0:Int) (a1:List (ByteArray × List Int)) (a2:List Int) (a3:List Int):Option (List (List (Int × Int)) × List (Int × Int) × List (Int × Int)) :=
  (dQ N N a0 a1 a2 [] [] [] [] [] [] a3 (a3.length:Int) 0).bind fun zC =>
  lpB zC fun (J,U,zF) =>
  (dO N N [] [] [] J U [] (a1.length:Int) 0).bind fun zD =>
  lpB zD fun (zE,zG) =>
  some (J,U,zE)
def cF (N:Nat):Nat→Int→(List (ByteArray × List Int))→(List Int)→(List Int)→Int→Option ((List Int) × Int)
 | 0,_,_,_,_,_=>none
 | k+1,U,zD,zE,zC,J =>
  (bif decide (J<U) then
  (apd 8 zC [J]).bind fun zF =>
  (ad J 1).bind fun zG =>
  cF N k U zD zE zF zG
  else
  some (zC,J))
def gd (N:Nat) (a0:Int) (a1:List (ByteArray × List Int)) (a2:List Int):Option (List Int) :=
  (eL N a0 a1 a2).bind fun J =>
  (bif J then
  (cF N N a0 a1 a2 [] 0).bind fun U =>
  lpB U fun (zC,zD) =>
  some zC
  else
  some [])
def gc (N:Nat) (a0:Int) (a1:List (ByteArray × List Int)) (a2:List Int):Option ((List (List (Int × Int)) × List (Int × Int) × List (Int × Int)) × Bool) :=
  (eL N a0 a1 a2).bind fun U =>
  (bif U then
  (gd N a0 a1 a2).bind fun zC =>
  (jB N a0 a1 a2 zC).bind fun J =>
  some ((J.1,J.2.1,J.2.2),true)
  else
  some (([],[],[]),false))
def fP (N:Nat):Nat→Int→Int→Option (Int × Int)
 | 0,_,_=>none
 | k+1,U,J =>
  (bif (J != 0) then
  (rm U J).bind fun zC =>
  fP N k J zC
  else
  some (U,J))
def f8 (N:Nat) (a0:Int) (a1:Int):Option Int :=
  (fP N N a0 a1).bind fun J =>
  lpB J fun (U,zC) =>
  some U
def iy (N:Nat) (a0:Int):Option Int :=
  (sb 0 a0).bind fun J =>
  some (imx a0 J)
def bf (N:Nat) (a0:Int) (a1:Int):Option Bool :=
  (cH N a1 1 1000000000).bind fun J =>
  (bif J then
  (cH N a0 (-1000000000) 1000000000).bind fun U =>
  (bif U then
  (iy N a0).bind fun zC =>
  (f8 N zC a1).bind fun zD =>
  some (zD == 1)
  else
  some false)
  else
  some false)
def fG (N:Nat):Nat→(List (Int × Int))→Int→Int→Option (Sum Bool Int)
 | 0,_,_,_=>none
 | k+1,U,zC,J =>
  (bif decide (J<zC) then
  (ix U J).bind fun zD =>
  (bf N zD.1 zD.2).bind fun zE =>
  (bif zE then
  (ad J 1).bind fun zF =>
  fG N k U zC zF
  else
  some (.inl false))
  else
  some (.inr J))
def dY (N:Nat) (a0:List (Int × Int)):Option Bool :=
  (fG N N a0 (a0.length:Int) 0).bind fun J =>
  lpS J (fun q=>some q) fun U =>
  some true
def dg (N:Nat):Nat→Int→(List (List (Int × Int)))→Int→Int→Option (Sum Bool Int)
 | 0,_,_,_,_=>none
 | k+1,U,zC,zD,J =>
  (bif decide (J<zD) then
  (ix zC J).bind fun zE =>
  (bif ((zE.length:Int) != U) then
  some (.inl false)
  else
  (dY N zE).bind fun zF =>
  (bif zF then
  (ad J 1).bind fun zG =>
  dg N k U zC zD zG
  else
  some (.inl false)))
  else
  some (.inr J))
def c7 (N:Nat) (a0:List (List (Int × Int))) (a1:List (Int × Int)) (a2:List (Int × Int)):Option Bool :=
  (cH N (a2.length:Int) 1 5).bind fun J =>
  (bif J then
  (cH N (a1.length:Int) 1 5).bind fun U =>
  (bif U then
  (bif ((a0.length:Int) != (a1.length:Int)) then
  some false
  else
  (dY N a1).bind fun zC =>
  (bif zC then
  (dY N a2).bind fun zD =>
  (bif zD then
  (dg N N (a2.length:Int) a0 (a0.length:Int) 0).bind fun zE =>
  lpS zE (fun q=>some q) fun zF =>
  some true
  else
  some false)
  else
  some false))
  else
  some false)
  else
  some false)
def e8 (N:Nat) (a0:List (Int × Int)):Option (List (Int × Int)) :=
  (apd 16 [] a0).bind fun J =>
  some J
def iC (N:Nat) (a0:List Int):Option (List Int) :=
  (apd 8 [] a0).bind fun J =>
  some J
def eK (N:Nat) (a0:Int) (a1:Int) (a2:Int) (a3:Int):Option Bool :=
  (bf N a0 a1).bind fun J =>
  (bif J then
  (bf N a2 a3).bind fun U =>
  some U
  else
  some false)
def eY (N:Nat) (a0:Int) (a1:Int):Option ((Int × Int) × Bool) :=
  (bif (a1 == 0) then
  some ((0,0),false)
  else
  (cH N a0 (-4000000000000000000) 4000000000000000000).bind fun zI =>
  (bif zI then
  (cH N a1 (-4000000000000000000) 4000000000000000000).bind fun zJ =>
  (bif zJ then
  (bif decide (a1<0) then
  (sb 0 a0).bind fun J =>
  (sb 0 a1).bind fun U =>
  (iy N J).bind fun zK =>
  (f8 N zK U).bind fun zC =>
  (qt J zC).bind fun zD =>
  (qt U zC).bind fun zE =>
  (bf N zD zE).bind fun zL =>
  (bif zL then
  some ((zD,zE),true)
  else
  some ((0,0),false))
  else
  (iy N a0).bind fun zM =>
  (f8 N zM a1).bind fun zF =>
  (qt a0 zF).bind fun zG =>
  (qt a1 zF).bind fun zH =>
  (bf N zG zH).bind fun zN =>
  (bif zN then
  some ((zG,zH),true)
  else
  some ((0,0),false)))
  else
  some ((0,0),false))
  else
  some ((0,0),false)))
def fL (N:Nat) (a0:Int) (a1:Int) (a2:Int) (a3:Int):Option ((Int × Int) × Bool) :=
  (eK N a0 a1 a2 a3).bind fun U =>
  (bif U then
  (bif (a2 == 0) then
  some ((0,0),false)
  else
  (ml a0 a3).bind fun zC =>
  (ml a1 a2).bind fun zD =>
  (eY N zC zD).bind fun J =>
  some ((J.1.1,J.1.2),J.2))
  else
  some ((0,0),false))
def fE (N:Nat) (a0:Int) (a1:Int) (a2:Int) (a3:Int):Option ((Int × Int) × Bool) :=
  (eK N a0 a1 a2 a3).bind fun U =>
  (bif U then
  (ml a0 a2).bind fun zC =>
  (ml a1 a3).bind fun zD =>
  (eY N zC zD).bind fun J =>
  some ((J.1.1,J.1.2),J.2)
  else
  some ((0,0),false))
def fH (N:Nat) (a0:Int) (a1:Int) (a2:Int) (a3:Int):Option ((Int × Int) × Bool) :=
  (eK N a0 a1 a2 a3).bind fun U =>
  (bif U then
  (ml a0 a3).bind fun zC =>
  (ml a2 a1).bind fun zD =>
  (ad zC zD).bind fun zE =>
  (ml a1 a3).bind fun zF =>
  (eY N zE zF).bind fun J =>
  some ((J.1.1,J.1.2),J.2)
  else
  some ((0,0),false))
def gx (N:Nat) (a0:Int) (a1:Int) (a2:Int) (a3:Int):Option ((Int × Int) × Bool) :=
  (sb 0 a2).bind fun U =>
  (fH N a0 a1 U a3).bind fun J =>
  some ((J.1.1,J.1.2),J.2)
def fA (N:Nat):Nat→(List (Int × Int))→(List (Int × Int))→Int→Int→Int→Option (Sum (Bool × (List (Int × Int))) ((List (Int × Int)) × Int))
 | 0,_,_,_,_,_=>none
 | k+1,J,zE,zF,zG,U =>
  (bif decide (U<(J.length:Int)) then
  (ix zE U).bind fun zH =>
  (fE N zF zG zH.1 zH.2).bind fun zC =>
  (ix J U).bind fun zI =>
  (gx N zI.1 zI.2 zC.1.1 zC.1.2).bind fun zD =>
  (bif zC.2 then
  (bif zD.2 then
  (ix J U).bind fun zL =>
  (sto J U (zD.1.1,zD.1.2)).bind fun zJ =>
  (ad U 1).bind fun zK =>
  fA N k zJ zE zF zG zK
  else
  some (.inl (false,J)))
  else
  some (.inl (false,J)))
  else
  some (.inr (J,U)))
def jc (N:Nat) (a0:List (Int × Int)) (a1:List (Int × Int)) (a2:Int):Option (Bool × (List (Int × Int))) :=
  (ix a0 a2).bind fun U =>
  (ix a1 a2).bind fun zC =>
  (fL N U.1 U.2 zC.1 zC.2).bind fun J =>
  (bif J.2 then
  (fA N N a0 a1 J.1.1 J.1.2 a2).bind fun zD =>
  lpS zD (fun q=>some q) fun (zE,zF) =>
  some (true,zE)
  else
  some (false,a0))
def eC (N:Nat):Nat→(List (Int × Int))→Int→(List (List (Int × Int)))→(List (List (Int × Int)))→Int→Int→Option (Sum ((List (Int × Int)) × Bool) ((List (List (Int × Int))) × Int))
 | 0,_,_,_,_,_,_=>none
 | k+1,zC,zD,zE,zF,zG,J =>
  (bif decide (J<zG) then
  (ix zF J).bind fun U =>
  (bif ((U.length:Int) != zD) then
  some (.inl ([],false))
  else
  (dY N U).bind fun zI =>
  (bif zI then
  (ix zC J).bind fun zH =>
  (e8 N U).bind fun zJ =>
  (apd 16 zJ [(zH.1,zH.2)]).bind fun zK =>
  (apd 24 zE [zK]).bind fun zL =>
  (ad J 1).bind fun zM =>
  eC N k zC zD zL zF zG zM
  else
  some (.inl ([],false))))
  else
  some (.inr (zE,J)))
def eD (N:Nat):Nat→Int→(List (List (Int × Int)))→Int→Int→Option Int
 | 0,_,_,_,_=>none
 | k+1,U,zC,zD,J =>
  (bif decide (J<U) then
  (ix zC J).bind fun zE =>
  (ix zE zD).bind fun zF =>
  (bif (zF.1 == 0) then
  (ad J 1).bind fun zG =>
  eD N k U zC zD zG
  else
  some J)
  else
  some J)
def bW (N:Nat):Nat→Int→(List (List (Int × Int)))→Int→Int→Option (Sum ((List (Int × Int)) × Bool) ((List (List (Int × Int))) × Int))
 | 0,_,_,_,_=>none
 | k+1,zD,U,zC,J =>
  (bif decide (J<zD) then
  (bif (J != zC) then
  (ix U J).bind fun zF =>
  (ix zF zC).bind fun zG =>
  (bif (zG.1 != 0) then
  (ix U J).bind fun zH =>
  (ix U zC).bind fun zI =>
  (jc N zH zI zC).bind fun zE =>
  (sto U J zE.2).bind fun zJ =>
  (bif zE.1 then
  (ad J 1).bind fun zK =>
  bW N k zD zJ zC zK
  else
  some (.inl ([],false)))
  else
  (ad J 1).bind fun zL =>
  bW N k zD U zC zL)
  else
  (ad J 1).bind fun zM =>
  bW N k zD U zC zM)
  else
  some (.inr (U,J)))
def eu (N:Nat):Nat→Int→(List (List (Int × Int)))→Int→Option (Sum ((List (Int × Int)) × Bool) ((List (List (Int × Int))) × Int))
 | 0,_,_,_=>none
 | k+1,zC,U,J =>
  (bif decide (J<zC) then
  (eD N N zC U J J).bind fun zE =>
  lpB zE fun zD =>
  (bif (zD == zC) then
  some (.inl ([],false))
  else
  (ix U zD).bind fun zF =>
  (ix U J).bind fun zG =>
  (ix U J).bind fun zM =>
  (sto U J zF).bind fun zH =>
  (sto zH zD zG).bind fun zI =>
  (bW N N zC zI J 0).bind fun zJ =>
  lpS zJ (fun q=>some (.inl q)) fun (zK,zN) =>
  (ad J 1).bind fun zL =>
  eu N k zC zK zL)
  else
  some (.inr (U,J)))
def eh (N:Nat):Nat→Int→(List (List (Int × Int)))→(List (Int × Int))→Int→Option (Sum ((List (Int × Int)) × Bool) ((List (Int × Int)) × Int))
 | 0,_,_,_,_=>none
 | k+1,U,zC,zE,J =>
  (bif decide (J<U) then
  (ix zC J).bind fun zH =>
  (ix zH U).bind fun zF =>
  (ix zC J).bind fun zI =>
  (ix zI J).bind fun zG =>
  (fL N zF.1 zF.2 zG.1 zG.2).bind fun zD =>
  (bif zD.2 then
  (apd 16 zE [(zD.1.1,zD.1.2)]).bind fun zJ =>
  (ad J 1).bind fun zK =>
  eh N k U zC zJ zK
  else
  some (.inl ([],false)))
  else
  some (.inr (zE,J)))
def eW (N:Nat) (a0:List (List (Int × Int))) (a1:List (Int × Int)):Option ((List (Int × Int)) × Bool) :=
  (bif decide (6<(a1.length:Int)) then
  some ([],false)
  else
  (bif ((a0.length:Int) != (a1.length:Int)) then
  some ([],false)
  else
  (dY N a1).bind fun zE =>
  (bif zE then
  (eC N N a1 (a1.length:Int) [] a0 (a0.length:Int) 0).bind fun J =>
  lpS J (fun q=>some q) fun (zF,zI) =>
  (eu N N (a1.length:Int) zF 0).bind fun U =>
  lpS U (fun q=>some q) fun (zG,zJ) =>
  (eh N N (a1.length:Int) zG [] 0).bind fun zC =>
  lpS zC (fun q=>some q) fun (zD,zH) =>
  some (zD,true)
  else
  some ([],false))))
def fR (N:Nat):Nat→(List (Int × Int))→(List (Int × Int))→Int→Int→Int→Int→Int→Int→Option (Sum ((Int × Int) × Bool) (Int × Int × Int))
 | 0,_,_,_,_,_,_,_,_=>none
 | k+1,zD,zE,zK,zL,zF,zG,zH,J =>
  (bif decide (J<zH) then
  (ix zD J).bind fun zI =>
  (ix zE J).bind fun zJ =>
  (fE N zI.1 zI.2 zJ.1 zJ.2).bind fun U =>
  (fH N zF zG U.1.1 U.1.2).bind fun zC =>
  (bif U.2 then
  (bif zC.2 then
  (ad J 1).bind fun zM =>
  fR N k zD zE zK zL zC.1.1 zC.1.2 zH zM
  else
  some (.inl ((0,0),false)))
  else
  some (.inl ((0,0),false)))
  else
  some (.inr (zF,zG,J)))
def gV (N:Nat) (a0:List (Int × Int)) (a1:List (Int × Int)):Option ((Int × Int) × Bool) :=
  (bif ((a0.length:Int) != (a1.length:Int)) then
  some ((0,0),false)
  else
  (fR N N a0 a1 0 0 0 1 (a0.length:Int) 0).bind fun J =>
  lpS J (fun q=>some q) fun (U,zC,zD) =>
  some ((U,zC),true))
def dT (N:Nat):Nat→(List (Int × Int))→(List (Int × Int))→(List (List (Int × Int)))→Int→Int→Option (Sum ((List (Int × Int)) × Bool) ((List (Int × Int)) × Int))
 | 0,_,_,_,_,_=>none
 | k+1,zC,zD,zE,zF,J =>
  (bif decide (J<zF) then
  (ix zE J).bind fun zG =>
  (gV N zG zC).bind fun U =>
  (bif U.2 then
  (apd 16 zD [(U.1.1,U.1.2)]).bind fun zH =>
  (ad J 1).bind fun zI =>
  dT N k zC zH zE zF zI
  else
  some (.inl ([],false)))
  else
  some (.inr (zD,J)))
def eI (N:Nat) (a0:List (List (Int × Int))) (a1:List (Int × Int)):Option ((List (Int × Int)) × Bool) :=
  (dT N N a1 [] a0 (a0.length:Int) 0).bind fun J =>
  lpS J (fun q=>some q) fun (U,zC) =>
  some (U,true)
def eX (N:Nat) (a0:Int) (a1:Int):Option Int :=
  (bif decide (a0<a1) then
  some (-1)
  else
  (bif decide (a1<a0) then
  some 1
  else
  some 0))
def fb (N:Nat) (a0:Int) (a1:Int) (a2:Int) (a3:Int):Option Int :=
  (eK N a0 a1 a2 a3).bind fun J =>
  (bif J then
  (ml a0 a3).bind fun U =>
  (ml a2 a1).bind fun zC =>
  (eX N U zC).bind fun zD =>
  some zD
  else
  some 0)
def gz (N:Nat):Nat→(List (Int × Int))→Int→(List (List (Int × Int)))→(List (Int × Int))→(List (Int × Int))→(List (Int × Int))→Int→Int→Option (Sum Bool Int)
 | 0,_,_,_,_,_,_,_,_=>none
 | k+1,zD,zE,zF,zG,zH,U,zC,J =>
  (bif decide (J<zC) then
  (ix U J).bind fun zI =>
  (bif decide (zI.1<0) then
  some (.inl false)
  else
  (ad J 1).bind fun zJ =>
  gz N k zD zE zF zG zH U zC zJ)
  else
  some (.inr J))
def gD (N:Nat):Nat→Int→(List (List (Int × Int)))→(List (Int × Int))→(List (Int × Int))→(List (Int × Int))→Int→Int→Option (Sum Bool Int)
 | 0,_,_,_,_,_,_,_=>none
 | k+1,U,zH,zC,zI,zD,zE,J =>
  (bif decide (J<zE) then
  (ix zD J).bind fun zF =>
  (ix zC J).bind fun zG =>
  (fb N zF.1 zF.2 zG.1 zG.2).bind fun zJ =>
  (ml U zJ).bind fun zK =>
  (bif decide (zK<0) then
  some (.inl false)
  else
  (ad J 1).bind fun zL =>
  gD N k U zH zC zI zD zE zL)
  else
  some (.inr J))
def iB (N:Nat) (a0:List (List (Int × Int))) (a1:List (Int × Int)) (a2:List (Int × Int)) (a3:List (Int × Int)) (a4:Int):Option Bool :=
  (c7 N a0 a1 a2).bind fun U =>
  (bif U then
  (bif ((a3.length:Int) != (a2.length:Int)) then
  some false
  else
  (dY N a3).bind fun zC =>
  (bif zC then
  (gz N N a3 a4 a0 a1 a2 a3 (a3.length:Int) 0).bind fun zD =>
  lpS zD (fun q=>some q) fun zF =>
  (eI N a0 a3).bind fun J =>
  (bif J.2 then
  (gD N N a4 a0 a1 a2 J.1 (J.1.length:Int) 0).bind fun zE =>
  lpS zE (fun q=>some q) fun zG =>
  some true
  else
  some false)
  else
  some false))
  else
  some false)
def d8 (N:Nat):Nat→(List (Int × Int))→(List (Int × Int))→Int→Int→Option (Sum Bool Int)
 | 0,_,_,_,_=>none
 | k+1,U,zC,zD,J =>
  (bif decide (J<zD) then
  (ix U J).bind fun zE =>
  (ix zC J).bind fun zF =>
  (bif (zE.1 == zF.1&&zE.2 == zF.2) then
  (ad J 1).bind fun zG =>
  d8 N k U zC zD zG
  else
  some (.inl false))
  else
  some (.inr J))
def fC (N:Nat) (a0:List (Int × Int)) (a1:List (Int × Int)):Option Bool :=
  (bif ((a0.length:Int) != (a1.length:Int)) then
  some false
  else
  (d8 N N a0 a1 (a0.length:Int) 0).bind fun J =>
  lpS J (fun q=>some q) fun U =>
  some true)
def fd (rec:Int→(List Int)→Int→(List (List (Int × Int)))→(List (Int × Int))→(List (List (Int × Int)))→(List (Int × Int))→(List (Int × Int))→Int→(List (List (Int × Int)))→Option (List (List (Int × Int)))) (N:Nat):Nat→(List Int)→Int→(List (List (Int × Int)))→(List (Int × Int))→(List (List (Int × Int)))→(List (Int × Int))→(List (Int × Int))→Int→(List (List (Int × Int)))→Int→Option ((List (List (Int × Int))) × Int)
 | 0,_,_,_,_,_,_,_,_,_,_=>none
 | k+1,zC,zD,U,zE,zF,zG,zH,zI,zJ,J =>
  (bif decide (J<(U.length:Int)) then
  (ad J 1).bind fun zK =>
  (iC N zC).bind fun zL =>
  (apd 8 zL [J]).bind fun zM =>
  (rec zK zM zD U zE zF zG zH zI zJ).bind fun zN =>
  (ad J 1).bind fun zO =>
  fd rec N k zC zD U zE zF zG zH zI zN zO
  else
  some (zJ,J))
def de (rec:Int→(List Int)→Int→(List (List (Int × Int)))→(List (Int × Int))→(List (List (Int × Int)))→(List (Int × Int))→(List (Int × Int))→Int→(List (List (Int × Int)))→Option (List (List (Int × Int)))) (N:Nat):Nat→(List Int)→Int→(List (List (Int × Int)))→(List (Int × Int))→(List (List (Int × Int)))→(List (Int × Int))→(List (Int × Int))→Int→(List (List (Int × Int)))→(List (List (Int × Int)))→(List (Int × Int))→(List Int)→Int→Int→Option ((List (List (Int × Int))) × (List (Int × Int)) × Int)
 | 0,_,_,_,_,_,_,_,_,_,_,_,_,_,_=>none
 | k+1,zJ,zK,U,zC,zL,zM,zN,zO,zP,zD,zE,zF,zG,J =>
  (bif decide (J<zG) then
  (ix zF J).bind fun zH =>
  (ix U zH).bind fun zQ =>
  (apd 24 zD [zQ]).bind fun zR =>
  (ix zC zH).bind fun zI =>
  (apd 16 zE [(zI.1,zI.2)]).bind fun zS =>
  (ad J 1).bind fun zT =>
  de rec N k zJ zK U zC zL zM zN zO zP zR zS zF zG zT
  else
  some (zD,zE,J))
def fa (rec:Int→(List Int)→Int→(List (List (Int × Int)))→(List (Int × Int))→(List (List (Int × Int)))→(List (Int × Int))→(List (Int × Int))→Int→(List (List (Int × Int)))→Option (List (List (Int × Int)))) (N:Nat):Nat→(List Int)→Int→(List (List (Int × Int)))→(List (Int × Int))→(List (List (Int × Int)))→(List (Int × Int))→(List (Int × Int))→Int→(List (List (Int × Int)))→(List (Int × Int))→(List (List (Int × Int)))→Int→Int→Option (Sum (List (List (Int × Int))) Int)
 | 0,_,_,_,_,_,_,_,_,_,_,_,_,_=>none
 | k+1,zF,zG,zH,zI,zJ,zK,zL,zM,U,zC,zD,zE,J =>
  (bif decide (J<zE) then
  (ix zD J).bind fun zN =>
  (fC N zC zN).bind fun zO =>
  (bif zO then
  some (.inl U)
  else
  (ad J 1).bind fun zP =>
  fa rec N k zF zG zH zI zJ zK zL zM U zC zD zE zP)
  else
  some (.inr J))
def ce:Nat→Int→(List Int)→Int→(List (List (Int × Int)))→(List (Int × Int))→(List (List (Int × Int)))→(List (Int × Int))→(List (Int × Int))→Int→(List (List (Int × Int)))→Option (List (List (Int × Int)))
 | 0,_,_,_,_,_,_,_,_,_,_=>none
 | N+1,a0,a1,a2,a3,a5,a6,a7,a8,a9,J =>
  (bif decide ((a1.length:Int)<a2) then
  (fd (ce N) N N a1 a2 a3 a5 a6 a7 a8 a9 J a0).bind fun zC =>
  lpB zC fun (zD,zK) =>
  some zD
  else
  (de (ce N) N N a1 a2 a3 a5 a6 a7 a8 a9 J [] [] a1 (a1.length:Int) 0).bind fun zE =>
  lpB zE fun (zF,zG,zL) =>
  (eW N zF zG).bind fun U =>
  (bif U.2 then
  (iB N a6 a7 a8 U.1 a9).bind fun zH =>
  (bif zH then
  (fa (ce N) N N a1 a2 a3 a5 a6 a7 a8 a9 J U.1 J (J.length:Int) 0).bind fun zI =>
  lpS zI (fun q=>some q) fun zM =>
  (apd 24 J [U.1]).bind fun zJ =>
  some zJ
  else
  some J)
  else
  some J))
def dI (N:Nat):Nat→(List (List (Int × Int)))→(List (Int × Int))→(List (Int × Int))→Int→Int→(List (List (Int × Int)))→(List (Int × Int))→Int→(List (Int × Int))→Int→Option ((List (Int × Int)) × Int)
 | 0,_,_,_,_,_,_,_,_,_,_=>none
 | k+1,zE,zF,zG,zH,U,zI,zJ,zC,zD,J =>
  (bif decide (J<U) then
  (jS N (zC == J)).bind fun zK =>
  (apd 16 zD [(zK,1)]).bind fun zL =>
  (ad J 1).bind fun zM =>
  dI N k zE zF zG zH U zI zJ zC zL zM
  else
  some (zD,J))
def dH (N:Nat):Nat→(List (List (Int × Int)))→(List (Int × Int))→(List (Int × Int))→Int→Int→(List (List (Int × Int)))→(List (Int × Int))→Int→Option ((List (List (Int × Int))) × (List (Int × Int)) × Int)
 | 0,_,_,_,_,_,_,_,_=>none
 | k+1,zE,zF,zG,zH,U,zC,zD,J =>
  (bif decide (J<U) then
  (dI N N zE zF zG zH U zC zD J [] 0).bind fun zI =>
  lpB zI fun (zJ,zN) =>
  (apd 24 zC [zJ]).bind fun zK =>
  (apd 16 zD [(0,1)]).bind fun zL =>
  (ad J 1).bind fun zM =>
  dH N k zE zF zG zH U zK zL zM
  else
  some (zC,zD,J))
def iA (N:Nat) (a0:List (List (Int × Int))) (a1:List (Int × Int)) (a2:List (Int × Int)) (a3:Int):Option (List (List (Int × Int))) :=
  (apd 24 [] a0).bind fun J =>
  (e8 N a1).bind fun U =>
  (dH N N a0 a1 a2 a3 (a2.length:Int) J U 0).bind fun zC =>
  lpB zC fun (zD,zE,zG) =>
  (ce N 0 [] (a2.length:Int) zD zE a0 a1 a2 a3 []).bind fun zF =>
  some zF
def e5 (N:Nat) (a0:List (List (Int × Int))) (a1:List (Int × Int)) (a2:List (Int × Int)):Option (List (List (Int × Int))) :=
  (c7 N a0 a1 a2).bind fun J =>
  (bif J then
  (iA N a0 a1 a2 1).bind fun U =>
  some U
  else
  some [])
def dw (N:Nat):Nat→(List (Int × Int))→Int→(List (Int × Int))→Int→Int→Option (Sum ((List Int) × Int) Int)
 | 0,_,_,_,_,_=>none
 | k+1,zE,zF,zC,zD,J =>
  (bif decide (J<zD) then
  (ix zC J).bind fun U =>
  (bf N U.1 U.2).bind fun zG =>
  (bif zG then
  (bif decide (U.1<0) then
  some (.inl ([],0))
  else
  (ad J 1).bind fun zH =>
  dw N k zE zF zC zD zH)
  else
  some (.inl ([],0)))
  else
  some (.inr J))
def dv (N:Nat):Nat→(List (Int × Int))→Int→(List (Int × Int))→Int→Int→Option (Sum ((List Int) × Int) (Int × Int))
 | 0,_,_,_,_,_=>none
 | k+1,zG,U,zC,zD,J =>
  (bif decide (J<zD) then
  (ix zC J).bind fun zE =>
  (f8 N U zE.2).bind fun zH =>
  (qt U zH).bind fun zI =>
  (ml zI zE.2).bind fun zF =>
  (bif decide (1000<zF) then
  some (.inl ([],0))
  else
  (ad J 1).bind fun zJ =>
  dv N k zG zF zC zD zJ)
  else
  some (.inr (U,J)))
def cu (N:Nat):Nat→Int→(List Int)→(List (Int × Int))→Int→Int→Option ((List Int) × Int)
 | 0,_,_,_,_,_=>none
 | k+1,U,zC,zD,zE,J =>
  (bif decide (J<zE) then
  (ix zD J).bind fun zF =>
  (qt U zF.2).bind fun zG =>
  (ml zF.1 zG).bind fun zH =>
  (apd 8 zC [zH]).bind fun zI =>
  (ad J 1).bind fun zJ =>
  cu N k U zI zD zE zJ
  else
  some (zC,J))
def dz (N:Nat) (a0:List (Int × Int)):Option ((List Int) × Int) :=
  (dw N N a0 1 a0 (a0.length:Int) 0).bind fun U =>
  lpS U (fun q=>some q) fun zF =>
  (dv N N a0 1 a0 (a0.length:Int) 0).bind fun zC =>
  lpS zC (fun q=>some q) fun (J,zG) =>
  (cu N N J [] a0 (a0.length:Int) 0).bind fun zD =>
  lpB zD fun (zE,zH) =>
  some (zE,J)
def dp (N:Nat):Nat→(List Int)→Int→(List Int)→Int→Int→Option (Sum Bool Int)
 | 0,_,_,_,_,_=>none
 | k+1,zD,zE,U,zC,J =>
  (bif decide (J<zC) then
  (ix U J).bind fun zF =>
  (cH N zF 0 9).bind fun zG =>
  (bif zG then
  (ad J 1).bind fun zH =>
  dp N k zD zE U zC zH
  else
  some (.inl false))
  else
  some (.inr J))
def dS (N:Nat) (a0:List Int):Option Bool :=
  (dp N N a0 (a0.length:Int) a0 (a0.length:Int) 0).bind fun J =>
  lpS J (fun q=>some q) fun zD =>
  (bif decide ((a0.length:Int)≤60) then
  (bif ((a0.length:Int) == 0) then
  some true
  else
  (sb (a0.length:Int) 1).bind fun U =>
  (ix a0 U).bind fun zC =>
  some (zC != 0))
  else
  some false)
def bF (N:Nat):Nat→(List Int)→(List Int)→(List Int)→Int→Int→Option ((List Int) × Int × Int)
 | 0,_,_,_,_,_=>none
 | k+1,zC,zE,zD,J,U =>
  (bif decide (U<(zC.length:Int)) then
  (ix zC U).bind fun zG =>
  (ad J zG).bind fun zF =>
  (rm zF 10).bind fun zH =>
  (apd 8 zD [zH]).bind fun zI =>
  (qt zF 10).bind fun zJ =>
  (ad U 1).bind fun zK =>
  bF N k zC zE zI zJ zK
  else
  (bif decide (0<J) then
  (rm J 10).bind fun zL =>
  (apd 8 zD [zL]).bind fun zM =>
  (qt J 10).bind fun zN =>
  (ad U 1).bind fun zO =>
  bF N k zC zE zM zN zO
  else
  some (zD,J,U)))
def fZ (N:Nat):Nat→(List Int)→(List Int)→Int→Option Int
 | 0,_,_,_=>none
 | k+1,zC,U,J =>
  (bif decide (0<J) then
  (sb J 1).bind fun zD =>
  (ix U zD).bind fun zE =>
  (bif (zE == 0) then
  (sb J 1).bind fun zF =>
  fZ N k zC U zF
  else
  some J)
  else
  some J)
def eU (N:Nat) (a0:List Int):Option ((List Int) × Bool) :=
  (bF N N a0 [] [] 0 0).bind fun zC =>
  lpB zC fun (J,zF,zG) =>
  (fZ N N [] J (J.length:Int)).bind fun zD =>
  lpB zD fun U =>
  (slc J 0 U).bind fun zE =>
  (bif decide (60<U) then
  some ([],false)
  else
  some (zE,true))
def ci (N:Nat):Nat→(List Int)→(List Int)→(List Int)→Int→Int→(List Int)→Int→Int→(List Int)→Int→Int→Option ((List Int) × Int)
 | 0,_,_,_,_,_,_,_,_,_,_,_=>none
 | k+1,zH,zI,U,zD,zE,zJ,zK,zL,zF,zG,J =>
  (bif decide (J<zG) then
  (ix zF J).bind fun zM =>
  (ad zD J).bind fun zC =>
  (ix U zC).bind fun zN =>
  (ml zE zM).bind fun zO =>
  (ad zN zO).bind fun zP =>
  (ix U zC).bind fun zS =>
  (sto U zC zP).bind fun zQ =>
  (ad J 1).bind fun zR =>
  ci N k zH zI zQ zD zE zJ zK zL zF zG zR
  else
  some (U,J))
def cj (N:Nat):Nat→(List Int)→(List Int)→(List Int)→(List Int)→Int→Int→Option ((List Int) × Int)
 | 0,_,_,_,_,_,_=>none
 | k+1,U,zE,zF,zC,zD,J =>
  (bif decide (J<zD) then
  (ix zC J).bind fun zG =>
  (ci N N U zE zF J zG zC zD J U (U.length:Int) 0).bind fun zH =>
  lpB zH fun (zI,zK) =>
  (ad J 1).bind fun zJ =>
  cj N k U zE zI zC zD zJ
  else
  some (zF,J))
def d9 (N:Nat) (a0:List Int) (a1:List Int):Option ((List Int) × Bool) :=
  (dS N a0).bind fun U =>
  (bif U then
  (dS N a1).bind fun zC =>
  (bif zC then
  (ad (a0.length:Int) (a1.length:Int)).bind fun zD =>
  (mk 8 (0:Int) zD).bind fun zE =>
  (cj N N a1 [] zE a0 (a0.length:Int) 0).bind fun zF =>
  lpB zF fun (zG,zH) =>
  (eU N zG).bind fun J =>
  some (J.1,J.2)
  else
  some ([],false))
  else
  some ([],false))
def bM (N:Nat):Nat→Int→(List Int)→(List Int)→Option (Int × (List Int))
 | 0,_,_,_=>none
 | k+1,J,zC,U =>
  (bif decide (0<J) then
  (rm J 10).bind fun zD =>
  (apd 8 U [zD]).bind fun zE =>
  (qt J 10).bind fun zF =>
  bM N k zF zC zE
  else
  some (J,U))
def cM (N:Nat) (a0:Int):Option (List Int) :=
  (bM N N a0 [] []).bind fun J =>
  lpB J fun (zC,U) =>
  some U
def bC (N:Nat):Nat→Int→Int→(List Int)→(List Int)→Int→Option (Sum ((List Int) × Bool) ((List Int) × Int))
 | 0,_,_,_,_,_=>none
 | k+1,U,zC,zF,zD,J =>
  (bif decide (J<zC) then
  (cM N U).bind fun zG =>
  (d9 N zD zG).bind fun zE =>
  (bif zE.2 then
  (ad J 1).bind fun zH =>
  bC N k U zC zF zE.1 zH
  else
  some (.inl ([],false)))
  else
  some (.inr (zD,J)))
def d5 (N:Nat) (a0:Int) (a1:Int):Option ((List Int) × Bool) :=
  (bif decide (a0<0) then
  some ([],false)
  else
  (cH N a1 0 100).bind fun J =>
  (bif J then
  (cM N 1).bind fun U =>
  (bC N N a0 a1 [] U 0).bind fun zC =>
  lpS zC (fun q=>some q) fun (zD,zE) =>
  some (zD,true)
  else
  some ([],false)))
def bA (N:Nat):Nat→(List Int)→(List Int)→(List Int)→(List Int)→Int→Int→Option (Sum ((List Int) × Bool) ((List Int) × Int))
 | 0,_,_,_,_,_,_=>none
 | k+1,U,zC,zH,zD,zE,J =>
  (bif decide (J<zE) then
  (ix U J).bind fun zI =>
  (ix zC J).bind fun zJ =>
  (d5 N zI zJ).bind fun zF =>
  (d9 N zD zF.1).bind fun zG =>
  (bif zF.2 then
  (bif zG.2 then
  (ad J 1).bind fun zK =>
  bA N k U zC zH zG.1 zE zK
  else
  some (.inl ([],false)))
  else
  some (.inl ([],false)))
  else
  some (.inr (zD,J)))
def dB (N:Nat) (a0:List Int) (a1:List Int):Option ((List Int) × Bool) :=
  (bif ((a0.length:Int) != (a1.length:Int)) then
  some ([],false)
  else
  (cM N 1).bind fun J =>
  (bA N N a0 a1 [] J (a0.length:Int) 0).bind fun U =>
  lpS U (fun q=>some q) fun (zC,zD) =>
  some (zC,true))
def dZ (N:Nat):Nat→Int→(List Int)→(List Int)→Int→Int→Option ((List Int) × Int)
 | 0,_,_,_,_,_=>none
 | k+1,U,zC,zD,zE,J =>
  (bif decide (J<zE) then
  (ix zD J).bind fun zF =>
  (ml zF U).bind fun zG =>
  (apd 8 zC [zG]).bind fun zH =>
  (ad J 1).bind fun zI =>
  dZ N k U zH zD zE zI
  else
  some (zC,J))
def iF (N:Nat) (a0:List Int) (a1:Int):Option (List Int) :=
  (dZ N N a1 [] a0 (a0.length:Int) 0).bind fun J =>
  lpB J fun (U,zC) =>
  some U
def bY (N:Nat):Nat→(List Int)→(List Int)→Int→Option (Sum Int Int)
 | 0,_,_,_=>none
 | k+1,U,zC,J =>
  (bif decide (0≤J) then
  (ix U J).bind fun zD =>
  (ix zC J).bind fun zE =>
  (bif (zD != zE) then
  (ix U J).bind fun zF =>
  (ix zC J).bind fun zG =>
  (eX N zF zG).bind fun zH =>
  some (.inl zH)
  else
  (sb J 1).bind fun zI =>
  bY N k U zC zI)
  else
  some (.inr J))
def cQ (N:Nat) (a0:List Int) (a1:List Int):Option Int :=
  (dS N a0).bind fun J =>
  (bif J then
  (dS N a1).bind fun U =>
  (bif U then
  (bif ((a0.length:Int) != (a1.length:Int)) then
  (eX N (a0.length:Int) (a1.length:Int)).bind fun zC =>
  some zC
  else
  (sb (a0.length:Int) 1).bind fun zD =>
  (bY N N a0 a1 zD).bind fun zE =>
  lpS zE (fun q=>some q) fun zF =>
  some 0)
  else
  some 0)
  else
  some 0)
def ff (N:Nat) (a0:List Int) (a1:List (Int × Int)) (a2:List (Int × Int)):Option (Int × Bool) :=
  (dz N a1).bind fun J =>
  (dz N a2).bind fun U =>
  (bif ((a1.length:Int) != (a0.length:Int)) then
  some (0,false)
  else
  (bif ((a2.length:Int) != (a0.length:Int)) then
  some (0,false)
  else
  (bif (J.2 == 0) then
  some (0,false)
  else
  (bif (U.2 == 0) then
  some (0,false)
  else
  (iF N J.1 U.2).bind fun zE =>
  (dB N a0 zE).bind fun zC =>
  (iF N U.1 J.2).bind fun zF =>
  (dB N a0 zF).bind fun zD =>
  (bif zC.2 then
  (bif zD.2 then
  (cQ N zC.1 zD.1).bind fun zG =>
  some (zG,true)
  else
  some (0,false))
  else
  some (0,false))))))
def gh (N:Nat):Nat→(List Int)→Int→(List (ByteArray × List Int))→(List Int)→(List Int)→Int→Int→Option (Sum ((List (Int × Int)) × Bool) Int)
 | 0,_,_,_,_,_,_,_=>none
 | k+1,zD,zE,zF,zG,U,zC,J =>
  (bif decide (J<zC) then
  (ix U J).bind fun zH =>
  (cH N zH 0 16).bind fun zI =>
  (bif zI then
  (ad J 1).bind fun zJ =>
  gh N k zD zE zF zG U zC zJ
  else
  some (.inl ([],false)))
  else
  some (.inr J))
def cX (N:Nat):Nat→(List Int)→(List (Int × Int))→(List (List (Int × Int)))→Int→Int→Option ((List (Int × Int)) × Int)
 | 0,_,_,_,_,_=>none
 | k+1,U,zC,zD,zE,J =>
  (bif decide (J<zE) then
  (ix zD J).bind fun zF =>
  (ff N U zF zC).bind fun zG =>
  (bif (zG.1 == (-1)) then
  (ad J 1).bind fun zH =>
  cX N k U zF zD zE zH
  else
  (ad J 1).bind fun zI =>
  cX N k U zC zD zE zI)
  else
  some (zC,J))
def fF (N:Nat) (a0:Int) (a1:List (ByteArray × List Int)) (a2:List Int) (a3:List Int):Option ((List (Int × Int)) × Bool) :=
  (eL N a0 a1 a2).bind fun zD =>
  (bif zD then
  (bif ((a3.length:Int) != (a1.length:Int)) then
  some ([],false)
  else
  (gh N N a3 a0 a1 a2 a3 (a3.length:Int) 0).bind fun zE =>
  lpS zE (fun q=>some q) fun zI =>
  (gc N a0 a1 a2).bind fun U =>
  (e5 N U.1.1 U.1.2.1 U.1.2.2).bind fun J =>
  (bif ((J.length:Int) == 0) then
  some ([],false)
  else
  (ix J 0).bind fun zF =>
  (slc J 1 (J.length:Int)).bind fun zC =>
  (cX N N a3 zF zC (zC.length:Int) 0).bind fun zG =>
  lpB zG fun (zH,zJ) =>
  some (zH,true)))
  else
  some ([],false))
def dX (N:Nat):Nat→(List Int)→Int→Int→(List Int)→Int→(List Int)→Int→Int→Option (Sum Bool Int)
 | 0,_,_,_,_,_,_,_,_=>none
 | k+1,zD,zE,zF,zG,zH,U,zC,J =>
  (bif decide (J<zC) then
  (ix U J).bind fun zI =>
  (bif decide (zI<0) then
  some (.inl false)
  else
  (ad J 1).bind fun zJ =>
  dX N k zD zE zF zG zH U zC zJ)
  else
  some (.inr J))
def h9 (N:Nat) (a0:List Int) (a1:List (Int × Int)) (a2:Int) (a3:Int):Option Bool :=
  (dz N a1).bind fun J =>
  (bif decide (a2<0) then
  some false
  else
  (bif decide (J.2<1) then
  some false
  else
  (bif decide (100<J.2) then
  some false
  else
  (dX N N a0 a2 a3 J.1 J.2 a0 (a0.length:Int) 0).bind fun zF =>
  lpS zF (fun q=>some q) fun zH =>
  (d5 N a2 J.2).bind fun U =>
  (dB N a0 J.1).bind fun zC =>
  (d5 N a3 J.2).bind fun zD =>
  (d9 N zC.1 zD.1).bind fun zE =>
  (bif U.2 then
  (bif zC.2 then
  (bif zD.2 then
  (bif zE.2 then
  (cQ N U.1 zE.1).bind fun zG =>
  some (decide (zG≤0))
  else
  some false)
  else
  some false)
  else
  some false)
  else
  some false))))
def du (N:Nat) (a0:List Int) (a1:List (Int × Int)) (a2:Int):Option Bool :=
  (h9 N a0 a1 a2 1).bind fun J =>
  some J
def c4 (N:Nat):Nat→(List Int)→(List (Int × Int))→Int→Int→Option (Int × Int)
 | 0,_,_,_,_=>none
 | k+1,zC,zD,J,U =>
  (bif decide (J<U) then
  (ad J U).bind fun zF =>
  (ad zF 1).bind fun zG =>
  (qt zG 2).bind fun zE =>
  (du N zC zD zE).bind fun zH =>
  (bif zH then
  c4 N k zC zD zE U
  else
  (sb zE 1).bind fun zI =>
  c4 N k zC zD J zI)
  else
  some (J,U))
def gg (N:Nat) (a0:Int) (a1:List (ByteArray × List Int)) (a2:List Int) (a3:List Int):Option (Int × Bool) :=
  (fF N a0 a1 a2 a3).bind fun J =>
  (bif J.2 then
  (du N a3 J.1 0).bind fun U =>
  (bif U then
  (c4 N N a3 J.1 0 100000).bind fun zC =>
  lpB zC fun (zD,zE) =>
  some (zD,true)
  else
  some (0,false))
  else
  some (0,false))
def iq (N:Nat):Nat→(List Int)→(List Int)→Int→Option (Sum Bool Int)
 | 0,_,_,_=>none
 | k+1,U,zC,J =>
  (bif decide (J<(U.length:Int)) then
  (ix U J).bind fun zD =>
  (ix zC J).bind fun zE =>
  (bif (zD != zE) then
  some (.inl false)
  else
  (ad J 1).bind fun zF =>
  iq N k U zC zF)
  else
  some (.inr J))
def hU (N:Nat) (a0:List Int) (a1:List Int):Option Bool :=
  (bif ((a0.length:Int) != (a1.length:Int)) then
  some false
  else
  (iq N N a0 a1 0).bind fun J =>
  lpS J (fun q=>some q) fun U =>
  some true)
def hJ (N:Nat) (a0:ByteArray) (a1:List Int) (a2:ByteArray) (a3:List Int):Option Bool :=
  (bif (eqS a0 a2) then
  (hU N a1 a3).bind fun J =>
  (bif J then
  some true
  else
  some false)
  else
  some false)
def gU (N:Nat):Nat→(List (ByteArray × List Int))→(List (ByteArray × List Int))→Int→Option (Sum Bool Int)
 | 0,_,_,_=>none
 | k+1,U,zC,J =>
  (bif decide (J<(U.length:Int)) then
  (ix U J).bind fun zD =>
  (ix zC J).bind fun zE =>
  (hJ N zD.1 zD.2 zE.1 zE.2).bind fun zF =>
  (bif zF then
  (ad J 1).bind fun zG =>
  gU N k U zC zG
  else
  some (.inl false))
  else
  some (.inr J))
def iR (N:Nat) (a0:List (ByteArray × List Int)) (a1:List (ByteArray × List Int)):Option Bool :=
  (bif ((a0.length:Int) != (a1.length:Int)) then
  some false
  else
  (gU N N a0 a1 0).bind fun J =>
  lpS J (fun q=>some q) fun U =>
  some true)
def iZ (N:Nat) (a0:Int) (a1:List (ByteArray × List Int)) (a2:List Int) (a3:Int) (a4:List (ByteArray × List Int)) (a5:List Int):Option Bool :=
  (bif (a0 != a3) then
  some false
  else
  (iR N a1 a4).bind fun J =>
  (bif J then
  (hU N a2 a5).bind fun U =>
  (bif U then
  some true
  else
  some false)
  else
  some false))
def fv (N:Nat) (a0:Int) (a1:List (ByteArray × List Int)) (a2:List Int) (a3:List Int):Option Bool :=
  (bif decide (1048576<(a3.length:Int)) then
  some true
  else
  (iU N a0 a1 a2 1048576).bind fun zG =>
  (bif decide (zG<0) then
  some true
  else
  (gu N a0 a1 a2).bind fun U =>
  (fO N a3).bind fun zH =>
  (gi N U.1 U.2.1 U.2.2 zH).bind fun zD =>
  (gu N a0 a1 a2).bind fun J =>
  (fO N a3).bind fun zE =>
  (gg N J.1 J.2.1 J.2.2 zE).bind fun zF =>
  (bif (zF.1 != zD.1) then
  some false
  else
  (bif (zF.2 != zD.2) then
  some false
  else
  (gu N a0 a1 a2).bind fun zC =>
  (iZ N J.1 J.2.1 J.2.2 zC.1 zC.2.1 zC.2.2).bind fun zI =>
  (bif zI then
  (fO N a3).bind fun zJ =>
  (hU N zE zJ).bind fun zK =>
  (bif zK then
  some true
  else
  some false)
  else
  some false)))))
theorem rt {N:Nat} {x:List Int} {l:Int} (_:1073741824≤N) (hp:(bP (fun _=>True) 9223372036854775807) x) (h0:0≤l) (h1:l≤1048576):∃ r,iE N x l=some r∧(0≤r→(bP (fun _=>True) 1048576) x∧r≤1048576):=by
 unfold iE
 have hs:sb l (x.length:Int)=some (l-x.length):=by
  unfold sb;rw [if_pos];unfold rng;simp only [Bool.and_eq_true,decide_eq_true_eq];have:=hp.1;omega
 rw [hs,bs]
 by_cases hl:l-x.length<0
 ·rw [decide_eq_true hl,cond_true];exact ⟨-1,rfl,fun h=>absurd h (by omega)⟩
 ·rw [decide_eq_false hl,cond_false];exact ⟨_,rfl,fun _=>⟨⟨by omega,fun _ _=>trivial⟩,by omega⟩⟩
theorem ue (N:Nat):∀ k xs ys i,ij N k xs ys i=mw (fun x:Int=>some x) k xs ys i:=by
 intro k
 induction k with
 | zero=>intros;rfl
 | succ k ih=>intro xs ys i;rw [ij,mw];simp only [ih,bs]
theorem oS {N:Nat} {x:List Int} (hN:1073741824≤N) (h:(bP (fun _=>True) 1048576) x):fO N x=some x:=by
 have:=tM (b:=8) (z:=(0:Int)) (by decide) hN (f:=fun x:Int=>some x) (fun x _=>rfl) h
 unfold gto at this;unfold fO;simp only [ue];exact this
theorem uT (N:Nat):∀ k xs ys i,iq N k xs ys i=kA (fun x y:Int=>some (decide (x=y))) k xs ys i:=by
 intro k
 induction k with
 | zero=>intros;rfl
 | succ k ih =>
  intro xs ys i;rw [iq,kA];simp only [ih,bs]
  have e:∀ x y:Int,(x != y)=!decide (x=y):=fun x y=>by by_cases h:x=y <;> simp [h]
  congr 1
  refine congrArg _ (funext fun x=>congrArg _ (funext fun y=>?_))
  rw [e];cases decide (x=y) <;> rfl
theorem o6 {N:Nat} {x y:List Int} (hN:1073741824≤N) (hx:(bP (fun _=>True) 1048576) x) (hy:(bP (fun _=>True) 1048576) y):hU N x y=some (decide (x=y)):=by
 have:=sS hN (f:=fun x y:Int=>some (decide (x=y))) (fun x y _ _=>rfl) hx hy
 unfold geq at this;unfold hU;simp only [uT];exact this
theorem wD {N:Nat} {x:ByteArray × List Int} {l:Int} (hN:1073741824≤N) (hp:(fun x=>(fun s=>s.size≤9223372036854775807) x.1∧(bP (fun _=>True) 9223372036854775807) x.2) x) (h0:0≤l) (h1:l≤1048576):∃ r,hO N x.1 x.2 l=some r∧(0≤r→(fun x=>(fun s=>s.size≤1048576) x.1∧(bP (fun _=>True) 1048576) x.2) x∧r≤1048576):=by
 unfold hO
 have e0:sb l ((x.1).size:Int)=some (l-(x.1).size):=by unfold sb;rw [if_pos];unfold rng;simp only [Bool.and_eq_true,decide_eq_true_eq];have:=hp.1;omega
 rw [e0,bs]
 generalize hr0:l-((x.1).size:Int)=r0
 by_cases hn0:r0<0
 ·rw [decide_eq_true hn0,cond_true];exact ⟨-1,rfl,fun h=>absurd h (by omega)⟩
 rw [decide_eq_false hn0,cond_false]
 have b0:r0≤1048576:=by omega
 obtain ⟨r1,e1,k1⟩:=rt hN hp.2 (l:=r0) (by omega) (by omega)
 rw [e1,bs]
 by_cases hn1:r1<0
 ·rw [decide_eq_true hn1,cond_true];exact ⟨-1,rfl,fun h=>absurd h (by omega)⟩
 rw [decide_eq_false hn1,cond_false]
 have b1:r1≤1048576:=(k1 (by omega)).2
 exact ⟨_,rfl,fun _=>⟨⟨(by show (x.1).size≤1048576;omega),(k1 (by omega)).1⟩,b1⟩⟩
theorem vW {N:Nat} {x:ByteArray × List Int} (hN:1073741824≤N) (h:(fun x=>(fun s=>s.size≤1048576) x.1∧(bP (fun _=>True) 1048576) x.2) x):g7 N x.1 x.2=some x:=by
 unfold g7
 rw [oS hN h.2,bs]
theorem wg {N:Nat} {x y:ByteArray × List Int} (hN:1073741824≤N) (hx:(fun x=>(fun s=>s.size≤1048576) x.1∧(bP (fun _=>True) 1048576) x.2) x) (hy:(fun x=>(fun s=>s.size≤1048576) x.1∧(bP (fun _=>True) 1048576) x.2) y):hJ N x.1 x.2 y.1 y.2=some (decide (x=y)):=by
 unfold hJ
 simp only [o6 hN hx.2 hy.2,bs,pi,xI]
 obtain ⟨x0,x1⟩:=x
 obtain ⟨y0,y1⟩:=y
 clear hx hy
 by_cases h0:x0=y0 <;> by_cases h1:x1=y1 <;> simp [h0,h1]
theorem tP (N:Nat):∀ k xs l i,gX N k xs l i=o3 (fun (x:ByteArray × List Int) l=>hO N x.1 x.2 l) k xs l i:=by
 intro k
 induction k with
 | zero=>intros;rfl
 | succ k ih=>intro xs l i;rw [gX,o3];simp only [ih]
theorem uc {N:Nat} {x:List (ByteArray × List Int)} {l:Int} (hN:1073741824≤N) (hp:(bP (fun x=>(fun s=>s.size≤9223372036854775807) x.1∧(bP (fun _=>True) 9223372036854775807) x.2) 9223372036854775807) x) (h0:0≤l) (h1:l≤1048576):∃ r,iY N x l=some r∧(0≤r→(bP (fun x=>(fun s=>s.size≤1048576) x.1∧(bP (fun _=>True) 1048576) x.2) 1048576) x∧r≤1048576):=by
 have:=xG hN (f:=fun (x:ByteArray × List Int) l=>hO N x.1 x.2 l) (p:=fun x=>(fun s=>s.size≤9223372036854775807) x.1∧(bP (fun _=>True) 9223372036854775807) x.2) (ok:=fun x=>(fun s=>s.size≤1048576) x.1∧(bP (fun _=>True) 1048576) x.2) (fun x l hp h0 h1=>wD hN hp h0 h1) hp h0 h1
 unfold gsz at this;unfold iY;simp only [tP];exact this
theorem sA (N:Nat):∀ k xs ys i,gP N k xs ys i=mw (fun (x:ByteArray × List Int)=>g7 N x.1 x.2) k xs ys i:=by
 intro k
 induction k with
 | zero=>intros;rfl
 | succ k ih=>intro xs ys i;rw [gP,mw];simp only [ih]
theorem uj {N:Nat} {x:List (ByteArray × List Int)} (hN:1073741824≤N) (h:(bP (fun x=>(fun s=>s.size≤1048576) x.1∧(bP (fun _=>True) 1048576) x.2) 1048576) x):iT N x=some x:=by
 have:=tM (b:=40) (z:=((ByteArray.empty,[]):ByteArray × List Int)) (by decide) hN (f:=fun (x:ByteArray × List Int)=>g7 N x.1 x.2) (fun x hx=>vW hN hx) h
 unfold gto at this;unfold iT;simp only [sA];exact this
theorem tV (N:Nat):∀ k xs ys i,gU N k xs ys i=kA (fun (x y:ByteArray × List Int)=>hJ N x.1 x.2 y.1 y.2) k xs ys i:=by
 intro k
 induction k with
 | zero=>intros;rfl
 | succ k ih=>intro xs ys i;rw [gU,kA];simp only [ih]
theorem uB {N:Nat} {x y:List (ByteArray × List Int)} (hN:1073741824≤N) (hx:(bP (fun x=>(fun s=>s.size≤1048576) x.1∧(bP (fun _=>True) 1048576) x.2) 1048576) x) (hy:(bP (fun x=>(fun s=>s.size≤1048576) x.1∧(bP (fun _=>True) 1048576) x.2) 1048576) y):iR N x y=some (decide (x=y)):=by
 have:=sS hN (f:=fun (x y:ByteArray × List Int)=>hJ N x.1 x.2 y.1 y.2) (fun x y hx hy=>wg hN hx hy) hx hy
 unfold geq at this;unfold iR;simp only [tV];exact this
theorem uE {N:Nat} {x:Int × List (ByteArray × List Int) × List Int} {l:Int} (hN:1073741824≤N) (hp:(fun x=>(bP (fun x=>(fun s=>s.size≤9223372036854775807) x.1∧(bP (fun _=>True) 9223372036854775807) x.2) 9223372036854775807) x.2.1∧(bP (fun _=>True) 9223372036854775807) x.2.2) x) (h0:0≤l) (h1:l≤1048576):∃ r,iU N x.1 x.2.1 x.2.2 l=some r∧(0≤r→(fun x=>(bP (fun x=>(fun s=>s.size≤1048576) x.1∧(bP (fun _=>True) 1048576) x.2) 1048576) x.2.1∧(bP (fun _=>True) 1048576) x.2.2) x∧r≤1048576):=by
 unfold iU
 obtain ⟨r0,e0,k0⟩:=uc hN hp.1 (l:=l) (by omega) (by omega)
 rw [e0,bs]
 by_cases hn0:r0<0
 ·rw [decide_eq_true hn0,cond_true];exact ⟨-1,rfl,fun h=>absurd h (by omega)⟩
 rw [decide_eq_false hn0,cond_false]
 have b0:r0≤1048576:=(k0 (by omega)).2
 obtain ⟨r1,e1,k1⟩:=rt hN hp.2 (l:=r0) (by omega) (by omega)
 rw [e1,bs]
 by_cases hn1:r1<0
 ·rw [decide_eq_true hn1,cond_true];exact ⟨-1,rfl,fun h=>absurd h (by omega)⟩
 rw [decide_eq_false hn1,cond_false]
 have b1:r1≤1048576:=(k1 (by omega)).2
 exact ⟨_,rfl,fun _=>⟨⟨(k0 (by omega)).1,(k1 (by omega)).1⟩,b1⟩⟩
theorem ut {N:Nat} {x:Int × List (ByteArray × List Int) × List Int} (hN:1073741824≤N) (h:(fun x=>(bP (fun x=>(fun s=>s.size≤1048576) x.1∧(bP (fun _=>True) 1048576) x.2) 1048576) x.2.1∧(bP (fun _=>True) 1048576) x.2.2) x):gu N x.1 x.2.1 x.2.2=some x:=by
 unfold gu
 rw [uj hN h.1,bs,oS hN h.2,bs]
theorem uR {N:Nat} {x y:Int × List (ByteArray × List Int) × List Int} (hN:1073741824≤N) (hx:(fun x=>(bP (fun x=>(fun s=>s.size≤1048576) x.1∧(bP (fun _=>True) 1048576) x.2) 1048576) x.2.1∧(bP (fun _=>True) 1048576) x.2.2) x) (hy:(fun x=>(bP (fun x=>(fun s=>s.size≤1048576) x.1∧(bP (fun _=>True) 1048576) x.2) 1048576) x.2.1∧(bP (fun _=>True) 1048576) x.2.2) y):iZ N x.1 x.2.1 x.2.2 y.1 y.2.1 y.2.2=some (decide (x=y)):=by
 unfold iZ
 simp only [uB hN hx.1 hy.1,o6 hN hx.2 hy.2,bs,pi,xI]
 obtain ⟨x0,x1,x2⟩:=x
 obtain ⟨y0,y1,y2⟩:=y
 clear hx hy
 by_cases h0:x0=y0 <;> by_cases h1:x1=y1 <;> by_cases h2:x2=y2 <;> simp [h0,h1,h2]
def inR (n lo hi:Int):Bool:=decide (lo≤n)&&decide (n≤hi)
theorem eH (N:Nat) (n lo hi:Int):cH N n lo hi=some (inR n lo hi):=by
 unfold cH inR;cases decide (lo≤n) <;> rfl
theorem d6 (N:Nat) (n lo hi:Int):cx N n lo hi=some (inR n lo hi):=by
 unfold cx inR;cases decide (lo≤n) <;> rfl
theorem cz {n lo hi:Int}:inR n lo hi=true↔lo≤n∧n≤hi:=by unfold inR;simp
def mc (a b:Int):Int:=if a<b then -1 else if b<a then 1 else 0
def xH:List Int→List Int→Int
 | [],[]=>0
 | [],_ :: _=>-1
 | _ :: _,[]=>1
 | a :: xs,b :: ys=>if a<b then -1 else if b<a then 1 else xH xs ys
theorem ii (N:Nat) (a b:Int):eX N a b=some (mc a b):=by
 unfold eX mc
 by_cases h1:a<b
 ·rw [decide_eq_true h1,if_pos h1];rfl
 ·rw [decide_eq_false h1,if_neg h1]
  by_cases h2:b<a
  ·rw [decide_eq_true h2,if_pos h2];rfl
  ·rw [decide_eq_false h2,if_neg h2];rfl
theorem jq {α:Type} {xs:List α} {i:Nat} (h:i<xs.length):xs.drop i=xs[i] :: xs.drop (i+1):=List.drop_eq_getElem_cons h
section
variable {N:Nat} {xs ys:List Int}
def fnd (v:Int):List Int→Int→Int
 | [],_=>-1
 | x :: xs,i=>if x=v then i else fnd v xs (i+1)
def kS (xs:List Int) (v:Int):Int:=fnd v xs 0
theorem qQ (v:Int):∀ (xs:List Int) (i:Nat),(v∉xs∧fnd v xs i=-1)∨∃ j,∃ h:j<xs.length,xs[j]=v∧fnd v xs i=((i+j:Nat):Int)∧v∉xs.take j
 | [],i=>.inl ⟨by simp,rfl⟩
 | x :: xs,i=>by
  unfold fnd
  by_cases h:x=v
  ·rw [if_pos h];exact .inr ⟨0,by simp,by simpa using h,by simp,by simp⟩
  ·rw [if_neg h]
   rcases qQ v xs (i+1) with ⟨h1,h2⟩ | ⟨j,hj,h1,h2,h3⟩
   ·exact .inl ⟨by simp [h1,Ne.symm h],by simpa using h2⟩
   ·exact .inr ⟨j+1,by simpa using hj,by simpa using h1,by rw [show ((i:Int)+1)=((i+1:Nat):Int) by simp,h2];congr 1;omega,by simp [h3,Ne.symm h]⟩
theorem sc (xs:List Int) (v:Int):(v∉xs∧kS xs v=-1)∨∃ j,∃ h:j<xs.length,xs[j]=v∧kS xs v=(j:Int)∧v∉xs.take j:=by
 have:=qQ v xs 0
 simpa [kS] using this
theorem mH (xs:List Int) (v:Int):decide (0≤kS xs v)=decide (v∈xs):=by
 rcases sc xs v with ⟨h1,h2⟩ | ⟨j,hj,h1,h2,_⟩
 ·rw [h2,decide_eq_false (by omega),decide_eq_false h1]
 ·rw [h2,decide_eq_true (by omega),decide_eq_true (h1 ▸ List.getElem_mem hj)]
theorem sm (hN:1073741824≤N) (hx:xs.length≤1048576) (v:Int):iO N xs v=some (kS xs v):=by
 have key:∀ k i,i≤xs.length→xs.length-i<k→∃ s,gT N k v xs (xs.length:Int) (i:Int)=some s∧(match s with | .inl r=>fnd v (xs.drop i) i=r | .inr _=>fnd v (xs.drop i) i=-1):=by
  intro k
  induction k with
  | zero=>intro i h1 h2;omega
  | succ k ih =>
   intro i h1 h2
   rw [gT]
   by_cases h:i<xs.length
   ·rw [dlt h,cond_true,aV h,bs,jq h,fnd]
    by_cases he:xs[i]=v
    ·rw [show (xs[i] == v)=true by simpa using he,cond_true,if_pos he];exact ⟨_,rfl,rfl⟩
    ·rw [show (xs[i] == v)=false by simpa using he,cond_false,if_neg he,ad1 (by omega),bs]
     have:=ih (i+1) (by omega) (by omega)
     simpa using this
   ·rw [dge h,cond_false,List.drop_of_length_le (by omega)];exact ⟨_,rfl,rfl⟩
 obtain ⟨s,h1,h2⟩:=key N 0 (by omega) (by omega)
 unfold iO kS
 rw [show ((0:Int))=((0:Nat):Int) from rfl,h1,bs]
 simp only [List.drop_zero] at h2
 cases s with
 | inl r=>rw [h2];rfl
 | inr r=>rw [h2];rfl
theorem sX (hN:1073741824≤N) (hx:xs.length≤1048576) (v:Int):jj N xs v=some (kS xs v):=by
 have key:∀ k i,i≤xs.length→xs.length-i<k→∃ s,ik N k xs v (i:Int)=some s∧(match s with | .inl r=>fnd v (xs.drop i) i=r | .inr _=>fnd v (xs.drop i) i=-1):=by
  intro k
  induction k with
  | zero=>intro i h1 h2;omega
  | succ k ih =>
   intro i h1 h2
   rw [ik]
   by_cases h:i<xs.length
   ·rw [dlt h,cond_true,aV h,bs,jq h,fnd]
    by_cases he:xs[i]=v
    ·rw [show (xs[i] == v)=true by simpa using he,cond_true,if_pos he];exact ⟨_,rfl,rfl⟩
    ·rw [show (xs[i] == v)=false by simpa using he,cond_false,if_neg he,ad1 (by omega),bs]
     have:=ih (i+1) (by omega) (by omega)
     simpa using this
   ·rw [dge h,cond_false,List.drop_of_length_le (by omega)];exact ⟨_,rfl,rfl⟩
 obtain ⟨s,h1,h2⟩:=key N 0 (by omega) (by omega)
 unfold jj kS
 rw [show ((0:Int))=((0:Nat):Int) from rfl,h1,bs]
 simp only [List.drop_zero] at h2
 cases s with
 | inl r=>rw [h2];rfl
 | inr r=>rw [h2];rfl
theorem pA (hN:1073741824≤N) (hx:xs.length≤1048576) (v:Int):iG N xs v=some (decide (v∈xs)):=by
 unfold iG;rw [sm hN hx,bs,mH]
def kP (xs:List Int):Bool:=xs.all fun x=>inR x 0 99
def asc:List Int→Bool
 | []=>true
 | [_]=>true
 | x :: y :: t=>decide (x<y)&&asc (y :: t)
def i5 (xs:List Int) (n:Int):Bool:=(List.range' 0 xs.length).all fun i=>inR (xs.getD i 0) 0 (n-1)&&!decide (xs.getD i 0∈xs.take i)
theorem eJ {xs:List Int} {i:Nat} (h:i<xs.length):xs.getD i 0=xs[i]:=by simp [h]
theorem rT (hN:1073741824≤N) (hx:xs.length≤1048576) {n:Int} (hn:-1099511627776≤n∧n≤1099511627776):iQ N xs n=some (i5 xs n):=by
 have:=mP (L:=fun k i=>eM N k xs n xs (xs.length:Int) i) xs.length (by omega) false (fun i=>inR (xs.getD i 0) 0 (n-1)&&!decide (xs.getD i 0∈xs.take i)) (xs.length:Int)
  (fun k i h=>by
   show eM N (k+1) xs n xs _ (i:Int)=_
   rw [eM,dlt h,cond_true,aV h,bs,fj (by omega) (by omega),bs,eH,bs,show ((0:Int))=((0:Nat):Int) from rfl,mv (Nat.zero_le _) (by omega),bs,List.drop_zero,pA hN (by simp;omega),bs,ad1 (by omega),bs]
   simp only [show ((0:Nat):Int)=0 from rfl,eJ h]
   cases inR xs[i] 0 (n-1)
   ·rfl
   ·cases decide (xs[i]∈xs.take i) <;> rfl)
  (fun k=>by
   show eM N (k+1) xs n xs _ (xs.length:Int)=_
   rw [eM,dge (by omega),cond_false]) N 0 (by omega) (by omega)
 unfold iQ i5
 rw [show ((0:Int))=((0:Nat):Int) from rfl,this,bs,Nat.sub_zero]
 simp only [show ((0:Nat):Int)=0 from rfl]
 cases (List.range' 0 xs.length).all fun i=>inR (xs.getD i 0) 0 (n-1)&&!decide (xs.getD i 0∈xs.take i) <;> rfl
end
abbrev okI (xs:List Int):Prop:=bP (fun _=>True) 1048576 xs
def y6 (n:Int) (rows:List (List Int)) (i:Nat):Bool :=
 decide (((rows.getD i []).length:Int)=n)&&kP (rows.getD i [])&&(Nat.beq i 0||decide (xH (rows.getD (i-1) []) (rows.getD i [])<0))
def td (n:Int) (rows:List (List Int)):Bool:=inR n 0 5&&decide ((rows.length:Int)≤4000)&&(List.range' 0 rows.length).all (y6 n rows)
section
variable {N:Nat}
theorem pW {a b:Int} (h:b≠0):rm a b=some (a.tmod b):=by unfold rm;rw [if_pos h]
theorem wr {a b:Int} (ha:0≤a) (hb:0<b):0≤a.tmod b∧a.tmod b<b:=⟨Int.tmod_nonneg _ ha,Int.tmod_lt_of_pos _ hb⟩
end
abbrev iu:=List Int × List Int
def uh (far:List Int) (i:Nat) (ch:List Int) (j:Nat):Bool:=inR (ch.getD j 0) 0 ((i:Int)-1)&&decide (far.getD (ch.getD j 0).toNat 0=far.getD (ch.getD 0 0).toNat 0)
def rD (nodes:List iu) (i:Nat) (x:iu):Bool:=((nodes.take i).drop 1).all fun m=>!decide (m=x)
def vn (nodes:List iu) (olen:Nat) (far:List Int) (i:Nat) (x:iu):Option Int :=
 bif decide (x.1.length=x.2.length)&&kP x.1&&asc x.1 then
  bif decide (x.1.length=0) then (bif decide (i+1=nodes.length) then some (olen:Int) else none)
  else bif (List.range' 0 x.2.length).all (uh far i x.2)&&rD nodes i x then some (far.getD (x.2.getD 0 0).toNat 0+1) else none
 else none
end Go.Proofs.YtijmbnbnojicjaaDoor
