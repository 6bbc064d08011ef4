/- A small separation logic over the model: how lists, rows and structs of Go read in memory ('Rep'), what a call owns ('Sat'), and the laws of the walk for them. Program-independent. -/
import Derived.WalkKit
import Derived.ProofKit
import Derived.WalkLawsBesides
import Derived.Outline
import Derived.Lib.Hide
import Derived.Deep.Quiet
import Derived.Deep.LoopGhost
import Derived.IntWalk
import Derived.Test.YteclnomffokpoaaGreatRows
import Derived.OpenShut
import Derived.Lib.SmallJoins
import Derived.Laws.BytesString
namespace Go.Proofs.YteclnomffokpoaaGreat
open Go.RowKit
abbrev Ext (w w':World):Prop:=Below w.heap.size w w'

theorem Ext.refl (w:World):Ext w w:=Below.refl _ _
theorem Ext.trans {a b c:World} (h:Ext a b) (k:Ext b c):Ext a c:=Below.trans h (k.mono h.size)
theorem Below.andExt {B:Nat} {a b c:World} (h:Below B a b) (hB:B≤b.heap.size) (k:Ext b c):Below B a c:=Below.trans h (k.mono hB)

structure Chg (fp:List Nat) (w w':World):Prop where
 os:w'.os=w.os
 tape:w'.tape=w.tape
 output:w'.output=w.output
 size:w.heap.size≤w'.heap.size
 block:∀ k,k<w.heap.size→k∉fp→w'.heap[k]? = w.heap[k]?

theorem Chg.of_ext {w w':World} (h:Ext w w') (fp:List Nat):Chg fp w w':=⟨h.os,h.tape,h.output,h.size,fun k hk _=>h.block k hk⟩
theorem Chg.trans {fp:List Nat} {a b c:World} (h:Chg fp a b) (k:Chg fp b c):Chg fp a c :=
 ⟨k.os.trans h.os,k.tape.trans h.tape,k.output.trans h.output,Nat.le_trans h.size k.size,fun i hi hn=>(k.block i (Nat.lt_of_lt_of_le hi h.size) hn).trans (h.block i hi hn)⟩
theorem Chg.mono {fp fp':List Nat} {a b:World} (h:Chg fp a b) (hs:∀ x∈fp,x∈fp'):Chg fp' a b :=
 ⟨h.os,h.tape,h.output,h.size,fun k hk hn=>h.block k hk (fun hm=>hn (hs k hm))⟩
theorem Chg.ext {a b:World} (h:Chg [] a b):Ext a b:=⟨h.os,h.tape,h.output,h.size,fun k hk=>h.block k hk (by simp)⟩
theorem Chg.refl (fp:List Nat) (w:World):Chg fp w w:=⟨rfl,rfl,rfl,Nat.le_refl _,fun _ _ _=>rfl⟩
theorem Chg.alloc (w:World) (o:Obj):Chg [] w (w.alloc o):=Chg.of_ext ((Below.refl _ _).alloc (Nat.le_refl _) o) _

theorem v8 {B:Nat} {a b c:World} {fp:List Nat} (h:Below B a b) (hB:B≤b.heap.size) (k:Chg fp b c) (hf:∀ x∈fp,B≤x):Below B a c :=
  ⟨k.os.trans h.os,k.tape.trans h.tape,k.output.trans h.output,Nat.le_trans h.size k.size,
   fun i hi=>(k.block i (Nat.lt_of_lt_of_le hi hB) (fun hm=>by have:=hf i hm;omega)).trans (h.block i hi)⟩

structure Rep (α:Type) where
 sz:Nat
 rd:World→List Value→α→Prop
 own:World→List Value→α→List Nat→Prop
 rd_len:∀ {w cs x},rd w cs x→cs.length=sz
 rd_one:∀ {w cs x},rd w cs x→∀ c∈cs,c.oneCell'=true
 rd_ext:∀ {w w' cs x},rd w cs x→Ext w w'→rd w' cs x
 own_rd:∀ {w cs x fp},own w cs x fp→rd w cs x
 own_ext:∀ {w w' cs x fp},own w cs x fp→(∀ b∈fp,w'.heap[b]? = w.heap[b]?)→own w' cs x fp
 own_lt:∀ {w cs x fp},own w cs x fp→∀ b∈fp,b<w.heap.size

def bj:Rep Int where
 sz:=1
 rd _ cs n:=cs=[.int .i64 n]
 own _ cs n fp:=cs=[.int .i64 n]∧fp=[]
 rd_len h:=by subst h;rfl
 rd_one h:=by subst h;simp [Value.oneCell']
 rd_ext h _:=h
 own_rd h:=h.1
 own_ext h _:=h
 own_lt h:=by rw [h.2];simp

def eX:Rep ByteArray where
 sz:=1
 rd _ cs s:=cs=[.string s]∧s.size≤9223372036854775807
 own _ cs s fp:=(cs=[.string s]∧s.size≤9223372036854775807)∧fp=[]
 rd_len h:=by rw [h.1];rfl
 rd_one h:=by rw [h.1];simp [Value.oneCell']
 rd_ext h _:=h
 own_rd h:=h.1
 own_ext h _:=h
 own_lt h:=by rw [h.2];simp

def cx {α β:Type} (R:Rep α) (S:Rep β):Rep (α × β) where
 sz:=R.sz+S.sz
 rd w cs x:=∃ c1 c2,cs=c1++c2∧R.rd w c1 x.1∧S.rd w c2 x.2
 own w cs x fp:=∃ c1 c2 f1 f2,cs=c1++c2∧fp=f1++f2∧R.own w c1 x.1 f1∧S.own w c2 x.2 f2
 rd_len h:=by obtain ⟨c1,c2,rfl,h1,h2⟩:=h;rw [List.length_append,R.rd_len h1,S.rd_len h2]
 rd_one h:=by
  obtain ⟨c1,c2,rfl,h1,h2⟩:=h
  intro c hc
  rcases List.mem_append.1 hc with h | h
  ·exact R.rd_one h1 c h
  ·exact S.rd_one h2 c h
 rd_ext h he:=by obtain ⟨c1,c2,rfl,h1,h2⟩:=h;exact ⟨c1,c2,rfl,R.rd_ext h1 he,S.rd_ext h2 he⟩
 own_rd h:=by obtain ⟨c1,c2,f1,f2,rfl,rfl,h1,h2⟩:=h;exact ⟨c1,c2,rfl,R.own_rd h1,S.own_rd h2⟩
 own_ext h he:=by
  obtain ⟨c1,c2,f1,f2,rfl,rfl,h1,h2⟩:=h
  exact ⟨c1,c2,f1,f2,rfl,rfl,R.own_ext h1 (fun b hb=>he b (List.mem_append_left _ hb)),S.own_ext h2 (fun b hb=>he b (List.mem_append_right _ hb))⟩
 own_lt h:=by
  obtain ⟨c1,c2,f1,f2,rfl,rfl,h1,h2⟩:=h
  intro b hb
  rcases List.mem_append.1 hb with h | h
  ·exact R.own_lt h1 b h
  ·exact S.own_lt h2 b h

def mg (w:World) (ao:Option Addr) (ccs:List Value):Prop :=
 ccs=[]∨∃ b off,ao=some ⟨b,off,none⟩∧∀ j c,ccs[j]? = some c→w.cell? ⟨b,off+j,none⟩=some c

section
variable {α:Type} (R:Rep α)
def rdL (w:World):List Value→List α→Prop
 | ccs,[]=>ccs=[]
 | ccs,x :: xs=>∃ ec rest,ccs=ec++rest∧R.rd w ec x∧rdL w rest xs
def eW (w:World):List Value→List α→List Nat→Prop
 | ccs,[],fp=>ccs=[]∧fp=[]
 | ccs,x :: xs,fp=>∃ ec rest f1 f2,ccs=ec++rest∧fp=f1++f2∧R.own w ec x f1∧eW w rest xs f2
variable {R}
theorem gP {w:World}:∀ {xs:List α} {ccs:List Value},rdL R w ccs xs→ccs.length=xs.length*R.sz
 | [],_,h=>by simp only [rdL] at h;subst h;simp
 | x :: xs,_,h=>by
  obtain ⟨ec,rest,rfl,h1,h2⟩:=h
  rw [List.length_append,R.rd_len h1,gP h2,List.length_cons,Nat.add_mul,Nat.one_mul,Nat.add_comm]
theorem ue {w:World}:∀ {xs:List α} {ccs:List Value},rdL R w ccs xs→∀ c∈ccs,c.oneCell'=true
 | [],_,h=>by simp only [rdL] at h;subst h;simp
 | x :: xs,_,h=>by
  obtain ⟨ec,rest,rfl,h1,h2⟩:=h
  intro c hc
  rcases List.mem_append.1 hc with h | h
  ·exact R.rd_one h1 c h
  ·exact ue h2 c h
theorem uh {w w':World} (he:Ext w w'):∀ {xs:List α} {ccs:List Value},rdL R w ccs xs→rdL R w' ccs xs
 | [],_,h=>h
 | x :: xs,_,h=>by
  obtain ⟨ec,rest,rfl,h1,h2⟩:=h
  exact ⟨ec,rest,rfl,R.rd_ext h1 he,uh he h2⟩
theorem f4 {w:World}:∀ {xs:List α} {ccs:List Value} {fp:List Nat},eW R w ccs xs fp→rdL R w ccs xs
 | [],_,_,h=>h.1
 | x :: xs,_,_,h=>by
  obtain ⟨ec,rest,f1,f2,rfl,rfl,h1,h2⟩:=h
  exact ⟨ec,rest,rfl,R.own_rd h1,f4 h2⟩
theorem fc {w w':World}:∀ {xs:List α} {ccs:List Value} {fp:List Nat},eW R w ccs xs fp→(∀ b∈fp,w'.heap[b]? = w.heap[b]?)→eW R w' ccs xs fp
 | [],_,_,h,_=>h
 | x :: xs,_,_,h,he=>by
  obtain ⟨ec,rest,f1,f2,rfl,rfl,h1,h2⟩:=h
  exact ⟨ec,rest,f1,f2,rfl,rfl,R.own_ext h1 (fun b hb=>he b (List.mem_append_left _ hb)),fc h2 (fun b hb=>he b (List.mem_append_right _ hb))⟩
theorem gS {w:World}:∀ {xs:List α} {ccs:List Value} {fp:List Nat},eW R w ccs xs fp→∀ b∈fp,b<w.heap.size
 | [],_,_,h=>by rw [h.2];simp
 | x :: xs,_,_,h=>by
  obtain ⟨ec,rest,f1,f2,rfl,rfl,h1,h2⟩:=h
  intro b hb
  rcases List.mem_append.1 hb with h | h
  ·exact R.own_lt h1 b h
  ·exact gS h2 b h
theorem mw {w:World} {ys:List α} {ccs':List Value} {fp':List Nat} (h':eW R w ccs' ys fp') :
  ∀ {xs:List α} {ccs:List Value} {fp:List Nat},eW R w ccs xs fp→eW R w (ccs++ccs') (xs++ys) (fp++fp')
 | [],_,_,h=>by obtain ⟨rfl,rfl⟩:=h;simpa using h'
 | x :: xs,_,_,h=>by
  obtain ⟨ec,rest,f1,f2,rfl,rfl,h1,h2⟩:=h
  exact ⟨ec,rest++ccs',f1,f2++fp',by simp,by simp,h1,mw h' h2⟩
theorem qP {w:World} {ys:List α} {ccs':List Value} (h':rdL R w ccs' ys) :
  ∀ {xs:List α} {ccs:List Value},rdL R w ccs xs→rdL R w (ccs++ccs') (xs++ys)
 | [],_,h=>by simp only [rdL] at h;subst h;simpa using h'
 | x :: xs,_,h=>by
  obtain ⟨ec,rest,rfl,h1,h2⟩:=h
  exact ⟨ec,rest++ccs',by simp,h1,qP h' h2⟩
theorem mT {w:World}:∀ {xs:List α} {ccs:List Value},rdL R w ccs xs→∀ (i:Nat) (h:i<xs.length),
  ∃ ec,R.rd w ec xs[i]∧∀ j c,ec[j]? = some c→ccs[i*R.sz+j]? = some c
 | [],_,_,i,h=>absurd h (by simp)
 | x :: xs,_,hr,i,h=>by
  obtain ⟨ec,rest,rfl,h1,h2⟩:=hr
  cases i with
  | zero =>
   refine ⟨ec,h1,fun j c hj=>?_⟩
   have hlt:j<ec.length:=(List.getElem?_eq_some_iff.1 hj).1
   rw [Nat.zero_mul,Nat.zero_add,List.getElem?_append_left hlt]
   exact hj
  | succ i =>
   obtain ⟨ec',h3,h4⟩:=mT h2 i (by simpa using h)
   refine ⟨ec',by simpa using h3,fun j c hj=>?_⟩
   have e:(i+1)*R.sz+j=ec.length+(i*R.sz+j):=by rw [R.rd_len h1,Nat.add_mul];omega
   rw [e,List.getElem?_append_right (by omega),Nat.add_sub_cancel_left]
   exact h4 j c hj
theorem ll {w:World}:∀ (k:Nat) {xs:List α} {ccs:List Value},rdL R w ccs xs→rdL R w (ccs.take (k*R.sz)) (xs.take k)∧rdL R w (ccs.drop (k*R.sz)) (xs.drop k)
 | 0,xs,ccs,h=>by simp [rdL];simpa using h
 | k+1,[],ccs,h=>by simp only [rdL] at h;subst h;simp [rdL]
 | k+1,x :: xs,ccs,h=>by
  obtain ⟨ec,rest,rfl,h1,h2⟩:=h
  obtain ⟨i1,i2⟩:=ll k h2
  have e:(k+1)*R.sz=ec.length+k*R.sz:=by rw [R.rd_len h1,Nat.add_mul];omega
  constructor
  ·refine ⟨ec,rest.take (k*R.sz),?_,h1,i1⟩
   rw [e,List.take_append,List.take_of_length_le (by omega),Nat.add_sub_cancel_left]
  ·rw [e,List.drop_append,List.drop_of_length_le (by omega),Nat.add_sub_cancel_left]
   simpa using i2
end

def aq {α:Type} (R:Rep α) (E:TypeId):Rep (List α) where
 sz:=1
 rd w cs xs:=∃ ao cap ccs,cs=[.slice ao xs.length cap]∧xs.length≤cap∧cap≤maxLen∧(ao=none→cap=0)∧rdL R w ccs xs∧mg w ao ccs
 own w cs xs fp:=(cs=[.slice none 0 0]∧xs=[]∧fp=[]) ∨
  ∃ g cap cur ccs f2,cs=[.slice (some ⟨g,0,none⟩) xs.length cap]∧w.heap[g]? = some (.cells cur E (0,0))∧xs.length≤cap∧cap≤maxLen∧cur.size=cap*R.sz ∧
   cur.toList.take (xs.length*R.sz)=ccs∧eW R w ccs xs f2∧fp=g :: f2
 rd_len h:=by obtain ⟨_,_,_,rfl,_⟩:=h;rfl
 rd_one h:=by obtain ⟨_,_,_,rfl,_⟩:=h;simp [Value.oneCell']
 rd_ext h he:=by
  obtain ⟨ao,cap,ccs,rfl,h1,h2,h3,h4,h5⟩:=h
  refine ⟨ao,cap,ccs,rfl,h1,h2,h3,uh he h4,?_⟩
  rcases h5 with h5 | ⟨b,off,rfl,h5⟩
  ·exact .inl h5
  ·exact .inr ⟨b,off,rfl,fun j c hj=>by have:=h5 j c hj;rw [he.cell (block_lt_of_cell this)];exact this⟩
 own_rd h:=by
  rcases h with ⟨rfl,rfl,rfl⟩ | ⟨g,cap,cur,ccs,f2,rfl,hg,h1,h2,h3,h4,h5,rfl⟩
  ·exact ⟨none,0,[],rfl,Nat.le_refl _,Nat.zero_le _,fun _=>rfl,rfl,.inl rfl⟩
  ·refine ⟨_,cap,ccs,rfl,h1,h2,by simp,f4 h5,.inr ⟨g,0,rfl,fun j c hj=>?_⟩⟩
   rw [Nat.zero_add,cell_of_row _ g j cur E (0,0) hg,← Array.getElem?_toList]
   rw [← h4,List.getElem?_take] at hj
   split at hj
   ·exact hj
   ·cases hj
 own_ext h he:=by
  rcases h with h | ⟨g,cap,cur,ccs,f2,rfl,hg,h1,h2,h3,h4,h5,rfl⟩
  ·exact .inl h
  ·exact .inr ⟨g,cap,cur,ccs,f2,rfl,by rw [he g (by simp)];exact hg,h1,h2,h3,h4,fc h5 (fun b hb=>he b (by simp [hb])),rfl⟩
 own_lt h:=by
  rcases h with ⟨_,_,rfl⟩ | ⟨g,cap,cur,ccs,f2,rfl,hg,h1,h2,h3,h4,h5,rfl⟩
  ·simp
  ·intro b hb
   rcases List.mem_cons.1 hb with rfl | hb
   ·exact (Array.getElem?_eq_some_iff.1 hg).1
   ·exact gS h5 b hb

structure Asn where
 holds:World→List Nat→Prop
 ext:∀ {w w' fp},holds w fp→(∀ b∈fp,w'.heap[b]? = w.heap[b]?)→holds w' fp
 lt:∀ {w fp},holds w fp→∀ b∈fp,b<w.heap.size

def Own {α:Type} (R:Rep α) (cs:List Value) (x:α):Asn:=⟨fun w fp=>R.own w cs x fp,R.own_ext,R.own_lt⟩
def Box (b:Nat) (E:TypeId) (cs:List Value):Asn where
 holds w fp:=fp=[b]∧w.heap[b]? = some (.cells cs.toArray E (0,0))
 ext h he:=by obtain ⟨rfl,h⟩:=h;exact ⟨rfl,by rw [he b (by simp)];exact h⟩
 lt h:=by obtain ⟨rfl,h⟩:=h;intro b' hb;simp at hb;subst hb;exact (Array.getElem?_eq_some_iff.1 h).1

def ii (w:World):List Asn→List Nat→Prop
 | [],fp=>fp=[]
 | A :: Γ,fp=>∃ f1 f2,fp=f1++f2∧A.holds w f1∧ii w Γ f2

structure Sat (w0 w:World) (Γ:List Asn):Prop where
 below:Below w0.heap.size w0 w
 sat:∃ fp,ii w Γ fp∧fp.Nodup∧∀ b∈fp,w0.heap.size≤b

theorem ii.ext {w w':World}:∀ {Γ:List Asn} {fp:List Nat},ii w Γ fp→(∀ b∈fp,w'.heap[b]? = w.heap[b]?)→ii w' Γ fp
 | [],_,h,_=>h
 | A :: Γ,_,h,he=>by
  obtain ⟨f1,f2,rfl,h1,h2⟩:=h
  exact ⟨f1,f2,rfl,A.ext h1 (fun b hb=>he b (List.mem_append_left _ hb)),ii.ext h2 (fun b hb=>he b (List.mem_append_right _ hb))⟩
theorem ii.lt {w:World}:∀ {Γ:List Asn} {fp:List Nat},ii w Γ fp→∀ b∈fp,b<w.heap.size
 | [],_,h=>by simp only [ii] at h;subst h;simp
 | A :: Γ,_,h=>by
  obtain ⟨f1,f2,rfl,h1,h2⟩:=h
  intro b hb
  rcases List.mem_append.1 hb with h | h
  ·exact A.lt h1 b h
  ·exact ii.lt h2 b h
theorem ii.append {w:World} {Δ:List Asn} {g:List Nat} (k:ii w Δ g):∀ {Γ:List Asn} {fp:List Nat},ii w Γ fp→ii w (Γ++Δ) (fp++g)
 | [],_,h=>by simp only [ii] at h;subst h;simpa using k
 | A :: Γ,_,h=>by
  obtain ⟨f1,f2,rfl,h1,h2⟩:=h
  exact ⟨f1,f2++g,by simp,h1,ii.append k h2⟩
theorem ii.perm {w:World} {Γ Δ:List Asn} (hp:Γ.Perm Δ):∀ {fp:List Nat},ii w Γ fp→∃ fp',fp.Perm fp'∧ii w Δ fp':=by
 induction hp with
 | nil=>intro fp h;exact ⟨fp,.refl _,h⟩
 | cons A _ ih =>
  rintro _ ⟨f1,f2,rfl,h1,h2⟩
  obtain ⟨f2',p,h2'⟩:=ih h2
  exact ⟨f1++f2',List.Perm.append_left _ p,f1,f2',rfl,h1,h2'⟩
 | swap A B Γ =>
  rintro _ ⟨f1,_,rfl,h1,f2,f3,rfl,h2,h3⟩
  refine ⟨f2++(f1++f3),?_,f2,f1++f3,rfl,h2,f1,f3,rfl,h1,h3⟩
  rw [← List.append_assoc,← List.append_assoc]
  exact List.Perm.append_right _ List.perm_append_comm
 | trans _ _ ih1 ih2 =>
  intro fp h
  obtain ⟨f1,p1,h1⟩:=ih1 h
  obtain ⟨f2,p2,h2⟩:=ih2 h1
  exact ⟨f2,p1.trans p2,h2⟩

theorem Sat.start (w:World):Sat w w []:=⟨Below.refl _ _,[],rfl,by simp,by simp⟩
theorem Sat.le {w0 w:World} {Γ:List Asn} (h:Sat w0 w Γ):w0.heap.size≤w.heap.size:=h.below.size
theorem Sat.ext {w0 w w':World} {Γ:List Asn} (h:Sat w0 w Γ) (he:Ext w w'):Sat w0 w' Γ:=by
 obtain ⟨hb,fp,h1,h2,h3⟩:=h
 exact ⟨Below.andExt hb hb.size he,fp,h1.ext (fun b hb'=>he.block b (h1.lt b hb')),h2,h3⟩
theorem Sat.call {w0 w w':World} {Γ Δ:List Asn} (h:Sat w0 w Γ) (k:Sat w w' Δ):Sat w0 w' (Δ++Γ):=by
 obtain ⟨hb,fp,h1,h2,h3⟩:=h
 obtain ⟨kb,fk,k1,k2,k3⟩:=k
 refine ⟨Below.andExt hb hb.size kb,fk++fp,ii.append (h1.ext (fun b hb'=>kb.block b (h1.lt b hb'))) k1,?_,?_⟩
 ·rw [List.nodup_append]
  exact ⟨k2,h2,fun a ha b hb' e=>by have:=k3 a ha;have:=h1.lt b hb';omega⟩
 ·intro b hb'
  rcases List.mem_append.1 hb' with h | h
  ·have:=k3 b h;have:=hb.size;omega
  ·exact h3 b h
theorem Sat.call1 {w0 w w':World} {Γ:List Asn} {A:Asn} (h:Sat w0 w Γ) (k:Sat w w' [A]):Sat w0 w' (A :: Γ):=h.call k
theorem Sat.call2 {w0 w w':World} {Γ:List Asn} {A B:Asn} (h:Sat w0 w Γ) (k:Sat w w' [A,B]):Sat w0 w' (A :: B :: Γ):=h.call k
theorem Sat.perm {w0 w:World} {Γ Δ:List Asn} (h:Sat w0 w Γ) (hp:Γ.Perm Δ):Sat w0 w Δ:=by
 obtain ⟨hb,fp,h1,h2,h3⟩:=h
 obtain ⟨fp',p,h1'⟩:=ii.perm hp h1
 exact ⟨hb,fp',h1',p.nodup_iff.1 h2,fun b hb'=>h3 b (p.mem_iff.2 hb')⟩
theorem Sat.tail {w0 w:World} {A:Asn} {Γ:List Asn} (h:Sat w0 w (A :: Γ)):Sat w0 w Γ:=by
 obtain ⟨hb,_,⟨f1,f2,rfl,_,h2⟩,hn,h3⟩:=h
 exact ⟨hb,f2,h2,(List.nodup_append.1 hn).2.1,fun b hb'=>h3 b (List.mem_append_right _ hb')⟩
theorem Sat.head {w0 w:World} {A:Asn} {Γ:List Asn} (h:Sat w0 w (A :: Γ)):∃ fp,A.holds w fp∧fp.Nodup∧∀ b∈fp,w0.heap.size≤b:=by
 obtain ⟨_,_,⟨f1,f2,rfl,h1,_⟩,hn,h3⟩:=h
 exact ⟨f1,h1,(List.nodup_append.1 hn).1,fun b hb'=>h3 b (List.mem_append_left _ hb')⟩
theorem Sat.take {w0 w:World} {Γ:List Asn} (h:Sat w0 w Γ) (Δ Θ:List Asn) (hp:Γ.Perm (Δ++Θ)):Sat w0 w Δ:=by
 have h':=h.perm (hp.trans List.perm_append_comm)
 clear h hp
 induction Θ with
 | nil=>simpa using h'
 | cons A Θ ih=>exact ih h'.tail
theorem Sat.upd {w0 w w':World} {A B:Asn} {Γ:List Asn} (h:Sat w0 w (A :: Γ))
  (k:∀ fp,A.holds w fp→fp.Nodup→∃ fp',B.holds w' fp'∧fp'.Nodup∧Chg fp w w'∧∀ b∈fp',b∈fp∨w.heap.size≤b):Sat w0 w' (B :: Γ):=by
 obtain ⟨hb,_,⟨f1,f2,rfl,h1,h2⟩,hn,h3⟩:=h
 obtain ⟨n1,n2,n3⟩:=List.nodup_append.1 hn
 obtain ⟨f1',k1,k2,k3,k4⟩:=k f1 h1 n1
 refine ⟨v8 hb hb.size k3 (fun x hx=>h3 x (List.mem_append_left _ hx)),f1'++f2,⟨f1',f2,rfl,k1,h2.ext (fun b hb'=>k3.block b (h2.lt b hb') (fun hm=>n3 b hm b hb' rfl))⟩,?_,?_⟩
 ·rw [List.nodup_append]
  refine ⟨k2,n2,fun a ha b hb' e=>?_⟩
  subst e
  rcases k4 a ha with h | h
  ·exact n3 a h a hb' rfl
  ·have:=h2.lt a hb';omega
 ·intro b hb'
  rcases List.mem_append.1 hb' with h | h
  ·rcases k4 b h with h | h
   ·exact h3 b (List.mem_append_left _ h)
   ·have:=hb.size;omega
  ·exact h3 b (List.mem_append_right _ h)
theorem Sat.join {w0 w:World} {A B C:Asn} {Γ:List Asn} (h:Sat w0 w (A :: B :: Γ)) (k:∀ f g,A.holds w f→B.holds w g→C.holds w (f++g)):Sat w0 w (C :: Γ):=by
 obtain ⟨hb,_,⟨f1,_,rfl,h1,f2,f3,rfl,h2,h4⟩,hn,h3⟩:=h
 exact ⟨hb,(f1++f2)++f3,⟨f1++f2,f3,rfl,k _ _ h1 h2,h4⟩,by simpa using hn,by simpa using h3⟩
theorem Sat.conv {w0 w:World} {A B:Asn} {Γ:List Asn} (h:Sat w0 w (A :: Γ)) (k:∀ f,A.holds w f→B.holds w f):Sat w0 w (B :: Γ):=by
 obtain ⟨hb,_,⟨f1,f2,rfl,h1,h2⟩,hn,h3⟩:=h
 exact ⟨hb,_,⟨f1,f2,rfl,k _ h1,h2⟩,hn,h3⟩
theorem Sat.add {w0 w:World} {A:Asn} {Γ:List Asn} (h:Sat w0 w Γ) (k:A.holds w []):Sat w0 w (A :: Γ):=by
 obtain ⟨hb,fp,h1,h2,h3⟩:=h
 exact ⟨hb,fp,⟨[],fp,rfl,k,h1⟩,h2,h3⟩
theorem Sat.box {w0 w:World} {Γ:List Asn} (h:Sat w0 w Γ) (E:TypeId) (cs:List Value):Sat w0 (w.alloc (.cells cs.toArray E)) (Box w.heap.size E cs :: Γ):=by
 have k:Sat w (w.alloc (.cells cs.toArray E)) [Box w.heap.size E cs] :=
  ⟨(Below.refl _ _).alloc (Nat.le_refl _) _,[w.heap.size],⟨[w.heap.size],[],by simp,⟨rfl,heap_alloc_new w _⟩,rfl⟩,by simp,by simp⟩
 simpa using h.call k
theorem ko (w:World) (o:Obj):Ext w (w.alloc o):=(Below.refl _ _).alloc (Nat.le_refl _) _
theorem Sat.rd {α:Type} {R:Rep α} {w0 w:World} {cs:List Value} {x:α} {Γ:List Asn} (h:Sat w0 w (Own R cs x :: Γ)):R.rd w cs x:=by
 obtain ⟨fp,h,_⟩:=h.head
 exact R.own_rd h

class AtBox (Γ:List Asn) (b:Nat) (E:outParam TypeId) (cs:outParam (List Value)) (rest:outParam (List Asn)):Prop where
 perm:Γ.Perm (Box b E cs :: rest)
instance (Γ:List Asn) (b:Nat) (E:TypeId) (cs:List Value):AtBox (Box b E cs :: Γ) b E cs Γ:=⟨.refl _⟩
instance (A:Asn) (Γ:List Asn) (b:Nat) (E:TypeId) (cs:List Value) (rest:List Asn) [h:AtBox Γ b E cs rest]:AtBox (A :: Γ) b E cs (A :: rest) :=
 ⟨(List.Perm.cons A h.perm).trans (.swap _ _ _)⟩
class AtOwn (Γ:List Asn) (v:Value) (α:outParam Type) (R:outParam (Rep α)) (x:outParam α) (rest:outParam (List Asn)):Prop where
 perm:Γ.Perm (Own R [v] x :: rest)
instance {α:Type} (Γ:List Asn) (v:Value) (R:Rep α) (x:α):AtOwn (Own R [v] x :: Γ) v α R x Γ:=⟨.refl _⟩
instance {α:Type} (A:Asn) (Γ:List Asn) (v:Value) (R:Rep α) (x:α) (rest:List Asn) [h:AtOwn Γ v α R x rest]:AtOwn (A :: Γ) v α R x (A :: rest) :=
 ⟨(List.Perm.cons A h.perm).trans (.swap _ _ _)⟩
theorem Sat.own {α:Type} {R:Rep α} {w0 w:World} {v:Value} {x:α} {Γ rest:List Asn} (h:Sat w0 w Γ) [k:AtOwn Γ v α R x rest]:Sat w0 w (Own R [v] x :: rest):=h.perm k.perm
theorem Sat.read {α:Type} {R:Rep α} {w0 w:World} {v:Value} {x:α} {Γ rest:List Asn} (h:Sat w0 w Γ) [AtOwn Γ v α R x rest]:R.rd w [v] x:=h.own.rd

theorem Sat.keep {w0 w:World} {Γ:List Asn} (n:Nat) (h:Sat w0 w Γ):Sat w0 w (Γ.take n):=h.take (Γ.take n) (Γ.drop n) (by rw [List.take_append_drop])
theorem xn {w:World} {c:Value} {n:Int} (h:bj.rd w [c] n):c=.int .i64 n:=by simpa [bj] using h
theorem lS {α β:Type} {R:Rep α} {S:Rep β} {w:World} {cs:List Value} {x:α × β} (h:(cx R S).rd w cs x):R.rd w (cs.take R.sz) x.1∧S.rd w (cs.drop R.sz) x.2:=by
 obtain ⟨c1,c2,rfl,h1,h2⟩:=h
 have hl:=R.rd_len h1
 rw [← hl,List.take_left' rfl,List.drop_left' rfl]
 exact ⟨h1,h2⟩

class PlainT (P:Program) (t:TypeId):Prop where
 h:∃ d,P.underlying t=some d∧(match d with | .struct _ | .array _ _=>False | _=>True)
class AggT (P:Program) (t:TypeId) (n:outParam Nat):Prop where
 h:∃ d,P.underlying t=some d∧(match d with | .struct _ | .array _ _=>True | _=>False)
 size:(P.info? t).map (·.size)=some n
class SliceT (P:Program) (t:TypeId) (e:outParam TypeId):Prop where
 h:P.underlying t=some (.slice e)
class ElemT (P:Program) (t:TypeId) (z:outParam (List Value)) (n bytes:outParam Nat):Prop where
 h:(P.info? t).map (fun i=>(i.zero.map fun v=>v.cells.toList,i.size,i.bytes))=some (some z,n,bytes)

section laws
variable {P:Program} {ops:Array Oper} {rest:List Oper} {o:Oper} {a:Act} {Q:Exit→Act→World→Prop} {w w0:World} {Γ rΓ:List Asn}

theorem xQ (hg:o.guard=none) {t:TypeId} {x:Operand} (ho:o.op=.box t x) (cs:List Value) (hx:(a.eval x).cells=cs.toArray) (hS:Sat w0 w Γ)
  (hK:∀ w' b,Sat w0 w' (Box b t cs :: Γ)→Ext w w'→wpList P ops Q rest (a.put o.dst (.pointer (some ⟨b,0,none⟩))) w'):wpList P ops Q (o :: rest) a w:=by
 refine wpList_plain hg fun K hK'=>?_
 unfold Oper.wp execOp
 simp only [ho,Instr.box,newVar,newRow,hx,Sem.run_bind,Sem.run_pure,run_newObj,Result.andThen_ok,Oper.upon_value]
 exact hK' _ _ (hK _ _ (hS.box t cs) (ko _ _))

theorem vM (hg:o.guard=none) {t:TypeId} (ho:o.op=.alloc t) {cs:List Value} {n bytes:Nat} [hz:ElemT P t cs n bytes] (hS:Sat w0 w Γ)
  (hK:∀ w' b,Sat w0 w' (Box b t cs :: Γ)→Ext w w'→wpList P ops Q rest (a.put o.dst (.pointer (some ⟨b,0,none⟩))) w'):wpList P ops Q (o :: rest) a w:=by
 refine wpList_plain hg fun K hK'=>?_
 have hz:=hz.h
 cases hi:P.info? t with
 | none=>simp [hi] at hz
 | some i =>
  cases hzz:i.zero with
  | none=>simp [hi,hzz] at hz
  | some z =>
   simp [hi,hzz] at hz
   have hzc:z.cells=cs.toArray:=by rw [← hz.1]
   unfold Oper.wp execOp
   simp only [ho,Instr.alloc,zeroValue,typeInfo,hi,hzz,newVar,newRow,hzc,Sem.run_bind,Sem.run_pure,run_newObj,run_program,Result.andThen_ok,Oper.upon_value]
   exact hK' _ _ (hK _ _ (hS.box t cs) (ko _ _))

theorem pc {t:TypeId} [hT:PlainT P t] {ad:Addr} {c:Value} (hc:w.cell? ad=some c):(loadVar t ad).run P w=.ok c w:=by
 obtain ⟨d,hd,hk⟩:=hT.h
 have hagg:(isAgg t).run P w=.ok false w:=by
  unfold isAgg
  rw [Sem.run_bind,run_underlying hd w]
  cases d <;> simp_all
 simp [loadVar,Sem.run_bind,hagg,hc]

theorem ji {t:TypeId} {n:Nat} [hT:AggT P t n] {b off:Nat} {cs:List Value} (hn:cs.length=n) (hc:∀ j c,cs[j]? = some c→w.cell? ⟨b,off+j,none⟩=some c) :
  (loadVar t ⟨b,off,none⟩).run P w=.ok (.agg cs.toArray) w:=by
 obtain ⟨d,hd,hk⟩:=hT.h
 have hagg:(isAgg t).run P w=.ok true w:=by
  unfold isAgg
  rw [Sem.run_bind,run_underlying hd w]
  cases d <;> simp_all
 have hs:=hT.size
 cases hi:P.info? t with
 | none=>simp [hi] at hs
 | some i =>
  simp [hi] at hs
  have hl:=run_loadCells_list (P:=P) w ⟨b,off,none⟩ cs (fun j c hj=>by rw [Addr.add_lit];exact hc j c hj)
  rw [hn,← hs] at hl
  simp [loadVar,Sem.run_bind,hagg,sizeOf,typeInfo,hi,hl]

theorem Sat.boxCell {b:Nat} {E:TypeId} {cs:List Value} (hS:Sat w0 w Γ) [k:AtBox Γ b E cs rΓ]:∀ j c,cs[j]? = some c→w.cell? ⟨b,j,none⟩=some c:=by
 obtain ⟨fp,⟨_,hh⟩,_⟩:=(hS.perm k.perm).head
 intro j c hj
 rw [cell_of_row w b j _ E (0,0) hh]
 simpa using hj

theorem gX {b:Nat} {E:TypeId}:∀ (vs:List Value) (off i:Nat) (cur:List Value) (w:World),w.heap[b]? = some (.cells cur.toArray E (0,0))→off+i+vs.length≤cur.length→(∀ v∈vs,v.oneCell'=true) →
  ∃ w',(storeCells ⟨b,off,none⟩ vs i).run P w=.ok () w'∧w'.heap[b]? = some (.cells (cur.take (off+i)++vs++cur.drop (off+i+vs.length)).toArray E (0,0))∧Chg [b] w w'
 | [],off,i,cur,w,hb,_,_=>by
  refine ⟨w,rfl,?_,Chg.refl _ _⟩
  rw [hb];simp
 | v :: vs,off,i,cur,w,hb,hl,h1=>by
  simp only [List.length_cons] at hl
  have hi:off+i<cur.length:=by omega
  have hcell:w.cell? ⟨b,off+i,none⟩=some cur[off+i]:=by rw [cell_of_row w b _ _ E (0,0) hb];simp [hi]
  have hfro:w.frozen? ⟨b,off+i,none⟩=false:=frozen_of_row w b _ _ E hb
  have hst:(store ((⟨b,off,none⟩:Addr).add i) v).run P w=.ok () (w.setCell ⟨b,off+i,none⟩ v):=by
   rw [Addr.add_lit,run_store P w _ v _ (h1 v (by simp)),hcell]
   simp [hfro]
  have hb':(w.setCell ⟨b,off+i,none⟩ v).heap[b]? = some (.cells ((cur.set (off+i) v).toArray) E (0,0)):=by
   rw [heap_setCell_same w b (off+i) _ E v hb];simp
  obtain ⟨w',h2,h3,h4⟩:=gX vs off (i+1) (cur.set (off+i) v) _ hb' (by simp;omega) (fun x hx=>h1 x (by simp [hx]))
  refine ⟨w',?_,?_,?_⟩
  ·simp only [storeCells,Sem.run_bind,hst,Result.andThen_ok];exact h2
  ·rw [h3]
   congr 3
   have e1:(cur.set (off+i) v).take (off+(i+1))=cur.take (off+i)++[v]:=by
    rw [show off+(i+1)=(off+i)+1 by omega,List.take_set,List.take_succ_eq_append_getElem hi,List.set_append_right _ _ (by simp;omega)]
    simp [show min (off+i) cur.length=off+i by omega]
   have e2:(cur.set (off+i) v).drop (off+(i+1)+vs.length)=cur.drop (off+i+(v :: vs).length):=by
    rw [List.drop_set_of_lt (by omega)]
    congr 1
    simp only [List.length_cons];omega
   rw [e1,e2];simp
  ·exact Chg.trans (show Chg [b] w (w.setCell ⟨b,off+i,none⟩ v) from ⟨rfl,rfl,rfl,by simp,fun k _ hk=>Below.heap_setCell _ _ _ _ (by simpa using hk)⟩) h4

theorem uZ {t:TypeId} {x y:Operand} (hg:o.guard=none) (ho:o.op=.store t x y) {z:List Value} {n bytes:Nat} [hz:ElemT P t z n bytes] (hS:Sat w0 w Γ) {b j:Nat} (hx:a.eval x=.pointer (some ⟨b,j,none⟩))
  {E:TypeId} {cs:List Value} [k:AtBox Γ b E cs rΓ] (vs:List Value) (hy:(a.eval y).cells=vs.toArray) (hn:vs.length=n) (hl:j+n≤cs.length) (h1:vs.all (·.oneCell')=true)
  (hK:∀ w',Sat w0 w' (Box b E (cs.take j++vs++cs.drop (j+n)) :: rΓ)→wpList P ops Q rest (a.put o.dst undef) w'):wpList P ops Q (o :: rest) a w:=by
 refine wpList_plain hg fun K hK'=>?_
 have hz:=hz.h
 cases hi:P.info? t with
 | none=>simp [hi] at hz
 | some i =>
  simp [hi] at hz
  obtain ⟨fp,⟨_,hh⟩,_⟩:=(hS.perm k.perm).head
  obtain ⟨w',hr,hh',hc⟩:=gX (P:=P) vs j 0 cs w hh (by omega) (by simpa using h1)
  have hsz:¬ (vs.toArray.size≠i.size):=by simp;omega
  unfold Oper.wp execOp
  simp only [ho,hx,Instr.storeAt,Instr.sureAddr,storeVar,sizeOf,typeInfo,hi,hy,Sem.run_bind,Sem.run_pure,run_program,Result.andThen_ok,hsz,if_false,Sem.run_ite,List.toList_toArray,hr,Oper.upon_skip]
  refine hK' _ _ (hK w' ?_)
  refine Sat.upd (hS.perm k.perm) fun fp hfp hnd=>?_
  obtain ⟨rfl,_⟩:=hfp
  refine ⟨[b],⟨rfl,?_⟩,by simp,hc,fun x hx=>.inl hx⟩
  rw [hh']
  simp [hn]
theorem vj {v:Value} (h:v.oneCell'=true):v.cells=[v].toArray:=by cases v <;> first | rfl | simp [Value.oneCell'] at h
end laws

section laws2
variable {P:Program} {ops:Array Oper} {rest:List Oper} {o:Oper} {a:Act} {Q:Exit→Act→World→Prop} {w w0 wA:World} {Γ rΓ:List Asn} {α:Type} {R:Rep α} {E:TypeId}

theorem s4 {w:World} {v:Value} {xs:List α} (h:(aq R E).rd w [v] xs):∃ ao cap,v=.slice ao xs.length cap:=by
 obtain ⟨ao,cap,ccs,hv,_⟩:=h
 exact ⟨ao,cap,by simpa using hv⟩

def nj (R:Rep α) (ccs:List Value) (ys:List α):Asn:=⟨fun w fp=>eW R w ccs ys fp,fun h he=>fc h he,fun h=>gS h⟩
def xa (A B:Asn):Asn where
 holds w fp:=∃ f g,fp=f++g∧A.holds w f∧B.holds w g
 ext h he:=by
  obtain ⟨f,g,rfl,h1,h2⟩:=h
  exact ⟨f,g,rfl,A.ext h1 (fun b hb=>he b (List.mem_append_left _ hb)),B.ext h2 (fun b hb=>he b (List.mem_append_right _ hb))⟩
 lt h:=by
  obtain ⟨f,g,rfl,h1,h2⟩:=h
  intro b hb
  rcases List.mem_append.1 hb with h | h
  ·exact A.lt h1 b h
  ·exact B.lt h2 b h

theorem mU (z:Value) (k:Nat):(Builtin.zeroCells z.cells k).size=k*z.cells.size:=size_zeroCells _ _

theorem tY {w:World} {cur:Array Value} {xs:List α} {ccs:List Value} {f:List Nat} {cap:Nat} (h:eW R w ccs xs f) (hcap:xs.length≤cap) (hm:cap≤maxLen) (hs:cur.size=cap*R.sz)
  (ht:cur.toList.take ccs.length=ccs):(aq R E).own (w.drew.alloc (.cells cur E)) [.slice (some ⟨w.heap.size,0,none⟩) xs.length cap] xs (w.heap.size :: f):=by
 refine .inr ⟨w.heap.size,cap,cur,ccs,f,rfl,heap_alloc_new w.drew _,hcap,hm,hs,by rw [← gP (f4 h)];exact ht,fc h (fun b hb=>?_),rfl⟩
 exact Below.heap_alloc w.drew _ b (gS h b hb)

theorem nS {t ty:TypeId} [ht:SliceT P t E] {z:List Value} {n bytes:Nat} [hz:ElemT P E z n bytes] (hn:R.sz=n) (hpos:0<n) (hzl:z.length=n) (hb0:0<bytes)
  {v:Value} {xs:List α} {f:List Nat} (hv:(aq R E).own w [v] xs f) {ccs:List Value} {ys:List α} {fy:List Nat} (hy:eW R w ccs ys fy) (hnd:(fy++f).Nodup)
  {ao:Option Addr} {c:Nat} (hnone:ao=none→c=0) (hrow:mg w ao ccs) (hby:(xs.length+ys.length)*bytes≤140737488355328) :
  ∃ v' w' f',(Builtin.append_ #[t,t] ty #[v,.slice ao ys.length c]).run P w=.ok v' w'∧(aq R E).own w' [v'] (xs++ys) f'∧f'.Nodup∧Chg (fy++f) w w'∧∀ b∈f',b∈fy++f∨w.heap.size≤b:=by
 have hz:=hz.h
 have hmax:xs.length+ys.length≤140737488355328:=Nat.le_trans (Nat.le_mul_of_pos_right _ hb0) hby
 have hyl:ccs.length=ys.length*R.sz:=gP (f4 hy)
 have hy1:∀ u∈ccs,u.oneCell'=true:=ue (f4 hy)
 cases hi:P.info? E with
 | none=>simp [hi] at hz
 | some i =>
 cases hzz:i.zero with
 | none=>simp [hi,hzz] at hz
 | some zv =>
 simp [hi,hzz] at hz
 obtain ⟨hz1,hz2,hz3⟩:=hz
 have hzs:zv.cells.size=R.sz:=by rw [← Array.length_toList,hz1,hzl,hn]
 have hsz:i.size=R.sz:=by omega
 have hdrew:Chg (fy++f) w w.drew:=⟨rfl,rfl,rfl,Nat.le_refl _,fun _ _ _=>rfl⟩
 have hgrow:∀ cur:Array Value,Chg (fy++f) w (w.drew.alloc (.cells cur E)):=fun cur=>hdrew.trans ((Chg.alloc w.drew _).mono (by simp))
 have hlt:∀ b∈fy++f,b<w.heap.size:=fun b hb=>by
  rcases List.mem_append.1 hb with h | h
  ·exact gS hy b h
  ·exact (aq R E).own_lt hv b h
 obtain ⟨nd1,nd2,nd3⟩:=List.nodup_append.1 hnd
 -- nothing is appended
 by_cases hy0:ys=[]
 ·subst hy0
  have hccs:ccs=[]:=by simp only [eW] at hy;exact hy.1
  have hfy:fy=[]:=by simp only [eW] at hy;exact hy.2
  subst hccs;subst hfy
  refine ⟨v,w,f,?_,by simpa using hv,by simpa using hnd,Chg.refl _ _,fun b hb=>.inl (by simpa using hb)⟩
  rcases hv with ⟨hv,rfl,rfl⟩ | ⟨g,cap,cur,cs,f2,hv,hg,h1,h2,h3,h4,h5,rfl⟩
  ·obtain rfl:v=.slice none 0 0:=by simpa using hv
   cases ao <;> simp [Builtin.append_,run_underlying ht.h,sizeOf,typeInfo,hi,Builtin.lenOf,Builtin.firstCells,loadCells,loadCellsFrom]
  ·obtain rfl:v=.slice (some ⟨g,0,none⟩) xs.length cap:=by simpa using hv
   cases ao <;> simp [Builtin.append_,run_underlying ht.h,sizeOf,typeInfo,hi,Builtin.lenOf,Builtin.firstCells,loadCells,loadCellsFrom,h1,storeCells]
 have hyp:0<ys.length:=List.length_pos_iff.2 hy0
 obtain ⟨b,off,rfl,hcell⟩:∃ b off,ao=some ⟨b,off,none⟩∧∀ j c,ccs[j]? = some c→w.cell? ⟨b,off+j,none⟩=some c:=by
  rcases hrow with rfl | h
  ·exfalso
   have:0<ys.length*R.sz:=Nat.mul_pos hyp (by omega)
   simp at hyl;omega
  ·exact h
 have hnews:∀ j u,ccs[j]? = some u→w.cell? ((⟨b,off,none⟩:Addr).add j)=some u:=fun j u hj=>by rw [Addr.add_lit];exact hcell j u hj
 rcases hv with ⟨hv,rfl,rfl⟩ | ⟨g,cap,cur,cs,f2,hv,hg,h1,h2,h3,h4,h5,rfl⟩
 ·obtain rfl:v=.slice none 0 0:=by simpa using hv
  simp only [List.length_nil,Nat.zero_add] at hby hmax
  have hr:=run_append_nil (P:=P) w t ty E i zv ht.h hi hzz ⟨b,off,none⟩ ys.length c ccs (by rw [hyl,hsz]) hnews hyp (by omega) (by rw [hz3];omega)
  refine ⟨_,_,w.heap.size :: fy,hr,?_,?_,hgrow _,?_⟩
  ·have hge:=grownCap_ge w ys.length 0 E
   rw [List.nil_append]
   refine tY hy hge (grownCap_le_maxLen w ys.length 0 E (by unfold maxLen;omega)) ?_ ?_
   ·rw [Array.size_append,mU,hzs,List.size_toArray,hyl,← Nat.add_mul]
    congr 1;omega
   ·rw [Array.toList_append,List.toList_toArray,List.take_left']
    rfl
  ·refine List.nodup_cons.2 ⟨fun hm=>?_,nd1⟩
   have:=hlt _ (List.mem_append_left _ hm);omega
  ·intro x hx
   rcases List.mem_cons.1 hx with rfl | hx
   ·exact .inr (Nat.le_refl _)
   ·exact .inl (List.mem_append_left _ hx)
 ·obtain rfl:v=.slice (some ⟨g,0,none⟩) xs.length cap:=by simpa using hv
  have hcl:cs.length=xs.length*R.sz:=gP (f4 h5)
  have hfit:xs.length*R.sz≤cur.size:=by rw [h3];exact Nat.mul_le_mul_right _ h1
  obtain ⟨ng,nf2⟩:=List.nodup_cons.1 nd2
  by_cases hroom:xs.length+ys.length≤cap
  ·have hfit2:xs.length*i.size+ccs.length≤cur.size:=by rw [hsz,hyl,h3,← Nat.add_mul];exact Nat.mul_le_mul_right _ hroom
   have hr:=run_append_room (P:=P) w t ty E i ht.h hi g xs.length cap cur hg ⟨b,off,none⟩ ys.length c ccs (by rw [hyl,hsz]) hnews hy1 hroom hfit2
   have hoth:∀ k,k≠g→(w.setRow g (cur.toList.take (xs.length*i.size)++ccs++cur.toList.drop (xs.length*i.size+ccs.length)).toArray).heap[k]? = w.heap[k]?:=fun k hk=>setRow_other w g k _ hk
   refine ⟨_,_,g :: (f2++fy),hr,?_,?_,⟨rfl,rfl,rfl,by simp,fun k _ hk=>hoth k (fun e=>hk (by simp [e]))⟩,?_⟩
   ·rw [show xs.length+ys.length=(xs++ys).length by simp]
    refine .inr ⟨g,cap,_,cs++ccs,f2++fy,rfl,setRow_heap w g cur _ E _ hg,by simpa using hroom,h2,?_,?_,?_,rfl⟩
    ·simp only [List.size_toArray,List.length_append,List.length_take,List.length_drop,Array.length_toList]
     rw [hsz] at hfit2 ⊢
     omega
    ·rw [hsz,h4,List.length_append,Nat.add_mul,← hcl,← hyl,← List.length_append]
     exact List.take_left' rfl
    ·refine mw (fc hy fun x hx=>hoth x fun e=>?_) (fc h5 fun x hx=>hoth x fun e=>?_)
     ·subst e;exact nd3 x hx x (by simp) rfl
     ·subst e;exact ng hx
   ·refine List.nodup_cons.2 ⟨fun hm=>?_,List.nodup_append.2 ⟨nf2,nd1,fun a ha b hb e=>nd3 b hb a (by simp [ha]) e.symm⟩⟩
    rcases List.mem_append.1 hm with h | h
    ·exact ng h
    ·exact nd3 g h g (by simp) rfl
   ·intro x hx
    refine .inl ?_
    simp only [List.mem_cons,List.mem_append] at hx ⊢
    rcases hx with h | h | h <;> simp [h]
  ·have hcells:∀ j u,cs[j]? = some u→w.cell? ((⟨g,0,none⟩:Addr).add j)=some u:=fun j u hj=>by
    rw [Addr.add_lit,Nat.zero_add,cell_of_row w g j cur E (0,0) hg,← Array.getElem?_toList]
    rw [← h4,List.getElem?_take] at hj
    split at hj
    ·exact hj
    ·cases hj
   have hr:=run_append_grow (P:=P) w t ty E i zv ht.h hi hzz ⟨g,0,none⟩ xs.length cap cs (by rw [hcl,hsz]) hcells ⟨b,off,none⟩ ys.length c ccs (by rw [hyl,hsz]) hnews (by omega) (by omega) (growslice_fits (by omega) (by rw [hz3];exact hby))
   refine ⟨_,_,w.heap.size :: (f2++fy),hr,?_,?_,hgrow _,?_⟩
   ·have hge:=grownCap_ge w (xs.length+ys.length) cap E
    rw [show (xs.length+ys.length:Nat)=(xs++ys).length by simp] at hge ⊢
    refine tY (mw hy h5) hge (grownCap_le_maxLen w _ cap E (by unfold maxLen;simp;omega)) ?_ ?_
    ·rw [Array.size_append,Array.size_append,mU,hzs,List.size_toArray,List.size_toArray,hyl,hcl,← Nat.add_mul,← Nat.add_mul]
     congr 1;simp at hge ⊢;omega
    ·rw [Array.toList_append,Array.toList_append,List.toList_toArray,List.toList_toArray,List.take_left']
     rfl
   ·refine List.nodup_cons.2 ⟨fun hm=>?_,List.nodup_append.2 ⟨nf2,nd1,fun a ha b hb e=>nd3 b hb a (by simp [ha]) e.symm⟩⟩
    have:=hlt w.heap.size (by
     rcases List.mem_append.1 hm with h | h
     ·exact List.mem_append_right _ (by simp [h])
     ·exact List.mem_append_left _ h)
    omega
   ·intro x hx
    simp only [List.mem_cons,List.mem_append] at hx ⊢
    rcases hx with h | h | h
    ·exact .inr (by omega)
    ·exact .inl (by simp [h])
    ·exact .inl (by simp [h])

theorem uK (hg:o.guard=none) {t:TypeId} {s x:Operand} (ho:o.op=.call { callee:=.builtin .append,args:=#[s,x],argTypes:=#[t,t] })
  [SliceT P t E] {z:List Value} {n bytes:Nat} [ElemT P E z n bytes] (hn:R.sz=n) (hpos:0<n) (hzl:z.length=n) (hb0:0<bytes)
  {v:Value} {xs:List α} {ccs:List Value} {ys:List α} (hS:Sat w0 w (nj R ccs ys :: Own (aq R E) [v] xs :: Γ)) (hs:a.eval s=v)
  {ao:Option Addr} {m c:Nat} (hx:a.eval x=.slice ao m c) (hm:m=ys.length) (hnone:ao=none→c=0) (hrow:mg w ao ccs) (hby:(xs.length+ys.length)*bytes≤140737488355328)
  (hK:∀ v' w',Sat w0 w' (Own (aq R E) [v'] (xs++ys) :: Γ)→wpList P ops Q rest (a.put o.dst v') w'):wpList P ops Q (o :: rest) a w:=by
 subst hm
 refine wpList_plain hg fun K hK'=>?_
 have hS':Sat w0 w (xa (nj R ccs ys) (Own (aq R E) [v] xs) :: Γ):=hS.join fun f g h1 h2=>⟨f,g,rfl,h1,h2⟩
 obtain ⟨fp,⟨fy,f,rfl,hy,hv⟩,hnd,_⟩:=hS'.head
 obtain ⟨v',w',f',hr,k1,k2,k3,k4⟩:=nS (P:=P) (t:=t) (ty:=o.type) hn hpos hzl hb0 hv hy hnd hnone hrow hby
 unfold Oper.wp execOp
 simp only [ho,resolve,invoke,builtin,Sem.run_bind,Sem.run_pure,Result.andThen_ok,List.map_toArray,List.map_cons,List.map_nil,hs,hx,hr,Oper.upon_value]
 refine hK' _ _ (hK v' w' ?_)
 have hex:∀ fp,(xa (nj R ccs ys) (Own (aq R E) [v] xs)).holds w fp→fp.Nodup→∃ fp',(Own (aq R E) [v'] (xs++ys)).holds w' fp'∧fp'.Nodup∧Chg fp w w'∧∀ b∈fp',b∈fp∨w.heap.size≤b:=by
  rintro _ ⟨gy,g,rfl,hy2,hv2⟩ hnd2
  obtain ⟨v2,w2,f2,hr2,l1,l2,l3,l4⟩:=nS (P:=P) (t:=t) (ty:=o.type) hn hpos hzl hb0 hv2 hy2 hnd2 hnone hrow hby
  rw [hr] at hr2
  obtain ⟨rfl,rfl⟩:v'=v2∧w'=w2:=by simpa using hr2
  exact ⟨f2,l1,l2,l3,l4⟩
 exact hS'.upd hex

theorem nR (z:Array Value) (h:0<z.size):∀ k,(madeCells z (k*z.size)).toList=(List.replicate k z.toList).flatten
 | 0=>by simp [madeCells]
 | k+1=>by
  have ih:=nR z h k
  rw [List.replicate_succ',List.flatten_append,← ih]
  unfold madeCells
  rw [Nat.add_mul,Nat.one_mul]
  simp only [Array.toList_map,Array.toList_range,List.range_add,List.map_append,List.map_map,List.flatten_cons,List.flatten_nil,List.append_nil]
  congr 1
  apply List.ext_getElem
  ·simp
  ·intro j h1 h2
   have hj:j<z.size:=by simpa using h1
   simp only [List.getElem_map,List.getElem_range,Function.comp]
   rw [Nat.mul_add_mod_self_right,Nat.mod_eq_of_lt hj]
   simp [hj]
theorem wz (hg:o.guard=none) {t:TypeId} {l c:Operand} (ho:o.op=.makeSlice t l c) [ht:SliceT P t E] {z:List Value} {n bytes:Nat} [hz:ElemT P E z n bytes] (hn:R.sz=n) (hpos:0<n) (hzl:z.length=n)
  {x0:α} (hx0:∀ w,R.own w z x0 []) {L C:Int} (hl:a.eval l=.int .i64 L) (hc:a.eval c=.int .i64 C) (k:Nat) (hL:L=(k:Int)) (hC:C=(k:Int)) (hby:k*bytes≤281474976710656) (hk:k≤140737488355328) (hS:Sat w0 w Γ)
  (hK:∀ w' g,Sat w0 w' (Own (aq R E) [.slice (some ⟨g,0,none⟩) k k] (List.replicate k x0) :: Γ)→Ext w w'→wpList P ops Q rest (a.put o.dst (.slice (some ⟨g,0,none⟩) k k)) w'):wpList P ops Q (o :: rest) a w:=by
 refine wpList_plain hg fun K hK'=>?_
 have hz:=hz.h
 cases hi:P.info? E with
 | none=>simp [hi] at hz
 | some i =>
 cases hzz:i.zero with
 | none=>simp [hi,hzz] at hz
 | some zv =>
 simp [hi,hzz] at hz
 obtain ⟨hz1,hz2,hz3⟩:=hz
 subst hL;subst hC
 have hr:=run_make (P:=P) w t E i zv ht.h hi hzz .i64 .i64 k k (by omega) (by omega) (by rw [hz3];have:=hby;rw [Nat.mul_comm] at this;omega) (by omega)
 simp only [Int.toNat_natCast] at hr
 unfold Oper.wp execOp
 simp only [ho,hl,hc,Sem.run_bind,hr,Sem.run_pure,Result.andThen_ok,Oper.upon_value]
 have hzs:zv.cells.size=n:=by rw [← Array.length_toList,hz1,hzl]
 have hcur:(madeCells zv.cells (k*i.size)).toList=(List.replicate k z).flatten:=by
  rw [← hz1,hz2,← hzs]
  exact nR _ (by omega) k
 refine hK' _ _ (hK _ _ ?_ (ko _ _))
 have hown:∀ k',eW R (w.alloc (.cells (madeCells zv.cells (k*i.size)) E)) (List.replicate k' z).flatten (List.replicate k' x0) []:=by
  intro k'
  induction k' with
  | zero=>exact ⟨rfl,rfl⟩
  | succ k' ih=>exact ⟨z,_,[],[],by simp [List.replicate_succ],rfl,hx0 _,ih⟩
 have kk:Sat w (w.alloc (.cells (madeCells zv.cells (k*i.size)) E)) [Own (aq R E) [.slice (some ⟨w.heap.size,0,none⟩) k k] (List.replicate k x0)]:=by
  refine ⟨ko _ _,[w.heap.size],⟨[w.heap.size],[],rfl,.inr ⟨w.heap.size,k,_,_,[],by simp,heap_alloc_new w _,by simp,by unfold maxLen;omega,?_,rfl,?_,rfl⟩,rfl⟩,by simp,by simp⟩
  ·rw [← Array.length_toList,hcur];simp [hzl,hn]
  ·rw [hcur,List.take_of_length_le (by simp [hzl,hn])]
   exact hown k
 simpa using hS.call kk

theorem vX {v:Value} {xs:List α} {fp:List Nat} (h:(aq R E).own w [v] xs fp):(v=.slice none 0 0∧xs=[])∨∃ g cap,v=.slice (some ⟨g,0,none⟩) xs.length cap:=by
 rcases h with ⟨h,h2,_⟩ | ⟨g,cap,_,_,_,h,_⟩
 ·exact .inl ⟨by simpa using h,h2⟩
 ·exact .inr ⟨g,cap,by simpa using h⟩
theorem Sat.shape {v:Value} {xs:List α} (h:Sat w0 w (Own (aq R E) [v] xs :: Γ)):(v=.slice none 0 0∧xs=[])∨∃ g cap,v=.slice (some ⟨g,0,none⟩) xs.length cap:=by
 obtain ⟨fp,h,_⟩:=h.head
 exact vX h

theorem s8 {w:World}:∀ {xs:List α} {ccs:List Value} {fp:List Nat},eW R w ccs xs fp→∀ (k:Nat) (_:k<xs.length) {ec:List Value} {y:α} {fy:List Nat},R.own w ec y fy →
  ∃ fl fk fr,fp=fl++fk++fr∧eW R w (ccs.take (k*R.sz)++ec++ccs.drop (k*R.sz+R.sz)) (xs.set k y) (fl++fy++fr)
 | [],_,_,_,k,hk,_,_,_,_=>absurd hk (by simp)
 | x :: xs,_,_,h,0,_,ec,y,fy,hy=>by
  obtain ⟨e0,rest,f1,f2,rfl,rfl,h1,h2⟩:=h
  refine ⟨[],f1,f2,by simp,ec,rest,fy,f2,?_,by simp,hy,h2⟩
  have:=R.rd_len (R.own_rd h1)
  simp [← this]
 | x :: xs,_,_,h,k+1,hk,ec,y,fy,hy=>by
  obtain ⟨e0,rest,f1,f2,rfl,rfl,h1,h2⟩:=h
  obtain ⟨fl,fk,fr,rfl,h3⟩:=s8 h2 k (by simpa using hk) hy
  refine ⟨f1++fl,fk,fr,by simp,e0,_,f1,fl++fy++fr,?_,by simp,h1,h3⟩
  have hl:=R.rd_len (R.own_rd h1)
  have e:(k+1)*R.sz=e0.length+k*R.sz:=by rw [hl,Nat.add_mul];omega
  rw [e,List.take_append,List.take_of_length_le (by omega),Nat.add_sub_cancel_left,show e0.length+k*R.sz+R.sz=e0.length+(k*R.sz+R.sz) by omega,List.drop_append,List.drop_of_length_le (by omega),Nat.add_sub_cancel_left]
  simp

theorem px (L ec:List Value) (p s N:Nat) (h1:p+s≤N) (h2:N≤L.length) (h3:ec.length=s):(L.take (p+0)++ec++L.drop (p+0+s)).take N=(L.take N).take p++ec++(L.take N).drop (p+s):=by
 rw [Nat.add_zero,List.take_append,List.take_of_length_le (by simp;omega),List.take_take,Nat.min_eq_left (by omega:p≤N),List.drop_take]
 congr 2
 simp;omega
theorem uV {t:TypeId} {x y:Operand} (hg:o.guard=none) (ho:o.op=.store t x y) {z:List Value} {n bytes:Nat} [hz:ElemT P t z n bytes] (hn:R.sz=n) {ec:List Value} {yv:α} {xs:List α} {g m cap:Nat}
  (hS:Sat w0 w (Own R ec yv :: Own (aq R E) [.slice (some ⟨g,0,none⟩) m cap] xs :: Γ)) (k off:Nat) (hk:k<xs.length) (hoff:off=k*n) (hx:a.eval x=.pointer (some ⟨g,off,none⟩)) (hy:(a.eval y).cells=ec.toArray)
  (hK:∀ w',Sat w0 w' (Own (aq R E) [.slice (some ⟨g,0,none⟩) m cap] (xs.set k yv) :: Γ)→wpList P ops Q rest (a.put o.dst undef) w'):wpList P ops Q (o :: rest) a w:=by
 refine wpList_plain hg fun K hK'=>?_
 have hz:=hz.h
 cases hi:P.info? t with
 | none=>simp [hi] at hz
 | some i =>
  simp [hi] at hz
  have hS':Sat w0 w (xa (Own R ec yv) (Own (aq R E) [.slice (some ⟨g,0,none⟩) m cap] xs) :: Γ):=hS.join fun f g h1 h2=>⟨f,g,rfl,h1,h2⟩
  obtain ⟨fp,⟨fy,f,rfl,hyo,hv⟩,hnd,_⟩:=hS'.head
  have hel:ec.length=R.sz:=R.rd_len (R.own_rd hyo)
  obtain ⟨cur,hh,hcs⟩:∃ cur,w.heap[g]? = some (.cells cur E (0,0))∧xs.length*R.sz≤cur.size:=by
   rcases hv with ⟨h,_⟩ | ⟨g',cap',cur,ccs,f2,h,hg',h1,h2,h3,_⟩
   ·simp at h
   ·simp at h
    obtain ⟨rfl,_⟩:=h
    exact ⟨cur,hg',by rw [h3];exact Nat.mul_le_mul_right _ h1⟩
  have hkk:k*R.sz+R.sz≤xs.length*R.sz:=by have:=Nat.mul_le_mul_right R.sz hk;rw [Nat.succ_mul] at this;exact this
  have hh':w.heap[g]? = some (.cells cur.toList.toArray E (0,0)):=by simpa using hh
  obtain ⟨w',hr,hnew,hc⟩:=gX (P:=P) ec off 0 cur.toList w hh' (by rw [hoff,hel,← hn];simp;omega) (R.rd_one (R.own_rd hyo))
  have hsz:¬ (ec.toArray.size≠i.size):=by simp;omega
  unfold Oper.wp execOp
  simp only [ho,hx,Instr.storeAt,Instr.sureAddr,storeVar,sizeOf,typeInfo,hi,hy,Sem.run_bind,Sem.run_pure,run_program,Result.andThen_ok,hsz,if_false,Sem.run_ite,List.toList_toArray,hr,Oper.upon_skip]
  refine hK' _ _ (hK w' ?_)
  refine hS'.upd ?_
  rintro _ ⟨gy,gf,rfl,hy2,hv2⟩ hnd2
  rcases hv2 with ⟨h,_⟩ | ⟨g',cap',cur',ccs,f2,h,hg',h1,h2,h3,h4,h5,rfl⟩
  ·simp at h
  ·simp at h
   obtain ⟨rfl,rfl,rfl⟩:=h
   obtain ⟨rfl⟩:cur'=cur:=by rw [hh] at hg';simpa using hg'.symm
   obtain ⟨fl,fk,fr,rfl,h6⟩:=s8 h5 k hk hy2
   have hoth:∀ x,x≠g→x<w.heap.size→w'.heap[x]? = w.heap[x]?:=fun x hx hlt=>hc.block x hlt (by simpa using hx)
   have hnd3:(gy++g :: (fl++fk++fr)).Nodup:=hnd2
   simp only [List.nodup_append,List.nodup_cons,List.mem_append,List.mem_cons] at hnd3
   have hgn:g∉fl++gy++fr:=by
    simp only [List.mem_append,not_or]
    refine ⟨⟨fun hm=>hnd3.2.1.1 (.inl (.inl hm)),fun hm=>hnd3.2.2 g hm g (.inl rfl) rfl⟩,fun hm=>hnd3.2.1.1 (.inr hm)⟩
   refine ⟨g :: (fl++gy++fr),.inr ⟨g,cap,_,ccs.take (k*R.sz)++ec++ccs.drop (k*R.sz+R.sz),fl++gy++fr,by simp,hnew,by simpa using h1,h2,?_,?_,fc h6 (fun b hb=>hoth b (fun e=>hgn (e ▸ hb)) ?_),rfl⟩,?_,hc.mono (by simp),?_⟩
   ·simp only [List.size_toArray,List.length_append,List.length_take,List.length_drop,Array.length_toList]
    rw [hoff,← hn]
    omega
   ·have hcl:ccs.length=xs.length*R.sz:=gP (f4 h5)
    rw [← h4,hoff,← hn,hel,List.length_set]
    exact px _ _ _ _ _ hkk (by simpa using hcs) hel
   ·exact gS h6 b hb
   ·refine List.nodup_cons.2 ⟨hgn,?_⟩
    have hs:(gy++(fl++fr)).Nodup:=List.Nodup.sublist (List.Sublist.append (List.Sublist.refl gy) (List.Sublist.cons g (List.Sublist.append (List.sublist_append_left fl fk) (List.Sublist.refl fr)))) hnd2
    rw [← List.append_assoc] at hs
    exact (List.Perm.append_right fr List.perm_append_comm).nodup_iff.1 hs
   ·intro b hb
    refine .inl ?_
    simp only [List.mem_cons,List.mem_append] at hb ⊢
    rcases hb with h | (h | h) | h <;> simp [h]

theorem qN {t e:TypeId} [ht:SliceT P t e] {z:List Value} {n bytes:Nat} [hz:ElemT P e z n bytes] {v:Value} {cs:List Value} (hcs:v.cells=cs.toArray) (hl:cs.length=n) (hpos:0<n) (hzl:z.length=n) (hn:n≤16) :
  (Instr.buildSlice t 1 #[(0,v)]).run P w=.ok (.slice (some ⟨w.heap.size,0,none⟩) 1 1) (w.alloc (.cells cs.toArray e)):=by
 have hz:=hz.h
 cases hi:P.info? e with
 | none=>simp [hi] at hz
 | some i =>
 cases hzz:i.zero with
 | none=>simp [hi,hzz] at hz
 | some zv =>
 simp [hi,hzz] at hz
 obtain ⟨hz1,hz2,hz3⟩:=hz
 have h24:¬ (n > 2 ^ 24):=by omega
 have hn0:¬ (n=0):=by omega
 have hfill:Instr.fill (fun i=>some (i*n,n)) ((Array.range n).map (zv.cells[· % zv.cells.size]!)) [(0,v)]=some cs.toArray:=by
  have hsz:((Array.range n).map (zv.cells[· % zv.cells.size]!)).size=n:=by simp
  have hfold:∀ (l:List Value) (pre:List Value) (A:Array Value),A.size=pre.length+l.length→A.toList.take pre.length=pre →
    ((l.zipIdx pre.length).foldl (fun A (c:Value × Nat)=>A.setIfInBounds c.2 c.1) A).toList=pre++l:=by
   intro l
   induction l with
   | nil=>intro pre A h1 h2;simp;rw [← h2,List.take_of_length_le (by simp at h1 ⊢;omega)]
   | cons x l ih =>
    intro pre A h1 h2
    simp only [List.zipIdx_cons,List.foldl_cons]
    have:=ih (pre++[x]) (A.setIfInBounds pre.length x) (by simp at h1 ⊢;omega) (by
     simp only [Array.toList_setIfInBounds,List.length_append,List.length_singleton]
     rw [List.take_set,List.take_succ_eq_append_getElem (by simp at h1 ⊢;omega),h2,List.set_append_right _ _ (Nat.le_refl _)]
     simp)
    simpa using this
  have h0:=hfold cs [] ((Array.range n).map (zv.cells[· % zv.cells.size]!)) (by simp [hl]) (by simp)
  simp only [Instr.fill,hcs,List.size_toArray,hl,hsz,Nat.zero_mul,Nat.zero_add,ne_eq,not_true_eq_false,decide_false,Bool.false_or,gt_iff_lt,Nat.lt_irrefl,Bool.false_eq_true,if_false]
  congr 1
  apply Array.ext'
  simpa using h0
 simp [Instr.buildSlice,run_underlying ht.h,sizeOf,typeInfo,hi,hz2,h24,hn0,zeroValue,hzz,hfill,newRow]

theorem qX (hg:o.guard=none) {t e:TypeId} {x:Operand} (ho:o.op=.buildSlice t 1 #[(0,x)]) [SliceT P t e] {z:List Value} {n bytes:Nat} [ElemT P e z n bytes] {cs:List Value} (hcs:(a.eval x).cells=cs.toArray) (hl:cs.length=n) (hpos:0<n) (hzl:z.length=n) (hn:n≤16)
  (hS:Sat w0 w Γ) (hK:∀ w' b,Sat w0 w' (Box b e cs :: Γ)→Ext w w'→wpList P ops Q rest (a.put o.dst (.slice (some ⟨b,0,none⟩) 1 1)) w'):wpList P ops Q (o :: rest) a w:=by
 refine wpList_plain hg fun K hK'=>?_
 have hr:=qN (P:=P) (w:=w) (t:=t) (e:=e) hcs hl hpos hzl hn
 unfold Oper.wp execOp
 simp only [ho,List.map_toArray,List.map_cons,List.map_nil,hr,Sem.run_bind,Sem.run_pure,Result.andThen_ok,Oper.upon_value]
 exact hK' _ _ (hK _ _ (hS.box e cs) (ko _ _))

theorem rc (R:Rep α) (hg:o.guard=none) {t:TypeId} (ho:o.op=.buildSlice t 0 #[]) [ht:SliceT P t E] {z:List Value} {n bytes:Nat} [hz:ElemT P E z n bytes]
  (hS:Sat w0 w Γ) (hK:∀ w' b,Sat w0 w' (Own (aq R E) [.slice (some ⟨b,0,none⟩) 0 0] [] :: Γ)→Ext w w'→wpList P ops Q rest (a.put o.dst (.slice (some ⟨b,0,none⟩) 0 0)) w'):wpList P ops Q (o :: rest) a w:=by
 refine wpList_plain hg fun K hK'=>?_
 have hz:=hz.h
 cases hi:P.info? E with
 | none=>simp [hi] at hz
 | some i =>
 have hr:(Instr.buildSlice t 0 #[]).run P w=.ok (.slice (some ⟨w.heap.size,0,none⟩) 0 0) (w.alloc (.cells #[] E)):=by
  simp [Instr.buildSlice,run_underlying ht.h,sizeOf,typeInfo,hi,Instr.fill,newRow,Array.range_zero']
 unfold Oper.wp execOp
 simp only [ho,List.map_toArray,List.map_nil,hr,Sem.run_bind,Sem.run_pure,Result.andThen_ok,Oper.upon_value]
 have hB:=hS.box E []
 refine hK' _ _ (hK _ _ (hB.conv (B:=Own (aq R E) [.slice (some ⟨w.heap.size,0,none⟩) 0 0] []) fun f hf=>?_) (ko _ _))
 obtain ⟨rfl,hf⟩:=hf
 exact .inr ⟨w.heap.size,0,#[],[],[],rfl,hf,Nat.le_refl _,Nat.zero_le _,by simp,by simp,⟨rfl,rfl⟩,rfl⟩

theorem Sat.one {ec:List Value} {y:α} (h:Sat w0 w (Own R ec y :: Γ)):Sat w0 w (nj R ec [y] :: Γ) :=
 h.conv fun f hf=>⟨ec,[],f,[],by simp,by simp,hf,rfl,rfl⟩
theorem Sat.str (h:Sat w0 w Γ) (s:ByteArray) (hs:s.size≤9223372036854775807):Sat w0 w (Own eX [.string s] s :: Γ):=h.add ⟨⟨rfl,hs⟩,rfl⟩
theorem Sat.int (h:Sat w0 w Γ) (n:Int):Sat w0 w (Own bj [.int .i64 n] n :: Γ):=h.add ⟨rfl,rfl⟩
theorem Sat.pair {α β:Type} {R:Rep α} {S:Rep β} {c d:List Value} {x:α} {y:β} (h:Sat w0 w (Own R c x :: Own S d y :: Γ)):Sat w0 w (Own (cx R S) (c++d) (x,y) :: Γ) :=
 h.join fun f g h1 h2=>⟨c,d,f,g,rfl,rfl,h1,h2⟩
theorem Sat.ints {xs:List Int} (h:Sat w0 w Γ):Sat w0 w (nj bj (xs.map (Value.int .i64)) xs :: Γ):=by
 refine h.add ?_
 induction xs with
 | nil=>exact ⟨rfl,rfl⟩
 | cons x xs ih=>exact ⟨[.int .i64 x],_,[],[],rfl,rfl,⟨rfl,rfl⟩,ih⟩
end laws2
abbrev Env:=Nat→Value
def upd (e:Env) (d:Nat) (v:Value):Env:=fun t=>bif Nat.beq t d then v else e t
def ev (e:Env):Operand→Value
 | .tmp t=>e t
 | .const v=>v
 | .global g=>.pointer (some ⟨g,0,none⟩)
 | .func f=>.func (.func f) #[] #[]
theorem ov {a b:Nat} (h:¬ a=b):Nat.beq a b=false:=by
 cases hb:Nat.beq a b
 ·rfl
 ·exact absurd (Nat.eq_of_beq_eq_true hb) h
structure Mt (n:Nat) (e:Env) (a:Act):Prop where
 size:a.tmps.size=n
 defers:a.defers=[]
 get:∀ t,a.tmps.getD t undef=e t
theorem Mt.eval {n:Nat} {e:Env} {a:Act} (h:Mt n e a):a.eval=ev e:=by
 funext x
 cases x <;> simp only [Act.eval,ev]
 exact h.get _
theorem Mt.put {n:Nat} {e:Env} {a:Act} (h:Mt n e a) {d:Nat} (hd:d<n) (v:Value):Mt n (upd e d v) (a.put (some d) v):=by
 refine ⟨by simp [Act.put,h.size],by simpa [Act.put] using h.defers,fun t=>?_⟩
 have hg:=h.get t
 have hs:=h.size
 simp only [Act.put,upd]
 by_cases ht:t=d
 ·subst ht
  simp [Array.getD,hs,hd]
 ·have:Nat.beq t d=false:=ov ht
  rw [this]
  simp only [cond_false,← hg,Array.getD,Array.size_setIfInBounds]
  split
  ·rename_i hlt
   have:=Array.getElem_setIfInBounds (xs:=a.tmps) (i:=d) (a:=v) (j:=t) (by simpa using hlt)
   rw [if_neg (fun e=>ht e.symm)] at this
   exact this
  ·rfl
theorem wS {e:Env} {d:Nat} {v:Value} (h:e d=v):upd e d v=e:=by
 funext t
 unfold upd
 by_cases ht:t=d
 ·subst ht;simp [h]
 ·have:Nat.beq t d=false:=ov ht
  rw [this];rfl
theorem keep {e e':Env} {d:Nat} {v:Value} (h:e' d=v) (h2:e=e'):e=upd e' d v:=by rw [wS h,h2]
def PV (P:Program) (o:Oper) (e:Env) (w:World) (v:Value):Prop:=∀ w',Ext w w'→(execOp (ev e) o).run P w'=.ok (.value v) w'
theorem PV.ext {P:Program} {o:Oper} {e:Env} {w w1:World} {v:Value} (h:PV P o e w v) (hx:Ext w w1):PV P o e w1 v:=fun w' h'=>h w' (hx.trans h')

def nrm (n:Nat) (K:Env→World→Prop):Exit→Act→World→Prop:=fun x a w=>x=.normal∧∃ e,Mt n e a∧K e w
def EL (P:Program) (n:Nat) (ops:Array Oper) (K:Env→World→Prop) (rest:List Oper) (e:Env) (w:World):Prop:=∀ a,Mt n e a→wpList P ops (nrm n K) rest a w
def QL (P:Program) (n:Nat) (ops:Array Oper) (w:World) (K:Env→Prop) (rest:List Oper) (e:Env):Prop:=∀ a,Mt n e a→wpQuiet P ops (fun w'=>Ext w w') (fun a'=>∃ e',Mt n e' a'∧K e') rest a

structure Goes (P:Program) (f:FuncId):Prop where
 h:∃ fn,P.funcs[f]? = some fn∧(fn.name == "runtime.NumGoroutine")=false∧fn.body.isNone=false
theorem Goes.run {P:Program} {f:FuncId} (h:Goes P f) (args:Array Value) (w:World):(callFunc f args).run P w=.ok (.enter f args) w:=by
 obtain ⟨fn,h1,h2,h3⟩:=h.h
 simp only [callFunc,Sem.run_bind,run_program,Result.andThen_ok,h1,h2,h3,Bool.false_eq_true,if_false]
 rfl

section
variable {P:Program} {n:Nat} {ops:Array Oper} {K:Env→World→Prop} {KQ:Env→Prop} {rest:List Oper} {e:Env} {w w0:World} {v:Value} {d:Nat} {op:Op} {ty:TypeId} {pos:String} {af:Array Edge} {Γ rΓ:List Asn}

theorem aj (h:K e w):EL P n ops K [] e w:=fun _ ha=>⟨rfl,e,ha,h⟩
theorem bm (h:KQ e):QL P n ops w KQ [] e:=fun _ ha=>⟨e,ha,h⟩
theorem lf (hp:PV P ⟨some d,op,ty,pos,af,none⟩ e w v) (hd:d<n) (hK:EL P n ops K rest (upd e d v) w):EL P n ops K (⟨some d,op,ty,pos,af,none⟩ :: rest) e w:=by
 intro a ha
 refine wpList_plain rfl fun K' hK'=>?_
 unfold Oper.wp
 rw [ha.eval,hp w (Ext.refl w)]
 exact hK' _ _ (hK _ (ha.put hd v))
theorem o4 (hp:PV P ⟨some d,op,ty,pos,af,none⟩ e w v) (hd:d<n) (hK:QL P n ops w KQ rest (upd e d v)):QL P n ops w KQ (⟨some d,op,ty,pos,af,none⟩ :: rest) e:=by
 intro a ha
 unfold wpQuiet
 rw [if_pos (by rfl)]
 refine ⟨v,fun w' hw'=>?_,hK _ (ha.put hd v)⟩
 unfold Oper.quietAt
 rw [ha.eval,hp w' hw']
 exact ⟨rfl,rfl⟩
theorem cX {f:FuncId} {args:Array Operand} {tys:Array TypeId} {vals:Array Value} {R:Ending→World→Prop} (hg:Goes P f) (hc:Calls P f vals w R) (hv:(args.toList.map (ev e)).toArray=vals) (hd:d<n)
  (hK:∀ x w',R x w'→∃ v,x=.returned v∧EL P n ops K rest (upd e d v) w'):EL P n ops K (⟨some d,.call ⟨.value (.func f),args,tys⟩,ty,pos,af,none⟩ :: rest) e w:=by
 intro a ha
 refine wpList_plain rfl fun K' hK'=>?_
 unfold Oper.wp execOp
 have he:args.map (ev e)=vals:=by rw [← hv];apply Array.ext';simp
 simp only [ha.eval,resolve,ev,Deferred.ofValue,Sem.run_bind,Sem.run_pure,Result.andThen_ok,Array.empty_append,Array.append_empty,he,invoke,hg.run,Oper.upon_enter]
 refine hc.mono fun x w' hx=>?_
 obtain ⟨v,rfl,h⟩:=hK x w' hx
 exact hK' _ _ (h _ (ha.put hd v))
theorem c8 {f:FuncId} {args:Array Operand} {tys:Array TypeId} {vals:Array Value} (v:Value) (hg:Goes P f)
  (hc:∀ w',Ext w w'→Calls P f vals w' fun x w''=>x=.returned v∧Ext w' w'') (hv:(args.toList.map (ev e)).toArray=vals) (hd:d<n)
  (hK:QL P n ops w KQ rest (upd e d v)):QL P n ops w KQ (⟨some d,.call ⟨.value (.func f),args,tys⟩,ty,pos,af,none⟩ :: rest) e:=by
 intro a ha
 unfold wpQuiet
 rw [if_pos (by rfl)]
 refine ⟨v,fun w' hw'=>?_,hK _ (ha.put hd v)⟩
 unfold Oper.quietAt execOp
 have he:args.map (ev e)=vals:=by rw [← hv];apply Array.ext';simp
 simp only [ha.eval,resolve,ev,Deferred.ofValue,Sem.run_bind,Sem.run_pure,Result.andThen_ok,Array.empty_append,Array.append_empty,he,invoke,hg.run]
 exact ⟨rfl,(hc w' hw').mono fun x w'' ⟨h1,h2⟩=>⟨h1,hw'.trans h2⟩⟩
def yld (ops:Array Oper) (e:Env) (j:Nat):Option Bool :=
 match (ops[j]?).bind (·.dst) with
 | some t=>match e t with | .bool b=>some b | _=>none
 | none=>none
theorem lI {a:Act} (ha:Mt n e a) {j:Nat} {b:Bool} (h:yld ops e j=some b):yielded ops a.tmps j=some b:=by
 unfold yld at h
 unfold yielded
 cases hj:(ops[j]?).bind (·.dst) with
 | none=>simp [hj] at h
 | some t =>
  simp only [hj] at h
  have hg:=ha.get t
  simp only [Option.bind_some]
  cases hv:e t with
  | bool c =>
   rw [hv] at h hg
   simp only [Option.some.injEq] at h
   subst h
   unfold Array.getD at hg
   split at hg
   ·rename_i hlt
    rw [Array.getElem?_eq_getElem hlt]
    have:a.tmps[t]=.bool c:=hg
    rw [this]
   ·simp [undef] at hg
  | _=>simp [hv] at h
theorem n9 {a:Act} (ha:Mt n e a) {j:Nat} (h:(match (ops[j]?).bind (·.dst) with | some t=>e t | none=>undef)=undef):yielded ops a.tmps j=none:=by
 unfold yielded
 cases hj:(ops[j]?).bind (·.dst) with
 | none=>rfl
 | some t =>
  simp only [hj] at h
  have hg:=ha.get t
  rw [h] at hg
  simp only [Option.bind_some]
  cases hv:a.tmps[t]? with
  | none=>rfl
  | some v =>
   have:a.tmps.getD t undef=v:=by
    obtain ⟨h1,h2⟩:=Array.getElem?_eq_some_iff.1 hv
    simp [Array.getD,h1,h2]
   rw [this] at hg
   subst hg
   rfl
theorem Ag {j:Nat} {b c:Bool} {dst:Option Nat} (h:yld ops e j=some c) (hc:c=b) (hK:EL P n ops K (⟨dst,op,ty,pos,af,none⟩ :: rest) e w):EL P n ops K (⟨dst,op,ty,pos,af,some (j,b)⟩ :: rest) e w:=by
 subst hc
 intro a ha
 have:=hK a ha
 unfold wpList at this ⊢
 rw [if_pos (by simp [Region.wanted])] at this
 rw [if_pos (by simp [Region.wanted,lI ha h])]
 exact this
theorem yX {j:Nat} {b b' c:Bool} {d:Nat} (h:yld ops e j=some c) (hc:c=b) (hb:(b == b')=false) (hd:d<n) (hK:EL P n ops K rest (upd e d undef) w):EL P n ops K (⟨some d,op,ty,pos,af,some (j,b')⟩ :: rest) e w:=by
 subst hc
 intro a ha
 unfold wpList
 rw [if_neg (by simp [Region.wanted,lI ha h];simpa using hb)]
 exact hK _ (ha.put hd _)
theorem Af {j:Nat} {b c:Bool} {dst:Option Nat} (h:yld ops e j=some c) (hc:c=b) (hK:QL P n ops w KQ (⟨dst,op,ty,pos,af,none⟩ :: rest) e):QL P n ops w KQ (⟨dst,op,ty,pos,af,some (j,b)⟩ :: rest) e:=by
 subst hc
 intro a ha
 have:=hK a ha
 unfold wpQuiet at this ⊢
 rw [if_pos (by simp [Region.wanted])] at this
 rw [if_pos (by simp [Region.wanted,lI ha h])]
 exact this
theorem yQ {j:Nat} {b b' c:Bool} {d:Nat} (h:yld ops e j=some c) (hc:c=b) (hb:(b == b')=false) (hd:d<n) (hK:QL P n ops w KQ rest (upd e d undef)):QL P n ops w KQ (⟨some d,op,ty,pos,af,some (j,b')⟩ :: rest) e:=by
 subst hc
 intro a ha
 unfold wpQuiet
 rw [if_neg (by simp [Region.wanted,lI ha h];simpa using hb)]
 exact hK _ (ha.put hd _)
end

def Lf (n:Nat) (Q:Exit→Env→World→Prop):Exit→Act→World→Prop:=fun x a w=>∃ e,Mt n e a∧Q x e w
def CW (P:Program) (n:Nat) (c:Code) (Q:Exit→Env→World→Prop) (e:Env) (w:World):Prop:=∀ a,Mt n e a→c.wp P (Lf n Q) a w
def thn (K:Env→World→Prop) (Q:Exit→Env→World→Prop):Exit→Env→World→Prop
 | .normal,e,w=>K e w
 | x,e,w=>Q x e w
def inb (id:Nat) (Q:Exit→Env→World→Prop):Exit→Env→World→Prop
 | .exit id',e,w=>bif Nat.beq id' id then Q .normal e w else Q (.exit id') e w
 | x,e,w=>Q x e w
section
variable {P:Program} {n:Nat} {Q:Exit→Env→World→Prop} {K:Env→World→Prop} {e:Env} {w:World} {c x y:Code}
theorem qv (h:∀ Q',(∀ x e w,Q x e w→Q' x e w)→CW P n c Q' e w):CW P n c Q e w:=h Q fun _ _ _ h=>h
theorem z5 {i:Nat} (h:Q .normal e w):inb i Q (.exit i) e w:=by
 have:Nat.beq i i=true:=by simp
 show (bif Nat.beq i i then _ else _)
 rw [this];exact h
theorem xr {i j:Nat} (hij:Nat.beq j i=false) (h:Q (.exit j) e w):inb i Q (.exit j) e w:=by
 show (bif Nat.beq j i then _ else _)
 rw [hij];exact h
theorem vU (h:CW P n x (thn (fun e w=>CW P n y Q e w) Q) e w):CW P n (.seq x y) Q e w:=by
 intro a ha
 refine wp_seq (wp_mono (h a ha) ?_)
 rintro x' a' w' ⟨e',he',hq⟩
 cases x' with
 | normal=>exact hq a' he'
 | _=>exact ⟨e',he',hq⟩
theorem aR (h:Q .normal e w):CW P n .skip Q e w:=fun _ ha=>wp_skip ⟨e,ha,h⟩
theorem aG {i:Nat} (h:Q (.exit i) e w):CW P n (.exit i) Q e w:=fun _ ha=>wp_exit ⟨e,ha,h⟩
theorem ah (h:Q .ret e w):CW P n .ret Q e w:=fun _ ha=>wp_ret ⟨e,ha,h⟩
theorem vC {o:Operand} {b:Bool} (hc:ev e o=.bool b) (hb:b=true) (h:CW P n x Q e w):CW P n (.cond o x y) Q e w :=
 fun a ha=>wp_cond_true (by rw [ha.eval,hc,hb]) (h a ha)
theorem vR {o:Operand} {b:Bool} (hc:ev e o=.bool b) (hb:b=false) (h:CW P n y Q e w):CW P n (.cond o x y) Q e w :=
 fun a ha=>wp_cond_false (by rw [ha.eval,hc,hb]) (h a ha)
theorem wE {i:Nat} (h:CW P n c (inb i Q) e w):CW P n (.block i c) Q e w:=by
 intro a ha
 refine wp_block (wp_mono (h a ha) ?_)
 rintro x' a' w' ⟨e',he',hq⟩
 cases x' with
 | exit id' =>
  by_cases hi:id'=i
  ·subst hi
   have:Nat.beq id' id'=true:=by simp
   have hq':(bif Nat.beq id' id' then Q .normal e' w' else Q (.exit id') e' w'):=hq
   rw [this] at hq'
   simp only [Exit.inBlock,if_true]
   exact ⟨e',he',hq'⟩
  ·have:Nat.beq id' i=false:=ov hi
   have hq':(bif Nat.beq id' i then Q .normal e' w' else Q (.exit id') e' w'):=hq
   rw [this] at hq'
   simp only [Exit.inBlock,hi,if_false]
   exact ⟨e',he',hq'⟩
 | _=>exact ⟨e',he',hq⟩
theorem ae {id:Nat} {l:List Oper} (h:EL P n l.toArray (fun e w=>Q .normal e w) l e w):CW P n (.region id l.toArray false) Q e w:=by
 intro a ha
 refine wp_mono (wp_region_lit (h a ha)) ?_
 rintro x a w ⟨rfl,e,he,hk⟩
 exact ⟨e,he,hk⟩
theorem bY {id:Nat} {l:List Oper} (hm:P.follows .mixedOrders=true) (hB:Region.lexB .any l.toArray=true) (h:QL P n l.toArray w (fun e=>∀ w',Ext w w'→Q .normal e w') l e):CW P n (.region id l.toArray true) Q e w:=by
 intro a ha
 refine wp_region_quiet (C:=fun w'=>Ext w w') hm hB ⟨rfl,rfl,rfl,Nat.le_refl _,fun _ _=>rfl⟩ ?_
 have:=h a ha
 have key:∀ (r:List Oper) (a:Act),wpQuiet P l.toArray (fun w'=>Ext w w') (fun a'=>∃ e',Mt n e' a'∧∀ w',Ext w w'→Q .normal e' w') r a→wpQuiet P l.toArray (fun w'=>Ext w w') (fun a'=>∀ w',Ext w w'→Lf n Q .normal a' w') r a:=by
  intro r
  induction r with
  | nil=>rintro a ⟨e',h1,h2⟩ w' hw';exact ⟨e',h1,h2 w' hw'⟩
  | cons o r ih =>
   intro a h
   unfold wpQuiet at h ⊢
   split
   ·rename_i hw
    rw [if_pos hw] at h
    exact Oper.quiet_mono ih h
   ·rename_i hw
    rw [if_neg hw] at h
    exact ih _ h
 exact key _ _ this
theorem xY (I:Nat→Env→World→Prop) (k0:Nat) (h0:I k0 e w)
  (hr:∀ k e w,I k e w→CW P n c (thn (fun e w=>∃ k',k'<k∧I k' e w) Q) e w):CW P n (.loop c) Q e w:=by
 intro a ha
 refine wp_loop_ghost (fun k a w=>∃ e,Mt n e a∧I k e w) k0 ⟨e,ha,h0⟩ ?_
 rintro k a w ⟨e,he,hI⟩
 refine wp_mono (hr k e w hI a he) ?_
 rintro x' a' w' ⟨e',he',hq⟩
 cases x' with
 | normal =>
  obtain ⟨k',hk',hI'⟩:=hq
  exact ⟨k',hk',e',he',hI'⟩
 | _=>exact ⟨e',he',hq⟩
theorem aH (I:Nat→Env→World→Prop) (k0:Nat) (h0:I k0 e w) (hz:∀ e w,¬ I 0 e w)
  (hr:∀ k e w,I (k+1) e w→CW P n c (thn (fun e w=>I k e w) Q) e w):CW P n (.loop c) Q e w:=by
 refine xY I k0 h0 ?_
 intro k e w hI
 cases k with
 | zero=>exact absurd hI (hz e w)
 | succ k =>
  intro a ha
  refine wp_mono (hr k e w hI a ha) ?_
  rintro x' a' w' ⟨e',he',hq⟩
  cases x' with
  | normal=>exact ⟨e',he',k,Nat.lt_succ_self k,hq⟩
  | _=>exact ⟨e',he',hq⟩
end

def Fin (P:Program) (fn:Func) (n:Nat) (R:Ending→World→Prop):Exit→Env→World→Prop
 | .normal,e,w=>∃ v,(∀ a,Mt n e a→(results fn a.tmps).run P w=.ok v w)∧R (.returned v) w
 | .ret,e,w=>∃ v,(∀ a,Mt n e a→(results fn a.tmps).run P w=.ok v w)∧R (.returned v) w
 | _,_,_=>False
def qx:List Value→Nat→Env
 | [],_=>fun _=>undef
 | v :: l,k=>upd (qx l (k+1)) k v
theorem rS:∀ (l:List Value) (k t:Nat),qx l k t=if k≤t then l.getD (t-k) undef else undef
 | [],k,t=>by simp [qx]
 | v :: l,k,t=>by
  unfold qx upd
  by_cases h:t=k
  ·subst h;simp
  ·have hb:Nat.beq t k=false:=ov h
   rw [hb,cond_false,rS l (k+1) t]
   by_cases hk:k+1≤t
   ·rw [if_pos hk,if_pos (by omega),show t-k=(t-(k+1))+1 by omega]
    simp
   ·rw [if_neg hk]
    by_cases hk2:k≤t
    ·omega
    ·rw [if_neg hk2]
theorem aD {P:Program} {f:FuncId} {fn:Func} {c:Code} {l:List Value} {w:World} {R:Ending→World→Prop} (hf:P.funcs[f]? = some fn) (hb:fn.body=some c) {n:Nat} (hn:fn.ntmps=n) (hl:l.length≤n)
  (h:CW P n c (Fin P fn n R) (qx l 0) w):Calls P f l.toArray w R:=by
 refine calls_of_wp hf hb (wp_mono (h _ ?_) ?_)
 ·refine ⟨by simp;omega,rfl,fun t=>?_⟩
  rw [rS]
  simp only [Nat.zero_le,if_true,Nat.sub_zero,Array.getD,Array.size_append,List.size_toArray,Array.size_replicate]
  by_cases h1:t<l.length
  ·rw [dif_pos (by omega)]
   simp [h1]
  ·have h2:l.getD t undef=undef:=by simp [h1]
   rw [h2]
   split
   ·rename_i h3
    have:=Array.getElem_append_right (xs:=l.toArray) (ys:=Array.replicate (fn.ntmps-l.length) undef) (i:=t) (by simpa using h1) (h:=by simpa using h3)
    simpa using this
   ·rfl
 ·rintro x a w' ⟨e,he,hq⟩
  cases x with
  | normal=>obtain ⟨v,h1,h2⟩:=hq;exact bodyPost_end (h1 a he) he.defers h2
  | ret=>obtain ⟨v,h1,h2⟩:=hq;exact bodyPost_ret (h1 a he) he.defers h2
  | _=>exact hq.elim
def rng (n:Int):Bool:=decide (-9223372036854775808≤n)&&decide (n≤9223372036854775807)
def ad (a b:Int):Option Int:=if rng (a+b) then some (a+b) else none
def sb (a b:Int):Option Int:=if rng (a-b) then some (a-b) else none
def qt (a b:Int):Option Int:=if b≠0∧rng (a.tdiv b) then some (a.tdiv b) else none
def rm (a b:Int):Option Int:=if b≠0 then some (a.tmod b) else none
def ix {α:Type} (xs:List α) (i:Int):Option α:=if 0≤i then xs[i.toNat]? else none
def bx (s:ByteArray) (i:Int):Option Int:=if 0≤i then (s[i.toNat]?).map (fun b=>(b.toNat:Int)) else none
def slc {α:Type} (xs:List α) (lo hi:Int):Option (List α):=if 0≤lo∧lo≤hi∧hi≤xs.length then some ((xs.take hi.toNat).drop lo.toNat) else none
def apd {α:Type} (bytes:Nat) (xs ys:List α):Option (List α):=if (xs.length+ys.length)*bytes≤140737488355328 then some (xs++ys) else none
def mk {α:Type} (bytes:Nat) (z:α) (n:Int):Option (List α):=if 0≤n∧n.toNat*bytes≤281474976710656∧n.toNat≤140737488355328 then some (List.replicate n.toNat z) else none
def sto {α:Type} (xs:List α) (i:Int) (y:α):Option (List α):=if 0≤i∧i.toNat<xs.length then some (xs.set i.toNat y) else none

theorem ob {α β:Type} {o:Option α} {f:α→Option β} {r:β} (h:o.bind f=some r):∃ x,o=some x∧f x=some r:=Option.bind_eq_some_iff.1 h
theorem oif {α:Type} {c:Bool} {x y:Option α} {r:α} (h:(bif c then x else y)=some r):(c=true∧x=some r)∨(c=false∧y=some r):=by
 cases c
 ·exact .inr ⟨rfl,h⟩
 ·exact .inl ⟨rfl,h⟩
theorem qd {n:Int} (h:rng n=true):IntKind.i64.wrap n=n:=by
 simp only [rng,Bool.and_eq_true,decide_eq_true_eq] at h
 exact IntWalk.i64_in n h
theorem yk {a b c:Int} (h:ad a b=some c):rng (a+b)=true∧c=a+b:=by
 unfold ad at h;split at h
 ·exact ⟨by assumption,by simpa using h.symm⟩
 ·cases h
theorem xI {a b c:Int} (h:sb a b=some c):rng (a-b)=true∧c=a-b:=by
 unfold sb at h;split at h
 ·exact ⟨by assumption,by simpa using h.symm⟩
 ·cases h
theorem iM {α:Type} {xs:List α} {i:Int} {x:α} (h:ix xs i=some x):∃ k:Nat,i=(k:Int)∧∃ h:k<xs.length,xs[k]=x:=by
 unfold ix at h
 split at h
 ·rename_i h0
  obtain ⟨h1,h2⟩:=List.getElem?_eq_some_iff.1 h
  exact ⟨i.toNat,by omega,h1,h2⟩
 ·cases h

section
variable {P:Program} {e:Env} {w w0:World} {d:Option Nat} {ty:TypeId} {pos:String} {af:Array Edge} {x y z:Operand} {Γ rΓ:List Asn}

theorem aZ {v:Value} (hx:ev e x=v):PV P ⟨d,.move x,ty,pos,af,none⟩ e w v:=fun w' _=>by
 unfold execOp;simp only [hx];rfl
theorem eq {v:Value} (hx:ev e x=v):PV P ⟨d,.assign x,ty,pos,af,none⟩ e w v:=fun w' _=>by
 unfold execOp;simp only [hx];rfl
theorem aw {b:Bool} {v:Value} (hx:ev e x=.bool b) (hb:b=true) (hy:ev e y=v):PV P ⟨d,.pick x y z,ty,pos,af,none⟩ e w v:=fun w' _=>by
 unfold execOp;subst hb;simp [hx,hy,asBool]
theorem az {b:Bool} {v:Value} (hx:ev e x=.bool b) (hb:b=false) (hz:ev e z=v):PV P ⟨d,.pick x y z,ty,pos,af,none⟩ e w v:=fun w' _=>by
 unfold execOp;subst hb;simp [hx,hz,asBool]
theorem aV {t:TypeId} {b:Bool} (hx:ev e x=.bool b):PV P ⟨d,.unOp .not t x,ty,pos,af,none⟩ e w (.bool (!b)):=fun w' _=>by
 unfold execOp;simp [hx,Op.unary]
section
variable {t u:TypeId} {a b c:Int}
theorem aC (hx:ev e x=.int .i64 a) (hy:ev e y=.int .i64 b) (h:ad a b=some c):PV P ⟨d,.binOp .add t x y u,ty,pos,af,none⟩ e w (.int .i64 c):=fun w' _=>by
 obtain ⟨h1,rfl⟩:=yk h
 unfold execOp;simp [hx,hy,eqGuard,binOp,Op.intArith,qd h1]
theorem ce (hx:ev e x=.int .i64 a) (hy:ev e y=.int .i64 b) (h:sb a b=some c):PV P ⟨d,.binOp .sub t x y u,ty,pos,af,none⟩ e w (.int .i64 c):=fun w' _=>by
 obtain ⟨h1,rfl⟩:=xI h
 unfold execOp;simp [hx,hy,eqGuard,binOp,Op.intArith,qd h1]
theorem td (hx:ev e x=.int .i64 a) (hy:ev e y=.int .i64 b) (h:qt a b=some c):PV P ⟨d,.binOp .quo t x y u,ty,pos,af,none⟩ e w (.int .i64 c):=fun w' _=>by
 unfold qt at h;split at h
 ·rename_i h1
  obtain rfl:=Option.some.inj h
  unfold execOp;simp [hx,hy,eqGuard,binOp,Op.intDiv,h1.1,qd h1.2]
 ·cases h
theorem qB (hx:ev e x=.int .i64 a) (hy:ev e y=.int .i64 b) (h:rm a b=some c):PV P ⟨d,.binOp .rem t x y u,ty,pos,af,none⟩ e w (.int .i64 c):=fun w' _=>by
 unfold rm at h;split at h
 ·rename_i h1
  obtain rfl:=Option.some.inj h
  unfold execOp;simp [hx,hy,eqGuard,binOp,Op.intDiv,h1]
 ·cases h
theorem bQ {k:IntKind} (hx:ev e x=.int k a) (hy:ev e y=.int k b):PV P ⟨d,.binOp .eql t x y u,ty,pos,af,none⟩ e w (.bool (a == b)):=fun w' _=>by
 unfold execOp;simp [hx,hy,eqGuard,binOp,Op.intCmp]
theorem cG {k:IntKind} (hx:ev e x=.int k a) (hy:ev e y=.int k b):PV P ⟨d,.binOp .neq t x y u,ty,pos,af,none⟩ e w (.bool (a != b)):=fun w' _=>by
 unfold execOp;simp [hx,hy,eqGuard,binOp,Op.intCmp]
theorem aE {k:IntKind} (hx:ev e x=.int k a) (hy:ev e y=.int k b):PV P ⟨d,.binOp .lss t x y u,ty,pos,af,none⟩ e w (.bool (decide (a<b))):=fun w' _=>by
 unfold execOp;simp [hx,hy,eqGuard,binOp,Op.intCmp]
theorem iH {k:IntKind} (hx:ev e x=.int k a) (hy:ev e y=.int k b):PV P ⟨d,.binOp .leq t x y u,ty,pos,af,none⟩ e w (.bool (decide (a≤b))):=fun w' _=>by
 unfold execOp;simp [hx,hy,eqGuard,binOp,Op.intCmp]
theorem bt {k:IntKind} (hx:ev e x=.int k a) (hy:ev e y=.int k b):PV P ⟨d,.binOp .gtr t x y u,ty,pos,af,none⟩ e w (.bool (decide (b<a))):=fun w' _=>by
 unfold execOp;simp [hx,hy,eqGuard,binOp,Op.intCmp]
theorem dX {k:IntKind} (hx:ev e x=.int k a) (hy:ev e y=.int k b):PV P ⟨d,.binOp .geq t x y u,ty,pos,af,none⟩ e w (.bool (decide (b≤a))):=fun w' _=>by
 unfold execOp;simp [hx,hy,eqGuard,binOp,Op.intCmp]
end
def eqS (s r:ByteArray):Bool:=s.toList == r.toList
def ltS (s r:ByteArray):Bool:=Op.bytesLess s.toList r.toList
section
variable {t u:TypeId} {s r:ByteArray}
theorem un (hx:ev e x=.string s) (hy:ev e y=.string r):PV P ⟨d,.binOp .eql t x y u,ty,pos,af,none⟩ e w (.bool (eqS s r)):=fun w' _=>by
 unfold execOp eqS;simp [hx,hy,eqGuard,binOp,Op.stringOp]
theorem ur (hx:ev e x=.string s) (hy:ev e y=.string r):PV P ⟨d,.binOp .neq t x y u,ty,pos,af,none⟩ e w (.bool (!(eqS s r))):=fun w' _=>by
 unfold execOp eqS;simp [hx,hy,eqGuard,binOp,Op.stringOp]
theorem uA (hx:ev e x=.string s) (hy:ev e y=.string r):PV P ⟨d,.binOp .geq t x y u,ty,pos,af,none⟩ e w (.bool (!(ltS s r))):=fun w' _=>by
 unfold execOp ltS;simp [hx,hy,eqGuard,binOp,Op.stringOp]
end
theorem aL {k:Nat} {vs:Array Value} {v:Value} (hx:ev e x=.tuple vs) (h:vs[k]? = some v):PV P ⟨d,.extract x k,ty,pos,af,none⟩ e w v:=fun w' _=>by
 unfold execOp;simp [hx,Instr.extract,h]
theorem xi {s t:TypeId} {k k2:IntKind} {a:Int} {u:TypeDesc} (hs:P.underlying s=some u) (ht:P.underlying t=some (.int k2)) (hx:ev e x=.int k a):PV P ⟨d,.convert s t x,ty,pos,af,none⟩ e w (.int k2 (k2.wrap a)):=fun w' _=>by
 unfold execOp;simp [hx,convert,run_underlying ht,run_underlying hs,Conv.intToInt]
theorem k8 {t:TypeId} {s:ByteArray} (ht:P.underlying t=some .string) (hx:ev e x=.string s):PV P ⟨d,.call ⟨.builtin .len,#[x],#[t]⟩,ty,pos,af,none⟩ e w (.int .i64 s.size):=fun w' _=>by
 unfold execOp;simp [resolve,invoke,builtin,hx,Builtin.len_,run_underlying ht,goInt]
def imn (a b:Int):Int:=if b<a then b else a
def imx (a b:Int):Int:=if a<b then b else a
theorem v5 {t t2:TypeId} {a b:Int} (hx:ev e x=.int .i64 a) (hy:ev e y=.int .i64 b):PV P ⟨d,.call ⟨.builtin .min,#[x,y],#[t,t2]⟩,ty,pos,af,none⟩ e w (.int .i64 (imn a b)):=fun w' _=>by
 unfold execOp imn;simp [resolve,invoke,builtin,hx,hy,Builtin.min_,Builtin.min2]
theorem qZ {t t2:TypeId} {a b:Int} (hx:ev e x=.int .i64 a) (hy:ev e y=.int .i64 b):PV P ⟨d,.call ⟨.builtin .max,#[x,y],#[t,t2]⟩,ty,pos,af,none⟩ e w (.int .i64 (imx a b)):=fun w' _=>by
 unfold execOp imx;simp [resolve,invoke,builtin,hx,hy,Builtin.max_,Builtin.max2]
theorem sk {t:TypeId} {s:ByteArray} {i:Int} {k:IntKind} {b:Int} (ht:P.underlying t=some .string) (hx:ev e x=.string s) (hy:ev e y=.int k i) (h:bx s i=some b):PV P ⟨d,.index t x y,ty,pos,af,none⟩ e w (.int .u8 b):=fun w' _=>by
 unfold bx at h
 split at h
 ·rename_i h0
  cases hb:s[i.toNat]? with
  | none=>simp [hb] at h
  | some c =>
   simp [hb] at h;subst h
   unfold execOp;simp [hx,hy,Instr.index,asIntOf,run_underlying ht,h0,hb]
 ·cases h
class FldT (P:Program) (t:TypeId) (k:Nat) (off:outParam Nat):Prop where
 h:∃ fs f,P.underlying t=some (.struct fs)∧fs[k]? = some f∧f.offset=off∧((P.info? f.type).map fun i=>Nat.beq i.size 0)=some false
theorem ag {t:TypeId} {k off b o:Nat} [ht:FldT P t k off] (hx:ev e x=.pointer (some ⟨b,o,none⟩)):PV P ⟨d,.fieldAddr t x k,ty,pos,af,none⟩ e w (.pointer (some ⟨b,o+off,none⟩)):=fun w' _=>by
 obtain ⟨fs,f,h1,h2,h3,h4⟩:=ht.h
 cases hi:P.info? f.type with
 | none=>simp [hi] at h4
 | some i =>
  have h5:¬ i.size=0:=by
   intro e0
   simp [hi,e0] at h4
  unfold execOp
  simp [hx,Instr.fieldAt,run_underlying h1,h2,Instr.sureAddr,fieldPlace,sizeOf,typeInfo,hi,h5,h3,Addr.add_lit]
theorem sv {w w':World} {p:Addr} {c:Value} (hE:Ext w w') (h:w.cell? p=some c):w'.cell? p=some c:=by rw [hE.cell (block_lt_of_cell h)];exact h
theorem ak {w w':World} {b off:Nat} {ec:List Value} (hE:Ext w w') (h:∀ j c,ec[j]? = some c→w.cell? ⟨b,off+j,none⟩=some c):∀ j c,ec[j]? = some c→w'.cell? ⟨b,off+j,none⟩=some c :=
 fun j c hj=>sv hE (h j c hj)
theorem ac {t:TypeId} [PlainT P t] {p:Addr} {c:Value} (hx:ev e x=.pointer (some p)) (hc:w.cell? p=some c):PV P ⟨d,.load t x,ty,pos,af,none⟩ e w c:=fun w' hw'=>by
 unfold execOp
 simp only [hx,Instr.loadAt,Instr.sureAddr,Sem.run_bind,Sem.run_pure,Result.andThen_ok,pc (sv hw' hc)]
theorem ax {t:TypeId} {n b off:Nat} [AggT P t n] {cs:List Value} (hx:ev e x=.pointer (some ⟨b,off,none⟩)) (hn:cs.length=n) (hc:∀ j c,cs[j]? = some c→w.cell? ⟨b,off+j,none⟩=some c) :
  PV P ⟨d,.load t x,ty,pos,af,none⟩ e w (.agg cs.toArray):=fun w' hw'=>by
 unfold execOp
 simp only [hx,Instr.loadAt,Instr.sureAddr,Sem.run_bind,Sem.run_pure,Result.andThen_ok,ji hn (ak hw' hc)]
theorem ap {α:Type} {R:Rep α} {E E':TypeId} {t:TypeId} [ht:SliceT P t E'] {wA:World} {v:Value} {xs:List α} (hx:ev e x=v) (hr:(aq R E).rd wA [v] xs) :
  PV P ⟨d,.call ⟨.builtin .len,#[x],#[t]⟩,ty,pos,af,none⟩ e w (.int .i64 xs.length):=fun w' _=>by
 obtain ⟨ao,cap,rfl⟩:=s4 hr
 unfold execOp;simp [resolve,invoke,builtin,hx,Builtin.len_,run_underlying ht.h,goInt]
theorem pH {α:Type} {R:Rep α} {E E':TypeId} {t:TypeId} [ht:SliceT P t E'] {zz:List Value} {n bytes:Nat} [hz:ElemT P E' zz n bytes] {wA:World} {v:Value} {xs:List α} (hs:ev e x=v) (hr:(aq R E).rd wA [v] xs)
  (hn:R.sz=n) (hpos:0<n) {k:IntKind} {i:Int} (hi:ev e y=.int k i) {u:α} (h:ix xs i=some u) :
  ∃ b off ec,R.rd wA ec u∧(∀ j c,ec[j]? = some c→wA.cell? ⟨b,off+j,none⟩=some c)∧∀ w,PV P ⟨d,.indexAddr t x y,ty,pos,af,none⟩ e w (.pointer (some ⟨b,off,none⟩)):=by
 obtain ⟨k',rfl,hk,rfl⟩:=iM h
 obtain ⟨ao,cap,ccs,hv,h1,h2,h3,h4,h5⟩:=hr
 obtain rfl:v=.slice ao xs.length cap:=by simpa using hv
 obtain ⟨ec,hec,hcc⟩:=mT h4 k' hk
 have hz:=hz.h
 have hlen:=gP h4
 cases hq:P.info? E' with
 | none=>simp [hq] at hz
 | some inf =>
  simp [hq] at hz
  obtain ⟨b,off,rfl,hc⟩:∃ b off,ao=some ⟨b,off,none⟩∧∀ j c,ccs[j]? = some c→wA.cell? ⟨b,off+j,none⟩=some c:=by
   rcases h5 with rfl | ⟨b,off,rfl,hc⟩
   ·have:0<xs.length*R.sz:=Nat.mul_pos (by omega) (by omega)
    simp at hlen
    omega
   ·exact ⟨b,off,rfl,hc⟩
  have hsz:inf.size=R.sz:=by rw [hn];exact hz.2.1
  refine ⟨b,off+k'*R.sz,ec,hec,fun j c hj=>by rw [Nat.add_assoc];exact hc _ _ (hcc j c hj),fun w w' _=>?_⟩
  unfold execOp
  simp [hs,hi,Instr.indexAt,asIntOf,run_underlying ht.h,sizeOf,typeInfo,hq,hk,Addr.add_lit,hsz]
end

section
variable {P:Program} {n:Nat} {ops:Array Oper} {K:Env→World→Prop} {KQ:Env→Prop} {rest:List Oper} {e:Env} {w w0 wA:World} {v:Value} {d:Nat} {ty:TypeId} {pos:String} {af:Array Edge} {Γ rΓ:List Asn} {x y:Operand} {α:Type} {R:Rep α} {E E':TypeId}
theorem aI {t:TypeId} [SliceT P t E'] {zz:List Value} {m bytes:Nat} [ElemT P E' zz m bytes] {xs:List α} (hs:ev e x=v) (hr:(aq R E).rd wA [v] xs)
  (hn:R.sz=m) (hpos:0<m) {k:IntKind} {i:Int} (hi:ev e y=.int k i) {u:α} (h:ix xs i=some u) (hd:d<n)
  (hK:∀ b off ec,R.rd wA ec u→(∀ j c,ec[j]? = some c→wA.cell? ⟨b,off+j,none⟩=some c)→EL P n ops K rest (upd e d (.pointer (some ⟨b,off,none⟩))) w):EL P n ops K (⟨some d,.indexAddr t x y,ty,pos,af,none⟩ :: rest) e w:=by
 obtain ⟨b,off,ec,h1,h2,h3⟩:=pH (P:=P) (d:=some d) (ty:=ty) (pos:=pos) (af:=af) (t:=t) hs hr hn hpos hi h
 exact lf (h3 _) hd (hK b off ec h1 h2)
theorem aX {t:TypeId} [SliceT P t E'] {zz:List Value} {m bytes:Nat} [ElemT P E' zz m bytes] {xs:List α} (hs:ev e x=v) (hr:(aq R E).rd wA [v] xs)
  (hn:R.sz=m) (hpos:0<m) {k:IntKind} {i:Int} (hi:ev e y=.int k i) {u:α} (h:ix xs i=some u) (hd:d<n)
  (hK:∀ b off ec,R.rd wA ec u→(∀ j c,ec[j]? = some c→wA.cell? ⟨b,off+j,none⟩=some c)→QL P n ops w KQ rest (upd e d (.pointer (some ⟨b,off,none⟩)))):QL P n ops w KQ (⟨some d,.indexAddr t x y,ty,pos,af,none⟩ :: rest) e:=by
 obtain ⟨b,off,ec,h1,h2,h3⟩:=pH (P:=P) (d:=some d) (ty:=ty) (pos:=pos) (af:=af) (t:=t) hs hr hn hpos hi h
 exact o4 (h3 _) hd (hK b off ec h1 h2)
theorem aW {t:TypeId} (cs:List Value) (hx:(ev e x).cells=cs.toArray) (hS:Sat w0 w Γ) (hd:d<n)
  (hK:∀ w' b,Sat w0 w' (Box b t cs :: Γ)→Ext w w'→EL P n ops K rest (upd e d (.pointer (some ⟨b,0,none⟩))) w'):EL P n ops K (⟨some d,.box t x,ty,pos,af,none⟩ :: rest) e w :=
 fun a ha=>xQ rfl rfl cs (by rw [ha.eval];exact hx) hS fun w' b h1 h2=>hK w' b h1 h2 _ (ha.put hd _)
theorem aY {t:TypeId} {cs:List Value} {m bytes:Nat} [ElemT P t cs m bytes] (hS:Sat w0 w Γ) (hd:d<n)
  (hK:∀ w' b,Sat w0 w' (Box b t cs :: Γ)→Ext w w'→EL P n ops K rest (upd e d (.pointer (some ⟨b,0,none⟩))) w'):EL P n ops K (⟨some d,.alloc t,ty,pos,af,none⟩ :: rest) e w :=
 fun _ ha=>vM rfl rfl hS fun w' b h1 h2=>hK w' b h1 h2 _ (ha.put hd _)
theorem aB {t:TypeId} {z:List Value} {m bytes:Nat} [ElemT P t z m bytes] (hS:Sat w0 w Γ) {b j:Nat} (hx:ev e x=.pointer (some ⟨b,j,none⟩))
  {E:TypeId} {cs:List Value} [AtBox Γ b E cs rΓ] (vs:List Value) (hy:(ev e y).cells=vs.toArray) (hn:vs.length=m) (hl:j+m≤cs.length) (h1:vs.all (·.oneCell')=true)
  (hK:∀ w',Sat w0 w' (Box b E (cs.take j++vs++cs.drop (j+m)) :: rΓ)→EL P n ops K rest e w'):EL P n ops K (⟨none,.store t x y,ty,pos,af,none⟩ :: rest) e w :=
 fun _ ha=>uZ rfl rfl hS (by rw [ha.eval];exact hx) vs (by rw [ha.eval];exact hy) hn hl h1 fun w' h1=>hK w' h1 _ ha
theorem va {t:TypeId} {z:List Value} {m bytes:Nat} [ElemT P t z m bytes] (hn:R.sz=m) {ec:List Value} {yv:α} {xs ys:List α} {g ln cap:Nat}
  (hS:Sat w0 w (Own R ec yv :: Own (aq R E) [.slice (some ⟨g,0,none⟩) ln cap] xs :: Γ)) (k off:Nat) {i:Int} (hi:i=(k:Int)) (h:sto xs i yv=some ys) (hoff:off=k*m) (hx:ev e x=.pointer (some ⟨g,off,none⟩)) (hy:(ev e y).cells=ec.toArray)
  (hK:∀ w',Sat w0 w' (Own (aq R E) [.slice (some ⟨g,0,none⟩) ln cap] ys :: Γ)→EL P n ops K rest e w'):EL P n ops K (⟨none,.store t x y,ty,pos,af,none⟩ :: rest) e w:=by
 intro a ha
 subst hi
 unfold sto at h
 split at h
 ·rename_i h0
  obtain rfl:=Option.some.inj h
  simp only [Int.toNat_natCast] at h0 hK
  exact uV rfl rfl hn hS k off h0.2 hoff (by rw [ha.eval];exact hx) (by rw [ha.eval];exact hy) fun w' h1=>hK w' h1 _ ha
 ·cases h
theorem ay {t:TypeId} [SliceT P t E] {z:List Value} {m bytes:Nat} [ElemT P E z m bytes] (hn:R.sz=m) (hpos:0<m) (hzl:z.length=m) (hb0:0<bytes)
  {xs:List α} {ccs:List Value} {ys zs:List α} (hS:Sat w0 w (nj R ccs ys :: Own (aq R E) [v] xs :: Γ)) (hs:ev e x=v)
  {ao:Option Addr} {ln c:Nat} (hx:ev e y=.slice ao ln c) (hm:ln=ys.length) (hnone:ao=none→c=0) (hrow:mg w ao ccs) (h:apd bytes xs ys=some zs) (hd:d<n)
  (hK:∀ w' v',Sat w0 w' (Own (aq R E) [v'] zs :: Γ)→EL P n ops K rest (upd e d v') w'):EL P n ops K (⟨some d,.call ⟨.builtin .append,#[x,y],#[t,t]⟩,ty,pos,af,none⟩ :: rest) e w:=by
 intro a ha
 unfold apd at h
 split at h
 ·rename_i hby
  obtain rfl:=Option.some.inj h
  exact uK rfl rfl hn hpos hzl hb0 hS (by rw [ha.eval];exact hs) (by rw [ha.eval];exact hx) hm hnone hrow hby fun v' w' h1=>hK w' v' h1 _ (ha.put hd _)
 ·cases h
theorem kd {t:TypeId} [SliceT P t E] {z:List Value} {m bytes:Nat} [ElemT P E z m bytes] (hn:R.sz=m) (hpos:0<m) (hzl:z.length=m) {x0:α} (hx0:∀ w,R.own w z x0 []) {i:Int} {xs:List α}
  (hl:ev e x=.int .i64 i) (hc:ev e y=.int .i64 i) (h:mk bytes x0 i=some xs) (hS:Sat w0 w Γ) (hd:d<n)
  (hK:∀ w' g k,Sat w0 w' (Own (aq R E) [.slice (some ⟨g,0,none⟩) k k] xs :: Γ)→Ext w w'→xs.length=k→EL P n ops K rest (upd e d (.slice (some ⟨g,0,none⟩) k k)) w'):EL P n ops K (⟨some d,.makeSlice t x y,ty,pos,af,none⟩ :: rest) e w:=by
 intro a ha
 unfold mk at h
 split at h
 ·rename_i h0
  obtain rfl:=Option.some.inj h
  exact wz rfl rfl hn hpos hzl hx0 (by rw [ha.eval];exact hl) (by rw [ha.eval];exact hc) i.toNat (by omega) (by omega) h0.2.1 h0.2.2 hS fun w' g h1 h2=>hK w' g _ h1 h2 (by simp) _ (ha.put hd _)
 ·cases h
theorem av {t u:TypeId} [SliceT P t u] {z:List Value} {m bytes:Nat} [ElemT P u z m bytes] (cs:List Value) (hcs:(ev e x).cells=cs.toArray) (hl:cs.length=m) (hpos:0<m) (hzl:z.length=m) (hn:m≤16)
  (hS:Sat w0 w Γ) (hd:d<n) (hK:∀ w' b,Sat w0 w' (Box b u cs :: Γ)→Ext w w'→EL P n ops K rest (upd e d (.slice (some ⟨b,0,none⟩) 1 1)) w'):EL P n ops K (⟨some d,.buildSlice t 1 #[(0,x)],ty,pos,af,none⟩ :: rest) e w :=
 fun _ ha=>qX rfl rfl (by rw [ha.eval];exact hcs) hl hpos hzl hn hS fun w' b h1 h2=>hK w' b h1 h2 _ (ha.put hd _)
theorem aT (R:Rep α) {t:TypeId} [SliceT P t E] {z:List Value} {m bytes:Nat} [ElemT P E z m bytes] (hS:Sat w0 w Γ) (hd:d<n)
  (hK:∀ w' v,Sat w0 w' (Own (aq R E) [v] [] :: Γ)→Ext w w'→EL P n ops K rest (upd e d v) w'):EL P n ops K (⟨some d,.buildSlice t 0 #[],ty,pos,af,none⟩ :: rest) e w :=
 fun _ ha=>rc R rfl rfl hS fun w' b h1 h2=>hK w' _ h1 h2 _ (ha.put hd _)
theorem pN {t:TypeId} {lo hi:Option Operand} [ht:SliceT P t E'] {z:List Value} {m bytes:Nat} [hz:ElemT P E' z m bytes] (hn:R.sz=m) {d:Option Nat}
    (hx:ev e x=v) {xs ys:List α} (hr:(aq R E).rd wA [v] xs) {l h:Int} (hlo:(lo.map (ev e)=some (.int .i64 l))∨(lo=none∧l=0)) (hhi:(hi.map (ev e)=some (.int .i64 h))∨(hi=none∧h=xs.length)) (hq:slc xs l h=some ys) :
    ∃ v',(aq R E).rd wA [v'] ys∧∀ w,PV P ⟨d,.slice t x lo hi none,ty,pos,af,none⟩ e w v':=by
  unfold slc at hq
  split at hq
  case isFalse=>cases hq
  rename_i h0
  obtain rfl:=Option.some.inj hq
  obtain ⟨l',rfl⟩:=Int.eq_ofNat_of_zero_le h0.1
  obtain ⟨h',rfl⟩:=Int.eq_ofNat_of_zero_le (Int.le_trans h0.1 h0.2.1)
  obtain ⟨_,hlh,hh⟩:=h0
  replace hlh:l'≤h':=by omega
  replace hh:h'≤xs.length:=by omega
  simp only [Int.toNat_natCast]
  obtain ⟨ao,cap,ccs,hv,h1,h2,h3,h4,h5⟩:=hr
  obtain rfl:v=.slice ao xs.length cap:=by simpa using hv
  have hz:=hz.h
  cases hq:P.info? E' with
  | none=>simp [hq] at hz
  | some inf =>
    simp [hq] at hz
    have hcap:h'≤cap:=by omega
    have hsz:inf.size=R.sz:=by rw [hn];exact hz.2.1
    have hlen:((xs.take h').drop l').length=h' - l':=by simp;omega
    have hccl:=gP h4
    have hrd:=(ll l' (ll h' h4).1).2
    refine ⟨.slice (if cap=l' then ao else ao.map (·.add (l'*inf.size))) (h' - l') (cap-l'),⟨_,cap-l',_,by rw [hlen],by rw [hlen];omega,by omega,?_,hrd,?_⟩,fun w w' _=>?_⟩
    · intro e
      split at e
      · omega
      · cases ao with
        | none=>have:=h3 rfl;omega
        | some _=>simp at e
    · by_cases hcl:cap=l'
      · left
        have:h'=l':=by omega
        subst this
        apply List.eq_nil_of_length_eq_zero
        simp
      · rw [if_neg hcl]
        rcases h5 with rfl | ⟨b,off,rfl,h5⟩
        · left;simp
        · right
          refine ⟨b,off+l'*R.sz,by rw [hsz];simp [Addr.add_lit],fun j c hj=>?_⟩
          rw [List.getElem?_drop,List.getElem?_take] at hj
          split at hj
          · rw [Nat.add_assoc];exact h5 _ c hj
          · cases hj
    · have hb:(Instr.sliceBounds true xs.length cap (lo.map (ev e)) (hi.map (ev e)) none).run P w'=.ok (l',h',cap) w':=by
        rcases hlo with e1 | ⟨e1,e1'⟩ <;> rcases hhi with e2 | ⟨e2,e2'⟩
        all_goals
          (try rw [e1]);(try rw [e2])
          first
            | (simp [Instr.sliceBounds,Instr.sliceBound,asIntOf,hcap,hlh];done)
            | (have:l'=0:=by omega
               subst this
               simp [Instr.sliceBounds,Instr.sliceBound,asIntOf,hcap,hlh];done)
            | (have:h'=xs.length:=by omega
               subst this
               simp [Instr.sliceBounds,Instr.sliceBound,asIntOf,hcap,hlh];done)
            | (have:l'=0:=by omega
               have:h'=xs.length:=by omega
               subst_vars
               simp [Instr.sliceBounds,Instr.sliceBound,asIntOf])
      unfold execOp
      simp only [hx,Instr.sliceAt,Sem.run_bind,run_underlying ht.h,Result.andThen_ok,Instr.slice,hb,sizeOf,typeInfo,hq,run_program,Sem.run_pure,Option.map_none]
theorem dx {t:TypeId} {lo hi:Option Operand} [SliceT P t E'] {z:List Value} {m bytes:Nat} [ElemT P E' z m bytes] (hn:R.sz=m)
  (hx:ev e x=v) {xs ys:List α} (hr:(aq R E).rd wA [v] xs) {l h:Int} (hlo:(lo.map (ev e)=some (.int .i64 l))∨(lo=none∧l=0)) (hhi:(hi.map (ev e)=some (.int .i64 h))∨(hi=none∧h=xs.length)) (hq:slc xs l h=some ys) (hd:d<n)
  (hK:∀ v',(aq R E).rd wA [v'] ys→EL P n ops K rest (upd e d v') w):EL P n ops K (⟨some d,.slice t x lo hi none,ty,pos,af,none⟩ :: rest) e w:=by
 obtain ⟨v',h1,h2⟩:=pN (P:=P) (d:=some d) (ty:=ty) (pos:=pos) (af:=af) (t:=t) hn hx hr hlo hhi hq
 exact lf (h2 _) hd (hK v' h1)
theorem sE {t:TypeId} {lo hi:Option Operand} [SliceT P t E'] {z:List Value} {m bytes:Nat} [ElemT P E' z m bytes] (hn:R.sz=m)
  (hx:ev e x=v) {xs ys:List α} (hr:(aq R E).rd wA [v] xs) {l h:Int} (hlo:(lo.map (ev e)=some (.int .i64 l))∨(lo=none∧l=0)) (hhi:(hi.map (ev e)=some (.int .i64 h))∨(hi=none∧h=xs.length)) (hq:slc xs l h=some ys) (hd:d<n)
  (hK:∀ v',(aq R E).rd wA [v'] ys→QL P n ops w KQ rest (upd e d v')):QL P n ops w KQ (⟨some d,.slice t x lo hi none,ty,pos,af,none⟩ :: rest) e:=by
 obtain ⟨v',h1,h2⟩:=pN (P:=P) (d:=some d) (ty:=ty) (pos:=pos) (af:=af) (t:=t) hn hx hr hlo hhi hq
 exact o4 (h2 _) hd (hK v' h1)
end
section
variable {P:Program} {fn:Func} {n:Nat} {e:Env} {w:World} {R:Ending→World→Prop}
theorem aA {t:Tmp} (h:fn.results=#[.tmp t]) {v:Value} (ht:e t=v) (hR:R (.returned v) w):Fin P fn n R .ret e w :=
 ⟨v,fun a ha=>by rw [results_tmp h,ha.get,ht],hR⟩
theorem ee {t u:Tmp} (h:fn.results=#[.tmp t,.tmp u]) {v v2:Value} (ht:e t=v) (hu:e u=v2) (hR:R (.returned (.tuple #[v,v2])) w):Fin P fn n R .ret e w :=
 ⟨_,fun a ha=>by rw [results_tmp2 h,ha.get,ha.get,ht,hu],hR⟩
theorem Ap {t u s:Tmp} (h:fn.results=#[.tmp t,.tmp u,.tmp s]) {v v2 v3:Value} (ht:e t=v) (hu:e u=v2) (hs:e s=v3) (hR:R (.returned (.tuple #[v,v2,v3])) w):Fin P fn n R .ret e w:=by
 refine ⟨_,fun a ha=>?_,hR⟩
 have h1:=ha.get t;have h2:=ha.get u;have h3:=ha.get s
 simp only [ht,hu,hs] at h1 h2 h3
 have h1':a.tmps[t]?.getD undef=v:=by simpa using h1
 have h2':a.tmps[u]?.getD undef=v2:=by simpa using h2
 have h3':a.tmps[s]?.getD undef=v3:=by simpa using h3
 simp [results,h,h1',h2',h3']
theorem jA {p:Tmp} {ty:TypeId} {m:Nat} [AggT P ty m] (h:fn.results=#[.cell p ty]) {b off:Nat} {cs:List Value} (hp:e p=.pointer (some ⟨b,off,none⟩)) (hm:cs.length=m) (hc:∀ j c,cs[j]? = some c→w.cell? ⟨b,off+j,none⟩=some c) (hR:R (.returned (.agg cs.toArray)) w) :
  Fin P fn n R .ret e w:=by
 refine ⟨_,fun a ha=>?_,hR⟩
 have h1:a.tmps.getD p undef=.pointer (some ⟨b,off,none⟩):=by rw [ha.get,hp]
 have h1':a.tmps[p]?.getD undef=.pointer (some ⟨b,off,none⟩):=by simpa using h1
 simp [results,h,h1',asAddr,ji (P:=P) (t:=ty) hm hc]
theorem dQ {p t:Tmp} {ty:TypeId} {m:Nat} [AggT P ty m] (h:fn.results=#[.cell p ty,.tmp t]) {b off:Nat} {cs:List Value} {v2:Value} (hp:e p=.pointer (some ⟨b,off,none⟩)) (hm:cs.length=m) (hc:∀ j c,cs[j]? = some c→w.cell? ⟨b,off+j,none⟩=some c) (ht:e t=v2) (hR:R (.returned (.tuple #[.agg cs.toArray,v2])) w) :
  Fin P fn n R .ret e w:=by
 refine ⟨_,fun a ha=>?_,hR⟩
 have h1:a.tmps.getD p undef=.pointer (some ⟨b,off,none⟩):=by rw [ha.get,hp]
 have h1':a.tmps[p]?.getD undef=.pointer (some ⟨b,off,none⟩):=by simpa using h1
 have h2:a.tmps.getD t undef=v2:=by rw [ha.get,ht]
 have h2':a.tmps[t]?.getD undef=v2:=by simpa using h2
 simp [results,h,h1',h2',asAddr,ji (P:=P) (t:=ty) hm hc]
theorem lp {p t u:Tmp} {ty:TypeId} {m:Nat} [AggT P ty m] (h:fn.results=#[.cell p ty,.tmp t,.tmp u]) {b off:Nat} {cs:List Value} {v2 v3:Value} (hp:e p=.pointer (some ⟨b,off,none⟩)) (hm:cs.length=m) (hc:∀ j c,cs[j]? = some c→w.cell? ⟨b,off+j,none⟩=some c) (ht:e t=v2) (hu:e u=v3) (hR:R (.returned (.tuple #[.agg cs.toArray,v2,v3])) w) :
  Fin P fn n R .ret e w:=by
 refine ⟨_,fun a ha=>?_,hR⟩
 have h1:a.tmps.getD p undef=.pointer (some ⟨b,off,none⟩):=by rw [ha.get,hp]
 have h1':a.tmps[p]?.getD undef=.pointer (some ⟨b,off,none⟩):=by simpa using h1
 have h2:a.tmps.getD t undef=v2:=by rw [ha.get,ht]
 have h2':a.tmps[t]?.getD undef=v2:=by simpa using h2
 have h3:a.tmps.getD u undef=v3:=by rw [ha.get,hu]
 have h3':a.tmps[u]?.getD undef=v3:=by simpa using h3
 simp [results,h,h1',h2',h3',asAddr,ji (P:=P) (t:=ty) hm hc]
end
def mi:Rep Bool where
 sz:=1
 rd _ cs b:=cs=[.bool b]
 own _ cs b fp:=cs=[.bool b]∧fp=[]
 rd_len h:=by subst h;rfl
 rd_one h:=by subst h;simp [Value.oneCell']
 rd_ext h _:=h
 own_rd h:=h.1
 own_ext h _:=h
 own_lt h:=by rw [h.2];simp
def u8R:Rep Int where
 sz:=1
 rd _ cs n:=cs=[.int .u8 n]
 own _ cs n fp:=cs=[.int .u8 n]∧fp=[]
 rd_len h:=by subst h;rfl
 rd_one h:=by subst h;simp [Value.oneCell']
 rd_ext h _:=h
 own_rd h:=h.1
 own_ext h _:=h
 own_lt h:=by rw [h.2];simp

def lpS {R V S:Type} (s:Sum R V) (f:R→Option S) (g:V→Option S):Option S:=match s with | .inl r=>f r | .inr v=>g v
def lpB {V S:Type} (s:V) (g:V→Option S):Option S:=g s
theorem exA {R V S:Type} {s:Sum R V} {v:V} {f:R→Option S} {g:V→Option S} {r:S} (h:some (Sum.inr v)=some s) (hK:lpS s f g=some r):g v=some r:=by cases h;exact hK
theorem exL {R V S:Type} {s:Sum R V} {q:R} {f:R→Option S} {g:V→Option S} {r:S} (h:some (Sum.inl q)=some s) (hK:lpS s f g=some r):f q=some r:=by cases h;exact hK
theorem exB {V S:Type} {s v:V} {g:V→Option S} {r:S} (h:some v=some s) (hK:lpB s g=some r):g v=some r:=by cases h;exact hK
theorem ai {α β:Type} {f:α→β} {a:α} {b:β} {l:List α} {m:List β} (h:f a=b) (t:l.map f=m):(a :: l).map f=b :: m:=by rw [List.map_cons,h,t]
theorem am {x:Bool} (h:x=true):(!x)=false:=by rw [h];rfl
theorem an {x:Bool} (h:x=false):(!x)=true:=by rw [h];rfl

theorem dT {P:Program} {n:Nat} {ops:Array Oper} {K:Env→World→Prop} {rest:List Oper} {e:Env} {w:World} {op:Op} {ty:TypeId} {pos:String} {af:Array Edge} {j:Nat} {b':Bool} {d:Nat} (h:(match (ops[j]?).bind (·.dst) with | some t=>e t | none=>undef)=undef) (hd:d<n) (hK:EL P n ops K rest (upd e d undef) w):EL P n ops K (⟨some d,op,ty,pos,af,some (j,b')⟩ :: rest) e w:=by
 intro a ha
 have hy:yielded ops a.tmps j=none:=n9 ha h
 unfold wpList
 rw [if_neg (by simp [Region.wanted,hy])]
 exact hK _ (ha.put hd _)
theorem bv {P:Program} {n:Nat} {ops:Array Oper} {KQ:Env→Prop} {rest:List Oper} {e:Env} {w:World} {op:Op} {ty:TypeId} {pos:String} {af:Array Edge} {j:Nat} {b':Bool} {d:Nat} (h:(match (ops[j]?).bind (·.dst) with | some t=>e t | none=>undef)=undef) (hd:d<n) (hK:QL P n ops w KQ rest (upd e d undef)):QL P n ops w KQ (⟨some d,op,ty,pos,af,some (j,b')⟩ :: rest) e:=by
 intro a ha
 have hy:yielded ops a.tmps j=none:=n9 ha h
 unfold wpQuiet
 rw [if_neg (by simp [Region.wanted,hy])]
 exact hK _ (ha.put hd _)
theorem oc {w:World} {α:Type} {R:Rep α} {E:TypeId} {v:Value} {xs:List α} (h:(aq R E).rd w [v] xs):v.oneCell'=true:=(aq R E).rd_one h v (List.mem_singleton.2 rfl)
theorem aS {e:Env} {x:Operand} {v:Value} (h:ev e x=v) (h1:v.oneCell'=true):(ev e x).cells=[v].toArray:=by rw [h];exact vj h1
theorem all_cons {α:Type} {p:α→Bool} {a:α} {l:List α} (h:p a=true) (t:l.all p=true):(a :: l).all p=true:=by simp [h,t]
theorem vv {w:World} {b off:Nat} {cs:List Value} (h:∀ j c,cs[j]? = some c→w.cell? ⟨b,off+j,none⟩=some c) (k n:Nat):∀ j c,((cs.drop k).take n)[j]? = some c→w.cell? ⟨b,off+k+j,none⟩=some c:=by
 intro j c hj
 rw [List.getElem?_take] at hj
 split at hj
 ·rw [List.getElem?_drop] at hj;rw [Nat.add_assoc];exact h _ c hj
 ·cases hj
section
variable {w w0 wA:World} {Γ rest:List Asn} {α:Type} {R:Rep α} {E:TypeId} {v:Value} {xs:List α}
theorem Sat.top (i:Nat) {A:Asn} (h:Sat w0 w Γ) (hi:Γ[i]? = some A):Sat w0 w (A :: Γ.eraseIdx i):=by
 refine h.perm ?_
 clear h
 induction Γ generalizing i with
 | nil=>simp at hi
 | cons B Γ ih =>
  cases i with
  | zero=>simp at hi;subst hi;exact .refl _
  | succ i =>
   simp at hi
   exact (List.Perm.cons B (ih i hi)).trans (.swap _ _ _)
theorem Sat.rem (i:Nat) {A:Asn} (h:Sat w0 w Γ) (hi:Γ[i]? = some A):Sat w0 w (Γ.eraseIdx i):=(h.top i hi).tail
theorem Sat.rdAt (i:Nat) {cs:List Value} {x:α} {R:Rep α} (h:Sat w0 w Γ) (hi:Γ[i]? = some (Own R cs x)):R.rd w cs x:=(h.top i hi).rd
theorem Sat.nil (R:Rep α) (E:TypeId) (h:Sat w0 w Γ):Sat w0 w (Own (aq R E) [.slice none 0 0] [] :: Γ):=h.add (.inl ⟨rfl,rfl,rfl⟩)
theorem Sat.bool (h:Sat w0 w Γ) (b:Bool):Sat w0 w (Own mi [.bool b] b :: Γ):=h.add ⟨rfl,rfl⟩
theorem Sat.u8 (h:Sat w0 w Γ) (n:Int):Sat w0 w (Own u8R [.int .u8 n] n :: Γ):=h.add ⟨rfl,rfl⟩
theorem au {cs:List Value} (h:(aq R E).rd w cs xs):∃ v,cs=[v]:=List.length_eq_one_iff.1 ((aq R E).rd_len h)
theorem bA {cs:List Value} {x:α} (h:R.rd w0 cs x) (hx:Ext w0 w):R.rd w cs x:=R.rd_ext h hx
theorem Sat.up {cs:List Value} {x:α} (hS:Sat w0 w Γ) (h:R.rd w0 cs x):R.rd w cs x:=R.rd_ext h hS.below
theorem Sat.boxAt (i:Nat) {b:Nat} {cs:List Value} (h:Sat w0 w Γ) (hi:Γ[i]? = some (Box b E cs)):∀ j c,cs[j]? = some c→w.cell? ⟨b,j,none⟩=some c:=by
 have h2:=h.top i hi
 exact h2.boxCell
theorem na {b:Nat} {cs:List Value} (h:∀ j c,cs[j]? = some c→w.cell? ⟨b,j,none⟩=some c) (k n:Nat):∀ j c,((cs.drop k).take n)[j]? = some c→w.cell? ⟨b,k+j,none⟩=some c:=by
 intro j c hj
 rw [List.getElem?_take] at hj
 split at hj
 ·rw [List.getElem?_drop] at hj;exact h _ c hj
 ·cases hj
theorem aJ {b:Nat} {cs:List Value} (h:∀ j c,cs[j]? = some c→w.cell? ⟨b,j,none⟩=some c):∀ j c,cs[j]? = some c→w.cell? ⟨b,0+j,none⟩=some c:=by
 intro j c hj;rw [Nat.zero_add];exact h j c hj
theorem Sat.boxRow (i:Nat) {b:Nat} {cs:List Value} (h:Sat w0 w Γ) (hi:Γ[i]? = some (Box b E cs)):mg w (some ⟨b,0,none⟩) cs :=
 .inr ⟨b,0,rfl,aJ (h.boxAt i hi)⟩
theorem Sat.lit1 {b:Nat} {cs:List Value} {y:α} (h:Sat w0 w (Box b E cs :: Own R cs y :: Γ)):Sat w0 w (Own (aq R E) [.slice (some ⟨b,0,none⟩) 1 1] [y] :: Γ):=by
 refine h.join ?_
 rintro f g ⟨rfl,h1⟩ h2
 have hl:=R.rd_len (R.own_rd h2)
 refine .inr ⟨b,1,cs.toArray,cs,g,rfl,h1,by simp,by unfold maxLen;omega,by simp [hl],by simp [← hl],⟨cs,[],g,[],by simp,by simp,h2,rfl,rfl⟩,by simp⟩
theorem wL {ccs:List Value} {ys:List Int} (h:rdL bj w ccs ys):ccs=ys.map (Value.int .i64):=by
 induction ys generalizing ccs with
 | nil=>simpa [rdL] using h
 | cons y ys ih =>
  obtain ⟨ec,r,rfl,h1,h2⟩:=h
  obtain rfl:=ih h2
  have:ec=[.int .i64 y]:=h1
  rw [this];rfl
theorem dN {v:Value} {ys:List Int} (h:(aq bj E).rd w [v] ys):∃ ao c,v=.slice ao ys.length c∧(ao=none→c=0)∧mg w ao (ys.map (Value.int .i64)):=by
 obtain ⟨ao,cap,ccs,hv,h1,h2,h3,h4,h5⟩:=h
 obtain rfl:=wL h4
 exact ⟨ao,cap,by simpa using hv,h3,h5⟩
end
section
variable {P:Program} {n:Nat} {ops:Array Oper} {K:Env→World→Prop} {rest:List Oper} {e:Env} {w w0 wA:World} {v:Value} {d:Nat} {ty:TypeId} {pos:String} {af:Array Edge} {Γ rΓ:List Asn} {x y:Operand} {α:Type} {R:Rep α} {E E':TypeId}
theorem fo {t:TypeId} [ht:SliceT P t E] {zz:List Value} {m bytes:Nat} [hz:ElemT P E zz m bytes] {xs:List α} (hS:Sat w0 w (Own (aq R E) [v] xs :: Γ)) (hs:ev e x=v)
  (hn:R.sz=m) (hpos:0<m) {k:IntKind} {i:Int} (hi:ev e y=.int k i) {u:α} (h:ix xs i=some u) (hd:d<n)
  (hK:∀ g cap ec,v=.slice (some ⟨g,0,none⟩) xs.length cap→R.rd w ec u→(∀ j c,ec[j]? = some c→w.cell? ⟨g,i.toNat*m+j,none⟩=some c)→EL P n ops K rest (upd e d (.pointer (some ⟨g,i.toNat*m,none⟩))) w) :
  EL P n ops K (⟨some d,.indexAddr t x y,ty,pos,af,none⟩ :: rest) e w:=by
 obtain ⟨k',rfl,hk,rfl⟩:=iM h
 obtain ⟨fp,hv,_⟩:=hS.head
 rcases hv with ⟨_,h2,_⟩ | ⟨g,cap,cur,ccs,f2,hv,hg,h1,h2,h3,h4,h5,rfl⟩
 ·subst h2;simp at hk
 obtain rfl:v=.slice (some ⟨g,0,none⟩) xs.length cap:=by simpa using hv
 obtain ⟨ec,hec,hcc⟩:=mT (f4 h5) k' hk
 have hz:=hz.h
 cases hq:P.info? E with
 | none=>simp [hq] at hz
 | some inf =>
  simp [hq] at hz
  have hsz:inf.size=m:=hz.2.1
  refine lf (v:=.pointer (some ⟨g,k'*m,none⟩)) ?_ hd ?_
  ·intro w' _
   unfold execOp
   simp [hs,hi,Instr.indexAt,asIntOf,run_underlying ht.h,sizeOf,typeInfo,hq,hk,Addr.add_lit,hsz]
  ·refine hK g cap ec rfl hec ?_
   intro j c hj
   have h0:=hcc j c hj
   simp only [Int.toNat_natCast]
   rw [cell_of_row w g _ cur E (0,0) hg,← Array.getElem?_toList]
   rw [← h4,List.getElem?_take] at h0
   rw [← hn]
   split at h0
   ·exact h0
   ·cases h0
theorem fq {t:TypeId} {z:List Value} {m bytes:Nat} [ElemT P t z m bytes] (hn:R.sz=m) {ec:List Value} {yv:α} {xs ys:List α} {g ln cap:Nat} (hv:v=.slice (some ⟨g,0,none⟩) ln cap)
  (hS:Sat w0 w (Own R ec yv :: Own (aq R E) [v] xs :: Γ)) {i:Int} (h:sto xs i yv=some ys) (hx:ev e x=.pointer (some ⟨g,i.toNat*m,none⟩)) (hy:(ev e y).cells=ec.toArray)
  (hK:∀ w',Sat w0 w' (Own (aq R E) [v] ys :: Γ)→EL P n ops K rest e w'):EL P n ops K (⟨none,.store t x y,ty,pos,af,none⟩ :: rest) e w:=by
 subst hv
 have h0:0≤i:=by
  unfold sto at h;split at h
  ·rename_i h1;exact h1.1
  ·cases h
 exact va hn hS i.toNat (i.toNat*m) (by omega) h rfl hx hy hK
end
class BldT (P:Program) (t:TypeId) (pl:outParam (Array (Nat × Nat))):Prop where
 h:∃ fs,P.underlying t=some (.struct fs)∧∀ w,(fs.mapM (fun f=>do pure (f.offset,← sizeOf f.type)):Sem (Array (Nat × Nat))).run P w=.ok pl w
def qA (place:Nat→Option (Nat × Nat)) (cells:List Value):List (Nat × List Value)→Option (List Value)
  | []=>some cells
  | (i,v) :: rest=>match place i with
    | none=>none
    | some (off,size)=>bif Nat.beq v.length size&&Nat.ble (off+v.length) cells.length then qA place (cells.take off++v++cells.drop (off+v.length)) rest else none
theorem rM:∀ (v:List Value) (off k:Nat) (cells:List Value),off+k+v.length≤cells.length →
  ((v.zipIdx k).foldl (fun (cs:Array Value) (c:Value × Nat)=>cs.setIfInBounds (off+c.2) c.1) cells.toArray)=(cells.take (off+k)++v++cells.drop (off+k+v.length)).toArray
 | [],off,k,cells,h=>by simp
 | x :: v,off,k,cells,h=>by
  simp only [List.length_cons] at h
  have hi:off+k<cells.length:=by omega
  simp only [List.zipIdx_cons,List.foldl_cons,List.setIfInBounds_toArray]
  rw [rM v off (k+1) (cells.set (off+k) x) (by simp;omega)]
  have e1:(cells.set (off+k) x).take (off+(k+1))=cells.take (off+k)++[x]:=by
   rw [show off+(k+1)=(off+k)+1 by omega,List.take_set,List.take_succ_eq_append_getElem hi,List.set_append_right _ _ (by simp;omega)]
   simp [show min (off+k) cells.length=off+k by omega]
  have e2:(cells.set (off+k) x).drop (off+(k+1)+v.length)=cells.drop (off+k+(x :: v).length):=by
   rw [List.drop_set_of_lt (by omega)]
   congr 1
   simp only [List.length_cons];omega
  rw [e1,e2];simp
theorem ua (place:Nat→Option (Nat × Nat)):∀ (ps:List (Nat × Value)) (qs:List (Nat × List Value)) (cells:List Value) {r:List Value},ps.map (fun p=>(p.1,p.2.cells))=qs.map (fun q=>(q.1,q.2.toArray))→qA place cells qs=some r→Instr.fill place cells.toArray ps=some r.toArray
  | [],[],cells,r,_,h=>by simp only [qA,Option.some.injEq] at h;subst h;rfl
  | [],_ :: _,_,_,h,_=>by simp at h
  | _ :: _,[],_,_,h,_=>by simp at h
  | (i,v) :: ps,(j,c) :: qs,cells,r,h,hf=>by
    simp only [List.map_cons,List.cons.injEq,Prod.mk.injEq] at h
    obtain ⟨⟨rfl,hc⟩,ht⟩:=h
    unfold qA at hf
    unfold Instr.fill
    cases hp:place i with
    | none=>simp [hp] at hf
    | some os =>
      obtain ⟨off,size⟩:=os
      simp only [hp] at hf ⊢
      cases hb:(Nat.beq c.length size&&Nat.ble (off+c.length) cells.length) with
      | false=>rw [hb] at hf;cases hf
      | true =>
        rw [hb] at hf
        simp only [Bool.and_eq_true] at hb
        have h1:=Nat.eq_of_beq_eq_true hb.1
        have h2:=Nat.le_of_ble_eq_true hb.2
        rw [hc]
        have hn:(decide (c.toArray.size≠size)||decide (off+c.toArray.size > cells.toArray.size))=false:=by simp;omega
        rw [if_neg (by simp only [hn];simp)]
        have:=rM c off 0 cells (by omega)
        simp only [Nat.add_zero] at this
        have e:c.toArray.zipIdx.foldl (fun cs (c,j)=>cs.setIfInBounds (off+j) c) cells.toArray=(cells.take off++c++cells.drop (off+c.length)).toArray:=by
          rw [← this]
          simp
        rw [e]
        exact ua place ps qs _ ht hf
theorem bz {P:Program} {e:Env} {w:World} {d:Option Nat} {ty:TypeId} {pos:String} {af:Array Edge} {t:TypeId} {z:List Value} {n bytes:Nat} {pl:Array (Nat × Nat)} [hz:ElemT P t z n bytes] [hb:BldT P t pl] {parts:Array (Nat × Operand)} (qs:List (Nat × List Value)) (r:List Value)
  (hp:parts.toList.map (fun p=>(p.1,(ev e p.2).cells))=qs.map (fun q=>(q.1,q.2.toArray))) (hf:qA (pl[·]?) z qs=some r):PV P ⟨d,.build t parts,ty,pos,af,none⟩ e w (.agg r.toArray):=fun w' _=>by
 have hz:=hz.h
 obtain ⟨fs,h1,h2⟩:=hb.h
 cases hi:P.info? t with
 | none=>simp [hi] at hz
 | some i =>
 cases hzz:i.zero with
 | none=>simp [hi,hzz] at hz
 | some zv =>
 simp [hi,hzz] at hz
 have hzc:zv.cells=z.toArray:=by rw [← hz.1]
 have hff:=ua (pl[·]?) (parts.toList.map fun p=>(p.1,ev e p.2)) qs z (by rw [List.map_map];exact hp) hf
 unfold execOp
 simp only [Instr.build,zeroValue,typeInfo,hi,hzz,Sem.run_bind,Sem.run_pure,run_program,Result.andThen_ok,run_underlying h1,h2,hzc,Array.toList_map]
 rw [hff]
 simp
theorem fQ {e:Env} {i:Nat} {x:Operand} {c:List Value} {l:List (Nat × Operand)} {m:List (Nat × List Value)} (h:(ev e x).cells=c.toArray) (t:l.map (fun p=>(p.1,(ev e p.2).cells))=m.map (fun q=>(q.1,q.2.toArray))) :
  ((i,x) :: l).map (fun p=>(p.1,(ev e p.2).cells))=((i,c) :: m).map (fun q=>(q.1,q.2.toArray)):=by
 rw [List.map_cons,List.map_cons,t,h]
theorem Sat.pair3 {w0 w:World} {Γ:List Asn} {α β γ:Type} {R:Rep α} {S:Rep β} {T:Rep γ} {c d f:List Value} {x:α} {y:β} {z:γ} (h:Sat w0 w (Own R c x :: Own S d y :: Own T f z :: Γ)):Sat w0 w (Own (cx R (cx S T)) (c++(d++f)) (x,y,z) :: Γ):=by
 have h1:Sat w0 w (Own S d y :: Own T f z :: Own R c x :: Γ):=h.perm (List.Perm.trans (.swap _ _ _) (List.Perm.cons _ (.swap _ _ _)))
 have h2:=h1.pair
 exact (h2.perm (.swap _ _ _)).pair
-- int64
instance:PlainT Tryz.prog 2:=⟨_,Tryz.underlying2,trivial⟩
instance:ElemT Tryz.prog 2 [.int .i64 0] 1 8:=⟨by kernel_rfl⟩
-- int
instance:PlainT Tryz.prog 3:=⟨_,Tryz.underlying3,trivial⟩
instance:ElemT Tryz.prog 3 [.int .i64 0] 1 8:=⟨by kernel_rfl⟩
-- bool
instance:PlainT Tryz.prog 4:=⟨_,Tryz.underlying4,trivial⟩
instance:ElemT Tryz.prog 4 [.bool false] 1 1:=⟨by kernel_rfl⟩
-- uint8
instance:PlainT Tryz.prog 5:=⟨_,Tryz.underlying5,trivial⟩
instance:ElemT Tryz.prog 5 [.int .u8 0] 1 1:=⟨by kernel_rfl⟩
-- string
instance:PlainT Tryz.prog 9:=⟨_,Tryz.underlying9,trivial⟩
instance:ElemT Tryz.prog 9 [.string ByteArray.empty] 1 16:=⟨by kernel_rfl⟩
-- uintptr
instance:PlainT Tryz.prog 12:=⟨_,Tryz.underlying12,trivial⟩
instance:ElemT Tryz.prog 12 [.int .u64 0] 1 8:=⟨by kernel_rfl⟩
-- int32
instance:PlainT Tryz.prog 21:=⟨_,Tryz.underlying21,trivial⟩
instance:ElemT Tryz.prog 21 [.int .i32 0] 1 4:=⟨by kernel_rfl⟩
-- []laws.Table
instance:PlainT Tryz.prog 22:=⟨_,Tryz.underlying22,trivial⟩
instance:SliceT Tryz.prog 22 69:=⟨Tryz.underlying22⟩
instance:ElemT Tryz.prog 22 [.slice none 0 0] 1 24:=⟨by kernel_rfl⟩
-- struct { Tables []laws.Table }
instance:AggT Tryz.prog 23 1:=⟨⟨_,Tryz.underlying23,trivial⟩,by kernel_rfl⟩
instance:FldT Tryz.prog 23 0 0:=⟨_,_,Tryz.underlying23,rfl,rfl,by kernel_rfl⟩
instance:BldT Tryz.prog 23 #[(0,1)]:=⟨_,Tryz.underlying23,fun w=>by kernel_rfl⟩
instance:ElemT Tryz.prog 23 [.slice none 0 0] 1 24:=⟨by kernel_rfl⟩
-- laws.Database
instance:AggT Tryz.prog 24 1:=⟨⟨_,Tryz.underlying24,trivial⟩,by kernel_rfl⟩
instance:FldT Tryz.prog 24 0 0:=⟨_,_,Tryz.underlying24,rfl,rfl,by kernel_rfl⟩
instance:BldT Tryz.prog 24 #[(0,1)]:=⟨_,Tryz.underlying24,fun w=>by kernel_rfl⟩
instance:ElemT Tryz.prog 24 [.slice none 0 0] 1 24:=⟨by kernel_rfl⟩
-- []laws.Atom
instance:PlainT Tryz.prog 25:=⟨_,Tryz.underlying25,trivial⟩
instance:SliceT Tryz.prog 25 72:=⟨Tryz.underlying25⟩
instance:ElemT Tryz.prog 25 [.slice none 0 0] 1 24:=⟨by kernel_rfl⟩
-- []int
instance:PlainT Tryz.prog 26:=⟨_,Tryz.underlying26,trivial⟩
instance:SliceT Tryz.prog 26 3:=⟨Tryz.underlying26⟩
instance:ElemT Tryz.prog 26 [.slice none 0 0] 1 24:=⟨by kernel_rfl⟩
-- struct { VariableCount int;Atoms []laws.Atom;Output []int }
instance:AggT Tryz.prog 27 3:=⟨⟨_,Tryz.underlying27,trivial⟩,by kernel_rfl⟩
instance:FldT Tryz.prog 27 0 0:=⟨_,_,Tryz.underlying27,rfl,rfl,by kernel_rfl⟩
instance:FldT Tryz.prog 27 1 1:=⟨_,_,Tryz.underlying27,rfl,rfl,by kernel_rfl⟩
instance:FldT Tryz.prog 27 2 2:=⟨_,_,Tryz.underlying27,rfl,rfl,by kernel_rfl⟩
instance:BldT Tryz.prog 27 #[(0,1),(1,1),(2,1)]:=⟨_,Tryz.underlying27,fun w=>by kernel_rfl⟩
instance:ElemT Tryz.prog 27 [.int .i64 0,.slice none 0 0,.slice none 0 0] 3 56:=⟨by kernel_rfl⟩
-- laws.Query
instance:AggT Tryz.prog 28 3:=⟨⟨_,Tryz.underlying28,trivial⟩,by kernel_rfl⟩
instance:FldT Tryz.prog 28 0 0:=⟨_,_,Tryz.underlying28,rfl,rfl,by kernel_rfl⟩
instance:FldT Tryz.prog 28 1 1:=⟨_,_,Tryz.underlying28,rfl,rfl,by kernel_rfl⟩
instance:FldT Tryz.prog 28 2 2:=⟨_,_,Tryz.underlying28,rfl,rfl,by kernel_rfl⟩
instance:BldT Tryz.prog 28 #[(0,1),(1,1),(2,1)]:=⟨_,Tryz.underlying28,fun w=>by kernel_rfl⟩
instance:ElemT Tryz.prog 28 [.int .i64 0,.slice none 0 0,.slice none 0 0] 3 56:=⟨by kernel_rfl⟩
-- [][]int
instance:PlainT Tryz.prog 31:=⟨_,Tryz.underlying31,trivial⟩
instance:SliceT Tryz.prog 31 26:=⟨Tryz.underlying31⟩
instance:ElemT Tryz.prog 31 [.slice none 0 0] 1 24:=⟨by kernel_rfl⟩
-- []impl.Table
instance:PlainT Tryz.prog 33:=⟨_,Tryz.underlying33,trivial⟩
instance:SliceT Tryz.prog 33 74:=⟨Tryz.underlying33⟩
instance:ElemT Tryz.prog 33 [.slice none 0 0] 1 24:=⟨by kernel_rfl⟩
-- struct { Tables []impl.Table }
instance:AggT Tryz.prog 34 1:=⟨⟨_,Tryz.underlying34,trivial⟩,by kernel_rfl⟩
instance:FldT Tryz.prog 34 0 0:=⟨_,_,Tryz.underlying34,rfl,rfl,by kernel_rfl⟩
instance:BldT Tryz.prog 34 #[(0,1)]:=⟨_,Tryz.underlying34,fun w=>by kernel_rfl⟩
instance:ElemT Tryz.prog 34 [.slice none 0 0] 1 24:=⟨by kernel_rfl⟩
-- impl.Database
instance:AggT Tryz.prog 35 1:=⟨⟨_,Tryz.underlying35,trivial⟩,by kernel_rfl⟩
instance:FldT Tryz.prog 35 0 0:=⟨_,_,Tryz.underlying35,rfl,rfl,by kernel_rfl⟩
instance:BldT Tryz.prog 35 #[(0,1)]:=⟨_,Tryz.underlying35,fun w=>by kernel_rfl⟩
instance:ElemT Tryz.prog 35 [.slice none 0 0] 1 24:=⟨by kernel_rfl⟩
-- []impl.Atom
instance:PlainT Tryz.prog 37:=⟨_,Tryz.underlying37,trivial⟩
instance:SliceT Tryz.prog 37 76:=⟨Tryz.underlying37⟩
instance:ElemT Tryz.prog 37 [.slice none 0 0] 1 24:=⟨by kernel_rfl⟩
-- struct { VariableCount int;Atoms []impl.Atom;Output []int }
instance:AggT Tryz.prog 38 3:=⟨⟨_,Tryz.underlying38,trivial⟩,by kernel_rfl⟩
instance:FldT Tryz.prog 38 0 0:=⟨_,_,Tryz.underlying38,rfl,rfl,by kernel_rfl⟩
instance:FldT Tryz.prog 38 1 1:=⟨_,_,Tryz.underlying38,rfl,rfl,by kernel_rfl⟩
instance:FldT Tryz.prog 38 2 2:=⟨_,_,Tryz.underlying38,rfl,rfl,by kernel_rfl⟩
instance:BldT Tryz.prog 38 #[(0,1),(1,1),(2,1)]:=⟨_,Tryz.underlying38,fun w=>by kernel_rfl⟩
instance:ElemT Tryz.prog 38 [.int .i64 0,.slice none 0 0,.slice none 0 0] 3 56:=⟨by kernel_rfl⟩
-- impl.Query
instance:AggT Tryz.prog 39 3:=⟨⟨_,Tryz.underlying39,trivial⟩,by kernel_rfl⟩
instance:FldT Tryz.prog 39 0 0:=⟨_,_,Tryz.underlying39,rfl,rfl,by kernel_rfl⟩
instance:FldT Tryz.prog 39 1 1:=⟨_,_,Tryz.underlying39,rfl,rfl,by kernel_rfl⟩
instance:FldT Tryz.prog 39 2 2:=⟨_,_,Tryz.underlying39,rfl,rfl,by kernel_rfl⟩
instance:BldT Tryz.prog 39 #[(0,1),(1,1),(2,1)]:=⟨_,Tryz.underlying39,fun w=>by kernel_rfl⟩
instance:ElemT Tryz.prog 39 [.int .i64 0,.slice none 0 0,.slice none 0 0] 3 56:=⟨by kernel_rfl⟩
-- struct { Arity int;Rows [][]int }
instance:AggT Tryz.prog 57 2:=⟨⟨_,Tryz.underlying57,trivial⟩,by kernel_rfl⟩
instance:FldT Tryz.prog 57 0 0:=⟨_,_,Tryz.underlying57,rfl,rfl,by kernel_rfl⟩
instance:FldT Tryz.prog 57 1 1:=⟨_,_,Tryz.underlying57,rfl,rfl,by kernel_rfl⟩
instance:BldT Tryz.prog 57 #[(0,1),(1,1)]:=⟨_,Tryz.underlying57,fun w=>by kernel_rfl⟩
instance:ElemT Tryz.prog 57 [.int .i64 0,.slice none 0 0] 2 32:=⟨by kernel_rfl⟩
-- impl.Relation
instance:AggT Tryz.prog 58 2:=⟨⟨_,Tryz.underlying58,trivial⟩,by kernel_rfl⟩
instance:FldT Tryz.prog 58 0 0:=⟨_,_,Tryz.underlying58,rfl,rfl,by kernel_rfl⟩
instance:FldT Tryz.prog 58 1 1:=⟨_,_,Tryz.underlying58,rfl,rfl,by kernel_rfl⟩
instance:BldT Tryz.prog 58 #[(0,1),(1,1)]:=⟨_,Tryz.underlying58,fun w=>by kernel_rfl⟩
instance:ElemT Tryz.prog 58 [.int .i64 0,.slice none 0 0] 2 32:=⟨by kernel_rfl⟩
-- laws.Relation
instance:AggT Tryz.prog 67 2:=⟨⟨_,Tryz.underlying67,trivial⟩,by kernel_rfl⟩
instance:FldT Tryz.prog 67 0 0:=⟨_,_,Tryz.underlying67,rfl,rfl,by kernel_rfl⟩
instance:FldT Tryz.prog 67 1 1:=⟨_,_,Tryz.underlying67,rfl,rfl,by kernel_rfl⟩
instance:BldT Tryz.prog 67 #[(0,1),(1,1)]:=⟨_,Tryz.underlying67,fun w=>by kernel_rfl⟩
instance:ElemT Tryz.prog 67 [.int .i64 0,.slice none 0 0] 2 32:=⟨by kernel_rfl⟩
-- struct { Name string;Relation laws.Relation }
instance:AggT Tryz.prog 68 3:=⟨⟨_,Tryz.underlying68,trivial⟩,by kernel_rfl⟩
instance:FldT Tryz.prog 68 0 0:=⟨_,_,Tryz.underlying68,rfl,rfl,by kernel_rfl⟩
instance:FldT Tryz.prog 68 1 1:=⟨_,_,Tryz.underlying68,rfl,rfl,by kernel_rfl⟩
instance:BldT Tryz.prog 68 #[(0,1),(1,2)]:=⟨_,Tryz.underlying68,fun w=>by kernel_rfl⟩
instance:ElemT Tryz.prog 68 [.string ByteArray.empty,.int .i64 0,.slice none 0 0] 3 48:=⟨by kernel_rfl⟩
-- laws.Table
instance:AggT Tryz.prog 69 3:=⟨⟨_,Tryz.underlying69,trivial⟩,by kernel_rfl⟩
instance:FldT Tryz.prog 69 0 0:=⟨_,_,Tryz.underlying69,rfl,rfl,by kernel_rfl⟩
instance:FldT Tryz.prog 69 1 1:=⟨_,_,Tryz.underlying69,rfl,rfl,by kernel_rfl⟩
instance:BldT Tryz.prog 69 #[(0,1),(1,2)]:=⟨_,Tryz.underlying69,fun w=>by kernel_rfl⟩
instance:ElemT Tryz.prog 69 [.string ByteArray.empty,.int .i64 0,.slice none 0 0] 3 48:=⟨by kernel_rfl⟩
-- struct { Relation string;Vars []int }
instance:AggT Tryz.prog 71 2:=⟨⟨_,Tryz.underlying71,trivial⟩,by kernel_rfl⟩
instance:FldT Tryz.prog 71 0 0:=⟨_,_,Tryz.underlying71,rfl,rfl,by kernel_rfl⟩
instance:FldT Tryz.prog 71 1 1:=⟨_,_,Tryz.underlying71,rfl,rfl,by kernel_rfl⟩
instance:BldT Tryz.prog 71 #[(0,1),(1,1)]:=⟨_,Tryz.underlying71,fun w=>by kernel_rfl⟩
instance:ElemT Tryz.prog 71 [.string ByteArray.empty,.slice none 0 0] 2 40:=⟨by kernel_rfl⟩
-- laws.Atom
instance:AggT Tryz.prog 72 2:=⟨⟨_,Tryz.underlying72,trivial⟩,by kernel_rfl⟩
instance:FldT Tryz.prog 72 0 0:=⟨_,_,Tryz.underlying72,rfl,rfl,by kernel_rfl⟩
instance:FldT Tryz.prog 72 1 1:=⟨_,_,Tryz.underlying72,rfl,rfl,by kernel_rfl⟩
instance:BldT Tryz.prog 72 #[(0,1),(1,1)]:=⟨_,Tryz.underlying72,fun w=>by kernel_rfl⟩
instance:ElemT Tryz.prog 72 [.string ByteArray.empty,.slice none 0 0] 2 40:=⟨by kernel_rfl⟩
-- struct { Name string;Relation impl.Relation }
instance:AggT Tryz.prog 73 3:=⟨⟨_,Tryz.underlying73,trivial⟩,by kernel_rfl⟩
instance:FldT Tryz.prog 73 0 0:=⟨_,_,Tryz.underlying73,rfl,rfl,by kernel_rfl⟩
instance:FldT Tryz.prog 73 1 1:=⟨_,_,Tryz.underlying73,rfl,rfl,by kernel_rfl⟩
instance:BldT Tryz.prog 73 #[(0,1),(1,2)]:=⟨_,Tryz.underlying73,fun w=>by kernel_rfl⟩
instance:ElemT Tryz.prog 73 [.string ByteArray.empty,.int .i64 0,.slice none 0 0] 3 48:=⟨by kernel_rfl⟩
-- impl.Table
instance:AggT Tryz.prog 74 3:=⟨⟨_,Tryz.underlying74,trivial⟩,by kernel_rfl⟩
instance:FldT Tryz.prog 74 0 0:=⟨_,_,Tryz.underlying74,rfl,rfl,by kernel_rfl⟩
instance:FldT Tryz.prog 74 1 1:=⟨_,_,Tryz.underlying74,rfl,rfl,by kernel_rfl⟩
instance:BldT Tryz.prog 74 #[(0,1),(1,2)]:=⟨_,Tryz.underlying74,fun w=>by kernel_rfl⟩
instance:ElemT Tryz.prog 74 [.string ByteArray.empty,.int .i64 0,.slice none 0 0] 3 48:=⟨by kernel_rfl⟩
-- impl.Atom
instance:AggT Tryz.prog 76 2:=⟨⟨_,Tryz.underlying76,trivial⟩,by kernel_rfl⟩
instance:FldT Tryz.prog 76 0 0:=⟨_,_,Tryz.underlying76,rfl,rfl,by kernel_rfl⟩
instance:FldT Tryz.prog 76 1 1:=⟨_,_,Tryz.underlying76,rfl,rfl,by kernel_rfl⟩
instance:BldT Tryz.prog 76 #[(0,1),(1,1)]:=⟨_,Tryz.underlying76,fun w=>by kernel_rfl⟩
instance:ElemT Tryz.prog 76 [.string ByteArray.empty,.slice none 0 0] 2 40:=⟨by kernel_rfl⟩
-- []impl.Trie
instance:PlainT Tryz.prog 78:=⟨_,Tryz.underlying78,trivial⟩
instance:SliceT Tryz.prog 78 97:=⟨Tryz.underlying78⟩
instance:ElemT Tryz.prog 78 [.slice none 0 0] 1 24:=⟨by kernel_rfl⟩
-- impl.Trie
instance:AggT Tryz.prog 97 2:=⟨⟨_,Tryz.underlying97,trivial⟩,by kernel_rfl⟩
instance:FldT Tryz.prog 97 0 0:=⟨_,_,Tryz.underlying97,rfl,rfl,by kernel_rfl⟩
instance:FldT Tryz.prog 97 1 1:=⟨_,_,Tryz.underlying97,rfl,rfl,by kernel_rfl⟩
instance:BldT Tryz.prog 97 #[(0,1),(1,1)]:=⟨_,Tryz.underlying97,fun w=>by kernel_rfl⟩
instance:ElemT Tryz.prog 97 [.int .i64 0,.slice none 0 0] 2 32:=⟨by kernel_rfl⟩
-- []uint8
instance:PlainT Tryz.prog 108:=⟨_,Tryz.underlying108,trivial⟩
instance:SliceT Tryz.prog 108 5:=⟨Tryz.underlying108⟩
instance:ElemT Tryz.prog 108 [.slice none 0 0] 1 24:=⟨by kernel_rfl⟩
-- []bool
instance:PlainT Tryz.prog 127:=⟨_,Tryz.underlying127,trivial⟩
instance:SliceT Tryz.prog 127 4:=⟨Tryz.underlying127⟩
instance:ElemT Tryz.prog 127 [.slice none 0 0] 1 24:=⟨by kernel_rfl⟩
-- uint32
instance:PlainT Tryz.prog 143:=⟨_,Tryz.underlying143,trivial⟩
instance:ElemT Tryz.prog 143 [.int .u32 0] 1 4:=⟨by kernel_rfl⟩
def AL (P:Program) (n:Nat) (ops:Array Oper) (X:List Nat) (C:World→Prop) (K:Env→World→Prop):Nat→Array Bool→Env→World→Prop
 | 0,L,e,w=>Region.ready .any ops L=[]∧K e w
 | f+1,L,e,w=>(Region.ready .any ops L=[]→K e w) ∧
  ∀ i∈Region.ready .any ops L,∃ o,ops[i]? = some o∧EL P n ops (fun e' w'=>(X.contains i=true→C w')∧AL P n ops X C K f (L.setIfInBounds i true) e' w') [o] e w

section
variable {P:Program} {n:Nat} {ops:Array Oper} {X:List Nat} {C:World→Prop} {K:Env→World→Prop}
theorem zQ {o:Oper} {a:Act} {w:World} {N N2:Act→World→Prop} {K1 K2:Env→World→Prop} (h:∀ a w,N a w→N2 a w) (hh:o.wp P a w N (nrm n K1)):o.wp P a w N2 (nrm n K2):=by
  unfold Oper.wp at *
  generalize (execOp a.eval o).run P w=r at *
  cases r with
  | ok m w' =>
    cases m <;> simp only [Oper.upon] at hh ⊢ <;>
      first
        | exact h _ _ hh
        | exact Calls.mono hh (fun e w'' he=>by
            cases e with
            | returned v=>exact h _ _ he
            | panicked ch=>exact absurd he.1 (by simp)
            | outgrown=>obtain ⟨_,_,hx,_⟩:=he;exact absurd hx (by simp))
        | exact Rows.mono hh (fun _ _ he=>h _ _ he)
  | halt x w' =>
    cases x <;> simp only [Oper.upon] at hh ⊢
    exact absurd hh.1 (by simp)
theorem wo {K:Env→World→Prop}:¬ LetsOut (nrm n K):=by
 rintro ⟨_,_,h,_⟩;exact absurd h (by simp)
theorem AL.any:∀ (f:Nat) (L:Array Bool) (e:Env) (a:Act) (w:World),Mt n e a→AL P n ops X C K f L e w→wpAny P .any ops (nrm n K) f L a w
 | 0,_,e,a,_,ha,h=>⟨h.1,rfl,e,ha,h.2⟩
 | f+1,L,e,a,w,ha,h=>by
  refine ⟨fun h0=>⟨rfl,e,ha,h.1 h0⟩,fun i hi=>?_⟩
  obtain ⟨o,ho,hE⟩:=h.2 i hi
  have:=hE a ha
  unfold wpOp
  simp only [ho]
  unfold wpList at this
  have key:∀ a w,wpList P ops (nrm n fun e' w'=>(X.contains i=true→C w')∧AL P n ops X C K f (L.setIfInBounds i true) e' w') [] a w→wpAny P .any ops (nrm n K) f (L.setIfInBounds i true) a w:=by
   rintro a w ⟨_,e',ha',_,h2⟩
   exact AL.any f _ e' a w ha' h2
  split
  ·rename_i hw
   rw [if_pos hw] at this
   rcases this with h1 | ⟨_,h1⟩
   ·exact .inl (zQ key h1)
   ·exact absurd h1 wo
  ·rename_i hw
   rw [if_neg hw] at this
   exact key _ _ this
theorem d8 {id:Nat} {l:List Oper} {Q:Exit→Env→World→Prop} {e:Env} {w:World} (X:List Nat) (C:World→Prop) (hm:P.follows .mixedOrders=true)
  (hx:∀ w',Ext w w'→AL P n l.toArray X C (fun e w=>Q .normal e w) l.length (Array.replicate l.length false) e w'):CW P n (.region id l.toArray true) Q e w:=by
 intro a ha
 have h2:=hx { w with drawn:=w.drawn+1 } ⟨rfl,rfl,rfl,Nat.le_refl _,fun _ _=>rfl⟩
 have:=AL.any _ _ _ a _ ha h2
 refine wp_mono (wp_region_any (Q:=nrm n fun e w=>Q .normal e w) hm (by simpa using this)) ?_
 rintro x a w ⟨rfl,e,he,hk⟩
 exact ⟨e,he,hk⟩

def SV (P:Program) (n:Nat) (ops:Array Oper) (C:World→Prop) (o:Oper) (e:Env) (v:Value):Prop :=
 ∀ a,Mt n e a→(Region.wanted o (yielded ops a.tmps)=true∧∀ w',C w'→(execOp a.eval o).run P w'=.ok (.value v) w')∨(Region.wanted o (yielded ops a.tmps)=false∧v=undef)
def mH (ops:Array Oper) (X:List Nat) (L:Array Bool) (i:Nat) (o:Oper):Bool :=
 (List.range ops.size).all fun j=>Nat.beq j i||L.getD j true||(match ops[j]? with
  | some oj=>oj.after.any (fun e=>Region.binds .any e&&Nat.beq e.on i)||(o.apart ops oj&&X.contains j)
  | none=>true)
theorem mr {L:Array Bool} {i:Nat}:i∈Region.ready .any ops L↔L.getD i true=false∧∃ o,ops[i]? = some o∧∀ e∈o.after,Region.binds .any e=true→L.getD e.on false=true:=by
 unfold Region.ready
 simp only [List.mem_filter,List.mem_range,Bool.and_eq_true,Bool.not_eq_true']
 constructor
 ·rintro ⟨h1,h2,h3⟩
  refine ⟨h2,ops[i],Array.getElem?_eq_getElem h1,fun e he hb=>?_⟩
  rw [Array.getElem?_eq_getElem h1] at h3
  simp only [Option.map_some,Option.getD_some,Array.all_eq_true_iff_forall_mem] at h3
  have:=h3 e he
  simpa [hb] using this
 ·rintro ⟨h2,o,h1,h3⟩
  obtain ⟨hlt,rfl⟩:=Array.getElem?_eq_some_iff.1 h1
  refine ⟨hlt,h2,?_⟩
  rw [h1]
  simp only [Option.map_some,Option.getD_some,Array.all_eq_true_iff_forall_mem]
  intro e he
  by_cases hb:Region.binds .any e=true
  ·simp [h3 e he hb]
  ·simp [hb]
theorem mD {L:Array Bool} {i j:Nat} {d:Bool} (h:j≠i):(L.setIfInBounds i true).getD j d=L.getD j d:=by
 simp [Array.getElem?_setIfInBounds_ne (Ne.symm h)]
theorem tA {L:Array Bool} {i j:Nat} (h:L.getD j false=true):(L.setIfInBounds i true).getD j false=true:=by
 by_cases hj:j=i
 ·subst hj
  have:j<L.size:=by
   rcases Nat.lt_or_ge j L.size with h1 | h1
   ·exact h1
   ·simp [Array.getElem?_eq_none h1] at h
  simp [this]
 ·rw [mD hj];exact h
theorem ow {L:Array Bool} {i j:Nat} (hij:j≠i) (h:j∈Region.ready .any ops L):j∈Region.ready .any ops (L.setIfInBounds i true):=by
 obtain ⟨h1,o,h2,h3⟩:=mr.1 h
 exact mr.2 ⟨by rw [mD hij];exact h1,o,h2,fun e he hb=>tA (h3 e he hb)⟩
theorem wX (L:Array Bool) (i j:Nat):(L.setIfInBounds i true).setIfInBounds j true=(L.setIfInBounds j true).setIfInBounds i true:=by
 by_cases h:i=j
 ·subst h;rfl
 ·exact Array.setIfInBounds_comm _ _ h
theorem wZ {L:Array Bool} {i j:Nat} {o:Oper} (h:mH ops X L i o=true):mH ops X (L.setIfInBounds j true) i o=true:=by
 unfold mH at *
 rw [List.all_eq_true] at *
 intro k hk
 have:=h k hk
 by_cases hkj:k=j
 ·subst hkj
  have:k<ops.size:=by simpa using hk
  by_cases hkl:k<L.size
  ·simp [hkl]
  ·have hn:L[k]? = none:=Array.getElem?_eq_none (by omega)
   simp [hkl]
 ·rw [mD hkj];exact this
def xt (a:Act):Env:=fun t=>a.tmps.getD t undef
theorem z9 {a:Act} (h1:a.tmps.size=n) (h2:a.defers=[]):Mt n (xt a) a:=⟨h1,h2,fun _=>rfl⟩
theorem Mt.uniq {a:Act} {e e':Env} (h:Mt n e a) (h':Mt n e' a):e=e':=by funext t;rw [← h.get,← h'.get]
theorem wG (a:Act) (d:Option Nat) (v:Value):(a.put d v).tmps.size=a.tmps.size:=by cases d <;> simp [Act.put]
theorem xP (a:Act) (d:Option Nat) (v:Value):(a.put d v).defers=a.defers:=by cases d <;> rfl
theorem sW {a b:Act} (h:∀ t,a.tmps.getD t undef=b.tmps.getD t undef) (hs:a.tmps.size=b.tmps.size):a.tmps=b.tmps:=by
 apply Array.ext hs
 intro i h1 h2
 have:=h i
 simpa [Array.getD,h1,h2] using this
theorem wY {o:Oper} {a a':Act} {N N2:Act→World→Prop} {K1 K2:Env→World→Prop} (h:∀ u w,N (a'.put o.dst u) w→N2 (a.put o.dst u) w) (hd:∀ d u w,¬ N (({ a' with defers:=d :: a'.defers }:Act).put o.dst u) w) {r:Result Next}
    (hh:o.upon P a' N (nrm n K1) r):o.upon P a N2 (nrm n K2) r:=by
  cases r with
  | ok m w' =>
    cases m <;> simp only [Oper.upon] at hh ⊢ <;>
      first
        | exact h _ _ hh
        | exact absurd hh (hd _ _ _)
        | exact Calls.mono hh (fun e w'' he=>by
            cases e with
            | returned v=>exact h _ _ he
            | panicked ch=>exact absurd he.1 (by simp)
            | outgrown=>obtain ⟨_,_,hx,_⟩:=he;exact absurd hx (by simp))
        | exact Rows.mono hh (fun _ _ he=>h _ _ he)
  | halt x w' =>
    cases x <;> simp only [Oper.upon] at hh ⊢
    exact absurd hh.1 (by simp)
def ms (ops:Array Oper):Bool:=ops.all fun o=>match o.op with | .select ..=>false | _=>true
theorem sL (h:ms ops=true) {i:Nat} {o:Oper} (hi:ops[i]? = some o):∀ cs b,o.op≠.select cs b:=by
 intro cs b e
 unfold ms at h
 rw [Array.all_eq_true_iff_forall_mem] at h
 have:=h o (Array.mem_of_getElem? hi)
 simp [e] at this
theorem xN (hsel:ms ops=true) (i:Nat) {o:Oper} {d:Nat} {v:Value} (hi:ops[i]? = some o) (hdst:o.dst=some d) (hdn:d<n) :
  ∀ (f:Nat) (L:Array Bool) (e:Env) (w:World),C w→mH ops X L i o=true→i∈Region.ready .any ops L→SV P n ops C o e v→AL P n ops X C K f (L.setIfInBounds i true) (upd e d v) w→AL P n ops X C K (f+1) L e w:=by
 intro f
 induction f with
 | zero =>
  intro L e w hC hf hr hy H
  refine ⟨fun h=>(by rw [h] at hr;cases hr),fun j hj=>?_⟩
  by_cases hji:j=i
  ·subst hji
   refine ⟨o,hi,fun a ha=>?_⟩
   unfold wpList
   rcases hy a ha with ⟨hw,hv⟩ | ⟨hw,rfl⟩
   ·rw [if_pos hw]
    refine .inl ?_
    unfold Oper.wp
    rw [hv w hC]
    simp only [Oper.upon,hdst]
    exact ⟨rfl,_,ha.put hdn v,fun _=>hC,H⟩
   ·rw [if_neg (by simp [hw])]
    rw [hdst]
    exact ⟨rfl,_,ha.put hdn _,fun _=>hC,H⟩
  ·have:=ow (i:=i) hji hj
   rw [H.1] at this;cases this
 | succ f ih =>
  intro L e w hC hf hr hy H
  refine ⟨fun h=>(by rw [h] at hr;cases hr),fun j hj=>?_⟩
  by_cases hji:j=i
  ·subst hji
   refine ⟨o,hi,fun a ha=>?_⟩
   unfold wpList
   rcases hy a ha with ⟨hw,hv⟩ | ⟨hw,rfl⟩
   ·rw [if_pos hw]
    refine .inl ?_
    unfold Oper.wp
    rw [hv w hC]
    simp only [Oper.upon,hdst]
    exact ⟨rfl,_,ha.put hdn v,fun _=>hC,H⟩
   ·rw [if_neg (by simp [hw])]
    rw [hdst]
    exact ⟨rfl,_,ha.put hdn _,fun _=>hC,H⟩
  ·obtain ⟨oj,hoj,hE⟩:=H.2 j (ow hji hj)
   have hjL:=(mr.1 hj)
   have hiL:=(mr.1 hr)
   have hap:o.apart ops oj=true∧X.contains j=true:=by
    have h1:=hf
    unfold mH at h1
    rw [List.all_eq_true] at h1
    have h2:=h1 j (by simp [(Array.getElem?_eq_some_iff.1 hoj).1])
    have hb:Nat.beq j i=false:=ov hji
    simp only [hb,hjL.1,hoj,Bool.false_or,Bool.or_eq_true,Bool.and_eq_true] at h2
    rcases h2 with h2 | h2
    ·exfalso
     obtain ⟨_,h3,h4⟩:=hjL.2
     rw [hoj] at h3;obtain rfl:=Option.some.inj h3
     rw [Array.any_eq_true'] at h2
     obtain ⟨ed,hm,h5⟩:=h2
     simp only [Bool.and_eq_true] at h5
     have h6:=h4 ed hm h5.1
     have h7:ed.on=i:=Nat.eq_of_beq_eq_true h5.2
     rw [h7] at h6
     have:=hiL.1
     cases hx:L[i]? with
     | none=>simp [Array.getD_eq_getD_getElem?,hx] at this
     | some b=>simp [Array.getD_eq_getD_getElem?,hx] at this h6;simp [this] at h6
    ·exact h2
   obtain ⟨h1,h2,h3⟩:=Oper.apart_spec hap.1
   have hso:=sL hsel hi
   have hsj:=sL hsel hoj
   refine ⟨oj,hoj,fun a ha=>?_⟩
   have h4:=hE _ (ha.put hdn v)
   have key:∀ u w',nrm n (fun e' w'=>(X.contains j=true→C w')∧AL P n ops X C K f ((L.setIfInBounds i true).setIfInBounds j true) e' w') .normal ((a.put (some d) v).put oj.dst u) w' →
     nrm n (fun e' w'=>(X.contains j=true→C w')∧AL P n ops X C K (f+1) (L.setIfInBounds j true) e' w') .normal (a.put oj.dst u) w':=by
    rintro u w' ⟨_,e1,he1,hc1,hA1⟩
    have hm2:Mt n (xt (a.put oj.dst u)) (a.put oj.dst u):=z9 (by rw [wG,ha.size]) (by rw [xP,ha.defers])
    have hcm:(a.put (some d) v).put oj.dst u=(a.put oj.dst u).put (some d) v:=Act.put_comm a v u (fun x hx=>by
     have:=h2 d hdst
     simp only [Option.some.injEq] at hx;subst hx;exact this)
    rw [hcm] at he1
    obtain rfl:=he1.uniq (hm2.put hdn v)
    refine ⟨rfl,_,hm2,hc1,ih _ _ _ (hc1 hap.2) (wZ hf) (ow (Ne.symm hji) hr) ?_ (by rw [← wX];exact hA1)⟩
    intro b hb
    have hbt:b.tmps=(a.put oj.dst u).tmps:=sW (fun t=>by rw [hb.get t];rfl) (by rw [hb.size,hm2.size])
    have hbe:b.eval=(a.put oj.dst u).eval:=by rw [hb.eval,hm2.eval]
    rw [hbt,hbe,execOp_put o hso a oj.dst u h3,wanted_put o a oj.dst u h3]
    exact hy a ha
   unfold wpList at h4 ⊢
   have hwe:=wanted_put (ops:=ops) oj a (some d) v (fun x hx=>by simp only [Option.some.injEq] at hx;subst hx;exact h1 d hdst)
   have hxe:=execOp_put oj hsj a (some d) v (fun x hx=>by simp only [Option.some.injEq] at hx;subst hx;exact h1 d hdst)
   rw [hwe] at h4
   split
   ·rename_i hw
    rw [if_pos hw] at h4
    rcases h4 with h5 | ⟨_,h5⟩
    ·refine .inl ?_
     unfold Oper.wp at h5 ⊢
     rw [hxe] at h5
     refine wY key ?_ h5
     rintro dd u w' ⟨_,e1,he1,_⟩
     have:=he1.defers
     cases hdj:oj.dst <;> simp [Act.put,hdj] at this
    ·exact absurd h5 wo
   ·rename_i hw
    rw [if_neg hw] at h4
    exact key _ _ h4
theorem co {f:Nat} {L:Array Bool} {e:Env} {w:World} (h:Region.ready .any ops L=[]) (hK:K e w):AL P n ops X C K f L e w:=by
 cases f with
 | zero=>exact ⟨h,hK⟩
 | succ f=>exact ⟨fun _=>hK,fun i hi=>by rw [h] at hi;cases hi⟩
theorem y7 (i:Nat) {f:Nat} {L:Array Bool} {e:Env} {w:World} {o:Oper} (hr:Region.ready .any ops L=[i]) (ho:ops[i]? = some o)
  (h:EL P n ops (fun e' w'=>(X.contains i=true→C w')∧AL P n ops X C K f (L.setIfInBounds i true) e' w') [o] e w):AL P n ops X C K (f+1) L e w :=
 ⟨fun h0=>(by rw [hr] at h0;cases h0),fun j hj=>by
  rw [hr] at hj
  have e:j=i:=by simpa using hj
  rw [e]
  exact ⟨o,ho,h⟩⟩
theorem aK {o:Oper} {e:Env} {v:Value} (hg:o.guard=none) (h:∀ w',C w'→PV P o e w' v):SV P n ops C o e v:=fun a ha=>.inl ⟨by simp [Region.wanted,hg],fun w' hw'=>by rw [ha.eval];exact h w' hw' w' (Ext.refl _)⟩
theorem uB (hsel:ms ops=true) (i:Nat) {o:Oper} {d:Nat} {v:Value} {f:Nat} {L:Array Bool} {e:Env} {w:World} (hi:ops[i]? = some o) (hdst:o.dst=some d) (hdn:d<n) (hC:C w) (hf:mH ops X L i o=true) (hr:(Region.ready .any ops L).contains i=true)
  (hy:SV P n ops C o e v) (hK:AL P n ops X C K f (L.setIfInBounds i true) (upd e d v) w):AL P n ops X C K (f+1) L e w :=
 xN hsel i hi hdst hdn f L e w hC hf (by simpa using hr) hy hK
section
variable {wA:World} {v:Value} {d:Nat} {ty:TypeId} {pos:String} {af:Array Edge} {x y:Operand} {α:Type} {R:Rep α} {E E':TypeId} {f:Nat} {L:Array Bool} {e:Env} {w:World}
theorem j3 (hsel:ms ops=true) (i:Nat) {t:TypeId} [SliceT P t E'] {zz:List Value} {m bytes:Nat} [ElemT P E' zz m bytes] {xs:List α} (hi':ops[i]? = some ⟨some d,.indexAddr t x y,ty,pos,af,none⟩) (hC:C w) (hf:mH ops X L i ⟨some d,.indexAddr t x y,ty,pos,af,none⟩=true) (hrd:(Region.ready .any ops L).contains i=true)
  (hs:ev e x=v) (hr:(aq R E).rd wA [v] xs) (hn:R.sz=m) (hpos:0<m) {k:IntKind} {j:Int} (hi:ev e y=.int k j) {u:α} (h:ix xs j=some u) (hd:d<n)
  (hK:∀ b off ec,R.rd wA ec u→(∀ j c,ec[j]? = some c→wA.cell? ⟨b,off+j,none⟩=some c)→AL P n ops X C K f (L.setIfInBounds i true) (upd e d (.pointer (some ⟨b,off,none⟩))) w):AL P n ops X C K (f+1) L e w:=by
 obtain ⟨b,off,ec,h1,h2,h3⟩:=pH (P:=P) (d:=some d) (ty:=ty) (pos:=pos) (af:=af) (t:=t) hs hr hn hpos hi h
 exact uB hsel i hi' rfl hd hC hf hrd (aK rfl fun w' _=>h3 w') (hK b off ec h1 h2)
theorem s9 (hsel:ms ops=true) (i:Nat) {t:TypeId} {lo hi:Option Operand} [SliceT P t E'] {z:List Value} {m bytes:Nat} [ElemT P E' z m bytes] (hi':ops[i]? = some ⟨some d,.slice t x lo hi none,ty,pos,af,none⟩) (hC:C w) (hf:mH ops X L i ⟨some d,.slice t x lo hi none,ty,pos,af,none⟩=true) (hrd:(Region.ready .any ops L).contains i=true) (hn:R.sz=m)
  (hx:ev e x=v) {xs ys:List α} (hr:(aq R E).rd wA [v] xs) {l h:Int} (hlo:(lo.map (ev e)=some (.int .i64 l))∨(lo=none∧l=0)) (hhi:(hi.map (ev e)=some (.int .i64 h))∨(hi=none∧h=xs.length)) (hq:slc xs l h=some ys) (hd:d<n)
  (hK:∀ v',(aq R E).rd wA [v'] ys→AL P n ops X C K f (L.setIfInBounds i true) (upd e d v') w):AL P n ops X C K (f+1) L e w:=by
 obtain ⟨v',h1,h2⟩:=pN (P:=P) (d:=some d) (ty:=ty) (pos:=pos) (af:=af) (t:=t) hn hx hr hlo hhi hq
 exact uB hsel i hi' rfl hd hC hf hrd (aK rfl fun w' _=>h2 w') (hK v' h1)
end
end
class FlatR {α:Type} (R:Rep α) (f:outParam (α→Value)):Prop where
 h:∀ {w:World} {cs:List Value} {x:α},R.rd w cs x→cs=[f x]
instance:FlatR bj (Value.int .i64):=⟨fun h=>h⟩
instance:FlatR u8R (Value.int .u8):=⟨fun h=>h⟩
instance:FlatR mi Value.bool:=⟨fun h=>h⟩
section
variable {P:Program} {n:Nat} {ops:Array Oper} {K:Env→World→Prop} {KQ:Env→Prop} {rest:List Oper} {e:Env} {w w0:World} {v:Value} {d:Nat} {ty:TypeId} {pos:String} {af:Array Edge} {Γ:List Asn} {x y:Operand} {α:Type} {R:Rep α} {E:TypeId} {f:α→Value}
theorem Sat.ownCell (i:Nat) [hf:FlatR R f] {xs:List α} (hS:Sat w0 w Γ) (hi:Γ[i]? = some (Own (aq R E) [v] xs)) {g cap ln:Nat} (hv:v=.slice (some ⟨g,0,none⟩) ln cap) {j:Int} {u:α} (h:ix xs j=some u):w.cell? ⟨g,j.toNat*1,none⟩=some (f u):=by
 obtain ⟨k,rfl,hk,rfl⟩:=iM h
 obtain ⟨fp,ho,_⟩:=(hS.top i hi).head
 rcases ho with ⟨_,h2,_⟩ | ⟨g',cap',cur,ccs,f2,hv',hg,h1,h2,h3,h4,h5,rfl⟩
 ·subst h2;simp at hk
 subst hv
 simp at hv'
 obtain ⟨rfl,rfl,rfl⟩:=hv'
 obtain ⟨ec,hec,hcc⟩:=mT (f4 h5) k hk
 obtain rfl:=hf.h hec
 have hsz:R.sz=1:=by have:=R.rd_len hec;simpa using this.symm
 have h0:=hcc 0 _ rfl
 rw [cell_of_row w g _ cur E (0,0) hg,← Array.getElem?_toList]
 rw [← h4,List.getElem?_take] at h0
 simp only [Int.toNat_natCast]
 rw [hsz] at h0
 split at h0
 ·simpa using h0
 ·cases h0
theorem bG (i:Nat) {xs:List α} (hS:Sat w0 w Γ) (hi:Γ[i]? = some (Own (aq R E) [v] xs)) {j:Int} {u:α} (h:ix xs j=some u):∃ g cap,v=.slice (some ⟨g,0,none⟩) xs.length cap:=by
 obtain ⟨k,rfl,hk,rfl⟩:=iM h
 rcases (hS.top i hi).shape with ⟨_,h2⟩ | ⟨g,cap,h⟩
 ·subst h2;simp at hk
 ·exact ⟨g,cap,h⟩
theorem bw {d:Option Nat} {t:TypeId} [ht:SliceT P t E] {zz:List Value} {bytes:Nat} [hz:ElemT P E zz 1 bytes] {xs:List α} (hs:ev e x=v) {g cap:Nat} (hv:v=.slice (some ⟨g,0,none⟩) xs.length cap) {k:IntKind} {j:Int} (hi:ev e y=.int k j) {u:α} (h:ix xs j=some u) :
  PV P ⟨d,.indexAddr t x y,ty,pos,af,none⟩ e w (.pointer (some ⟨g,j.toNat*1,none⟩)):=fun w' _=>by
 obtain ⟨k',rfl,hk,rfl⟩:=iM h
 subst hv
 have hz:=hz.h
 cases hq:P.info? E with
 | none=>simp [hq] at hz
 | some inf =>
  simp [hq] at hz
  have hsz:inf.size=1:=hz.2.1
  unfold execOp
  simp [hs,hi,Instr.indexAt,asIntOf,run_underlying ht.h,sizeOf,typeInfo,hq,hk,Addr.add_lit,hsz]
end
theorem Ah:Goes Tryz.prog 4:=⟨_,Tryz.func4,by kernel_rfl,by kernel_rfl⟩
theorem Ak:Goes Tryz.prog 5:=⟨_,Tryz.func5,by kernel_rfl,by kernel_rfl⟩
theorem Ac:Goes Tryz.prog 6:=⟨_,Tryz.func6,by kernel_rfl,by kernel_rfl⟩
theorem sh:Goes Tryz.prog 7:=⟨_,Tryz.func7,by kernel_rfl,by kernel_rfl⟩
theorem se:Goes Tryz.prog 8:=⟨_,Tryz.func8,by kernel_rfl,by kernel_rfl⟩
theorem kK:Goes Tryz.prog 9:=⟨_,Tryz.func9,by kernel_rfl,by kernel_rfl⟩
theorem vb:Goes Tryz.prog 10:=⟨_,Tryz.func10,by kernel_rfl,by kernel_rfl⟩
theorem qF:Goes Tryz.prog 11:=⟨_,Tryz.func11,by kernel_rfl,by kernel_rfl⟩
theorem zq:Goes Tryz.prog 12:=⟨_,Tryz.func12,by kernel_rfl,by kernel_rfl⟩
theorem yO:Goes Tryz.prog 13:=⟨_,Tryz.func13,by kernel_rfl,by kernel_rfl⟩
theorem om:Goes Tryz.prog 14:=⟨_,Tryz.func14,by kernel_rfl,by kernel_rfl⟩
theorem zY:Goes Tryz.prog 15:=⟨_,Tryz.func15,by kernel_rfl,by kernel_rfl⟩
theorem y6:Goes Tryz.prog 16:=⟨_,Tryz.func16,by kernel_rfl,by kernel_rfl⟩
theorem oU:Goes Tryz.prog 17:=⟨_,Tryz.func17,by kernel_rfl,by kernel_rfl⟩
theorem vi:Goes Tryz.prog 18:=⟨_,Tryz.func18,by kernel_rfl,by kernel_rfl⟩
theorem vT:Goes Tryz.prog 19:=⟨_,Tryz.func19,by kernel_rfl,by kernel_rfl⟩
theorem yT:Goes Tryz.prog 20:=⟨_,Tryz.func20,by kernel_rfl,by kernel_rfl⟩
theorem zr:Goes Tryz.prog 21:=⟨_,Tryz.func21,by kernel_rfl,by kernel_rfl⟩
theorem s3:Goes Tryz.prog 22:=⟨_,Tryz.func22,by kernel_rfl,by kernel_rfl⟩
theorem yI:Goes Tryz.prog 23:=⟨_,Tryz.func23,by kernel_rfl,by kernel_rfl⟩
theorem zP:Goes Tryz.prog 24:=⟨_,Tryz.func24,by kernel_rfl,by kernel_rfl⟩
theorem y9:Goes Tryz.prog 25:=⟨_,Tryz.func25,by kernel_rfl,by kernel_rfl⟩
theorem zl:Goes Tryz.prog 26:=⟨_,Tryz.func26,by kernel_rfl,by kernel_rfl⟩
theorem l8:Goes Tryz.prog 27:=⟨_,Tryz.func27,by kernel_rfl,by kernel_rfl⟩
theorem zh:Goes Tryz.prog 28:=⟨_,Tryz.func28,by kernel_rfl,by kernel_rfl⟩
theorem zR:Goes Tryz.prog 29:=⟨_,Tryz.func29,by kernel_rfl,by kernel_rfl⟩
theorem zy:Goes Tryz.prog 30:=⟨_,Tryz.func30,by kernel_rfl,by kernel_rfl⟩
theorem zn:Goes Tryz.prog 31:=⟨_,Tryz.func31,by kernel_rfl,by kernel_rfl⟩
theorem y4:Goes Tryz.prog 32:=⟨_,Tryz.func32,by kernel_rfl,by kernel_rfl⟩
theorem zj:Goes Tryz.prog 33:=⟨_,Tryz.func33,by kernel_rfl,by kernel_rfl⟩
theorem yE:Goes Tryz.prog 34:=⟨_,Tryz.func34,by kernel_rfl,by kernel_rfl⟩
theorem yx:Goes Tryz.prog 35:=⟨_,Tryz.func35,by kernel_rfl,by kernel_rfl⟩
theorem fS:Goes Tryz.prog 36:=⟨_,Tryz.func36,by kernel_rfl,by kernel_rfl⟩
theorem yK:Goes Tryz.prog 37:=⟨_,Tryz.func37,by kernel_rfl,by kernel_rfl⟩
theorem zp:Goes Tryz.prog 38:=⟨_,Tryz.func38,by kernel_rfl,by kernel_rfl⟩
theorem zZ:Goes Tryz.prog 39:=⟨_,Tryz.func39,by kernel_rfl,by kernel_rfl⟩
theorem zN:Goes Tryz.prog 40:=⟨_,Tryz.func40,by kernel_rfl,by kernel_rfl⟩
theorem yV:Goes Tryz.prog 41:=⟨_,Tryz.func41,by kernel_rfl,by kernel_rfl⟩
theorem zS:Goes Tryz.prog 42:=⟨_,Tryz.func42,by kernel_rfl,by kernel_rfl⟩
theorem sr:Goes Tryz.prog 43:=⟨_,Tryz.func43,by kernel_rfl,by kernel_rfl⟩
theorem zt:Goes Tryz.prog 44:=⟨_,Tryz.func44,by kernel_rfl,by kernel_rfl⟩
theorem zK:Goes Tryz.prog 45:=⟨_,Tryz.func45,by kernel_rfl,by kernel_rfl⟩
theorem ww:Goes Tryz.prog 46:=⟨_,Tryz.func46,by kernel_rfl,by kernel_rfl⟩
theorem yH:Goes Tryz.prog 47:=⟨_,Tryz.func47,by kernel_rfl,by kernel_rfl⟩
theorem yU:Goes Tryz.prog 48:=⟨_,Tryz.func48,by kernel_rfl,by kernel_rfl⟩
theorem y5:Goes Tryz.prog 49:=⟨_,Tryz.func49,by kernel_rfl,by kernel_rfl⟩
theorem qV:Goes Tryz.prog 50:=⟨_,Tryz.func50,by kernel_rfl,by kernel_rfl⟩
theorem sq:Goes Tryz.prog 51:=⟨_,Tryz.func51,by kernel_rfl,by kernel_rfl⟩
theorem zc:Goes Tryz.prog 52:=⟨_,Tryz.func52,by kernel_rfl,by kernel_rfl⟩
theorem zC:Goes Tryz.prog 53:=⟨_,Tryz.func53,by kernel_rfl,by kernel_rfl⟩
theorem yS:Goes Tryz.prog 54:=⟨_,Tryz.func54,by kernel_rfl,by kernel_rfl⟩
theorem rj:Goes Tryz.prog 55:=⟨_,Tryz.func55,by kernel_rfl,by kernel_rfl⟩
theorem vD:Goes Tryz.prog 56:=⟨_,Tryz.func56,by kernel_rfl,by kernel_rfl⟩
theorem sw:Goes Tryz.prog 57:=⟨_,Tryz.func57,by kernel_rfl,by kernel_rfl⟩
theorem zH:Goes Tryz.prog 58:=⟨_,Tryz.func58,by kernel_rfl,by kernel_rfl⟩
theorem vV:Goes Tryz.prog 59:=⟨_,Tryz.func59,by kernel_rfl,by kernel_rfl⟩
theorem yF:Goes Tryz.prog 60:=⟨_,Tryz.func60,by kernel_rfl,by kernel_rfl⟩
theorem yt:Goes Tryz.prog 61:=⟨_,Tryz.func61,by kernel_rfl,by kernel_rfl⟩
theorem zX:Goes Tryz.prog 62:=⟨_,Tryz.func62,by kernel_rfl,by kernel_rfl⟩
theorem zi:Goes Tryz.prog 63:=⟨_,Tryz.func63,by kernel_rfl,by kernel_rfl⟩
theorem zm:Goes Tryz.prog 64:=⟨_,Tryz.func64,by kernel_rfl,by kernel_rfl⟩
theorem zk:Goes Tryz.prog 65:=⟨_,Tryz.func65,by kernel_rfl,by kernel_rfl⟩
theorem yJ:Goes Tryz.prog 66:=⟨_,Tryz.func66,by kernel_rfl,by kernel_rfl⟩
theorem qT:Goes Tryz.prog 67:=⟨_,Tryz.func67,by kernel_rfl,by kernel_rfl⟩
theorem vm:Goes Tryz.prog 68:=⟨_,Tryz.func68,by kernel_rfl,by kernel_rfl⟩
theorem sl:Goes Tryz.prog 69:=⟨_,Tryz.func69,by kernel_rfl,by kernel_rfl⟩
theorem ze:Goes Tryz.prog 70:=⟨_,Tryz.func70,by kernel_rfl,by kernel_rfl⟩
theorem wa:Goes Tryz.prog 71:=⟨_,Tryz.func71,by kernel_rfl,by kernel_rfl⟩
theorem vE:Goes Tryz.prog 72:=⟨_,Tryz.func72,by kernel_rfl,by kernel_rfl⟩
theorem th:Goes Tryz.prog 73:=⟨_,Tryz.func73,by kernel_rfl,by kernel_rfl⟩
theorem oL:Goes Tryz.prog 74:=⟨_,Tryz.func74,by kernel_rfl,by kernel_rfl⟩
theorem zf:Goes Tryz.prog 75:=⟨_,Tryz.func75,by kernel_rfl,by kernel_rfl⟩
theorem vI:Goes Tryz.prog 76:=⟨_,Tryz.func76,by kernel_rfl,by kernel_rfl⟩
theorem vk:Goes Tryz.prog 77:=⟨_,Tryz.func77,by kernel_rfl,by kernel_rfl⟩
theorem vS:Goes Tryz.prog 78:=⟨_,Tryz.func78,by kernel_rfl,by kernel_rfl⟩
theorem sB:Goes Tryz.prog 79:=⟨_,Tryz.func79,by kernel_rfl,by kernel_rfl⟩
theorem zJ:Goes Tryz.prog 80:=⟨_,Tryz.func80,by kernel_rfl,by kernel_rfl⟩
theorem zb:Goes Tryz.prog 81:=⟨_,Tryz.func81,by kernel_rfl,by kernel_rfl⟩
theorem wl:Goes Tryz.prog 82:=⟨_,Tryz.func82,by kernel_rfl,by kernel_rfl⟩
theorem vd:Goes Tryz.prog 83:=⟨_,Tryz.func83,by kernel_rfl,by kernel_rfl⟩
theorem sC:Goes Tryz.prog 84:=⟨_,Tryz.func84,by kernel_rfl,by kernel_rfl⟩
theorem vW:Goes Tryz.prog 85:=⟨_,Tryz.func85,by kernel_rfl,by kernel_rfl⟩
theorem qO:Goes Tryz.prog 86:=⟨_,Tryz.func86,by kernel_rfl,by kernel_rfl⟩
theorem sX:Goes Tryz.prog 87:=⟨_,Tryz.func87,by kernel_rfl,by kernel_rfl⟩
theorem st:Goes Tryz.prog 88:=⟨_,Tryz.func88,by kernel_rfl,by kernel_rfl⟩
theorem yP:Goes Tryz.prog 89:=⟨_,Tryz.func89,by kernel_rfl,by kernel_rfl⟩
theorem yy:Goes Tryz.prog 90:=⟨_,Tryz.func90,by kernel_rfl,by kernel_rfl⟩
theorem sD:Goes Tryz.prog 91:=⟨_,Tryz.func91,by kernel_rfl,by kernel_rfl⟩
theorem tb:Goes Tryz.prog 92:=⟨_,Tryz.func92,by kernel_rfl,by kernel_rfl⟩
theorem vK:Goes Tryz.prog 93:=⟨_,Tryz.func93,by kernel_rfl,by kernel_rfl⟩
theorem ve:Goes Tryz.prog 94:=⟨_,Tryz.func94,by kernel_rfl,by kernel_rfl⟩
theorem yz:Goes Tryz.prog 95:=⟨_,Tryz.func95,by kernel_rfl,by kernel_rfl⟩
theorem ws:Goes Tryz.prog 96:=⟨_,Tryz.func96,by kernel_rfl,by kernel_rfl⟩
theorem mX:Goes Tryz.prog 97:=⟨_,Tryz.func97,by kernel_rfl,by kernel_rfl⟩
theorem yu:Goes Tryz.prog 98:=⟨_,Tryz.func98,by kernel_rfl,by kernel_rfl⟩
theorem zT:Goes Tryz.prog 99:=⟨_,Tryz.func99,by kernel_rfl,by kernel_rfl⟩
theorem yg:Goes Tryz.prog 100:=⟨_,Tryz.func100,by kernel_rfl,by kernel_rfl⟩
theorem xB:Goes Tryz.prog 101:=⟨_,Tryz.func101,by kernel_rfl,by kernel_rfl⟩
theorem i9:Goes Tryz.prog 102:=⟨_,Tryz.func102,by kernel_rfl,by kernel_rfl⟩
theorem km:Goes Tryz.prog 103:=⟨_,Tryz.func103,by kernel_rfl,by kernel_rfl⟩
theorem tZ:Goes Tryz.prog 104:=⟨_,Tryz.func104,by kernel_rfl,by kernel_rfl⟩
theorem mL:Goes Tryz.prog 105:=⟨_,Tryz.func105,by kernel_rfl,by kernel_rfl⟩
theorem xx:Goes Tryz.prog 106:=⟨_,Tryz.func106,by kernel_rfl,by kernel_rfl⟩
theorem ya:Goes Tryz.prog 107:=⟨_,Tryz.func107,by kernel_rfl,by kernel_rfl⟩
theorem ug:Goes Tryz.prog 108:=⟨_,Tryz.func108,by kernel_rfl,by kernel_rfl⟩
theorem uj:Goes Tryz.prog 109:=⟨_,Tryz.func109,by kernel_rfl,by kernel_rfl⟩
theorem yh:Goes Tryz.prog 110:=⟨_,Tryz.func110,by kernel_rfl,by kernel_rfl⟩
theorem uq:Goes Tryz.prog 111:=⟨_,Tryz.func111,by kernel_rfl,by kernel_rfl⟩
theorem o6:Goes Tryz.prog 112:=⟨_,Tryz.func112,by kernel_rfl,by kernel_rfl⟩
theorem yq:Goes Tryz.prog 113:=⟨_,Tryz.func113,by kernel_rfl,by kernel_rfl⟩
theorem ye:Goes Tryz.prog 114:=⟨_,Tryz.func114,by kernel_rfl,by kernel_rfl⟩
theorem xL:Goes Tryz.prog 115:=⟨_,Tryz.func115,by kernel_rfl,by kernel_rfl⟩
theorem yi:Goes Tryz.prog 116:=⟨_,Tryz.func116,by kernel_rfl,by kernel_rfl⟩
theorem yd:Goes Tryz.prog 117:=⟨_,Tryz.func117,by kernel_rfl,by kernel_rfl⟩
theorem xR:Goes Tryz.prog 118:=⟨_,Tryz.func118,by kernel_rfl,by kernel_rfl⟩
theorem xU:Goes Tryz.prog 119:=⟨_,Tryz.func119,by kernel_rfl,by kernel_rfl⟩
theorem yl:Goes Tryz.prog 120:=⟨_,Tryz.func120,by kernel_rfl,by kernel_rfl⟩
theorem uk:Goes Tryz.prog 121:=⟨_,Tryz.func121,by kernel_rfl,by kernel_rfl⟩
theorem xw:Goes Tryz.prog 122:=⟨_,Tryz.func122,by kernel_rfl,by kernel_rfl⟩
theorem yn:Goes Tryz.prog 123:=⟨_,Tryz.func123,by kernel_rfl,by kernel_rfl⟩
theorem xD:Goes Tryz.prog 124:=⟨_,Tryz.func124,by kernel_rfl,by kernel_rfl⟩
theorem ym:Goes Tryz.prog 125:=⟨_,Tryz.func125,by kernel_rfl,by kernel_rfl⟩
section
open Go.RowKit Go.ChangeShapes Go.WideShapes Go.ChangeAt
def iq {α:Type} (P:Program) (R:Rep α) (T:TypeId):Prop :=
 ∀ {H:Type} (enc:TypeId × Value→H) (w:World) (base:Nat) (spare:Nat→Bool) (held:Bool) (fuel:Nat) (cs:List Value) (x:DataW H × List MemPlace),DataW.trod enc P w base spare held fuel T cs=some x→∃ y,R.rd w cs y

theorem vL {P:Program} {T:TypeId} (ht:P.underlying T=some (.int .i64)):iq P bj T:=by
 intro H enc w base spare held fuel cs x h
 obtain ⟨n,rfl,_⟩:=DataW.trod_int ht h
 exact ⟨n,rfl⟩
theorem wn {P:Program} {T:TypeId} (ht:P.underlying T=some .string):iq P eX T:=by
 intro H enc w base spare held fuel cs x h
 obtain ⟨s,rfl,_,hs⟩:=DataW.trod_string ht h
 exact ⟨s,rfl,by unfold maxLen at hs;omega⟩
theorem lg {α:Type} {P:Program} {R:Rep α} {T e E:TypeId} (ht:P.underlying T=some (.slice e)) (hs:P.cellsOf e=R.sz) (hpos:0<R.sz) (ho:iq P R e):iq P (aq R E) T:=by
 intro H enc w base spare held fuel cs x h
 rcases DataW.trod_slice ht h with ⟨rfl,_⟩ | ⟨a,len,cap,elems,rst,n,_,rfl,_,hb,hlc,hm,hel,hev,_⟩
 ·exact ⟨[],none,0,[],rfl,Nat.le_refl _,Nat.zero_le _,fun _=>rfl,rfl,.inl rfl⟩
 ·have hone:∀ i,i<len→∃ ec y,R.rd w ec y∧∀ j c,ec[j]? = some c→w.cell? (a.add (i*R.sz) |>.add j)=some c:=by
   intro i hi
   have h1:=hev i hi
   rw [List.getElem?_eq_getElem (by omega),hs] at h1
   obtain ⟨ec,h2,h3⟩:=Option.bind_eq_some_iff.1 h1
   obtain ⟨y,hy⟩:=ho enc w base spare held n ec _ h3
   obtain ⟨_,h4,h5⟩:=World.cells?_some h2
   exact ⟨ec,y,hy,fun j c hj=>by rw [h5 j (by have:=(List.getElem?_eq_some_iff.1 hj).1;omega)];exact hj⟩
  by_cases hl0:len=0
  ·subst hl0
   exact ⟨[],some a,cap,[],rfl,hlc,hm,by simp,rfl,.inl rfl⟩
  obtain ⟨b,off,spot⟩:=a
  have hspot:spot=none:=by
   obtain ⟨ec,y,hy,hc⟩:=hone 0 (by omega)
   have hl:=R.rd_len hy
   have h0:=hc 0 ec[0] (by simp)
   simp only [Nat.zero_mul,Addr.add,if_true] at h0
   cases spot with
   | none=>rfl
   | some s =>
    unfold World.cell? at h0
    split at h0 <;> simp at h0
  subst hspot
  have hall:∀ k,k≤len→∃ ys ccs,ys.length=k∧rdL R w ccs ys∧∀ j c,ccs[j]? = some c→w.cell? ⟨b,off+j,none⟩=some c:=by
   intro k
   induction k with
   | zero=>intro _;exact ⟨[],[],rfl,rfl,by simp⟩
   | succ k ih =>
    intro hk
    obtain ⟨ys,ccs,h1,h2,h3⟩:=ih (by omega)
    obtain ⟨ec,y,hy,hc⟩:=hone k (by omega)
    refine ⟨ys++[y],ccs++ec,by simp [h1],qP (ys:=[y]) ⟨ec,[],by simp,hy,rfl⟩ h2,fun j c hj=>?_⟩
    have hcl:=gP h2
    by_cases hj1:j<ccs.length
    ·rw [List.getElem?_append_left hj1] at hj;exact h3 j c hj
    ·rw [List.getElem?_append_right (by omega)] at hj
     have:=hc (j-ccs.length) c hj
     rw [Addr.add_lit,Addr.add_lit] at this
     rw [show off+j=off+k*R.sz+(j-ccs.length) by rw [hcl,h1] at *;omega]
     exact this
  obtain ⟨ys,ccs,h1,h2,h3⟩:=hall len (Nat.le_refl _)
  exact ⟨ys,some ⟨b,off,none⟩,cap,ccs,by rw [h1],by omega,hm,by simp,h2,.inr ⟨b,off,rfl,h3⟩⟩
theorem mW {α β:Type} {R:Rep α} {S:Rep β} {w:World} {cs:List Value} {x:α} {y:β} (n:Nat) (h1:R.rd w (cs.take n) x) (h2:S.rd w (cs.drop n) y):(cx R S).rd w cs (x,y) :=
 ⟨cs.take n,cs.drop n,(List.take_append_drop n cs).symm,h1,h2⟩
theorem e5 {α:Type} {P:Program} {R:Rep α} {T:TypeId} (ho:iq P R T) {H:Type} {enc:TypeId × Value→H} {w:World} {base:Nat} {spare:Nat→Bool} {held:Bool} {fuel:Nat} {cs:List Value} {xs:List (DataW H × List MemPlace)} {i:Nat}
  (hi:i<xs.length) (h:DataW.trod enc P w base spare held fuel T cs=xs[i]?):∃ y,R.rd w cs y:=by
 rw [List.getElem?_eq_getElem hi] at h
 exact ho enc w base spare held fuel cs _ h
theorem Am {cs:Array Value} (h:cs.size=1):∃ c0,cs=#[c0]:=by
 obtain ⟨l⟩:=cs
 match l,h with
 | [c0],_=>exact ⟨c0,rfl⟩
theorem Ao {cs:Array Value} (h:cs.size=3):∃ c0 c1 c2,cs=#[c0,c1,c2]:=by
 obtain ⟨l⟩:=cs
 match l,h with
 | [c0,c1,c2],_=>exact ⟨c0,c1,c2,rfl⟩
end
theorem bs {α β:Type} (a:α) (f:α→Option β):(some a).bind f=f a:=rfl
theorem aQ {α:Type} {xs:List α} {i:Nat} (h:i<xs.length):ix xs (i:Int)=some xs[i]:=by
 unfold ix;rw [if_pos (by omega)];simp [h]
theorem qW {α:Type} {xs:List α} {i:Int} (h0:0≤i) (h:i<xs.length):ix xs i=some (xs[i.toNat]'(by omega)):=by
 unfold ix;rw [if_pos h0];simp
theorem wd {n:Int} (h:-4611686018427387904≤n) (h2:n≤4611686018427387904):rng n=true:=by
 unfold rng;simp only [Bool.and_eq_true,decide_eq_true_eq];omega
theorem lT {a b:Int} (h:-4611686018427387904≤a+b) (h2:a+b≤4611686018427387904):ad a b=some (a+b):=by unfold ad;rw [if_pos (wd h h2)]
theorem fZ {a b:Int} (h:-4611686018427387904≤a-b) (h2:a-b≤4611686018427387904):sb a b=some (a-b):=by unfold sb;rw [if_pos (wd h h2)]
theorem ad1 {i:Nat} (h:i<1099511627776):ad (i:Int) 1=some ((i+1:Nat):Int):=by rw [lT (by omega) (by omega)];simp
theorem dlt {i n:Nat} (h:i<n):decide ((i:Int)<(n:Int))=true:=by simp;omega
theorem dge {i n:Nat} (h:¬ i<n):decide ((i:Int)<(n:Int))=false:=by simp;omega
theorem jI {α:Type} {xs:List α} {i:Nat} {y:α} (h:i<xs.length):sto xs (i:Int) y=some (xs.set i y):=by
 unfold sto;rw [if_pos ⟨by omega,by simpa using h⟩];simp
theorem yM {α:Type} {b:Nat} {xs ys:List α} (h:(xs.length+ys.length)*b≤140737488355328):apd b xs ys=some (xs++ys):=by unfold apd;rw [if_pos h]
theorem bB {α:Type} {b:Nat} {xs ys:List α} (hb:b≤64) (h:xs.length+ys.length≤2199023255552):apd b xs ys=some (xs++ys):=by
 refine yM (Nat.le_trans (Nat.mul_le_mul h hb) (by omega))
theorem qR {α:Type} {b:Nat} {z:α} {n:Nat} (hb:b≤64) (h:n≤2199023255552):mk b z (n:Int)=some (List.replicate n z):=by
 unfold mk;rw [if_pos ⟨by omega,by simpa using Nat.le_trans (Nat.mul_le_mul h hb) (by omega),by simp;omega⟩];simp
theorem i0 {α:Type} {xs:List α} {lo hi:Nat} (h1:lo≤hi) (h2:hi≤xs.length):slc xs (lo:Int) (hi:Int)=some ((xs.take hi).drop lo):=by
 unfold slc;rw [if_pos ⟨by omega,by omega,by omega⟩];simp

theorem gm {R V:Type} (L:Nat→Int→Option (Sum R V)) (n:Nat) (hn:n<1099511627776) (b:R) (p:Nat→Bool) (v:V)
  (hstep:∀ k i,i<n→L (k+1) (i:Int)=bif p i then L k ((i+1:Nat):Int) else some (.inl b))
  (hend:∀ k,L (k+1) (n:Int)=some (.inr v)) :
  ∀ k i,i≤n→n-i<k→L k (i:Int)=some (bif (List.range' i (n-i)).all p then .inr v else .inl b):=by
 intro k
 induction k with
 | zero=>intro i hi hk;omega
 | succ k ih =>
  intro i hi hk
  by_cases h:i<n
  ·rw [hstep k i h,show n-i=(n-(i+1))+1 by omega,List.range'_succ,List.all_cons]
   cases hp:p i with
   | true=>rw [cond_true,Bool.true_and];exact ih (i+1) (by omega) (by omega)
   | false=>rfl
  ·obtain rfl:i=n:=by omega
   rw [hend k,Nat.sub_self];rfl
theorem fU {α:Type} (xs:List α) (p:α→Bool) (q:Nat→Bool) (h:∀ i (hi:i<xs.length),q i=p xs[i]):(List.range' 0 xs.length).all q=xs.all p:=by
 rw [Bool.eq_iff_iff,List.all_eq_true,List.all_eq_true]
 constructor
 ·intro hq x hx
  obtain ⟨i,hi,rfl⟩:=List.getElem_of_mem hx
  rw [← h i hi];exact hq i (by simp;omega)
 ·intro hp i hi
  have hi':i<xs.length:=by simpa using hi
  rw [h i hi'];exact hp _ (List.getElem_mem hi')
theorem wQ {α:Type} [DecidableEq α] {xs ys:List α} (hl:xs.length=ys.length) (q:Nat→Bool) (h:∀ i (hi:i<xs.length),q i=decide (xs[i]=ys[i]'(by omega))):(List.range' 0 xs.length).all q=decide (xs=ys):=by
 rw [Bool.eq_iff_iff,List.all_eq_true,decide_eq_true_iff]
 constructor
 ·intro hq
  refine List.ext_getElem hl fun i h1 h2=>?_
  have:=hq i (by simp;omega)
  rw [h i h1] at this
  exact of_decide_eq_true this
 ·rintro rfl i hi
  have hi':i<xs.length:=by simpa using hi
  rw [h i hi'];simp

theorem rF {α:Type} (xs:List α) (z:α) (k n:Nat) (hk:k<xs.length) (hn:xs.length=n):(xs.take k++List.replicate (n-k) z).set k xs[k]=xs.take (k+1)++List.replicate (n-(k+1)) z:=by
 rw [List.set_append_right _ _ (by simp;omega),List.length_take,Nat.min_eq_left (by omega),Nat.sub_self,show n-k=(n-(k+1))+1 by omega,List.replicate_succ,List.set_cons_zero,List.take_succ_eq_append_getElem hk,List.append_assoc]
 rfl
section
variable {α:Type}
def mI (f:α→Int→Option Int):Nat→List α→Int→Int→Option (Sum Int (Int × Int))
 | 0,_,_,_=>none
 | k+1,xs,l,i =>
  bif decide (i<(xs.length:Int)) then
   (ix xs i).bind fun x=>(f x l).bind fun r =>
   bif decide (r<0) then some (.inl (-1)) else (ad i 1).bind fun i'=>mI f k xs r i'
  else some (.inr (l,i))
def gsz (f:α→Int→Option Int) (N:Nat) (xs:List α) (l:Int):Option Int :=
 (sb l (xs.length:Int)).bind fun x=>bif decide (x<0) then some (-1) else
 (mI f N xs x 0).bind fun s=>lpS s (fun q=>some q) fun v=>some v.1
def lC {β:Type} (f:α→Option β):Nat→List α→List β→Int→Option (List β × Int)
 | 0,_,_,_=>none
 | k+1,xs,ys,i =>
  bif decide (i<(xs.length:Int)) then
   (ix xs i).bind fun x=>(f x).bind fun r=>(ix ys i).bind fun _=>(sto ys i r).bind fun ys'=>(ad i 1).bind fun i'=>lC f k xs ys' i'
  else some (ys,i)
def gto {β:Type} (f:α→Option β) (b:Nat) (z:β) (N:Nat) (xs:List α):Option (List β) :=
 (mk b z (xs.length:Int)).bind fun ys=>(lC f N xs ys 0).bind fun v=>some v.1
def j1 (f:α→α→Option Bool):Nat→List α→List α→Int→Option (Sum Bool Int)
 | 0,_,_,_=>none
 | k+1,xs,ys,i =>
  bif decide (i<(xs.length:Int)) then
   (ix xs i).bind fun x=>(ix ys i).bind fun y=>(f x y).bind fun r =>
   bif r then (ad i 1).bind fun i'=>j1 f k xs ys i' else some (.inl false)
  else some (.inr i)
def geq (f:α→α→Option Bool) (N:Nat) (xs ys:List α):Option Bool :=
 bif ((xs.length:Int) != (ys.length:Int)) then some false else
 (j1 f N xs ys 0).bind fun s=>lpS s (fun q=>some q) fun _=>some true
def aN (p:α→Prop) (m:Nat) (xs:List α):Prop:=xs.length≤m∧∀ x∈xs,p x

theorem tf {f:α→Int→Option Int} {p ok:α→Prop} {N:Nat} (hN:1073741824≤N) (hf:∀ x l,p x→0≤l→l≤1048576→∃ r,f x l=some r∧(0≤r→ok x∧r≤1048576)) {xs:List α} {l:Int} (hp:aN p 9223372036854775807 xs) (h0:0≤l) (h1:l≤1048576) :
  ∃ r,gsz f N xs l=some r∧(0≤r→aN ok 1048576 xs∧r≤1048576):=by
 unfold gsz
 have hs:sb l (xs.length:Int)=some (l-xs.length):=by
  unfold sb;rw [if_pos];unfold rng;simp only [Bool.and_eq_true,decide_eq_true_eq];have:=hp.1;omega
 rw [hs,bs]
 by_cases hl:l-xs.length<0
 ·rw [decide_eq_true hl,cond_true];exact ⟨-1,rfl,fun h=>absurd h (by omega)⟩
 rw [decide_eq_false hl,cond_false]
 have key:∀ k i l,i≤xs.length→xs.length-i<k→0≤l→l≤1048576→∃ s,mI f k xs l (i:Int)=some s∧(match s with | .inl r=>r=-1 | .inr v=>0≤v.1∧v.1≤1048576∧∀ j (hj:j<xs.length),i≤j→ok xs[j]):=by
  intro k
  induction k with
  | zero=>intro i l hi hk;omega
  | succ k ih =>
   intro i l hi hk h0 h1
   unfold mI
   by_cases h:i<xs.length
   ·obtain ⟨r,e1,e2⟩:=hf xs[i] l (hp.2 _ (List.getElem_mem h)) h0 h1
    rw [dlt h,cond_true,aQ h,bs,e1,bs]
    by_cases hr:r<0
    ·rw [decide_eq_true hr,cond_true];exact ⟨_,rfl,rfl⟩
    ·rw [decide_eq_false hr,cond_false,ad1 (by omega),bs]
     obtain ⟨s,e3,e4⟩:=ih (i+1) r (by omega) (by omega) (by omega) (e2 (by omega)).2
     refine ⟨s,e3,?_⟩
     cases s with
     | inl r=>exact e4
     | inr v =>
      refine ⟨e4.1,e4.2.1,fun j hj hij=>?_⟩
      by_cases e:i=j
      ·subst e;exact (e2 (by omega)).1
      ·exact e4.2.2 j hj (by omega)
   ·rw [dge h,cond_false]
    exact ⟨_,rfl,h0,h1,fun j hj hij=>by omega⟩
 obtain ⟨s,e1,e2⟩:=key N 0 (l-xs.length) (by omega) (by omega) (by omega) (by omega)
 rw [show ((0:Int))=((0:Nat):Int) from rfl,e1,bs]
 cases s with
 | inl r=>exact ⟨-1,by rw [show r=-1 from e2];rfl,fun h=>absurd h (by omega)⟩
 | inr v =>
  refine ⟨v.1,rfl,fun _=>⟨⟨by omega,fun x hx=>?_⟩,e2.2.1⟩⟩
  obtain ⟨j,hj,rfl⟩:=List.getElem_of_mem hx
  exact e2.2.2 j hj (by omega)
theorem qQ {f:α→Option α} {ok:α→Prop} {b:Nat} (hb:b≤64) {z:α} {N:Nat} (hN:1073741824≤N) (hf:∀ x,ok x→f x=some x) {xs:List α} (hp:aN ok 1048576 xs):gto f b z N xs=some xs:=by
 unfold gto
 rw [qR hb (by have:=hp.1;omega),bs]
 have key:∀ k i,i≤xs.length→xs.length-i<k→lC f k xs (xs.take i++List.replicate (xs.length-i) z) (i:Int)=some (xs,(xs.length:Int)):=by
  intro k
  induction k with
  | zero=>intro i hi hk;omega
  | succ k ih =>
   intro i hi hk
   unfold lC
   by_cases h:i<xs.length
   ·have h2:i<(xs.take i++List.replicate (xs.length-i) z).length:=by simp;omega
    rw [dlt h,cond_true,aQ h,bs,hf _ (hp.2 _ (List.getElem_mem h)),bs,aQ h2,bs,jI h2,bs,ad1 (by have:=hp.1;omega),bs,rF xs z i _ h rfl]
    exact ih (i+1) (by omega) (by omega)
   ·rw [dge h,cond_false]
    obtain rfl:i=xs.length:=by omega
    simp
 have:=key N 0 (by omega) (by have:=hp.1;omega)
 simp only [List.take_zero,List.nil_append,Nat.sub_zero] at this
 rw [show ((0:Int))=((0:Nat):Int) from rfl,this,bs]
theorem yo [DecidableEq α] {f:α→α→Option Bool} {ok:α→Prop} {N:Nat} (hN:1073741824≤N) (hf:∀ x y,ok x→ok y→f x y=some (decide (x=y))) {xs ys:List α} (hp:aN ok 1073741823 xs) (hq:aN ok 1073741823 ys):geq f N xs ys=some (decide (xs=ys)):=by
 unfold geq
 by_cases hl:xs.length=ys.length
 ·rw [show ((xs.length:Int) != (ys.length:Int))=false by simp [hl],cond_false]
  have:=gm (L:=fun k i=>j1 f k xs ys i) xs.length (by have:=hp.1;omega) false (fun i=>if h:i<xs.length then decide (xs[i]=ys[i]'(by omega)) else true) (xs.length:Int)
   (fun k i h=>by
    show j1 f (k+1) xs ys (i:Int)=_
    rw [j1,dlt h,cond_true,aQ h,bs,aQ (by omega),bs,hf _ _ (hp.2 _ (List.getElem_mem h)) (hq.2 _ (List.getElem_mem _)),bs,ad1 (by have:=hp.1;omega),bs]
    simp only [dif_pos h])
   (fun k=>by
    show j1 f (k+1) xs ys (xs.length:Int)=_
    rw [j1,dge (by omega),cond_false]) N 0 (by omega) (by have:=hp.1;omega)
  rw [show ((0:Int))=((0:Nat):Int) from rfl,this,bs,Nat.sub_zero,wQ hl _ (fun i hi=>by rw [dif_pos hi])]
  cases decide (xs=ys) <;> rfl
 ·rw [show ((xs.length:Int) != (ys.length:Int))=true by simp;omega,cond_true,eq_comm]
  congr 1
  simp
  intro e;subst e;exact hl rfl
theorem aN.big {ok:α→Prop} {xs:List α} (h:aN ok 1048576 xs):aN ok 1073741823 xs:=⟨by have:=h.1;omega,h.2⟩
theorem rh [DecidableEq α] {f:α→α→Option Bool} {ok:α→Prop} {N:Nat} (hN:1073741824≤N) (hf:∀ x y,ok x→ok y→f x y=some (decide (x=y))) {xs ys:List α} (hp:aN ok 1048576 xs) (hq:aN ok 1048576 ys):geq f N xs ys=some (decide (xs=ys)):=yo hN hf hp.big hq.big
end
theorem yL {α:Type} (L:Nat→List α→Int→Int→Option (List α × Int × Int)) (f:α→Int→Option (Int × α)) (ok:α→Prop) (c B:Int) (hc:0≤c)
  (hstep:∀ n (xs:List α) s (i:Nat) (h:i<xs.length) r,xs.length≤1073741823→f xs[i] s=some r→L (n+1) xs s (i:Int)=L n (xs.set i r.2) r.1 ((i+1:Nat):Int))
  (hend:∀ n (xs:List α) s,L (n+1) xs s (xs.length:Int)=some (xs,s,(xs.length:Int)))
  (hf:∀ x s,ok x→0≤s→s+c≤B→∃ r,f x s=some r∧s≤r.1∧r.1≤s+c) :
  ∀ (m:Nat) (i k:Nat) (xs:List α) (s:Int),i+m=xs.length→m<k→xs.length≤1073741823→(∀ j (h:j<xs.length),i≤j→ok xs[j])→0≤s→s+m*c≤B →
   ∃ ys s',L k xs s (i:Int)=some (ys,s',(ys.length:Int))∧s≤s'∧s'≤s+m*c∧ys.length=xs.length:=by
 intro m
 induction m with
 | zero =>
  intro i k xs s hi hk _ _ _ _
  obtain ⟨k,rfl⟩:∃ k',k=k'+1:=⟨k-1,by omega⟩
  obtain rfl:i=xs.length:=by omega
  exact ⟨xs,s,hend k xs s,Int.le_refl _,by simp,rfl⟩
 | succ m ih =>
  intro i k xs s hi hk hl hok h0 hB
  obtain ⟨k,rfl⟩:∃ k',k=k'+1:=⟨k-1,by omega⟩
  have hlt:i<xs.length:=by omega
  have e:((m+1:Nat):Int)*c=m*c+c:=by rw [Int.natCast_add,Int.add_mul];simp
  have hm:0≤(m:Int)*c:=Int.mul_nonneg (by omega) hc
  rw [e] at hB
  obtain ⟨r,hr,g1,g2⟩:=hf xs[i] s (hok i hlt (Nat.le_refl _)) h0 (by omega)
  obtain ⟨ys,s',q1,q2,q3,q4⟩:=ih (i+1) k (xs.set i r.2) r.1 (by simp;omega) (by omega) (by simpa using hl) (fun j hj hij=>by
   have:=hok j (by simpa using hj) (by omega)
   rw [List.getElem_set_ne (by omega)];exact this) (by omega) (by omega)
  exact ⟨ys,s',by rw [hstep k xs s i hlt r hl hr];exact q1,by omega,by rw [e];omega,by rw [q4];simp⟩
theorem gmk {α:Type} (L:Nat→List α→Int→Int→Option (List α × Int × Int)) (H:Nat→List α→Int→Int→Option (Sum Int (Int × Int))) (f:α→Int→Option (Int × α)) (g:α→Int→Option Int) (ok:α→Prop) (c B:Int) (hc:0≤c)
  (hstep:∀ n (xs:List α) s (i:Nat) (h:i<xs.length) r,xs.length≤1073741823→f xs[i] s=some r→L (n+1) xs s (i:Int)=L n (xs.set i r.2) r.1 ((i+1:Nat):Int))
  (hend:∀ n (xs:List α) s,L (n+1) xs s (xs.length:Int)=some (xs,s,(xs.length:Int)))
  (hH:∀ n (xs:List α) s (i:Nat) (h:i<xs.length) r,xs.length≤1073741823→g xs[i] s=some r→0≤r→r≤B→H (n+1) xs s (i:Int)=H n xs r ((i+1:Nat):Int))
  (hHend:∀ n (xs:List α) s,H (n+1) xs s (xs.length:Int)=some (.inr (s,(xs.length:Int))))
  (hf:∀ x s,ok x→0≤s→s+c≤B→∃ r,f x s=some r∧s≤r.1∧r.1≤s+c∧g r.2 s=some r.1) :
  ∀ (m:Nat) (i k:Nat) (xs:List α) (s:Int),i+m=xs.length→m<k→xs.length≤1073741823→(∀ j (h:j<xs.length),i≤j→ok xs[j])→0≤s→s+m*c≤B →
   ∃ ys s',L k xs s (i:Int)=some (ys,s',(ys.length:Int))∧s≤s'∧s'≤s+m*c∧ys.length=xs.length∧(∀ j,j<i→ys[j]? = xs[j]?)∧∀ k',m<k'→H k' ys s (i:Int)=some (.inr (s',(ys.length:Int))):=by
 intro m
 induction m with
 | zero =>
  intro i k xs s hi hk _ _ _ _
  obtain ⟨k,rfl⟩:∃ k',k=k'+1:=⟨k-1,by omega⟩
  obtain rfl:i=xs.length:=by omega
  refine ⟨xs,s,hend k xs s,Int.le_refl _,by simp,rfl,fun _ _=>rfl,fun k' hk'=>?_⟩
  obtain ⟨k',rfl⟩:∃ k2,k'=k2+1:=⟨k' - 1,by omega⟩
  exact hHend k' xs s
 | succ m ih =>
  intro i k xs s hi hk hl hok h0 hB
  obtain ⟨k,rfl⟩:∃ k',k=k'+1:=⟨k-1,by omega⟩
  have hlt:i<xs.length:=by omega
  have e:((m+1:Nat):Int)*c=m*c+c:=by rw [Int.natCast_add,Int.add_mul];simp
  have hm:0≤(m:Int)*c:=Int.mul_nonneg (by omega) hc
  rw [e] at hB
  obtain ⟨r,hr,g1,g2,g3⟩:=hf xs[i] s (hok i hlt (Nat.le_refl _)) h0 (by omega)
  obtain ⟨ys,s',q1,q2,q3,q4,q5,q6⟩:=ih (i+1) k (xs.set i r.2) r.1 (by simp;omega) (by omega) (by simpa using hl) (fun j hj hij=>by
   have:=hok j (by simpa using hj) (by omega)
   rw [List.getElem_set_ne (by omega)];exact this) (by omega) (by omega)
  have hly:ys.length=xs.length:=by rw [q4];simp
  refine ⟨ys,s',by rw [hstep k xs s i hlt r hl hr];exact q1,by omega,by rw [e];omega,hly,fun j hj=>?_,fun k' hk'=>?_⟩
  ·rw [q5 j (by omega),List.getElem?_set_ne (by omega)]
  ·obtain ⟨k',rfl⟩:∃ k2,k'=k2+1:=⟨k' - 1,by omega⟩
   have hy:ys[i]'(by omega)=r.2:=by
    have:=q5 i (by omega)
    rw [List.getElem?_set_self hlt,List.getElem?_eq_getElem (by omega)] at this
    exact Option.some.inj this
   rw [hH k' ys s i (by omega) r.1 (by omega) (by rw [hy];exact g3) (by omega) (by omega)]
   exact q6 k' (by omega)
theorem oa (x y:Int):(x != y)=!decide (x=y):=by by_cases h:x=y <;> simp [h]
theorem uX (x y:Int):(x == y)=decide (x=y):=by by_cases h:x=y <;> simp [h]
theorem j9 (s r:ByteArray):eqS s r=decide (s=r):=by
 unfold eqS
 rw [Bool.eq_iff_iff,decide_eq_true_iff]
 constructor
 ·intro h
  have h1:s.toList=r.toList:=by simpa using h
  rw [ByteArray.toList_eq,ByteArray.toList_eq] at h1
  cases s;cases r;simp_all
 ·rintro rfl;simp
section
open Go.RowKit Go.ChangeShapes Go.WideShapes Go.ChangeAt
theorem wV:ownKnob Tryz.prog.godebug=none:=by kernel_rfl
theorem nN:laidOutB Tryz.prog=true:=by kernel_rfl
theorem ml {α:Type} {R:Rep α} {E:TypeId} {p:α→Prop} (h:∀ {w:World} {cs:List Value} {x:α},R.rd w cs x→p x) {w:World} {cs:List Value} {xs:List α} (hr:(aq R E).rd w cs xs):aN p 9223372036854775807 xs:=by
 obtain ⟨ao,cap,ccs,rfl,h1,h2,h3,h4,h5⟩:=hr
 refine ⟨by unfold maxLen at h2;omega,fun x hx=>?_⟩
 obtain ⟨j,hj,rfl⟩:=List.getElem_of_mem hx
 obtain ⟨ec,h6,_⟩:=mT h4 j hj
 exact h h6
theorem ud {w:World} {cs:List Value} {x:ByteArray} (hr:eX.rd w cs x):x.size≤9223372036854775807:=hr.2
theorem lY {α β:Type} {R:Rep α} {S:Rep β} {w:World} {cs:List Value} {x:α × β} (h:(cx R S).rd w cs x):(∃ c,R.rd w c x.1)∧∃ c,S.rd w c x.2:=by
 obtain ⟨c1,c2,_,h1,h2⟩:=h;exact ⟨⟨c1,h1⟩,c2,h2⟩
theorem vN:iq Tryz.prog eX 9:=wn Tryz.underlying9
theorem sQ:iq Tryz.prog bj 3:=vL Tryz.underlying3
theorem m4:iq Tryz.prog (aq bj 3) 26:=lg Tryz.underlying26 (by kernel_rfl) (by decide) sQ
theorem q7 {w:World} {cs:List Value} {x:List Int} (h:(aq bj 3).rd w cs x):(aN (fun _=>True) 9223372036854775807) x:=ml (fun _=>trivial) h
theorem xM:iq Tryz.prog (aq (aq bj 3) 26) 31:=lg Tryz.underlying31 (by kernel_rfl) (by decide) m4
theorem Ab {w:World} {cs:List Value} {x:List (List Int)} (h:(aq (aq bj 3) 26).rd w cs x):(aN (aN (fun _=>True) 9223372036854775807) 9223372036854775807) x:=ml q7 h
theorem xV:iq Tryz.prog (cx bj (aq (aq bj 3) 26)) 67:=by
 intro H enc w base spare held fuel cs x h
 obtain ⟨xs,n,_,_,hl,hxl,hf⟩:=DataW.trod_struct Tryz.underlying67 h
 have hl2:cs.length=2:=hl.trans (by kernel_rfl)
 obtain ⟨y0,k0⟩:=e5 sQ (i:=0) (by rw [hxl];decide) (hf 0 _ rfl)
 have m0:(bj).rd w ((cs.drop 0).take (Tryz.prog.cellsOf 3)) y0:=k0
 rw [show Tryz.prog.cellsOf 3=1 by kernel_rfl] at m0
 obtain ⟨y1,k1⟩:=e5 xM (i:=1) (by rw [hxl];decide) (hf 1 _ rfl)
 have m1:((aq (aq bj 3) 26)).rd w ((cs.drop 1).take (Tryz.prog.cellsOf 31)) y1:=k1
 rw [show Tryz.prog.cellsOf 31=1 by kernel_rfl] at m1
 rw [List.take_of_length_le (by simp;omega)] at m1
 exact ⟨(y0,y1),(mW 1 (by simpa [List.drop_drop] using m0) (by simpa [List.drop_drop] using m1))⟩
theorem z4 {w:World} {cs:List Value} {x:Int × List (List Int)} (h:(cx bj (aq (aq bj 3) 26)).rd w cs x):(fun x=>(aN (aN (fun _=>True) 9223372036854775807) 9223372036854775807) x.2) x:=by
 obtain ⟨⟨_,a0⟩,_,b0⟩:=lY h
 exact Ab b0
theorem yp:iq Tryz.prog (cx eX (cx bj (aq (aq bj 3) 26))) 69:=by
 intro H enc w base spare held fuel cs x h
 obtain ⟨xs,n,_,_,hl,hxl,hf⟩:=DataW.trod_struct Tryz.underlying69 h
 have hl2:cs.length=3:=hl.trans (by kernel_rfl)
 obtain ⟨y0,k0⟩:=e5 vN (i:=0) (by rw [hxl];decide) (hf 0 _ rfl)
 have m0:(eX).rd w ((cs.drop 0).take (Tryz.prog.cellsOf 9)) y0:=k0
 rw [show Tryz.prog.cellsOf 9=1 by kernel_rfl] at m0
 obtain ⟨y1,k1⟩:=e5 xV (i:=1) (by rw [hxl];decide) (hf 1 _ rfl)
 have m1:((cx bj (aq (aq bj 3) 26))).rd w ((cs.drop 1).take (Tryz.prog.cellsOf 67)) y1:=k1
 rw [show Tryz.prog.cellsOf 67=2 by kernel_rfl] at m1
 rw [List.take_of_length_le (by simp;omega)] at m1
 exact ⟨(y0,y1),(mW 1 (by simpa [List.drop_drop] using m0) (by simpa [List.drop_drop] using m1))⟩
theorem Al {w:World} {cs:List Value} {x:ByteArray × (Int × List (List Int))} (h:(cx eX (cx bj (aq (aq bj 3) 26))).rd w cs x):(fun x=>(fun s=>s.size≤9223372036854775807) x.1∧(fun x=>(aN (aN (fun _=>True) 9223372036854775807) 9223372036854775807) x.2) x.2) x:=by
 obtain ⟨⟨_,a0⟩,_,b0⟩:=lY h
 exact ⟨ud a0,z4 b0⟩
theorem xA:iq Tryz.prog (aq (cx eX (cx bj (aq (aq bj 3) 26))) 69) 22:=lg Tryz.underlying22 (by kernel_rfl) (by decide) yp
theorem z7 {w:World} {cs:List Value} {x:List (ByteArray × (Int × List (List Int)))} (h:(aq (cx eX (cx bj (aq (aq bj 3) 26))) 69).rd w cs x):(aN (fun x=>(fun s=>s.size≤9223372036854775807) x.1∧(fun x=>(aN (aN (fun _=>True) 9223372036854775807) 9223372036854775807) x.2) x.2) 9223372036854775807) x:=ml Al h
theorem x8:iq Tryz.prog (aq (cx eX (cx bj (aq (aq bj 3) 26))) 69) 24:=by
 intro H enc w base spare held fuel cs x h
 obtain ⟨xs,n,_,_,hl,hxl,hf⟩:=DataW.trod_struct Tryz.underlying24 h
 have hl2:cs.length=1:=hl.trans (by kernel_rfl)
 obtain ⟨y0,k0⟩:=e5 xA (i:=0) (by rw [hxl];decide) (hf 0 _ rfl)
 have m0:((aq (cx eX (cx bj (aq (aq bj 3) 26))) 69)).rd w ((cs.drop 0).take (Tryz.prog.cellsOf 22)) y0:=k0
 rw [show Tryz.prog.cellsOf 22=1 by kernel_rfl] at m0
 rw [List.take_of_length_le (by simp;omega)] at m0
 exact ⟨y0,(by simpa [List.drop_drop] using m0)⟩
theorem Aj {w:World} {cs:List Value} {x:List (ByteArray × (Int × List (List Int)))} (h:(aq (cx eX (cx bj (aq (aq bj 3) 26))) 69).rd w cs x):(fun x=>(aN (fun x=>(fun s=>s.size≤9223372036854775807) x.1∧(fun x=>(aN (aN (fun _=>True) 9223372036854775807) 9223372036854775807) x.2) x.2) 9223372036854775807) x) x:=by
 exact z7 h
theorem xS:iq Tryz.prog (cx eX (aq bj 3)) 72:=by
 intro H enc w base spare held fuel cs x h
 obtain ⟨xs,n,_,_,hl,hxl,hf⟩:=DataW.trod_struct Tryz.underlying72 h
 have hl2:cs.length=2:=hl.trans (by kernel_rfl)
 obtain ⟨y0,k0⟩:=e5 vN (i:=0) (by rw [hxl];decide) (hf 0 _ rfl)
 have m0:(eX).rd w ((cs.drop 0).take (Tryz.prog.cellsOf 9)) y0:=k0
 rw [show Tryz.prog.cellsOf 9=1 by kernel_rfl] at m0
 obtain ⟨y1,k1⟩:=e5 m4 (i:=1) (by rw [hxl];decide) (hf 1 _ rfl)
 have m1:((aq bj 3)).rd w ((cs.drop 1).take (Tryz.prog.cellsOf 26)) y1:=k1
 rw [show Tryz.prog.cellsOf 26=1 by kernel_rfl] at m1
 rw [List.take_of_length_le (by simp;omega)] at m1
 exact ⟨(y0,y1),(mW 1 (by simpa [List.drop_drop] using m0) (by simpa [List.drop_drop] using m1))⟩
theorem z8 {w:World} {cs:List Value} {x:ByteArray × List Int} (h:(cx eX (aq bj 3)).rd w cs x):(fun x=>(fun s=>s.size≤9223372036854775807) x.1∧(aN (fun _=>True) 9223372036854775807) x.2) x:=by
 obtain ⟨⟨_,a0⟩,_,b0⟩:=lY h
 exact ⟨ud a0,q7 b0⟩
theorem x5:iq Tryz.prog (aq (cx eX (aq bj 3)) 72) 25:=lg Tryz.underlying25 (by kernel_rfl) (by decide) xS
theorem z0 {w:World} {cs:List Value} {x:List (ByteArray × List Int)} (h:(aq (cx eX (aq bj 3)) 72).rd w cs x):(aN (fun x=>(fun s=>s.size≤9223372036854775807) x.1∧(aN (fun _=>True) 9223372036854775807) x.2) 9223372036854775807) x:=ml z8 h
theorem xG:iq Tryz.prog (cx bj (cx (aq (cx eX (aq bj 3)) 72) (aq bj 3))) 28:=by
 intro H enc w base spare held fuel cs x h
 obtain ⟨xs,n,_,_,hl,hxl,hf⟩:=DataW.trod_struct Tryz.underlying28 h
 have hl2:cs.length=3:=hl.trans (by kernel_rfl)
 obtain ⟨y0,k0⟩:=e5 sQ (i:=0) (by rw [hxl];decide) (hf 0 _ rfl)
 have m0:(bj).rd w ((cs.drop 0).take (Tryz.prog.cellsOf 3)) y0:=k0
 rw [show Tryz.prog.cellsOf 3=1 by kernel_rfl] at m0
 obtain ⟨y1,k1⟩:=e5 x5 (i:=1) (by rw [hxl];decide) (hf 1 _ rfl)
 have m1:((aq (cx eX (aq bj 3)) 72)).rd w ((cs.drop 1).take (Tryz.prog.cellsOf 25)) y1:=k1
 rw [show Tryz.prog.cellsOf 25=1 by kernel_rfl] at m1
 obtain ⟨y2,k2⟩:=e5 m4 (i:=2) (by rw [hxl];decide) (hf 2 _ rfl)
 have m2:((aq bj 3)).rd w ((cs.drop 2).take (Tryz.prog.cellsOf 26)) y2:=k2
 rw [show Tryz.prog.cellsOf 26=1 by kernel_rfl] at m2
 rw [List.take_of_length_le (by simp;omega)] at m2
 exact ⟨(y0,y1,y2),(mW 1 (by simpa [List.drop_drop] using m0) (mW 1 (by simpa [List.drop_drop] using m1) (by simpa [List.drop_drop] using m2)))⟩
theorem Ad {w:World} {cs:List Value} {x:Int × List (ByteArray × List Int) × List Int} (h:(cx bj (cx (aq (cx eX (aq bj 3)) 72) (aq bj 3))).rd w cs x):(fun x=>(aN (fun x=>(fun s=>s.size≤9223372036854775807) x.1∧(aN (fun _=>True) 9223372036854775807) x.2) 9223372036854775807) x.2.1∧(aN (fun _=>True) 9223372036854775807) x.2.2) x:=by
 obtain ⟨⟨_,a0⟩,_,b0⟩:=lY h
 obtain ⟨⟨_,a1⟩,_,b1⟩:=lY b0
 exact ⟨z0 a1,q7 b1⟩
end
theorem Sat.splitp {w0 w:World} {A B C:Asn} {Γ:List Asn} (h:Sat w0 w (A :: Γ)) (k:∀ f,A.holds w f→∃ p q,(p++q).Perm f∧B.holds w p∧C.holds w q):Sat w0 w (B :: C :: Γ):=by
 obtain ⟨hb,_,⟨f1,f2,rfl,h1,h2⟩,hn,h3⟩:=h
 obtain ⟨p,q,hp,k1,k2⟩:=k f1 h1
 have hpp:(p++(q++f2)).Perm (f1++f2):=by rw [← List.append_assoc];exact List.Perm.append_right _ hp
 exact ⟨hb,p++(q++f2),⟨p,q++f2,rfl,k1,q,f2,rfl,k2,h2⟩,hpp.nodup_iff.2 hn,fun b hb'=>h3 b (hpp.mem_iff.1 hb')⟩
theorem Sat.joinp {w0 w:World} {A B C:Asn} {Γ:List Asn} (h:Sat w0 w (A :: B :: Γ)) (k:∀ f g,A.holds w f→B.holds w g→∃ p,p.Perm (f++g)∧C.holds w p):Sat w0 w (C :: Γ):=by
 obtain ⟨hb,_,⟨f1,_,rfl,h1,f2,f3,rfl,h2,h4⟩,hn,h3⟩:=h
 obtain ⟨p,hp,k1⟩:=k f1 f2 h1 h2
 have hpp:(p++f3).Perm (f1++(f2++f3)):=by rw [← List.append_assoc];exact List.Perm.append_right _ hp
 exact ⟨hb,p++f3,⟨p,f3,rfl,k1,h4⟩,hpp.nodup_iff.2 hn,fun b hb'=>h3 b (hpp.mem_iff.1 hb')⟩
section
variable {α β:Type} {R:Rep α} {S:Rep β} {w0 w:World} {Γ:List Asn} {E:TypeId} {v:Value}
def zo (R:Rep α) (E:TypeId) (v:Value) (xs:List α) (i:Nat) (ec:List Value):Asn where
 holds w fp:=(∀ b∈fp,b<w.heap.size)∧∀ w' y f',(∀ b∈fp,w'.heap[b]? = w.heap[b]?)→R.own w' ec y f'→∃ p,p.Perm (f'++fp)∧(aq R E).own w' [v] (xs.set i y) p
 ext h he:=by
  refine ⟨fun b hb=>?_,fun w'' y f' he' ho=>h.2 w'' y f' (fun b hb=>(he' b hb).trans (he b hb)) ho⟩
  have h1:=h.1 b hb
  have h2:=he b hb
  rw [Array.getElem?_eq_getElem h1] at h2
  exact (Array.getElem?_eq_some_iff.1 h2).1
 lt h:=h.1
theorem oV {w:World}:∀ {xs:List α} {ccs:List Value} {f:List Nat},eW R w ccs xs f→∀ (k:Nat) (hk:k<xs.length),
  ∃ ec f1 f2 f3,R.own w ec xs[k] f2∧f=f1++(f2++f3)∧(∀ j c,ec[j]? = some c→ccs[k*R.sz+j]? = some c) ∧
   ∀ w' y f',(∀ b∈f1++f3,w'.heap[b]? = w.heap[b]?)→R.own w' ec y f'→eW R w' ccs (xs.set k y) (f1++(f'++f3))
 | [],_,_,_,k,hk=>absurd hk (by simp)
 | x :: xs,_,_,h,k,hk=>by
  obtain ⟨ec,rest,f1,f2,rfl,rfl,h1,h2⟩:=h
  cases k with
  | zero =>
   refine ⟨ec,[],f1,f2,h1,rfl,fun j c hj=>?_,fun w' y f' he ho=>?_⟩
   ·have hlt:j<ec.length:=(List.getElem?_eq_some_iff.1 hj).1
    rw [Nat.zero_mul,Nat.zero_add,List.getElem?_append_left hlt];exact hj
   ·exact ⟨ec,rest,f',f2,rfl,rfl,ho,fc h2 fun b hb=>he b (by simpa using hb)⟩
  | succ k =>
   obtain ⟨ec',g1,g2,g3,k1,rfl,k3,k4⟩:=oV h2 k (by simpa using hk)
   refine ⟨ec',f1++g1,g2,g3,by simpa using k1,by simp,fun j c hj=>?_,fun w' y f' he ho=>?_⟩
   ·have e:(k+1)*R.sz+j=ec.length+(k*R.sz+j):=by rw [R.rd_len (R.own_rd h1),Nat.add_mul];omega
    rw [e,List.getElem?_append_right (by omega),Nat.add_sub_cancel_left]
    exact k3 j c hj
   ·refine ⟨ec,rest,f1,g1++(f'++g3),rfl,by simp,R.own_ext h1 fun b hb=>he b (by simp [hb]),k4 w' y f' (fun b hb=>he b ?_) ho⟩
    rcases List.mem_append.1 hb with h | h
    ·simp [h]
    ·simp [h]
theorem Sat.takeOut {xs:List α} {g ln cap m:Nat} {i:Int} {u:α} {ec:List Value} (hS:Sat w0 w (Own (aq R E) [v] xs :: Γ)) (hv:v=.slice (some ⟨g,0,none⟩) ln cap) (h:ix xs i=some u) (hn:R.sz=m) (hl:ec.length=m)
  (hm:∀ j c,ec[j]? = some c→w.cell? ⟨g,i.toNat*m+j,none⟩=some c):Sat w0 w (Own R ec u :: zo R E v xs i.toNat ec :: Γ):=by
 obtain ⟨k,rfl,hk,rfl⟩:=iM h
 subst hv hn
 refine hS.splitp fun f hf=>?_
 rcases hf with ⟨_,h2,_⟩ | ⟨g',cap',cur,ccs,fe,hv,hg,h1,h2,h3,h4,h5,rfl⟩
 ·subst h2;simp at hk
 obtain ⟨rfl,rfl,rfl⟩:g=g'∧ln=xs.length∧cap=cap':=by simpa using hv
 obtain ⟨ec',f1,f2,f3,k1,rfl,k3,k4⟩:=oV h5 k hk
 have hec:ec=ec':=by
  refine List.ext_getElem (by rw [hl,R.rd_len (R.own_rd k1)]) fun j hj1 hj2=>?_
  have e1:=hm j ec[j] (List.getElem?_eq_getElem hj1)
  have e2:=k3 j ec'[j] (List.getElem?_eq_getElem hj2)
  simp only [Int.toNat_natCast] at e1
  rw [cell_of_row w g _ cur E (0,0) hg,← Array.getElem?_toList] at e1
  rw [← h4,List.getElem?_take] at e2
  split at e2
  ·rw [e1] at e2;exact Option.some.inj e2
  ·cases e2
 subst hec
 refine ⟨f2,g :: (f1++f3),?_,k1,⟨fun b hb=>?_,fun w' y f' he ho=>⟨g :: (f1++(f'++f3)),?_,.inr ⟨g,cap,cur,ccs,_,by simp,by rw [he g (by simp)];exact hg,by simpa using h1,h2,h3,by simpa using h4,by
  simp only [Int.toNat_natCast]
  exact k4 w' y f' (fun b hb=>he b (List.mem_cons_of_mem _ hb)) ho,rfl⟩⟩⟩⟩
 ·refine List.perm_middle.trans (.cons _ ?_)
  rw [← List.append_assoc,← List.append_assoc]
  exact List.Perm.append_right _ List.perm_append_comm
 ·rcases List.mem_cons.1 hb with rfl | hb
  ·exact (Array.getElem?_eq_some_iff.1 hg).1
  ·refine gS h5 b ?_
   rcases List.mem_append.1 hb with h | h <;> simp [h]
 ·refine .trans (.cons _ ?_) List.perm_middle.symm
  rw [← List.append_assoc,← List.append_assoc]
  exact List.Perm.append_right _ List.perm_append_comm
theorem Sat.putBack {xs ys:List α} {i:Int} {y:α} {ec:List Value} (hS:Sat w0 w (Own R ec y :: zo R E v xs i.toNat ec :: Γ)) (h:sto xs i y=some ys):Sat w0 w (Own (aq R E) [v] ys :: Γ):=by
 have e:ys=xs.set i.toNat y:=by
  unfold sto at h;split at h
  ·exact (Option.some.inj h).symm
  ·cases h
 subst e
 exact hS.joinp fun f g h1 h2=>h2.2 w y f (fun _ _=>rfl) h1
theorem Sat.unpair {c d:List Value} {x:α × β} (hS:Sat w0 w (Own (cx R S) (c++d) x :: Γ)) (hc:c.length=R.sz):Sat w0 w (Own R c x.1 :: Own S d x.2 :: Γ):=by
 refine hS.splitp fun f hf=>?_
 obtain ⟨c1,c2,f1,f2,hcs,rfl,h1,h2⟩:=hf
 have hl:=R.rd_len (R.own_rd h1)
 obtain ⟨rfl,rfl⟩:=List.append_inj hcs (by omega)
 exact ⟨f1,f2,.refl _,h1,h2⟩
end
theorem Sat.rebase {a b w:World} {Γ:List Asn} (h:Sat b w Γ) (hx:Ext a b):Sat a w Γ:=by
 obtain ⟨hb,fp,h1,h2,h3⟩:=h
 exact ⟨Ext.trans hx hb,fp,h1,h2,fun x hx'=>Nat.le_trans hx.size (h3 x hx')⟩
theorem Sat.drop {w0 w:World} {Γ Δ:List Asn} (h:Sat w0 w (Γ++Δ)):Sat w0 w Δ:=by
 induction Γ with
 | nil=>simpa using h
 | cons A Γ ih=>exact ih h.tail
def roR {α:Type} (W:World) (R:Rep α):Rep α where
 sz:=R.sz
 rd _ cs x:=R.rd W cs x
 own _ cs x fp:=R.rd W cs x∧fp=[]
 rd_len h:=R.rd_len h
 rd_one h:=R.rd_one h
 rd_ext h _:=h
 own_rd h:=h.1
 own_ext h _:=h
 own_lt h:=by rw [h.2];simp
section
variable {α:Type} {R:Rep α} {W w w0 w':World} {E:TypeId} {Γ:List Asn} {v:Value} {xs:List α}
theorem wv (hx:Ext W w):∀ {xs:List α} {ccs:List Value},rdL (roR W R) w ccs xs→rdL R w ccs xs
 | [],_,h=>h
 | x :: xs,_,h=>by
  obtain ⟨ec,rest,rfl,h1,h2⟩:=h
  exact ⟨ec,rest,rfl,R.rd_ext h1 hx,wv hx h2⟩
theorem z6 {cs:List Value} (hx:Ext W w) (h:(aq (roR W R) E).rd w cs xs):(aq R E).rd w cs xs:=by
 obtain ⟨ao,cap,ccs,h1,h2,h3,h4,h5,h6⟩:=h
 exact ⟨ao,cap,ccs,h1,h2,h3,h4,wv hx h5,h6⟩
theorem Sat.roOne {cs:List Value} {x:α} (hS:Sat w0 w Γ) (h:R.rd W cs x):Sat w0 w (Own (roR W R) cs x :: Γ):=hS.add ⟨h,rfl⟩
theorem um {w2:World}:∀ {xs:List α} {ccs:List Value},rdL (roR W R) w ccs xs→eW (roR W R) w2 ccs xs []
 | [],_,h=>⟨h,rfl⟩
 | x :: xs,_,h=>by
  obtain ⟨ec,rest,rfl,h1,h2⟩:=h
  exact ⟨ec,rest,[],[],rfl,rfl,⟨h1,rfl⟩,um h2⟩
theorem i5 (h:(aq (roR W R) E).rd w [v] xs):∃ ao c ccs,v=.slice ao xs.length c∧(ao=none→c=0)∧mg w ao ccs∧rdL (roR W R) w ccs xs:=by
 obtain ⟨ao,cap,ccs,hv,h1,h2,h3,h4,h5⟩:=h
 exact ⟨ao,cap,ccs,by simpa using hv,h3,h5,h4⟩
theorem Sat.roL {ccs:List Value} {w2:World} (hS:Sat w0 w Γ) (h:rdL (roR W R) w2 ccs xs):Sat w0 w (nj (roR W R) ccs xs :: Γ):=hS.add (um h)
def wh (w:World) (E:TypeId) (ao:Option Addr) (ccs:List Value) (fp f2:List Nat):Prop :=
 (ccs=[]∧fp=f2)∨∃ g off cur,ao=some ⟨g,off,none⟩∧w.heap[g]? = some (.cells cur E (0,0))∧(∀ j c,ccs[j]? = some c→cur[off+j]? = some c)∧fp=g :: f2
def nK {α:Type} (R:Rep α) (E:TypeId):Rep (List α) where
 sz:=1
 rd w cs xs:=(aq R E).rd w cs xs
 own w cs xs fp:=∃ ao cap ccs f2,cs=[.slice ao xs.length cap]∧xs.length≤cap∧cap≤maxLen∧(ao=none→cap=0)∧eW R w ccs xs f2∧wh w E ao ccs fp f2
 rd_len h:=(aq R E).rd_len h
 rd_one h:=(aq R E).rd_one h
 rd_ext h he:=(aq R E).rd_ext h he
 own_rd h:=by
  obtain ⟨ao,cap,ccs,f2,rfl,h1,h2,h3,h4,h5⟩:=h
  refine ⟨ao,cap,ccs,rfl,h1,h2,h3,f4 h4,?_⟩
  rcases h5 with ⟨rfl,_⟩ | ⟨g,off,cur,rfl,hg,hc,_⟩
  ·exact .inl rfl
  ·refine .inr ⟨g,off,rfl,fun j c hj=>?_⟩
   rw [cell_of_row _ g _ cur E (0,0) hg];exact hc j c hj
 own_ext h he:=by
  obtain ⟨ao,cap,ccs,f2,rfl,h1,h2,h3,h4,h5⟩:=h
  rcases h5 with ⟨hc,rfl⟩ | ⟨g,off,cur,rfl,hg,hc,rfl⟩
  ·exact ⟨ao,cap,ccs,_,rfl,h1,h2,h3,fc h4 he,.inl ⟨hc,rfl⟩⟩
  ·exact ⟨_,cap,ccs,f2,rfl,h1,h2,h3,fc h4 (fun b hb=>he b (by simp [hb])),.inr ⟨g,off,cur,rfl,by rw [he g (by simp)];exact hg,hc,rfl⟩⟩
 own_lt h:=by
  obtain ⟨ao,cap,ccs,f2,rfl,h1,h2,h3,h4,h5⟩:=h
  rcases h5 with ⟨hc,rfl⟩ | ⟨g,off,cur,rfl,hg,hc,rfl⟩
  ·exact gS h4
  ·intro b hb
   rcases List.mem_cons.1 hb with rfl | hb
   ·exact (Array.getElem?_eq_some_iff.1 hg).1
   ·exact gS h4 b hb
theorem Sat.toTail (hS:Sat w0 w (Own (aq R E) [v] xs :: Γ)):Sat w0 w (Own (nK R E) [v] xs :: Γ):=by
 refine hS.conv fun f hf=>?_
 rcases hf with ⟨hv,rfl,rfl⟩ | ⟨g,cap,cur,ccs,f2,hv,hg,h1,h2,h3,h4,h5,rfl⟩
 ·exact ⟨none,0,[],[],hv,Nat.le_refl _,Nat.zero_le _,fun _=>rfl,⟨rfl,rfl⟩,.inl ⟨rfl,rfl⟩⟩
 ·refine ⟨_,cap,ccs,f2,hv,h1,h2,by simp,h5,.inr ⟨g,0,cur,rfl,hg,fun j c hj=>?_,rfl⟩⟩
  rw [Nat.zero_add,← Array.getElem?_toList]
  rw [← h4,List.getElem?_take] at hj
  split at hj
  ·exact hj
  ·cases hj
def qf (R:Rep α) (E:TypeId) (v:Value) (xs:List α):Asn where
 holds w fp:=∃ ao cap ec rest f2,v=.slice ao xs.length cap∧xs.length≤cap∧cap≤maxLen∧(ao=none→cap=0)∧ec.length=R.sz∧eW R w rest xs.tail f2∧wh w E ao (ec++rest) fp f2
 ext h he:=by
  obtain ⟨ao,cap,ec,rest,f2,rfl,h1,h2,h3,hl,h4,h5⟩:=h
  rcases h5 with ⟨hc,rfl⟩ | ⟨g,off,cur,rfl,hg,hc,rfl⟩
  ·exact ⟨ao,cap,ec,rest,_,rfl,h1,h2,h3,hl,fc h4 he,.inl ⟨hc,rfl⟩⟩
  ·exact ⟨_,cap,ec,rest,f2,rfl,h1,h2,h3,hl,fc h4 (fun b hb=>he b (by simp [hb])),.inr ⟨g,off,cur,rfl,by rw [he g (by simp)];exact hg,hc,rfl⟩⟩
 lt h:=by
  obtain ⟨ao,cap,ec,rest,f2,rfl,h1,h2,h3,hl,h4,h5⟩:=h
  rcases h5 with ⟨hc,rfl⟩ | ⟨g,off,cur,rfl,hg,hc,rfl⟩
  ·exact gS h4
  ·intro b hb
   rcases List.mem_cons.1 hb with rfl | hb
   ·exact (Array.getElem?_eq_some_iff.1 hg).1
   ·exact gS h4 b hb
theorem Sat.behead {u:α} {ec:List Value} {m b off:Nat} (hS:Sat w0 w (Own (nK R E) [v] xs :: Γ)) (h:ix xs 0=some u) (hn:R.sz=m) (hpos:0<m) (hl:ec.length=m)
  (hv:∃ ln cap,v=.slice (some ⟨b,off,none⟩) ln cap) (hm:∀ j c,ec[j]? = some c→w.cell? ⟨b,off+j,none⟩=some c):Sat w0 w (Own R ec u :: qf R E v xs :: Γ):=by
 subst hn
 refine hS.splitp fun f hf=>?_
 obtain ⟨ao,cap,ccs,f2,hcs,h1,h2,h3,h4,h5⟩:=hf
 cases xs with
 | nil=>simp [ix] at h
 | cons x xs =>
  obtain rfl:x=u:=by simpa [ix] using h
  obtain ⟨ec',rest,g1,g2,rfl,rfl,k1,k2⟩:=h4
  have hl':=R.rd_len (R.own_rd k1)
  obtain ⟨ln,cap',rfl⟩:=hv
  simp only [List.cons.injEq,and_true,Value.slice.injEq] at hcs
  obtain ⟨rfl,rfl,rfl⟩:=hcs
  rcases h5 with ⟨hc,rfl⟩ | ⟨g,off',cur,hao,hg,hc,rfl⟩
  ·rw [List.append_eq_nil_iff] at hc;rw [hc.1] at hl';simp at hl';omega
  ·simp only [Option.some.injEq,Addr.mk.injEq,and_true] at hao
   obtain ⟨rfl,rfl⟩:=hao
   have hec:ec=ec':=by
    refine List.ext_getElem (by omega) fun j hj1 hj2=>?_
    have e1:=hm j ec[j] (List.getElem?_eq_getElem hj1)
    have e2:=hc j ec'[j] (by rw [List.getElem?_append_left hj2];exact List.getElem?_eq_getElem hj2)
    rw [cell_of_row w b _ cur E (0,0) hg,e2] at e1
    exact (Option.some.inj e1).symm
   subst hec
   exact ⟨g1,b :: g2,List.perm_middle,k1,_,_,ec,rest,g2,rfl,h1,h2,h3,hl,k2,.inr ⟨b,off,cur,rfl,hg,hc,rfl⟩⟩
theorem Sat.behead' (hS:Sat w0 w (Own (nK R E) [v] xs :: Γ)) (h:0<xs.length):Sat w0 w (qf R E v xs :: Γ):=by
 obtain ⟨ao,hao⟩:∃ A,A=Asn.mk (fun w fp=>True∧∀ b∈fp,b<w.heap.size) (fun h he=>⟨trivial,fun b hb=>by
  have h1:=h.2 b hb
  have h2:=he b hb
  rw [Array.getElem?_eq_getElem h1] at h2
  exact (Array.getElem?_eq_some_iff.1 h2).1⟩) (fun h=>h.2):=⟨_,rfl⟩
 refine Sat.tail (A:=ao) ?_
 refine hS.splitp fun f hf=>?_
 obtain ⟨ao',cap,ccs,f2,hcs,h1,h2,h3,h4,h5⟩:=hf
 cases xs with
 | nil=>simp at h
 | cons x xs =>
  obtain ⟨ec',rest,g1,g2,rfl,rfl,k1,k2⟩:=h4
  have hl':=R.rd_len (R.own_rd k1)
  have hv:v=.slice ao' (x :: xs).length cap:=by simpa using hcs
  subst hao
  rcases h5 with ⟨hc,rfl⟩ | ⟨g,off',cur,hao,hg,hc,rfl⟩
  ·exact ⟨g1,g2,.refl _,⟨trivial,R.own_lt k1⟩,ao',cap,ec',rest,g2,hv,h1,h2,h3,hl',k2,.inl ⟨hc,rfl⟩⟩
  ·exact ⟨g1,g :: g2,List.perm_middle,⟨trivial,R.own_lt k1⟩,ao',cap,ec',rest,g2,hv,h1,h2,h3,hl',k2,.inr ⟨g,off',cur,hao,hg,hc,rfl⟩⟩
end
section
variable {P:Program} {n:Nat} {ops:Array Oper} {K:Env→World→Prop} {rest:List Oper} {e:Env} {w w0:World} {v:Value} {d:Nat} {ty:TypeId} {pos:String} {af:Array Edge} {Γ:List Asn} {x y:Operand} {α:Type} {R:Rep α} {E:TypeId}
theorem c9 {t:TypeId} {lo:Operand} [ht:SliceT P t E] {z:List Value} {m bytes:Nat} [hz:ElemT P E z m bytes] (hn:R.sz=m) (hpos:0<m) {xs ys:List α} (hS:Sat w0 w (qf R E v xs :: Γ)) (hx:ev e x=v) (hlo:ev e lo=.int .i64 1) (hq:slc xs 1 (xs.length:Int)=some ys) (hd:d<n)
  (hK:∀ v',Sat w0 w (Own (nK R E) [v'] ys :: Γ)→EL P n ops K rest (upd e d v') w):EL P n ops K (⟨some d,.slice t x (some lo) none none,ty,pos,af,none⟩ :: rest) e w:=by
 have hlen:1≤xs.length∧ys=xs.tail:=by
  unfold slc at hq
  split at hq
  ·rename_i h0
   refine ⟨by omega,?_⟩
   have:=Option.some.inj hq
   rw [← this];simp
  ·cases hq
 obtain ⟨hl1,rfl⟩:=hlen
 obtain ⟨fp,⟨ao,cap,ec,rs,f2,rfl,h1,h2,h3,hl,h4,h5⟩,_⟩:=hS.head
 have hz:=hz.h
 cases hq':P.info? E with
 | none=>simp [hq'] at hz
 | some inf =>
  simp [hq'] at hz
  have hsz:inf.size=R.sz:=by rw [hn];exact hz.2.1
  refine lf (v:=.slice (if cap=1 then ao else ao.map (·.add (1*inf.size))) (xs.length-1) (cap-1)) ?_ hd (hK _ ?_)
  ·intro w' _
   have hb:(Instr.sliceBounds true xs.length cap (some (.int .i64 1)) none none).run P w'=.ok (1,xs.length,cap) w':=by
    have h9:xs.length≤cap:=h1
    simp [Instr.sliceBounds,Instr.sliceBound,asIntOf,h9,hl1]
    intro h;omega
   unfold execOp
   simp only [hx,Instr.sliceAt,Sem.run_bind,run_underlying ht.h,Result.andThen_ok,Instr.slice,Option.map_some,hlo,Option.map_none,hb,sizeOf,typeInfo,hq',run_program,Sem.run_pure]
  ·refine hS.conv fun f hf=>?_
   obtain ⟨ao',cap',ec',rs',f2',hv,k1,k2,k3,kl,k4,k5⟩:=hf
   simp only [Value.slice.injEq] at hv
   obtain ⟨rfl,_,rfl⟩:=hv
   have hrl:=gP (f4 k4)
   refine ⟨(if cap=1 then ao else ao.map (·.add (1*inf.size))),cap-1,rs',f2',by simp,by simp;omega,by omega,?_,k4,?_⟩
   ·intro e0
    split at e0
    ·omega
    ·cases ao with
     | none=>have:=k3 rfl;omega
     | some _=>simp at e0
   ·rcases k5 with ⟨hc,rfl⟩ | ⟨g,off,cur,rfl,hg,hc,rfl⟩
    ·rw [List.append_eq_nil_iff] at hc
     exact .inl ⟨hc.2,rfl⟩
    ·by_cases hc1:cap=1
     ·
      have:xs.tail=[]:=by apply List.eq_nil_of_length_eq_zero;simp;omega
      rw [if_pos hc1]
      have hr0:rs'=[]:=by apply List.eq_nil_of_length_eq_zero;rw [hrl,this];simp
      subst hr0
      exact .inr ⟨g,off,cur,rfl,hg,by simp,rfl⟩
     ·rw [if_neg hc1]
      refine .inr ⟨g,off+inf.size,cur,by simp [Addr.add_lit],hg,fun j c hj=>?_,rfl⟩
      rw [hsz,← kl,Nat.add_assoc]
      exact hc _ c (by rw [List.getElem?_append_right (by omega),Nat.add_sub_cancel_left];exact hj)
theorem fI {t:TypeId} [ht:SliceT P t E] {zz:List Value} {m bytes:Nat} [hz:ElemT P E zz m bytes] {xs:List α} (hS:Sat w0 w (Own (nK R E) [v] xs :: Γ)) (hs:ev e x=v)
  (hn:R.sz=m) (hpos:0<m) {k:IntKind} (hi:ev e y=.int k 0) {u:α} (h:ix xs 0=some u) (hd:d<n)
  (hK:∀ b off ec,(∃ ln cap,v=.slice (some ⟨b,off,none⟩) ln cap)→R.rd w ec u→(∀ j c,ec[j]? = some c→w.cell? ⟨b,off+j,none⟩=some c)→EL P n ops K rest (upd e d (.pointer (some ⟨b,off,none⟩))) w) :
  EL P n ops K (⟨some d,.indexAddr t x y,ty,pos,af,none⟩ :: rest) e w:=by
 have hr:(aq R E).rd w [v] xs:=hS.rd
 obtain ⟨ao,cap,ccs,hv,h1,h2,h3,h4,h5⟩:=hr
 obtain rfl:v=.slice ao xs.length cap:=by simpa using hv
 obtain ⟨k',hk0,hk,rfl⟩:=iM h
 obtain rfl:k'=0:=by omega
 obtain ⟨ec,hec,hcc⟩:=mT h4 0 hk
 have hz:=hz.h
 have hlen:=gP h4
 cases hq:P.info? E with
 | none=>simp [hq] at hz
 | some inf =>
  simp [hq] at hz
  obtain ⟨b,off,rfl,hc⟩:∃ b off,ao=some ⟨b,off,none⟩∧∀ j c,ccs[j]? = some c→w.cell? ⟨b,off+j,none⟩=some c:=by
   rcases h5 with rfl | ⟨b,off,rfl,hc⟩
   ·have:0<xs.length*R.sz:=Nat.mul_pos (by omega) (by omega)
    simp at hlen;omega
   ·exact ⟨b,off,rfl,hc⟩
  refine lf (v:=.pointer (some ⟨b,off,none⟩)) ?_ hd (hK b off ec ⟨_,_,rfl⟩ hec fun j c hj=>hc _ _ (by have:=hcc j c hj;simpa using this))
  intro w' _
  unfold execOp
  simp [hs,hi,Instr.indexAt,asIntOf,run_underlying ht.h,sizeOf,typeInfo,hq,hk,Addr.add_lit]
theorem xj {f:FuncId} {g:Operand} {args:Array Operand} {tys:Array TypeId} {vals:Array Value} {R:Ending→World→Prop} (hf:ev e g=.func (.func f) #[] #[]) (hg:Goes P f) (hc:Calls P f vals w R) (hv:(args.toList.map (ev e)).toArray=vals) (hd:d<n)
  (hK:∀ x w',R x w'→∃ v,x=.returned v∧EL P n ops K rest (upd e d v) w'):EL P n ops K (⟨some d,.call ⟨.value g,args,tys⟩,ty,pos,af,none⟩ :: rest) e w:=by
 intro a ha
 refine wpList_plain rfl fun K' hK'=>?_
 unfold Oper.wp execOp
 have he:args.map (ev e)=vals:=by rw [← hv];apply Array.ext';simp
 simp only [ha.eval,resolve,hf,Deferred.ofValue,Sem.run_bind,Sem.run_pure,Result.andThen_ok,Array.empty_append,Array.append_empty,he,invoke,hg.run,Oper.upon_enter]
 refine hc.mono fun x w' hx=>?_
 obtain ⟨v,rfl,h⟩:=hK x w' hx
 exact hK' _ _ (h _ (ha.put hd v))
end

def oG (s r:ByteArray):Option ByteArray:=if s.size+r.size≤9223372036854775807 then some (s++r) else none
def ofB (xs:List Int):ByteArray:=xs.foldl (fun r n=>r.push (UInt8.ofNat n.toNat)) ByteArray.empty
theorem vJ (s:ByteArray) (b:UInt8):(s.push b).size=s.size+1:=by
 cases s;simp [ByteArray.push,ByteArray.size]
theorem pG (xs:List Int):(ofB xs).size=xs.length:=by
 unfold ofB
 have:∀ (xs:List Int) (s:ByteArray),(xs.foldl (fun r n=>r.push (UInt8.ofNat n.toNat)) s).size=s.size+xs.length:=by
  intro xs
  induction xs with
  | nil=>intro s;simp
  | cons x xs ih=>intro s;rw [List.foldl_cons,ih,vJ,List.length_cons];omega
 rw [this];simp
theorem rK {s r c:ByteArray} (h:oG s r=some c):c.size≤9223372036854775807:=by
 unfold oG at h
 split at h
 ·rename_i h0
  obtain rfl:=Option.some.inj h
  rw [ByteArray.size_append];exact h0
 ·cases h
theorem yw {w:World} {E:TypeId} {v:Value} {xs:List Int} (h:(aq u8R E).rd w [v] xs):(ofB xs).size≤9223372036854775807:=by
 obtain ⟨ao,cap,ccs,_,h1,h2,_⟩:=h
 rw [pG];unfold maxLen at h2;omega
section
variable {P:Program} {e:Env} {w:World} {d:Option Nat} {ty:TypeId} {pos:String} {af:Array Edge} {x y:Operand}
theorem us {t u:TypeId} {s r c:ByteArray} (hx:ev e x=.string s) (hy:ev e y=.string r) (h:oG s r=some c):PV P ⟨d,.binOp .add t x y u,ty,pos,af,none⟩ e w (.string c):=fun w' _=>by
 unfold oG at h
 split at h
 ·rename_i h0
  obtain rfl:=Option.some.inj h
  have h1:¬ (((s.size+r.size:Nat):Int) > IntKind.i64.max):=by
   have:IntKind.i64.max=9223372036854775807:=by decide
   rw [this];omega
  unfold execOp;simp only [hx,hy,eqGuard,binOp,Op.stringOp,Sem.run_bind,Sem.run_pure,Result.andThen_ok,if_neg h1]
  simp
 ·cases h
instance flat_str:FlatR eX (fun s=>.string s):=⟨fun h=>h.1⟩
theorem w6 {t u E:TypeId} [ht:SliceT P t E] (he:P.underlying E=some (.int .u8)) (hu:P.underlying u=some .string) {v:Value} (hx:ev e x=v) {xs:List Int} (hr:(aq u8R E).rd w [v] xs):PV P ⟨d,.convert t u x,ty,pos,af,none⟩ e w (.string (ofB xs)):=fun w' hw'=>by
 obtain ⟨ao,cap,ccs,hv,h1,h2,h3,h4,h5⟩:=hr
 obtain rfl:v=.slice ao xs.length cap:=by simpa using hv
 have hcc:ccs=xs.map (Value.int .u8):=by
  clear hv h1 h2 h3 h5 hx
  induction xs generalizing ccs with
  | nil=>simpa [rdL] using h4
  | cons y ys ih =>
   obtain ⟨ec,r,rfl,h6,h7⟩:=h4
   obtain rfl:=ih _ h7
   have:ec=[.int .u8 y]:=h6
   rw [this];rfl
 unfold execOp
 simp only [hx,Sem.run_bind,run_convert_bytes_string w' t u E ao xs.length cap ht.h he hu]
 cases ao with
 | none =>
  have:xs=[]:=by apply List.eq_nil_of_length_eq_zero;have:=h3 rfl;omega
  subst this
  simp [Conv.bytesToString,ofB]
 | some a =>
  have hl:(loadCells a xs.length).run P w'=.ok (xs.map (Value.int .u8)).toArray w':=by
   rcases h5 with h5 | ⟨b,off,hao,h5⟩
   ·rw [hcc,List.map_eq_nil_iff] at h5;subst h5
    simp [loadCells,loadCellsFrom]
   ·obtain rfl:=Option.some.inj hao
    have:=run_loadCells_list (P:=P) w' ⟨b,off,none⟩ (xs.map (Value.int .u8)) (fun j c hj=>by rw [Addr.add_lit];have:=h5 j c (by rw [hcc];exact hj);rw [hw'.cell (block_lt_of_cell this)];exact this)
    simpa using this
  rw [run_bytesToString w' a xs.length cap xs hl]
  simp [ofB]
end
def kq {α:Type} (R:Rep α) (j:Nat) (c:Value) (u y:α):Prop:=∀ w ec f,R.own w ec u f→j<ec.length∧R.own w (ec.set j c) y f
theorem yR (n x:Int):kq bj 0 (.int .i64 n) x n:=fun w ec f h=>by obtain ⟨rfl,rfl⟩:=h;exact ⟨by simp,rfl,rfl⟩
theorem wt {s:ByteArray} (hs:s.size≤9223372036854775807) (x:ByteArray):kq eX 0 (.string s) x s:=fun w ec f h=>by obtain ⟨⟨rfl,_⟩,rfl⟩:=h;exact ⟨by simp,⟨rfl,hs⟩,rfl⟩
theorem sm {α β:Type} {R:Rep α} {S:Rep β} {j:Nat} {c:Value} {x:α × β} {y:α} (h:kq R j c x.1 y):kq (cx R S) j c x (y,x.2):=fun w ec f hf=>by
 obtain ⟨c1,c2,f1,f2,rfl,rfl,h1,h2⟩:=hf
 obtain ⟨k1,k2⟩:=h w c1 f1 h1
 exact ⟨by simp;omega,c1.set j c,c2,f1,f2,List.set_append_left _ _ k1,rfl,k2,h2⟩
theorem zu {α β:Type} {R:Rep α} {S:Rep β} {j k:Nat} {c:Value} {x:α × β} {y:β} (h:kq S j c x.2 y) (hk:k=R.sz+j):kq (cx R S) k c x (x.1,y):=fun w ec f hf=>by
 obtain ⟨c1,c2,f1,f2,rfl,rfl,h1,h2⟩:=hf
 obtain ⟨k1,k2⟩:=h w c2 f2 h2
 have hl:=R.rd_len (R.own_rd h1)
 refine ⟨by simp;omega,c1,c2.set j c,f1,f2,?_,rfl,h1,k2⟩
 rw [List.set_append_right _ _ (by omega)];congr 2;omega
theorem tt {α:Type} {R:Rep α} {w:World} {j:Nat} {c:Value} {y:α}:∀ {xs:List α} {ccs:List Value} {f:List Nat},eW R w ccs xs f→∀ (k:Nat) (hk:k<xs.length),kq R j c xs[k] y→eW R w (ccs.set (k*R.sz+j) c) (xs.set k y) f
 | [],_,_,_,k,hk,_=>absurd hk (by simp)
 | x :: xs,_,_,h,k,hk,hu=>by
  obtain ⟨ec,rest,f1,f2,rfl,rfl,h1,h2⟩:=h
  cases k with
  | zero =>
   obtain ⟨k1,k2⟩:=hu w ec f1 h1
   exact ⟨ec.set j c,rest,f1,f2,by rw [Nat.zero_mul,Nat.zero_add,List.set_append_left _ _ k1],rfl,k2,h2⟩
  | succ k =>
   have hl:=R.rd_len (R.own_rd h1)
   refine ⟨ec,rest.set (k*R.sz+j) c,f1,f2,?_,rfl,h1,tt h2 k (by simpa using hk) (by simpa using hu)⟩
   rw [List.set_append_right _ _ (by rw [Nat.succ_mul];omega)]
   congr 2;rw [Nat.succ_mul];omega
section
variable {P:Program} {n:Nat} {ops:Array Oper} {K:Env→World→Prop} {rest:List Oper} {e:Env} {w w0:World} {v:Value} {ty:TypeId} {pos:String} {af:Array Edge} {Γ:List Asn} {x y:Operand} {α:Type} {R:Rep α} {E:TypeId}
theorem n8 {t:TypeId} {z:List Value} {bytes:Nat} [hz:ElemT P t z 1 bytes] {xs ys:List α} {g ln cap o j m:Nat} {u yv:α} {c:Value} (hv:v=.slice (some ⟨g,0,none⟩) ln cap)
  (hS:Sat w0 w (Own (aq R E) [v] xs :: Γ)) {i:Int} (hix:ix xs i=some u) (h:sto xs i yv=some ys) (hn:R.sz=m) (ho:o=i.toNat*m+j) (hx:ev e x=.pointer (some ⟨g,o,none⟩)) (hy:(ev e y).cells=[c].toArray) (h1:c.oneCell'=true)
  (hup:kq R j c u yv) (hK:∀ w',Sat w0 w' (Own (aq R E) [v] ys :: Γ)→EL P n ops K rest e w'):EL P n ops K (⟨none,.store t x y,ty,pos,af,none⟩ :: rest) e w:=by
 intro a ha
 refine wpList_plain rfl fun K' hK'=>?_
 obtain ⟨k,rfl,hk,rfl⟩:=iM hix
 have hys:ys=xs.set k yv:=by
  unfold sto at h;split at h
  ·simpa using (Option.some.inj h).symm
  ·cases h
 subst hys hv hn ho
 simp only [Int.toNat_natCast] at hx
 have hz:=hz.h
 cases hi:P.info? t with
 | none=>simp [hi] at hz
 | some inf =>
  simp [hi] at hz
  obtain ⟨fp,hv,_⟩:=hS.head
  obtain ⟨cur,hh,hcs⟩:∃ cur,w.heap[g]? = some (.cells cur E (0,0))∧xs.length*R.sz≤cur.size:=by
   rcases hv with ⟨h,_⟩ | ⟨g',cap',cur,ccs,f2,h,hg',h1,h2,h3,_⟩
   ·simp at h
   ·simp at h
    obtain ⟨rfl,_⟩:=h
    exact ⟨cur,hg',by rw [h3];exact Nat.mul_le_mul_right _ h1⟩
  have hjm:j<R.sz:=by
   rcases hv with ⟨_,h,_⟩ | ⟨g',cap',cur,ccs,f2,_,_,_,_,_,_,h5,_⟩
   ·subst h;simp at hk
   ·obtain ⟨ec,f1,f2,f3,k1,_,_,_⟩:=oV h5 k hk
    have:=(hup w ec f2 k1).1
    rw [R.rd_len (R.own_rd k1)] at this;exact this
  have hkk:k*R.sz+R.sz≤xs.length*R.sz:=by have:=Nat.mul_le_mul_right R.sz hk;rw [Nat.succ_mul] at this;exact this
  have hh':w.heap[g]? = some (.cells cur.toList.toArray E (0,0)):=by simpa using hh
  obtain ⟨w',hr,hnew,hc⟩:=gX (P:=P) [c] (k*R.sz+j) 0 cur.toList w hh' (by simp;omega) (by simpa using h1)
  have hsz:¬ ([c].toArray.size≠inf.size):=by simp;omega
  unfold Oper.wp execOp
  simp only [ha.eval,hx,Instr.storeAt,Instr.sureAddr,storeVar,sizeOf,typeInfo,hi,hy,Sem.run_bind,Sem.run_pure,run_program,Result.andThen_ok,hsz,if_false,Sem.run_ite,List.toList_toArray,hr,Oper.upon_skip]
  refine hK' _ _ (hK w' ?_ _ ha)
  refine hS.upd ?_
  intro fp2 hv2 hnd2
  rcases hv2 with ⟨h,_⟩ | ⟨g',cap',cur',ccs,f2,h,hg',h1,h2,h3,h4,h5,rfl⟩
  ·simp at h
  ·simp at h
   obtain ⟨rfl,rfl,rfl⟩:=h
   obtain ⟨rfl⟩:cur'=cur:=by rw [hh] at hg';simpa using hg'.symm
   have h6:=tt h5 k hk hup
   have hoth:∀ x,x≠g→x<w.heap.size→w'.heap[x]? = w.heap[x]?:=fun x hx hlt=>hc.block x hlt (by simpa using hx)
   have hgn:g∉f2:=(List.nodup_cons.1 hnd2).1
   have hcl:ccs.length=xs.length*R.sz:=gP (f4 h5)
   refine ⟨g :: f2,.inr ⟨g,cap,_,ccs.set (k*R.sz+j) c,f2,by simp,hnew,by simpa using h1,h2,?_,?_,fc h6 (fun b hb=>hoth b (fun e=>hgn (e ▸ hb)) (gS h5 b hb)),rfl⟩,hnd2,hc.mono (by simp),fun b hb=>.inl hb⟩
   ·simp only [List.size_toArray,List.length_append,List.length_take,List.length_drop,Array.length_toList,List.length_singleton,Nat.add_zero]
    omega
   ·rw [← h4,List.length_set]
    have:=px cur.toList [c] (k*R.sz+j) 1 (xs.length*R.sz) (by omega) (by simpa using hcs) rfl
    simp only [Nat.add_zero,List.length_singleton] at this ⊢
    rw [this,List.set_eq_take_append_cons_drop,if_pos (by simp;omega)]
    simp
end
theorem fR {P:Program} {n:Nat} {ops:Array Oper} {X:List Nat} {C:World→Prop} {K:Env→World→Prop} (i j:Nat) {f:Nat} {L:Array Bool} {e:Env} {w:World} {o o':Oper} (hr:Region.ready .any ops L=[i,j]) (ho:ops[i]? = some o) (ho':ops[j]? = some o')
  (h:EL P n ops (fun e' w'=>(X.contains i=true→C w')∧AL P n ops X C K f (L.setIfInBounds i true) e' w') [o] e w) (h':EL P n ops (fun e' w'=>(X.contains j=true→C w')∧AL P n ops X C K f (L.setIfInBounds j true) e' w') [o'] e w):AL P n ops X C K (f+1) L e w :=
 ⟨fun h0=>(by rw [h0] at hr;cases hr),fun k hk=>by
  rw [hr] at hk
  rcases List.mem_cons.1 hk with rfl | hk
  ·exact ⟨o,ho,h⟩
  ·obtain rfl:k=j:=by simpa using hk
   exact ⟨o',ho',h'⟩⟩
theorem lw {P:Program} {n:Nat} {c:Code} {Q:Exit→Env→World→Prop} {e:Env} {w:World} (I:Env→World→Prop) (h1:CW P n c (fun x e w=>x=.normal∧I e w) e w) (h2:∀ e w,I e w→Q .normal e w):CW P n c Q e w:=by
 intro a ha
 refine wp_mono (h1 a ha) ?_
 rintro x' a' w' ⟨e',he',rfl,hI⟩
 exact ⟨e',he',h2 _ _ hI⟩
def lD (m:Nat):Value→Int→Int→Value
 | .slice ao _ cap,lo,hi=>.slice (if cap=lo.toNat then ao else ao.map (·.add (lo.toNat*m))) (hi.toNat-lo.toNat) (cap-lo.toNat)
 | v,_,_=>v
section
variable {α:Type} {R:Rep α} {E:TypeId} {w w0:World} {v:Value} {xs ys:List α} {Γ:List Asn}
theorem pF {xs ys:List α} {lo hi:Int} (h:slc xs lo hi=some ys):∃ l k:Nat,lo=(l:Int)∧hi=(k:Int)∧l≤k∧k≤xs.length∧ys=(xs.take k).drop l:=by
 unfold slc at h
 split at h
 ·rename_i h0
  exact ⟨lo.toNat,hi.toNat,by omega,by omega,by omega,by omega,(Option.some.inj h).symm⟩
 ·cases h
theorem dO {m:Nat} {lo hi:Int} (hn:R.sz=m) (hr:(aq R E).rd w [v] xs) (hq:slc xs lo hi=some ys):(aq R E).rd w [lD m v lo hi] ys:=by
 obtain ⟨l,h,rfl,rfl,hlh,hh,rfl⟩:=pF hq
 obtain ⟨ao,cap,ccs,hv,h1,h2,h3,h4,h5⟩:=hr
 obtain rfl:v=.slice ao xs.length cap:=by simpa using hv
 have hlen:((xs.take h).drop l).length=h-l:=by simp;omega
 have hrd:=(ll l (ll h h4).1).2
 have hccl:=gP h4
 subst hn
 refine ⟨if cap=l then ao else ao.map (·.add (l*R.sz)),cap-l,_,by simp [lD,hlen],by rw [hlen];omega,by omega,?_,hrd,?_⟩
 ·intro e
  split at e
  ·omega
  ·cases ao with
   | none=>have:=h3 rfl;omega
   | some _=>simp at e
 ·by_cases hcl:cap=l
  ·left
   have:h=l:=by omega
   subst this
   apply List.eq_nil_of_length_eq_zero
   simp
  ·rw [if_neg hcl]
   rcases h5 with rfl | ⟨b,off,rfl,h5⟩
   ·left;simp
   ·right
    refine ⟨b,off+l*R.sz,by simp [Addr.add_lit],fun j c hj=>?_⟩
    rw [List.getElem?_drop,List.getElem?_take] at hj
    split at hj
    ·rw [Nat.add_assoc];exact h5 _ c hj
    ·cases hj
end
theorem kp {P:Program} {e:Env} {w wA:World} {d:Option Nat} {ty:TypeId} {pos:String} {af:Array Edge} {x:Operand} {v:Value} {α:Type} {R:Rep α} {E E':TypeId} {t:TypeId} {lo hi:Option Operand} [ht:SliceT P t E'] {z:List Value} {m bytes:Nat} [hz:ElemT P E' z m bytes]
    (hx:ev e x=v) {xs ys:List α} (hr:(aq R E).rd wA [v] xs) {l h:Int} (hlo:(lo.map (ev e)=some (.int .i64 l))∨(lo=none∧l=0)) (hhi:(hi.map (ev e)=some (.int .i64 h))∨(hi=none∧h=xs.length)) (hq:slc xs l h=some ys) :
    PV P ⟨d,.slice t x lo hi none,ty,pos,af,none⟩ e w (lD m v l h):=fun w' _=>by
  obtain ⟨l',h',rfl,rfl,hlh,hh,_⟩:=pF hq
  obtain ⟨ao,cap,ccs,hv,h1,h2,h3,h4,h5⟩:=hr
  obtain rfl:v=.slice ao xs.length cap:=by simpa using hv
  have hz:=hz.h
  cases hq':P.info? E' with
  | none=>simp [hq'] at hz
  | some inf =>
    simp [hq'] at hz
    have hcap:h'≤cap:=by omega
    have hsz:inf.size=m:=hz.2.1
    have hb:(Instr.sliceBounds true xs.length cap (lo.map (ev e)) (hi.map (ev e)) none).run P w'=.ok (l',h',cap) w':=by
      rcases hlo with e1 | ⟨e1,e1'⟩ <;> rcases hhi with e2 | ⟨e2,e2'⟩
      all_goals
        (try rw [e1]);(try rw [e2])
        first
          | (simp [Instr.sliceBounds,Instr.sliceBound,asIntOf,hcap,hlh];done)
          | (have:l'=0:=by omega
             subst this
             simp [Instr.sliceBounds,Instr.sliceBound,asIntOf,hcap,hlh];done)
          | (have:h'=xs.length:=by omega
             subst this
             simp [Instr.sliceBounds,Instr.sliceBound,asIntOf,hcap,hlh];done)
          | (have:l'=0:=by omega
             have:h'=xs.length:=by omega
             subst_vars
             simp [Instr.sliceBounds,Instr.sliceBound,asIntOf])
    unfold execOp
    simp only [hx,Instr.sliceAt,Sem.run_bind,run_underlying ht.h,Result.andThen_ok,Instr.slice,hb,sizeOf,typeInfo,hq',run_program,Sem.run_pure,Option.map_none,lD,hsz,Int.toNat_natCast]
theorem i8 {α:Type} {R:Rep α} {E:TypeId} {w:World} {cs:List Value} {xs:List α} (h:(nK R E).rd w cs xs):(aq R E).rd w cs xs:=h
theorem ie {α:Type} {xs ys:List α} {hi:Int} (h:slc xs 1 hi=some ys):0<xs.length:=by
 obtain ⟨l,k,h1,h2,h3,h4,_⟩:=pF h;omega
theorem uE {w W:World} {b o:Nat} (h:w.heap[b]? = W.heap[b]?):w.cell? ⟨b,o,none⟩=W.cell? ⟨b,o,none⟩:=by
 unfold World.cell?;simp [h]
def Frz (W:World) (F:List Nat):Asn where
 holds w fp:=fp=F∧(∀ b∈F,w.heap[b]? = W.heap[b]?)∧∀ b∈F,b<W.heap.size
 ext h he:=by obtain ⟨rfl,h1,h2⟩:=h;exact ⟨rfl,fun b hb=>(he b hb).trans (h1 b hb),h2⟩
 lt h:=by
  obtain ⟨rfl,h1,h2⟩:=h
  intro b hb
  have:=h1 b hb
  rw [Array.getElem?_eq_getElem (h2 b hb)] at this
  exact (Array.getElem?_eq_some_iff.1 this).1
section
variable {α:Type} {R:Rep α} {W w w0:World} {Γ:List Asn} {F F':List Nat} {cs:List Value} {x:α}
theorem Sat.frz (hS:Sat w0 w (Own R cs x :: Γ)):∃ F,R.own w cs x F∧Sat w0 w (Frz w F :: Γ):=by
 obtain ⟨hb,_,⟨f1,f2,rfl,h1,h2⟩,hn,h3⟩:=hS
 exact ⟨f1,h1,hb,_,⟨f1,f2,rfl,⟨rfl,fun _ _=>rfl,R.own_lt h1⟩,h2⟩,hn,h3⟩
theorem Sat.frzEq (i:Nat) (hS:Sat w0 w Γ) (hi:Γ[i]? = some (Frz W F)):∀ b∈F,w.heap[b]? = W.heap[b]?:=by
 obtain ⟨fp,⟨rfl,h,_⟩,_⟩:=(hS.top i hi).head
 exact h
theorem Sat.frzRd (i:Nat) (hS:Sat w0 w Γ) (hi:Γ[i]? = some (Frz W F)) (h:R.own W cs x F') (hs:∀ b∈F',b∈F):R.rd w cs x :=
 R.own_rd (R.own_ext h (fun b hb=>hS.frzEq i hi b (hs b hb)))
theorem Sat.frzCells (i:Nat) (hS:Sat w0 w Γ) (hi:Γ[i]? = some (Frz W F)) {b off:Nat} {ec:List Value} (hb:b∈F) (hm:∀ j c,ec[j]? = some c→W.cell? ⟨b,off+j,none⟩=some c):∀ j c,ec[j]? = some c→w.cell? ⟨b,off+j,none⟩=some c :=
 fun j c hj=>by rw [uE (hS.frzEq i hi b hb)];exact hm j c hj
end
section
variable {P:Program} {n:Nat} {ops:Array Oper} {X:List Nat} {C:World→Prop} {K:Env→World→Prop} {KQ:Env→Prop} {rest:List Oper} {e:Env} {w W:World} {v:Value} {d:Nat} {ty:TypeId} {pos:String} {af:Array Edge} {x y:Operand} {α:Type} {R:Rep α} {E:TypeId} {F:List Nat} {fuel:Nat} {L:Array Bool}
theorem oo {d:Option Nat} {t:TypeId} [ht:SliceT P t E] {zz:List Value} {m bytes:Nat} [hz:ElemT P E zz m bytes] {xs:List α} (hs:ev e x=v) (hr:(aq R E).own W [v] xs F)
  (hn:R.sz=m) {k:IntKind} {i:Int} (hi:ev e y=.int k i) {u:α} (h:ix xs i=some u) :
  ∃ b off ec F2,R.own W ec u F2∧(∀ q∈F2,q∈F)∧b∈F∧(∀ j c,ec[j]? = some c→W.cell? ⟨b,off+j,none⟩=some c)∧∀ w,PV P ⟨d,.indexAddr t x y,ty,pos,af,none⟩ e w (.pointer (some ⟨b,off,none⟩)):=by
 obtain ⟨k',rfl,hk,rfl⟩:=iM h
 rcases hr with ⟨_,h2,_⟩ | ⟨g,cap,cur,ccs,f2,hv,hg,h1,h2,h3,h4,h5,rfl⟩
 ·subst h2;simp at hk
 obtain rfl:v=.slice (some ⟨g,0,none⟩) xs.length cap:=by simpa using hv
 obtain ⟨ec,f1,f2',f3,k1,rfl,k3,_⟩:=oV h5 k' hk
 have hz:=hz.h
 cases hq:P.info? E with
 | none=>simp [hq] at hz
 | some inf =>
  simp [hq] at hz
  have hsz:inf.size=m:=hz.2.1
  refine ⟨g,k'*m,ec,f2',k1,fun q hq=>by simp [hq],by simp,fun j c hj=>?_,fun w w' _=>?_⟩
  ·have h0:=k3 j c hj
   rw [cell_of_row W g _ cur E (0,0) hg,← Array.getElem?_toList]
   rw [← h4,List.getElem?_take] at h0
   rw [← hn]
   split at h0
   ·exact h0
   ·cases h0
  ·unfold execOp
   simp [hs,hi,Instr.indexAt,asIntOf,run_underlying ht.h,sizeOf,typeInfo,hq,hk,Addr.add_lit,hsz]
theorem li {t:TypeId} [SliceT P t E] {zz:List Value} {m bytes:Nat} [ElemT P E zz m bytes] {xs:List α} (hs:ev e x=v) (hr:(aq R E).own W [v] xs F) (hn:R.sz=m) {k:IntKind} {i:Int} (hi:ev e y=.int k i) {u:α} (h:ix xs i=some u) (hd:d<n)
  (hK:∀ b off ec F2,R.own W ec u F2→(∀ q∈F2,q∈F)→b∈F→(∀ j c,ec[j]? = some c→W.cell? ⟨b,off+j,none⟩=some c)→EL P n ops K rest (upd e d (.pointer (some ⟨b,off,none⟩))) w):EL P n ops K (⟨some d,.indexAddr t x y,ty,pos,af,none⟩ :: rest) e w:=by
 obtain ⟨b,off,ec,F2,h1,h2,h3,h4,h5⟩:=oo (P:=P) (d:=some d) (ty:=ty) (pos:=pos) (af:=af) (t:=t) hs hr hn hi h
 exact lf (h5 _) hd (hK b off ec F2 h1 h2 h3 h4)
theorem mq {t:TypeId} [SliceT P t E] {zz:List Value} {m bytes:Nat} [ElemT P E zz m bytes] {xs:List α} (hs:ev e x=v) (hr:(aq R E).own W [v] xs F) (hn:R.sz=m) {k:IntKind} {i:Int} (hi:ev e y=.int k i) {u:α} (h:ix xs i=some u) (hd:d<n)
  (hK:∀ b off ec F2,R.own W ec u F2→(∀ q∈F2,q∈F)→b∈F→(∀ j c,ec[j]? = some c→W.cell? ⟨b,off+j,none⟩=some c)→QL P n ops w KQ rest (upd e d (.pointer (some ⟨b,off,none⟩)))):QL P n ops w KQ (⟨some d,.indexAddr t x y,ty,pos,af,none⟩ :: rest) e:=by
 obtain ⟨b,off,ec,F2,h1,h2,h3,h4,h5⟩:=oo (P:=P) (d:=some d) (ty:=ty) (pos:=pos) (af:=af) (t:=t) hs hr hn hi h
 exact o4 (h5 _) hd (hK b off ec F2 h1 h2 h3 h4)
theorem vz (hsel:ms ops=true) (i':Nat) {t:TypeId} [SliceT P t E] {zz:List Value} {m bytes:Nat} [ElemT P E zz m bytes] {xs:List α} (hi':ops[i']? = some ⟨some d,.indexAddr t x y,ty,pos,af,none⟩) (hC:C w) (hf:mH ops X L i' ⟨some d,.indexAddr t x y,ty,pos,af,none⟩=true) (hrd:(Region.ready .any ops L).contains i'=true)
  (hs:ev e x=v) (hr:(aq R E).own W [v] xs F) (hn:R.sz=m) {k:IntKind} {i:Int} (hi:ev e y=.int k i) {u:α} (h:ix xs i=some u) (hd:d<n)
  (hK:∀ b off ec F2,R.own W ec u F2→(∀ q∈F2,q∈F)→b∈F→(∀ j c,ec[j]? = some c→W.cell? ⟨b,off+j,none⟩=some c)→AL P n ops X C K fuel (L.setIfInBounds i' true) (upd e d (.pointer (some ⟨b,off,none⟩))) w):AL P n ops X C K (fuel+1) L e w:=by
 obtain ⟨b,off,ec,F2,h1,h2,h3,h4,h5⟩:=oo (P:=P) (d:=some d) (ty:=ty) (pos:=pos) (af:=af) (t:=t) hs hr hn hi h
 exact uB hsel i' hi' rfl hd hC hf hrd (aK rfl fun w' _=>h5 w') (hK b off ec F2 h1 h2 h3 h4)
end
theorem Sat.unlist {α:Type} {R:Rep α} {E:TypeId} {w w0:World} {v:Value} {xs:List α} {Γ:List Asn} (hS:Sat w0 w (Own (aq R E) [v] xs :: Γ)):∃ ao c ccs,v=.slice ao xs.length c∧(ao=none→c=0)∧mg w ao ccs∧Sat w0 w (nj R ccs xs :: Γ):=by
 obtain ⟨hb,_,⟨f1,f2,rfl,h1,h2⟩,hn,h3⟩:=hS
 rcases h1 with ⟨hv,rfl,rfl⟩ | ⟨g,cap,cur,ccs,f3,hv,hg,k1,k2,k3,k4,k5,rfl⟩
 ·exact ⟨none,0,[],by simpa using hv,fun _=>rfl,.inl rfl,hb,_,⟨[],f2,rfl,⟨rfl,rfl⟩,h2⟩,hn,h3⟩
 ·refine ⟨some ⟨g,0,none⟩,cap,ccs,by simpa using hv,by simp,.inr ⟨g,0,rfl,fun j c hj=>?_⟩,hb,f3++f2,⟨f3,f2,rfl,k5,h2⟩,(List.nodup_cons.1 hn).2,fun b hb'=>h3 b (List.mem_cons_of_mem _ hb')⟩
  rw [Nat.zero_add,cell_of_row _ g j cur E (0,0) hg,← Array.getElem?_toList]
  rw [← k4,List.getElem?_take] at hj
  split at hj
  ·exact hj
  ·cases hj
theorem vY {P:Program} {e:Env} {w:World} {v:Value} {ty:TypeId} {pos:String} {af:Array Edge} {x y:Operand} {α:Type} {E:TypeId} {d:Option Nat} {t:TypeId} [ht:SliceT P t E] {zz:List Value} {m bytes:Nat} [hz:ElemT P E zz m bytes] {xs:List α} (hs:ev e x=v) {g cap:Nat} (hv:v=.slice (some ⟨g,0,none⟩) xs.length cap) {k:IntKind} {j:Int} (hi:ev e y=.int k j) {u:α} (h:ix xs j=some u) :
  PV P ⟨d,.indexAddr t x y,ty,pos,af,none⟩ e w (.pointer (some ⟨g,j.toNat*m,none⟩)):=fun w' _=>by
 obtain ⟨k',rfl,hk,rfl⟩:=iM h
 subst hv
 have hz:=hz.h
 cases hq:P.info? E with
 | none=>simp [hq] at hz
 | some inf =>
  simp [hq] at hz
  have hsz:inf.size=m:=hz.2.1
  unfold execOp
  simp [hs,hi,Instr.indexAt,asIntOf,run_underlying ht.h,sizeOf,typeInfo,hq,hk,Addr.add_lit,hsz]
def fzR {α:Type} (W:World) (F:List Nat) (R:Rep α):Rep α where
 sz:=R.sz
 rd _ cs x:=∃ f,R.own W cs x f∧∀ b∈f,b∈F
 own _ cs x fp:=(∃ f,R.own W cs x f∧∀ b∈f,b∈F)∧fp=[]
 rd_len h:=by obtain ⟨f,h,_⟩:=h;exact R.rd_len (R.own_rd h)
 rd_one h:=by obtain ⟨f,h,_⟩:=h;exact R.rd_one (R.own_rd h)
 rd_ext h _:=h
 own_rd h:=h.1
 own_ext h _:=h
 own_lt h:=by rw [h.2];simp
section
variable {α:Type} {R:Rep α} {W w w0:World} {Γ:List Asn} {F:List Nat} {E:TypeId} {v:Value}
theorem rT (he:∀ b∈F,w.heap[b]? = W.heap[b]?):∀ {xs:List α} {ccs:List Value} {f':List Nat},eW (fzR W F R) w ccs xs f'→∃ f,eW R w ccs xs f∧∀ b∈f,b∈F
 | [],_,_,h=>⟨[],⟨h.1,rfl⟩,by simp⟩
 | x :: xs,_,_,h=>by
  obtain ⟨ec,rest,f1,f2,rfl,rfl,⟨⟨f,h1,hs⟩,_⟩,h2⟩:=h
  obtain ⟨f3,h3,h4⟩:=rT he h2
  refine ⟨f++f3,⟨ec,rest,f,f3,rfl,rfl,R.own_ext h1 fun b hb=>he b (hs b hb),h3⟩,fun b hb=>?_⟩
  rcases List.mem_append.1 hb with h | h
  ·exact hs b h
  ·exact h4 b h
theorem Sat.frzAll {xs:List α} (hS:Sat w0 w (Own (aq (fzR W F R) E) [v] xs :: Frz W F :: Γ)):∃ F1 F2,(aq R E).own w [v] xs F1∧(∀ b∈F1,b∈F2)∧Sat w0 w (Frz w F2 :: Γ):=by
 obtain ⟨hb,_,⟨f1,_,rfl,h1,fF,f2,rfl,⟨rfl,he,hlt⟩,h2⟩,hn,h3⟩:=hS
 have hl:∀ b∈fF,b<w.heap.size:=fun b hb=>by
  have:=he b hb
  rw [Array.getElem?_eq_getElem (hlt b hb)] at this
  exact (Array.getElem?_eq_some_iff.1 this).1
 rcases h1 with ⟨k1,rfl,rfl⟩ | ⟨g,cap,cur,ccs,fe,hv,hg,k1,k2,k3,k4,k5,rfl⟩
 ·exact ⟨[],fF,.inl ⟨k1,rfl,rfl⟩,by simp,hb,_,⟨fF,f2,rfl,⟨rfl,fun _ _=>rfl,hl⟩,h2⟩,hn,h3⟩
 ·obtain ⟨f,k6,k7⟩:=rT he k5
  have hfe:fe=[]:=by
   clear hn h3 k4 k3 hg
   suffices ∀ (xs:List α) (ccs:List Value) (f':List Nat),eW (fzR W fF R) w ccs xs f'→f'=[] from this _ _ _ k5
   intro xs
   induction xs with
   | nil=>intro _ _ h;exact h.2
   | cons x xs ih =>
    rintro _ _ ⟨ec,rest,f1,f2,rfl,rfl,⟨_,rfl⟩,h2⟩
    rw [ih _ _ h2];rfl
  subst hfe
  refine ⟨g :: f,g :: fF,.inr ⟨g,cap,cur,ccs,f,hv,hg,k1,k2,k3,k4,k6,rfl⟩,fun b hb=>?_,hb,_,⟨g :: fF,f2,rfl,⟨rfl,fun _ _=>rfl,fun b hb=>?_⟩,h2⟩,by simpa using hn,by simpa using h3⟩
  ·rcases List.mem_cons.1 hb with rfl | h
   ·simp
   ·exact List.mem_cons_of_mem _ (k7 b h)
  ·rcases List.mem_cons.1 hb with rfl | h
   ·exact (Array.getElem?_eq_some_iff.1 hg).1
   ·exact hl b h
end
section
variable {α:Type} {R:Rep α} {W w w0 w1:World} {Γ:List Asn} {F F':List Nat} {E:TypeId} {v:Value} {cs:List Value} {x:α}
theorem Sat.refrz (hS:Sat w0 w (Frz W F :: Γ)):Sat w0 w (Frz w F :: Γ) :=
 hS.conv fun f h=>⟨h.1,fun _ _=>rfl,fun b hb=>(Frz W F).lt h b (by rw [h.1];exact hb)⟩
theorem Sat.fzOne (hS:Sat w0 w Γ) (h:(fzR W F R).rd w1 cs x):Sat w0 w (nj (fzR W F R) cs [x] :: Γ) :=
 (hS.add (A:=Own (fzR W F R) cs x) ⟨h,rfl⟩).one
end
def fO (N:Nat) (a0:List Int) (a1:Int):Option Int :=
  (sb a1 (a0.length:Int)).bind fun D =>
  (bif decide (D<0) then
  some (-1)
  else
  some D)
def hX (N:Nat):Nat→(List (List Int))→Int→Int→Option (Sum Int (Int × Int))
 | 0,_,_,_=>none
 | k+1,J,U,D =>
  (bif decide (D<(J.length:Int)) then
  (ix J D).bind fun Z =>
  (fO N Z U).bind fun Y =>
  (bif decide (Y<0) then
  some (.inl (-1))
  else
  (ad D 1).bind fun Aq =>
  hX N k J Y Aq)
  else
  some (.inr (U,D)))
def jv (N:Nat) (a0:List (List Int)) (a1:Int):Option Int :=
  (sb a1 (a0.length:Int)).bind fun D =>
  (bif decide (D<0) then
  some (-1)
  else
  (hX N N a0 D 0).bind fun J =>
  lpS J (fun q=>some q) fun (U,Y) =>
  some U)
def hQ (N:Nat) (a0:Int) (a1:List (List Int)) (a2:Int):Option Int :=
  (jv N a1 a2).bind fun D =>
  (bif decide (D<0) then
  some (-1)
  else
  some D)
def gK (N:Nat) (a0:ByteArray) (a1:Int) (a2:List (List Int)) (a3:Int):Option Int :=
  (sb a3 (a0.size:Int)).bind fun D =>
  (bif decide (D<0) then
  some (-1)
  else
  (hQ N a1 a2 D).bind fun J =>
  (bif decide (J<0) then
  some (-1)
  else
  some J))
def gF (N:Nat):Nat→(List (ByteArray × (Int × List (List Int))))→Int→Int→Option (Sum Int (Int × Int))
 | 0,_,_,_=>none
 | k+1,J,Y,D =>
  (bif decide (D<(J.length:Int)) then
  (ix J D).bind fun U =>
  (gK N U.1 U.2.1 U.2.2 Y).bind fun Z =>
  (bif decide (Z<0) then
  some (.inl (-1))
  else
  (ad D 1).bind fun Aq =>
  gF N k J Z Aq)
  else
  some (.inr (Y,D)))
def iV (N:Nat) (a0:List (ByteArray × (Int × List (List Int)))) (a1:Int):Option Int :=
  (sb a1 (a0.length:Int)).bind fun D =>
  (bif decide (D<0) then
  some (-1)
  else
  (gF N N a0 D 0).bind fun J =>
  lpS J (fun q=>some q) fun (U,Y) =>
  some U)
def g0 (N:Nat) (a0:List (ByteArray × (Int × List (List Int)))) (a1:Int):Option Int :=
  (iV N a0 a1).bind fun D =>
  (bif decide (D<0) then
  some (-1)
  else
  some D)
def ik (N:Nat) (a0:ByteArray) (a1:List Int) (a2:Int):Option Int :=
  (sb a2 (a0.size:Int)).bind fun D =>
  (bif decide (D<0) then
  some (-1)
  else
  (fO N a1 D).bind fun J =>
  (bif decide (J<0) then
  some (-1)
  else
  some J))
def h8 (N:Nat):Nat→(List (ByteArray × List Int))→Int→Int→Option (Sum Int (Int × Int))
 | 0,_,_,_=>none
 | k+1,J,U,D =>
  (bif decide (D<(J.length:Int)) then
  (ix J D).bind fun Y =>
  (ik N Y.1 Y.2 U).bind fun Z =>
  (bif decide (Z<0) then
  some (.inl (-1))
  else
  (ad D 1).bind fun Aq =>
  h8 N k J Z Aq)
  else
  some (.inr (U,D)))
def jz (N:Nat) (a0:List (ByteArray × List Int)) (a1:Int):Option Int :=
  (sb a1 (a0.length:Int)).bind fun D =>
  (bif decide (D<0) then
  some (-1)
  else
  (h8 N N a0 D 0).bind fun J =>
  lpS J (fun q=>some q) fun (U,Y) =>
  some U)
def jx (N:Nat) (a0:Int) (a1:List (ByteArray × List Int)) (a2:List Int) (a3:Int):Option Int :=
  (jz N a1 a3).bind fun D =>
  (bif decide (D<0) then
  some (-1)
  else
  (fO N a2 D).bind fun J =>
  (bif decide (J<0) then
  some (-1)
  else
  some J))
def ea (N:Nat):Nat→Int→(List (List Int))→Int→(List (List Int))→Int→(List (List Int))→Int→Option ((List (List Int)) × Int)
 | 0,_,_,_,_,_,_,_=>none
 | k+1,Y,J,Z,Aq,Ar,U,D =>
  (bif decide (D<(J.length:Int)) then
  (ix J D).bind fun As =>
  (apd 8 [] As).bind fun At =>
  (apd 24 U [At]).bind fun Au =>
  (ad D 1).bind fun Av =>
  ea N k Y J Z Aq Ar Au Av
  else
  some (U,D))
def jb (N:Nat) (a0:Int) (a1:List (List Int)):Option (Int × List (List Int)) :=
  (ea N N a0 a1 0 [] a0 [] 0).bind fun D =>
  lpB D fun (J,U) =>
  some (a0,J)
def fv (N:Nat):Nat→(List Int)→(List Int)→Int→Option (Sum Int Int)
 | 0,_,_,_=>none
 | k+1,J,U,D =>
  (bif decide (D<(J.length:Int)) then
  (bif decide (D<(U.length:Int)) then
  (ix J D).bind fun Y =>
  (ix U D).bind fun Z =>
  (bif decide (Y<Z) then
  some (.inl (-1))
  else
  (ix J D).bind fun Aq =>
  (ix U D).bind fun Ar =>
  (bif decide (Ar<Aq) then
  some (.inl 1)
  else
  (ad D 1).bind fun As =>
  fv N k J U As))
  else
  some (.inr D))
  else
  some (.inr D))
def bq (N:Nat) (a0:List Int) (a1:List Int):Option Int :=
  (fv N N a0 a1 0).bind fun D =>
  lpS D (fun q=>some q) fun J =>
  (bif decide ((a0.length:Int)<(a1.length:Int)) then
  some (-1)
  else
  (bif decide ((a1.length:Int)<(a0.length:Int)) then
  some 1
  else
  some 0))
def ep (N:Nat) (a0:Int) (a1:Int) (a2:Int):Option Bool :=
  (bif decide (a1≤a0) then
  some (decide (a0≤a2))
  else
  some false)
def cW (N:Nat):Nat→(List Int)→Int→Option (Sum Bool Int)
 | 0,_,_=>none
 | k+1,J,D =>
  (bif decide (D<(J.length:Int)) then
  (ix J D).bind fun U =>
  (ep N U 0 99).bind fun Y =>
  (bif Y then
  (ad D 1).bind fun Z =>
  cW N k J Z
  else
  some (.inl false))
  else
  some (.inr D))
def es (N:Nat) (a0:List Int):Option Bool :=
  (cW N N a0 0).bind fun D =>
  lpS D (fun q=>some q) fun J =>
  some true
def cl (N:Nat):Nat→Int→(List (List Int))→Int→Option (Sum Bool Int)
 | 0,_,_,_=>none
 | k+1,U,J,D =>
  (bif decide (D<(J.length:Int)) then
  (ix J D).bind fun Y =>
  (bif ((Y.length:Int) != U) then
  some (.inl false)
  else
  (ix J D).bind fun Z =>
  (es N Z).bind fun Aq =>
  (bif Aq then
  (bif decide (0<D) then
  (sb D 1).bind fun Ar =>
  (ix J Ar).bind fun As =>
  (ix J D).bind fun At =>
  (bq N As At).bind fun Au =>
  (bif decide (0≤Au) then
  some (.inl false)
  else
  (ad D 1).bind fun Av =>
  cl N k U J Av)
  else
  (ad D 1).bind fun Aw =>
  cl N k U J Aw)
  else
  some (.inl false)))
  else
  some (.inr D))
def cy (N:Nat) (a0:Int) (a1:List (List Int)):Option Bool :=
  (ep N a0 0 5).bind fun D =>
  (bif D then
  (bif decide (4000<(a1.length:Int)) then
  some false
  else
  (cl N N a0 a1 0).bind fun J =>
  lpS J (fun q=>some q) fun U =>
  some true)
  else
  some false)
def eB (N:Nat):Nat→ByteArray→Int→Option (Sum Bool Int)
 | 0,_,_=>none
 | k+1,J,D =>
  (bif decide (D<(J.size:Int)) then
  (bx J D).bind fun U =>
  (bif decide (U<97) then
  some (.inl false)
  else
  (bx J D).bind fun Y =>
  (bif decide (122<Y) then
  some (.inl false)
  else
  (ad D 1).bind fun Z =>
  eB N k J Z))
  else
  some (.inr D))
def fJ (N:Nat) (a0:ByteArray):Option Bool :=
  (eB N N a0 0).bind fun D =>
  lpS D (fun q=>some q) fun U =>
  (ep N (a0.size:Int) 1 4).bind fun J =>
  some J
def bW (N:Nat):Nat→(List (ByteArray × (Int × List (List Int))))→Int→Option (Sum Bool Int)
 | 0,_,_=>none
 | k+1,U,J =>
  (bif decide (J<(U.length:Int)) then
  (ix U J).bind fun D =>
  (fJ N D.1).bind fun Y =>
  (bif Y then
  (bif decide (0<J) then
  (sb J 1).bind fun Z =>
  (ix U Z).bind fun Aq =>
  (bif (ltS Aq.1 D.1) then
  (cy N D.2.1 D.2.2).bind fun Ar =>
  (bif Ar then
  (bif decide (16<(D.2.2.length:Int)) then
  some (.inl false)
  else
  (bif decide (D.2.1<1) then
  some (.inl false)
  else
  (ad J 1).bind fun As =>
  bW N k U As))
  else
  some (.inl false))
  else
  some (.inl false))
  else
  (cy N D.2.1 D.2.2).bind fun At =>
  (bif At then
  (bif decide (16<(D.2.2.length:Int)) then
  some (.inl false)
  else
  (bif decide (D.2.1<1) then
  some (.inl false)
  else
  (ad J 1).bind fun Au =>
  bW N k U Au))
  else
  some (.inl false)))
  else
  some (.inl false))
  else
  some (.inr J))
def d7 (N:Nat) (a0:List (ByteArray × (Int × List (List Int)))):Option Bool :=
  (bW N N a0 0).bind fun D =>
  lpS D (fun q=>some q) fun J =>
  some (decide ((a0.length:Int)≤6))
def b9 (N:Nat):Nat→ByteArray→(List (ByteArray × (Int × List (List Int))))→Int→(List (List Int))→Int→Option (Sum ((Int × List (List Int)) × Bool) Int)
 | 0,_,_,_,_,_=>none
 | k+1,U,J,Aq,Ar,D =>
  (bif decide (D<(J.length:Int)) then
  (d7 N J).bind fun As =>
  (bif As then
  (ix J D).bind fun At =>
  (bif (eqS At.1 U) then
  (ix J D).bind fun Y =>
  (jb N Y.2.1 Y.2.2).bind fun Z =>
  some (.inl ((Z.1,Z.2),true))
  else
  (ad D 1).bind fun Au =>
  b9 N k U J Aq Ar Au)
  else
  some (.inr D))
  else
  some (.inr D))
def eu (N:Nat) (a0:List (ByteArray × (Int × List (List Int)))) (a1:ByteArray):Option ((Int × List (List Int)) × Bool) :=
  (b9 N N a1 a0 0 [] 0).bind fun D =>
  lpS D (fun q=>some q) fun J =>
  some ((0,[]),false)
def iw (N:Nat):Nat→(List Int)→Int→Int→Option (Sum Int Int)
 | 0,_,_,_=>none
 | k+1,J,U,D =>
  (bif decide (D<(J.length:Int)) then
  (ix J D).bind fun Y =>
  (bif (Y == U) then
  some (.inl D)
  else
  (ad D 1).bind fun Z =>
  iw N k J U Z)
  else
  some (.inr D))
def eY (N:Nat) (a0:List Int) (a1:Int):Option Int :=
  (iw N N a0 a1 0).bind fun D =>
  lpS D (fun q=>some q) fun J =>
  some (-1)
def cb (N:Nat):Nat→Int→ByteArray→(List Int)→Int→Option (Sum Bool Int)
 | 0,_,_,_,_=>none
 | k+1,U,Y,J,D =>
  (bif decide (D<(J.length:Int)) then
  (ix J D).bind fun Z =>
  (bif (Z == U) then
  some (.inl true)
  else
  (ad D 1).bind fun Aq =>
  cb N k U Y J Aq)
  else
  some (.inr D))
def c6 (N:Nat) (a0:ByteArray) (a1:List Int) (a2:Int):Option Bool :=
  (cb N N a2 a0 a1 0).bind fun D =>
  lpS D (fun q=>some q) fun J =>
  some false
def cO (N:Nat):Nat→Int→(List (ByteArray × List Int))→(List Int)→Int→Int→Option (Sum Bool Int)
 | 0,_,_,_,_,_=>none
 | k+1,Y,J,Z,U,D =>
  (ix J U).bind fun Aq =>
  (bif decide (D<(Aq.2.length:Int)) then
  (ix J U).bind fun Ar =>
  (ix Ar.2 D).bind fun As =>
  (sb Y 1).bind fun At =>
  (ep N As 0 At).bind fun Au =>
  (bif Au then
  (ad D 1).bind fun Av =>
  cO N k Y J Z U Av
  else
  some (.inl false))
  else
  some (.inr D))
def cQ (N:Nat):Nat→Int→(List (ByteArray × List Int))→(List Int)→Int→Option (Sum Bool Int)
 | 0,_,_,_,_=>none
 | k+1,U,J,Y,D =>
  (bif decide (D<(J.length:Int)) then
  (ix J D).bind fun Z =>
  (fJ N Z.1).bind fun Aq =>
  (bif Aq then
  (ix J D).bind fun Ar =>
  (ep N (Ar.2.length:Int) 1 5).bind fun As =>
  (bif As then
  (cO N N U J Y D 0).bind fun At =>
  lpS At (fun q=>some (.inl q)) fun Av =>
  (ad D 1).bind fun Au =>
  cQ N k U J Y Au
  else
  some (.inl false))
  else
  some (.inl false))
  else
  some (.inr D))
def cA (N:Nat):Nat→Int→(List (ByteArray × List Int))→(List Int)→Int→Bool→Int→Option (Bool × Int)
 | 0,_,_,_,_,_,_=>none
 | k+1,Y,J,Z,U,Aq,D =>
  (bif decide (D<(J.length:Int)) then
  (bif Aq then
  (ad D 1).bind fun As =>
  cA N k Y J Z U true As
  else
  (ix J D).bind fun Ar =>
  (c6 N Ar.1 Ar.2 U).bind fun At =>
  (ad D 1).bind fun Au =>
  cA N k Y J Z U At Au)
  else
  some (Aq,D))
def cH (N:Nat):Nat→Int→(List (ByteArray × List Int))→(List Int)→Int→Option (Sum Bool Int)
 | 0,_,_,_,_=>none
 | k+1,J,U,Y,D =>
  (bif decide (D<J) then
  (cA N N J U Y D false 0).bind fun Z =>
  lpB Z fun (Aq,As) =>
  (bif Aq then
  (ad D 1).bind fun Ar =>
  cH N k J U Y Ar
  else
  some (.inl false))
  else
  some (.inr D))
def cI (N:Nat):Nat→Int→(List (ByteArray × List Int))→(List Int)→Int→Option (Sum Bool Int)
 | 0,_,_,_,_=>none
 | k+1,U,Y,J,D =>
  (bif decide (D<(J.length:Int)) then
  (ix J D).bind fun Z =>
  (sb U 1).bind fun Aq =>
  (ep N Z 0 Aq).bind fun Ar =>
  (bif Ar then
  (slc J 0 D).bind fun As =>
  (ix J D).bind fun At =>
  (eY N As At).bind fun Au =>
  (bif decide (0≤Au) then
  some (.inl false)
  else
  (ad D 1).bind fun Av =>
  cI N k U Y J Av)
  else
  some (.inl false))
  else
  some (.inr D))
def ek (N:Nat) (a0:Int) (a1:List (ByteArray × List Int)) (a2:List Int):Option Bool :=
  (ep N a0 1 5).bind fun D =>
  (bif D then
  (ep N (a1.length:Int) 1 4).bind fun J =>
  (bif J then
  (bif decide (a0<(a2.length:Int)) then
  some false
  else
  (cQ N N a0 a1 a2 0).bind fun U =>
  lpS U (fun q=>some q) fun Aq =>
  (cH N N a0 a1 a2 0).bind fun Y =>
  lpS Y (fun q=>some q) fun Ar =>
  (cI N N a0 a1 a2 0).bind fun Z =>
  lpS Z (fun q=>some q) fun As =>
  some true)
  else
  some false)
  else
  some false)
def de (N:Nat):Nat→(List (ByteArray × (Int × List (List Int))))→Int→(List (ByteArray × List Int))→(List Int)→Int→Option (Sum Bool Int)
 | 0,_,_,_,_,_=>none
 | k+1,U,Z,J,Aq,D =>
  (bif decide (D<(J.length:Int)) then
  (ix J D).bind fun Ar =>
  (eu N U Ar.1).bind fun Y =>
  (bif Y.2 then
  (ix J D).bind fun As =>
  (bif (Y.1.1 != (As.2.length:Int)) then
  some (.inl false)
  else
  (ad D 1).bind fun At =>
  de N k U Z J Aq At)
  else
  some (.inl false))
  else
  some (.inr D))
def hD (N:Nat) (a0:List (ByteArray × (Int × List (List Int)))) (a1:Int) (a2:List (ByteArray × List Int)) (a3:List Int):Option Bool :=
  (de N N a0 a1 a2 a3 0).bind fun D =>
  lpS D (fun q=>some q) fun Y =>
  (ek N a1 a2 a3).bind fun J =>
  (bif J then
  (d7 N a0).bind fun U =>
  some U
  else
  some false)
def c5 (N:Nat):Nat→(List Int)→Int→Option (Sum Bool Int)
 | 0,_,_=>none
 | k+1,D,J =>
  (bif decide (J<(D.length:Int)) then
  (ix D J).bind fun U =>
  (sb (D.length:Int) 1).bind fun Y =>
  (ep N U 0 Y).bind fun Z =>
  (bif Z then
  (slc D 0 J).bind fun Aq =>
  (ix D J).bind fun Ar =>
  (eY N Aq Ar).bind fun As =>
  (bif decide (0≤As) then
  some (.inl false)
  else
  (ad J 1).bind fun At =>
  c5 N k D At)
  else
  some (.inl false))
  else
  some (.inr J))
def eN (N:Nat) (a0:List Int):Option Bool :=
  (c5 N N a0 0).bind fun D =>
  lpS D (fun q=>some q) fun J =>
  some (decide ((a0.length:Int)≤5))
def gi (N:Nat) (a0:Int) (a1:List (ByteArray × List Int)) (a2:List Int) (a3:List Int):Option Bool :=
  (ek N a0 a1 a2).bind fun D =>
  (bif D then
  (bif ((a3.length:Int) == a0) then
  (eN N a3).bind fun J =>
  some J
  else
  some false)
  else
  some false)
def aM (rec:(List (List Int))→Option (List (List Int))) (N:Nat):Nat→(List (List Int))→(List (List Int))→(List (List Int))→Option ((List (List Int)) × (List (List Int)) × (List (List Int)))
 | 0,_,_,_=>none
 | k+1,J,U,D =>
  (bif decide (0<(J.length:Int)) then
  (bif ((J.length:Int) == 0) then
  (bif decide (0<(1:Int)) then
  (ix U 0).bind fun Y =>
  (slc U 1 (U.length:Int)).bind fun Z =>
  (bif ((D.length:Int) == 0) then
  (apd 24 D [Y]).bind fun AI =>
  aM rec N k J Z AI
  else
  (sb (D.length:Int) 1).bind fun AJ =>
  (ix D AJ).bind fun AK =>
  (bq N AK Y).bind fun AM =>
  (bif (AM != 0) then
  (apd 24 D [Y]).bind fun AN =>
  aM rec N k J Z AN
  else
  aM rec N k J Z D))
  else
  (ix J 0).bind fun Aq =>
  (slc J 1 (J.length:Int)).bind fun Ar =>
  (bif ((D.length:Int) == 0) then
  (apd 24 D [Aq]).bind fun AO =>
  aM rec N k Ar U AO
  else
  (sb (D.length:Int) 1).bind fun AP =>
  (ix D AP).bind fun AQ =>
  (bq N AQ Aq).bind fun AR =>
  (bif (AR != 0) then
  (apd 24 D [Aq]).bind fun AS =>
  aM rec N k Ar U AS
  else
  aM rec N k Ar U D)))
  else
  (bif decide (0<(U.length:Int)) then
  (ix J 0).bind fun AT =>
  (ix U 0).bind fun AU =>
  (bq N AT AU).bind fun AV =>
  (bif decide (0<AV) then
  (ix U 0).bind fun As =>
  (slc U 1 (U.length:Int)).bind fun At =>
  (bif ((D.length:Int) == 0) then
  (apd 24 D [As]).bind fun AW =>
  aM rec N k J At AW
  else
  (sb (D.length:Int) 1).bind fun AX =>
  (ix D AX).bind fun AY =>
  (bq N AY As).bind fun AZ =>
  (bif (AZ != 0) then
  (apd 24 D [As]).bind fun A0 =>
  aM rec N k J At A0
  else
  aM rec N k J At D))
  else
  (ix J 0).bind fun Au =>
  (slc J 1 (J.length:Int)).bind fun Av =>
  (bif ((D.length:Int) == 0) then
  (apd 24 D [Au]).bind fun A1 =>
  aM rec N k Av U A1
  else
  (sb (D.length:Int) 1).bind fun A2 =>
  (ix D A2).bind fun A3 =>
  (bq N A3 Au).bind fun A4 =>
  (bif (A4 != 0) then
  (apd 24 D [Au]).bind fun A5 =>
  aM rec N k Av U A5
  else
  aM rec N k Av U D)))
  else
  (bif decide (0<((-1):Int)) then
  (ix U 0).bind fun Aw =>
  (slc U 1 (U.length:Int)).bind fun Ax =>
  (bif ((D.length:Int) == 0) then
  (apd 24 D [Aw]).bind fun A6 =>
  aM rec N k J Ax A6
  else
  (sb (D.length:Int) 1).bind fun A7 =>
  (ix D A7).bind fun A8 =>
  (bq N A8 Aw).bind fun A9 =>
  (bif (A9 != 0) then
  (apd 24 D [Aw]).bind fun Ba =>
  aM rec N k J Ax Ba
  else
  aM rec N k J Ax D))
  else
  (ix J 0).bind fun Ay =>
  (slc J 1 (J.length:Int)).bind fun Az =>
  (bif ((D.length:Int) == 0) then
  (apd 24 D [Ay]).bind fun Bb =>
  aM rec N k Az U Bb
  else
  (sb (D.length:Int) 1).bind fun Bc =>
  (ix D Bc).bind fun Bd =>
  (bq N Bd Ay).bind fun Be =>
  (bif (Be != 0) then
  (apd 24 D [Ay]).bind fun Bf =>
  aM rec N k Az U Bf
  else
  aM rec N k Az U D)))))
  else
  (bif decide (0<(U.length:Int)) then
  (bif ((J.length:Int) == 0) then
  (bif decide (0<(1:Int)) then
  (ix U 0).bind fun AA =>
  (slc U 1 (U.length:Int)).bind fun AB =>
  (bif ((D.length:Int) == 0) then
  (apd 24 D [AA]).bind fun Bg =>
  aM rec N k J AB Bg
  else
  (sb (D.length:Int) 1).bind fun Bh =>
  (ix D Bh).bind fun Bi =>
  (bq N Bi AA).bind fun Bj =>
  (bif (Bj != 0) then
  (apd 24 D [AA]).bind fun Bk =>
  aM rec N k J AB Bk
  else
  aM rec N k J AB D))
  else
  (ix J 0).bind fun AC =>
  (slc J 1 (J.length:Int)).bind fun AD =>
  (bif ((D.length:Int) == 0) then
  (apd 24 D [AC]).bind fun Bl =>
  aM rec N k AD U Bl
  else
  (sb (D.length:Int) 1).bind fun Bm =>
  (ix D Bm).bind fun Bn =>
  (bq N Bn AC).bind fun Bo =>
  (bif (Bo != 0) then
  (apd 24 D [AC]).bind fun Bp =>
  aM rec N k AD U Bp
  else
  aM rec N k AD U D)))
  else
  (ix J 0).bind fun Bq =>
  (ix U 0).bind fun Br =>
  (bq N Bq Br).bind fun Bs =>
  (bif decide (0<Bs) then
  (ix U 0).bind fun AE =>
  (slc U 1 (U.length:Int)).bind fun AF =>
  (bif ((D.length:Int) == 0) then
  (apd 24 D [AE]).bind fun Bt =>
  aM rec N k J AF Bt
  else
  (sb (D.length:Int) 1).bind fun Bu =>
  (ix D Bu).bind fun Bv =>
  (bq N Bv AE).bind fun Bw =>
  (bif (Bw != 0) then
  (apd 24 D [AE]).bind fun Bx =>
  aM rec N k J AF Bx
  else
  aM rec N k J AF D))
  else
  (ix J 0).bind fun AG =>
  (slc J 1 (J.length:Int)).bind fun AH =>
  (bif ((D.length:Int) == 0) then
  (apd 24 D [AG]).bind fun By =>
  aM rec N k AH U By
  else
  (sb (D.length:Int) 1).bind fun Bz =>
  (ix D Bz).bind fun BA =>
  (bq N BA AG).bind fun BB =>
  (bif (BB != 0) then
  (apd 24 D [AG]).bind fun BC =>
  aM rec N k AH U BC
  else
  aM rec N k AH U D))))
  else
  some (J,U,D)))
def eZ:Nat→(List (List Int))→Option (List (List Int))
 | 0,_=>none
 | N+1,a0 =>
  (bif decide ((a0.length:Int)<2) then
  some a0
  else
  (qt (a0.length:Int) 2).bind fun D =>
  (slc a0 0 D).bind fun Y =>
  (eZ N Y).bind fun Z =>
  (slc a0 D (a0.length:Int)).bind fun Aq =>
  (eZ N Aq).bind fun Ar =>
  (aM (eZ N) N N Z Ar []).bind fun J =>
  lpB J fun (As,At,U) =>
  some U)
def c4 (N:Nat):Nat→Int→(List (List Int))→Int→(List (List Int))→Int→Option (Sum ((Int × List (List Int)) × Bool) Int)
 | 0,_,_,_,_,_=>none
 | k+1,U,J,Y,Z,D =>
  (bif decide (D<(J.length:Int)) then
  (ix J D).bind fun Aq =>
  (bif ((Aq.length:Int) != U) then
  some (.inl ((0,[]),false))
  else
  (ix J D).bind fun Ar =>
  (es N Ar).bind fun As =>
  (bif As then
  (ad D 1).bind fun At =>
  c4 N k U J Y Z At
  else
  some (.inl ((0,[]),false))))
  else
  some (.inr D))
def dD (N:Nat) (a0:Int) (a1:List (List Int)):Option ((Int × List (List Int)) × Bool) :=
  (c4 N N a0 a1 0 [] 0).bind fun J =>
  lpS J (fun q=>some q) fun Z =>
  (eZ N a1).bind fun U =>
  (jb N a0 U).bind fun D =>
  (cy N D.1 D.2).bind fun Y =>
  (bif Y then
  some ((D.1,D.2),true)
  else
  some ((0,[]),false))
def d5 (N:Nat):Nat→(List Int)→(List Int)→(List Int)→Int→Option ((List Int) × Int)
 | 0,_,_,_,_=>none
 | k+1,U,J,Y,D =>
  (bif decide (D<(J.length:Int)) then
  (ix J D).bind fun Z =>
  (ix U Z).bind fun Aq =>
  (apd 8 Y [Aq]).bind fun Ar =>
  (ad D 1).bind fun As =>
  d5 N k U J Ar As
  else
  some (Y,D))
def jR (N:Nat) (a0:List Int) (a1:List Int):Option (List Int) :=
  (d5 N N a0 a1 [] 0).bind fun D =>
  lpB D fun (J,U) =>
  some J
def dP (N:Nat):Nat→(List Int)→Int→(List (List Int))→Int→(List (List Int))→Int→Option (Sum ((Int × List (List Int)) × Bool) Int)
 | 0,_,_,_,_,_,_=>none
 | k+1,J,U,Y,Z,Aq,D =>
  (bif decide (D<(J.length:Int)) then
  (ix J D).bind fun Ar =>
  (sb U 1).bind fun As =>
  (ep N Ar 0 As).bind fun At =>
  (bif At then
  (ad D 1).bind fun Au =>
  dP N k J U Y Z Aq Au
  else
  some (.inl ((0,[]),false)))
  else
  some (.inr D))
def dS (N:Nat):Nat→(List Int)→Int→(List (List Int))→Int→(List (List Int))→(List (List Int))→Int→Option ((List (List Int)) × Int)
 | 0,_,_,_,_,_,_,_=>none
 | k+1,U,Z,J,Aq,Ar,Y,D =>
  (bif decide (D<(J.length:Int)) then
  (ix J D).bind fun As =>
  (jR N As U).bind fun At =>
  (apd 24 Y [At]).bind fun Au =>
  (ad D 1).bind fun Av =>
  dS N k U Z J Aq Ar Au Av
  else
  some (Y,D))
def jC (N:Nat) (a0:Int) (a1:List (List Int)) (a2:List Int):Option ((Int × List (List Int)) × Bool) :=
  (dP N N a2 a0 a1 0 [] 0).bind fun J =>
  lpS J (fun q=>some q) fun Aq =>
  (cy N a0 a1).bind fun U =>
  (bif U then
  (bif decide (5<(a2.length:Int)) then
  some ((0,[]),false)
  else
  (dS N N a2 a0 a1 0 [] [] 0).bind fun Y =>
  lpB Y fun (Z,Ar) =>
  (dD N (a2.length:Int) Z).bind fun D =>
  some ((D.1.1,D.1.2),D.2))
  else
  some ((0,[]),false))
def iE (N:Nat) (a0:Int) (a1:List (List Int)) (a2:List Int):Option ((Int × List (List Int)) × Bool) :=
  (eN N a2).bind fun J =>
  (bif J then
  (bif ((a2.length:Int) != a0) then
  some ((0,[]),false)
  else
  (jC N a0 a1 a2).bind fun D =>
  (bif D.2 then
  some ((D.1.1,D.1.2),true)
  else
  some ((0,[]),false)))
  else
  some ((0,[]),false))
def ci (N:Nat):Nat→ByteArray→(List Int)→(List Int)→Int→Option ((List Int) × Int)
 | 0,_,_,_,_=>none
 | k+1,J,U,Y,D =>
  (bif decide (D<5) then
  (c6 N J U D).bind fun Z =>
  (bif Z then
  (apd 8 Y [D]).bind fun Aq =>
  (ad D 1).bind fun Ar =>
  ci N k J U Aq Ar
  else
  (ad D 1).bind fun As =>
  ci N k J U Y As)
  else
  some (Y,D))
def eK (N:Nat) (a0:ByteArray) (a1:List Int):Option (List Int) :=
  (ci N N a0 a1 [] 0).bind fun D =>
  lpB D fun (J,U) =>
  some J
def cJ (N:Nat):Nat→ByteArray→(List Int)→Int→(List (List Int))→(List Int)→Int→(List (List Int))→Int→(List (List Int))→(List (List Int))→Int→(List Int)→Int→Option ((List Int) × Int)
 | 0,_,_,_,_,_,_,_,_,_,_,_,_,_=>none
 | k+1,Ar,U,As,At,J,Au,Y,Av,Aw,Ax,Z,Aq,D =>
  (bif decide (D<(J.length:Int)) then
  (ix Y Z).bind fun Ay =>
  (ix J D).bind fun Az =>
  (eY N U Az).bind fun AA =>
  (ix Ay AA).bind fun AB =>
  (apd 8 Aq [AB]).bind fun AC =>
  (ad D 1).bind fun AD =>
  cJ N k Ar U As At J Au Y Av Aw Ax Z AC AD
  else
  some (Aq,D))
def bT (N:Nat):Nat→ByteArray→(List Int)→Int→(List (List Int))→(List Int)→Int→(List (List Int))→Int→(List (List Int))→(List (List Int))→Int→(List Int)→Bool→Int→Option (Bool × Int)
 | 0,_,_,_,_,_,_,_,_,_,_,_,_,_,_=>none
 | k+1,Ar,J,As,At,U,Au,Y,Av,Aw,Ax,Z,Aq,Ay,D =>
  (bif decide (D<(J.length:Int)) then
  (ix J D).bind fun AA =>
  (eY N U AA).bind fun Az =>
  (bif Ay then
  (bif decide (0≤Az) then
  (ix Aq Az).bind fun AB =>
  (ix Y Z).bind fun AC =>
  (ix AC D).bind fun AD =>
  (ad D 1).bind fun AE =>
  bT N k Ar J As At U Au Y Av Aw Ax Z Aq (AB == AD) AE
  else
  (ad D 1).bind fun AF =>
  bT N k Ar J As At U Au Y Av Aw Ax Z Aq false AF)
  else
  (ad D 1).bind fun AG =>
  bT N k Ar J As At U Au Y Av Aw Ax Z Aq false AG)
  else
  some (Ay,D))
def cr (N:Nat):Nat→ByteArray→(List Int)→Int→(List (List Int))→(List Int)→Int→(List (List Int))→Int→(List (List Int))→(List (List Int))→Int→Option ((List (List Int)) × Int)
 | 0,_,_,_,_,_,_,_,_,_,_,_=>none
 | k+1,Y,Z,Aq,Ar,As,At,J,Au,Av,U,D =>
  (bif decide (D<(J.length:Int)) then
  (cJ N N Y Z Aq Ar As At J Au Av U D [] 0).bind fun Ax =>
  lpB Ax fun (Aw,AD) =>
  (bT N N Y Z Aq Ar As At J Au Av U D Aw true 0).bind fun Ay =>
  lpB Ay fun (Az,AE) =>
  (bif Az then
  (apd 24 U [Aw]).bind fun AA =>
  (ad D 1).bind fun AB =>
  cr N k Y Z Aq Ar As At J Au Av AA AB
  else
  (ad D 1).bind fun AC =>
  cr N k Y Z Aq Ar As At J Au Av U AC)
  else
  some (U,D))
def gb (N:Nat) (a0:List (ByteArray × (Int × List (List Int)))) (a1:ByteArray) (a2:List Int):Option (Int × List (List Int)) :=
  (eK N a1 a2).bind fun D =>
  (eu N a0 a1).bind fun J =>
  (bif J.2 then
  (bif (J.1.1 != (a2.length:Int)) then
  some ((D.length:Int),[])
  else
  (cr N N a1 a2 0 [] D J.1.1 J.1.2 (D.length:Int) [] [] 0).bind fun Y =>
  lpB Y fun (Z,Aq) =>
  (dD N (D.length:Int) Z).bind fun U =>
  (bif U.2 then
  some (U.1.1,U.1.2)
  else
  some ((D.length:Int),[])))
  else
  some ((D.length:Int),[]))
def bL (N:Nat):Nat→(List Int)→(List Int)→(List Int)→Int→Option ((List Int) × Int)
 | 0,_,_,_,_=>none
 | k+1,J,Y,U,D =>
  (bif decide (D<(J.length:Int)) then
  (ix J D).bind fun Aq =>
  (eY N Y Aq).bind fun Z =>
  (bif decide (0≤Z) then
  (eY N U Z).bind fun Ar =>
  (bif decide (Ar<0) then
  (apd 8 U [Z]).bind fun As =>
  (ad D 1).bind fun At =>
  bL N k J Y As At
  else
  (ad D 1).bind fun Au =>
  bL N k J Y U Au)
  else
  (ad D 1).bind fun Av =>
  bL N k J Y U Av)
  else
  some (U,D))
def e9 (N:Nat) (a0:ByteArray) (a1:List Int) (a2:List Int):Option (List Int) :=
  (eK N a0 a1).bind fun D =>
  (bL N N a2 D [] 0).bind fun J =>
  lpB J fun (U,Y) =>
  some U
def dg (N:Nat):Nat→(List Int)→(List (ByteArray × (Int × List (List Int))))→Int→(List (ByteArray × List Int))→(List Int)→(List (Int × List (List Int)))→Int→Option (Sum ((List (Int × List (List Int))) × Bool) ((List (Int × List (List Int))) × Int))
 | 0,_,_,_,_,_,_,_=>none
 | k+1,Y,Z,Au,J,Av,Aq,D =>
  (bif decide (D<(J.length:Int)) then
  (ix J D).bind fun Ar =>
  (ix J D).bind fun As =>
  (gb N Z Ar.1 Ar.2).bind fun At =>
  (e9 N As.1 As.2 Y).bind fun Aw =>
  (iE N At.1 At.2 Aw).bind fun U =>
  (bif U.2 then
  (apd 32 Aq [(U.1.1,U.1.2)]).bind fun Ax =>
  (ad D 1).bind fun Ay =>
  dg N k Y Z Au J Av Ax Ay
  else
  some (.inl ([],false)))
  else
  some (.inr (Aq,D)))
def ia (N:Nat) (a0:List (ByteArray × (Int × List (List Int)))) (a1:Int) (a2:List (ByteArray × List Int)) (a3:List Int) (a4:List Int):Option ((List (Int × List (List Int))) × Bool) :=
  (hD N a0 a1 a2 a3).bind fun D =>
  (bif D then
  (gi N a1 a2 a3 a4).bind fun J =>
  (bif J then
  (dg N N a4 a0 a1 a2 a3 [] 0).bind fun U =>
  lpS U (fun q=>some q) fun (Y,Z) =>
  some (Y,true)
  else
  some ([],false))
  else
  some ([],false))
def dF (N:Nat):Nat→(List (Int × List (List Int)))→Int→Option (Sum Bool Int)
 | 0,_,_=>none
 | k+1,J,D =>
  (bif decide (D<(J.length:Int)) then
  (ix J D).bind fun U =>
  (bif ((U.2.length:Int) == 0) then
  some (.inl true)
  else
  (ad D 1).bind fun Y =>
  dF N k J Y)
  else
  some (.inr D))
def gQ (N:Nat) (a0:List (Int × List (List Int))):Option Bool :=
  (dF N N a0 0).bind fun D =>
  lpS D (fun q=>some q) fun J =>
  some false
def bD (N:Nat):Nat→Int→Int→(List (ByteArray × List Int))→(List Int)→(List Int)→Int→Option ((List Int) × Int)
 | 0,_,_,_,_,_,_=>none
 | k+1,Y,Z,J,Aq,U,D =>
  (bif decide (D<(J.length:Int)) then
  (ek N Z J Aq).bind fun As =>
  (bif As then
  (ix J D).bind fun Ar =>
  (c6 N Ar.1 Ar.2 Y).bind fun At =>
  (bif At then
  (apd 8 U [D]).bind fun Au =>
  (ad D 1).bind fun Av =>
  bD N k Y Z J Aq Au Av
  else
  (ad D 1).bind fun Aw =>
  bD N k Y Z J Aq U Aw)
  else
  some (U,D))
  else
  some (U,D))
def eG (N:Nat) (a0:Int) (a1:List (ByteArray × List Int)) (a2:List Int) (a3:Int):Option (List Int) :=
  (bD N N a3 a0 a1 a2 [] 0).bind fun D =>
  lpB D fun (J,U) =>
  some J
def la (N:Nat) (a0:Int) (a1:List (List Int)):Option (Int × List (List Int)) :=
  some (a0,a1)
def gz (N:Nat) (a0:Int) (a1:List (List Int)):Option Bool :=
  (la N a0 a1).bind fun D =>
  (cy N D.1 D.2).bind fun J =>
  some J
def cm (N:Nat):Nat→(List Int)→Int→(List (List Int))→Int→Option Int
 | 0,_,_,_,_=>none
 | k+1,J,Y,U,D =>
  (bif decide (D<(U.length:Int)) then
  (ix U D).bind fun Z =>
  (slc Z 0 (J.length:Int)).bind fun Aq =>
  (bq N Aq J).bind fun Ar =>
  (bif decide (Ar<0) then
  (ad D 1).bind fun As =>
  cm N k J Y U As
  else
  some D)
  else
  some D)
def bX (N:Nat):Nat→(List Int)→Int→(List (List Int))→Int→Int→Option Int
 | 0,_,_,_,_,_=>none
 | k+1,J,Y,U,Z,D =>
  (bif decide (D<(U.length:Int)) then
  (ix U D).bind fun Aq =>
  (slc Aq 0 (J.length:Int)).bind fun Ar =>
  (bq N Ar J).bind fun As =>
  (bif (As == 0) then
  (ad D 1).bind fun At =>
  bX N k J Y U Z At
  else
  some D)
  else
  some D)
def gl (N:Nat) (a0:Int) (a1:List (List Int)) (a2:List Int):Option (Int × Int) :=
  (gz N a0 a1).bind fun J =>
  (bif J then
  (bif decide (a0<(a2.length:Int)) then
  some (0,0)
  else
  (cm N N a2 a0 a1 0).bind fun U =>
  lpB U fun D =>
  (bX N N a2 a0 a1 D D).bind fun Y =>
  lpB Y fun Z =>
  some (D,Z))
  else
  some (0,0))
def bp (N:Nat):Nat→(List Int)→Int→(List (List Int))→(List Int)→Int→Int→Option ((List Int) × Int)
 | 0,_,_,_,_,_,_=>none
 | k+1,U,Y,Z,D,Aq,J =>
  (bif decide (J<Aq) then
  (bif decide ((U.length:Int)<Y) then
  (ix Z J).bind fun As =>
  (ix As (U.length:Int)).bind fun Ar =>
  (bif ((D.length:Int) == 0) then
  (apd 8 D [Ar]).bind fun At =>
  (ad J 1).bind fun Au =>
  bp N k U Y Z At Aq Au
  else
  (sb (D.length:Int) 1).bind fun Av =>
  (ix D Av).bind fun Aw =>
  (bif (Aw != Ar) then
  (apd 8 D [Ar]).bind fun Ax =>
  (ad J 1).bind fun Ay =>
  bp N k U Y Z Ax Aq Ay
  else
  (ad J 1).bind fun Az =>
  bp N k U Y Z D Aq Az))
  else
  some (D,J))
  else
  some (D,J))
def fg (N:Nat) (a0:Int) (a1:List (List Int)) (a2:List Int):Option (List Int) :=
  (gl N a0 a1 a2).bind fun D =>
  (bp N N a2 a0 a1 [] D.2 D.1).bind fun J =>
  lpB J fun (U,Y) =>
  some U
def cF (N:Nat):Nat→(List Int)→(List Int)→ByteArray→(List Int)→(List Int)→Int→Option ((List Int) × Int)
 | 0,_,_,_,_,_,_=>none
 | k+1,U,J,Y,Z,Aq,D =>
  (bif decide (D<(J.length:Int)) then
  (ix U D).bind fun Ar =>
  (c6 N Y Z Ar).bind fun As =>
  (bif As then
  (ix J D).bind fun At =>
  (apd 8 Aq [At]).bind fun Au =>
  (ad D 1).bind fun Av =>
  cF N k U J Y Z Au Av
  else
  (ad D 1).bind fun Aw =>
  cF N k U J Y Z Aq Aw)
  else
  some (Aq,D))
def gr (N:Nat) (a0:ByteArray) (a1:List Int) (a2:List Int) (a3:List Int):Option (List Int) :=
  (cF N N a2 a3 a0 a1 [] 0).bind fun D =>
  lpB D fun (J,U) =>
  some J
def b8 (N:Nat):Nat→(List Int)→Int→Option (Sum Bool Int)
 | 0,_,_=>none
 | k+1,J,D =>
  (bif decide (D<(J.length:Int)) then
  (ix J D).bind fun U =>
  (sb D 1).bind fun Y =>
  (ix J Y).bind fun Z =>
  (bif decide (U≤Z) then
  some (.inl false)
  else
  (ad D 1).bind fun Aq =>
  b8 N k J Aq)
  else
  some (.inr D))
def dU (N:Nat) (a0:List Int):Option Bool :=
  (b8 N N a0 1).bind fun D =>
  lpS D (fun q=>some q) fun J =>
  some true
def eT (N:Nat):Nat→(List (List Int))→Int→Option (Sum Bool Int)
 | 0,_,_=>none
 | k+1,J,D =>
  (bif decide (D<(J.length:Int)) then
  (ix J D).bind fun U =>
  (dU N U).bind fun Y =>
  (bif Y then
  (ad D 1).bind fun Z =>
  eT N k J Z
  else
  some (.inl false))
  else
  some (.inr D))
def jZ (N:Nat) (a0:List (List Int)):Option Bool :=
  (eT N N a0 0).bind fun D =>
  lpS D (fun q=>some q) fun J =>
  some (decide (0<(a0.length:Int)))
def bI (N:Nat):Nat→(List (List Int))→Int→Int→Option (Int × Int)
 | 0,_,_,_=>none
 | k+1,J,U,D =>
  (bif decide (D<(J.length:Int)) then
  (bif (D == 0) then
  (ix J D).bind fun Y =>
  (ad D 1).bind fun Z =>
  bI N k J (Y.length:Int) Z
  else
  (ix J D).bind fun Aq =>
  (bif decide ((Aq.length:Int)<U) then
  (ix J D).bind fun Ar =>
  (ad D 1).bind fun As =>
  bI N k J (Ar.length:Int) As
  else
  (ad D 1).bind fun At =>
  bI N k J U At))
  else
  some (U,D))
def fB (N:Nat) (a0:List (List Int)):Option Int :=
  (bI N N a0 0 0).bind fun D =>
  lpB D fun (J,U) =>
  some J
def fE (N:Nat):Nat→(List (List Int))→(List Int)→Int→Int→Option Int
 | 0,_,_,_,_=>none
 | k+1,J,U,Y,D =>
  (bif decide (0<D) then
  (sb D 1).bind fun Z =>
  (ix U Z).bind fun Aq =>
  (ix J Aq).bind fun Ar =>
  (ix Ar 0).bind fun As =>
  (ix J Y).bind fun At =>
  (ix At 0).bind fun Au =>
  (bif decide (Au<As) then
  (sb D 1).bind fun Av =>
  fE N k J U Y Av
  else
  some D)
  else
  some D)
def dj (N:Nat):Nat→(List (List Int))→(List Int)→Int→Option ((List Int) × Int)
 | 0,_,_,_=>none
 | k+1,U,D,J =>
  (bif decide (J<(U.length:Int)) then
  (fE N N U D J (D.length:Int)).bind fun Z =>
  lpB Z fun Y =>
  (slc D 0 Y).bind fun Aq =>
  (slc D Y (D.length:Int)).bind fun Ar =>
  (apd 8 [] Aq).bind fun As =>
  (apd 8 As [J]).bind fun At =>
  (apd 8 At Ar).bind fun Au =>
  (ad J 1).bind fun Av =>
  dj N k U Au Av
  else
  some (D,J))
def iX (N:Nat) (a0:List (List Int)):Option (List Int) :=
  (dj N N a0 [] 0).bind fun D =>
  lpB D fun (J,U) =>
  some J
def dp (N:Nat):Nat→(List Int)→Int→Int→Option Int
 | 0,_,_,_=>none
 | k+1,J,U,D =>
  (bif decide (D<(J.length:Int)) then
  (ix J D).bind fun Y =>
  (bif decide (Y<U) then
  (ad D 1).bind fun Z =>
  dp N k J U Z
  else
  some D)
  else
  some D)
def iG (N:Nat) (a0:List Int) (a1:Int) (a2:Int):Option Int :=
  (dp N N a0 a2 (imx 0 a1)).bind fun D =>
  lpB D fun J =>
  some (imn J (imx (a0.length:Int) 0))
def cM (N:Nat):Nat→(List (List Int))→(List Int)→(List Int)→(List Int)→Int→Int→Int→Option ((List Int) × Int)
 | 0,_,_,_,_,_,_,_=>none
 | k+1,J,Aq,Y,U,Ar,Au,Ax =>
  (ix Y Ar).bind fun D =>
  (ix J D).bind fun Ay =>
  (ix U D).bind fun Az =>
  (ix Ay Az).bind fun Av =>
  (ad Ax 1).bind fun Z =>
  (bif (Av == Au) then
  (apd 8 Aq [Av]).bind fun Aw =>
  (ix U D).bind fun AA =>
  (ad AA 1).bind fun AB =>
  (ix U D).bind fun AU =>
  (sto U D AB).bind fun As =>
  (ix As D).bind fun AC =>
  (ix J D).bind fun AD =>
  (bif (AC == (AD.length:Int)) then
  some (Aw,Z)
  else
  (ix J D).bind fun AE =>
  (ix As D).bind fun AF =>
  (ix AE AF).bind fun AG =>
  (ad Ar 1).bind fun AH =>
  (rm AH (Y.length:Int)).bind fun AI =>
  cM N k J Aw Y As AI AG Z)
  else
  (ix J D).bind fun AJ =>
  (ix U D).bind fun AK =>
  (iG N AJ AK Au).bind fun AM =>
  (ix U D).bind fun AV =>
  (sto U D AM).bind fun At =>
  (ix At D).bind fun AN =>
  (ix J D).bind fun AO =>
  (bif (AN == (AO.length:Int)) then
  some (Aq,Z)
  else
  (ix J D).bind fun AP =>
  (ix At D).bind fun AQ =>
  (ix AP AQ).bind fun AR =>
  (ad Ar 1).bind fun AS =>
  (rm AS (Y.length:Int)).bind fun AT =>
  cM N k J Aq Y At AT AR Z))
def dK (N:Nat) (a0:List (List Int)):Option ((List Int) × Int) :=
  (jZ N a0).bind fun J =>
  (bif J then
  (fB N a0).bind fun U =>
  (bif (U == 0) then
  some ([],0)
  else
  (iX N a0).bind fun D =>
  (mk 8 (0:Int) (a0.length:Int)).bind fun Y =>
  (sb (D.length:Int) 1).bind fun Z =>
  (ix D Z).bind fun Aq =>
  (ix a0 Aq).bind fun Ar =>
  (ix Ar 0).bind fun As =>
  cM N N a0 [] D Y 0 As 0)
  else
  some ([],0))
def dA (N:Nat):Nat→(List (Int × List (List Int)))→(List Int)→(List Int)→Int→(List (ByteArray × List Int))→(List Int)→(List Int)→(List (List Int))→Int→Option ((List (List Int)) × Int)
 | 0,_,_,_,_,_,_,_,_,_=>none
 | k+1,U,Y,Z,Au,Aq,Av,J,Ar,D =>
  (bif decide (D<(J.length:Int)) then
  (ix J D).bind fun Aw =>
  (ix U Aw).bind fun As =>
  (ix J D).bind fun Ax =>
  (ix Aq Ax).bind fun At =>
  (gr N At.1 At.2 Y Z).bind fun Ay =>
  (fg N As.1 As.2 Ay).bind fun Az =>
  (apd 24 Ar [Az]).bind fun AA =>
  (ad D 1).bind fun AB =>
  dA N k U Y Z Au Aq Av J AA AB
  else
  some (Ar,D))
def jr (N:Nat) (a0:List (Int × List (List Int))) (a1:Int) (a2:List (ByteArray × List Int)) (a3:List Int) (a4:List Int) (a5:List Int):Option ((List Int) × Int) :=
  (ix a4 (a5.length:Int)).bind fun J =>
  (eG N a1 a2 a3 J).bind fun U =>
  (dA N N a0 a4 a5 a1 a2 a3 U [] 0).bind fun Y =>
  lpB Y fun (Z,Aq) =>
  (dK N Z).bind fun D =>
  some (D.1,D.2)
def db (rec:(List (Int × List (List Int)))→Int→(List (ByteArray × List Int))→(List Int)→(List Int)→(List Int)→Option ((List (List Int)) × Int)) (N:Nat):Nat→(List (Int × List (List Int)))→(List Int)→(List Int)→Int→(List (ByteArray × List Int))→(List Int)→(List (List Int))→(List Int)→Int→Int→Option ((List (List Int)) × Int × Int)
 | 0,_,_,_,_,_,_,_,_,_,_=>none
 | k+1,U,Y,Z,Aq,Ar,As,At,J,Au,D =>
  (bif decide (D<(J.length:Int)) then
  (ix J D).bind fun Aw =>
  (apd 8 [] Z).bind fun Ax =>
  (apd 8 Ax [Aw]).bind fun Ay =>
  (rec U Aq Ar As Y Ay).bind fun Av =>
  (apd 24 At Av.1).bind fun Az =>
  (ad Au Av.2).bind fun AA =>
  (ad D 1).bind fun AB =>
  db rec N k U Y Z Aq Ar As Az J AA AB
  else
  some (At,Au,D))
def cY:Nat→(List (Int × List (List Int)))→Int→(List (ByteArray × List Int))→(List Int)→(List Int)→(List Int)→Option ((List (List Int)) × Int)
 | 0,_,_,_,_,_,_=>none
 | N+1,a0,a1,a2,a3,a4,a5 =>
  (bif ((a5.length:Int) == (a4.length:Int)) then
  (apd 8 [] a5).bind fun J =>
  some ([J],0)
  else
  (jr N a0 a1 a2 a3 a4 a5).bind fun D =>
  (db (cY N) N N a0 a4 a5 a1 a2 a3 [] D.1 D.2 0).bind fun U =>
  lpB U fun (Y,Z,Aq) =>
  some (Y,Z))
def ge (N:Nat) (a0:List (ByteArray × (Int × List (List Int)))) (a1:Int) (a2:List (ByteArray × List Int)) (a3:List Int) (a4:List Int):Option ((Int × List (List Int)) × Int × Bool) :=
  (ia N a0 a1 a2 a3 a4).bind fun D =>
  (bif D.2 then
  (gQ N D.1).bind fun Y =>
  (bif Y then
  some (((a4.length:Int),[]),0,true)
  else
  (cY N D.1 a1 a2 a3 a4 []).bind fun U =>
  (dD N (a4.length:Int) U.1).bind fun J =>
  (bif J.2 then
  some ((J.1.1,J.1.2),U.2,true)
  else
  some ((0,[]),0,false)))
  else
  some ((0,[]),0,false))
def dl (N:Nat):Nat→(List Int)→Int→(List (List Int))→Bool→Int→Option (Sum ((List Int) × Bool) Int)
 | 0,_,_,_,_,_=>none
 | k+1,U,Z,J,Y,D =>
  (bif decide (D<(J.length:Int)) then
  (bif Y then
  (bif ((U.length:Int) == 0) then
  (ix J D).bind fun Aq =>
  some (.inl (Aq,true))
  else
  (ix J D).bind fun Ar =>
  (bq N Ar U).bind fun As =>
  (bif decide (0<As) then
  (ix J D).bind fun At =>
  some (.inl (At,true))
  else
  (ad D 1).bind fun Au =>
  dl N k U Z J Y Au))
  else
  some (.inr D))
  else
  some (.inr D))
def gJ (N:Nat) (a0:List (ByteArray × (Int × List (List Int)))) (a1:Int) (a2:List (ByteArray × List Int)) (a3:List Int) (a4:List Int) (a5:List Int):Option ((List Int) × Bool) :=
  (ge N a0 a1 a2 a3 a4).bind fun D =>
  (dl N N a5 D.1.1 D.1.2 D.2.2 0).bind fun J =>
  lpS J (fun q=>some q) fun U =>
  some ([],false)
def dc (N:Nat):Nat→(List Int)→(List Int)→Int→(List (ByteArray × (Int × List (List Int))))→Int→(List (ByteArray × List Int))→(List Int)→(List (List Int))→Option (List (List Int))
 | 0,_,_,_,_,_,_,_,_=>none
 | k+1,U,Au,Y,Z,Aq,Ar,As,D =>
  (bif decide ((D.length:Int)<Y) then
  (gJ N Z Aq Ar As U Au).bind fun J =>
  (bif J.2 then
  (apd 24 D [J.1]).bind fun At =>
  (bif ((J.1.length:Int) == 0) then
  some At
  else
  dc N k U J.1 Y Z Aq Ar As At)
  else
  some D)
  else
  some D)
def f8 (N:Nat) (a0:List (ByteArray × (Int × List (List Int)))) (a1:Int) (a2:List (ByteArray × List Int)) (a3:List Int) (a4:List Int) (a5:List Int) (a6:Int):Option (List (List Int)) :=
  (dc N N a4 a5 a6 a0 a1 a2 a3 []).bind fun D =>
  lpB D fun J =>
  some J
def iA (N:Nat):Nat→(List Int)→(List Int)→Int→Option ((List Int) × Int)
 | 0,_,_,_=>none
 | k+1,J,U,D =>
  (bif decide (D<(J.length:Int)) then
  (ix J D).bind fun Y =>
  (ix U D).bind fun Ar =>
  (sto U D Y).bind fun Z =>
  (ad D 1).bind fun Aq =>
  iA N k J Z Aq
  else
  some (U,D))
def cT (N:Nat) (a0:List Int):Option (List Int) :=
  (mk 8 (0:Int) (a0.length:Int)).bind fun D =>
  (iA N N a0 D 0).bind fun J =>
  lpB J fun (U,Y) =>
  some U
def hY (N:Nat):Nat→(List (List Int))→(List (List Int))→Int→Option ((List (List Int)) × Int)
 | 0,_,_,_=>none
 | k+1,J,U,D =>
  (bif decide (D<(J.length:Int)) then
  (ix J D).bind fun Y =>
  (cT N Y).bind fun Z =>
  (ix U D).bind fun As =>
  (sto U D Z).bind fun Aq =>
  (ad D 1).bind fun Ar =>
  hY N k J Aq Ar
  else
  some (U,D))
def jy (N:Nat) (a0:List (List Int)):Option (List (List Int)) :=
  (mk 24 ([]:List Int) (a0.length:Int)).bind fun D =>
  (hY N N a0 D 0).bind fun J =>
  lpB J fun (U,Y) =>
  some U
def g6 (N:Nat) (a0:Int) (a1:List (List Int)):Option (Int × List (List Int)) :=
  (jy N a1).bind fun D =>
  some (a0,D)
def gL (N:Nat) (a0:ByteArray) (a1:Int) (a2:List (List Int)):Option (ByteArray × (Int × List (List Int))) :=
  (g6 N a1 a2).bind fun D =>
  some (a0,(D.1,D.2))
def gE (N:Nat):Nat→(List (ByteArray × (Int × List (List Int))))→(List (ByteArray × (Int × List (List Int))))→Int→Option ((List (ByteArray × (Int × List (List Int)))) × Int)
 | 0,_,_,_=>none
 | k+1,J,U,D =>
  (bif decide (D<(J.length:Int)) then
  (ix J D).bind fun Y =>
  (gL N Y.1 Y.2.1 Y.2.2).bind fun Z =>
  (ix U D).bind fun As =>
  (sto U D (Z.1,(Z.2.1,Z.2.2))).bind fun Aq =>
  (ad D 1).bind fun Ar =>
  gE N k J Aq Ar
  else
  some (U,D))
def iU (N:Nat) (a0:List (ByteArray × (Int × List (List Int)))):Option (List (ByteArray × (Int × List (List Int)))) :=
  (mk 48 ((ByteArray.empty,(0,[])):ByteArray × (Int × List (List Int))) (a0.length:Int)).bind fun D =>
  (gE N N a0 D 0).bind fun J =>
  lpB J fun (U,Y) =>
  some U
def el (N:Nat) (a0:List (ByteArray × (Int × List (List Int)))):Option (List (ByteArray × (Int × List (List Int)))) :=
  (iU N a0).bind fun D =>
  some D
def im (N:Nat) (a0:ByteArray) (a1:List Int):Option (ByteArray × List Int) :=
  (cT N a1).bind fun D =>
  some (a0,D)
def gY (N:Nat):Nat→(List (ByteArray × List Int))→(List (ByteArray × List Int))→Int→Option ((List (ByteArray × List Int)) × Int)
 | 0,_,_,_=>none
 | k+1,J,U,D =>
  (bif decide (D<(J.length:Int)) then
  (ix J D).bind fun Y =>
  (im N Y.1 Y.2).bind fun Z =>
  (ix U D).bind fun As =>
  (sto U D (Z.1,Z.2)).bind fun Aq =>
  (ad D 1).bind fun Ar =>
  gY N k J Aq Ar
  else
  some (U,D))
def jG (N:Nat) (a0:List (ByteArray × List Int)):Option (List (ByteArray × List Int)) :=
  (mk 40 ((ByteArray.empty,[]):ByteArray × List Int) (a0.length:Int)).bind fun D =>
  (gY N N a0 D 0).bind fun J =>
  lpB J fun (U,Y) =>
  some U
def fT (N:Nat) (a0:Int) (a1:List (ByteArray × List Int)) (a2:List Int):Option (Int × List (ByteArray × List Int) × List Int) :=
  (jG N a1).bind fun D =>
  (cT N a2).bind fun J =>
  some (a0,D,J)
def ib (N:Nat):Nat→Int→(List Int)→Int→Int→Option (Sum Int Int)
 | 0,_,_,_,_=>none
 | k+1,J,U,Y,D =>
  (bif decide (D<Y) then
  (ix U D).bind fun Z =>
  (bif (Z == J) then
  some (.inl D)
  else
  (ad D 1).bind fun Aq =>
  ib N k J U Y Aq)
  else
  some (.inr D))
def gH (N:Nat) (a0:List Int) (a1:Int):Option Int :=
  (ib N N a1 a0 (a0.length:Int) 0).bind fun D =>
  lpS D (fun q=>some q) fun J =>
  some (-1)
def ic (N:Nat) (a0:List Int) (a1:Int):Option Bool :=
  (gH N a0 a1).bind fun D =>
  some (decide (0≤D))
def dZ (N:Nat) (a0:Int) (a1:Int) (a2:Int):Option Bool :=
  (bif decide (a1≤a0) then
  some (decide (a0≤a2))
  else
  some false)
def er (N:Nat):Nat→(List Int)→Int→(List Int)→Int→Int→Option (Sum Bool Int)
 | 0,_,_,_,_,_=>none
 | k+1,J,U,Y,Z,D =>
  (bif decide (D<Z) then
  (ix Y D).bind fun Aq =>
  (sb U 1).bind fun Ar =>
  (dZ N Aq 0 Ar).bind fun As =>
  (bif As then
  (slc J 0 D).bind fun At =>
  (ic N At Aq).bind fun Au =>
  (bif Au then
  some (.inl false)
  else
  (ad D 1).bind fun Av =>
  er N k J U Y Z Av)
  else
  some (.inl false))
  else
  some (.inr D))
def gI (N:Nat) (a0:List Int) (a1:Int):Option Bool :=
  (er N N a0 a1 a0 (a0.length:Int) 0).bind fun D =>
  lpS D (fun q=>some q) fun J =>
  some true
def fi (N:Nat):Nat→ByteArray→Int→Option (Sum Bool Int)
 | 0,_,_=>none
 | k+1,J,D =>
  (bif decide (D<(J.size:Int)) then
  (bx J D).bind fun U =>
  (bif decide (U<97) then
  some (.inl false)
  else
  (bx J D).bind fun Y =>
  (bif decide (122<Y) then
  some (.inl false)
  else
  (ad D 1).bind fun Z =>
  fi N k J Z))
  else
  some (.inr D))
def jH (N:Nat) (a0:ByteArray) (a1:Int):Option Bool :=
  (bif decide ((a0.size:Int)<1) then
  some false
  else
  (bif decide (a1<(a0.size:Int)) then
  some false
  else
  (fi N N a0 0).bind fun D =>
  lpS D (fun q=>some q) fun J =>
  some true))
def fL (N:Nat) (a0:ByteArray):Option Bool :=
  (jH N a0 4).bind fun D =>
  some D
def cw (N:Nat):Nat→Int→(List Bool)→(List (ByteArray × List Int))→Int→Int→(List Int)→Int→Int→Option (Sum Bool ((List Bool) × Int))
 | 0,_,_,_,_,_,_,_,_=>none
 | k+1,Y,J,Ar,As,At,Z,Aq,D =>
  (bif decide (D<Aq) then
  (ix Z D).bind fun U =>
  (sb Y 1).bind fun Au =>
  (dZ N U 0 Au).bind fun Av =>
  (bif Av then
  (ix J U).bind fun Ay =>
  (sto J U true).bind fun Aw =>
  (ad D 1).bind fun Ax =>
  cw N k Y Aw Ar As At Z Aq Ax
  else
  some (.inl false))
  else
  some (.inr (J,D)))
def cq (N:Nat):Nat→Int→(List Bool)→(List (ByteArray × List Int))→Int→Int→Option (Sum Bool ((List Bool) × Int))
 | 0,_,_,_,_,_=>none
 | k+1,Z,Aq,U,Y,D =>
  (bif decide (D<Y) then
  (ix U D).bind fun J =>
  (fL N J.1).bind fun Ar =>
  (bif Ar then
  (dZ N (J.2.length:Int) 1 5).bind fun As =>
  (bif As then
  (cw N N Z Aq U Y D J.2 (J.2.length:Int) 0).bind fun At =>
  lpS At (fun q=>some (.inl q)) fun (Au,Aw) =>
  (ad D 1).bind fun Av =>
  cq N k Z Au U Y Av
  else
  some (.inl false))
  else
  some (.inl false))
  else
  some (.inr (Aq,D)))
def cK (N:Nat):Nat→(List Bool)→Int→Int→Option (Sum Bool Int)
 | 0,_,_,_=>none
 | k+1,J,U,D =>
  (bif decide (D<U) then
  (ix J D).bind fun Y =>
  (bif Y then
  (ad D 1).bind fun Z =>
  cK N k J U Z
  else
  some (.inl false))
  else
  some (.inr D))
def fj (N:Nat) (a0:Int) (a1:List (ByteArray × List Int)) (a2:List Int):Option Bool :=
  (dZ N a0 1 5).bind fun J =>
  (bif J then
  (dZ N (a1.length:Int) 1 4).bind fun U =>
  (bif U then
  (gI N a2 a0).bind fun Y =>
  (bif Y then
  (mk 1 (false:Bool) a0).bind fun Z =>
  (cq N N a0 Z a1 (a1.length:Int) 0).bind fun Aq =>
  lpS Aq (fun q=>some q) fun (D,As) =>
  (cK N N D (D.length:Int) 0).bind fun Ar =>
  lpS Ar (fun q=>some q) fun At =>
  some true
  else
  some false)
  else
  some false)
  else
  some false)
def eJ (N:Nat) (a0:Int) (a1:Int):Option Int :=
  (bif decide (a0<a1) then
  some (-1)
  else
  (bif decide (a1<a0) then
  some 1
  else
  some 0))
def fw (N:Nat):Nat→(List Int)→(List Int)→Int→Option (Sum Int Int)
 | 0,_,_,_=>none
 | k+1,J,U,D =>
  (bif decide (D<(J.length:Int)) then
  (bif decide (D<(U.length:Int)) then
  (ix J D).bind fun Y =>
  (ix U D).bind fun Z =>
  (bif (Y != Z) then
  (ix J D).bind fun Aq =>
  (ix U D).bind fun Ar =>
  (eJ N Aq Ar).bind fun As =>
  some (.inl As)
  else
  (ad D 1).bind fun At =>
  fw N k J U At)
  else
  some (.inr D))
  else
  some (.inr D))
def di (N:Nat) (a0:List Int) (a1:List Int):Option Int :=
  (fw N N a0 a1 0).bind fun D =>
  lpS D (fun q=>some q) fun U =>
  (eJ N (a0.length:Int) (a1.length:Int)).bind fun J =>
  some J
def cU (N:Nat):Nat→(List Int)→Int→Int→Option (Sum Bool Int)
 | 0,_,_,_=>none
 | k+1,J,U,D =>
  (bif decide (D<U) then
  (ix J D).bind fun Y =>
  (dZ N Y 0 99).bind fun Z =>
  (bif Z then
  (ad D 1).bind fun Aq =>
  cU N k J U Aq
  else
  some (.inl false))
  else
  some (.inr D))
def ez (N:Nat) (a0:List Int):Option Bool :=
  (cU N N a0 (a0.length:Int) 0).bind fun D =>
  lpS D (fun q=>some q) fun J =>
  some true
def du (N:Nat):Nat→Int→(List (List Int))→(List (List Int))→Int→Int→Option (Sum Bool Int)
 | 0,_,_,_,_,_=>none
 | k+1,J,U,Y,Z,D =>
  (bif decide (D<Z) then
  (ix Y D).bind fun Aq =>
  (bif ((Aq.length:Int) != J) then
  some (.inl false)
  else
  (ez N Aq).bind fun Ar =>
  (bif Ar then
  (bif decide (0<D) then
  (sb D 1).bind fun As =>
  (ix U As).bind fun At =>
  (di N At Aq).bind fun Au =>
  (bif decide (0≤Au) then
  some (.inl false)
  else
  (ad D 1).bind fun Av =>
  du N k J U Y Z Av)
  else
  (ad D 1).bind fun Aw =>
  du N k J U Y Z Aw)
  else
  some (.inl false)))
  else
  some (.inr D))
def iJ (N:Nat) (a0:Int) (a1:List (List Int)):Option Bool :=
  (dZ N a0 0 5).bind fun D =>
  (bif D then
  (bif decide (4000<(a1.length:Int)) then
  some false
  else
  (du N N a0 a1 a1 (a1.length:Int) 0).bind fun J =>
  lpS J (fun q=>some q) fun U =>
  some true)
  else
  some false)
def cB (N:Nat) (a0:Int) (a1:List (List Int)):Option Bool :=
  (iJ N a0 a1).bind fun D =>
  some D
def bU (N:Nat):Nat→(List (ByteArray × (Int × List (List Int))))→(List (ByteArray × (Int × List (List Int))))→Int→Int→Option (Sum Bool Int)
 | 0,_,_,_,_=>none
 | k+1,U,Y,Z,J =>
  (bif decide (J<Z) then
  (ix Y J).bind fun D =>
  (fL N D.1).bind fun Aq =>
  (bif Aq then
  (bif decide (0<J) then
  (sb J 1).bind fun Ar =>
  (ix U Ar).bind fun As =>
  (bif (ltS As.1 D.1) then
  (cB N D.2.1 D.2.2).bind fun At =>
  (bif At then
  (bif decide (D.2.1<1) then
  some (.inl false)
  else
  (bif decide (16<(D.2.2.length:Int)) then
  some (.inl false)
  else
  (ad J 1).bind fun Au =>
  bU N k U Y Z Au))
  else
  some (.inl false))
  else
  some (.inl false))
  else
  (cB N D.2.1 D.2.2).bind fun Av =>
  (bif Av then
  (bif decide (D.2.1<1) then
  some (.inl false)
  else
  (bif decide (16<(D.2.2.length:Int)) then
  some (.inl false)
  else
  (ad J 1).bind fun Aw =>
  bU N k U Y Z Aw))
  else
  some (.inl false)))
  else
  some (.inl false))
  else
  some (.inr J))
def d6 (N:Nat) (a0:List (ByteArray × (Int × List (List Int)))):Option Bool :=
  (bif decide (6<(a0.length:Int)) then
  some false
  else
  (bU N N a0 a0 (a0.length:Int) 0).bind fun D =>
  lpS D (fun q=>some q) fun J =>
  some true)
def f5 (N:Nat) (a0:List Int):Option (List Int) :=
  (apd 8 [] a0).bind fun D =>
  some D
def dE (N:Nat):Nat→(List (List Int))→(List (List Int))→Int→Int→Option ((List (List Int)) × Int)
 | 0,_,_,_,_=>none
 | k+1,J,U,Y,D =>
  (bif decide (D<Y) then
  (ix U D).bind fun Z =>
  (f5 N Z).bind fun Aq =>
  (apd 24 J [Aq]).bind fun Ar =>
  (ad D 1).bind fun As =>
  dE N k Ar U Y As
  else
  some (J,D))
def gU (N:Nat) (a0:List (List Int)):Option (List (List Int)) :=
  (dE N N [] a0 (a0.length:Int) 0).bind fun D =>
  lpB D fun (J,U) =>
  some J
def gc (N:Nat) (a0:Int) (a1:List (List Int)):Option (Int × List (List Int)) :=
  (gU N a1).bind fun D =>
  some (a0,D)
def cp (N:Nat):Nat→ByteArray→Int→(List (List Int))→(List (ByteArray × (Int × List (List Int))))→Int→Int→Option (Sum ((Int × List (List Int)) × Bool) Int)
 | 0,_,_,_,_,_,_=>none
 | k+1,U,Ar,As,Y,Z,D =>
  (bif decide (D<Z) then
  (ix Y D).bind fun J =>
  (bif (eqS J.1 U) then
  (gc N J.2.1 J.2.2).bind fun Aq =>
  some (.inl ((Aq.1,Aq.2),true))
  else
  (ad D 1).bind fun At =>
  cp N k U Ar As Y Z At)
  else
  some (.inr D))
def eC (N:Nat) (a0:List (ByteArray × (Int × List (List Int)))) (a1:ByteArray):Option ((Int × List (List Int)) × Bool) :=
  (d6 N a0).bind fun D =>
  (bif D then
  (cp N N a1 0 [] a0 (a0.length:Int) 0).bind fun J =>
  lpS J (fun q=>some q) fun U =>
  some ((0,[]),false)
  else
  some ((0,[]),false))
def df (N:Nat):Nat→(List (ByteArray × (Int × List (List Int))))→(List (ByteArray × List Int))→Int→Int→Option (Sum Bool Int)
 | 0,_,_,_,_=>none
 | k+1,J,U,Y,D =>
  (bif decide (D<Y) then
  (ix U D).bind fun Z =>
  (eC N J Z.1).bind fun Aq =>
  (bif Aq.2 then
  (bif (Aq.1.1 != (Z.2.length:Int)) then
  some (.inl false)
  else
  (ad D 1).bind fun Ar =>
  df N k J U Y Ar)
  else
  some (.inl false))
  else
  some (.inr D))
def gW (N:Nat) (a0:List (ByteArray × (Int × List (List Int)))) (a1:Int) (a2:List (ByteArray × List Int)) (a3:List Int):Option Bool :=
  (fj N a1 a2 a3).bind fun D =>
  (bif D then
  (d6 N a0).bind fun J =>
  (bif J then
  (df N N a0 a2 (a2.length:Int) 0).bind fun U =>
  lpS U (fun q=>some q) fun Y =>
  some true
  else
  some false)
  else
  some false)
def gh (N:Nat) (a0:Int) (a1:List (ByteArray × List Int)) (a2:List Int) (a3:List Int):Option Bool :=
  (fj N a0 a1 a2).bind fun D =>
  (bif D then
  (bif ((a3.length:Int) == a0) then
  (gI N a3 a0).bind fun J =>
  some J
  else
  some false)
  else
  some false)
def fV (N:Nat) (a0:List Int):Option Bool :=
  (bif decide ((a0.length:Int)≤5) then
  (gI N a0 (a0.length:Int)).bind fun D =>
  some D
  else
  some false)
def dB (N:Nat):Nat→Int→(List Int)→Int→Int→Option (Sum Bool Int)
 | 0,_,_,_,_=>none
 | k+1,J,U,Y,D =>
  (bif decide (D<Y) then
  (ix U D).bind fun Z =>
  (sb J 1).bind fun Aq =>
  (dZ N Z 0 Aq).bind fun Ar =>
  (bif Ar then
  (ad D 1).bind fun As =>
  dB N k J U Y As
  else
  some (.inl false))
  else
  some (.inr D))
def fY (N:Nat) (a0:Int) (a1:List Int):Option Bool :=
  (bif decide (5<(a1.length:Int)) then
  some false
  else
  (dB N N a0 a1 (a1.length:Int) 0).bind fun D =>
  lpS D (fun q=>some q) fun J =>
  some true)
def fd (N:Nat):Nat→(List Int)→(List Int)→(List Int)→Int→Int→Option ((List Int) × Int)
 | 0,_,_,_,_,_=>none
 | k+1,J,U,Y,Z,D =>
  (bif decide (D<Z) then
  (ix Y D).bind fun Aq =>
  (ix J Aq).bind fun Ar =>
  (apd 8 U [Ar]).bind fun As =>
  (ad D 1).bind fun At =>
  fd N k J As Y Z At
  else
  some (U,D))
def kr (N:Nat) (a0:List Int) (a1:List Int):Option (List Int) :=
  (fd N N a0 [] a1 (a1.length:Int) 0).bind fun D =>
  lpB D fun (J,U) =>
  some J
def aU (rec:(List (List Int))→Option (List (List Int))) (N:Nat):Nat→(List (List Int))→(List (List Int))→(List (List Int))→Option ((List (List Int)) × (List (List Int)) × (List (List Int)))
 | 0,_,_,_=>none
 | k+1,J,D,U =>
  (bif decide (0<(J.length:Int)) then
  (bif ((J.length:Int) == 0) then
  (bif decide ((1:Int)≤0) then
  (ix J 0).bind fun AA =>
  (apd 24 U [AA]).bind fun Aq =>
  (slc J 1 (J.length:Int)).bind fun Ar =>
  (bif decide (0≤(1:Int)) then
  (bif decide (0<(1:Int)) then
  (ix D 0).bind fun AB =>
  (apd 24 Aq [AB]).bind fun AC =>
  (slc D 1 (D.length:Int)).bind fun AD =>
  aU rec N k Ar AD AC
  else
  (slc D 1 (D.length:Int)).bind fun AE =>
  aU rec N k Ar AE Aq)
  else
  aU rec N k Ar D Aq)
  else
  (bif decide (0≤(1:Int)) then
  (bif decide (0<(1:Int)) then
  (ix D 0).bind fun AF =>
  (apd 24 U [AF]).bind fun AG =>
  (slc D 1 (D.length:Int)).bind fun AH =>
  aU rec N k J AH AG
  else
  (slc D 1 (D.length:Int)).bind fun AI =>
  aU rec N k J AI U)
  else
  aU rec N k J D U))
  else
  (bif decide (0<(D.length:Int)) then
  (ix J 0).bind fun AJ =>
  (ix D 0).bind fun AK =>
  (di N AJ AK).bind fun Y =>
  (bif decide (Y≤0) then
  (ix J 0).bind fun AM =>
  (apd 24 U [AM]).bind fun As =>
  (slc J 1 (J.length:Int)).bind fun At =>
  (bif decide (0≤Y) then
  (bif decide (0<Y) then
  (ix D 0).bind fun AN =>
  (apd 24 As [AN]).bind fun AO =>
  (slc D 1 (D.length:Int)).bind fun AP =>
  aU rec N k At AP AO
  else
  (slc D 1 (D.length:Int)).bind fun AQ =>
  aU rec N k At AQ As)
  else
  aU rec N k At D As)
  else
  (bif decide (0≤Y) then
  (bif decide (0<Y) then
  (ix D 0).bind fun AR =>
  (apd 24 U [AR]).bind fun AS =>
  (slc D 1 (D.length:Int)).bind fun AT =>
  aU rec N k J AT AS
  else
  (slc D 1 (D.length:Int)).bind fun AU =>
  aU rec N k J AU U)
  else
  aU rec N k J D U))
  else
  (bif decide (((-1):Int)≤0) then
  (ix J 0).bind fun AV =>
  (apd 24 U [AV]).bind fun Au =>
  (slc J 1 (J.length:Int)).bind fun Av =>
  (bif decide (0≤((-1):Int)) then
  (bif decide (0<((-1):Int)) then
  (ix D 0).bind fun AW =>
  (apd 24 Au [AW]).bind fun AX =>
  (slc D 1 (D.length:Int)).bind fun AY =>
  aU rec N k Av AY AX
  else
  (slc D 1 (D.length:Int)).bind fun AZ =>
  aU rec N k Av AZ Au)
  else
  aU rec N k Av D Au)
  else
  (bif decide (0≤((-1):Int)) then
  (bif decide (0<((-1):Int)) then
  (ix D 0).bind fun A0 =>
  (apd 24 U [A0]).bind fun A1 =>
  (slc D 1 (D.length:Int)).bind fun A2 =>
  aU rec N k J A2 A1
  else
  (slc D 1 (D.length:Int)).bind fun A3 =>
  aU rec N k J A3 U)
  else
  aU rec N k J D U))))
  else
  (bif decide (0<(D.length:Int)) then
  (bif ((J.length:Int) == 0) then
  (bif decide ((1:Int)≤0) then
  (ix J 0).bind fun A4 =>
  (apd 24 U [A4]).bind fun Aw =>
  (slc J 1 (J.length:Int)).bind fun Ax =>
  (bif decide (0≤(1:Int)) then
  (bif decide (0<(1:Int)) then
  (ix D 0).bind fun A5 =>
  (apd 24 Aw [A5]).bind fun A6 =>
  (slc D 1 (D.length:Int)).bind fun A7 =>
  aU rec N k Ax A7 A6
  else
  (slc D 1 (D.length:Int)).bind fun A8 =>
  aU rec N k Ax A8 Aw)
  else
  aU rec N k Ax D Aw)
  else
  (bif decide (0≤(1:Int)) then
  (bif decide (0<(1:Int)) then
  (ix D 0).bind fun A9 =>
  (apd 24 U [A9]).bind fun Ba =>
  (slc D 1 (D.length:Int)).bind fun Bb =>
  aU rec N k J Bb Ba
  else
  (slc D 1 (D.length:Int)).bind fun Bc =>
  aU rec N k J Bc U)
  else
  aU rec N k J D U))
  else
  (ix J 0).bind fun Bd =>
  (ix D 0).bind fun Be =>
  (di N Bd Be).bind fun Z =>
  (bif decide (Z≤0) then
  (ix J 0).bind fun Bf =>
  (apd 24 U [Bf]).bind fun Ay =>
  (slc J 1 (J.length:Int)).bind fun Az =>
  (bif decide (0≤Z) then
  (bif decide (0<Z) then
  (ix D 0).bind fun Bg =>
  (apd 24 Ay [Bg]).bind fun Bh =>
  (slc D 1 (D.length:Int)).bind fun Bi =>
  aU rec N k Az Bi Bh
  else
  (slc D 1 (D.length:Int)).bind fun Bj =>
  aU rec N k Az Bj Ay)
  else
  aU rec N k Az D Ay)
  else
  (bif decide (0≤Z) then
  (bif decide (0<Z) then
  (ix D 0).bind fun Bk =>
  (apd 24 U [Bk]).bind fun Bl =>
  (slc D 1 (D.length:Int)).bind fun Bm =>
  aU rec N k J Bm Bl
  else
  (slc D 1 (D.length:Int)).bind fun Bn =>
  aU rec N k J Bn U)
  else
  aU rec N k J D U)))
  else
  some (J,D,U)))
def dY:Nat→(List (List Int))→Option (List (List Int))
 | 0,_=>none
 | N+1,a0 =>
  (bif decide ((a0.length:Int)<2) then
  (gU N a0).bind fun Y =>
  some Y
  else
  (qt (a0.length:Int) 2).bind fun D =>
  (slc a0 0 D).bind fun Z =>
  (slc a0 D (a0.length:Int)).bind fun Aq =>
  (dY N Z).bind fun Ar =>
  (dY N Aq).bind fun As =>
  (aU (dY N) N N Ar As []).bind fun J =>
  lpB J fun (At,Au,U) =>
  some U)
def cZ (N:Nat):Nat→Int→(List (List Int))→Int→(List (List Int))→(List (List Int))→Int→Int→Option (Sum ((Int × List (List Int)) × Bool) Int)
 | 0,_,_,_,_,_,_,_=>none
 | k+1,J,Aq,Ar,As,U,Y,D =>
  (bif decide (D<Y) then
  (ix U D).bind fun Z =>
  (bif ((Z.length:Int) != J) then
  some (.inl ((0,[]),false))
  else
  (ez N Z).bind fun At =>
  (bif At then
  (ad D 1).bind fun Au =>
  cZ N k J Aq Ar As U Y Au
  else
  some (.inl ((0,[]),false))))
  else
  some (.inr D))
def fM (N:Nat) (a0:Int) (a1:List (List Int)):Option ((Int × List (List Int)) × Bool) :=
  (cZ N N a0 a1 0 [] a1 (a1.length:Int) 0).bind fun J =>
  lpS J (fun q=>some q) fun Y =>
  (dY N a1).bind fun D =>
  (cB N a0 D).bind fun U =>
  (bif U then
  some ((a0,D),true)
  else
  some ((0,[]),false))
def dR (N:Nat):Nat→(List Int)→Int→(List (List Int))→(List (List Int))→(List (List Int))→Int→Int→Option ((List (List Int)) × Int)
 | 0,_,_,_,_,_,_,_=>none
 | k+1,J,Aq,Ar,U,Y,Z,D =>
  (bif decide (D<Z) then
  (ix Y D).bind fun As =>
  (kr N As J).bind fun At =>
  (apd 24 U [At]).bind fun Au =>
  (ad D 1).bind fun Av =>
  dR N k J Aq Ar Au Y Z Av
  else
  some (U,D))
def ju (N:Nat) (a0:Int) (a1:List (List Int)) (a2:List Int):Option ((Int × List (List Int)) × Bool) :=
  (cB N a0 a1).bind fun J =>
  (bif J then
  (fY N a0 a2).bind fun U =>
  (bif U then
  (dR N N a2 0 [] [] a1 (a1.length:Int) 0).bind fun Y =>
  lpB Y fun (Z,Aq) =>
  (fM N (a2.length:Int) Z).bind fun D =>
  some ((D.1.1,D.1.2),D.2)
  else
  some ((0,[]),false))
  else
  some ((0,[]),false))
def iI (N:Nat) (a0:Int) (a1:List (List Int)) (a2:List Int):Option ((Int × List (List Int)) × Bool) :=
  (fV N a2).bind fun J =>
  (bif J then
  (bif ((a2.length:Int) != a0) then
  some ((0,[]),false)
  else
  (ju N a0 a1 a2).bind fun D =>
  (bif D.2 then
  some ((D.1.1,D.1.2),true)
  else
  some ((0,[]),false)))
  else
  some ((0,[]),false))
def dv (N:Nat) (a0:ByteArray) (a1:List Int) (a2:Int):Option Bool :=
  (ic N a1 a2).bind fun D =>
  some D
def cg (N:Nat):Nat→ByteArray→(List Int)→(List Int)→Int→Option ((List Int) × Int)
 | 0,_,_,_,_=>none
 | k+1,J,U,Y,D =>
  (bif decide (D<5) then
  (dv N J U D).bind fun Z =>
  (bif Z then
  (apd 8 Y [D]).bind fun Aq =>
  (ad D 1).bind fun Ar =>
  cg N k J U Aq Ar
  else
  (ad D 1).bind fun As =>
  cg N k J U Y As)
  else
  some (Y,D))
def eR (N:Nat) (a0:ByteArray) (a1:List Int):Option (List Int) :=
  (cg N N a0 a1 [] 0).bind fun D =>
  lpB D fun (J,U) =>
  some J
def bJ (N:Nat):Nat→ByteArray→(List Int)→Int→(List (List Int))→(List Int)→Int→(List (List Int))→(List (List Int))→(List Int)→(List Int)→Bool→(List (List Int))→Int→Int→(List Int)→Int→Int→Option ((List Int) × Bool × Int)
 | 0,_,_,_,_,_,_,_,_,_,_,_,_,_,_,_,_,_=>none
 | k+1,As,Z,At,Au,Av,Aw,Ax,Ay,J,U,Az,AA,AB,AC,Aq,Ar,D =>
  (bif decide (D<Ar) then
  (ix Aq D).bind fun Y =>
  (gH N Z Y).bind fun AD =>
  (bif Az then
  (ix J AD).bind fun AE =>
  (ix J D).bind fun AF =>
  (ix J D).bind fun AG =>
  (ix U Y).bind fun AN =>
  (sto U Y AG).bind fun AH =>
  (ad D 1).bind fun AI =>
  bJ N k As Z At Au Av Aw Ax Ay J AH (AE == AF) AA AB AC Aq Ar AI
  else
  (ix J D).bind fun AJ =>
  (ix U Y).bind fun AO =>
  (sto U Y AJ).bind fun AK =>
  (ad D 1).bind fun AM =>
  bJ N k As Z At Au Av Aw Ax Ay J AK false AA AB AC Aq Ar AM)
  else
  some (U,Az,D))
def cu (N:Nat):Nat→ByteArray→(List Int)→Int→(List (List Int))→(List Int)→Int→(List (List Int))→(List (List Int))→(List (List Int))→Int→Int→Option ((List (List Int)) × Int)
 | 0,_,_,_,_,_,_,_,_,_,_,_=>none
 | k+1,Ar,J,As,At,U,Au,Av,Y,Z,Aq,D =>
  (bif decide (D<Aq) then
  (ix Z D).bind fun Aw =>
  (mk 8 (0:Int) 5).bind fun Ax =>
  (bJ N N Ar J As At U Au Av Y Aw Ax true Z Aq D J (J.length:Int) 0).bind fun Ay =>
  lpB Ay fun (Az,AA,AF) =>
  (bif AA then
  (kr N Az U).bind fun AB =>
  (apd 24 Y [AB]).bind fun AC =>
  (ad D 1).bind fun AD =>
  cu N k Ar J As At U Au Av AC Z Aq AD
  else
  (ad D 1).bind fun AE =>
  cu N k Ar J As At U Au Av Y Z Aq AE)
  else
  some (Y,D))
def gg (N:Nat) (a0:List (ByteArray × (Int × List (List Int)))) (a1:ByteArray) (a2:List Int):Option (Int × List (List Int)) :=
  (eR N a1 a2).bind fun D =>
  (eC N a0 a1).bind fun J =>
  (bif J.2 then
  (bif (J.1.1 != (a2.length:Int)) then
  some ((D.length:Int),[])
  else
  (fY N 5 a2).bind fun U =>
  (bif U then
  (cu N N a1 a2 0 [] D (D.length:Int) [] [] J.1.2 (J.1.2.length:Int) 0).bind fun Y =>
  lpB Y fun (Z,Ar) =>
  (dY N Z).bind fun Aq =>
  some ((D.length:Int),Aq)
  else
  some ((D.length:Int),[])))
  else
  some ((D.length:Int),[]))
def bK (N:Nat):Nat→(List Int)→(List Int)→(List Int)→Int→Int→Option ((List Int) × Int)
 | 0,_,_,_,_,_=>none
 | k+1,U,J,Y,Z,D =>
  (bif decide (D<Z) then
  (ix Y D).bind fun Ar =>
  (gH N U Ar).bind fun Aq =>
  (bif decide (0≤Aq) then
  (ic N J Aq).bind fun As =>
  (bif As then
  (ad D 1).bind fun At =>
  bK N k U J Y Z At
  else
  (apd 8 J [Aq]).bind fun Au =>
  (ad D 1).bind fun Av =>
  bK N k U Au Y Z Av)
  else
  (ad D 1).bind fun Aw =>
  bK N k U J Y Z Aw)
  else
  some (J,D))
def fa (N:Nat) (a0:ByteArray) (a1:List Int) (a2:List Int):Option (List Int) :=
  (eR N a0 a1).bind fun D =>
  (bK N N D [] a2 (a2.length:Int) 0).bind fun J =>
  lpB J fun (U,Y) =>
  some U
def dh (N:Nat):Nat→(List Int)→(List (ByteArray × (Int × List (List Int))))→(List (Int × List (List Int)))→(List (ByteArray × List Int))→Int→Int→Option ((List (Int × List (List Int))) × Int)
 | 0,_,_,_,_,_,_=>none
 | k+1,U,Y,Z,Aq,Ar,D =>
  (bif decide (D<Ar) then
  (ix Aq D).bind fun J =>
  (gg N Y J.1 J.2).bind fun As =>
  (fa N J.1 J.2 U).bind fun Au =>
  (iI N As.1 As.2 Au).bind fun At =>
  (apd 32 Z [(At.1.1,At.1.2)]).bind fun Av =>
  (ad D 1).bind fun Aw =>
  dh N k U Y Av Aq Ar Aw
  else
  some (Z,D))
def gZ (N:Nat) (a0:List (ByteArray × (Int × List (List Int)))) (a1:Int) (a2:List (ByteArray × List Int)) (a3:List Int) (a4:List Int):Option ((List (Int × List (List Int))) × Bool) :=
  (gW N a0 a1 a2 a3).bind fun D =>
  (bif D then
  (gh N a1 a2 a3 a4).bind fun J =>
  (bif J then
  (dh N N a4 a0 [] a2 (a2.length:Int) 0).bind fun U =>
  lpB U fun (Y,Z) =>
  some (Y,true)
  else
  some ([],false))
  else
  some ([],false))
def dr (N:Nat):Nat→(List (Int × List (List Int)))→Int→Int→Option (Sum Bool Int)
 | 0,_,_,_=>none
 | k+1,J,U,D =>
  (bif decide (D<U) then
  (ix J D).bind fun Y =>
  (bif ((Y.2.length:Int) == 0) then
  some (.inl true)
  else
  (ad D 1).bind fun Z =>
  dr N k J U Z)
  else
  some (.inr D))
def gw (N:Nat) (a0:List (Int × List (List Int))):Option Bool :=
  (dr N N a0 (a0.length:Int) 0).bind fun D =>
  lpS D (fun q=>some q) fun J =>
  some false
def b7 (N:Nat):Nat→(List Int)→Int→Option (Sum Bool Int)
 | 0,_,_=>none
 | k+1,J,D =>
  (bif decide (D<(J.length:Int)) then
  (sb D 1).bind fun U =>
  (ix J U).bind fun Y =>
  (ix J D).bind fun Z =>
  (bif decide (Z≤Y) then
  some (.inl false)
  else
  (ad D 1).bind fun Aq =>
  b7 N k J Aq)
  else
  some (.inr D))
def dW (N:Nat) (a0:List Int):Option Bool :=
  (b7 N N a0 1).bind fun D =>
  lpS D (fun q=>some q) fun J =>
  some true
def cV (N:Nat):Nat→(List (List Int))→(List (List Int))→Int→Int→Option (Sum Bool Int)
 | 0,_,_,_,_=>none
 | k+1,Y,J,U,D =>
  (bif decide (D<U) then
  (ix J D).bind fun Z =>
  (dW N Z).bind fun Aq =>
  (bif Aq then
  (ad D 1).bind fun Ar =>
  cV N k Y J U Ar
  else
  some (.inl false))
  else
  some (.inr D))
def fC (N:Nat) (a0:List (List Int)):Option Bool :=
  (cV N N a0 a0 (a0.length:Int) 0).bind fun D =>
  lpS D (fun q=>some q) fun J =>
  some (decide (0<(a0.length:Int)))
def bH (N:Nat):Nat→Int→(List (List Int))→Int→Int→Option (Int × Int)
 | 0,_,_,_,_=>none
 | k+1,Y,J,U,D =>
  (bif decide (D<U) then
  (ix J D).bind fun Z =>
  (bif (D == 0) then
  (ad D 1).bind fun Aq =>
  bH N k (Z.length:Int) J U Aq
  else
  (bif decide ((Z.length:Int)<Y) then
  (ad D 1).bind fun Ar =>
  bH N k (Z.length:Int) J U Ar
  else
  (ad D 1).bind fun As =>
  bH N k Y J U As))
  else
  some (Y,D))
def fA (N:Nat) (a0:List (List Int)):Option Int :=
  (bH N N 0 a0 (a0.length:Int) 0).bind fun D =>
  lpB D fun (J,U) =>
  some J
def f9 (N:Nat):Nat→(List Int)→Int→Int→Option (Sum Int Int)
 | 0,_,_,_=>none
 | k+1,J,U,D =>
  (bif decide (D<(J.length:Int)) then
  (ix J D).bind fun Y =>
  (bif decide (U≤Y) then
  some (.inl D)
  else
  (ad D 1).bind fun Z =>
  f9 N k J U Z)
  else
  some (.inr D))
def gx (N:Nat) (a0:List Int) (a1:Int) (a2:Int):Option Int :=
  (f9 N N a0 a2 (imx 0 a1)).bind fun D =>
  lpS D (fun q=>some q) fun J =>
  some (a0.length:Int)
def dk (N:Nat):Nat→(List (List Int))→(List Int)→Int→(List (List Int))→Int→Int→Option Int
 | 0,_,_,_,_,_,_=>none
 | k+1,J,U,D,Y,Z,Aq =>
  (bif decide (0<D) then
  (sb D 1).bind fun Ar =>
  (ix J Ar).bind fun As =>
  (ix As 0).bind fun At =>
  (ix U 0).bind fun Au =>
  (bif decide (Au<At) then
  (sb D 1).bind fun Av =>
  dk N k J U Av Y Z Aq
  else
  some D)
  else
  some D)
def bM (N:Nat):Nat→(List (List Int))→(List (List Int))→Int→Int→Option ((List (List Int)) × Int)
 | 0,_,_,_,_=>none
 | k+1,D,U,Y,J =>
  (bif decide (J<Y) then
  (ix U J).bind fun Z =>
  (dk N N D Z (D.length:Int) U Y J).bind fun Ar =>
  lpB Ar fun Aq =>
  (slc D 0 Aq).bind fun As =>
  (slc D Aq (D.length:Int)).bind fun At =>
  (apd 24 [] As).bind fun Au =>
  (apd 24 Au [Z]).bind fun Av =>
  (apd 24 Av At).bind fun Aw =>
  (ad J 1).bind fun Ax =>
  bM N k Aw U Y Ax
  else
  some (D,J))
def cS (N:Nat):Nat→(List (List Int))→(List Int)→Int→(List Int)→Int→Option ((List Int) × Int)
 | 0,_,_,_,_,_=>none
 | k+1,Z,J,Aq,Ar,Y =>
  (sb Y 1).bind fun Av =>
  (rm Av (Z.length:Int)).bind fun D =>
  (ix Z D).bind fun U =>
  (ix J D).bind fun Aw =>
  (ix U Aw).bind fun Ax =>
  (bif (Ax == Aq) then
  (apd 8 Ar [Aq]).bind fun Au =>
  (ix J D).bind fun Ay =>
  (ad Ay 1).bind fun Az =>
  (ix J D).bind fun AK =>
  (sto J D Az).bind fun As =>
  (ix As D).bind fun AA =>
  (bif (AA == (U.length:Int)) then
  some (Au,Y)
  else
  (ix As D).bind fun AB =>
  (ix U AB).bind fun AC =>
  (ad Y 1).bind fun AD =>
  cS N k Z As AC Au AD)
  else
  (ix J D).bind fun AE =>
  (gx N U AE Aq).bind fun AF =>
  (ix J D).bind fun AM =>
  (sto J D AF).bind fun At =>
  (ix At D).bind fun AG =>
  (bif (AG == (U.length:Int)) then
  some (Ar,Y)
  else
  (ix At D).bind fun AH =>
  (ix U AH).bind fun AI =>
  (ad Y 1).bind fun AJ =>
  cS N k Z At AI Ar AJ))
def eH (N:Nat) (a0:List (List Int)):Option ((List Int) × Int) :=
  (fC N a0).bind fun J =>
  (bif J then
  (fA N a0).bind fun U =>
  (bif (U == 0) then
  some ([],0)
  else
  (bM N N [] a0 (a0.length:Int) 0).bind fun Y =>
  lpB Y fun (D,At) =>
  (mk 8 (0:Int) (D.length:Int)).bind fun Z =>
  (sb (D.length:Int) 1).bind fun Aq =>
  (ix D Aq).bind fun Ar =>
  (ix Ar 0).bind fun As =>
  cS N N D Z As [] 1)
  else
  some ([],0))
end Go.Proofs.YteclnomffokpoaaGreat
