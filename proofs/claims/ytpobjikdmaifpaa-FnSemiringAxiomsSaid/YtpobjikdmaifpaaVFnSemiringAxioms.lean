/- The Go law FnSemiringAxioms returns true for all its arguments, and each argument reads as it did. No condition. -/
import Derived.WalkKit
import Derived.ProofKit
import Derived.WalkLawsBesides
import Derived.Outline
import Derived.Lib.Hide
import Derived.Deep.Quiet
import Derived.Deep.LoopGhost
import Derived.IntWalk
import Derived.Test.YtpobjikdmaifpaaRows
import Derived.OpenShut
import Derived.Lib.SmallJoins
import Derived.Laws.BytesString
namespace Go.Proofs.Ytpobjikdmaifpaa
open Go.RowKit

abbrev Ext (w w':World):Prop:=Below w.heap.size w w'

theorem Ext.refl (w:World):Ext w w:=Below.refl _ _
theorem Ext.trans {a b c:World} (h:Ext a b) (k:Ext b c):Ext a c:=Below.trans h (k.mono h.size)
theorem Below.andExt {B:Nat} {a b c:World} (h:Below B a b) (hB:B≤b.heap.size) (k:Ext b c):Below B a c:=Below.trans h (k.mono hB)

structure Chg (fp:List Nat) (w w':World):Prop where
 os:w'.os=w.os
 tape:w'.tape=w.tape
 output:w'.output=w.output
 size:w.heap.size≤w'.heap.size
 block:∀ k,k<w.heap.size→k∉fp→w'.heap[k]? = w.heap[k]?

theorem Chg.of_ext {w w':World} (h:Ext w w') (fp:List Nat):Chg fp w w':=⟨h.os,h.tape,h.output,h.size,fun k hk _=>h.block k hk⟩
theorem Chg.trans {fp:List Nat} {a b c:World} (h:Chg fp a b) (k:Chg fp b c):Chg fp a c :=
 ⟨k.os.trans h.os,k.tape.trans h.tape,k.output.trans h.output,Nat.le_trans h.size k.size,fun i hi hn=>(k.block i (Nat.lt_of_lt_of_le hi h.size) hn).trans (h.block i hi hn)⟩
theorem Chg.mono {fp fp':List Nat} {a b:World} (h:Chg fp a b) (hs:∀ x∈fp,x∈fp'):Chg fp' a b :=
 ⟨h.os,h.tape,h.output,h.size,fun k hk hn=>h.block k hk (fun hm=>hn (hs k hm))⟩
theorem Chg.ext {a b:World} (h:Chg [] a b):Ext a b:=⟨h.os,h.tape,h.output,h.size,fun k hk=>h.block k hk (by simp)⟩
theorem Chg.refl (fp:List Nat) (w:World):Chg fp w w:=⟨rfl,rfl,rfl,Nat.le_refl _,fun _ _ _=>rfl⟩
theorem Chg.alloc (w:World) (o:Obj):Chg [] w (w.alloc o):=Chg.of_ext ((Below.refl _ _).alloc (Nat.le_refl _) o) _

theorem below_chg {B:Nat} {a b c:World} {fp:List Nat} (h:Below B a b) (hB:B≤b.heap.size) (k:Chg fp b c) (hf:∀ x∈fp,B≤x):Below B a c :=
  ⟨k.os.trans h.os,k.tape.trans h.tape,k.output.trans h.output,Nat.le_trans h.size k.size,
   fun i hi=>(k.block i (Nat.lt_of_lt_of_le hi hB) (fun hm=>by have:=hf i hm;omega)).trans (h.block i hi)⟩

structure Rep (α:Type) where
 sz:Nat
 rd:World→List Value→α→Prop
 own:World→List Value→α→List Nat→Prop
 rd_len:∀ {w cs x},rd w cs x→cs.length=sz
 rd_one:∀ {w cs x},rd w cs x→∀ c∈cs,c.oneCell'=true
 rd_ext:∀ {w w' cs x},rd w cs x→Ext w w'→rd w' cs x
 own_rd:∀ {w cs x fp},own w cs x fp→rd w cs x
 own_ext:∀ {w w' cs x fp},own w cs x fp→(∀ b∈fp,w'.heap[b]? = w.heap[b]?)→own w' cs x fp
 own_lt:∀ {w cs x fp},own w cs x fp→∀ b∈fp,b<w.heap.size

def intR:Rep Int where
 sz:=1
 rd _ cs n:=cs=[.int .i64 n]
 own _ cs n fp:=cs=[.int .i64 n]∧fp=[]
 rd_len h:=by subst h;rfl
 rd_one h:=by subst h;simp [Value.oneCell']
 rd_ext h _:=h
 own_rd h:=h.1
 own_ext h _:=h
 own_lt h:=by rw [h.2];simp

def rowAt (w:World) (ao:Option Addr) (ccs:List Value):Prop :=
 ccs=[]∨∃ b off,ao=some ⟨b,off,none⟩∧∀ j c,ccs[j]? = some c→w.cell? ⟨b,off+j,none⟩=some c

section
variable {α:Type} (R:Rep α)
def rdL (w:World):List Value→List α→Prop
 | ccs,[]=>ccs=[]
 | ccs,x :: xs=>∃ ec rest,ccs=ec++rest∧R.rd w ec x∧rdL w rest xs
def ownL (w:World):List Value→List α→List Nat→Prop
 | ccs,[],fp=>ccs=[]∧fp=[]
 | ccs,x :: xs,fp=>∃ ec rest f1 f2,ccs=ec++rest∧fp=f1++f2∧R.own w ec x f1∧ownL w rest xs f2
variable {R}
theorem rdL_len {w:World}:∀ {xs:List α} {ccs:List Value},rdL R w ccs xs→ccs.length=xs.length*R.sz
 | [],_,h=>by simp only [rdL] at h;subst h;simp
 | x :: xs,_,h=>by
  obtain ⟨ec,rest,rfl,h1,h2⟩:=h
  rw [List.length_append,R.rd_len h1,rdL_len h2,List.length_cons,Nat.add_mul,Nat.one_mul,Nat.add_comm]
theorem rdL_one {w:World}:∀ {xs:List α} {ccs:List Value},rdL R w ccs xs→∀ c∈ccs,c.oneCell'=true
 | [],_,h=>by simp only [rdL] at h;subst h;simp
 | x :: xs,_,h=>by
  obtain ⟨ec,rest,rfl,h1,h2⟩:=h
  intro c hc
  rcases List.mem_append.1 hc with h | h
  ·exact R.rd_one h1 c h
  ·exact rdL_one h2 c h
theorem rdL_ext {w w':World} (he:Ext w w'):∀ {xs:List α} {ccs:List Value},rdL R w ccs xs→rdL R w' ccs xs
 | [],_,h=>h
 | x :: xs,_,h=>by
  obtain ⟨ec,rest,rfl,h1,h2⟩:=h
  exact ⟨ec,rest,rfl,R.rd_ext h1 he,rdL_ext he h2⟩
theorem ownL_rdL {w:World}:∀ {xs:List α} {ccs:List Value} {fp:List Nat},ownL R w ccs xs fp→rdL R w ccs xs
 | [],_,_,h=>h.1
 | x :: xs,_,_,h=>by
  obtain ⟨ec,rest,f1,f2,rfl,rfl,h1,h2⟩:=h
  exact ⟨ec,rest,rfl,R.own_rd h1,ownL_rdL h2⟩
theorem ownL_ext {w w':World}:∀ {xs:List α} {ccs:List Value} {fp:List Nat},ownL R w ccs xs fp→(∀ b∈fp,w'.heap[b]? = w.heap[b]?)→ownL R w' ccs xs fp
 | [],_,_,h,_=>h
 | x :: xs,_,_,h,he=>by
  obtain ⟨ec,rest,f1,f2,rfl,rfl,h1,h2⟩:=h
  exact ⟨ec,rest,f1,f2,rfl,rfl,R.own_ext h1 (fun b hb=>he b (List.mem_append_left _ hb)),ownL_ext h2 (fun b hb=>he b (List.mem_append_right _ hb))⟩
theorem ownL_lt {w:World}:∀ {xs:List α} {ccs:List Value} {fp:List Nat},ownL R w ccs xs fp→∀ b∈fp,b<w.heap.size
 | [],_,_,h=>by rw [h.2];simp
 | x :: xs,_,_,h=>by
  obtain ⟨ec,rest,f1,f2,rfl,rfl,h1,h2⟩:=h
  intro b hb
  rcases List.mem_append.1 hb with h | h
  ·exact R.own_lt h1 b h
  ·exact ownL_lt h2 b h
theorem ownL_append {w:World} {ys:List α} {ccs':List Value} {fp':List Nat} (h':ownL R w ccs' ys fp') :
  ∀ {xs:List α} {ccs:List Value} {fp:List Nat},ownL R w ccs xs fp→ownL R w (ccs++ccs') (xs++ys) (fp++fp')
 | [],_,_,h=>by obtain ⟨rfl,rfl⟩:=h;simpa using h'
 | x :: xs,_,_,h=>by
  obtain ⟨ec,rest,f1,f2,rfl,rfl,h1,h2⟩:=h
  exact ⟨ec,rest++ccs',f1,f2++fp',by simp,by simp,h1,ownL_append h' h2⟩
theorem rdL_append {w:World} {ys:List α} {ccs':List Value} (h':rdL R w ccs' ys) :
  ∀ {xs:List α} {ccs:List Value},rdL R w ccs xs→rdL R w (ccs++ccs') (xs++ys)
 | [],_,h=>by simp only [rdL] at h;subst h;simpa using h'
 | x :: xs,_,h=>by
  obtain ⟨ec,rest,rfl,h1,h2⟩:=h
  exact ⟨ec,rest++ccs',by simp,h1,rdL_append h' h2⟩
theorem rdL_at {w:World}:∀ {xs:List α} {ccs:List Value},rdL R w ccs xs→∀ (i:Nat) (h:i<xs.length),
  ∃ ec,R.rd w ec xs[i]∧∀ j c,ec[j]? = some c→ccs[i*R.sz+j]? = some c
 | [],_,_,i,h=>absurd h (by simp)
 | x :: xs,_,hr,i,h=>by
  obtain ⟨ec,rest,rfl,h1,h2⟩:=hr
  cases i with
  | zero =>
   refine ⟨ec,h1,fun j c hj=>?_⟩
   have hlt:j<ec.length:=(List.getElem?_eq_some_iff.1 hj).1
   rw [Nat.zero_mul,Nat.zero_add,List.getElem?_append_left hlt]
   exact hj
  | succ i =>
   obtain ⟨ec',h3,h4⟩:=rdL_at h2 i (by simpa using h)
   refine ⟨ec',by simpa using h3,fun j c hj=>?_⟩
   have e:(i+1)*R.sz+j=ec.length+(i*R.sz+j):=by rw [R.rd_len h1,Nat.add_mul];omega
   rw [e,List.getElem?_append_right (by omega),Nat.add_sub_cancel_left]
   exact h4 j c hj
end

def sliceR {α:Type} (R:Rep α) (E:TypeId):Rep (List α) where
 sz:=1
 rd w cs xs:=∃ ao cap ccs,cs=[.slice ao xs.length cap]∧xs.length≤cap∧cap≤maxLen∧(ao=none→cap=0)∧rdL R w ccs xs∧rowAt w ao ccs
 own w cs xs fp:=(cs=[.slice none 0 0]∧xs=[]∧fp=[]) ∨
  ∃ g cap cur ccs f2,cs=[.slice (some ⟨g,0,none⟩) xs.length cap]∧w.heap[g]? = some (.cells cur E (0,0))∧xs.length≤cap∧cap≤maxLen∧cur.size=cap*R.sz ∧
   cur.toList.take (xs.length*R.sz)=ccs∧ownL R w ccs xs f2∧fp=g :: f2
 rd_len h:=by obtain ⟨_,_,_,rfl,_⟩:=h;rfl
 rd_one h:=by obtain ⟨_,_,_,rfl,_⟩:=h;simp [Value.oneCell']
 rd_ext h he:=by
  obtain ⟨ao,cap,ccs,rfl,h1,h2,h3,h4,h5⟩:=h
  refine ⟨ao,cap,ccs,rfl,h1,h2,h3,rdL_ext he h4,?_⟩
  rcases h5 with h5 | ⟨b,off,rfl,h5⟩
  ·exact .inl h5
  ·exact .inr ⟨b,off,rfl,fun j c hj=>by have:=h5 j c hj;rw [he.cell (block_lt_of_cell this)];exact this⟩
 own_rd h:=by
  rcases h with ⟨rfl,rfl,rfl⟩ | ⟨g,cap,cur,ccs,f2,rfl,hg,h1,h2,h3,h4,h5,rfl⟩
  ·exact ⟨none,0,[],rfl,Nat.le_refl _,Nat.zero_le _,fun _=>rfl,rfl,.inl rfl⟩
  ·refine ⟨_,cap,ccs,rfl,h1,h2,by simp,ownL_rdL h5,.inr ⟨g,0,rfl,fun j c hj=>?_⟩⟩
   rw [Nat.zero_add,cell_of_row _ g j cur E (0,0) hg,← Array.getElem?_toList]
   rw [← h4,List.getElem?_take] at hj
   split at hj
   ·exact hj
   ·cases hj
 own_ext h he:=by
  rcases h with h | ⟨g,cap,cur,ccs,f2,rfl,hg,h1,h2,h3,h4,h5,rfl⟩
  ·exact .inl h
  ·exact .inr ⟨g,cap,cur,ccs,f2,rfl,by rw [he g (by simp)];exact hg,h1,h2,h3,h4,ownL_ext h5 (fun b hb=>he b (by simp [hb])),rfl⟩
 own_lt h:=by
  rcases h with ⟨_,_,rfl⟩ | ⟨g,cap,cur,ccs,f2,rfl,hg,h1,h2,h3,h4,h5,rfl⟩
  ·simp
  ·intro b hb
   rcases List.mem_cons.1 hb with rfl | hb
   ·exact (Array.getElem?_eq_some_iff.1 hg).1
   ·exact ownL_lt h5 b hb

structure Asn where
 holds:World→List Nat→Prop
 ext:∀ {w w' fp},holds w fp→(∀ b∈fp,w'.heap[b]? = w.heap[b]?)→holds w' fp
 lt:∀ {w fp},holds w fp→∀ b∈fp,b<w.heap.size

def Own {α:Type} (R:Rep α) (cs:List Value) (x:α):Asn:=⟨fun w fp=>R.own w cs x fp,R.own_ext,R.own_lt⟩
def Box (b:Nat) (E:TypeId) (cs:List Value):Asn where
 holds w fp:=fp=[b]∧w.heap[b]? = some (.cells cs.toArray E (0,0))
 ext h he:=by obtain ⟨rfl,h⟩:=h;exact ⟨rfl,by rw [he b (by simp)];exact h⟩
 lt h:=by obtain ⟨rfl,h⟩:=h;intro b' hb;simp at hb;subst hb;exact (Array.getElem?_eq_some_iff.1 h).1

def SatL (w:World):List Asn→List Nat→Prop
 | [],fp=>fp=[]
 | A :: Γ,fp=>∃ f1 f2,fp=f1++f2∧A.holds w f1∧SatL w Γ f2

structure Sat (w0 w:World) (Γ:List Asn):Prop where
 below:Below w0.heap.size w0 w
 sat:∃ fp,SatL w Γ fp∧fp.Nodup∧∀ b∈fp,w0.heap.size≤b

theorem SatL.ext {w w':World}:∀ {Γ:List Asn} {fp:List Nat},SatL w Γ fp→(∀ b∈fp,w'.heap[b]? = w.heap[b]?)→SatL w' Γ fp
 | [],_,h,_=>h
 | A :: Γ,_,h,he=>by
  obtain ⟨f1,f2,rfl,h1,h2⟩:=h
  exact ⟨f1,f2,rfl,A.ext h1 (fun b hb=>he b (List.mem_append_left _ hb)),SatL.ext h2 (fun b hb=>he b (List.mem_append_right _ hb))⟩
theorem SatL.lt {w:World}:∀ {Γ:List Asn} {fp:List Nat},SatL w Γ fp→∀ b∈fp,b<w.heap.size
 | [],_,h=>by simp only [SatL] at h;subst h;simp
 | A :: Γ,_,h=>by
  obtain ⟨f1,f2,rfl,h1,h2⟩:=h
  intro b hb
  rcases List.mem_append.1 hb with h | h
  ·exact A.lt h1 b h
  ·exact SatL.lt h2 b h
theorem SatL.append {w:World} {Δ:List Asn} {g:List Nat} (k:SatL w Δ g):∀ {Γ:List Asn} {fp:List Nat},SatL w Γ fp→SatL w (Γ++Δ) (fp++g)
 | [],_,h=>by simp only [SatL] at h;subst h;simpa using k
 | A :: Γ,_,h=>by
  obtain ⟨f1,f2,rfl,h1,h2⟩:=h
  exact ⟨f1,f2++g,by simp,h1,SatL.append k h2⟩
theorem SatL.perm {w:World} {Γ Δ:List Asn} (hp:Γ.Perm Δ):∀ {fp:List Nat},SatL w Γ fp→∃ fp',fp.Perm fp'∧SatL w Δ fp':=by
 induction hp with
 | nil=>intro fp h;exact ⟨fp,.refl _,h⟩
 | cons A _ ih =>
  rintro _ ⟨f1,f2,rfl,h1,h2⟩
  obtain ⟨f2',p,h2'⟩:=ih h2
  exact ⟨f1++f2',List.Perm.append_left _ p,f1,f2',rfl,h1,h2'⟩
 | swap A B Γ =>
  rintro _ ⟨f1,_,rfl,h1,f2,f3,rfl,h2,h3⟩
  refine ⟨f2++(f1++f3),?_,f2,f1++f3,rfl,h2,f1,f3,rfl,h1,h3⟩
  rw [← List.append_assoc,← List.append_assoc]
  exact List.Perm.append_right _ List.perm_append_comm
 | trans _ _ ih1 ih2 =>
  intro fp h
  obtain ⟨f1,p1,h1⟩:=ih1 h
  obtain ⟨f2,p2,h2⟩:=ih2 h1
  exact ⟨f2,p1.trans p2,h2⟩

theorem Sat.start (w:World):Sat w w []:=⟨Below.refl _ _,[],rfl,by simp,by simp⟩
theorem Sat.ext {w0 w w':World} {Γ:List Asn} (h:Sat w0 w Γ) (he:Ext w w'):Sat w0 w' Γ:=by
 obtain ⟨hb,fp,h1,h2,h3⟩:=h
 exact ⟨Below.andExt hb hb.size he,fp,h1.ext (fun b hb'=>he.block b (h1.lt b hb')),h2,h3⟩
theorem Sat.call {w0 w w':World} {Γ Δ:List Asn} (h:Sat w0 w Γ) (k:Sat w w' Δ):Sat w0 w' (Δ++Γ):=by
 obtain ⟨hb,fp,h1,h2,h3⟩:=h
 obtain ⟨kb,fk,k1,k2,k3⟩:=k
 refine ⟨Below.andExt hb hb.size kb,fk++fp,SatL.append (h1.ext (fun b hb'=>kb.block b (h1.lt b hb'))) k1,?_,?_⟩
 ·rw [List.nodup_append]
  exact ⟨k2,h2,fun a ha b hb' e=>by have:=k3 a ha;have:=h1.lt b hb';omega⟩
 ·intro b hb'
  rcases List.mem_append.1 hb' with h | h
  ·have:=k3 b h;have:=hb.size;omega
  ·exact h3 b h
theorem Sat.call1 {w0 w w':World} {Γ:List Asn} {A:Asn} (h:Sat w0 w Γ) (k:Sat w w' [A]):Sat w0 w' (A :: Γ):=h.call k
theorem Sat.perm {w0 w:World} {Γ Δ:List Asn} (h:Sat w0 w Γ) (hp:Γ.Perm Δ):Sat w0 w Δ:=by
 obtain ⟨hb,fp,h1,h2,h3⟩:=h
 obtain ⟨fp',p,h1'⟩:=SatL.perm hp h1
 exact ⟨hb,fp',h1',p.nodup_iff.1 h2,fun b hb'=>h3 b (p.mem_iff.2 hb')⟩
theorem Sat.tail {w0 w:World} {A:Asn} {Γ:List Asn} (h:Sat w0 w (A :: Γ)):Sat w0 w Γ:=by
 obtain ⟨hb,_,⟨f1,f2,rfl,_,h2⟩,hn,h3⟩:=h
 exact ⟨hb,f2,h2,(List.nodup_append.1 hn).2.1,fun b hb'=>h3 b (List.mem_append_right _ hb')⟩
theorem Sat.head {w0 w:World} {A:Asn} {Γ:List Asn} (h:Sat w0 w (A :: Γ)):∃ fp,A.holds w fp∧fp.Nodup∧∀ b∈fp,w0.heap.size≤b:=by
 obtain ⟨_,_,⟨f1,f2,rfl,h1,_⟩,hn,h3⟩:=h
 exact ⟨f1,h1,(List.nodup_append.1 hn).1,fun b hb'=>h3 b (List.mem_append_left _ hb')⟩
theorem Sat.take {w0 w:World} {Γ:List Asn} (h:Sat w0 w Γ) (Δ Θ:List Asn) (hp:Γ.Perm (Δ++Θ)):Sat w0 w Δ:=by
 have h':=h.perm (hp.trans List.perm_append_comm)
 clear h hp
 induction Θ with
 | nil=>simpa using h'
 | cons A Θ ih=>exact ih h'.tail
theorem Sat.upd {w0 w w':World} {A B:Asn} {Γ:List Asn} (h:Sat w0 w (A :: Γ))
  (k:∀ fp,A.holds w fp→fp.Nodup→∃ fp',B.holds w' fp'∧fp'.Nodup∧Chg fp w w'∧∀ b∈fp',b∈fp∨w.heap.size≤b):Sat w0 w' (B :: Γ):=by
 obtain ⟨hb,_,⟨f1,f2,rfl,h1,h2⟩,hn,h3⟩:=h
 obtain ⟨n1,n2,n3⟩:=List.nodup_append.1 hn
 obtain ⟨f1',k1,k2,k3,k4⟩:=k f1 h1 n1
 refine ⟨below_chg hb hb.size k3 (fun x hx=>h3 x (List.mem_append_left _ hx)),f1'++f2,⟨f1',f2,rfl,k1,h2.ext (fun b hb'=>k3.block b (h2.lt b hb') (fun hm=>n3 b hm b hb' rfl))⟩,?_,?_⟩
 ·rw [List.nodup_append]
  refine ⟨k2,n2,fun a ha b hb' e=>?_⟩
  subst e
  rcases k4 a ha with h | h
  ·exact n3 a h a hb' rfl
  ·have:=h2.lt a hb';omega
 ·intro b hb'
  rcases List.mem_append.1 hb' with h | h
  ·rcases k4 b h with h | h
   ·exact h3 b (List.mem_append_left _ h)
   ·have:=hb.size;omega
  ·exact h3 b (List.mem_append_right _ h)
theorem Sat.join {w0 w:World} {A B C:Asn} {Γ:List Asn} (h:Sat w0 w (A :: B :: Γ)) (k:∀ f g,A.holds w f→B.holds w g→C.holds w (f++g)):Sat w0 w (C :: Γ):=by
 obtain ⟨hb,_,⟨f1,_,rfl,h1,f2,f3,rfl,h2,h4⟩,hn,h3⟩:=h
 exact ⟨hb,(f1++f2)++f3,⟨f1++f2,f3,rfl,k _ _ h1 h2,h4⟩,by simpa using hn,by simpa using h3⟩
theorem Sat.conv {w0 w:World} {A B:Asn} {Γ:List Asn} (h:Sat w0 w (A :: Γ)) (k:∀ f,A.holds w f→B.holds w f):Sat w0 w (B :: Γ):=by
 obtain ⟨hb,_,⟨f1,f2,rfl,h1,h2⟩,hn,h3⟩:=h
 exact ⟨hb,_,⟨f1,f2,rfl,k _ h1,h2⟩,hn,h3⟩
theorem Sat.add {w0 w:World} {A:Asn} {Γ:List Asn} (h:Sat w0 w Γ) (k:A.holds w []):Sat w0 w (A :: Γ):=by
 obtain ⟨hb,fp,h1,h2,h3⟩:=h
 exact ⟨hb,fp,⟨[],fp,rfl,k,h1⟩,h2,h3⟩
theorem Sat.box {w0 w:World} {Γ:List Asn} (h:Sat w0 w Γ) (E:TypeId) (cs:List Value):Sat w0 (w.alloc (.cells cs.toArray E)) (Box w.heap.size E cs :: Γ):=by
 have k:Sat w (w.alloc (.cells cs.toArray E)) [Box w.heap.size E cs] :=
  ⟨(Below.refl _ _).alloc (Nat.le_refl _) _,[w.heap.size],⟨[w.heap.size],[],by simp,⟨rfl,heap_alloc_new w _⟩,rfl⟩,by simp,by simp⟩
 simpa using h.call k
theorem ext_alloc (w:World) (o:Obj):Ext w (w.alloc o):=(Below.refl _ _).alloc (Nat.le_refl _) _
theorem Sat.rd {α:Type} {R:Rep α} {w0 w:World} {cs:List Value} {x:α} {Γ:List Asn} (h:Sat w0 w (Own R cs x :: Γ)):R.rd w cs x:=by
 obtain ⟨fp,h,_⟩:=h.head
 exact R.own_rd h

class AtBox (Γ:List Asn) (b:Nat) (E:outParam TypeId) (cs:outParam (List Value)) (rest:outParam (List Asn)):Prop where
 perm:Γ.Perm (Box b E cs :: rest)
instance (Γ:List Asn) (b:Nat) (E:TypeId) (cs:List Value):AtBox (Box b E cs :: Γ) b E cs Γ:=⟨.refl _⟩
instance (A:Asn) (Γ:List Asn) (b:Nat) (E:TypeId) (cs:List Value) (rest:List Asn) [h:AtBox Γ b E cs rest]:AtBox (A :: Γ) b E cs (A :: rest) :=
 ⟨(List.Perm.cons A h.perm).trans (.swap _ _ _)⟩
class AtOwn (Γ:List Asn) (v:Value) (α:outParam Type) (R:outParam (Rep α)) (x:outParam α) (rest:outParam (List Asn)):Prop where
 perm:Γ.Perm (Own R [v] x :: rest)
instance {α:Type} (Γ:List Asn) (v:Value) (R:Rep α) (x:α):AtOwn (Own R [v] x :: Γ) v α R x Γ:=⟨.refl _⟩
instance {α:Type} (A:Asn) (Γ:List Asn) (v:Value) (R:Rep α) (x:α) (rest:List Asn) [h:AtOwn Γ v α R x rest]:AtOwn (A :: Γ) v α R x (A :: rest) :=
 ⟨(List.Perm.cons A h.perm).trans (.swap _ _ _)⟩
theorem Sat.own {α:Type} {R:Rep α} {w0 w:World} {v:Value} {x:α} {Γ rest:List Asn} (h:Sat w0 w Γ) [k:AtOwn Γ v α R x rest]:Sat w0 w (Own R [v] x :: rest):=h.perm k.perm
theorem Sat.read {α:Type} {R:Rep α} {w0 w:World} {v:Value} {x:α} {Γ rest:List Asn} (h:Sat w0 w Γ) [AtOwn Γ v α R x rest]:R.rd w [v] x:=h.own.rd

theorem Sat.keep {w0 w:World} {Γ:List Asn} (n:Nat) (h:Sat w0 w Γ):Sat w0 w (Γ.take n):=h.take (Γ.take n) (Γ.drop n) (by rw [List.take_append_drop])
class PlainT (P:Program) (t:TypeId):Prop where
 h:∃ d,P.underlying t=some d∧(match d with | .struct _ | .array _ _=>False | _=>True)
class AggT (P:Program) (t:TypeId) (n:outParam Nat):Prop where
 h:∃ d,P.underlying t=some d∧(match d with | .struct _ | .array _ _=>True | _=>False)
 size:(P.info? t).map (·.size)=some n
class SliceT (P:Program) (t:TypeId) (e:outParam TypeId):Prop where
 h:P.underlying t=some (.slice e)
class ElemT (P:Program) (t:TypeId) (z:outParam (List Value)) (n bytes:outParam Nat):Prop where
 h:(P.info? t).map (fun i=>(i.zero.map fun v=>v.cells.toList,i.size,i.bytes))=some (some z,n,bytes)

section laws
variable {P:Program} {ops:Array Oper} {rest:List Oper} {o:Oper} {a:Act} {Q:Exit→Act→World→Prop} {w w0:World} {Γ rΓ:List Asn}

theorem wpl_box (hg:o.guard=none) {t:TypeId} {x:Operand} (ho:o.op=.box t x) (cs:List Value) (hx:(a.eval x).cells=cs.toArray) (hS:Sat w0 w Γ)
  (hK:∀ w' b,Sat w0 w' (Box b t cs :: Γ)→Ext w w'→wpList P ops Q rest (a.put o.dst (.pointer (some ⟨b,0,none⟩))) w'):wpList P ops Q (o :: rest) a w:=by
 refine wpList_plain hg fun K hK'=>?_
 unfold Oper.wp execOp
 simp only [ho,Instr.box,newVar,newRow,hx,Sem.run_bind,Sem.run_pure,run_newObj,Result.andThen_ok,Oper.upon_value]
 exact hK' _ _ (hK _ _ (hS.box t cs) (ext_alloc _ _))

theorem run_loadVar_plain {t:TypeId} [hT:PlainT P t] {ad:Addr} {c:Value} (hc:w.cell? ad=some c):(loadVar t ad).run P w=.ok c w:=by
 obtain ⟨d,hd,hk⟩:=hT.h
 have hagg:(isAgg t).run P w=.ok false w:=by
  unfold isAgg
  rw [Sem.run_bind,run_underlying hd w]
  cases d <;> simp_all
 simp [loadVar,Sem.run_bind,hagg,hc]

theorem Sat.boxCell {b:Nat} {E:TypeId} {cs:List Value} (hS:Sat w0 w Γ) [k:AtBox Γ b E cs rΓ]:∀ j c,cs[j]? = some c→w.cell? ⟨b,j,none⟩=some c:=by
 obtain ⟨fp,⟨_,hh⟩,_⟩:=(hS.perm k.perm).head
 intro j c hj
 rw [cell_of_row w b j _ E (0,0) hh]
 simpa using hj

theorem run_storeCells_box {b:Nat} {E:TypeId}:∀ (vs:List Value) (off i:Nat) (cur:List Value) (w:World),w.heap[b]? = some (.cells cur.toArray E (0,0))→off+i+vs.length≤cur.length→(∀ v∈vs,v.oneCell'=true) →
  ∃ w',(storeCells ⟨b,off,none⟩ vs i).run P w=.ok () w'∧w'.heap[b]? = some (.cells (cur.take (off+i)++vs++cur.drop (off+i+vs.length)).toArray E (0,0))∧Chg [b] w w'
 | [],off,i,cur,w,hb,_,_=>by
  refine ⟨w,rfl,?_,Chg.refl _ _⟩
  rw [hb];simp
 | v :: vs,off,i,cur,w,hb,hl,h1=>by
  simp only [List.length_cons] at hl
  have hi:off+i<cur.length:=by omega
  have hcell:w.cell? ⟨b,off+i,none⟩=some cur[off+i]:=by rw [cell_of_row w b _ _ E (0,0) hb];simp [hi]
  have hfro:w.frozen? ⟨b,off+i,none⟩=false:=frozen_of_row w b _ _ E hb
  have hst:(store ((⟨b,off,none⟩:Addr).add i) v).run P w=.ok () (w.setCell ⟨b,off+i,none⟩ v):=by
   rw [Addr.add_lit,run_store P w _ v _ (h1 v (by simp)),hcell]
   simp [hfro]
  have hb':(w.setCell ⟨b,off+i,none⟩ v).heap[b]? = some (.cells ((cur.set (off+i) v).toArray) E (0,0)):=by
   rw [heap_setCell_same w b (off+i) _ E v hb];simp
  obtain ⟨w',h2,h3,h4⟩:=run_storeCells_box vs off (i+1) (cur.set (off+i) v) _ hb' (by simp;omega) (fun x hx=>h1 x (by simp [hx]))
  refine ⟨w',?_,?_,?_⟩
  ·simp only [storeCells,Sem.run_bind,hst,Result.andThen_ok];exact h2
  ·rw [h3]
   congr 3
   have e1:(cur.set (off+i) v).take (off+(i+1))=cur.take (off+i)++[v]:=by
    rw [show off+(i+1)=(off+i)+1 by omega,List.take_set,List.take_succ_eq_append_getElem hi,List.set_append_right _ _ (by simp;omega)]
    simp [show min (off+i) cur.length=off+i by omega]
   have e2:(cur.set (off+i) v).drop (off+(i+1)+vs.length)=cur.drop (off+i+(v :: vs).length):=by
    rw [List.drop_set_of_lt (by omega)]
    congr 1
    simp only [List.length_cons];omega
   rw [e1,e2];simp
  ·exact Chg.trans (show Chg [b] w (w.setCell ⟨b,off+i,none⟩ v) from ⟨rfl,rfl,rfl,by simp,fun k _ hk=>Below.heap_setCell _ _ _ _ (by simpa using hk)⟩) h4

theorem wpl_storev {t:TypeId} {x y:Operand} (hg:o.guard=none) (ho:o.op=.store t x y) {z:List Value} {n bytes:Nat} [hz:ElemT P t z n bytes] (hS:Sat w0 w Γ) {b j:Nat} (hx:a.eval x=.pointer (some ⟨b,j,none⟩))
  {E:TypeId} {cs:List Value} [k:AtBox Γ b E cs rΓ] (vs:List Value) (hy:(a.eval y).cells=vs.toArray) (hn:vs.length=n) (hl:j+n≤cs.length) (h1:vs.all (·.oneCell')=true)
  (hK:∀ w',Sat w0 w' (Box b E (cs.take j++vs++cs.drop (j+n)) :: rΓ)→wpList P ops Q rest (a.put o.dst undef) w'):wpList P ops Q (o :: rest) a w:=by
 refine wpList_plain hg fun K hK'=>?_
 have hz:=hz.h
 cases hi:P.info? t with
 | none=>simp [hi] at hz
 | some i =>
  simp [hi] at hz
  obtain ⟨fp,⟨_,hh⟩,_⟩:=(hS.perm k.perm).head
  obtain ⟨w',hr,hh',hc⟩:=run_storeCells_box (P:=P) vs j 0 cs w hh (by omega) (by simpa using h1)
  have hsz:¬ (vs.toArray.size≠i.size):=by simp;omega
  unfold Oper.wp execOp
  simp only [ho,hx,Instr.storeAt,Instr.sureAddr,storeVar,sizeOf,typeInfo,hi,hy,Sem.run_bind,Sem.run_pure,run_program,Result.andThen_ok,hsz,if_false,Sem.run_ite,List.toList_toArray,hr,Oper.upon_skip]
  refine hK' _ _ (hK w' ?_)
  refine Sat.upd (hS.perm k.perm) fun fp hfp hnd=>?_
  obtain ⟨rfl,_⟩:=hfp
  refine ⟨[b],⟨rfl,?_⟩,by simp,hc,fun x hx=>.inl hx⟩
  rw [hh']
  simp [hn]
theorem cells_one {v:Value} (h:v.oneCell'=true):v.cells=[v].toArray:=by cases v <;> first | rfl | simp [Value.oneCell'] at h
end laws

section laws2
variable {P:Program} {ops:Array Oper} {rest:List Oper} {o:Oper} {a:Act} {Q:Exit→Act→World→Prop} {w w0 wA:World} {Γ rΓ:List Asn} {α:Type} {R:Rep α} {E:TypeId}

theorem sliceR_shape {w:World} {v:Value} {xs:List α} (h:(sliceR R E).rd w [v] xs):∃ ao cap,v=.slice ao xs.length cap:=by
 obtain ⟨ao,cap,ccs,hv,_⟩:=h
 exact ⟨ao,cap,by simpa using hv⟩

def OwnL (R:Rep α) (ccs:List Value) (ys:List α):Asn:=⟨fun w fp=>ownL R w ccs ys fp,fun h he=>ownL_ext h he,fun h=>ownL_lt h⟩
def Both (A B:Asn):Asn where
 holds w fp:=∃ f g,fp=f++g∧A.holds w f∧B.holds w g
 ext h he:=by
  obtain ⟨f,g,rfl,h1,h2⟩:=h
  exact ⟨f,g,rfl,A.ext h1 (fun b hb=>he b (List.mem_append_left _ hb)),B.ext h2 (fun b hb=>he b (List.mem_append_right _ hb))⟩
 lt h:=by
  obtain ⟨f,g,rfl,h1,h2⟩:=h
  intro b hb
  rcases List.mem_append.1 hb with h | h
  ·exact A.lt h1 b h
  ·exact B.lt h2 b h

theorem zeroCells_size (z:Value) (k:Nat):(Builtin.zeroCells z.cells k).size=k*z.cells.size:=size_zeroCells _ _

theorem own_new {w:World} {cur:Array Value} {xs:List α} {ccs:List Value} {f:List Nat} {cap:Nat} (h:ownL R w ccs xs f) (hcap:xs.length≤cap) (hm:cap≤maxLen) (hs:cur.size=cap*R.sz)
  (ht:cur.toList.take ccs.length=ccs):(sliceR R E).own (w.drew.alloc (.cells cur E)) [.slice (some ⟨w.heap.size,0,none⟩) xs.length cap] xs (w.heap.size :: f):=by
 refine .inr ⟨w.heap.size,cap,cur,ccs,f,rfl,heap_alloc_new w.drew _,hcap,hm,hs,by rw [← rdL_len (ownL_rdL h)];exact ht,ownL_ext h (fun b hb=>?_),rfl⟩
 exact Below.heap_alloc w.drew _ b (ownL_lt h b hb)

theorem run_append_sp {t ty:TypeId} [ht:SliceT P t E] {z:List Value} {n bytes:Nat} [hz:ElemT P E z n bytes] (hn:R.sz=n) (hpos:0<n) (hzl:z.length=n) (hb0:0<bytes)
  {v:Value} {xs:List α} {f:List Nat} (hv:(sliceR R E).own w [v] xs f) {ccs:List Value} {ys:List α} {fy:List Nat} (hy:ownL R w ccs ys fy) (hnd:(fy++f).Nodup)
  {ao:Option Addr} {c:Nat} (hnone:ao=none→c=0) (hrow:rowAt w ao ccs) (hby:(xs.length+ys.length)*bytes≤140737488355328) :
  ∃ v' w' f',(Builtin.append_ #[t,t] ty #[v,.slice ao ys.length c]).run P w=.ok v' w'∧(sliceR R E).own w' [v'] (xs++ys) f'∧f'.Nodup∧Chg (fy++f) w w'∧∀ b∈f',b∈fy++f∨w.heap.size≤b:=by
 have hz:=hz.h
 have hmax:xs.length+ys.length≤140737488355328:=Nat.le_trans (Nat.le_mul_of_pos_right _ hb0) hby
 have hyl:ccs.length=ys.length*R.sz:=rdL_len (ownL_rdL hy)
 have hy1:∀ u∈ccs,u.oneCell'=true:=rdL_one (ownL_rdL hy)
 cases hi:P.info? E with
 | none=>simp [hi] at hz
 | some i =>
 cases hzz:i.zero with
 | none=>simp [hi,hzz] at hz
 | some zv =>
 simp [hi,hzz] at hz
 obtain ⟨hz1,hz2,hz3⟩:=hz
 have hzs:zv.cells.size=R.sz:=by rw [← Array.length_toList,hz1,hzl,hn]
 have hsz:i.size=R.sz:=by omega
 have hdrew:Chg (fy++f) w w.drew:=⟨rfl,rfl,rfl,Nat.le_refl _,fun _ _ _=>rfl⟩
 have hgrow:∀ cur:Array Value,Chg (fy++f) w (w.drew.alloc (.cells cur E)):=fun cur=>hdrew.trans ((Chg.alloc w.drew _).mono (by simp))
 have hlt:∀ b∈fy++f,b<w.heap.size:=fun b hb=>by
  rcases List.mem_append.1 hb with h | h
  ·exact ownL_lt hy b h
  ·exact (sliceR R E).own_lt hv b h
 obtain ⟨nd1,nd2,nd3⟩:=List.nodup_append.1 hnd
 -- nothing is appended
 by_cases hy0:ys=[]
 ·subst hy0
  have hccs:ccs=[]:=by simp only [ownL] at hy;exact hy.1
  have hfy:fy=[]:=by simp only [ownL] at hy;exact hy.2
  subst hccs;subst hfy
  refine ⟨v,w,f,?_,by simpa using hv,by simpa using hnd,Chg.refl _ _,fun b hb=>.inl (by simpa using hb)⟩
  rcases hv with ⟨hv,rfl,rfl⟩ | ⟨g,cap,cur,cs,f2,hv,hg,h1,h2,h3,h4,h5,rfl⟩
  ·obtain rfl:v=.slice none 0 0:=by simpa using hv
   cases ao <;> simp [Builtin.append_,run_underlying ht.h,sizeOf,typeInfo,hi,Builtin.lenOf,Builtin.firstCells,loadCells,loadCellsFrom]
  ·obtain rfl:v=.slice (some ⟨g,0,none⟩) xs.length cap:=by simpa using hv
   cases ao <;> simp [Builtin.append_,run_underlying ht.h,sizeOf,typeInfo,hi,Builtin.lenOf,Builtin.firstCells,loadCells,loadCellsFrom,h1,storeCells]
 have hyp:0<ys.length:=List.length_pos_iff.2 hy0
 obtain ⟨b,off,rfl,hcell⟩:∃ b off,ao=some ⟨b,off,none⟩∧∀ j c,ccs[j]? = some c→w.cell? ⟨b,off+j,none⟩=some c:=by
  rcases hrow with rfl | h
  ·exfalso
   have:0<ys.length*R.sz:=Nat.mul_pos hyp (by omega)
   simp at hyl;omega
  ·exact h
 have hnews:∀ j u,ccs[j]? = some u→w.cell? ((⟨b,off,none⟩:Addr).add j)=some u:=fun j u hj=>by rw [Addr.add_lit];exact hcell j u hj
 rcases hv with ⟨hv,rfl,rfl⟩ | ⟨g,cap,cur,cs,f2,hv,hg,h1,h2,h3,h4,h5,rfl⟩
 ·obtain rfl:v=.slice none 0 0:=by simpa using hv
  simp only [List.length_nil,Nat.zero_add] at hby hmax
  have hr:=run_append_nil (P:=P) w t ty E i zv ht.h hi hzz ⟨b,off,none⟩ ys.length c ccs (by rw [hyl,hsz]) hnews hyp (by omega) (by rw [hz3];omega)
  refine ⟨_,_,w.heap.size :: fy,hr,?_,?_,hgrow _,?_⟩
  ·have hge:=grownCap_ge w ys.length 0 E
   rw [List.nil_append]
   refine own_new hy hge (grownCap_le_maxLen w ys.length 0 E (by unfold maxLen;omega)) ?_ ?_
   ·rw [Array.size_append,zeroCells_size,hzs,List.size_toArray,hyl,← Nat.add_mul]
    congr 1;omega
   ·rw [Array.toList_append,List.toList_toArray,List.take_left']
    rfl
  ·refine List.nodup_cons.2 ⟨fun hm=>?_,nd1⟩
   have:=hlt _ (List.mem_append_left _ hm);omega
  ·intro x hx
   rcases List.mem_cons.1 hx with rfl | hx
   ·exact .inr (Nat.le_refl _)
   ·exact .inl (List.mem_append_left _ hx)
 ·obtain rfl:v=.slice (some ⟨g,0,none⟩) xs.length cap:=by simpa using hv
  have hcl:cs.length=xs.length*R.sz:=rdL_len (ownL_rdL h5)
  have hfit:xs.length*R.sz≤cur.size:=by rw [h3];exact Nat.mul_le_mul_right _ h1
  obtain ⟨ng,nf2⟩:=List.nodup_cons.1 nd2
  by_cases hroom:xs.length+ys.length≤cap
  ·have hfit2:xs.length*i.size+ccs.length≤cur.size:=by rw [hsz,hyl,h3,← Nat.add_mul];exact Nat.mul_le_mul_right _ hroom
   have hr:=run_append_room (P:=P) w t ty E i ht.h hi g xs.length cap cur hg ⟨b,off,none⟩ ys.length c ccs (by rw [hyl,hsz]) hnews hy1 hroom hfit2
   have hoth:∀ k,k≠g→(w.setRow g (cur.toList.take (xs.length*i.size)++ccs++cur.toList.drop (xs.length*i.size+ccs.length)).toArray).heap[k]? = w.heap[k]?:=fun k hk=>setRow_other w g k _ hk
   refine ⟨_,_,g :: (f2++fy),hr,?_,?_,⟨rfl,rfl,rfl,by simp,fun k _ hk=>hoth k (fun e=>hk (by simp [e]))⟩,?_⟩
   ·rw [show xs.length+ys.length=(xs++ys).length by simp]
    refine .inr ⟨g,cap,_,cs++ccs,f2++fy,rfl,setRow_heap w g cur _ E _ hg,by simpa using hroom,h2,?_,?_,?_,rfl⟩
    ·simp only [List.size_toArray,List.length_append,List.length_take,List.length_drop,Array.length_toList]
     rw [hsz] at hfit2 ⊢
     omega
    ·rw [hsz,h4,List.length_append,Nat.add_mul,← hcl,← hyl,← List.length_append]
     exact List.take_left' rfl
    ·refine ownL_append (ownL_ext hy fun x hx=>hoth x fun e=>?_) (ownL_ext h5 fun x hx=>hoth x fun e=>?_)
     ·subst e;exact nd3 x hx x (by simp) rfl
     ·subst e;exact ng hx
   ·refine List.nodup_cons.2 ⟨fun hm=>?_,List.nodup_append.2 ⟨nf2,nd1,fun a ha b hb e=>nd3 b hb a (by simp [ha]) e.symm⟩⟩
    rcases List.mem_append.1 hm with h | h
    ·exact ng h
    ·exact nd3 g h g (by simp) rfl
   ·intro x hx
    refine .inl ?_
    simp only [List.mem_cons,List.mem_append] at hx ⊢
    rcases hx with h | h | h <;> simp [h]
  ·have hcells:∀ j u,cs[j]? = some u→w.cell? ((⟨g,0,none⟩:Addr).add j)=some u:=fun j u hj=>by
    rw [Addr.add_lit,Nat.zero_add,cell_of_row w g j cur E (0,0) hg,← Array.getElem?_toList]
    rw [← h4,List.getElem?_take] at hj
    split at hj
    ·exact hj
    ·cases hj
   have hr:=run_append_grow (P:=P) w t ty E i zv ht.h hi hzz ⟨g,0,none⟩ xs.length cap cs (by rw [hcl,hsz]) hcells ⟨b,off,none⟩ ys.length c ccs (by rw [hyl,hsz]) hnews (by omega) (by omega) (growslice_fits (by omega) (by rw [hz3];exact hby))
   refine ⟨_,_,w.heap.size :: (f2++fy),hr,?_,?_,hgrow _,?_⟩
   ·have hge:=grownCap_ge w (xs.length+ys.length) cap E
    rw [show (xs.length+ys.length:Nat)=(xs++ys).length by simp] at hge ⊢
    refine own_new (ownL_append hy h5) hge (grownCap_le_maxLen w _ cap E (by unfold maxLen;simp;omega)) ?_ ?_
    ·rw [Array.size_append,Array.size_append,zeroCells_size,hzs,List.size_toArray,List.size_toArray,hyl,hcl,← Nat.add_mul,← Nat.add_mul]
     congr 1;simp at hge ⊢;omega
    ·rw [Array.toList_append,Array.toList_append,List.toList_toArray,List.toList_toArray,List.take_left']
     rfl
   ·refine List.nodup_cons.2 ⟨fun hm=>?_,List.nodup_append.2 ⟨nf2,nd1,fun a ha b hb e=>nd3 b hb a (by simp [ha]) e.symm⟩⟩
    have:=hlt w.heap.size (by
     rcases List.mem_append.1 hm with h | h
     ·exact List.mem_append_right _ (by simp [h])
     ·exact List.mem_append_left _ h)
    omega
   ·intro x hx
    simp only [List.mem_cons,List.mem_append] at hx ⊢
    rcases hx with h | h | h
    ·exact .inr (by omega)
    ·exact .inl (by simp [h])
    ·exact .inl (by simp [h])

theorem wpl_append (hg:o.guard=none) {t:TypeId} {s x:Operand} (ho:o.op=.call { callee:=.builtin .append,args:=#[s,x],argTypes:=#[t,t] })
  [SliceT P t E] {z:List Value} {n bytes:Nat} [ElemT P E z n bytes] (hn:R.sz=n) (hpos:0<n) (hzl:z.length=n) (hb0:0<bytes)
  {v:Value} {xs:List α} {ccs:List Value} {ys:List α} (hS:Sat w0 w (OwnL R ccs ys :: Own (sliceR R E) [v] xs :: Γ)) (hs:a.eval s=v)
  {ao:Option Addr} {m c:Nat} (hx:a.eval x=.slice ao m c) (hm:m=ys.length) (hnone:ao=none→c=0) (hrow:rowAt w ao ccs) (hby:(xs.length+ys.length)*bytes≤140737488355328)
  (hK:∀ v' w',Sat w0 w' (Own (sliceR R E) [v'] (xs++ys) :: Γ)→wpList P ops Q rest (a.put o.dst v') w'):wpList P ops Q (o :: rest) a w:=by
 subst hm
 refine wpList_plain hg fun K hK'=>?_
 have hS':Sat w0 w (Both (OwnL R ccs ys) (Own (sliceR R E) [v] xs) :: Γ):=hS.join fun f g h1 h2=>⟨f,g,rfl,h1,h2⟩
 obtain ⟨fp,⟨fy,f,rfl,hy,hv⟩,hnd,_⟩:=hS'.head
 obtain ⟨v',w',f',hr,k1,k2,k3,k4⟩:=run_append_sp (P:=P) (t:=t) (ty:=o.type) hn hpos hzl hb0 hv hy hnd hnone hrow hby
 unfold Oper.wp execOp
 simp only [ho,resolve,invoke,builtin,Sem.run_bind,Sem.run_pure,Result.andThen_ok,List.map_toArray,List.map_cons,List.map_nil,hs,hx,hr,Oper.upon_value]
 refine hK' _ _ (hK v' w' ?_)
 have hex:∀ fp,(Both (OwnL R ccs ys) (Own (sliceR R E) [v] xs)).holds w fp→fp.Nodup→∃ fp',(Own (sliceR R E) [v'] (xs++ys)).holds w' fp'∧fp'.Nodup∧Chg fp w w'∧∀ b∈fp',b∈fp∨w.heap.size≤b:=by
  rintro _ ⟨gy,g,rfl,hy2,hv2⟩ hnd2
  obtain ⟨v2,w2,f2,hr2,l1,l2,l3,l4⟩:=run_append_sp (P:=P) (t:=t) (ty:=o.type) hn hpos hzl hb0 hv2 hy2 hnd2 hnone hrow hby
  rw [hr] at hr2
  obtain ⟨rfl,rfl⟩:v'=v2∧w'=w2:=by simpa using hr2
  exact ⟨f2,l1,l2,l3,l4⟩
 exact hS'.upd hex

theorem own_shape {v:Value} {xs:List α} {fp:List Nat} (h:(sliceR R E).own w [v] xs fp):(v=.slice none 0 0∧xs=[])∨∃ g cap,v=.slice (some ⟨g,0,none⟩) xs.length cap:=by
 rcases h with ⟨h,h2,_⟩ | ⟨g,cap,_,_,_,h,_⟩
 ·exact .inl ⟨by simpa using h,h2⟩
 ·exact .inr ⟨g,cap,by simpa using h⟩
theorem Sat.shape {v:Value} {xs:List α} (h:Sat w0 w (Own (sliceR R E) [v] xs :: Γ)):(v=.slice none 0 0∧xs=[])∨∃ g cap,v=.slice (some ⟨g,0,none⟩) xs.length cap:=by
 obtain ⟨fp,h,_⟩:=h.head
 exact own_shape h

theorem run_buildSlice1 {t e:TypeId} [ht:SliceT P t e] {z:List Value} {n bytes:Nat} [hz:ElemT P e z n bytes] {v:Value} {cs:List Value} (hcs:v.cells=cs.toArray) (hl:cs.length=n) (hpos:0<n) (hzl:z.length=n) (hn:n≤16) :
  (Instr.buildSlice t 1 #[(0,v)]).run P w=.ok (.slice (some ⟨w.heap.size,0,none⟩) 1 1) (w.alloc (.cells cs.toArray e)):=by
 have hz:=hz.h
 cases hi:P.info? e with
 | none=>simp [hi] at hz
 | some i =>
 cases hzz:i.zero with
 | none=>simp [hi,hzz] at hz
 | some zv =>
 simp [hi,hzz] at hz
 obtain ⟨hz1,hz2,hz3⟩:=hz
 have h24:¬ (n > 2 ^ 24):=by omega
 have hn0:¬ (n=0):=by omega
 have hfill:Instr.fill (fun i=>some (i*n,n)) ((Array.range n).map (zv.cells[· % zv.cells.size]!)) [(0,v)]=some cs.toArray:=by
  have hsz:((Array.range n).map (zv.cells[· % zv.cells.size]!)).size=n:=by simp
  have hfold:∀ (l:List Value) (pre:List Value) (A:Array Value),A.size=pre.length+l.length→A.toList.take pre.length=pre →
    ((l.zipIdx pre.length).foldl (fun A (c:Value × Nat)=>A.setIfInBounds c.2 c.1) A).toList=pre++l:=by
   intro l
   induction l with
   | nil=>intro pre A h1 h2;simp;rw [← h2,List.take_of_length_le (by simp at h1 ⊢;omega)]
   | cons x l ih =>
    intro pre A h1 h2
    simp only [List.zipIdx_cons,List.foldl_cons]
    have:=ih (pre++[x]) (A.setIfInBounds pre.length x) (by simp at h1 ⊢;omega) (by
     simp only [Array.toList_setIfInBounds,List.length_append,List.length_singleton]
     rw [List.take_set,List.take_succ_eq_append_getElem (by simp at h1 ⊢;omega),h2,List.set_append_right _ _ (Nat.le_refl _)]
     simp)
    simpa using this
  have h0:=hfold cs [] ((Array.range n).map (zv.cells[· % zv.cells.size]!)) (by simp [hl]) (by simp)
  simp only [Instr.fill,hcs,List.size_toArray,hl,hsz,Nat.zero_mul,Nat.zero_add,ne_eq,not_true_eq_false,decide_false,Bool.false_or,gt_iff_lt,Nat.lt_irrefl,Bool.false_eq_true,if_false]
  congr 1
  apply Array.ext'
  simpa using h0
 simp [Instr.buildSlice,run_underlying ht.h,sizeOf,typeInfo,hi,hz2,h24,hn0,zeroValue,hzz,hfill,newRow]

theorem wpl_buildSlice1 (hg:o.guard=none) {t e:TypeId} {x:Operand} (ho:o.op=.buildSlice t 1 #[(0,x)]) [SliceT P t e] {z:List Value} {n bytes:Nat} [ElemT P e z n bytes] {cs:List Value} (hcs:(a.eval x).cells=cs.toArray) (hl:cs.length=n) (hpos:0<n) (hzl:z.length=n) (hn:n≤16)
  (hS:Sat w0 w Γ) (hK:∀ w' b,Sat w0 w' (Box b e cs :: Γ)→Ext w w'→wpList P ops Q rest (a.put o.dst (.slice (some ⟨b,0,none⟩) 1 1)) w'):wpList P ops Q (o :: rest) a w:=by
 refine wpList_plain hg fun K hK'=>?_
 have hr:=run_buildSlice1 (P:=P) (w:=w) (t:=t) (e:=e) hcs hl hpos hzl hn
 unfold Oper.wp execOp
 simp only [ho,List.map_toArray,List.map_cons,List.map_nil,hr,Sem.run_bind,Sem.run_pure,Result.andThen_ok,Oper.upon_value]
 exact hK' _ _ (hK _ _ (hS.box e cs) (ext_alloc _ _))

theorem Sat.one {ec:List Value} {y:α} (h:Sat w0 w (Own R ec y :: Γ)):Sat w0 w (OwnL R ec [y] :: Γ) :=
 h.conv fun f hf=>⟨ec,[],f,[],by simp,by simp,hf,rfl,rfl⟩
theorem Sat.int (h:Sat w0 w Γ) (n:Int):Sat w0 w (Own intR [.int .i64 n] n :: Γ):=h.add ⟨rfl,rfl⟩
end laws2
end Go.Proofs.Ytpobjikdmaifpaa
namespace Go.Proofs.Ytpobjikdmaifpaa
open Go.RowKit

abbrev Env:=Nat→Value
def upd (e:Env) (d:Nat) (v:Value):Env:=fun t=>bif Nat.beq t d then v else e t
def ev (e:Env):Operand→Value
 | .tmp t=>e t
 | .const v=>v
 | .global g=>.pointer (some ⟨g,0,none⟩)
 | .func f=>.func (.func f) #[] #[]
theorem beq_ne {a b:Nat} (h:¬ a=b):Nat.beq a b=false:=by
 cases hb:Nat.beq a b
 ·rfl
 ·exact absurd (Nat.eq_of_beq_eq_true hb) h
structure Mt (n:Nat) (e:Env) (a:Act):Prop where
 size:a.tmps.size=n
 defers:a.defers=[]
 get:∀ t,a.tmps.getD t undef=e t
theorem Mt.eval {n:Nat} {e:Env} {a:Act} (h:Mt n e a):a.eval=ev e:=by
 funext x
 cases x <;> simp only [Act.eval,ev]
 exact h.get _
theorem Mt.put {n:Nat} {e:Env} {a:Act} (h:Mt n e a) {d:Nat} (hd:d<n) (v:Value):Mt n (upd e d v) (a.put (some d) v):=by
 refine ⟨by simp [Act.put,h.size],by simpa [Act.put] using h.defers,fun t=>?_⟩
 have hg:=h.get t
 have hs:=h.size
 simp only [Act.put,upd]
 by_cases ht:t=d
 ·subst ht
  simp [Array.getD,hs,hd]
 ·have:Nat.beq t d=false:=beq_ne ht
  rw [this]
  simp only [cond_false,← hg,Array.getD,Array.size_setIfInBounds]
  split
  ·rename_i hlt
   have:=Array.getElem_setIfInBounds (xs:=a.tmps) (i:=d) (a:=v) (j:=t) (by simpa using hlt)
   rw [if_neg (fun e=>ht e.symm)] at this
   exact this
  ·rfl
theorem upd_self {e:Env} {d:Nat} {v:Value} (h:e d=v):upd e d v=e:=by
 funext t
 unfold upd
 by_cases ht:t=d
 ·subst ht;simp [h]
 ·have:Nat.beq t d=false:=beq_ne ht
  rw [this];rfl
theorem keep {e e':Env} {d:Nat} {v:Value} (h:e' d=v) (h2:e=e'):e=upd e' d v:=by rw [upd_self h,h2]
def PV (P:Program) (o:Oper) (e:Env) (w:World) (v:Value):Prop:=∀ w',Ext w w'→(execOp (ev e) o).run P w'=.ok (.value v) w'
theorem PV.ext {P:Program} {o:Oper} {e:Env} {w w1:World} {v:Value} (h:PV P o e w v) (hx:Ext w w1):PV P o e w1 v:=fun w' h'=>h w' (hx.trans h')

def nrm (n:Nat) (K:Env→World→Prop):Exit→Act→World→Prop:=fun x a w=>x=.normal∧∃ e,Mt n e a∧K e w
def EL (P:Program) (n:Nat) (ops:Array Oper) (K:Env→World→Prop) (rest:List Oper) (e:Env) (w:World):Prop:=∀ a,Mt n e a→wpList P ops (nrm n K) rest a w
def QL (P:Program) (n:Nat) (ops:Array Oper) (w:World) (K:Env→Prop) (rest:List Oper) (e:Env):Prop:=∀ a,Mt n e a→wpQuiet P ops (fun w'=>Ext w w') (fun a'=>∃ e',Mt n e' a'∧K e') rest a

structure Goes (P:Program) (f:FuncId):Prop where
 h:∃ fn,P.funcs[f]? = some fn∧(fn.name == "runtime.NumGoroutine")=false∧fn.body.isNone=false
theorem Goes.run {P:Program} {f:FuncId} (h:Goes P f) (args:Array Value) (w:World):(callFunc f args).run P w=.ok (.enter f args) w:=by
 obtain ⟨fn,h1,h2,h3⟩:=h.h
 simp only [callFunc,Sem.run_bind,run_program,Result.andThen_ok,h1,h2,h3,Bool.false_eq_true,if_false]
 rfl

section
variable {P:Program} {n:Nat} {ops:Array Oper} {K:Env→World→Prop} {KQ:Env→Prop} {rest:List Oper} {e:Env} {w w0:World} {v:Value} {d:Nat} {op:Op} {ty:TypeId} {pos:String} {af:Array Edge} {Γ rΓ:List Asn}

theorem el_nil (h:K e w):EL P n ops K [] e w:=fun _ ha=>⟨rfl,e,ha,h⟩
theorem ql_nil (h:KQ e):QL P n ops w KQ [] e:=fun _ ha=>⟨e,ha,h⟩
theorem el_pv (hp:PV P ⟨some d,op,ty,pos,af,none⟩ e w v) (hd:d<n) (hK:EL P n ops K rest (upd e d v) w):EL P n ops K (⟨some d,op,ty,pos,af,none⟩ :: rest) e w:=by
 intro a ha
 refine wpList_plain rfl fun K' hK'=>?_
 unfold Oper.wp
 rw [ha.eval,hp w (Ext.refl w)]
 exact hK' _ _ (hK _ (ha.put hd v))
theorem ql_pv (hp:PV P ⟨some d,op,ty,pos,af,none⟩ e w v) (hd:d<n) (hK:QL P n ops w KQ rest (upd e d v)):QL P n ops w KQ (⟨some d,op,ty,pos,af,none⟩ :: rest) e:=by
 intro a ha
 unfold wpQuiet
 rw [if_pos (by rfl)]
 refine ⟨v,fun w' hw'=>?_,hK _ (ha.put hd v)⟩
 unfold Oper.quietAt
 rw [ha.eval,hp w' hw']
 exact ⟨rfl,rfl⟩
theorem el_call {f:FuncId} {args:Array Operand} {tys:Array TypeId} {vals:Array Value} {R:Ending→World→Prop} (hg:Goes P f) (hc:Calls P f vals w R) (hv:(args.toList.map (ev e)).toArray=vals) (hd:d<n)
  (hK:∀ x w',R x w'→∃ v,x=.returned v∧EL P n ops K rest (upd e d v) w'):EL P n ops K (⟨some d,.call ⟨.value (.func f),args,tys⟩,ty,pos,af,none⟩ :: rest) e w:=by
 intro a ha
 refine wpList_plain rfl fun K' hK'=>?_
 unfold Oper.wp execOp
 have he:args.map (ev e)=vals:=by rw [← hv];apply Array.ext';simp
 simp only [ha.eval,resolve,ev,Deferred.ofValue,Sem.run_bind,Sem.run_pure,Result.andThen_ok,Array.empty_append,Array.append_empty,he,invoke,hg.run,Oper.upon_enter]
 refine hc.mono fun x w' hx=>?_
 obtain ⟨v,rfl,h⟩:=hK x w' hx
 exact hK' _ _ (h _ (ha.put hd v))
def yld (ops:Array Oper) (e:Env) (j:Nat):Option Bool :=
 match (ops[j]?).bind (·.dst) with
 | some t=>match e t with | .bool b=>some b | _=>none
 | none=>none
theorem yielded_of {a:Act} (ha:Mt n e a) {j:Nat} {b:Bool} (h:yld ops e j=some b):yielded ops a.tmps j=some b:=by
 unfold yld at h
 unfold yielded
 cases hj:(ops[j]?).bind (·.dst) with
 | none=>simp [hj] at h
 | some t =>
  simp only [hj] at h
  have hg:=ha.get t
  simp only [Option.bind_some]
  cases hv:e t with
  | bool c =>
   rw [hv] at h hg
   simp only [Option.some.injEq] at h
   subst h
   unfold Array.getD at hg
   split at hg
   ·rename_i hlt
    rw [Array.getElem?_eq_getElem hlt]
    have:a.tmps[t]=.bool c:=hg
    rw [this]
   ·simp [undef] at hg
  | _=>simp [hv] at h
theorem el_on {j:Nat} {b c:Bool} {dst:Option Nat} (h:yld ops e j=some c) (hc:c=b) (hK:EL P n ops K (⟨dst,op,ty,pos,af,none⟩ :: rest) e w):EL P n ops K (⟨dst,op,ty,pos,af,some (j,b)⟩ :: rest) e w:=by
 subst hc
 intro a ha
 have:=hK a ha
 unfold wpList at this ⊢
 rw [if_pos (by simp [Region.wanted])] at this
 rw [if_pos (by simp [Region.wanted,yielded_of ha h])]
 exact this
theorem el_off {j:Nat} {b b' c:Bool} {d:Nat} (h:yld ops e j=some c) (hc:c=b) (hb:(b == b')=false) (hd:d<n) (hK:EL P n ops K rest (upd e d undef) w):EL P n ops K (⟨some d,op,ty,pos,af,some (j,b')⟩ :: rest) e w:=by
 subst hc
 intro a ha
 unfold wpList
 rw [if_neg (by simp [Region.wanted,yielded_of ha h];simpa using hb)]
 exact hK _ (ha.put hd _)
end

def Lf (n:Nat) (Q:Exit→Env→World→Prop):Exit→Act→World→Prop:=fun x a w=>∃ e,Mt n e a∧Q x e w
def CW (P:Program) (n:Nat) (c:Code) (Q:Exit→Env→World→Prop) (e:Env) (w:World):Prop:=∀ a,Mt n e a→c.wp P (Lf n Q) a w
def thn (K:Env→World→Prop) (Q:Exit→Env→World→Prop):Exit→Env→World→Prop
 | .normal,e,w=>K e w
 | x,e,w=>Q x e w
def inb (id:Nat) (Q:Exit→Env→World→Prop):Exit→Env→World→Prop
 | .exit id',e,w=>bif Nat.beq id' id then Q .normal e w else Q (.exit id') e w
 | x,e,w=>Q x e w
section
variable {P:Program} {n:Nat} {Q:Exit→Env→World→Prop} {K:Env→World→Prop} {e:Env} {w:World} {c x y:Code}
theorem cw_gen (h:∀ Q',(∀ x e w,Q x e w→Q' x e w)→CW P n c Q' e w):CW P n c Q e w:=h Q fun _ _ _ h=>h
theorem inb_s {i:Nat} (h:Q .normal e w):inb i Q (.exit i) e w:=by
 have:Nat.beq i i=true:=by simp
 show (bif Nat.beq i i then _ else _)
 rw [this];exact h
theorem cw_seq (h:CW P n x (thn (fun e w=>CW P n y Q e w) Q) e w):CW P n (.seq x y) Q e w:=by
 intro a ha
 refine wp_seq (wp_mono (h a ha) ?_)
 rintro x' a' w' ⟨e',he',hq⟩
 cases x' with
 | normal=>exact hq a' he'
 | _=>exact ⟨e',he',hq⟩
theorem cw_skip (h:Q .normal e w):CW P n .skip Q e w:=fun _ ha=>wp_skip ⟨e,ha,h⟩
theorem cw_exit {i:Nat} (h:Q (.exit i) e w):CW P n (.exit i) Q e w:=fun _ ha=>wp_exit ⟨e,ha,h⟩
theorem cw_ret (h:Q .ret e w):CW P n .ret Q e w:=fun _ ha=>wp_ret ⟨e,ha,h⟩
theorem cw_cond_t {o:Operand} {b:Bool} (hc:ev e o=.bool b) (hb:b=true) (h:CW P n x Q e w):CW P n (.cond o x y) Q e w :=
 fun a ha=>wp_cond_true (by rw [ha.eval,hc,hb]) (h a ha)
theorem cw_cond_f {o:Operand} {b:Bool} (hc:ev e o=.bool b) (hb:b=false) (h:CW P n y Q e w):CW P n (.cond o x y) Q e w :=
 fun a ha=>wp_cond_false (by rw [ha.eval,hc,hb]) (h a ha)
theorem cw_block {i:Nat} (h:CW P n c (inb i Q) e w):CW P n (.block i c) Q e w:=by
 intro a ha
 refine wp_block (wp_mono (h a ha) ?_)
 rintro x' a' w' ⟨e',he',hq⟩
 cases x' with
 | exit id' =>
  by_cases hi:id'=i
  ·subst hi
   have:Nat.beq id' id'=true:=by simp
   have hq':(bif Nat.beq id' id' then Q .normal e' w' else Q (.exit id') e' w'):=hq
   rw [this] at hq'
   simp only [Exit.inBlock,if_true]
   exact ⟨e',he',hq'⟩
  ·have:Nat.beq id' i=false:=beq_ne hi
   have hq':(bif Nat.beq id' i then Q .normal e' w' else Q (.exit id') e' w'):=hq
   rw [this] at hq'
   simp only [Exit.inBlock,hi,if_false]
   exact ⟨e',he',hq'⟩
 | _=>exact ⟨e',he',hq⟩
theorem cw_reg {id:Nat} {l:List Oper} (h:EL P n l.toArray (fun e w=>Q .normal e w) l e w):CW P n (.region id l.toArray false) Q e w:=by
 intro a ha
 refine wp_mono (wp_region_lit (h a ha)) ?_
 rintro x a w ⟨rfl,e,he,hk⟩
 exact ⟨e,he,hk⟩
theorem cw_regq {id:Nat} {l:List Oper} (hm:P.follows .mixedOrders=true) (hB:Region.lexB .any l.toArray=true) (h:QL P n l.toArray w (fun e=>∀ w',Ext w w'→Q .normal e w') l e):CW P n (.region id l.toArray true) Q e w:=by
 intro a ha
 refine wp_region_quiet (C:=fun w'=>Ext w w') hm hB ⟨rfl,rfl,rfl,Nat.le_refl _,fun _ _=>rfl⟩ ?_
 have:=h a ha
 have key:∀ (r:List Oper) (a:Act),wpQuiet P l.toArray (fun w'=>Ext w w') (fun a'=>∃ e',Mt n e' a'∧∀ w',Ext w w'→Q .normal e' w') r a→wpQuiet P l.toArray (fun w'=>Ext w w') (fun a'=>∀ w',Ext w w'→Lf n Q .normal a' w') r a:=by
  intro r
  induction r with
  | nil=>rintro a ⟨e',h1,h2⟩ w' hw';exact ⟨e',h1,h2 w' hw'⟩
  | cons o r ih =>
   intro a h
   unfold wpQuiet at h ⊢
   split
   ·rename_i hw
    rw [if_pos hw] at h
    exact Oper.quiet_mono ih h
   ·rename_i hw
    rw [if_neg hw] at h
    exact ih _ h
 exact key _ _ this
theorem cw_loop (I:Nat→Env→World→Prop) (k0:Nat) (h0:I k0 e w)
  (hr:∀ k e w,I k e w→CW P n c (thn (fun e w=>∃ k',k'<k∧I k' e w) Q) e w):CW P n (.loop c) Q e w:=by
 intro a ha
 refine wp_loop_ghost (fun k a w=>∃ e,Mt n e a∧I k e w) k0 ⟨e,ha,h0⟩ ?_
 rintro k a w ⟨e,he,hI⟩
 refine wp_mono (hr k e w hI a he) ?_
 rintro x' a' w' ⟨e',he',hq⟩
 cases x' with
 | normal =>
  obtain ⟨k',hk',hI'⟩:=hq
  exact ⟨k',hk',e',he',hI'⟩
 | _=>exact ⟨e',he',hq⟩
theorem cw_loopS (I:Nat→Env→World→Prop) (k0:Nat) (h0:I k0 e w) (hz:∀ e w,¬ I 0 e w)
  (hr:∀ k e w,I (k+1) e w→CW P n c (thn (fun e w=>I k e w) Q) e w):CW P n (.loop c) Q e w:=by
 refine cw_loop I k0 h0 ?_
 intro k e w hI
 cases k with
 | zero=>exact absurd hI (hz e w)
 | succ k =>
  intro a ha
  refine wp_mono (hr k e w hI a ha) ?_
  rintro x' a' w' ⟨e',he',hq⟩
  cases x' with
  | normal=>exact ⟨e',he',k,Nat.lt_succ_self k,hq⟩
  | _=>exact ⟨e',he',hq⟩
end

def Fin (P:Program) (fn:Func) (n:Nat) (R:Ending→World→Prop):Exit→Env→World→Prop
 | .normal,e,w=>∃ v,(∀ a,Mt n e a→(results fn a.tmps).run P w=.ok v w)∧R (.returned v) w
 | .ret,e,w=>∃ v,(∀ a,Mt n e a→(results fn a.tmps).run P w=.ok v w)∧R (.returned v) w
 | _,_,_=>False
def argsE:List Value→Nat→Env
 | [],_=>fun _=>undef
 | v :: l,k=>upd (argsE l (k+1)) k v
theorem argsE_get:∀ (l:List Value) (k t:Nat),argsE l k t=if k≤t then l.getD (t-k) undef else undef
 | [],k,t=>by simp [argsE]
 | v :: l,k,t=>by
  unfold argsE upd
  by_cases h:t=k
  ·subst h;simp
  ·have hb:Nat.beq t k=false:=beq_ne h
   rw [hb,cond_false,argsE_get l (k+1) t]
   by_cases hk:k+1≤t
   ·rw [if_pos hk,if_pos (by omega),show t-k=(t-(k+1))+1 by omega]
    simp
   ·rw [if_neg hk]
    by_cases hk2:k≤t
    ·omega
    ·rw [if_neg hk2]
theorem calls_E {P:Program} {f:FuncId} {fn:Func} {c:Code} {l:List Value} {w:World} {R:Ending→World→Prop} (hf:P.funcs[f]? = some fn) (hb:fn.body=some c) {n:Nat} (hn:fn.ntmps=n) (hl:l.length≤n)
  (h:CW P n c (Fin P fn n R) (argsE l 0) w):Calls P f l.toArray w R:=by
 refine calls_of_wp hf hb (wp_mono (h _ ?_) ?_)
 ·refine ⟨by simp;omega,rfl,fun t=>?_⟩
  rw [argsE_get]
  simp only [Nat.zero_le,if_true,Nat.sub_zero,Array.getD,Array.size_append,List.size_toArray,Array.size_replicate]
  by_cases h1:t<l.length
  ·rw [dif_pos (by omega)]
   simp [h1]
  ·have h2:l.getD t undef=undef:=by simp [h1]
   rw [h2]
   split
   ·rename_i h3
    have:=Array.getElem_append_right (xs:=l.toArray) (ys:=Array.replicate (fn.ntmps-l.length) undef) (i:=t) (by simpa using h1) (h:=by simpa using h3)
    simpa using this
   ·rfl
 ·rintro x a w' ⟨e,he,hq⟩
  cases x with
  | normal=>obtain ⟨v,h1,h2⟩:=hq;exact bodyPost_end (h1 a he) he.defers h2
  | ret=>obtain ⟨v,h1,h2⟩:=hq;exact bodyPost_ret (h1 a he) he.defers h2
  | _=>exact hq.elim
end Go.Proofs.Ytpobjikdmaifpaa
namespace Go.Proofs.Ytpobjikdmaifpaa
open Go.RowKit

def rng (n:Int):Bool:=decide (-9223372036854775808≤n)&&decide (n≤9223372036854775807)
def ad (a b:Int):Option Int:=if rng (a+b) then some (a+b) else none
def ml (a b:Int):Option Int:=if rng (a*b) then some (a*b) else none
def rm (a b:Int):Option Int:=if b≠0 then some (a.tmod b) else none
def ix {α:Type} (xs:List α) (i:Int):Option α:=if 0≤i then xs[i.toNat]? else none
def apd {α:Type} (bytes:Nat) (xs ys:List α):Option (List α):=if (xs.length+ys.length)*bytes≤140737488355328 then some (xs++ys) else none
def mk {α:Type} (bytes:Nat) (z:α) (n:Int):Option (List α):=if 0≤n∧n.toNat*bytes≤281474976710656∧n.toNat≤140737488355328 then some (List.replicate n.toNat z) else none
theorem ob {α β:Type} {o:Option α} {f:α→Option β} {r:β} (h:o.bind f=some r):∃ x,o=some x∧f x=some r:=Option.bind_eq_some_iff.1 h
theorem oif {α:Type} {c:Bool} {x y:Option α} {r:α} (h:(bif c then x else y)=some r):(c=true∧x=some r)∨(c=false∧y=some r):=by
 cases c
 ·exact .inr ⟨rfl,h⟩
 ·exact .inl ⟨rfl,h⟩
theorem wrap_rng {n:Int} (h:rng n=true):IntKind.i64.wrap n=n:=by
 simp only [rng,Bool.and_eq_true,decide_eq_true_eq] at h
 exact IntWalk.i64_in n h
theorem ad_some {a b c:Int} (h:ad a b=some c):rng (a+b)=true∧c=a+b:=by
 unfold ad at h;split at h
 ·exact ⟨by assumption,by simpa using h.symm⟩
 ·cases h
theorem ml_some {a b c:Int} (h:ml a b=some c):rng (a*b)=true∧c=a*b:=by
 unfold ml at h;split at h
 ·exact ⟨by assumption,by simpa using h.symm⟩
 ·cases h
theorem ix_some {α:Type} {xs:List α} {i:Int} {x:α} (h:ix xs i=some x):∃ k:Nat,i=(k:Int)∧∃ h:k<xs.length,xs[k]=x:=by
 unfold ix at h
 split at h
 ·rename_i h0
  obtain ⟨h1,h2⟩:=List.getElem?_eq_some_iff.1 h
  exact ⟨i.toNat,by omega,h1,h2⟩
 ·cases h

section
variable {P:Program} {e:Env} {w w0:World} {d:Option Nat} {ty:TypeId} {pos:String} {af:Array Edge} {x y z:Operand} {Γ rΓ:List Asn}

theorem pv_move {v:Value} (hx:ev e x=v):PV P ⟨d,.move x,ty,pos,af,none⟩ e w v:=fun w' _=>by
 unfold execOp;simp only [hx];rfl
theorem pv_assign {v:Value} (hx:ev e x=v):PV P ⟨d,.assign x,ty,pos,af,none⟩ e w v:=fun w' _=>by
 unfold execOp;simp only [hx];rfl
theorem pv_pick_t {b:Bool} {v:Value} (hx:ev e x=.bool b) (hb:b=true) (hy:ev e y=v):PV P ⟨d,.pick x y z,ty,pos,af,none⟩ e w v:=fun w' _=>by
 unfold execOp;subst hb;simp [hx,hy,asBool]
theorem pv_pick_f {b:Bool} {v:Value} (hx:ev e x=.bool b) (hb:b=false) (hz:ev e z=v):PV P ⟨d,.pick x y z,ty,pos,af,none⟩ e w v:=fun w' _=>by
 unfold execOp;subst hb;simp [hx,hz,asBool]
theorem pv_not {t:TypeId} {b:Bool} (hx:ev e x=.bool b):PV P ⟨d,.unOp .not t x,ty,pos,af,none⟩ e w (.bool (!b)):=fun w' _=>by
 unfold execOp;simp [hx,Op.unary]
section
variable {t u:TypeId} {a b c:Int}
theorem pv_add (hx:ev e x=.int .i64 a) (hy:ev e y=.int .i64 b) (h:ad a b=some c):PV P ⟨d,.binOp .add t x y u,ty,pos,af,none⟩ e w (.int .i64 c):=fun w' _=>by
 obtain ⟨h1,rfl⟩:=ad_some h
 unfold execOp;simp [hx,hy,eqGuard,binOp,Op.intArith,wrap_rng h1]
theorem pv_mul (hx:ev e x=.int .i64 a) (hy:ev e y=.int .i64 b) (h:ml a b=some c):PV P ⟨d,.binOp .mul t x y u,ty,pos,af,none⟩ e w (.int .i64 c):=fun w' _=>by
 obtain ⟨h1,rfl⟩:=ml_some h
 unfold execOp;simp [hx,hy,eqGuard,binOp,Op.intArith,wrap_rng h1]
theorem pv_rem (hx:ev e x=.int .i64 a) (hy:ev e y=.int .i64 b) (h:rm a b=some c):PV P ⟨d,.binOp .rem t x y u,ty,pos,af,none⟩ e w (.int .i64 c):=fun w' _=>by
 unfold rm at h;split at h
 ·rename_i h1
  obtain rfl:=Option.some.inj h
  unfold execOp;simp [hx,hy,eqGuard,binOp,Op.intDiv,h1]
 ·cases h
theorem pv_addW {k:IntKind} (hx:ev e x=.int k a) (hy:ev e y=.int k b):PV P ⟨d,.binOp .add t x y u,ty,pos,af,none⟩ e w (.int k (k.wrap (a+b))):=fun w' _=>by
 unfold execOp;simp [hx,hy,eqGuard,binOp,Op.intArith]
theorem pv_mulW {k:IntKind} (hx:ev e x=.int k a) (hy:ev e y=.int k b):PV P ⟨d,.binOp .mul t x y u,ty,pos,af,none⟩ e w (.int k (k.wrap (a*b))):=fun w' _=>by
 unfold execOp;simp [hx,hy,eqGuard,binOp,Op.intArith]
theorem pv_eql {k:IntKind} (hx:ev e x=.int k a) (hy:ev e y=.int k b):PV P ⟨d,.binOp .eql t x y u,ty,pos,af,none⟩ e w (.bool (a == b)):=fun w' _=>by
 unfold execOp;simp [hx,hy,eqGuard,binOp,Op.intCmp]
theorem pv_neq {k:IntKind} (hx:ev e x=.int k a) (hy:ev e y=.int k b):PV P ⟨d,.binOp .neq t x y u,ty,pos,af,none⟩ e w (.bool (a != b)):=fun w' _=>by
 unfold execOp;simp [hx,hy,eqGuard,binOp,Op.intCmp]
theorem pv_lss {k:IntKind} (hx:ev e x=.int k a) (hy:ev e y=.int k b):PV P ⟨d,.binOp .lss t x y u,ty,pos,af,none⟩ e w (.bool (decide (a<b))):=fun w' _=>by
 unfold execOp;simp [hx,hy,eqGuard,binOp,Op.intCmp]
theorem pv_leq {k:IntKind} (hx:ev e x=.int k a) (hy:ev e y=.int k b):PV P ⟨d,.binOp .leq t x y u,ty,pos,af,none⟩ e w (.bool (decide (a≤b))):=fun w' _=>by
 unfold execOp;simp [hx,hy,eqGuard,binOp,Op.intCmp]
theorem pv_gtr {k:IntKind} (hx:ev e x=.int k a) (hy:ev e y=.int k b):PV P ⟨d,.binOp .gtr t x y u,ty,pos,af,none⟩ e w (.bool (decide (b<a))):=fun w' _=>by
 unfold execOp;simp [hx,hy,eqGuard,binOp,Op.intCmp]
theorem pv_geq {k:IntKind} (hx:ev e x=.int k a) (hy:ev e y=.int k b):PV P ⟨d,.binOp .geq t x y u,ty,pos,af,none⟩ e w (.bool (decide (b≤a))):=fun w' _=>by
 unfold execOp;simp [hx,hy,eqGuard,binOp,Op.intCmp]
end
theorem run_eqIn (k:Nat) {t:TypeId} (ht:P.underlying t=some .bool) (a b:Bool) (w:World):(Op.equalIn (k+1) t (.bool a) (.bool b)).run P w=.ok (a == b) w:=by
 simp only [Op.equalIn,Sem.run_bind,run_underlying ht,Result.andThen_ok,Sem.run_pure]
theorem run_eqB {t:TypeId} (ht:P.underlying t=some .bool) (a b:Bool) (w:World):(Op.equal t (.bool a) (.bool b)).run P w=.ok (a == b) w:=run_eqIn 9999 ht a b w
theorem pv_neqB {t u:TypeId} {a b:Bool} (ht:P.underlying t=some .bool) (hx:ev e x=.bool a) (hy:ev e y=.bool b):PV P ⟨d,.binOp .neq t x y u,ty,pos,af,none⟩ e w (.bool (a != b)):=fun w' _=>by
 have h1:(eqGuard .neq t x y (.bool a) (.bool b)).run P w'=.ok () w':=by simp [eqGuard]
 have h2:(binOp .neq t (.bool a) (.bool b)).run P w'=.ok (.bool (a != b)) w':=by
  show (do pure (.bool (!(← Op.equal t (.bool a) (.bool b)))):Sem Value).run P w'=_
  simp only [Sem.run_bind,run_eqB ht,Result.andThen_ok,Sem.run_pure]
  rfl
 unfold execOp
 simp only [hx,hy,Sem.run_bind,h1,h2,Result.andThen_ok,Sem.run_pure]
theorem pv_extract {k:Nat} {vs:Array Value} {v:Value} (hx:ev e x=.tuple vs) (h:vs[k]? = some v):PV P ⟨d,.extract x k,ty,pos,af,none⟩ e w v:=fun w' _=>by
 unfold execOp;simp [hx,Instr.extract,h]
theorem pv_convI {s t:TypeId} {k k2:IntKind} {a:Int} {u:TypeDesc} (hs:P.underlying s=some u) (ht:P.underlying t=some (.int k2)) (hx:ev e x=.int k a):PV P ⟨d,.convert s t x,ty,pos,af,none⟩ e w (.int k2 (k2.wrap a)):=fun w' _=>by
 unfold execOp;simp [hx,convert,run_underlying ht,run_underlying hs,Conv.intToInt]
def imn (a b:Int):Int:=if b<a then b else a
def imx (a b:Int):Int:=if a<b then b else a
theorem pv_nilCheck {p:Addr} (hx:ev e x=.pointer (some p)):PV P ⟨d,.nilCheck x,ty,pos,af,none⟩ e w (.pointer (some p)):=fun w' _=>by
 unfold execOp;simp [hx]
theorem pv_min {t t2:TypeId} {a b:Int} (hx:ev e x=.int .i64 a) (hy:ev e y=.int .i64 b):PV P ⟨d,.call ⟨.builtin .min,#[x,y],#[t,t2]⟩,ty,pos,af,none⟩ e w (.int .i64 (imn a b)):=fun w' _=>by
 unfold execOp imn;simp [resolve,invoke,builtin,hx,hy,Builtin.min_,Builtin.min2]
theorem pv_max {t t2:TypeId} {a b:Int} (hx:ev e x=.int .i64 a) (hy:ev e y=.int .i64 b):PV P ⟨d,.call ⟨.builtin .max,#[x,y],#[t,t2]⟩,ty,pos,af,none⟩ e w (.int .i64 (imx a b)):=fun w' _=>by
 unfold execOp imx;simp [resolve,invoke,builtin,hx,hy,Builtin.max_,Builtin.max2]
class FldT (P:Program) (t:TypeId) (k:Nat) (off:outParam Nat):Prop where
 h:∃ fs f,P.underlying t=some (.struct fs)∧fs[k]? = some f∧f.offset=off∧((P.info? f.type).map fun i=>Nat.beq i.size 0)=some false
theorem pv_fieldAddr {t:TypeId} {k off b o:Nat} [ht:FldT P t k off] (hx:ev e x=.pointer (some ⟨b,o,none⟩)):PV P ⟨d,.fieldAddr t x k,ty,pos,af,none⟩ e w (.pointer (some ⟨b,o+off,none⟩)):=fun w' _=>by
 obtain ⟨fs,f,h1,h2,h3,h4⟩:=ht.h
 cases hi:P.info? f.type with
 | none=>simp [hi] at h4
 | some i =>
  have h5:¬ i.size=0:=by
   intro e0
   simp [hi,e0] at h4
  unfold execOp
  simp [hx,Instr.fieldAt,run_underlying h1,h2,Instr.sureAddr,fieldPlace,sizeOf,typeInfo,hi,h5,h3,Addr.add_lit]
theorem cell_up' {w w':World} {p:Addr} {c:Value} (hE:Ext w w') (h:w.cell? p=some c):w'.cell? p=some c:=by rw [hE.cell (block_lt_of_cell h)];exact h
theorem cells_up {w w':World} {b off:Nat} {ec:List Value} (hE:Ext w w') (h:∀ j c,ec[j]? = some c→w.cell? ⟨b,off+j,none⟩=some c):∀ j c,ec[j]? = some c→w'.cell? ⟨b,off+j,none⟩=some c :=
 fun j c hj=>cell_up' hE (h j c hj)
theorem pv_loadc {t:TypeId} [PlainT P t] {p:Addr} {c:Value} (hx:ev e x=.pointer (some p)) (hc:w.cell? p=some c):PV P ⟨d,.load t x,ty,pos,af,none⟩ e w c:=fun w' hw'=>by
 unfold execOp
 simp only [hx,Instr.loadAt,Instr.sureAddr,Sem.run_bind,Sem.run_pure,Result.andThen_ok,run_loadVar_plain (cell_up' hw' hc)]
theorem pv_len {α:Type} {R:Rep α} {E E':TypeId} {t:TypeId} [ht:SliceT P t E'] {wA:World} {v:Value} {xs:List α} (hx:ev e x=v) (hr:(sliceR R E).rd wA [v] xs) :
  PV P ⟨d,.call ⟨.builtin .len,#[x],#[t]⟩,ty,pos,af,none⟩ e w (.int .i64 xs.length):=fun w' _=>by
 obtain ⟨ao,cap,rfl⟩:=sliceR_shape hr
 unfold execOp;simp [resolve,invoke,builtin,hx,Builtin.len_,run_underlying ht.h,goInt]
theorem pv_index {α:Type} {R:Rep α} {E E':TypeId} {t:TypeId} [ht:SliceT P t E'] {zz:List Value} {n bytes:Nat} [hz:ElemT P E' zz n bytes] {wA:World} {v:Value} {xs:List α} (hs:ev e x=v) (hr:(sliceR R E).rd wA [v] xs)
  (hn:R.sz=n) (hpos:0<n) {k:IntKind} {i:Int} (hi:ev e y=.int k i) {u:α} (h:ix xs i=some u) :
  ∃ b off ec,R.rd wA ec u∧(∀ j c,ec[j]? = some c→wA.cell? ⟨b,off+j,none⟩=some c)∧∀ w,PV P ⟨d,.indexAddr t x y,ty,pos,af,none⟩ e w (.pointer (some ⟨b,off,none⟩)):=by
 obtain ⟨k',rfl,hk,rfl⟩:=ix_some h
 obtain ⟨ao,cap,ccs,hv,h1,h2,h3,h4,h5⟩:=hr
 obtain rfl:v=.slice ao xs.length cap:=by simpa using hv
 obtain ⟨ec,hec,hcc⟩:=rdL_at h4 k' hk
 have hz:=hz.h
 have hlen:=rdL_len h4
 cases hq:P.info? E' with
 | none=>simp [hq] at hz
 | some inf =>
  simp [hq] at hz
  obtain ⟨b,off,rfl,hc⟩:∃ b off,ao=some ⟨b,off,none⟩∧∀ j c,ccs[j]? = some c→wA.cell? ⟨b,off+j,none⟩=some c:=by
   rcases h5 with rfl | ⟨b,off,rfl,hc⟩
   ·have:0<xs.length*R.sz:=Nat.mul_pos (by omega) (by omega)
    simp at hlen
    omega
   ·exact ⟨b,off,rfl,hc⟩
  have hsz:inf.size=R.sz:=by rw [hn];exact hz.2.1
  refine ⟨b,off+k'*R.sz,ec,hec,fun j c hj=>by rw [Nat.add_assoc];exact hc _ _ (hcc j c hj),fun w w' _=>?_⟩
  unfold execOp
  simp [hs,hi,Instr.indexAt,asIntOf,run_underlying ht.h,sizeOf,typeInfo,hq,hk,Addr.add_lit,hsz]
end

section
variable {P:Program} {n:Nat} {ops:Array Oper} {K:Env→World→Prop} {KQ:Env→Prop} {rest:List Oper} {e:Env} {w w0 wA:World} {v:Value} {d:Nat} {ty:TypeId} {pos:String} {af:Array Edge} {Γ rΓ:List Asn} {x y:Operand} {α:Type} {R:Rep α} {E E':TypeId}
theorem el_index {t:TypeId} [SliceT P t E'] {zz:List Value} {m bytes:Nat} [ElemT P E' zz m bytes] {xs:List α} (hs:ev e x=v) (hr:(sliceR R E).rd wA [v] xs)
  (hn:R.sz=m) (hpos:0<m) {k:IntKind} {i:Int} (hi:ev e y=.int k i) {u:α} (h:ix xs i=some u) (hd:d<n)
  (hK:∀ b off ec,R.rd wA ec u→(∀ j c,ec[j]? = some c→wA.cell? ⟨b,off+j,none⟩=some c)→EL P n ops K rest (upd e d (.pointer (some ⟨b,off,none⟩))) w):EL P n ops K (⟨some d,.indexAddr t x y,ty,pos,af,none⟩ :: rest) e w:=by
 obtain ⟨b,off,ec,h1,h2,h3⟩:=pv_index (P:=P) (d:=some d) (ty:=ty) (pos:=pos) (af:=af) (t:=t) hs hr hn hpos hi h
 exact el_pv (h3 _) hd (hK b off ec h1 h2)
theorem ql_index {t:TypeId} [SliceT P t E'] {zz:List Value} {m bytes:Nat} [ElemT P E' zz m bytes] {xs:List α} (hs:ev e x=v) (hr:(sliceR R E).rd wA [v] xs)
  (hn:R.sz=m) (hpos:0<m) {k:IntKind} {i:Int} (hi:ev e y=.int k i) {u:α} (h:ix xs i=some u) (hd:d<n)
  (hK:∀ b off ec,R.rd wA ec u→(∀ j c,ec[j]? = some c→wA.cell? ⟨b,off+j,none⟩=some c)→QL P n ops w KQ rest (upd e d (.pointer (some ⟨b,off,none⟩)))):QL P n ops w KQ (⟨some d,.indexAddr t x y,ty,pos,af,none⟩ :: rest) e:=by
 obtain ⟨b,off,ec,h1,h2,h3⟩:=pv_index (P:=P) (d:=some d) (ty:=ty) (pos:=pos) (af:=af) (t:=t) hs hr hn hpos hi h
 exact ql_pv (h3 _) hd (hK b off ec h1 h2)
theorem el_box {t:TypeId} (cs:List Value) (hx:(ev e x).cells=cs.toArray) (hS:Sat w0 w Γ) (hd:d<n)
  (hK:∀ w' b,Sat w0 w' (Box b t cs :: Γ)→Ext w w'→EL P n ops K rest (upd e d (.pointer (some ⟨b,0,none⟩))) w'):EL P n ops K (⟨some d,.box t x,ty,pos,af,none⟩ :: rest) e w :=
 fun a ha=>wpl_box rfl rfl cs (by rw [ha.eval];exact hx) hS fun w' b h1 h2=>hK w' b h1 h2 _ (ha.put hd _)
theorem el_storev {t:TypeId} {z:List Value} {m bytes:Nat} [ElemT P t z m bytes] (hS:Sat w0 w Γ) {b j:Nat} (hx:ev e x=.pointer (some ⟨b,j,none⟩))
  {E:TypeId} {cs:List Value} [AtBox Γ b E cs rΓ] (vs:List Value) (hy:(ev e y).cells=vs.toArray) (hn:vs.length=m) (hl:j+m≤cs.length) (h1:vs.all (·.oneCell')=true)
  (hK:∀ w',Sat w0 w' (Box b E (cs.take j++vs++cs.drop (j+m)) :: rΓ)→EL P n ops K rest e w'):EL P n ops K (⟨none,.store t x y,ty,pos,af,none⟩ :: rest) e w :=
 fun _ ha=>wpl_storev rfl rfl hS (by rw [ha.eval];exact hx) vs (by rw [ha.eval];exact hy) hn hl h1 fun w' h1=>hK w' h1 _ ha
theorem el_append {t:TypeId} [SliceT P t E] {z:List Value} {m bytes:Nat} [ElemT P E z m bytes] (hn:R.sz=m) (hpos:0<m) (hzl:z.length=m) (hb0:0<bytes)
  {xs:List α} {ccs:List Value} {ys zs:List α} (hS:Sat w0 w (OwnL R ccs ys :: Own (sliceR R E) [v] xs :: Γ)) (hs:ev e x=v)
  {ao:Option Addr} {ln c:Nat} (hx:ev e y=.slice ao ln c) (hm:ln=ys.length) (hnone:ao=none→c=0) (hrow:rowAt w ao ccs) (h:apd bytes xs ys=some zs) (hd:d<n)
  (hK:∀ w' v',Sat w0 w' (Own (sliceR R E) [v'] zs :: Γ)→EL P n ops K rest (upd e d v') w'):EL P n ops K (⟨some d,.call ⟨.builtin .append,#[x,y],#[t,t]⟩,ty,pos,af,none⟩ :: rest) e w:=by
 intro a ha
 unfold apd at h
 split at h
 ·rename_i hby
  obtain rfl:=Option.some.inj h
  exact wpl_append rfl rfl hn hpos hzl hb0 hS (by rw [ha.eval];exact hs) (by rw [ha.eval];exact hx) hm hnone hrow hby fun v' w' h1=>hK w' v' h1 _ (ha.put hd _)
 ·cases h
theorem el_buildSlice1 {t u:TypeId} [SliceT P t u] {z:List Value} {m bytes:Nat} [ElemT P u z m bytes] (cs:List Value) (hcs:(ev e x).cells=cs.toArray) (hl:cs.length=m) (hpos:0<m) (hzl:z.length=m) (hn:m≤16)
  (hS:Sat w0 w Γ) (hd:d<n) (hK:∀ w' b,Sat w0 w' (Box b u cs :: Γ)→Ext w w'→EL P n ops K rest (upd e d (.slice (some ⟨b,0,none⟩) 1 1)) w'):EL P n ops K (⟨some d,.buildSlice t 1 #[(0,x)],ty,pos,af,none⟩ :: rest) e w :=
 fun _ ha=>wpl_buildSlice1 rfl rfl (by rw [ha.eval];exact hcs) hl hpos hzl hn hS fun w' b h1 h2=>hK w' b h1 h2 _ (ha.put hd _)
end
section
variable {P:Program} {fn:Func} {n:Nat} {e:Env} {w:World} {R:Ending→World→Prop}
theorem fin1 {t:Tmp} (h:fn.results=#[.tmp t]) {v:Value} (ht:e t=v) (hR:R (.returned v) w):Fin P fn n R .ret e w :=
 ⟨v,fun a ha=>by rw [results_tmp h,ha.get,ht],hR⟩
theorem fin3 {t u s:Tmp} (h:fn.results=#[.tmp t,.tmp u,.tmp s]) {v v2 v3:Value} (ht:e t=v) (hu:e u=v2) (hs:e s=v3) (hR:R (.returned (.tuple #[v,v2,v3])) w):Fin P fn n R .ret e w:=by
 refine ⟨_,fun a ha=>?_,hR⟩
 have h1:=ha.get t;have h2:=ha.get u;have h3:=ha.get s
 simp only [ht,hu,hs] at h1 h2 h3
 have h1':a.tmps[t]?.getD undef=v:=by simpa using h1
 have h2':a.tmps[u]?.getD undef=v2:=by simpa using h2
 have h3':a.tmps[s]?.getD undef=v3:=by simpa using h3
 simp [results,h,h1',h2',h3']
end
end Go.Proofs.Ytpobjikdmaifpaa
namespace Go.Proofs.Ytpobjikdmaifpaa
open Go.RowKit

def boolR:Rep Bool where
 sz:=1
 rd _ cs b:=cs=[.bool b]
 own _ cs b fp:=cs=[.bool b]∧fp=[]
 rd_len h:=by subst h;rfl
 rd_one h:=by subst h;simp [Value.oneCell']
 rd_ext h _:=h
 own_rd h:=h.1
 own_ext h _:=h
 own_lt h:=by rw [h.2];simp
def u8R:Rep Int where
 sz:=1
 rd _ cs n:=cs=[.int .u8 n]
 own _ cs n fp:=cs=[.int .u8 n]∧fp=[]
 rd_len h:=by subst h;rfl
 rd_one h:=by subst h;simp [Value.oneCell']
 rd_ext h _:=h
 own_rd h:=h.1
 own_ext h _:=h
 own_lt h:=by rw [h.2];simp

def lpB {V S:Type} (s:V) (g:V→Option S):Option S:=g s
theorem exB {V S:Type} {s v:V} {g:V→Option S} {r:S} (h:some v=some s) (hK:lpB s g=some r):g v=some r:=by cases h;exact hK
theorem mapc {α β:Type} {f:α→β} {a:α} {b:β} {l:List α} {m:List β} (h:f a=b) (t:l.map f=m):(a :: l).map f=b :: m:=by rw [List.map_cons,h,t]
theorem bnot_t {x:Bool} (h:x=true):(!x)=false:=by rw [h];rfl
theorem bnot_f {x:Bool} (h:x=false):(!x)=true:=by rw [h];rfl

theorem oc {w:World} {α:Type} {R:Rep α} {E:TypeId} {v:Value} {xs:List α} (h:(sliceR R E).rd w [v] xs):v.oneCell'=true:=(sliceR R E).rd_one h v (List.mem_singleton.2 rfl)
theorem cells_of {e:Env} {x:Operand} {v:Value} (h:ev e x=v) (h1:v.oneCell'=true):(ev e x).cells=[v].toArray:=by rw [h];exact cells_one h1
theorem all_cons {α:Type} {p:α→Bool} {a:α} {l:List α} (h:p a=true) (t:l.all p=true):(a :: l).all p=true:=by simp [h,t]
section
variable {w w0 wA:World} {Γ rest:List Asn} {α:Type} {R:Rep α} {E:TypeId} {v:Value} {xs:List α}
theorem Sat.top (i:Nat) {A:Asn} (h:Sat w0 w Γ) (hi:Γ[i]? = some A):Sat w0 w (A :: Γ.eraseIdx i):=by
 refine h.perm ?_
 clear h
 induction Γ generalizing i with
 | nil=>simp at hi
 | cons B Γ ih =>
  cases i with
  | zero=>simp at hi;subst hi;exact .refl _
  | succ i =>
   simp at hi
   exact (List.Perm.cons B (ih i hi)).trans (.swap _ _ _)
theorem Sat.rdAt (i:Nat) {cs:List Value} {x:α} {R:Rep α} (h:Sat w0 w Γ) (hi:Γ[i]? = some (Own R cs x)):R.rd w cs x:=(h.top i hi).rd
theorem Sat.nil (R:Rep α) (E:TypeId) (h:Sat w0 w Γ):Sat w0 w (Own (sliceR R E) [.slice none 0 0] [] :: Γ):=h.add (.inl ⟨rfl,rfl,rfl⟩)
theorem Sat.bool (h:Sat w0 w Γ) (b:Bool):Sat w0 w (Own boolR [.bool b] b :: Γ):=h.add ⟨rfl,rfl⟩
theorem Sat.u8 (h:Sat w0 w Γ) (n:Int):Sat w0 w (Own u8R [.int .u8 n] n :: Γ):=h.add ⟨rfl,rfl⟩
theorem Sat.up {cs:List Value} {x:α} (hS:Sat w0 w Γ) (h:R.rd w0 cs x):R.rd w cs x:=R.rd_ext h hS.below
theorem Sat.boxAt (i:Nat) {b:Nat} {cs:List Value} (h:Sat w0 w Γ) (hi:Γ[i]? = some (Box b E cs)):∀ j c,cs[j]? = some c→w.cell? ⟨b,j,none⟩=some c:=by
 have h2:=h.top i hi
 exact h2.boxCell
theorem boxc0 {b:Nat} {cs:List Value} (h:∀ j c,cs[j]? = some c→w.cell? ⟨b,j,none⟩=some c):∀ j c,cs[j]? = some c→w.cell? ⟨b,0+j,none⟩=some c:=by
 intro j c hj;rw [Nat.zero_add];exact h j c hj
theorem Sat.boxRow (i:Nat) {b:Nat} {cs:List Value} (h:Sat w0 w Γ) (hi:Γ[i]? = some (Box b E cs)):rowAt w (some ⟨b,0,none⟩) cs :=
 .inr ⟨b,0,rfl,boxc0 (h.boxAt i hi)⟩
theorem Sat.lit1 {b:Nat} {cs:List Value} {y:α} (h:Sat w0 w (Box b E cs :: Own R cs y :: Γ)):Sat w0 w (Own (sliceR R E) [.slice (some ⟨b,0,none⟩) 1 1] [y] :: Γ):=by
 refine h.join ?_
 rintro f g ⟨rfl,h1⟩ h2
 have hl:=R.rd_len (R.own_rd h2)
 refine .inr ⟨b,1,cs.toArray,cs,g,rfl,h1,by simp,by unfold maxLen;omega,by simp [hl],by simp [← hl],⟨cs,[],g,[],by simp,by simp,h2,rfl,rfl⟩,by simp⟩
end
class BldT (P:Program) (t:TypeId) (pl:outParam (Array (Nat × Nat))):Prop where
 h:∃ fs,P.underlying t=some (.struct fs)∧∀ w,(fs.mapM (fun f=>do pure (f.offset,← sizeOf f.type)):Sem (Array (Nat × Nat))).run P w=.ok pl w
def fillC (place:Nat→Option (Nat × Nat)) (cells:List Value):List (Nat × List Value)→Option (List Value)
  | []=>some cells
  | (i,v) :: rest=>match place i with
    | none=>none
    | some (off,size)=>bif Nat.beq v.length size&&Nat.ble (off+v.length) cells.length then fillC place (cells.take off++v++cells.drop (off+v.length)) rest else none
theorem foldl_set:∀ (v:List Value) (off k:Nat) (cells:List Value),off+k+v.length≤cells.length →
  ((v.zipIdx k).foldl (fun (cs:Array Value) (c:Value × Nat)=>cs.setIfInBounds (off+c.2) c.1) cells.toArray)=(cells.take (off+k)++v++cells.drop (off+k+v.length)).toArray
 | [],off,k,cells,h=>by simp
 | x :: v,off,k,cells,h=>by
  simp only [List.length_cons] at h
  have hi:off+k<cells.length:=by omega
  simp only [List.zipIdx_cons,List.foldl_cons,List.setIfInBounds_toArray]
  rw [foldl_set v off (k+1) (cells.set (off+k) x) (by simp;omega)]
  have e1:(cells.set (off+k) x).take (off+(k+1))=cells.take (off+k)++[x]:=by
   rw [show off+(k+1)=(off+k)+1 by omega,List.take_set,List.take_succ_eq_append_getElem hi,List.set_append_right _ _ (by simp;omega)]
   simp [show min (off+k) cells.length=off+k by omega]
  have e2:(cells.set (off+k) x).drop (off+(k+1)+v.length)=cells.drop (off+k+(x :: v).length):=by
   rw [List.drop_set_of_lt (by omega)]
   congr 1
   simp only [List.length_cons];omega
  rw [e1,e2];simp
theorem fill_eq (place:Nat→Option (Nat × Nat)):∀ (ps:List (Nat × Value)) (qs:List (Nat × List Value)) (cells:List Value) {r:List Value},ps.map (fun p=>(p.1,p.2.cells))=qs.map (fun q=>(q.1,q.2.toArray))→fillC place cells qs=some r→Instr.fill place cells.toArray ps=some r.toArray
  | [],[],cells,r,_,h=>by simp only [fillC,Option.some.injEq] at h;subst h;rfl
  | [],_ :: _,_,_,h,_=>by simp at h
  | _ :: _,[],_,_,h,_=>by simp at h
  | (i,v) :: ps,(j,c) :: qs,cells,r,h,hf=>by
    simp only [List.map_cons,List.cons.injEq,Prod.mk.injEq] at h
    obtain ⟨⟨rfl,hc⟩,ht⟩:=h
    unfold fillC at hf
    unfold Instr.fill
    cases hp:place i with
    | none=>simp [hp] at hf
    | some os =>
      obtain ⟨off,size⟩:=os
      simp only [hp] at hf ⊢
      cases hb:(Nat.beq c.length size&&Nat.ble (off+c.length) cells.length) with
      | false=>rw [hb] at hf;cases hf
      | true =>
        rw [hb] at hf
        simp only [Bool.and_eq_true] at hb
        have h1:=Nat.eq_of_beq_eq_true hb.1
        have h2:=Nat.le_of_ble_eq_true hb.2
        rw [hc]
        have hn:(decide (c.toArray.size≠size)||decide (off+c.toArray.size > cells.toArray.size))=false:=by simp;omega
        rw [if_neg (by simp only [hn];simp)]
        have:=foldl_set c off 0 cells (by omega)
        simp only [Nat.add_zero] at this
        have e:c.toArray.zipIdx.foldl (fun cs (c,j)=>cs.setIfInBounds (off+j) c) cells.toArray=(cells.take off++c++cells.drop (off+c.length)).toArray:=by
          rw [← this]
          simp
        rw [e]
        exact fill_eq place ps qs _ ht hf
theorem pv_build {P:Program} {e:Env} {w:World} {d:Option Nat} {ty:TypeId} {pos:String} {af:Array Edge} {t:TypeId} {z:List Value} {n bytes:Nat} {pl:Array (Nat × Nat)} [hz:ElemT P t z n bytes] [hb:BldT P t pl] {parts:Array (Nat × Operand)} (qs:List (Nat × List Value)) (r:List Value)
  (hp:parts.toList.map (fun p=>(p.1,(ev e p.2).cells))=qs.map (fun q=>(q.1,q.2.toArray))) (hf:fillC (pl[·]?) z qs=some r):PV P ⟨d,.build t parts,ty,pos,af,none⟩ e w (.agg r.toArray):=fun w' _=>by
 have hz:=hz.h
 obtain ⟨fs,h1,h2⟩:=hb.h
 cases hi:P.info? t with
 | none=>simp [hi] at hz
 | some i =>
 cases hzz:i.zero with
 | none=>simp [hi,hzz] at hz
 | some zv =>
 simp [hi,hzz] at hz
 have hzc:zv.cells=z.toArray:=by rw [← hz.1]
 have hff:=fill_eq (pl[·]?) (parts.toList.map fun p=>(p.1,ev e p.2)) qs z (by rw [List.map_map];exact hp) hf
 unfold execOp
 simp only [Instr.build,zeroValue,typeInfo,hi,hzz,Sem.run_bind,Sem.run_pure,run_program,Result.andThen_ok,run_underlying h1,h2,hzc,Array.toList_map]
 rw [hff]
 simp
theorem partc {e:Env} {i:Nat} {x:Operand} {c:List Value} {l:List (Nat × Operand)} {m:List (Nat × List Value)} (h:(ev e x).cells=c.toArray) (t:l.map (fun p=>(p.1,(ev e p.2).cells))=m.map (fun q=>(q.1,q.2.toArray))) :
  ((i,x) :: l).map (fun p=>(p.1,(ev e p.2).cells))=((i,c) :: m).map (fun q=>(q.1,q.2.toArray)):=by
 rw [List.map_cons,List.map_cons,t,h]
end Go.Proofs.Ytpobjikdmaifpaa
namespace Go.Proofs.Ytpobjikdmaifpaa
-- int64
instance:PlainT Try.prog 2:=⟨_,Try.underlying2,trivial⟩
instance:ElemT Try.prog 2 [.int .i64 0] 1 8:=⟨by kernel_rfl⟩
-- int
instance:PlainT Try.prog 3:=⟨_,Try.underlying3,trivial⟩
instance:ElemT Try.prog 3 [.int .i64 0] 1 8:=⟨by kernel_rfl⟩
-- bool
instance:PlainT Try.prog 4:=⟨_,Try.underlying4,trivial⟩
instance:ElemT Try.prog 4 [.bool false] 1 1:=⟨by kernel_rfl⟩
-- uint8
instance:PlainT Try.prog 5:=⟨_,Try.underlying5,trivial⟩
instance:ElemT Try.prog 5 [.int .u8 0] 1 1:=⟨by kernel_rfl⟩
-- string
instance:PlainT Try.prog 9:=⟨_,Try.underlying9,trivial⟩
instance:ElemT Try.prog 9 [.string ByteArray.empty] 1 16:=⟨by kernel_rfl⟩
-- uintptr
instance:PlainT Try.prog 12:=⟨_,Try.underlying12,trivial⟩
instance:ElemT Try.prog 12 [.int .u64 0] 1 8:=⟨by kernel_rfl⟩
-- int32
instance:PlainT Try.prog 21:=⟨_,Try.underlying21,trivial⟩
instance:ElemT Try.prog 21 [.int .i32 0] 1 4:=⟨by kernel_rfl⟩
-- []uint8
instance:PlainT Try.prog 22:=⟨_,Try.underlying22,trivial⟩
instance:SliceT Try.prog 22 5:=⟨Try.underlying22⟩
instance:ElemT Try.prog 22 [.slice none 0 0] 1 24:=⟨by kernel_rfl⟩
-- struct { b []uint8;i int;h int }
instance:AggT Try.prog 35 3:=⟨⟨_,Try.underlying35,trivial⟩,by kernel_rfl⟩
instance:FldT Try.prog 35 0 0:=⟨_,_,Try.underlying35,rfl,rfl,by kernel_rfl⟩
instance:FldT Try.prog 35 1 1:=⟨_,_,Try.underlying35,rfl,rfl,by kernel_rfl⟩
instance:FldT Try.prog 35 2 2:=⟨_,_,Try.underlying35,rfl,rfl,by kernel_rfl⟩
instance:BldT Try.prog 35 #[(0,1),(1,1),(2,1)]:=⟨_,Try.underlying35,fun w=>by kernel_rfl⟩
instance:ElemT Try.prog 35 [.slice none 0 0,.int .i64 0,.int .i64 0] 3 40:=⟨by kernel_rfl⟩
-- spec.l1Cur
instance:AggT Try.prog 36 3:=⟨⟨_,Try.underlying36,trivial⟩,by kernel_rfl⟩
instance:FldT Try.prog 36 0 0:=⟨_,_,Try.underlying36,rfl,rfl,by kernel_rfl⟩
instance:FldT Try.prog 36 1 1:=⟨_,_,Try.underlying36,rfl,rfl,by kernel_rfl⟩
instance:FldT Try.prog 36 2 2:=⟨_,_,Try.underlying36,rfl,rfl,by kernel_rfl⟩
instance:BldT Try.prog 36 #[(0,1),(1,1),(2,1)]:=⟨_,Try.underlying36,fun w=>by kernel_rfl⟩
instance:ElemT Try.prog 36 [.slice none 0 0,.int .i64 0,.int .i64 0] 3 40:=⟨by kernel_rfl⟩
-- []int
instance:PlainT Try.prog 38:=⟨_,Try.underlying38,trivial⟩
instance:SliceT Try.prog 38 3:=⟨Try.underlying38⟩
instance:ElemT Try.prog 38 [.slice none 0 0] 1 24:=⟨by kernel_rfl⟩
-- uint
instance:PlainT Try.prog 40:=⟨_,Try.underlying40,trivial⟩
instance:ElemT Try.prog 40 [.int .u64 0] 1 8:=⟨by kernel_rfl⟩
-- uint32
instance:PlainT Try.prog 48:=⟨_,Try.underlying48,trivial⟩
instance:ElemT Try.prog 48 [.int .u32 0] 1 4:=⟨by kernel_rfl⟩
end Go.Proofs.Ytpobjikdmaifpaa
namespace Go.Proofs.Ytpobjikdmaifpaa
open Go.RowKit

def AL (P:Program) (n:Nat) (ops:Array Oper) (X:List Nat) (C:World→Prop) (K:Env→World→Prop):Nat→Array Bool→Env→World→Prop
 | 0,L,e,w=>Region.ready .any ops L=[]∧K e w
 | f+1,L,e,w=>(Region.ready .any ops L=[]→K e w) ∧
  ∀ i∈Region.ready .any ops L,∃ o,ops[i]? = some o∧EL P n ops (fun e' w'=>(X.contains i=true→C w')∧AL P n ops X C K f (L.setIfInBounds i true) e' w') [o] e w

section
variable {P:Program} {n:Nat} {ops:Array Oper} {X:List Nat} {C:World→Prop} {K:Env→World→Prop}
theorem wp_nrm {o:Oper} {a:Act} {w:World} {N N2:Act→World→Prop} {K1 K2:Env→World→Prop} (h:∀ a w,N a w→N2 a w) (hh:o.wp P a w N (nrm n K1)):o.wp P a w N2 (nrm n K2):=by
  unfold Oper.wp at *
  generalize (execOp a.eval o).run P w=r at *
  cases r with
  | ok m w' =>
    cases m <;> simp only [Oper.upon] at hh ⊢ <;>
      first
        | exact h _ _ hh
        | exact Calls.mono hh (fun e w'' he=>by
            cases e with
            | returned v=>exact h _ _ he
            | panicked ch=>exact absurd he.1 (by simp)
            | outgrown=>obtain ⟨_,_,hx,_⟩:=he;exact absurd hx (by simp))
        | exact Rows.mono hh (fun _ _ he=>h _ _ he)
  | halt x w' =>
    cases x <;> simp only [Oper.upon] at hh ⊢
    exact absurd hh.1 (by simp)
theorem no_out {K:Env→World→Prop}:¬ LetsOut (nrm n K):=by
 rintro ⟨_,_,h,_⟩;exact absurd h (by simp)
theorem AL.any:∀ (f:Nat) (L:Array Bool) (e:Env) (a:Act) (w:World),Mt n e a→AL P n ops X C K f L e w→wpAny P .any ops (nrm n K) f L a w
 | 0,_,e,a,_,ha,h=>⟨h.1,rfl,e,ha,h.2⟩
 | f+1,L,e,a,w,ha,h=>by
  refine ⟨fun h0=>⟨rfl,e,ha,h.1 h0⟩,fun i hi=>?_⟩
  obtain ⟨o,ho,hE⟩:=h.2 i hi
  have:=hE a ha
  unfold wpOp
  simp only [ho]
  unfold wpList at this
  have key:∀ a w,wpList P ops (nrm n fun e' w'=>(X.contains i=true→C w')∧AL P n ops X C K f (L.setIfInBounds i true) e' w') [] a w→wpAny P .any ops (nrm n K) f (L.setIfInBounds i true) a w:=by
   rintro a w ⟨_,e',ha',_,h2⟩
   exact AL.any f _ e' a w ha' h2
  split
  ·rename_i hw
   rw [if_pos hw] at this
   rcases this with h1 | ⟨_,h1⟩
   ·exact .inl (wp_nrm key h1)
   ·exact absurd h1 no_out
  ·rename_i hw
   rw [if_neg hw] at this
   exact key _ _ this
end
class FlatR {α:Type} (R:Rep α) (f:outParam (α→Value)):Prop where
 h:∀ {w:World} {cs:List Value} {x:α},R.rd w cs x→cs=[f x]
instance:FlatR intR (Value.int .i64):=⟨fun h=>h⟩
instance:FlatR u8R (Value.int .u8):=⟨fun h=>h⟩
instance:FlatR boolR Value.bool:=⟨fun h=>h⟩
section
variable {P:Program} {n:Nat} {ops:Array Oper} {K:Env→World→Prop} {KQ:Env→Prop} {rest:List Oper} {e:Env} {w w0:World} {v:Value} {d:Nat} {ty:TypeId} {pos:String} {af:Array Edge} {Γ:List Asn} {x y:Operand} {α:Type} {R:Rep α} {E:TypeId} {f:α→Value}
theorem Sat.ownCell (i:Nat) [hf:FlatR R f] {xs:List α} (hS:Sat w0 w Γ) (hi:Γ[i]? = some (Own (sliceR R E) [v] xs)) {g cap ln:Nat} (hv:v=.slice (some ⟨g,0,none⟩) ln cap) {j:Int} {u:α} (h:ix xs j=some u):w.cell? ⟨g,j.toNat*1,none⟩=some (f u):=by
 obtain ⟨k,rfl,hk,rfl⟩:=ix_some h
 obtain ⟨fp,ho,_⟩:=(hS.top i hi).head
 rcases ho with ⟨_,h2,_⟩ | ⟨g',cap',cur,ccs,f2,hv',hg,h1,h2,h3,h4,h5,rfl⟩
 ·subst h2;simp at hk
 subst hv
 simp at hv'
 obtain ⟨rfl,rfl,rfl⟩:=hv'
 obtain ⟨ec,hec,hcc⟩:=rdL_at (ownL_rdL h5) k hk
 obtain rfl:=hf.h hec
 have hsz:R.sz=1:=by have:=R.rd_len hec;simpa using this.symm
 have h0:=hcc 0 _ rfl
 rw [cell_of_row w g _ cur E (0,0) hg,← Array.getElem?_toList]
 rw [← h4,List.getElem?_take] at h0
 simp only [Int.toNat_natCast]
 rw [hsz] at h0
 split at h0
 ·simpa using h0
 ·cases h0
theorem ownShape (i:Nat) {xs:List α} (hS:Sat w0 w Γ) (hi:Γ[i]? = some (Own (sliceR R E) [v] xs)) {j:Int} {u:α} (h:ix xs j=some u):∃ g cap,v=.slice (some ⟨g,0,none⟩) xs.length cap:=by
 obtain ⟨k,rfl,hk,rfl⟩:=ix_some h
 rcases (hS.top i hi).shape with ⟨_,h2⟩ | ⟨g,cap,h⟩
 ·subst h2;simp at hk
 ·exact ⟨g,cap,h⟩
theorem pv_indexF {d:Option Nat} {t:TypeId} [ht:SliceT P t E] {zz:List Value} {bytes:Nat} [hz:ElemT P E zz 1 bytes] {xs:List α} (hs:ev e x=v) {g cap:Nat} (hv:v=.slice (some ⟨g,0,none⟩) xs.length cap) {k:IntKind} {j:Int} (hi:ev e y=.int k j) {u:α} (h:ix xs j=some u) :
  PV P ⟨d,.indexAddr t x y,ty,pos,af,none⟩ e w (.pointer (some ⟨g,j.toNat*1,none⟩)):=fun w' _=>by
 obtain ⟨k',rfl,hk,rfl⟩:=ix_some h
 subst hv
 have hz:=hz.h
 cases hq:P.info? E with
 | none=>simp [hq] at hz
 | some inf =>
  simp [hq] at hz
  have hsz:inf.size=1:=hz.2.1
  unfold execOp
  simp [hs,hi,Instr.indexAt,asIntOf,run_underlying ht.h,sizeOf,typeInfo,hq,hk,Addr.add_lit,hsz]
end
end Go.Proofs.Ytpobjikdmaifpaa
namespace Go.Proofs.Ytpobjikdmaifpaa
theorem goes4:Goes Try.prog 4:=⟨_,Try.func4,by kernel_rfl,by kernel_rfl⟩
theorem goes5:Goes Try.prog 5:=⟨_,Try.func5,by kernel_rfl,by kernel_rfl⟩
theorem goes6:Goes Try.prog 6:=⟨_,Try.func6,by kernel_rfl,by kernel_rfl⟩
theorem goes7:Goes Try.prog 7:=⟨_,Try.func7,by kernel_rfl,by kernel_rfl⟩
theorem goes8:Goes Try.prog 8:=⟨_,Try.func8,by kernel_rfl,by kernel_rfl⟩
theorem goes9:Goes Try.prog 9:=⟨_,Try.func9,by kernel_rfl,by kernel_rfl⟩
theorem goes10:Goes Try.prog 10:=⟨_,Try.func10,by kernel_rfl,by kernel_rfl⟩
theorem goes11:Goes Try.prog 11:=⟨_,Try.func11,by kernel_rfl,by kernel_rfl⟩
theorem goes12:Goes Try.prog 12:=⟨_,Try.func12,by kernel_rfl,by kernel_rfl⟩
theorem goes13:Goes Try.prog 13:=⟨_,Try.func13,by kernel_rfl,by kernel_rfl⟩
theorem goes14:Goes Try.prog 14:=⟨_,Try.func14,by kernel_rfl,by kernel_rfl⟩
theorem goes15:Goes Try.prog 15:=⟨_,Try.func15,by kernel_rfl,by kernel_rfl⟩
theorem goes16:Goes Try.prog 16:=⟨_,Try.func16,by kernel_rfl,by kernel_rfl⟩
theorem goes17:Goes Try.prog 17:=⟨_,Try.func17,by kernel_rfl,by kernel_rfl⟩
theorem goes18:Goes Try.prog 18:=⟨_,Try.func18,by kernel_rfl,by kernel_rfl⟩
theorem goes19:Goes Try.prog 19:=⟨_,Try.func19,by kernel_rfl,by kernel_rfl⟩
theorem goes20:Goes Try.prog 20:=⟨_,Try.func20,by kernel_rfl,by kernel_rfl⟩
theorem goes21:Goes Try.prog 21:=⟨_,Try.func21,by kernel_rfl,by kernel_rfl⟩
theorem goes22:Goes Try.prog 22:=⟨_,Try.func22,by kernel_rfl,by kernel_rfl⟩
theorem goes23:Goes Try.prog 23:=⟨_,Try.func23,by kernel_rfl,by kernel_rfl⟩
theorem goes24:Goes Try.prog 24:=⟨_,Try.func24,by kernel_rfl,by kernel_rfl⟩
theorem goes25:Goes Try.prog 25:=⟨_,Try.func25,by kernel_rfl,by kernel_rfl⟩
theorem goes26:Goes Try.prog 26:=⟨_,Try.func26,by kernel_rfl,by kernel_rfl⟩
theorem goes27:Goes Try.prog 27:=⟨_,Try.func27,by kernel_rfl,by kernel_rfl⟩
theorem goes28:Goes Try.prog 28:=⟨_,Try.func28,by kernel_rfl,by kernel_rfl⟩
end Go.Proofs.Ytpobjikdmaifpaa
namespace Go.Proofs.Ytpobjikdmaifpaa
open Go.RowKit Go.ChangeShapes Go.WideShapes Go.ChangeAt

def Opens {α:Type} (P:Program) (R:Rep α) (T:TypeId):Prop :=
 ∀ {H:Type} (enc:TypeId × Value→H) (w:World) (base:Nat) (spare:Nat→Bool) (held:Bool) (fuel:Nat) (cs:List Value) (x:DataW H × List MemPlace),DataW.trod enc P w base spare held fuel T cs=some x→∃ y,R.rd w cs y

theorem opens_slice {α:Type} {P:Program} {R:Rep α} {T e E:TypeId} (ht:P.underlying T=some (.slice e)) (hs:P.cellsOf e=R.sz) (hpos:0<R.sz) (ho:Opens P R e):Opens P (sliceR R E) T:=by
 intro H enc w base spare held fuel cs x h
 rcases DataW.trod_slice ht h with ⟨rfl,_⟩ | ⟨a,len,cap,elems,rst,n,_,rfl,_,hb,hlc,hm,hel,hev,_⟩
 ·exact ⟨[],none,0,[],rfl,Nat.le_refl _,Nat.zero_le _,fun _=>rfl,rfl,.inl rfl⟩
 ·have hone:∀ i,i<len→∃ ec y,R.rd w ec y∧∀ j c,ec[j]? = some c→w.cell? (a.add (i*R.sz) |>.add j)=some c:=by
   intro i hi
   have h1:=hev i hi
   rw [List.getElem?_eq_getElem (by omega),hs] at h1
   obtain ⟨ec,h2,h3⟩:=Option.bind_eq_some_iff.1 h1
   obtain ⟨y,hy⟩:=ho enc w base spare held n ec _ h3
   obtain ⟨_,h4,h5⟩:=World.cells?_some h2
   exact ⟨ec,y,hy,fun j c hj=>by rw [h5 j (by have:=(List.getElem?_eq_some_iff.1 hj).1;omega)];exact hj⟩
  by_cases hl0:len=0
  ·subst hl0
   exact ⟨[],some a,cap,[],rfl,hlc,hm,by simp,rfl,.inl rfl⟩
  obtain ⟨b,off,spot⟩:=a
  have hspot:spot=none:=by
   obtain ⟨ec,y,hy,hc⟩:=hone 0 (by omega)
   have hl:=R.rd_len hy
   have h0:=hc 0 ec[0] (by simp)
   simp only [Nat.zero_mul,Addr.add,if_true] at h0
   cases spot with
   | none=>rfl
   | some s =>
    unfold World.cell? at h0
    split at h0 <;> simp at h0
  subst hspot
  have hall:∀ k,k≤len→∃ ys ccs,ys.length=k∧rdL R w ccs ys∧∀ j c,ccs[j]? = some c→w.cell? ⟨b,off+j,none⟩=some c:=by
   intro k
   induction k with
   | zero=>intro _;exact ⟨[],[],rfl,rfl,by simp⟩
   | succ k ih =>
    intro hk
    obtain ⟨ys,ccs,h1,h2,h3⟩:=ih (by omega)
    obtain ⟨ec,y,hy,hc⟩:=hone k (by omega)
    refine ⟨ys++[y],ccs++ec,by simp [h1],rdL_append (ys:=[y]) ⟨ec,[],by simp,hy,rfl⟩ h2,fun j c hj=>?_⟩
    have hcl:=rdL_len h2
    by_cases hj1:j<ccs.length
    ·rw [List.getElem?_append_left hj1] at hj;exact h3 j c hj
    ·rw [List.getElem?_append_right (by omega)] at hj
     have:=hc (j-ccs.length) c hj
     rw [Addr.add_lit,Addr.add_lit] at this
     rw [show off+j=off+k*R.sz+(j-ccs.length) by rw [hcl,h1] at *;omega]
     exact this
  obtain ⟨ys,ccs,h1,h2,h3⟩:=hall len (Nat.le_refl _)
  exact ⟨ys,some ⟨b,off,none⟩,cap,ccs,by rw [h1],by omega,hm,by simp,h2,.inr ⟨b,off,rfl,h3⟩⟩
def rng8 (n:Int):Prop:=0≤n∧n≤255
def u8F:Rep Int where
 sz:=1
 rd _ cs n:=cs=[.int .u8 n]∧rng8 n
 own _ cs n fp:=(cs=[.int .u8 n]∧rng8 n)∧fp=[]
 rd_len h:=by rw [h.1];rfl
 rd_one h:=by rw [h.1];simp [Value.oneCell']
 rd_ext h _:=h
 own_rd h:=h.1
 own_ext h _:=h
 own_lt h:=by rw [h.2];simp
theorem wf8 {n:Int} (h:(Lit.int .u8 n).wf=true):rng8 n:=by
 unfold Lit.wf at h
 simp only [Bool.and_eq_true,decide_eq_true_eq] at h
 exact ⟨h.1,h.2⟩
theorem opens_u8F {P:Program} {T:TypeId} (ht:P.underlying T=some (.int .u8)):Opens P u8F T:=by
 intro H enc w base spare held fuel cs x h
 obtain ⟨n,rfl,_,hw⟩:=DataW.trod_int ht h
 exact ⟨n,rfl,wf8 hw⟩
theorem rdL_F8 {w:World}:∀ {xs:List Int} {ccs:List Value},rdL u8F w ccs xs→rdL u8R w ccs xs∧∀ v∈xs,rng8 v
 | [],_,h=>⟨h,by simp⟩
 | x :: xs,_,h=>by
  obtain ⟨ec,rest,rfl,h1,h2⟩:=h
  obtain ⟨g1,g2⟩:=rdL_F8 h2
  refine ⟨⟨ec,rest,rfl,h1.1,g1⟩,fun v hv=>?_⟩
  rcases List.mem_cons.1 hv with rfl | hv
  ·exact h1.2
  ·exact g2 v hv
theorem slice_F8 {E:TypeId} {w:World} {cs:List Value} {xs:List Int} (h:(sliceR u8F E).rd w cs xs):(sliceR u8R E).rd w cs xs∧∀ v∈xs,rng8 v:=by
 obtain ⟨ao,cap,ccs,rfl,h1,h2,h3,h4,h5⟩:=h
 obtain ⟨g1,g2⟩:=rdL_F8 h4
 exact ⟨⟨ao,cap,ccs,rfl,h1,h2,h3,g1,h5⟩,g2⟩
end Go.Proofs.Ytpobjikdmaifpaa
namespace Go.Proofs.Ytpobjikdmaifpaa
open Go.RowKit

theorem bs {α β:Type} (a:α) (f:α→Option β):(some a).bind f=f a:=rfl
theorem ix_nat {α:Type} {xs:List α} {i:Nat} (h:i<xs.length):ix xs (i:Int)=some xs[i]:=by
 unfold ix;rw [if_pos (by omega)];simp [h]
theorem ix_int {α:Type} {xs:List α} {i:Int} (h0:0≤i) (h:i<xs.length):ix xs i=some (xs[i.toNat]'(by omega)):=by
 unfold ix;rw [if_pos h0];simp
theorem rng_of {n:Int} (h:-4611686018427387904≤n) (h2:n≤4611686018427387904):rng n=true:=by
 unfold rng;simp only [Bool.and_eq_true,decide_eq_true_eq];omega
theorem ad_ok {a b:Int} (h:-4611686018427387904≤a+b) (h2:a+b≤4611686018427387904):ad a b=some (a+b):=by unfold ad;rw [if_pos (rng_of h h2)]
theorem ml_ok {a b:Int} (h:-4611686018427387904≤a*b) (h2:a*b≤4611686018427387904):ml a b=some (a*b):=by unfold ml;rw [if_pos (rng_of h h2)]
theorem ad1 {i:Nat} (h:i<1099511627776):ad (i:Int) 1=some ((i+1:Nat):Int):=by rw [ad_ok (by omega) (by omega)];simp
theorem dlt {i n:Nat} (h:i<n):decide ((i:Int)<(n:Int))=true:=by simp;omega
theorem dge {i n:Nat} (h:¬ i<n):decide ((i:Int)<(n:Int))=false:=by simp;omega
theorem apd_ok {α:Type} {b:Nat} {xs ys:List α} (h:(xs.length+ys.length)*b≤140737488355328):apd b xs ys=some (xs++ys):=by unfold apd;rw [if_pos h]
theorem apd_ok' {α:Type} {b:Nat} {xs ys:List α} (hb:b≤64) (h:xs.length+ys.length≤2199023255552):apd b xs ys=some (xs++ys):=by
 refine apd_ok (Nat.le_trans (Nat.mul_le_mul h hb) (by omega))
section
variable {α:Type}
def AllL (p:α→Prop) (m:Nat) (xs:List α):Prop:=xs.length≤m∧∀ x∈xs,p x

end
theorem beqD (x y:Int):(x == y)=decide (x=y):=by by_cases h:x=y <;> simp [h]
end Go.Proofs.Ytpobjikdmaifpaa
namespace Go.Proofs.Ytpobjikdmaifpaa
open Go.RowKit Go.ChangeShapes Go.WideShapes Go.ChangeAt
theorem own_knob:ownKnob Try.prog.godebug=none:=by kernel_rfl
theorem laid_out:laidOutB Try.prog=true:=by kernel_rfl
theorem rdp_slice {α:Type} {R:Rep α} {E:TypeId} {p:α→Prop} (h:∀ {w:World} {cs:List Value} {x:α},R.rd w cs x→p x) {w:World} {cs:List Value} {xs:List α} (hr:(sliceR R E).rd w cs xs):AllL p 9223372036854775807 xs:=by
 obtain ⟨ao,cap,ccs,rfl,h1,h2,h3,h4,h5⟩:=hr
 refine ⟨by unfold maxLen at h2;omega,fun x hx=>?_⟩
 obtain ⟨j,hj,rfl⟩:=List.getElem_of_mem hx
 obtain ⟨ec,h6,_⟩:=rdL_at h4 j hj
 exact h h6
theorem opensF22:Opens Try.prog (sliceR u8F 5) 22:=opens_slice Try.underlying22 (by kernel_rfl) (by decide) (opens_u8F Try.underlying5)
theorem rdp22 {w:World} {cs:List Value} {x:List Int} (h:((sliceR u8R 5)).rd w cs x):(AllL (fun _=>True) 9223372036854775807) x:=rdp_slice (fun _=>trivial) h
end Go.Proofs.Ytpobjikdmaifpaa
namespace Go.Proofs.Ytpobjikdmaifpaa
open Go.RowKit

theorem Sat.drop {w0 w:World} {Γ Δ:List Asn} (h:Sat w0 w (Γ++Δ)):Sat w0 w Δ:=by
 induction Γ with
 | nil=>simpa using h
 | cons A Γ ih=>exact ih h.tail

def iand (a b:Int):Int:=IntKind.i64.wrap ((BitVec.ofInt IntKind.i64.bits a &&& BitVec.ofInt IntKind.i64.bits b).toNat)
def ixor (a b:Int):Int:=IntKind.i64.wrap ((BitVec.ofInt IntKind.i64.bits a ^^^ BitVec.ofInt IntKind.i64.bits b).toNat)
def sr (a b:Int):Option Int:=if 0≤b then some (a.fdiv (2 ^ (min b.toNat IntKind.i64.bits))) else none
section
variable {P:Program} {e:Env} {w:World} {d:Option Nat} {ty:TypeId} {pos:String} {af:Array Edge} {x y:Operand}
theorem pv_and {t u:TypeId} {a b:Int} (hx:ev e x=.int .i64 a) (hy:ev e y=.int .i64 b):PV P ⟨d,.binOp .and t x y u,ty,pos,af,none⟩ e w (.int .i64 (iand a b)):=fun w' _=>by
 unfold execOp iand;simp [hx,hy,eqGuard,binOp,Op.intBits]
theorem pv_xor {t u:TypeId} {a b:Int} (hx:ev e x=.int .i64 a) (hy:ev e y=.int .i64 b):PV P ⟨d,.binOp .xor t x y u,ty,pos,af,none⟩ e w (.int .i64 (ixor a b)):=fun w' _=>by
 unfold execOp ixor;simp [hx,hy,eqGuard,binOp,Op.intBits]
theorem pv_shr {t u:TypeId} {k2:IntKind} {a b c:Int} (hx:ev e x=.int .i64 a) (hy:ev e y=.int k2 b) (h:sr a b=some c):PV P ⟨d,.binOp .shr t x y u,ty,pos,af,none⟩ e w (.int .i64 c):=fun w' _=>by
 unfold sr at h
 split at h
 ·rename_i h0
  obtain rfl:=Option.some.inj h
  have h1:¬ b<0:=by omega
  unfold execOp;simp [hx,hy,eqGuard,binOp,Op.shift,h1]
 ·cases h
end
theorem fillC_seq:∀ (vs:List Value) (i:Nat) (cells:List Value),cells.length=i+vs.length→fillC (fun i=>some (i*1,1)) cells ((vs.zipIdx i).map fun p=>(p.2,[p.1]))=some (cells.take i++vs)
 | [],i,cells,h=>by
  simp only [List.length_nil,Nat.add_zero] at h
  show some cells=some (cells.take i++[])
  rw [List.append_nil,List.take_of_length_le (by omega)]
 | v :: vs,i,cells,h=>by
  simp only [List.length_cons] at h
  have e1:i*1=i:=Nat.mul_one i
  simp only [List.zipIdx_cons,List.map_cons,fillC,List.length_singleton,e1]
  rw [show Nat.beq 1 1=true from rfl,Bool.true_and]
  have hb:Nat.ble (i+1) cells.length=true:=by rw [Nat.ble_eq];omega
  rw [hb,cond_true,fillC_seq vs (i+1) _ (by simp;omega)]
  congr 1
  rw [List.take_append_of_le_length (by simp;omega),List.take_of_length_le (by simp;omega)]
  simp
section
variable {P:Program} {n:Nat} {ops:Array Oper} {K:Env→World→Prop} {rest:List Oper} {e:Env} {w w0:World} {d:Nat} {ty:TypeId} {pos:String} {af:Array Edge} {Γ:List Asn} {E:TypeId} {α:Type} {R:Rep α}
theorem el_buildSliceN {t:TypeId} [ht:SliceT P t E] {z:List Value} {bytes:Nat} [hz:ElemT P E z 1 bytes] {parts:Array (Nat × Operand)} {k:Nat} (vs:List Value) {xs:List α} (hsz:R.sz=1) (hk:vs.length=k) (hxl:xs.length=k) (hk1:Nat.ble k 16777216=true)
  (hp:parts.toList.map (fun p=>(p.1,(ev e p.2).cells))=((vs.zipIdx 0).map fun p=>(p.2,[p.1].toArray))) (hown:∀ w,ownL R w vs xs []) (hS:Sat w0 w Γ) (hd:d<n)
  (hK:∀ w' v,Sat w0 w' (Own (sliceR R E) [v] xs :: Γ)→Ext w w'→EL P n ops K rest (upd e d v) w'):EL P n ops K (⟨some d,.buildSlice t k parts,ty,pos,af,none⟩ :: rest) e w:=by
 intro a ha
 refine wpList_plain rfl fun K' hK'=>?_
 have hz:=hz.h
 cases hi:P.info? E with
 | none=>simp [hi] at hz
 | some i =>
 cases hzz:i.zero with
 | none=>simp [hi,hzz] at hz
 | some zv =>
 simp [hi,hzz] at hz
 obtain ⟨hz1,hz2,hz3⟩:=hz
 have hk':¬ (k*1 > 2 ^ 24):=by have:=Nat.le_of_ble_eq_true hk1;omega
 have hfill:∀ A:Array Value,A.size=k→Instr.fill (fun i=>some (i*1,1)) A (parts.toList.map fun p=>(p.1,ev e p.2))=some vs.toArray:=by
  intro A hA
  have:=fill_eq (fun i=>some (i*1,1)) (parts.toList.map fun p=>(p.1,ev e p.2)) ((vs.zipIdx 0).map fun p=>(p.2,[p.1])) A.toList (r:=vs) (by
   rw [List.map_map,List.map_map];exact hp) (by rw [fillC_seq vs 0 A.toList (by simp;omega)];simp)
  simpa using this
 have hr:(Instr.buildSlice t k (parts.map fun p=>(p.1,ev e p.2))).run P w=.ok (.slice (some ⟨w.heap.size,0,none⟩) k k) (w.alloc (.cells vs.toArray E)):=by
  unfold Instr.buildSlice
  simp only [run_underlying ht.h,sizeOf,typeInfo,hi,hz2,Sem.run_bind,Sem.run_pure,run_program,Result.andThen_ok,if_neg hk',Sem.run_ite,Array.toList_map]
  by_cases h0:k*1=0
  ·simp only [h0,if_true,Sem.run_pure,Result.andThen_ok]
   have hk0:k=0:=by omega
   rw [hfill _ (by simp;omega)]
   simp [newRow,hk0]
  ·simp only [h0,if_false,zeroValue,typeInfo,hi,hzz,Sem.run_bind,Sem.run_pure,run_program,Result.andThen_ok]
   rw [hfill _ (by simp)]
   simp [newRow]
 unfold Oper.wp execOp
 simp only [ha.eval,hr,Sem.run_bind,Sem.run_pure,Result.andThen_ok,Oper.upon_value]
 refine hK' _ _ (hK _ _ ?_ (ext_alloc _ _) _ (ha.put hd _))
 refine (hS.box E vs).conv fun f hf=>?_
 obtain ⟨rfl,hf⟩:=hf
 have h2:=Nat.le_of_ble_eq_true hk1
 exact .inr ⟨w.heap.size,k,vs.toArray,vs,[],by rw [hxl],hf,by omega,by unfold maxLen;omega,by simp [hsz,hk],by rw [hsz,hxl,Nat.mul_one];exact List.take_of_length_le (by simp;omega),hown _,by simp⟩
theorem own_ints (xs:List Int) (w:World):ownL intR w (xs.map (Value.int .i64)) xs []:=by
 induction xs with
 | nil=>exact ⟨rfl,rfl⟩
 | cons x xs ih=>exact ⟨[.int .i64 x],_,[],[],rfl,rfl,⟨rfl,rfl⟩,ih⟩
end
def memN (k:Nat):List Nat→Bool
 | []=>false
 | a :: l=>bif Nat.beq a k then true else memN k l
def dropI (idx:List Nat):Nat→Nat→List Asn→List Asn
 | 0,_,Γ=>Γ
 | _+1,_,[]=>[]
 | n+1,k,A :: Γ=>bif memN k idx then dropI idx n (k+1) Γ else A :: dropI idx n (k+1) Γ
def pickI (Γ:List Asn):List Nat→List Asn
 | []=>[]
 | i :: l=>match Γ[i]? with | some A=>A :: pickI Γ l | none=>pickI Γ l
def okI_ (n:Nat):List Nat→Bool
 | []=>true
 | a :: l=>Nat.blt a n&&(!memN a l&&okI_ n l)
theorem memN_cons {k a:Nat} {l:List Nat} (h:a≠k):memN k (a :: l)=memN k l:=by
 show (bif Nat.beq a k then true else memN k l)=_
 rw [beq_ne h];rfl
theorem dropI_miss (i:Nat) (idx:List Nat):∀ (n k:Nat) (Γ:List Asn),i<k→dropI (i :: idx) n k Γ=dropI idx n k Γ
 | 0,_,_,_=>rfl
 | _+1,_,[],_=>rfl
 | n+1,k,A :: Γ,h=>by
  unfold dropI
  rw [memN_cons (by omega),dropI_miss i idx n (k+1) Γ (by omega)]
theorem dropI_cons {i:Nat} {idx:List Nat} (hi:memN i idx=false) {A:Asn}:∀ (n k:Nat) (Γ:List Asn),k≤i→i<k+n→Γ[i-k]? = some A→(dropI idx n k Γ).Perm (A :: dropI (i :: idx) n k Γ)
 | 0,k,Γ,h1,h2,_=>by omega
 | n+1,k,[],h1,h2,h3=>by simp at h3
 | n+1,k,B :: Γ,h1,h2,h3=>by
  unfold dropI
  by_cases e:i=k
  ·subst e
   rw [Nat.sub_self] at h3
   have:B=A:=by simpa using h3
   subst this
   have hm:memN i (i :: idx)=true:=by unfold memN;simp
   rw [hi,hm,cond_false,cond_true,dropI_miss i idx n (i+1) Γ (by omega)]
  ·have h4:Γ[i-(k+1)]? = some A:=by
    rw [show i-k=(i-(k+1))+1 by omega] at h3;simpa using h3
   have ih:=dropI_cons hi n (k+1) Γ (by omega) (by omega) h4
   rw [memN_cons e]
   cases memN k idx
   ·exact (List.Perm.cons B ih).trans (.swap _ _ _)
   ·exact ih
theorem sel_perm (Γ:List Asn) (n:Nat):∀ (idx:List Nat),okI_ n idx=true→∃ Θ,Γ.Perm ((pickI Γ idx++dropI idx n 0 Γ)++Θ)
 | [],_=>⟨[],by
  have:∀ (n k:Nat) (Γ:List Asn),dropI [] n k Γ=Γ:=by
   intro n
   induction n with
   | zero=>intro k Γ;rfl
   | succ n ih=>intro k Γ;cases Γ with
    | nil=>rfl
    | cons A Γ=>show A :: dropI [] n (k+1) Γ=_;rw [ih]
  simp [pickI,this]⟩
 | i :: idx,h=>by
  simp only [okI_,Bool.and_eq_true,Bool.not_eq_true'] at h
  obtain ⟨h1,h2,h3⟩:=h
  obtain ⟨Θ,hp⟩:=sel_perm Γ n idx h3
  have hin:i<n:=by simp [Nat.blt] at h1;omega
  cases hi:Γ[i]? with
  | none =>
   refine ⟨Θ,?_⟩
   have:dropI (i :: idx) n 0 Γ=dropI idx n 0 Γ:=by
    have:∀ (n k:Nat) (Γ:List Asn),Γ.length+k≤i→dropI (i :: idx) n k Γ=dropI idx n k Γ:=by
     intro n
     induction n with
     | zero=>intro k Γ h;rfl
     | succ n ih=>intro k Γ h;cases Γ with
      | nil=>rfl
      | cons A Γ =>
       simp only [List.length_cons] at h
       unfold dropI
       rw [memN_cons (by omega),ih (k+1) Γ (by omega)]
    exact this n 0 Γ (by have:=List.getElem?_eq_none_iff.1 hi;omega)
   have e:pickI Γ (i :: idx)=pickI Γ idx:=by show (match Γ[i]? with | some A=>A :: pickI Γ idx | none=>pickI Γ idx)=_;rw [hi]
   rw [e,this];exact hp
  | some A =>
   refine ⟨Θ,hp.trans (List.Perm.append_right Θ ?_)⟩
   have e:pickI Γ (i :: idx)=A :: pickI Γ idx:=by show (match Γ[i]? with | some A=>A :: pickI Γ idx | none=>pickI Γ idx)=_;rw [hi]
   rw [e]
   refine (List.Perm.append_left _ (dropI_cons h2 n 0 Γ (Nat.zero_le _) (by omega) hi)).trans ?_
   exact List.perm_middle
theorem Sat.tops {w0 w:World} {Γ:List Asn} (n:Nat) (idx:List Nat) (h:Sat w0 w Γ) (hk:okI_ n idx=true):Sat w0 w (pickI Γ idx++dropI idx n 0 Γ):=by
 obtain ⟨Θ,hp⟩:=sel_perm Γ n idx hk
 exact h.take _ Θ hp
theorem Sat.rems {w0 w:World} {Γ:List Asn} (n:Nat) (idx:List Nat) (h:Sat w0 w Γ) (hk:okI_ n idx=true):Sat w0 w (dropI idx n 0 Γ) :=
 Sat.drop (h.tops n idx hk)
end Go.Proofs.Ytpobjikdmaifpaa
namespace Go.Proofs.Ytpobjikdmaifpaa
open Go.RowKit
def laws_big (N:Nat) (a0:List Int):Option Bool :=
  some (decide (1048576<(a0.length:Int)))
def spec_l1New_L1 (N:Nat):Nat→(List Int)→Int→Int→Option (Int × Int)
 | 0,_,_,_=>none
 | k+1,x143,x144,x145 =>
  (bif decide (x145<(x143.length:Int)) then
  (bif decide (x145<4000) then
  (ml x144 131).bind fun x152 =>
  (ix x143 x145).bind fun x153 =>
  (ad x152 (IntKind.i64.wrap x153)).bind fun x159 =>
  (ad x159 7).bind fun x160 =>
  (ad x145 1).bind fun x161 =>
  spec_l1New_L1 N k x143 (iand x160 1073741823) x161
  else
  some (x144,x145))
  else
  some (x144,x145))
def spec_l1New (N:Nat) (a0:List Int):Option (Int × Int) :=
  (ad 10101 (a0.length:Int)).bind fun x103 =>
  (spec_l1New_L1 N N a0 x103 0).bind fun s169 =>
  lpB s169 fun (x162,x163) =>
  some (0,x162)
def spec_l1Byte (N:Nat) (a0:List Int) (a1:Int) (a2:Int):Option (Int × Int × Int) :=
  (sr (IntKind.i64.wrap ((IntKind.i64.wrap (a2*6364136223846793005))+1442695040888963407)) 33).bind fun x105 =>
  (sr (IntKind.i64.wrap ((IntKind.i64.wrap (a2*6364136223846793005))+1442695040888963407)) 45).bind fun x106 =>
  (bif decide (a1<(a0.length:Int)) then
  (ix a0 a1).bind fun x115 =>
  some ((iand (IntKind.i64.wrap ((iand (ixor x105 x106) 255)+(IntKind.i64.wrap x115))) 255),(IntKind.i64.wrap (a1+1)),(IntKind.i64.wrap ((IntKind.i64.wrap (a2*6364136223846793005))+1442695040888963407)))
  else
  some ((iand (ixor x105 x106) 255),a1,(IntKind.i64.wrap ((IntKind.i64.wrap (a2*6364136223846793005))+1442695040888963407))))
def spec_l1Below (N:Nat) (a0:List Int) (a1:Int) (a2:Int) (a3:Int):Option (Int × Int × Int) :=
  (bif decide (a3≤0) then
  some (0,a1,a2)
  else
  (bif decide (a3≤256) then
  (spec_l1Byte N a0 a1 a2).bind fun r110 =>
  (rm r110.1 a3).bind fun x112 =>
  some (x112,r110.2.1,r110.2.2)
  else
  (spec_l1Byte N a0 a1 a2).bind fun r114 =>
  (spec_l1Byte N a0 r114.2.1 r114.2.2).bind fun r117 =>
  (spec_l1Byte N a0 r117.2.1 r117.2.2).bind fun r120 =>
  (spec_l1Byte N a0 r120.2.1 r120.2.2).bind fun r123 =>
  (ml r114.1 16777216).bind fun x126 =>
  (ml r117.1 65536).bind fun x127 =>
  (ad x126 x127).bind fun x128 =>
  (ml r120.1 256).bind fun x129 =>
  (ad x128 x129).bind fun x130 =>
  (ad x130 r123.1).bind fun x131 =>
  (rm x131 a3).bind fun x132 =>
  some (x132,r123.2.1,r123.2.2)))
def spec_l1PickInt (N:Nat) (a0:List Int) (a1:Int) (a2:Int) (a3:List Int):Option (Int × Int × Int) :=
  (spec_l1Below N a0 a1 a2 (a3.length:Int)).bind fun r103 =>
  (ix a3 r103.1).bind fun x105 =>
  some (x105,r103.2.1,r103.2.2)
def spec_l25Kind (N:Nat) (a0:List Int) (a1:Int) (a2:Int):Option (Int × Int × Int) :=
  (spec_l1PickInt N a0 a1 a2 ([1,2,3,4,1,2,3,4,0,5]:List Int)).bind fun r107 =>
  some (r107.1,r107.2.1,r107.2.2)
def spec_l25Num (N:Nat) (a0:List Int) (a1:Int) (a2:Int):Option (Int × Int × Int) :=
  (spec_l1PickInt N a0 a1 a2 ([0,1,2,7,40,1000000000,999999999,(-1),40000]:List Int)).bind fun r107 =>
  some (r107.1,r107.2.1,r107.2.2)
def spec_DrawSemiringAdd (N:Nat) (a0:List Int):Option (Int × Int × Int) :=
  (spec_l1New N a0).bind fun r103 =>
  (spec_l25Kind N a0 r103.1 r103.2).bind fun r109 =>
  (spec_l25Num N a0 r109.2.1 r109.2.2).bind fun r111 =>
  (spec_l25Num N a0 r111.2.1 r111.2.2).bind fun r113 =>
  some (r109.1,r111.1,r113.1)
def spec_DrawSemiringMul (N:Nat) (a0:List Int):Option (Int × Int × Int) :=
  (spec_DrawSemiringAdd N a0).bind fun r103 =>
  some (r103.1,r103.2.1,r103.2.2)
def laws_fresh_L1 (N:Nat):Nat→(List Int)→Int→(List Int)→Int→Option ((List Int) × Int)
 | 0,_,_,_,_=>none
 | k+1,x202,x203,x206,x207 =>
  (bif decide (x207<(x202.length:Int)) then
  (bif decide (x207<600) then
  (ix x202 x207).bind fun x214 =>
  (ml (IntKind.i64.wrap x214) 3).bind fun x220 =>
  (rm x207 7).bind fun x221 =>
  (ad x221 1).bind fun x222 =>
  (ml x203 x222).bind fun x223 =>
  (ad x220 x223).bind fun x224 =>
  (apd 1 x206 [(IntKind.u8.wrap x224)]).bind fun x231 =>
  (ad x207 1).bind fun x234 =>
  laws_fresh_L1 N k x202 x203 x231 x234
  else
  some (x206,x207))
  else
  some (x206,x207))
def laws_fresh (N:Nat) (a0:List Int) (a1:Int):Option (List Int) :=
  (laws_fresh_L1 N N a0 a1 ([(IntKind.u8.wrap a1)]) 0).bind fun s240 =>
  lpB s240 fun (x237,x238) =>
  some x237
def impl_clip (N:Nat) (a0:Int):Option Int :=
  some (imx 0 (imn a0 1000000000))
def impl_bit (N:Nat) (a0:Bool):Option Int :=
  (bif a0 then
  some 1
  else
  some 0)
end Go.Proofs.Ytpobjikdmaifpaa
namespace Go.Proofs.Ytpobjikdmaifpaa
open Go.RowKit
def impl_SemiringAdd (N:Nat) (a0:Int) (a1:Int) (a2:Int):Option Int :=
  (impl_clip N a1).bind fun r103 =>
  (impl_clip N a2).bind fun r106 =>
  (bif (a0 == 1) then
  (ad r103 r106).bind fun x115 =>
  (impl_clip N x115).bind fun r116 =>
  some r116
  else
  (bif (a0 == 2) then
  some (imn r103 r106)
  else
  (bif (a0 == 3) then
  (bif decide (0<r103) then
  (impl_bit N true).bind fun r126 =>
  some r126
  else
  (impl_bit N (decide (0<r106))).bind fun r129 =>
  some r129)
  else
  (bif (a0 == 4) then
  some (imx r103 r106)
  else
  some 0))))
def impl_SemiringMul (N:Nat) (a0:Int) (a1:Int) (a2:Int):Option Int :=
  (impl_clip N a1).bind fun r103 =>
  (impl_clip N a2).bind fun r106 =>
  (bif (a0 == 1) then
  (ml r103 r106).bind fun x116 =>
  (impl_clip N x116).bind fun r117 =>
  some r117
  else
  (bif (a0 == 4) then
  (ml r103 r106).bind fun x122 =>
  (impl_clip N x122).bind fun r123 =>
  some r123
  else
  (bif (a0 == 2) then
  (ad r103 r106).bind fun x129 =>
  (impl_clip N x129).bind fun r130 =>
  some r130
  else
  (bif (a0 == 3) then
  (bif decide (0<r103) then
  (impl_bit N (decide (0<r106))).bind fun r137 =>
  some r137
  else
  (impl_bit N false).bind fun r140 =>
  some r140)
  else
  some 0))))
def spec_l25Clip (N:Nat) (a0:Int):Option Int :=
  some (imx 0 (imn 1000000000 a0))
def spec_SemiringAdd (N:Nat) (a0:Int) (a1:Int) (a2:Int):Option Int :=
  (spec_l25Clip N a1).bind fun r103 =>
  (spec_l25Clip N a2).bind fun r107 =>
  (bif (a0 == 1) then
  (ad r103 r107).bind fun x116 =>
  (spec_l25Clip N x116).bind fun r117 =>
  some r117
  else
  (bif (a0 == 2) then
  some (imn r103 r107)
  else
  (bif (a0 == 3) then
  (ad r103 r107).bind fun x126 =>
  some (imn 1 x126)
  else
  (bif (a0 == 4) then
  some (imx r103 r107)
  else
  some 0))))
def spec_SemiringMul (N:Nat) (a0:Int) (a1:Int) (a2:Int):Option Int :=
  (spec_l25Clip N a1).bind fun r103 =>
  (spec_l25Clip N a2).bind fun r107 =>
  (bif (a0 == 1) then
  (ml r103 r107).bind fun x117 =>
  (spec_l25Clip N x117).bind fun r118 =>
  some r118
  else
  (bif (a0 == 4) then
  (ml r103 r107).bind fun x123 =>
  (spec_l25Clip N x123).bind fun r124 =>
  some r124
  else
  (bif (a0 == 2) then
  (ad r103 r107).bind fun x130 =>
  (spec_l25Clip N x130).bind fun r131 =>
  some r131
  else
  (bif (a0 == 3) then
  (ml (imn 1 r103) (imn 1 r107)).bind fun x137 =>
  some x137
  else
  some 0))))
def impl_within (N:Nat) (a0:Int) (a1:Int) (a2:Int):Option Bool :=
  (bif decide (a1≤a0) then
  some (decide (a0≤a2))
  else
  some false)
def impl_IsValidSemiring (N:Nat) (a0:Int):Option Bool :=
  (impl_within N a0 1 4).bind fun r103 =>
  some r103
def spec_l1In (N:Nat) (a0:Int) (a1:Int) (a2:Int):Option Bool :=
  (bif decide (a1≤a0) then
  some (decide (a0≤a2))
  else
  some false)
def spec_IsValidSemiring (N:Nat) (a0:Int):Option Bool :=
  (spec_l1In N a0 1 4).bind fun r103 =>
  some r103
def impl_SemiringZero (N:Nat) (a0:Int):Option Int :=
  (bif (a0 == 2) then
  some 1000000000
  else
  some 0)
def impl_SemiringOne (N:Nat) (a0:Int):Option Int :=
  (bif (a0 == 1) then
  some 1
  else
  (bif (a0 == 3) then
  some 1
  else
  (bif (a0 == 4) then
  some 1
  else
  some 0)))
def spec_SemiringZero (N:Nat) (a0:Int):Option Int :=
  (bif (a0 == 2) then
  some 1000000000
  else
  some 0)
end Go.Proofs.Ytpobjikdmaifpaa
namespace Go.Proofs.Ytpobjikdmaifpaa
open Go.RowKit
def spec_SemiringOne (N:Nat) (a0:Int):Option Int :=
  (bif (a0 == 2) then
  some 0
  else
  (spec_IsValidSemiring N a0).bind fun r106 =>
  (bif r106 then
  some 1
  else
  some 0))
def laws_FnSemiringAxioms (N:Nat) (a0:List Int):Option Bool :=
  (laws_big N a0).bind fun r104 =>
  (bif r104 then
  some true
  else
  (spec_DrawSemiringAdd N a0).bind fun r110 =>
  (laws_fresh N a0 9).bind fun r114 =>
  (spec_DrawSemiringMul N r114).bind fun r119 =>
  (impl_SemiringAdd N r110.1 r110.2.1 r110.2.2).bind fun r123 =>
  (impl_SemiringMul N r110.1 r110.2.1 r110.2.2).bind fun r127 =>
  (spec_SemiringAdd N r110.1 r110.2.1 r110.2.2).bind fun r132 =>
  (bif (r123 != r132) then
  some false
  else
  (spec_SemiringMul N r110.1 r110.2.1 r110.2.2).bind fun r137 =>
  (bif (r127 != r137) then
  some false
  else
  (impl_IsValidSemiring N r110.1).bind fun r142 =>
  (spec_IsValidSemiring N r110.1).bind fun r145 =>
  (bif (r142 != r145) then
  some false
  else
  (impl_SemiringAdd N r110.1 r110.2.2 r110.2.1).bind fun r152 =>
  (bif (r123 != r152) then
  some false
  else
  (impl_SemiringMul N r110.1 r110.2.2 r110.2.1).bind fun r157 =>
  (bif (r127 != r157) then
  some false
  else
  (impl_SemiringAdd N r110.1 r123 r119.2.1).bind fun r162 =>
  (impl_SemiringAdd N r110.1 r110.2.2 r119.2.1).bind fun r165 =>
  (impl_SemiringAdd N r110.1 r110.2.1 r165).bind fun r168 =>
  (bif (r162 != r168) then
  some false
  else
  (impl_SemiringMul N r110.1 r127 r119.2.1).bind fun r173 =>
  (impl_SemiringMul N r110.1 r110.2.2 r119.2.1).bind fun r176 =>
  (impl_SemiringMul N r110.1 r110.2.1 r176).bind fun r179 =>
  (bif (r173 != r179) then
  some false
  else
  (impl_SemiringMul N r110.1 r119.2.1 r123).bind fun r185 =>
  (impl_SemiringMul N r110.1 r119.2.1 r110.2.1).bind fun r189 =>
  (impl_SemiringMul N r110.1 r119.2.1 r110.2.2).bind fun r192 =>
  (impl_SemiringAdd N r110.1 r189 r192).bind fun r195 =>
  (impl_SemiringZero N r110.1).bind fun r199 =>
  (impl_SemiringOne N r110.1).bind fun r203 =>
  (bif (r185 == r195) then
  (impl_SemiringMul N r110.1 r203 r110.2.1).bind fun r208 =>
  (impl_SemiringAdd N r110.1 r199 r110.2.1).bind fun r211 =>
  (bif (r208 == r211) then
  (impl_SemiringMul N r110.1 r199 r110.2.1).bind fun r215 =>
  (impl_SemiringMul N r110.1 r199 r199).bind fun r218 =>
  (bif (r215 == r218) then
  (spec_SemiringZero N r110.1).bind fun r222 =>
  (bif (r199 == r222) then
  (spec_SemiringOne N r110.1).bind fun r226 =>
  some (r203 == r226)
  else
  some false)
  else
  some false)
  else
  some false)
  else
  some false)))))))))
end Go.Proofs.Ytpobjikdmaifpaa
namespace Go.Proofs.Ytpobjikdmaifpaa
open Go.RowKit

def inR (n lo hi:Int):Bool:=decide (lo≤n)&&decide (n≤hi)
theorem within_eq (N:Nat) (n lo hi:Int):impl_within N n lo hi=some (inR n lo hi):=by
 unfold impl_within inR;cases decide (lo≤n) <;> rfl
theorem l1In_eq (N:Nat) (n lo hi:Int):spec_l1In N n lo hi=some (inR n lo hi):=by
 unfold spec_l1In inR;cases decide (lo≤n) <;> rfl
theorem inR_iff {n lo hi:Int}:inR n lo hi=true↔lo≤n∧n≤hi:=by unfold inR;simp
end Go.Proofs.Ytpobjikdmaifpaa
namespace Go.Proofs.Ytpobjikdmaifpaa
open Go.RowKit

section
variable {N:Nat}
def clp (n:Int):Int:=imx 0 (imn n 1000000000)
theorem clp_bd (n:Int):0≤clp n∧clp n≤1000000000:=by unfold clp imx imn;(repeat' split) <;> omega
theorem clip_impl_eq (n:Int):impl_clip N n=some (clp n):=rfl
theorem clip_spec_eq (n:Int):spec_l25Clip N n=some (clp n):=by unfold spec_l25Clip clp imx imn;congr 1;(repeat' split) <;> omega
def sZero (k:Int):Int:=if k=2 then 1000000000 else 0
def sOne (k:Int):Int:=if k=1∨k=3∨k=4 then 1 else 0
def sAdd (k a b:Int):Int :=
 if k=1 then clp (clp a+clp b) else if k=2 then imn (clp a) (clp b) else if k=3 then (if 0<clp a∨0<clp b then 1 else 0) else if k=4 then imx (clp a) (clp b) else 0
def sMul (k a b:Int):Int :=
 if k=1∨k=4 then clp (clp a*clp b) else if k=2 then clp (clp a+clp b) else if k=3 then (if 0<clp a∧0<clp b then 1 else 0) else 0
theorem SemiringZero_impl_eq (k:Int):impl_SemiringZero N k=some (sZero k):=by
 unfold impl_SemiringZero sZero;rw [beqD];by_cases h:k=2 <;> simp [h]
theorem SemiringZero_spec_eq (k:Int):spec_SemiringZero N k=some (sZero k):=by
 unfold spec_SemiringZero sZero;rw [beqD];by_cases h:k=2 <;> simp [h]
theorem IsValidSemiring_impl_eq (k:Int):impl_IsValidSemiring N k=some (inR k 1 4):=by unfold impl_IsValidSemiring;rw [within_eq,bs]
theorem IsValidSemiring_spec_eq (k:Int):spec_IsValidSemiring N k=some (inR k 1 4):=by unfold spec_IsValidSemiring;rw [l1In_eq,bs]
theorem SemiringOne_impl_eq (k:Int):impl_SemiringOne N k=some (sOne k):=by
 unfold impl_SemiringOne sOne;simp only [beqD]
 by_cases h1:k=1
 ·simp [h1]
 by_cases h3:k=3
 ·simp [h3]
 by_cases h4:k=4
 ·simp [h4]
 simp [h1,h3,h4]
theorem SemiringOne_spec_eq (k:Int):spec_SemiringOne N k=some (sOne k):=by
 unfold spec_SemiringOne sOne;simp only [beqD,IsValidSemiring_spec_eq,bs]
 by_cases h2:k=2
 ·simp [h2]
 rw [decide_eq_false h2,cond_false]
 by_cases h:k=1∨k=3∨k=4
 ·rw [if_pos h,show inR k 1 4=true from inR_iff.2 (by omega)];rfl
 ·rw [if_neg h,show inR k 1 4=false from by rw [← Bool.not_eq_true,inR_iff];omega];rfl
theorem mul_bd {a b:Int} (ha:0≤a∧a≤1000000000) (hb:0≤b∧b≤1000000000):0≤a*b∧a*b≤1000000000000000000 :=
 ⟨Int.mul_nonneg ha.1 hb.1,Int.le_trans (Int.mul_le_mul ha.2 hb.2 hb.1 (by omega)) (by omega)⟩
theorem SemiringMul_impl_eq (k a b:Int):impl_SemiringMul N k a b=some (sMul k a b):=by
 unfold impl_SemiringMul sMul
 have ha:=clp_bd a;have hb:=clp_bd b;have hm:=mul_bd ha hb
 simp only [clip_impl_eq,bs,beqD,ml_ok (by omega:-4611686018427387904≤clp a*clp b) (by omega),ad_ok (by omega:-4611686018427387904≤clp a+clp b) (by omega)]
 by_cases h1:k=1
 ·simp [h1]
 by_cases h4:k=4
 ·simp [h4]
 by_cases h2:k=2
 ·simp [h2]
 by_cases h3:k=3
 ·subst h3
  unfold impl_bit
  by_cases p:0<clp a <;> by_cases q:0<clp b <;> simp [p,q]
 simp [h1,h2,h3,h4]
theorem SemiringMul_spec_eq (k a b:Int):spec_SemiringMul N k a b=some (sMul k a b):=by
 unfold spec_SemiringMul sMul
 have ha:=clp_bd a;have hb:=clp_bd b;have hm:=mul_bd ha hb
 simp only [clip_spec_eq,bs,beqD,ml_ok (by omega:-4611686018427387904≤clp a*clp b) (by omega),ad_ok (by omega:-4611686018427387904≤clp a+clp b) (by omega)]
 by_cases h1:k=1
 ·simp [h1]
 by_cases h4:k=4
 ·simp [h4]
 by_cases h2:k=2
 ·simp [h2]
 by_cases h3:k=3
 ·subst h3
  have e:∀ x:Int,0≤x→imn 1 x=if 0<x then 1 else 0:=fun x hx=>by unfold imn;(repeat' split) <;> omega
  rw [e _ ha.1,e _ hb.1]
  by_cases p:0<clp a <;> by_cases q:0<clp b <;> simp [p,q,ml,rng]
 simp [h1,h2,h3,h4]
theorem SemiringAdd_impl_eq (k a b:Int):impl_SemiringAdd N k a b=some (sAdd k a b):=by
 unfold impl_SemiringAdd sAdd
 have ha:=clp_bd a;have hb:=clp_bd b
 simp only [clip_impl_eq,bs,beqD,ad_ok (by omega:-4611686018427387904≤clp a+clp b) (by omega)]
 by_cases h1:k=1
 ·simp [h1]
 by_cases h4:k=4
 ·simp [h4]
 by_cases h2:k=2
 ·simp [h2]
 by_cases h3:k=3
 ·subst h3
  unfold impl_bit
  by_cases p:0<clp a <;> by_cases q:0<clp b <;> simp [p,q]
 simp [h1,h2,h3,h4]
theorem SemiringAdd_spec_eq (k a b:Int):spec_SemiringAdd N k a b=some (sAdd k a b):=by
 unfold spec_SemiringAdd sAdd
 have ha:=clp_bd a;have hb:=clp_bd b
 simp only [clip_spec_eq,bs,beqD,ad_ok (by omega:-4611686018427387904≤clp a+clp b) (by omega)]
 by_cases h1:k=1
 ·simp [h1]
 by_cases h4:k=4
 ·simp [h4]
 by_cases h2:k=2
 ·simp [h2]
 by_cases h3:k=3
 ·subst h3
  have e:imn 1 (clp a+clp b)=if 0<clp a∨0<clp b then 1 else 0:=by unfold imn;(repeat' split) <;> omega
  simp [e]
 simp [h1,h2,h3,h4]
theorem rm_ok {a b:Int} (h:b≠0):rm a b=some (a.tmod b):=by unfold rm;rw [if_pos h]
theorem tmod_bd {a b:Int} (ha:0≤a) (hb:0<b):0≤a.tmod b∧a.tmod b<b:=⟨Int.tmod_nonneg _ ha,Int.tmod_lt_of_pos _ hb⟩
end
end Go.Proofs.Ytpobjikdmaifpaa
namespace Go.Proofs.Ytpobjikdmaifpaa
open Go.RowKit

theorem clp_of {n:Int} (h:0≤n):clp n=if n≤1000000000 then n else 1000000000:=by
 unfold clp imx imn;(repeat' split) <;> omega
theorem clp_id {n:Int} (h:0≤n∧n≤1000000000):clp n=n:=by rw [clp_of h.1,if_pos h.2]
theorem clp_big {n:Int} (h:1000000000≤n):clp n=1000000000:=by rw [clp_of (by omega)];split <;> omega
theorem clp_mul_l {x c:Int} (hx:0≤x) (hc:0≤c):clp (clp x*c)=clp (x*c):=by
 by_cases h:x≤1000000000
 ·rw [clp_id ⟨hx,h⟩]
 ·rw [clp_big (n:=x) (by omega)]
  by_cases h0:c=0
  ·subst h0;simp
  ·have h1:=Int.mul_le_mul_of_nonneg_left (show (1:Int)≤c by omega) hx
   rw [clp_big (n:=1000000000*c) (by omega),clp_big (by omega)]
theorem clp_mul_r {x c:Int} (hx:0≤x) (hc:0≤c):clp (c*clp x)=clp (c*x):=by rw [Int.mul_comm c,clp_mul_l hx hc,Int.mul_comm]
theorem clp_add {x y:Int} (hx:0≤x) (hy:0≤y):clp (clp x+clp y)=clp (x+y):=by
 rw [clp_of hx,clp_of hy]
 split <;> split
 ·rfl
 all_goals (rw [clp_big (by omega),clp_big (by omega)])
theorem clp_max {c x y:Int} (hc:0≤c) (hx:0≤x) (hy:0≤y):clp (c*imx x y)=imx (clp (c*x)) (clp (c*y)):=by
 have h1:=Int.mul_nonneg hc hx;have h2:=Int.mul_nonneg hc hy
 unfold imx
 by_cases h:x<y
 ·have h3:=Int.mul_le_mul_of_nonneg_left (Int.le_of_lt h) hc
  rw [if_pos h,clp_of h1,clp_of h2]
  (repeat' split) <;> omega
 ·have h3:=Int.mul_le_mul_of_nonneg_left (show y≤x by omega) hc
  rw [if_neg h,clp_of h1,clp_of h2]
  (repeat' split) <;> omega
theorem sAdd_comm (k a b:Int):sAdd k a b=sAdd k b a:=by
 unfold sAdd imn imx
 rw [Int.add_comm (clp a)]
 (repeat' split) <;> omega
theorem sMul_comm (k a b:Int):sMul k a b=sMul k b a:=by
 unfold sMul
 rw [Int.mul_comm (clp a),Int.add_comm (clp a)]
 (repeat' split) <;> omega
theorem sAdd_assoc (k a b c:Int):sAdd k (sAdd k a b) c=sAdd k a (sAdd k b c):=by
 have ha:=clp_bd a;have hb:=clp_bd b;have hc:=clp_bd c
 unfold sAdd
 by_cases h1:k=1
 ·simp only [if_pos h1]
  have e1:=clp_add (x:=clp a+clp b) (y:=clp c) (by omega) (by omega)
  have e2:=clp_add (x:=clp a) (y:=clp b+clp c) (by omega) (by omega)
  have i1:=clp_id (clp_bd (clp a+clp b));have i2:=clp_id (clp_bd (clp b+clp c));have i3:=clp_id hc;have i4:=clp_id ha
  rw [i3] at e1;rw [i4] at e2
  rw [i1,i2,e1,e2,Int.add_assoc]
 ·by_cases h2:k=2
  ·simp only [if_neg h1,if_pos h2]
   have i1:clp (imn (clp a) (clp b))=imn (clp a) (clp b):=clp_id (by unfold imn;split <;> omega)
   have i2:clp (imn (clp b) (clp c))=imn (clp b) (clp c):=clp_id (by unfold imn;split <;> omega)
   rw [i1,i2];unfold imn;(repeat' split) <;> omega
  ·by_cases h3:k=3
   ·simp only [if_neg h1,if_neg h2,if_pos h3]
    have o1:clp 1=1:=by decide
    have o0:clp 0=0:=by decide
    by_cases x:0<clp a <;> by_cases y:0<clp b <;> by_cases z:0<clp c <;> simp [x,y,z,o1,o0]
   ·by_cases h4:k=4
    ·simp only [if_neg h1,if_neg h2,if_neg h3,if_pos h4]
     have i1:clp (imx (clp a) (clp b))=imx (clp a) (clp b):=clp_id (by unfold imx;split <;> omega)
     have i2:clp (imx (clp b) (clp c))=imx (clp b) (clp c):=clp_id (by unfold imx;split <;> omega)
     rw [i1,i2];unfold imx;(repeat' split) <;> omega
    ·simp only [if_neg h1,if_neg h2,if_neg h3,if_neg h4]
theorem sMul_assoc (k a b c:Int):sMul k (sMul k a b) c=sMul k a (sMul k b c):=by
 have ha:=clp_bd a;have hb:=clp_bd b;have hc:=clp_bd c
 have m1:=Int.mul_nonneg ha.1 hb.1;have m2:=Int.mul_nonneg hb.1 hc.1
 unfold sMul
 by_cases h1:k=1∨k=4
 ·simp only [if_pos h1]
  rw [clp_id (clp_bd (clp a*clp b)),clp_id (clp_bd (clp b*clp c)),clp_mul_l m1 hc.1,clp_mul_r m2 ha.1,Int.mul_assoc]
 ·by_cases h2:k=2
  ·simp only [if_neg h1,if_pos h2]
   have e1:=clp_add (x:=clp a+clp b) (y:=clp c) (by omega) (by omega)
   have e2:=clp_add (x:=clp a) (y:=clp b+clp c) (by omega) (by omega)
   rw [clp_id hc] at e1;rw [clp_id ha] at e2
   rw [clp_id (clp_bd (clp a+clp b)),clp_id (clp_bd (clp b+clp c)),e1,e2,Int.add_assoc]
  ·by_cases h3:k=3
   ·simp only [if_neg h1,if_neg h2,if_pos h3]
    have o1:clp 1=1:=by decide
    have o0:clp 0=0:=by decide
    by_cases x:0<clp a <;> by_cases y:0<clp b <;> by_cases z:0<clp c <;> simp [x,y,z,o1,o0]
   ·simp only [if_neg h1,if_neg h2,if_neg h3]
theorem s_dist (k a b c:Int):sMul k c (sAdd k a b)=sAdd k (sMul k c a) (sMul k c b):=by
 have ha:=clp_bd a;have hb:=clp_bd b;have hc:=clp_bd c
 have m1:=Int.mul_nonneg hc.1 ha.1;have m2:=Int.mul_nonneg hc.1 hb.1
 unfold sMul sAdd
 by_cases h1:k=1
 ·simp only [if_pos h1,if_pos (show k=1∨k=4 from .inl h1)]
  rw [clp_id (clp_bd (clp a+clp b)),clp_mul_r (show 0≤clp a+clp b by omega) hc.1,clp_id (clp_bd (clp c*clp a)),clp_id (clp_bd (clp c*clp b)),clp_add m1 m2,Int.mul_add]
 ·by_cases h4:k=4
  ·have n2:¬ k=2:=by omega
   have n3:¬ k=3:=by omega
   simp only [if_neg h1,if_neg n2,if_neg n3,if_pos h4,if_pos (show k=1∨k=4 from .inr h4)]
   have i1:clp (imx (clp a) (clp b))=imx (clp a) (clp b):=clp_id (by unfold imx;split <;> omega)
   rw [i1,clp_max hc.1 ha.1 hb.1,clp_id (clp_bd (clp c*clp a)),clp_id (clp_bd (clp c*clp b))]
  ·have h14:¬ (k=1∨k=4):=by omega
   by_cases h2:k=2
   ·simp only [if_neg h1,if_neg h14,if_pos h2]
    have i1:clp (imn (clp a) (clp b))=imn (clp a) (clp b):=clp_id (by unfold imn;split <;> omega)
    rw [i1,clp_id (clp_bd (clp c+clp a)),clp_id (clp_bd (clp c+clp b)),clp_of (show 0≤clp c+clp a by omega),clp_of (show 0≤clp c+clp b by omega),clp_of (show 0≤clp c+imn (clp a) (clp b) by unfold imn;split <;> omega)]
    unfold imn
    (repeat' split) <;> omega
   ·by_cases h3:k=3
    ·simp only [if_neg h1,if_neg h14,if_neg h2,if_pos h3]
     have o1:clp 1=1:=by decide
     have o0:clp 0=0:=by decide
     by_cases x:0<clp a <;> by_cases y:0<clp b <;> by_cases z:0<clp c <;> simp [x,y,z,o1,o0]
    ·simp only [if_neg h1,if_neg h14,if_neg h2,if_neg h3,if_neg h4]
theorem s_one (k a:Int):sMul k (sOne k) a=sAdd k (sZero k) a:=by
 have ha:=clp_bd a
 have o1:clp 1=1:=by decide
 have o0:clp 0=0:=by decide
 have oB:clp 1000000000=1000000000:=by decide
 have hid:=clp_id ha
 unfold sMul sAdd sOne sZero
 by_cases h1:k=1
 ·subst h1;simp [o1,o0,hid]
 ·by_cases h2:k=2
  ·subst h2
   simp [o0,oB,hid]
   unfold imn;split <;> omega
  ·by_cases h3:k=3
   ·subst h3;simp [o1,o0]
   ·by_cases h4:k=4
    ·subst h4
     simp [o1,o0,hid]
     unfold imx;split <;> omega
    ·simp [h1,h2,h3,h4]
theorem s_zero (k a:Int):sMul k (sZero k) a=sMul k (sZero k) (sZero k):=by
 have ha:=clp_bd a
 have o0:clp 0=0:=by decide
 have oB:clp 1000000000=1000000000:=by decide
 unfold sMul sZero
 by_cases h2:k=2
 ·subst h2
  simp [oB]
  rw [clp_big (by omega)];decide
 ·simp [h2,o0]
end Go.Proofs.Ytpobjikdmaifpaa
namespace Go.Proofs.Ytpobjikdmaifpaa
open Go.RowKit

theorem iand_bd (a:Int) {m:Nat} (hm:m≤4611686018427387904):0≤iand a (m:Int)∧iand a (m:Int)≤(m:Int):=by
 have h1:(BitVec.ofInt IntKind.i64.bits a &&& BitVec.ofInt IntKind.i64.bits (m:Int)).toNat≤m:=by
  rw [BitVec.toNat_and]
  refine Nat.le_trans Nat.and_le_right ?_
  rw [BitVec.toNat_ofInt]
  have:IntKind.i64.bits=64:=rfl
  rw [this]
  omega
 unfold iand
 rw [wrap_rng (rng_of (by omega) (by omega))]
 omega
theorem wrap8_bd (n:Int):0≤IntKind.u8.wrap n∧IntKind.u8.wrap n≤255:=by
 unfold IntKind.wrap
 have h1:IntKind.u8.bits=8:=rfl
 have h2:IntKind.u8.signed=false:=rfl
 simp only [h1,h2,Bool.false_and,Bool.false_eq_true,if_false,false_and]
 omega
theorem sr_some (a:Int) {b:Nat}:∃ v,sr a (b:Int)=some v:=by unfold sr;rw [if_pos (by omega)];exact ⟨_,rfl⟩
abbrev BCode (a:List Int):Prop:=a.length≤1048576∧∀ v∈a,0≤v∧v≤255
def CurOk (a:List Int) (p:Int):Prop:=0≤p∧p≤(a.length:Int)
section
variable {N:Nat}
theorem l1New_L (a:List Int) (ha:BCode a):∀ (m i k:Nat) (h:Int),i+m=4000→m<k→0≤h→h≤1073741823→∃ v,spec_l1New_L1 N k a h (i:Int)=some v:=by
 intro m
 induction m with
 | zero =>
  intro i k h hi hk _ _
  obtain ⟨k,rfl⟩:∃ g,k=g+1:=⟨k-1,by omega⟩
  rw [spec_l1New_L1,decide_eq_false (show ¬ (i:Int)<4000 by omega)]
  cases decide ((i:Int)<(a.length:Int)) <;> exact ⟨_,rfl⟩
 | succ m ih =>
  intro i k h hi hk h0 h1
  obtain ⟨k,rfl⟩:∃ g,k=g+1:=⟨k-1,by omega⟩
  rw [spec_l1New_L1]
  by_cases hl:i<a.length
  ·have hb:=ha.2 _ (List.getElem_mem hl)
   rw [dlt hl,cond_true,decide_eq_true (show (i:Int)<4000 by omega),cond_true,ml_ok (by omega) (by omega),bs,ix_nat hl,bs,wrap_rng (rng_of (by omega) (by omega)),ad_ok (by omega) (by omega),bs,ad_ok (by omega) (by omega),bs,ad1 (by omega),bs]
   have hi':=iand_bd (h*131+a[i]+7) (m:=1073741823) (by decide)
   exact ih (i+1) k _ (by omega) (by omega) hi'.1 hi'.2
  ·rw [dge hl,cond_false];exact ⟨_,rfl⟩
theorem l1New_some (hN:1073741824≤N) {a:List Int} (ha:BCode a):∃ h,spec_l1New N a=some (0,h):=by
 have hl:=ha.1
 obtain ⟨v,hv⟩:=l1New_L (N:=N) a ha 4000 0 N (10101+(a.length:Int)) (by omega) (by omega) (by omega) (by omega)
 unfold spec_l1New
 rw [ad_ok (by omega) (by omega),bs]
 have hv':spec_l1New_L1 N N a (10101+(a.length:Int)) 0=some v:=hv
 rw [hv',bs]
 exact ⟨_,rfl⟩
theorem l1Byte_some {a:List Int} (ha:BCode a) {p h:Int} (hc:CurOk a p):∃ x q g,spec_l1Byte N a p h=some (x,q,g)∧0≤x∧x≤255∧CurOk a q:=by
 have hl:=ha.1
 have h0:=hc.1;have h1:=hc.2
 unfold spec_l1Byte
 obtain ⟨x1,e1⟩:=sr_some (IntKind.i64.wrap ((IntKind.i64.wrap (h*6364136223846793005))+1442695040888963407)) (b:=33)
 obtain ⟨x2,e2⟩:=sr_some (IntKind.i64.wrap ((IntKind.i64.wrap (h*6364136223846793005))+1442695040888963407)) (b:=45)
 have e1':sr (IntKind.i64.wrap ((IntKind.i64.wrap (h*6364136223846793005))+1442695040888963407)) 33=some x1:=e1
 have e2':sr (IntKind.i64.wrap ((IntKind.i64.wrap (h*6364136223846793005))+1442695040888963407)) 45=some x2:=e2
 rw [e1',bs,e2',bs]
 by_cases hp:p<(a.length:Int)
 ·rw [decide_eq_true hp,cond_true,ix_int h0 hp,bs]
  have hb:=iand_bd (IntKind.i64.wrap ((iand (ixor x1 x2) 255)+(IntKind.i64.wrap a[p.toNat]))) (m:=255) (by decide)
  refine ⟨_,_,_,rfl,hb.1,hb.2,?_⟩
  rw [wrap_rng (rng_of (by omega) (by omega))]
  exact ⟨by omega,by omega⟩
 ·rw [decide_eq_false hp,cond_false]
  have hb:=iand_bd (ixor x1 x2) (m:=255) (by decide)
  exact ⟨_,_,_,rfl,hb.1,hb.2,hc⟩
theorem l1Below_some {a:List Int} (ha:BCode a) {p h n:Int} (hc:CurOk a p):∃ x q g,spec_l1Below N a p h n=some (x,q,g)∧0≤x∧(0<n→x<n)∧(n≤0→x=0)∧CurOk a q:=by
 unfold spec_l1Below
 by_cases h0:n≤0
 ·rw [decide_eq_true h0,cond_true]
  exact ⟨_,_,_,rfl,Int.le_refl _,fun h=>by omega,fun _=>rfl,hc⟩
 ·rw [decide_eq_false h0,cond_false]
  by_cases h1:n≤256
  ·obtain ⟨x,q,g,e,b0,b1,hc'⟩:=l1Byte_some (N:=N) ha (h:=h) hc
   rw [decide_eq_true h1,cond_true,e,bs,rm_ok (by omega),bs]
   have:=tmod_bd b0 (show 0<n by omega)
   exact ⟨_,_,_,rfl,this.1,fun _=>this.2,fun h=>by omega,hc'⟩
  ·rw [decide_eq_false h1,cond_false]
   obtain ⟨x,q,g,e,b0,b1,hc1⟩:=l1Byte_some (N:=N) ha (h:=h) hc
   rw [e,bs]
   obtain ⟨y,q2,g2,e2,c0,c1,hc2⟩:=l1Byte_some (N:=N) ha (h:=g) hc1
   dsimp only
   rw [e2,bs]
   obtain ⟨z,q3,g3,e3,d0,d1,hc3⟩:=l1Byte_some (N:=N) ha (h:=g2) hc2
   dsimp only
   rw [e3,bs]
   obtain ⟨w,q4,g4,e4,f0,f1,hc4⟩:=l1Byte_some (N:=N) ha (h:=g3) hc3
   dsimp only
   rw [e4,bs]
   dsimp only
   rw [ml_ok (by omega) (by omega),bs,ml_ok (by omega) (by omega),bs,ad_ok (by omega) (by omega),bs,ml_ok (by omega) (by omega),bs,ad_ok (by omega) (by omega),bs,ad_ok (by omega) (by omega),bs,rm_ok (by omega),bs]
   have:=tmod_bd (show 0≤x*16777216+y*65536+z*256+w by omega) (show 0<n by omega)
   exact ⟨_,_,_,rfl,this.1,fun _=>this.2,fun h=>by omega,hc4⟩
theorem l1PickInt_some {a l:List Int} (ha:BCode a) {p h:Int} (hc:CurOk a p) (hl:0<l.length):∃ x q g,spec_l1PickInt N a p h l=some (x,q,g)∧x∈l∧CurOk a q:=by
 obtain ⟨x,q,g,e,b0,b1,_,hc'⟩:=l1Below_some (N:=N) ha (h:=h) (n:=(l.length:Int)) hc
 have b2:=b1 (by omega)
 unfold spec_l1PickInt
 rw [e,bs]
 dsimp only
 rw [ix_int b0 b2,bs]
 exact ⟨_,_,_,rfl,List.getElem_mem _,hc'⟩
theorem DrawSemiringAdd_some (hN:1073741824≤N) {a:List Int} (ha:BCode a):∃ v,spec_DrawSemiringAdd N a=some v:=by
 obtain ⟨h,e⟩:=l1New_some hN ha
 unfold spec_DrawSemiringAdd
 rw [e,bs]
 have hc:CurOk a 0:=⟨Int.le_refl _,by omega⟩
 obtain ⟨x,q,g,e1,_,hc1⟩:=l1PickInt_some (N:=N) ha (h:=h) hc (l:=[1,2,3,4,1,2,3,4,0,5]) (by decide)
 obtain ⟨y,q2,g2,e2,_,hc2⟩:=l1PickInt_some (N:=N) ha (h:=g) hc1 (l:=[0,1,2,7,40,1000000000,999999999,(-1),40000]) (by decide)
 obtain ⟨z,q3,g3,e3,_,hc3⟩:=l1PickInt_some (N:=N) ha (h:=g2) hc2 (l:=[0,1,2,7,40,1000000000,999999999,(-1),40000]) (by decide)
 have f1:spec_l25Kind N a 0 h=some (x,q,g):=by unfold spec_l25Kind;rw [e1,bs]
 have f2:spec_l25Num N a q g=some (y,q2,g2):=by unfold spec_l25Num;rw [e2,bs]
 have f3:spec_l25Num N a q2 g2=some (z,q3,g3):=by unfold spec_l25Num;rw [e3,bs]
 dsimp only
 rw [f1,bs]
 dsimp only
 rw [f2,bs]
 dsimp only
 rw [f3,bs]
 exact ⟨_,rfl⟩
theorem fresh_some (hN:1073741824≤N) {a:List Int} (ha:BCode a) {s:Int} (hs:0≤s∧s≤1000):∃ b,laws_fresh N a s=some b∧BCode b:=by
 have key:∀ (m i k:Nat) (b:List Int),i+m=600→m<k→b.length=i+1→(∀ v∈b,0≤v∧v≤255)→∃ b' j,laws_fresh_L1 N k a s b (i:Int)=some (b',j)∧b'.length≤601∧∀ v∈b',0≤v∧v≤255:=by
  intro m
  induction m with
  | zero =>
   intro i k b hi hk hb hv
   obtain ⟨k,rfl⟩:∃ g,k=g+1:=⟨k-1,by omega⟩
   rw [laws_fresh_L1,decide_eq_false (show ¬ (i:Int)<600 by omega)]
   cases decide ((i:Int)<(a.length:Int)) <;> exact ⟨_,_,rfl,by omega,hv⟩
  | succ m ih =>
   intro i k b hi hk hb hv
   obtain ⟨k,rfl⟩:∃ g,k=g+1:=⟨k-1,by omega⟩
   rw [laws_fresh_L1]
   by_cases hl:i<a.length
   ·have hx:=ha.2 _ (List.getElem_mem hl)
    have ht:=tmod_bd (show 0≤(i:Int) by omega) (show (0:Int)<7 by decide)
    have hmul:0≤s*((i:Int).tmod 7+1)∧s*((i:Int).tmod 7+1)≤1000*7:=⟨Int.mul_nonneg hs.1 (by omega),Int.mul_le_mul hs.2 (by omega) (by omega) (by omega)⟩
    rw [dlt hl,cond_true,decide_eq_true (show (i:Int)<600 by omega),cond_true,ix_nat hl,bs,wrap_rng (rng_of (by omega) (by omega)),ml_ok (by omega) (by omega),bs,rm_ok (by decide),bs,ad_ok (by omega) (by omega),bs,ml_ok (by omega) (by omega),bs,ad_ok (by omega) (by omega),bs,apd_ok' (by decide) (by simp;omega),bs,ad1 (by omega),bs]
    refine ih (i+1) k _ (by omega) (by omega) (by simp;omega) fun v hv'=>?_
    rcases List.mem_append.1 hv' with h | h
    ·exact hv v h
    ·rw [List.mem_singleton] at h;rw [h];exact wrap8_bd _
   ·rw [dge hl,cond_false];exact ⟨_,_,rfl,by omega,hv⟩
 obtain ⟨b,j,e,h1,h2⟩:=key 600 0 N [IntKind.u8.wrap s] (by omega) (by omega) rfl (fun v hv=>by rw [List.mem_singleton] at hv;rw [hv];exact wrap8_bd _)
 have e':laws_fresh_L1 N N a s [IntKind.u8.wrap s] 0=some (b,j):=e
 unfold laws_fresh
 rw [e',bs]
 exact ⟨b,rfl,by omega,h2⟩
end
end Go.Proofs.Ytpobjikdmaifpaa
namespace Go.Proofs.Ytpobjikdmaifpaa
open Go.RowKit
theorem law_FnSemiringAxioms {N:Nat} (hM:1073742848≤N) {x0:List Int} (_:(AllL (fun _=>True) 9223372036854775807) x0) (g0:∀ v∈x0,0≤v∧v≤255):laws_FnSemiringAxioms N x0=some true:=by
 have hN:1073741824≤N:=by omega
 unfold laws_FnSemiringAxioms laws_big
 rw [bs]
 by_cases hb:(1048576:Int)<(x0.length:Int)
 ·rw [decide_eq_true hb];rfl
 ·rw [decide_eq_false hb,cond_false]
  have hc:BCode x0:=⟨by omega,fun v hv=>g0 v hv⟩
  obtain ⟨⟨k,a,b⟩,e1⟩:=DrawSemiringAdd_some hN hc
  obtain ⟨y,ef,hy⟩:=fresh_some hN hc (s:=9) (by omega)
  obtain ⟨⟨k2,c,d⟩,e2⟩:=DrawSemiringAdd_some hN hy
  have e3:spec_DrawSemiringMul N y=some (k2,c,d):=by unfold spec_DrawSemiringMul;rw [e2,bs]
  have c1:sAdd k b a=sAdd k a b:=sAdd_comm k b a
  have c2:sMul k b a=sMul k a b:=sMul_comm k b a
  have c3:=sAdd_assoc k a b c
  have c4:=sMul_assoc k a b c
  have c5:=s_dist k a b c
  have c6:=s_one k a
  have c7:=s_zero k a
  rw [e1,bs,ef,bs,e3,bs]
  simp only [SemiringAdd_impl_eq,SemiringMul_impl_eq,SemiringAdd_spec_eq,SemiringMul_spec_eq,IsValidSemiring_impl_eq,IsValidSemiring_spec_eq,SemiringZero_impl_eq,SemiringOne_impl_eq,SemiringZero_spec_eq,SemiringOne_spec_eq,bs,bne_self_eq_false,cond_false,c1,c2,c3,c4,c5,c6,c7,beq_self_eq_true,cond_true]
end Go.Proofs.Ytpobjikdmaifpaa
namespace Go.Proofs.Ytpobjikdmaifpaa
open Go.RowKit
section
variable {P:Program} {n:Nat} {Q Q':Exit→Env→World→Prop} {K:Env→World→Prop} {KQ:Env→Prop} {e:Env} {w w0:World} {c y:Code} {x:Exit} {ops:Array Oper} {rest:List Oper}
variable {d:Nat} {op:Op} {ty:TypeId} {pos:String} {af:Array Edge} {o z1 z2 z3:Operand} {v:Value} {q1:Oper}
theorem dt {p:Prop} [Decidable p] (h:decide p=true):p:=of_decide_eq_true h
theorem sg (h:∀ Q':Exit→Env→World→Prop,(∀ x e w,thn (fun e w=>CW P n y Q e w) Q x e w→Q' x e w)→CW P n c Q' e w):CW P n (.seq c y) Q e w:=cw_seq (cw_gen h)
theorem sR {id:Nat} {l:List Oper} (h:∀ Q':Exit→Env→World→Prop,(∀ x e w,thn (fun e w=>CW P n y Q e w) Q x e w→Q' x e w)→EL P n l.toArray (fun e w=>Q' .normal e w) l e w):CW P n (.seq (.region id l.toArray false) y) Q e w:=cw_seq (cw_gen fun Q' q=>cw_reg (h Q' q))
theorem gn (h:∀ Q':Exit→Env→World→Prop,(∀ x e w,Q x e w→Q' x e w)→CW P n c Q' e w):CW P n c Q e w:=cw_gen h
theorem bg {i:Nat} (h:∀ Q':Exit→Env→World→Prop,(∀ x e w,inb i Q x e w→Q' x e w)→CW P n c Q' e w):CW P n (.block i c) Q e w:=cw_block (cw_gen h)
theorem tn (h:∀ x e w,thn K Q x e w→Q' x e w) (k:K e w):Q' .normal e w:=h _ _ _ k
theorem tr (h:∀ x e w,thn K Q x e w→Q' x e w) (k:Q .ret e w):Q' .ret e w:=h _ _ _ k
theorem tx {i:Nat} (h:∀ x e w,thn K Q x e w→Q' x e w) (k:Q (.exit i) e w):Q' (.exit i) e w:=h _ _ _ k
theorem bn {i:Nat} (h:∀ x e w,inb i Q x e w→Q' x e w) (k:Q .normal e w):Q' .normal e w:=h _ _ _ k
theorem br {i:Nat} (h:∀ x e w,inb i Q x e w→Q' x e w) (k:Q .ret e w):Q' .ret e w:=h _ _ _ k
theorem bS {i:Nat} (h:∀ x e w,inb i Q x e w→Q' x e w) (k:Q .normal e w):Q' (.exit i) e w:=h _ _ _ (inb_s k)
theorem en (h:∀ x e w,thn K Q x e w→Q' x e w) (k:K e w):EL P n ops (fun e w=>Q' .normal e w) [] e w:=el_nil (h _ _ _ k)
theorem sn (h:∀ x e w,thn K Q x e w→Q' x e w) (k:K e w):CW P n .skip Q' e w:=cw_skip (h _ _ _ k)
theorem pa (v:Value) (hK:EL P n ops K rest (upd e d v) w) (hx:ev e o=v:=by exact rfl) (hd:d<n:=by decide):EL P n ops K (⟨some d,.assign o,ty,pos,af,none⟩ :: rest) e w:=el_pv (pv_assign hx) hd hK
theorem pm (v:Value) (hK:EL P n ops K rest (upd e d v) w) (hx:ev e o=v:=by exact rfl) (hd:d<n:=by decide):EL P n ops K (⟨some d,.move o,ty,pos,af,none⟩ :: rest) e w:=el_pv (pv_move hx) hd hK
theorem pM (v:Value) (hx:ev e o=v) (hK:EL P n ops K rest (upd e d v) w) (hd:d<n:=by decide):EL P n ops K (⟨some d,.move o,ty,pos,af,none⟩ :: rest) e w:=el_pv (pv_move hx) hd hK
theorem pe (v:Value) (hp:PV P ⟨some d,op,ty,pos,af,none⟩ e w v) (hK:EL P n ops K rest (upd e d v) w) (hd:d<n:=by decide):EL P n ops K (⟨some d,op,ty,pos,af,none⟩ :: rest) e w:=el_pv hp hd hK
theorem qe (v:Value) (hp:PV P ⟨some d,op,ty,pos,af,none⟩ e w v) (hK:QL P n ops w KQ rest (upd e d v)) (hd:d<n:=by decide):QL P n ops w KQ (⟨some d,op,ty,pos,af,none⟩ :: rest) e:=ql_pv hp hd hK
theorem qm (v:Value) (hK:QL P n ops w KQ rest (upd e d v)) (hx:ev e o=v:=by exact rfl) (hd:d<n:=by decide):QL P n ops w KQ (⟨some d,.move o,ty,pos,af,none⟩ :: rest) e:=ql_pv (pv_move hx) hd hK
theorem eo {j:Nat} {b b' c:Bool} (hc:c=b) (hK:EL P n ops K rest (upd e d undef) w) (h:yld ops e j=some c:=by exact rfl) (hb:(b == b')=false:=by exact rfl) (hd:d<n:=by decide):EL P n ops K (⟨some d,op,ty,pos,af,some (j,b')⟩ :: rest) e w:=el_off h hc hb hd hK
theorem ei {j:Nat} {b c:Bool} {dst:Option Nat} (hc:c=b) (hK:EL P n ops K (⟨dst,op,ty,pos,af,none⟩ :: rest) e w) (h:yld ops e j=some c:=by exact rfl):EL P n ops K (⟨dst,op,ty,pos,af,some (j,b)⟩ :: rest) e w:=el_on h hc hK
theorem ct {b:Bool} (hb:b=true) (h:CW P n c Q e w) (hc:ev e o=.bool b:=by exact rfl):CW P n (.cond o c y) Q e w:=cw_cond_t hc hb h
theorem cf {b:Bool} (hb:b=false) (h:CW P n y Q e w) (hc:ev e o=.bool b:=by exact rfl):CW P n (.cond o c y) Q e w:=cw_cond_f hc hb h
theorem rB {a b:Bool} {Γ:List Asn} (h:some a=some b) (hS:Sat w0 w Γ):Ending.returned (.bool a)=.returned (.bool b)∧Ext w0 w:=⟨by rw [Option.some.inj h],hS.below⟩
theorem rI {a b:Int} {Γ:List Asn} (h:some a=some b) (hS:Sat w0 w Γ):Ending.returned (.int .i64 a)=.returned (.int .i64 b)∧Ext w0 w:=⟨by rw [Option.some.inj h],hS.below⟩
abbrev i_ (x:Int):Value:=.int .i64 x
abbrev n_:Value:=.slice none 0 0
theorem ec0 {f:FuncId} {args:Array Operand} {tys:Array TypeId} {vals:Array Value} {Γ:List Asn} (hg:Goes P f) (hc:Calls P f vals w fun x w'=>x=.returned v∧Ext w w') (hv:(args.toList.map (ev e)).toArray=vals) (S:Sat w0 w Γ)
  (hK:∀ w',Ext w w'→Sat w0 w' Γ→EL P n ops K rest (upd e d v) w') (hd:d<n:=by decide):EL P n ops K (⟨some d,.call ⟨.value (.func f),args,tys⟩,ty,pos,af,none⟩ :: rest) e w :=
 el_call hg hc hv hd (by rintro _ w' ⟨rfl,hx⟩;exact ⟨_,rfl,hK w' hx (S.ext hx)⟩)
theorem ec1 {f:FuncId} {args:Array Operand} {tys:Array TypeId} {vals:Array Value} {Γ:List Asn} {G:Value→Value} {A:Value→Asn} (hg:Goes P f) (hc:Calls P f vals w fun x w'=>∃ v,x=.returned (G v)∧Sat w w' [A v]) (hv:(args.toList.map (ev e)).toArray=vals) (S:Sat w0 w Γ)
  (hK:∀ w' v,Ext w w'→Sat w0 w' (A v :: Γ)→EL P n ops K rest (upd e d (G v)) w') (hd:d<n:=by decide):EL P n ops K (⟨some d,.call ⟨.value (.func f),args,tys⟩,ty,pos,af,none⟩ :: rest) e w :=
 el_call hg hc hv hd (by rintro _ w' ⟨v,rfl,S'⟩;exact ⟨_,rfl,hK w' v S'.below (S.call1 S')⟩)
theorem ca {α β:Type} {f:α→β} {l:List α} {m:List β} (h:l.map f=m):(l.map f).toArray=m.toArray:=congrArg List.toArray h
end
end Go.Proofs.Ytpobjikdmaifpaa
namespace Go.Proofs.Ytpobjikdmaifpaa
open Go.RowKit
set_option maxRecDepth 100000
set_option maxHeartbeats 4000000 in
theorem laws_big_ok {w0:World} {u0:Value} {a0:List Int} (ha0:(sliceR u8R 5).rd w0 [u0] a0) {N:Nat} {r:Bool} (F:laws_big N a0=some r): Calls Try.prog 4 #[u0] w0 fun e w'=>e=.returned (.bool r)∧Ext w0 w' := by
 unfold laws_big at F;refine calls_E Try.func4 rfl rfl (dt rfl) ?_;have S:=Sat.start w0;refine sR fun _ q101=>?_;refine pa (.bool false) (en q101 ?_);refine sR fun _ q102=>?_;refine pm u0 (pe (i_ (a0.length:Int)) (pv_len rfl ha0) (pe (.bool (decide (1048576 < (a0.length:Int)))) (pv_gtr rfl rfl) (pa (.bool (decide (1048576 < (a0.length:Int)))) (en q102 (cw_ret (fin1 rfl rfl ?_))))));exact rB F S
set_option maxHeartbeats 4000000 in
theorem spec_l1New_ok {w0:World} {u0:Value} {a0:List Int} (ha0:(sliceR u8R 5).rd w0 [u0] a0) {N:Nat} {r:Int × Int} (F:spec_l1New N a0=some r): Calls Try.prog 18 #[u0] w0 fun e w'=>∃ (q0:Nat),e=.returned (.pointer (some ⟨q0,0,none⟩))∧Sat w0 w' [Box q0 36 [u0,i_ r.1,i_ r.2]] := by
 unfold spec_l1New at F;refine calls_E Try.func18 rfl rfl (dt rfl) ?_;have S:=Sat.start w0;refine sR fun _ q101=>?_;refine pa (.pointer none) (en q101 ?_);refine sR fun _ q102=>?_;refine pm u0 (pe (i_ (a0.length:Int)) (pv_len rfl ha0) ?_);obtain ⟨x103,hx103,F⟩:=ob F;refine pe (i_ x103) (pv_add rfl rfl hx103) (pa (i_ x103) (en q102 ?_));refine sg fun _ q104=>?_;refine sR fun _ q105=>?_;refine pa (i_ 0) (en q105 ?_);refine bg fun _ q106=>?_;obtain ⟨s107,hL,hK108⟩:=ob F;refine cw_loopS (fun k e w=>∃ (x109:Int),∃ (x110:Int),e 0=u0∧e 3=i_ x109∧e 4=i_ x110∧Sat w0 w []∧spec_l1New_L1 N k a0 x109 x110=some s107) N ?_ ?_ ?_
 ·exact ⟨x103,0,rfl,rfl,rfl,S,hL⟩
 ·rintro e w ⟨_,_,_,_,_,_,hz⟩; exact nomatch (show none=some _ from hz)
 rintro k e115 w114 ⟨x109,x110,he111,he112,he113,S,F⟩;refine gn fun _ q116=>?_;refine sg fun _ q117=>?_;refine sR fun _ q118=>?_;refine pM (i_ x110) he113 (pM u0 he111 (pe (i_ (a0.length:Int)) (pv_len rfl ha0) (pe (.bool (decide (x110 < (a0.length:Int)))) (pv_lss rfl rfl) (pm (.bool (decide (x110 < (a0.length:Int)))) ?_))));rcases oif F with ⟨hb119,F⟩|⟨hb119,F⟩
 ·refine ei hb119 (pM (i_ x110) he113 (ei hb119 (pe (.bool (decide (x110 < 4000))) (pv_lss rfl rfl) (pe (.bool (decide (x110 < 4000))) (pv_pick_t rfl hb119 rfl) (en q118 ?_)))));rcases oif F with ⟨hb120,F⟩|⟨hb120,F⟩
  ·refine ct hb120 (sn q117 ?_);refine sg fun _ q121=>?_;refine bg fun _ q122=>?_;refine cw_reg (pM (i_ x109) he112 ?_);obtain ⟨x123,hx123,F⟩:=ob F;refine pe (i_ x123) (pv_mul rfl rfl hx123) (pM u0 he111 (pM (i_ x110) he113 ?_));obtain ⟨x124,hx124,F⟩:=ob F;refine el_index (wA:=w0) rfl ha0 rfl (dt rfl) rfl hx124 (dt rfl) ?_;intro b125 of126 c127 hr128 hm129;obtain rfl:=hr128;refine pe (.int .u8 x124) (pv_loadc rfl ((cells_up S.below hm129) 0 _ rfl)) (pe (i_ (IntKind.i64.wrap x124)) (pv_convI Try.underlying5 Try.underlying3 rfl) ?_);obtain ⟨x130,hx130,F⟩:=ob F;refine pe (i_ x130) (pv_add rfl rfl hx130) ?_;obtain ⟨x131,hx131,F⟩:=ob F;refine pe (i_ x131) (pv_add rfl rfl hx131) (pe (i_ (iand x131 1073741823)) (pv_and rfl rfl) (pa (i_ (iand x131 1073741823)) (el_nil (bn q122 (tn q121 (cw_reg (pM (i_ x110) he113 ?_)))))));obtain ⟨x132,hx132,F⟩:=ob F;refine pe (i_ x132) (pv_add rfl rfl hx132) (pa (i_ x132) (en q116 ?_));replace S:=S.keep 0;exact ⟨(iand x131 1073741823),x132,he111,rfl,rfl,S,F⟩
  refine cf hb120 (cw_exit (tx q117 (tx q116 ?_)));replace F:=exB F hK108;refine bS q106 (tn q104 ?_);refine sR fun _ q133=>?_;refine pM u0 he111 (pM (i_ x109) he112 (pe (.agg #[u0,i_ 0,i_ x109]) (pv_build [(0,[u0]),(2,[i_ x109])] [u0,i_ 0,i_ x109] (partc (cells_of rfl (oc ha0)) (partc rfl rfl)) rfl) ?_));refine el_box [u0,i_ 0,i_ x109] rfl S (dt rfl) ?_;intro w134 b135 S hx136;refine pa (.pointer (some ⟨b135,0,none⟩)) (en q133 (cw_ret (fin1 rfl rfl ?_)));have hr:=Option.some.inj F;exact ⟨b135,congrArg (fun (r:Int × Int)=>Ending.returned (.pointer (some ⟨b135,0,none⟩))) hr,Eq.mp (congrArg (fun (r:Int × Int)=>Sat w0 w134 [Box b135 36 [u0,i_ r.1,i_ r.2]]) hr) (S.keep 1)⟩
 refine eo hb119 (eo hb119 (pe (.bool false) (pv_pick_f rfl hb119 rfl) (en q118 (cf rfl (cw_exit (tx q117 (tx q116 ?_)))))));replace F:=exB F hK108;refine bS q106 (tn q104 ?_);refine sR fun _ q138=>?_;refine pM u0 he111 (pM (i_ x109) he112 (pe (.agg #[u0,i_ 0,i_ x109]) (pv_build [(0,[u0]),(2,[i_ x109])] [u0,i_ 0,i_ x109] (partc (cells_of rfl (oc ha0)) (partc rfl rfl)) rfl) ?_));refine el_box [u0,i_ 0,i_ x109] rfl S (dt rfl) ?_;intro w139 b140 S hx141;refine pa (.pointer (some ⟨b140,0,none⟩)) (en q138 (cw_ret (fin1 rfl rfl ?_)));have hr:=Option.some.inj F;exact ⟨b140,congrArg (fun (r:Int × Int)=>Ending.returned (.pointer (some ⟨b140,0,none⟩))) hr,Eq.mp (congrArg (fun (r:Int × Int)=>Sat w0 w139 [Box b140 36 [u0,i_ r.1,i_ r.2]]) hr) (S.keep 1)⟩
set_option maxHeartbeats 4000000 in
theorem spec_l1Byte_ok {w0:World} {w00:World} {G0:List Asn} {b0:Nat} {u0:Value} {a0:List Int} {a1:Int} {a2:Int} (ha0:(sliceR u8R 5).rd w00 [u0] a0) (S:Sat w00 w0 (Box b0 36 [u0,i_ a1,i_ a2] :: G0)) {N:Nat} {r:Int × Int × Int} (F:spec_l1Byte N a0 a1 a2=some r): Calls Try.prog 28 #[.pointer (some ⟨b0,0,none⟩)] w0 fun e w'=>e=.returned (i_ r.1)∧Sat w00 w' (Box b0 36 [u0,i_ r.2.1,i_ r.2.2] :: G0) := by
 unfold spec_l1Byte at F;refine calls_E Try.func28 rfl rfl (dt rfl) ?_;refine sR fun _ q101=>?_;refine pa (i_ 0) (en q101 ?_);refine sR fun _ q102=>?_;refine pm (.pointer (some ⟨b0,0,none⟩)) (pm (.pointer (some ⟨b0,0,none⟩)) (pe (.pointer (some ⟨b0,0,none⟩)) (pv_nilCheck rfl) (pe (.pointer (some ⟨b0,0 + 2,none⟩)) (pv_fieldAddr rfl) (pe (i_ a2) (pv_loadc rfl ((S.boxAt 0 rfl) 2 _ rfl)) (pe (i_ (IntKind.i64.wrap (a2 * 6364136223846793005))) (pv_mulW rfl rfl) (pe (i_ (IntKind.i64.wrap ((IntKind.i64.wrap (a2 * 6364136223846793005)) + 1442695040888963407))) (pv_addW rfl rfl) (pe (.pointer (some ⟨b0,0,none⟩)) (pv_nilCheck rfl) (pe (.pointer (some ⟨b0,0 + 2,none⟩)) (pv_fieldAddr rfl) ?_))))))));refine el_storev (S.top 0 rfl) rfl [i_ (IntKind.i64.wrap ((IntKind.i64.wrap (a2 * 6364136223846793005)) + 1442695040888963407))] rfl rfl (dt rfl) (all_cons rfl rfl) ?_;intro w103 S;replace S:Sat w00 w103 (Box b0 36 [u0,i_ a1,i_ (IntKind.i64.wrap ((IntKind.i64.wrap (a2 * 6364136223846793005)) + 1442695040888963407))] :: G0):=S;refine en q102 ?_;refine sg fun _ q104=>?_;refine cw_regq (by kernel_rfl) (by kernel_rfl) ?_;refine qm (.pointer (some ⟨b0,0,none⟩)) (qe (.pointer (some ⟨b0,0,none⟩)) (pv_nilCheck rfl) (qe (.pointer (some ⟨b0,0 + 2,none⟩)) (pv_fieldAddr rfl) (qe (i_ (IntKind.i64.wrap ((IntKind.i64.wrap (a2 * 6364136223846793005)) + 1442695040888963407))) (pv_loadc rfl ((S.boxAt 0 rfl) 2 _ rfl)) ?_)));obtain ⟨x105,hx105,F⟩:=ob F;refine qe (i_ x105) (pv_shr rfl rfl hx105) (qm (.pointer (some ⟨b0,0,none⟩)) (qe (.pointer (some ⟨b0,0,none⟩)) (pv_nilCheck rfl) (qe (.pointer (some ⟨b0,0 + 2,none⟩)) (pv_fieldAddr rfl) (qe (i_ (IntKind.i64.wrap ((IntKind.i64.wrap (a2 * 6364136223846793005)) + 1442695040888963407))) (pv_loadc rfl ((S.boxAt 0 rfl) 2 _ rfl)) ?_))));obtain ⟨x106,hx106,F⟩:=ob F;refine qe (i_ x106) (pv_shr rfl rfl hx106) (qe (i_ (ixor x105 x106)) (pv_xor rfl rfl) (qe (i_ (iand (ixor x105 x106) 255)) (pv_and rfl rfl) (qe (i_ (iand (ixor x105 x106) 255)) (pv_assign rfl) (ql_nil ?_))));intro w107 hx108;replace S:=S.ext hx108;refine tn q104 ?_;refine sg fun _ q109=>?_;refine sg fun _ q110=>?_;refine cw_regq (by kernel_rfl) (by kernel_rfl) ?_;refine qm (.pointer (some ⟨b0,0,none⟩)) (qe (.pointer (some ⟨b0,0,none⟩)) (pv_nilCheck rfl) (qe (.pointer (some ⟨b0,0 + 1,none⟩)) (pv_fieldAddr rfl) (qe (i_ a1) (pv_loadc rfl ((S.boxAt 0 rfl) 1 _ rfl)) (qm (.pointer (some ⟨b0,0,none⟩)) (qe (.pointer (some ⟨b0,0,none⟩)) (pv_nilCheck rfl) (qe (.pointer (some ⟨b0,0 + 0,none⟩)) (pv_fieldAddr rfl) (qe u0 (pv_loadc rfl ((S.boxAt 0 rfl) 0 _ rfl)) (qe (i_ (a0.length:Int)) (pv_len rfl ha0) (qe (.bool (decide (a1 < (a0.length:Int)))) (pv_lss rfl rfl) (ql_nil ?_))))))))));intro w111 hx112;replace S:=S.ext hx112;refine tn q110 ?_;rcases oif F with ⟨hb113,F⟩|⟨hb113,F⟩
 ·refine ct hb113 ?_;refine sg fun _ q114=>?_;refine cw_regq (by kernel_rfl) (by kernel_rfl) ?_;refine qm (i_ (iand (ixor x105 x106) 255)) (qm (.pointer (some ⟨b0,0,none⟩)) (qe (.pointer (some ⟨b0,0,none⟩)) (pv_nilCheck rfl) (qe (.pointer (some ⟨b0,0 + 0,none⟩)) (pv_fieldAddr rfl) (qe u0 (pv_loadc rfl ((S.boxAt 0 rfl) 0 _ rfl)) (qm (.pointer (some ⟨b0,0,none⟩)) (qe (.pointer (some ⟨b0,0,none⟩)) (pv_nilCheck rfl) (qe (.pointer (some ⟨b0,0 + 1,none⟩)) (pv_fieldAddr rfl) (qe (i_ a1) (pv_loadc rfl ((S.boxAt 0 rfl) 1 _ rfl)) ?_))))))));obtain ⟨x115,hx115,F⟩:=ob F;refine ql_index (wA:=w00) rfl ha0 rfl (dt rfl) rfl hx115 (dt rfl) ?_;intro b116 of117 c118 hr119 hm120;obtain rfl:=hr119;refine qe (.int .u8 x115) (pv_loadc rfl ((cells_up S.below hm120) 0 _ rfl)) (qe (i_ (IntKind.i64.wrap x115)) (pv_convI Try.underlying5 Try.underlying3 rfl) (qe (i_ (IntKind.i64.wrap ((iand (ixor x105 x106) 255) + (IntKind.i64.wrap x115)))) (pv_addW rfl rfl) (qe (i_ (iand (IntKind.i64.wrap ((iand (ixor x105 x106) 255) + (IntKind.i64.wrap x115))) 255)) (pv_and rfl rfl) (qe (i_ (iand (IntKind.i64.wrap ((iand (ixor x105 x106) 255) + (IntKind.i64.wrap x115))) 255)) (pv_assign rfl) (ql_nil ?_)))));intro w121 hx122;replace S:=S.ext hx122;refine tn q114 (cw_reg (pm (.pointer (some ⟨b0,0,none⟩)) (pm (.pointer (some ⟨b0,0,none⟩)) (pe (.pointer (some ⟨b0,0,none⟩)) (pv_nilCheck rfl) (pe (.pointer (some ⟨b0,0 + 1,none⟩)) (pv_fieldAddr rfl) (pe (i_ a1) (pv_loadc rfl ((S.boxAt 0 rfl) 1 _ rfl)) (pe (i_ (IntKind.i64.wrap (a1 + 1))) (pv_addW rfl rfl) (pe (.pointer (some ⟨b0,0,none⟩)) (pv_nilCheck rfl) (pe (.pointer (some ⟨b0,0 + 1,none⟩)) (pv_fieldAddr rfl) ?_)))))))));refine el_storev (S.top 0 rfl) rfl [i_ (IntKind.i64.wrap (a1 + 1))] rfl rfl (dt rfl) (all_cons rfl rfl) ?_;intro w123 S;replace S:Sat w00 w123 (Box b0 36 [u0,i_ (IntKind.i64.wrap (a1 + 1)),i_ (IntKind.i64.wrap ((IntKind.i64.wrap (a2 * 6364136223846793005)) + 1442695040888963407))] :: G0):=S;refine en q109 ?_;refine sR fun _ q124=>?_;refine pm (i_ (iand (IntKind.i64.wrap ((iand (ixor x105 x106) 255) + (IntKind.i64.wrap x115))) 255)) (pa (i_ (iand (IntKind.i64.wrap ((iand (ixor x105 x106) 255) + (IntKind.i64.wrap x115))) 255)) (en q124 (cw_ret (fin1 rfl rfl ?_))));have hr:=Option.some.inj F;exact ⟨congrArg (fun (r:Int × Int × Int)=>Ending.returned (i_ r.1)) hr,Eq.mp (congrArg (fun (r:Int × Int × Int)=>Sat w00 w123 (Box b0 36 [u0,i_ r.2.1,i_ r.2.2] :: G0)) hr) S⟩
 refine cf hb113 (sn q109 ?_);refine sR fun _ q125=>?_;refine pm (i_ (iand (ixor x105 x106) 255)) (pa (i_ (iand (ixor x105 x106) 255)) (en q125 (cw_ret (fin1 rfl rfl ?_))));have hr:=Option.some.inj F;exact ⟨congrArg (fun (r:Int × Int × Int)=>Ending.returned (i_ r.1)) hr,Eq.mp (congrArg (fun (r:Int × Int × Int)=>Sat w00 w111 (Box b0 36 [u0,i_ r.2.1,i_ r.2.2] :: G0)) hr) S⟩
set_option maxHeartbeats 4000000 in
theorem spec_l1Below_ok {w0:World} {w00:World} {G0:List Asn} {b0:Nat} {u0:Value} {a0:List Int} {a1:Int} {a2:Int} {a3:Int} (ha0:(sliceR u8R 5).rd w00 [u0] a0) (S:Sat w00 w0 (Box b0 36 [u0,i_ a1,i_ a2] :: G0)) {N:Nat} {r:Int × Int × Int} (F:spec_l1Below N a0 a1 a2 a3=some r): Calls Try.prog 27 #[.pointer (some ⟨b0,0,none⟩),i_ a3] w0 fun e w'=>e=.returned (i_ r.1)∧Sat w00 w' (Box b0 36 [u0,i_ r.2.1,i_ r.2.2] :: G0) := by
 unfold spec_l1Below at F;refine calls_E Try.func27 rfl rfl (dt rfl) ?_;refine sR fun _ q101=>?_;refine pa (i_ 0) (en q101 ?_);refine sg fun _ q102=>?_;refine sR fun _ q103=>?_;refine pm (i_ a3) (pe (.bool (decide (a3 ≤ 0))) (pv_leq rfl rfl) (en q103 ?_));rcases oif F with ⟨hb104,F⟩|⟨hb104,F⟩
 ·refine ct hb104 ?_;refine sR fun _ q105=>?_;refine pa (i_ 0) (en q105 (cw_ret (tr q102 (fin1 rfl rfl ?_))));have hr:=Option.some.inj F;exact ⟨congrArg (fun (r:Int × Int × Int)=>Ending.returned (i_ r.1)) hr,Eq.mp (congrArg (fun (r:Int × Int × Int)=>Sat w00 w0 (Box b0 36 [u0,i_ r.2.1,i_ r.2.2] :: G0)) hr) S⟩
 refine cf hb104 (sn q102 ?_);refine sg fun _ q106=>?_;refine sR fun _ q107=>?_;refine pm (i_ a3) (pe (.bool (decide (a3 ≤ 256))) (pv_leq rfl rfl) (en q107 ?_));rcases oif F with ⟨hb108,F⟩|⟨hb108,F⟩
 ·refine ct hb108 ?_;refine sR fun _ q109=>?_;refine pm (.pointer (some ⟨b0,0,none⟩)) ?_;obtain ⟨r110,hr110,F⟩:=ob F;refine el_call goes28 (spec_l1Byte_ok ha0 S hr110) (ca (mapc rfl rfl)) (dt rfl) ?_;rintro _ w111 ⟨rfl,S⟩;refine ⟨_,rfl,?_⟩;replace S:Sat w00 w111 (Box b0 36 [u0,i_ r110.2.1,i_ r110.2.2] :: G0):=S;refine pm (i_ a3) ?_;obtain ⟨x112,hx112,F⟩:=ob F;refine pe (i_ x112) (pv_rem rfl rfl hx112) (pa (i_ x112) (en q109 (cw_ret (tr q106 (fin1 rfl rfl ?_)))));have hr:=Option.some.inj F;exact ⟨congrArg (fun (r:Int × Int × Int)=>Ending.returned (i_ r.1)) hr,Eq.mp (congrArg (fun (r:Int × Int × Int)=>Sat w00 w111 (Box b0 36 [u0,i_ r.2.1,i_ r.2.2] :: G0)) hr) S⟩
 refine cf hb108 (sn q106 ?_);refine sR fun _ q113=>?_;refine pm (.pointer (some ⟨b0,0,none⟩)) ?_;obtain ⟨r114,hr114,F⟩:=ob F;refine el_call goes28 (spec_l1Byte_ok ha0 S hr114) (ca (mapc rfl rfl)) (dt rfl) ?_;rintro _ w115 ⟨rfl,S⟩;refine ⟨_,rfl,?_⟩;replace S:Sat w00 w115 (Box b0 36 [u0,i_ r114.2.1,i_ r114.2.2] :: G0):=S;refine pa (i_ r114.1) (en q113 ?_);refine sR fun _ q116=>?_;refine pm (.pointer (some ⟨b0,0,none⟩)) ?_;obtain ⟨r117,hr117,F⟩:=ob F;refine el_call goes28 (spec_l1Byte_ok ha0 S hr117) (ca (mapc rfl rfl)) (dt rfl) ?_;rintro _ w118 ⟨rfl,S⟩;refine ⟨_,rfl,?_⟩;replace S:Sat w00 w118 (Box b0 36 [u0,i_ r117.2.1,i_ r117.2.2] :: G0):=S;refine pa (i_ r117.1) (en q116 ?_);refine sR fun _ q119=>?_;refine pm (.pointer (some ⟨b0,0,none⟩)) ?_;obtain ⟨r120,hr120,F⟩:=ob F;refine el_call goes28 (spec_l1Byte_ok ha0 S hr120) (ca (mapc rfl rfl)) (dt rfl) ?_;rintro _ w121 ⟨rfl,S⟩;refine ⟨_,rfl,?_⟩;replace S:Sat w00 w121 (Box b0 36 [u0,i_ r120.2.1,i_ r120.2.2] :: G0):=S;refine pa (i_ r120.1) (en q119 ?_);refine sR fun _ q122=>?_;refine pm (.pointer (some ⟨b0,0,none⟩)) ?_;obtain ⟨r123,hr123,F⟩:=ob F;refine el_call goes28 (spec_l1Byte_ok ha0 S hr123) (ca (mapc rfl rfl)) (dt rfl) ?_;rintro _ w124 ⟨rfl,S⟩;refine ⟨_,rfl,?_⟩;replace S:Sat w00 w124 (Box b0 36 [u0,i_ r123.2.1,i_ r123.2.2] :: G0):=S;refine pa (i_ r123.1) (en q122 ?_);refine sR fun _ q125=>?_;refine pm (i_ r114.1) ?_;obtain ⟨x126,hx126,F⟩:=ob F;refine pe (i_ x126) (pv_mul rfl rfl hx126) (pm (i_ r117.1) ?_);obtain ⟨x127,hx127,F⟩:=ob F;refine pe (i_ x127) (pv_mul rfl rfl hx127) ?_;obtain ⟨x128,hx128,F⟩:=ob F;refine pe (i_ x128) (pv_add rfl rfl hx128) (pm (i_ r120.1) ?_);obtain ⟨x129,hx129,F⟩:=ob F;refine pe (i_ x129) (pv_mul rfl rfl hx129) ?_;obtain ⟨x130,hx130,F⟩:=ob F;refine pe (i_ x130) (pv_add rfl rfl hx130) (pm (i_ r123.1) ?_);obtain ⟨x131,hx131,F⟩:=ob F;refine pe (i_ x131) (pv_add rfl rfl hx131) (pm (i_ a3) ?_);obtain ⟨x132,hx132,F⟩:=ob F;refine pe (i_ x132) (pv_rem rfl rfl hx132) (pa (i_ x132) (en q125 (cw_ret (fin1 rfl rfl ?_))));have hr:=Option.some.inj F;exact ⟨congrArg (fun (r:Int × Int × Int)=>Ending.returned (i_ r.1)) hr,Eq.mp (congrArg (fun (r:Int × Int × Int)=>Sat w00 w124 (Box b0 36 [u0,i_ r.2.1,i_ r.2.2] :: G0)) hr) S⟩
set_option maxHeartbeats 4000000 in
theorem spec_l1PickInt_ok {w0:World} {w00:World} {G0:List Asn} {b0:Nat} {u0:Value} {a0:List Int} {a1:Int} {a2:Int} {u3:Value} {a3:List Int} (ha0:(sliceR u8R 5).rd w00 [u0] a0) (S:Sat w00 w0 (Box b0 36 [u0,i_ a1,i_ a2] :: Own (sliceR intR 3) [u3] a3 :: G0)) {N:Nat} {r:Int × Int × Int} (F:spec_l1PickInt N a0 a1 a2 a3=some r): Calls Try.prog 26 #[.pointer (some ⟨b0,0,none⟩),u3] w0 fun e w'=>e=.returned (i_ r.1)∧Sat w00 w' (Box b0 36 [u0,i_ r.2.1,i_ r.2.2] :: G0) := by
 unfold spec_l1PickInt at F;refine calls_E Try.func26 rfl rfl (dt rfl) ?_;refine sR fun _ q101=>?_;refine pa (i_ 0) (en q101 ?_);refine sR fun _ q102=>?_;refine pm u3 (pm (.pointer (some ⟨b0,0,none⟩)) (pm u3 (pe (i_ (a3.length:Int)) (pv_len rfl (S.rdAt (R:=(sliceR intR 3)) 1 rfl)) ?_)));obtain ⟨r103,hr103,F⟩:=ob F;refine el_call goes27 (spec_l1Below_ok ha0 S hr103) (ca (mapc rfl (mapc rfl rfl))) (dt rfl) ?_;rintro _ w104 ⟨rfl,S⟩;refine ⟨_,rfl,?_⟩;replace S:Sat w00 w104 (Box b0 36 [u0,i_ r103.2.1,i_ r103.2.2] :: Own (sliceR intR 3) [u3] a3 :: G0):=S;obtain ⟨x105,hx105,F⟩:=ob F;obtain ⟨g106,cap107,hv108⟩:=ownShape 1 S rfl hx105;refine pe (.pointer (some ⟨g106,r103.1.toNat * 1,none⟩)) (pv_indexF (v:=u3) rfl hv108 rfl hx105) (pe (i_ x105) (pv_loadc rfl (S.ownCell 1 rfl hv108 hx105)) (pa (i_ x105) (en q102 (cw_ret (fin1 rfl rfl ?_)))));have hr:=Option.some.inj F;replace S:Sat w00 w104 (Box b0 36 [u0,i_ r103.2.1,i_ r103.2.2] :: G0):=S.rems 2 [1] rfl;exact ⟨congrArg (fun (r:Int × Int × Int)=>Ending.returned (i_ r.1)) hr,Eq.mp (congrArg (fun (r:Int × Int × Int)=>Sat w00 w104 (Box b0 36 [u0,i_ r.2.1,i_ r.2.2] :: G0)) hr) S⟩
set_option maxHeartbeats 4000000 in
theorem spec_l25Kind_ok {w0:World} {w00:World} {G0:List Asn} {b0:Nat} {u0:Value} {a0:List Int} {a1:Int} {a2:Int} (ha0:(sliceR u8R 5).rd w00 [u0] a0) (S:Sat w00 w0 (Box b0 36 [u0,i_ a1,i_ a2] :: G0)) {N:Nat} {r:Int × Int × Int} (F:spec_l25Kind N a0 a1 a2=some r): Calls Try.prog 19 #[.pointer (some ⟨b0,0,none⟩)] w0 fun e w'=>e=.returned (i_ r.1)∧Sat w00 w' (Box b0 36 [u0,i_ r.2.1,i_ r.2.2] :: G0) := by
 unfold spec_l25Kind at F;refine calls_E Try.func19 rfl rfl (dt rfl) ?_;refine sR fun _ q101=>?_;refine pa (i_ 0) (en q101 ?_);refine sR fun _ q102=>?_;refine pm (.pointer (some ⟨b0,0,none⟩)) ?_;refine el_buildSliceN (R:=intR) (xs:=([1,2,3,4,1,2,3,4,0,5]:List Int)) [i_ 1,i_ 2,i_ 3,i_ 4,i_ 1,i_ 2,i_ 3,i_ 4,i_ 0,i_ 5] rfl rfl rfl rfl (by rfl) (own_ints ([1,2,3,4,1,2,3,4,0,5]:List Int)) S (dt rfl) ?_;intro w103 v105 S hx104;replace S:Sat w00 w103 (Box b0 36 [u0,i_ a1,i_ a2] :: Own (sliceR intR 3) [v105] ([1,2,3,4,1,2,3,4,0,5]:List Int) :: G0):=S.tops 2 [1,0] rfl;obtain ⟨r107,hr107,F⟩:=ob F;refine el_call goes26 (spec_l1PickInt_ok ha0 S hr107) (ca (mapc rfl (mapc rfl rfl))) (dt rfl) ?_;rintro _ w108 ⟨rfl,S⟩;refine ⟨_,rfl,?_⟩;replace S:Sat w00 w108 (Box b0 36 [u0,i_ r107.2.1,i_ r107.2.2] :: G0):=S;refine pa (i_ r107.1) (en q102 (cw_ret (fin1 rfl rfl ?_)));have hr:=Option.some.inj F;exact ⟨congrArg (fun (r:Int × Int × Int)=>Ending.returned (i_ r.1)) hr,Eq.mp (congrArg (fun (r:Int × Int × Int)=>Sat w00 w108 (Box b0 36 [u0,i_ r.2.1,i_ r.2.2] :: G0)) hr) S⟩
set_option maxHeartbeats 4000000 in
theorem spec_l25Num_ok {w0:World} {w00:World} {G0:List Asn} {b0:Nat} {u0:Value} {a0:List Int} {a1:Int} {a2:Int} (ha0:(sliceR u8R 5).rd w00 [u0] a0) (S:Sat w00 w0 (Box b0 36 [u0,i_ a1,i_ a2] :: G0)) {N:Nat} {r:Int × Int × Int} (F:spec_l25Num N a0 a1 a2=some r): Calls Try.prog 20 #[.pointer (some ⟨b0,0,none⟩)] w0 fun e w'=>e=.returned (i_ r.1)∧Sat w00 w' (Box b0 36 [u0,i_ r.2.1,i_ r.2.2] :: G0) := by
 unfold spec_l25Num at F;refine calls_E Try.func20 rfl rfl (dt rfl) ?_;refine sR fun _ q101=>?_;refine pa (i_ 0) (en q101 ?_);refine sR fun _ q102=>?_;refine pm (.pointer (some ⟨b0,0,none⟩)) ?_;refine el_buildSliceN (R:=intR) (xs:=([0,1,2,7,40,1000000000,999999999,(-1),40000]:List Int)) [i_ 0,i_ 1,i_ 2,i_ 7,i_ 40,i_ 1000000000,i_ 999999999,i_ (-1),i_ 40000] rfl rfl rfl rfl (by rfl) (own_ints ([0,1,2,7,40,1000000000,999999999,(-1),40000]:List Int)) S (dt rfl) ?_;intro w103 v105 S hx104;replace S:Sat w00 w103 (Box b0 36 [u0,i_ a1,i_ a2] :: Own (sliceR intR 3) [v105] ([0,1,2,7,40,1000000000,999999999,(-1),40000]:List Int) :: G0):=S.tops 2 [1,0] rfl;obtain ⟨r107,hr107,F⟩:=ob F;refine el_call goes26 (spec_l1PickInt_ok ha0 S hr107) (ca (mapc rfl (mapc rfl rfl))) (dt rfl) ?_;rintro _ w108 ⟨rfl,S⟩;refine ⟨_,rfl,?_⟩;replace S:Sat w00 w108 (Box b0 36 [u0,i_ r107.2.1,i_ r107.2.2] :: G0):=S;refine pa (i_ r107.1) (en q102 (cw_ret (fin1 rfl rfl ?_)));have hr:=Option.some.inj F;exact ⟨congrArg (fun (r:Int × Int × Int)=>Ending.returned (i_ r.1)) hr,Eq.mp (congrArg (fun (r:Int × Int × Int)=>Sat w00 w108 (Box b0 36 [u0,i_ r.2.1,i_ r.2.2] :: G0)) hr) S⟩
set_option maxHeartbeats 4000000 in
theorem spec_DrawSemiringAdd_ok {w0:World} {u0:Value} {a0:List Int} (ha0:(sliceR u8R 5).rd w0 [u0] a0) {N:Nat} {r:Int × Int × Int} (F:spec_DrawSemiringAdd N a0=some r): Calls Try.prog 5 #[u0] w0 fun e w'=>e=.returned (.tuple #[i_ r.1,i_ r.2.1,i_ r.2.2])∧Ext w0 w' := by
 unfold spec_DrawSemiringAdd at F;refine calls_E Try.func5 rfl rfl (dt rfl) ?_;have S:=Sat.start w0;refine sR fun _ q101=>?_;refine pa (i_ 0) (pa (i_ 0) (pa (i_ 0) (en q101 ?_)));refine sR fun _ q102=>?_;refine pm u0 ?_;obtain ⟨r103,hr103,F⟩:=ob F;refine el_call goes18 (spec_l1New_ok (S.up ha0) hr103) (ca (mapc rfl rfl)) (dt rfl) ?_;rintro _ w106 ⟨b104,rfl,S'⟩;refine ⟨_,rfl,?_⟩;have hx107:=S'.below;replace S:=S.call1 S';refine pa (.pointer (some ⟨b104,0,none⟩)) (en q102 ?_);refine sR fun _ q108=>?_;refine pm (.pointer (some ⟨b104,0,none⟩)) ?_;obtain ⟨r109,hr109,F⟩:=ob F;refine el_call goes19 (spec_l25Kind_ok ha0 S hr109) (ca (mapc rfl rfl)) (dt rfl) ?_;rintro _ w110 ⟨rfl,S⟩;refine ⟨_,rfl,?_⟩;replace S:Sat w0 w110 [Box b104 36 [u0,i_ r109.2.1,i_ r109.2.2]]:=S;refine pm (.pointer (some ⟨b104,0,none⟩)) ?_;obtain ⟨r111,hr111,F⟩:=ob F;refine el_call goes20 (spec_l25Num_ok ha0 S hr111) (ca (mapc rfl rfl)) (dt rfl) ?_;rintro _ w112 ⟨rfl,S⟩;refine ⟨_,rfl,?_⟩;replace S:Sat w0 w112 [Box b104 36 [u0,i_ r111.2.1,i_ r111.2.2]]:=S;refine pm (.pointer (some ⟨b104,0,none⟩)) ?_;obtain ⟨r113,hr113,F⟩:=ob F;refine el_call goes20 (spec_l25Num_ok ha0 S hr113) (ca (mapc rfl rfl)) (dt rfl) ?_;rintro _ w114 ⟨rfl,S⟩;refine ⟨_,rfl,?_⟩;replace S:Sat w0 w114 [Box b104 36 [u0,i_ r113.2.1,i_ r113.2.2]]:=S;refine pa (i_ r109.1) (pa (i_ r111.1) (pa (i_ r113.1) (en q108 (cw_ret ?_))));refine fin3 rfl rfl rfl rfl ?_;have hr:=Option.some.inj F;exact ⟨congrArg (fun (r:Int × Int × Int)=>Ending.returned (.tuple #[i_ r.1,i_ r.2.1,i_ r.2.2])) hr,S.below⟩
set_option maxHeartbeats 4000000 in
theorem spec_DrawSemiringMul_ok {w0:World} {u0:Value} {a0:List Int} (ha0:(sliceR u8R 5).rd w0 [u0] a0) {N:Nat} {r:Int × Int × Int} (F:spec_DrawSemiringMul N a0=some r): Calls Try.prog 6 #[u0] w0 fun e w'=>e=.returned (.tuple #[i_ r.1,i_ r.2.1,i_ r.2.2])∧Ext w0 w' := by
 unfold spec_DrawSemiringMul at F;refine calls_E Try.func6 rfl rfl (dt rfl) ?_;have S:=Sat.start w0;refine sR fun _ q101=>?_;refine pa (i_ 0) (pa (i_ 0) (pa (i_ 0) (en q101 ?_)));refine sR fun _ q102=>?_;refine pm u0 ?_;obtain ⟨r103,hr103,F⟩:=ob F;refine ec0 goes5 (spec_DrawSemiringAdd_ok (S.up ha0) hr103) (ca (mapc rfl rfl)) S fun w104 hx105 S=>?_;refine pe (i_ r103.1) (pv_extract rfl rfl) (pe (i_ r103.2.1) (pv_extract rfl rfl) (pe (i_ r103.2.2) (pv_extract rfl rfl) (pa (i_ r103.1) (pa (i_ r103.2.1) (pa (i_ r103.2.2) (en q102 (cw_ret ?_)))))));refine fin3 rfl rfl rfl rfl ?_;have hr:=Option.some.inj F;exact ⟨congrArg (fun (r:Int × Int × Int)=>Ending.returned (.tuple #[i_ r.1,i_ r.2.1,i_ r.2.2])) hr,S.below⟩
set_option maxHeartbeats 4000000 in
theorem laws_fresh_ok {w0:World} {u0:Value} {a0:List Int} {a1:Int} (ha0:(sliceR u8R 5).rd w0 [u0] a0) {N:Nat} {r:(List Int)} (F:laws_fresh N a0 a1=some r): Calls Try.prog 7 #[u0,i_ a1] w0 fun e w'=>∃ (q0:Value),e=.returned (q0)∧Sat w0 w' [Own (sliceR u8R 5) [q0] r] := by
 unfold laws_fresh at F;refine calls_E Try.func7 rfl rfl (dt rfl) ?_;have S:=Sat.start w0;refine sR fun _ q101=>?_;refine pa n_ (en q101 ?_);refine sR fun _ q102=>?_;refine pm (i_ a1) (pe (.int .u8 (IntKind.u8.wrap a1)) (pv_convI Try.underlying3 Try.underlying5 rfl) ?_);refine el_buildSlice1 [.int .u8 (IntKind.u8.wrap a1)] rfl (by rfl) (dt rfl) rfl (dt rfl) S (dt rfl) ?_;intro w103 b105 S hx104;replace S:=S.u8 (IntKind.u8.wrap a1);replace S:Sat w0 w103 [Box b105 5 [.int .u8 (IntKind.u8.wrap a1)],_]:=S.top 1 rfl;replace S:=S.lit1;refine pa (.slice (some ⟨b105,0,none⟩) 1 1) (en q102 ?_);refine sg fun _ q108=>?_;refine sR fun _ q109=>?_;refine pa (i_ 0) (en q109 ?_);refine bg fun _ q110=>?_;obtain ⟨s111,hL,hK112⟩:=ob F;refine cw_loopS (fun k e w=>∃ (v114:Value),∃ (x113:List Int),∃ (x115:Int),e 0=u0∧e 1=i_ a1∧e 5=v114∧e 6=i_ x115∧Sat w0 w [Own (sliceR u8R 5) [v114] x113]∧laws_fresh_L1 N k a0 a1 x113 x115=some s111) N ?_ ?_ ?_
 ·exact ⟨(.slice (some ⟨b105,0,none⟩) 1 1),[(IntKind.u8.wrap a1)],0,rfl,rfl,rfl,rfl,S,hL⟩
 ·rintro e w ⟨_,_,_,_,_,_,_,_,hz⟩; exact nomatch (show none=some _ from hz)
 rintro k e121 w120 ⟨v114,x113,x115,he116,he117,he118,he119,S,F⟩;refine gn fun _ q122=>?_;refine sg fun _ q123=>?_;refine sR fun _ q124=>?_;refine pM (i_ x115) he119 (pM u0 he116 (pe (i_ (a0.length:Int)) (pv_len rfl ha0) (pe (.bool (decide (x115 < (a0.length:Int)))) (pv_lss rfl rfl) (pm (.bool (decide (x115 < (a0.length:Int)))) ?_))));rcases oif F with ⟨hb125,F⟩|⟨hb125,F⟩
 ·refine ei hb125 (pM (i_ x115) he119 (ei hb125 (pe (.bool (decide (x115 < 600))) (pv_lss rfl rfl) (pe (.bool (decide (x115 < 600))) (pv_pick_t rfl hb125 rfl) (en q124 ?_)))));rcases oif F with ⟨hb126,F⟩|⟨hb126,F⟩
  ·refine ct hb126 (sn q123 ?_);refine sg fun _ q127=>?_;refine bg fun _ q128=>?_;refine cw_reg (pM v114 he118 (pM u0 he116 (pM (i_ x115) he119 ?_)));obtain ⟨x129,hx129,F⟩:=ob F;refine el_index (wA:=w0) rfl ha0 rfl (dt rfl) rfl hx129 (dt rfl) ?_;intro b130 of131 c132 hr133 hm134;obtain rfl:=hr133;refine pe (.int .u8 x129) (pv_loadc rfl ((cells_up S.below hm134) 0 _ rfl)) (pe (i_ (IntKind.i64.wrap x129)) (pv_convI Try.underlying5 Try.underlying3 rfl) ?_);obtain ⟨x135,hx135,F⟩:=ob F;refine pe (i_ x135) (pv_mul rfl rfl hx135) (pM (i_ a1) he117 (pM (i_ x115) he119 ?_));obtain ⟨x136,hx136,F⟩:=ob F;refine pe (i_ x136) (pv_rem rfl rfl hx136) ?_;obtain ⟨x137,hx137,F⟩:=ob F;refine pe (i_ x137) (pv_add rfl rfl hx137) ?_;obtain ⟨x138,hx138,F⟩:=ob F;refine pe (i_ x138) (pv_mul rfl rfl hx138) ?_;obtain ⟨x139,hx139,F⟩:=ob F;refine pe (i_ x139) (pv_add rfl rfl hx139) (pe (.int .u8 (IntKind.u8.wrap x139)) (pv_convI Try.underlying3 Try.underlying5 rfl) ?_);refine el_buildSlice1 [.int .u8 (IntKind.u8.wrap x139)] rfl (by rfl) (dt rfl) rfl (dt rfl) S (dt rfl) ?_;intro w140 b142 S hx141;obtain ⟨x146,hx146,F⟩:=ob F;have hrow147:=S.boxRow 0 rfl;replace S:Sat w0 w140 [Own (sliceR u8R 5) [v114] x113,Box b142 5 [.int .u8 (IntKind.u8.wrap x139)]]:=S.top 1 rfl;replace S:=S.u8 (IntKind.u8.wrap x139);replace S:=S.one;refine el_append rfl (dt rfl) rfl (dt rfl) S rfl rfl rfl (by simp) hrow147 hx146 (dt rfl) ?_;intro w144 v145 S;refine pa v145 (el_nil (bn q128 (tn q127 ?_)));replace S:Sat w0 w144 [Own (sliceR u8R 5) [v145] x146]:=S.rems 2 [1] rfl;refine cw_reg (pM (i_ x115) he119 ?_);obtain ⟨x149,hx149,F⟩:=ob F;refine pe (i_ x149) (pv_add rfl rfl hx149) (pa (i_ x149) (en q122 ?_));replace S:=S.keep 1;exact ⟨v145,x146,x149,he116,he117,rfl,rfl,S,F⟩
  refine cf hb126 (cw_exit (tx q123 (tx q122 ?_)));replace F:=exB F hK112;refine bS q110 (tn q108 ?_);refine sR fun _ q150=>?_;refine pM v114 he118 (pa v114 (en q150 (cw_ret (fin1 rfl rfl ?_))));have hr:=Option.some.inj F;exact ⟨v114,congrArg (fun (r:(List Int))=>Ending.returned (v114)) hr,Eq.mp (congrArg (fun (r:(List Int))=>Sat w0 w120 [Own (sliceR u8R 5) [v114] r]) hr) (S.keep 1)⟩
 refine eo hb125 (eo hb125 (pe (.bool false) (pv_pick_f rfl hb125 rfl) (en q124 (cf rfl (cw_exit (tx q123 (tx q122 ?_)))))));replace F:=exB F hK112;refine bS q110 (tn q108 ?_);refine sR fun _ q151=>?_;refine pM v114 he118 (pa v114 (en q151 (cw_ret (fin1 rfl rfl ?_))));have hr:=Option.some.inj F;exact ⟨v114,congrArg (fun (r:(List Int))=>Ending.returned (v114)) hr,Eq.mp (congrArg (fun (r:(List Int))=>Sat w0 w120 [Own (sliceR u8R 5) [v114] r]) hr) (S.keep 1)⟩
set_option maxHeartbeats 4000000 in
theorem impl_clip_ok {w0:World} {a0:Int}  {N:Nat} {r:Int} (F:impl_clip N a0=some r): Calls Try.prog 21 #[i_ a0] w0 fun e w'=>e=.returned (i_ r)∧Ext w0 w' := by
 unfold impl_clip at F;refine calls_E Try.func21 rfl rfl (dt rfl) ?_;have S:=Sat.start w0;refine sR fun _ q101=>?_;refine pa (i_ 0) (en q101 ?_);refine sR fun _ q102=>?_;refine pm (i_ a0) (pe (i_ (imn a0 1000000000)) (pv_min rfl rfl) (pe (i_ (imx 0 (imn a0 1000000000))) (pv_max rfl rfl) (pa (i_ (imx 0 (imn a0 1000000000))) (en q102 (cw_ret (fin1 rfl rfl ?_))))));exact rI F S
set_option maxHeartbeats 4000000 in
theorem impl_bit_ok {w0:World} {a0:Bool}  {N:Nat} {r:Int} (F:impl_bit N a0=some r): Calls Try.prog 22 #[.bool a0] w0 fun e w'=>e=.returned (i_ r)∧Ext w0 w' := by
 unfold impl_bit at F;refine calls_E Try.func22 rfl rfl (dt rfl) ?_;have S:=Sat.start w0;refine sR fun _ q101=>?_;refine pa (i_ 0) (en q101 ?_);refine sg fun _ q102=>?_;refine sR fun _ q103=>?_;refine pm (.bool a0) (en q103 ?_);rcases oif F with ⟨hb104,F⟩|⟨hb104,F⟩
 ·refine ct hb104 ?_;refine sR fun _ q105=>?_;refine pa (i_ 1) (en q105 (cw_ret (tr q102 (fin1 rfl rfl ?_))));exact rI F S
 refine cf hb104 (sn q102 ?_);refine sR fun _ q106=>?_;refine pa (i_ 0) (en q106 (cw_ret (fin1 rfl rfl ?_)));exact rI F S

end Go.Proofs.Ytpobjikdmaifpaa
namespace Go.Proofs.Ytpobjikdmaifpaa
open Go.RowKit
set_option maxRecDepth 100000
set_option maxHeartbeats 4000000 in
theorem impl_SemiringAdd_ok {w0:World} {a0:Int} {a1:Int} {a2:Int}  {N:Nat} {r:Int} (F:impl_SemiringAdd N a0 a1 a2=some r): Calls Try.prog 8 #[i_ a0,i_ a1,i_ a2] w0 fun e w'=>e=.returned (i_ r)∧Ext w0 w' := by
 unfold impl_SemiringAdd at F;refine calls_E Try.func8 rfl rfl (dt rfl) ?_;have S:=Sat.start w0;refine sR fun _ q101=>?_;refine pa (i_ 0) (en q101 ?_);refine sR fun _ q102=>?_;refine pm (i_ a1) ?_;obtain ⟨r103,hr103,F⟩:=ob F;refine ec0 goes21 (impl_clip_ok hr103) (ca (mapc rfl rfl)) S fun w104 hx105 S=>?_;refine pm (i_ a2) ?_;obtain ⟨r106,hr106,F⟩:=ob F;refine ec0 goes21 (impl_clip_ok hr106) (ca (mapc rfl rfl)) S fun w107 hx108 S=>?_;refine pa (i_ r103) (pa (i_ r106) (en q102 ?_));refine sg fun _ q109=>?_;refine sR fun _ q110=>?_;refine pm (i_ a0) (en q110 ?_);refine bg fun _ q111=>?_;refine sR fun _ q112=>?_;refine pe (.bool (a0 == 1)) (pv_eql rfl rfl) (pa (.bool (a0 == 1)) (en q112 ?_));rcases oif F with ⟨hb113,F⟩|⟨hb113,F⟩
 ·refine ct hb113 ?_;refine sR fun _ q114=>?_;refine pm (i_ r103) (pm (i_ r106) ?_);obtain ⟨x115,hx115,F⟩:=ob F;refine pe (i_ x115) (pv_add rfl rfl hx115) ?_;obtain ⟨r116,hr116,F⟩:=ob F;refine ec0 goes21 (impl_clip_ok hr116) (ca (mapc rfl rfl)) S fun w117 hx118 S=>?_;refine pa (i_ r116) (en q114 (cw_ret (br q111 (tr q109 (fin1 rfl rfl ?_)))));exact rI F S
 refine cf hb113 ?_;refine sR fun _ q119=>?_;refine pe (.bool (a0 == 2)) (pv_eql rfl rfl) (pa (.bool (a0 == 2)) (en q119 ?_));rcases oif F with ⟨hb120,F⟩|⟨hb120,F⟩
 ·refine ct hb120 ?_;refine sR fun _ q121=>?_;refine pm (i_ r103) (pm (i_ r106) (pe (i_ (imn r103 r106)) (pv_min rfl rfl) (pa (i_ (imn r103 r106)) (en q121 (cw_ret (br q111 (tr q109 (fin1 rfl rfl ?_))))))));exact rI F S
 refine cf hb120 ?_;refine sR fun _ q122=>?_;refine pe (.bool (a0 == 3)) (pv_eql rfl rfl) (pa (.bool (a0 == 3)) (en q122 ?_));rcases oif F with ⟨hb123,F⟩|⟨hb123,F⟩
 ·refine ct hb123 ?_;refine sR fun _ q124=>?_;refine pm (i_ r103) (pe (.bool (decide (0 < r103))) (pv_gtr rfl rfl) (pm (.bool (decide (0 < r103))) ?_));rcases oif F with ⟨hb125,F⟩|⟨hb125,F⟩
  ·refine eo hb125 (eo hb125 (pe (.bool true) (pv_pick_t rfl hb125 rfl) ?_));obtain ⟨r126,hr126,F⟩:=ob F;refine ec0 goes22 (impl_bit_ok hr126) (ca (mapc rfl rfl)) S fun w127 hx128 S=>?_;refine pa (i_ r126) (en q124 (cw_ret (br q111 (tr q109 (fin1 rfl rfl ?_)))));exact rI F S
  refine ei hb125 (pm (i_ r106) (ei hb125 (pe (.bool (decide (0 < r106))) (pv_gtr rfl rfl) (pe (.bool (decide (0 < r106))) (pv_pick_f rfl hb125 rfl) ?_))));obtain ⟨r129,hr129,F⟩:=ob F;refine ec0 goes22 (impl_bit_ok hr129) (ca (mapc rfl rfl)) S fun w130 hx131 S=>?_;refine pa (i_ r129) (en q124 (cw_ret (br q111 (tr q109 (fin1 rfl rfl ?_)))));exact rI F S
 refine cf hb123 ?_;refine sR fun _ q132=>?_;refine pe (.bool (a0 == 4)) (pv_eql rfl rfl) (pa (.bool (a0 == 4)) (en q132 ?_));rcases oif F with ⟨hb133,F⟩|⟨hb133,F⟩
 ·refine ct hb133 ?_;refine sR fun _ q134=>?_;refine pm (i_ r103) (pm (i_ r106) (pe (i_ (imx r103 r106)) (pv_max rfl rfl) (pa (i_ (imx r103 r106)) (en q134 (cw_ret (br q111 (tr q109 (fin1 rfl rfl ?_))))))));exact rI F S
 refine cf hb133 (cw_skip (bn q111 (tn q109 ?_)));refine sR fun _ q135=>?_;refine pa (i_ 0) (en q135 (cw_ret (fin1 rfl rfl ?_)));exact rI F S
set_option maxHeartbeats 4000000 in
theorem impl_SemiringMul_ok {w0:World} {a0:Int} {a1:Int} {a2:Int}  {N:Nat} {r:Int} (F:impl_SemiringMul N a0 a1 a2=some r): Calls Try.prog 9 #[i_ a0,i_ a1,i_ a2] w0 fun e w'=>e=.returned (i_ r)∧Ext w0 w' := by
 unfold impl_SemiringMul at F;refine calls_E Try.func9 rfl rfl (dt rfl) ?_;have S:=Sat.start w0;refine sR fun _ q101=>?_;refine pa (i_ 0) (en q101 ?_);refine sR fun _ q102=>?_;refine pm (i_ a1) ?_;obtain ⟨r103,hr103,F⟩:=ob F;refine ec0 goes21 (impl_clip_ok hr103) (ca (mapc rfl rfl)) S fun w104 hx105 S=>?_;refine pm (i_ a2) ?_;obtain ⟨r106,hr106,F⟩:=ob F;refine ec0 goes21 (impl_clip_ok hr106) (ca (mapc rfl rfl)) S fun w107 hx108 S=>?_;refine pa (i_ r103) (pa (i_ r106) (en q102 ?_));refine sg fun _ q109=>?_;refine sR fun _ q110=>?_;refine pm (i_ a0) (en q110 ?_);refine bg fun _ q111=>?_;refine sg fun _ q112=>?_;refine sR fun _ q113=>?_;refine pe (.bool (a0 == 1)) (pv_eql rfl rfl) (pa (.bool (a0 == 1)) (en q113 ?_));rcases oif F with ⟨hb114,F⟩|⟨hb114,F⟩
 ·refine ct hb114 (sn q112 (ct hb114 ?_));refine sR fun _ q115=>?_;refine pm (i_ r103) (pm (i_ r106) ?_);obtain ⟨x116,hx116,F⟩:=ob F;refine pe (i_ x116) (pv_mul rfl rfl hx116) ?_;obtain ⟨r117,hr117,F⟩:=ob F;refine ec0 goes21 (impl_clip_ok hr117) (ca (mapc rfl rfl)) S fun w118 hx119 S=>?_;refine pa (i_ r117) (en q115 (cw_ret (br q111 (tr q109 (fin1 rfl rfl ?_)))));exact rI F S
 refine cf hb114 (cw_reg (pe (.bool (a0 == 4)) (pv_eql rfl rfl) (pa (.bool (a0 == 4)) (en q112 ?_))));rcases oif F with ⟨hb120,F⟩|⟨hb120,F⟩
 ·refine ct hb120 ?_;refine sR fun _ q121=>?_;refine pm (i_ r103) (pm (i_ r106) ?_);obtain ⟨x122,hx122,F⟩:=ob F;refine pe (i_ x122) (pv_mul rfl rfl hx122) ?_;obtain ⟨r123,hr123,F⟩:=ob F;refine ec0 goes21 (impl_clip_ok hr123) (ca (mapc rfl rfl)) S fun w124 hx125 S=>?_;refine pa (i_ r123) (en q121 (cw_ret (br q111 (tr q109 (fin1 rfl rfl ?_)))));exact rI F S
 refine cf hb120 ?_;refine sR fun _ q126=>?_;refine pe (.bool (a0 == 2)) (pv_eql rfl rfl) (pa (.bool (a0 == 2)) (en q126 ?_));rcases oif F with ⟨hb127,F⟩|⟨hb127,F⟩
 ·refine ct hb127 ?_;refine sR fun _ q128=>?_;refine pm (i_ r103) (pm (i_ r106) ?_);obtain ⟨x129,hx129,F⟩:=ob F;refine pe (i_ x129) (pv_add rfl rfl hx129) ?_;obtain ⟨r130,hr130,F⟩:=ob F;refine ec0 goes21 (impl_clip_ok hr130) (ca (mapc rfl rfl)) S fun w131 hx132 S=>?_;refine pa (i_ r130) (en q128 (cw_ret (br q111 (tr q109 (fin1 rfl rfl ?_)))));exact rI F S
 refine cf hb127 ?_;refine sR fun _ q133=>?_;refine pe (.bool (a0 == 3)) (pv_eql rfl rfl) (pa (.bool (a0 == 3)) (en q133 ?_));rcases oif F with ⟨hb134,F⟩|⟨hb134,F⟩
 ·refine ct hb134 ?_;refine sR fun _ q135=>?_;refine pm (i_ r103) (pe (.bool (decide (0 < r103))) (pv_gtr rfl rfl) (pm (.bool (decide (0 < r103))) ?_));rcases oif F with ⟨hb136,F⟩|⟨hb136,F⟩
  ·refine ei hb136 (pm (i_ r106) (ei hb136 (pe (.bool (decide (0 < r106))) (pv_gtr rfl rfl) (pe (.bool (decide (0 < r106))) (pv_pick_t rfl hb136 rfl) ?_))));obtain ⟨r137,hr137,F⟩:=ob F;refine ec0 goes22 (impl_bit_ok hr137) (ca (mapc rfl rfl)) S fun w138 hx139 S=>?_;refine pa (i_ r137) (en q135 (cw_ret (br q111 (tr q109 (fin1 rfl rfl ?_)))));exact rI F S
  refine eo hb136 (eo hb136 (pe (.bool false) (pv_pick_f rfl hb136 rfl) ?_));obtain ⟨r140,hr140,F⟩:=ob F;refine ec0 goes22 (impl_bit_ok hr140) (ca (mapc rfl rfl)) S fun w141 hx142 S=>?_;refine pa (i_ r140) (en q135 (cw_ret (br q111 (tr q109 (fin1 rfl rfl ?_)))));exact rI F S
 refine cf hb134 (cw_skip (bn q111 (tn q109 ?_)));refine sR fun _ q143=>?_;refine pa (i_ 0) (en q143 (cw_ret (fin1 rfl rfl ?_)));exact rI F S
set_option maxHeartbeats 4000000 in
theorem spec_l25Clip_ok {w0:World} {a0:Int}  {N:Nat} {r:Int} (F:spec_l25Clip N a0=some r): Calls Try.prog 23 #[i_ a0] w0 fun e w'=>e=.returned (i_ r)∧Ext w0 w' := by
 unfold spec_l25Clip at F;refine calls_E Try.func23 rfl rfl (dt rfl) ?_;have S:=Sat.start w0;refine sR fun _ q101=>?_;refine pa (i_ 0) (en q101 ?_);refine sR fun _ q102=>?_;refine pm (i_ a0) (pe (i_ (imn 1000000000 a0)) (pv_min rfl rfl) (pe (i_ (imx 0 (imn 1000000000 a0))) (pv_max rfl rfl) (pa (i_ (imx 0 (imn 1000000000 a0))) (en q102 (cw_ret (fin1 rfl rfl ?_))))));exact rI F S
set_option maxHeartbeats 4000000 in
theorem spec_SemiringAdd_ok {w0:World} {a0:Int} {a1:Int} {a2:Int}  {N:Nat} {r:Int} (F:spec_SemiringAdd N a0 a1 a2=some r): Calls Try.prog 10 #[i_ a0,i_ a1,i_ a2] w0 fun e w'=>e=.returned (i_ r)∧Ext w0 w' := by
 unfold spec_SemiringAdd at F;refine calls_E Try.func10 rfl rfl (dt rfl) ?_;have S:=Sat.start w0;refine sR fun _ q101=>?_;refine pa (i_ 0) (en q101 ?_);refine sR fun _ q102=>?_;refine pm (i_ a1) ?_;obtain ⟨r103,hr103,F⟩:=ob F;refine ec0 goes23 (spec_l25Clip_ok hr103) (ca (mapc rfl rfl)) S fun w104 hx105 S=>?_;refine pa (i_ r103) (en q102 ?_);refine sR fun _ q106=>?_;refine pm (i_ a2) ?_;obtain ⟨r107,hr107,F⟩:=ob F;refine ec0 goes23 (spec_l25Clip_ok hr107) (ca (mapc rfl rfl)) S fun w108 hx109 S=>?_;refine pa (i_ r107) (en q106 ?_);refine sg fun _ q110=>?_;refine sR fun _ q111=>?_;refine pm (i_ a0) (en q111 ?_);refine bg fun _ q112=>?_;refine sR fun _ q113=>?_;refine pe (.bool (a0 == 1)) (pv_eql rfl rfl) (pa (.bool (a0 == 1)) (en q113 ?_));rcases oif F with ⟨hb114,F⟩|⟨hb114,F⟩
 ·refine ct hb114 ?_;refine sR fun _ q115=>?_;refine pm (i_ r103) (pm (i_ r107) ?_);obtain ⟨x116,hx116,F⟩:=ob F;refine pe (i_ x116) (pv_add rfl rfl hx116) ?_;obtain ⟨r117,hr117,F⟩:=ob F;refine ec0 goes23 (spec_l25Clip_ok hr117) (ca (mapc rfl rfl)) S fun w118 hx119 S=>?_;refine pa (i_ r117) (en q115 (cw_ret (br q112 (tr q110 (fin1 rfl rfl ?_)))));exact rI F S
 refine cf hb114 ?_;refine sR fun _ q120=>?_;refine pe (.bool (a0 == 2)) (pv_eql rfl rfl) (pa (.bool (a0 == 2)) (en q120 ?_));rcases oif F with ⟨hb121,F⟩|⟨hb121,F⟩
 ·refine ct hb121 ?_;refine sR fun _ q122=>?_;refine pm (i_ r103) (pm (i_ r107) (pe (i_ (imn r103 r107)) (pv_min rfl rfl) (pa (i_ (imn r103 r107)) (en q122 (cw_ret (br q112 (tr q110 (fin1 rfl rfl ?_))))))));exact rI F S
 refine cf hb121 ?_;refine sR fun _ q123=>?_;refine pe (.bool (a0 == 3)) (pv_eql rfl rfl) (pa (.bool (a0 == 3)) (en q123 ?_));rcases oif F with ⟨hb124,F⟩|⟨hb124,F⟩
 ·refine ct hb124 ?_;refine sR fun _ q125=>?_;refine pm (i_ r103) (pm (i_ r107) ?_);obtain ⟨x126,hx126,F⟩:=ob F;refine pe (i_ x126) (pv_add rfl rfl hx126) (pe (i_ (imn 1 x126)) (pv_min rfl rfl) (pa (i_ (imn 1 x126)) (en q125 (cw_ret (br q112 (tr q110 (fin1 rfl rfl ?_)))))));exact rI F S
 refine cf hb124 ?_;refine sR fun _ q127=>?_;refine pe (.bool (a0 == 4)) (pv_eql rfl rfl) (pa (.bool (a0 == 4)) (en q127 ?_));rcases oif F with ⟨hb128,F⟩|⟨hb128,F⟩
 ·refine ct hb128 ?_;refine sR fun _ q129=>?_;refine pm (i_ r103) (pm (i_ r107) (pe (i_ (imx r103 r107)) (pv_max rfl rfl) (pa (i_ (imx r103 r107)) (en q129 (cw_ret (br q112 (tr q110 (fin1 rfl rfl ?_))))))));exact rI F S
 refine cf hb128 (cw_skip (bn q112 (tn q110 ?_)));refine sR fun _ q130=>?_;refine pa (i_ 0) (en q130 (cw_ret (fin1 rfl rfl ?_)));exact rI F S
set_option maxHeartbeats 4000000 in
theorem spec_SemiringMul_ok {w0:World} {a0:Int} {a1:Int} {a2:Int}  {N:Nat} {r:Int} (F:spec_SemiringMul N a0 a1 a2=some r): Calls Try.prog 11 #[i_ a0,i_ a1,i_ a2] w0 fun e w'=>e=.returned (i_ r)∧Ext w0 w' := by
 unfold spec_SemiringMul at F;refine calls_E Try.func11 rfl rfl (dt rfl) ?_;have S:=Sat.start w0;refine sR fun _ q101=>?_;refine pa (i_ 0) (en q101 ?_);refine sR fun _ q102=>?_;refine pm (i_ a1) ?_;obtain ⟨r103,hr103,F⟩:=ob F;refine ec0 goes23 (spec_l25Clip_ok hr103) (ca (mapc rfl rfl)) S fun w104 hx105 S=>?_;refine pa (i_ r103) (en q102 ?_);refine sR fun _ q106=>?_;refine pm (i_ a2) ?_;obtain ⟨r107,hr107,F⟩:=ob F;refine ec0 goes23 (spec_l25Clip_ok hr107) (ca (mapc rfl rfl)) S fun w108 hx109 S=>?_;refine pa (i_ r107) (en q106 ?_);refine sg fun _ q110=>?_;refine sR fun _ q111=>?_;refine pm (i_ a0) (en q111 ?_);refine bg fun _ q112=>?_;refine sg fun _ q113=>?_;refine sR fun _ q114=>?_;refine pe (.bool (a0 == 1)) (pv_eql rfl rfl) (pa (.bool (a0 == 1)) (en q114 ?_));rcases oif F with ⟨hb115,F⟩|⟨hb115,F⟩
 ·refine ct hb115 (sn q113 (ct hb115 ?_));refine sR fun _ q116=>?_;refine pm (i_ r103) (pm (i_ r107) ?_);obtain ⟨x117,hx117,F⟩:=ob F;refine pe (i_ x117) (pv_mul rfl rfl hx117) ?_;obtain ⟨r118,hr118,F⟩:=ob F;refine ec0 goes23 (spec_l25Clip_ok hr118) (ca (mapc rfl rfl)) S fun w119 hx120 S=>?_;refine pa (i_ r118) (en q116 (cw_ret (br q112 (tr q110 (fin1 rfl rfl ?_)))));exact rI F S
 refine cf hb115 (cw_reg (pe (.bool (a0 == 4)) (pv_eql rfl rfl) (pa (.bool (a0 == 4)) (en q113 ?_))));rcases oif F with ⟨hb121,F⟩|⟨hb121,F⟩
 ·refine ct hb121 ?_;refine sR fun _ q122=>?_;refine pm (i_ r103) (pm (i_ r107) ?_);obtain ⟨x123,hx123,F⟩:=ob F;refine pe (i_ x123) (pv_mul rfl rfl hx123) ?_;obtain ⟨r124,hr124,F⟩:=ob F;refine ec0 goes23 (spec_l25Clip_ok hr124) (ca (mapc rfl rfl)) S fun w125 hx126 S=>?_;refine pa (i_ r124) (en q122 (cw_ret (br q112 (tr q110 (fin1 rfl rfl ?_)))));exact rI F S
 refine cf hb121 ?_;refine sR fun _ q127=>?_;refine pe (.bool (a0 == 2)) (pv_eql rfl rfl) (pa (.bool (a0 == 2)) (en q127 ?_));rcases oif F with ⟨hb128,F⟩|⟨hb128,F⟩
 ·refine ct hb128 ?_;refine sR fun _ q129=>?_;refine pm (i_ r103) (pm (i_ r107) ?_);obtain ⟨x130,hx130,F⟩:=ob F;refine pe (i_ x130) (pv_add rfl rfl hx130) ?_;obtain ⟨r131,hr131,F⟩:=ob F;refine ec0 goes23 (spec_l25Clip_ok hr131) (ca (mapc rfl rfl)) S fun w132 hx133 S=>?_;refine pa (i_ r131) (en q129 (cw_ret (br q112 (tr q110 (fin1 rfl rfl ?_)))));exact rI F S
 refine cf hb128 ?_;refine sR fun _ q134=>?_;refine pe (.bool (a0 == 3)) (pv_eql rfl rfl) (pa (.bool (a0 == 3)) (en q134 ?_));rcases oif F with ⟨hb135,F⟩|⟨hb135,F⟩
 ·refine ct hb135 ?_;refine sR fun _ q136=>?_;refine pm (i_ r103) (pe (i_ (imn 1 r103)) (pv_min rfl rfl) (pm (i_ r107) (pe (i_ (imn 1 r107)) (pv_min rfl rfl) ?_)));obtain ⟨x137,hx137,F⟩:=ob F;refine pe (i_ x137) (pv_mul rfl rfl hx137) (pa (i_ x137) (en q136 (cw_ret (br q112 (tr q110 (fin1 rfl rfl ?_))))));exact rI F S
 refine cf hb135 (cw_skip (bn q112 (tn q110 ?_)));refine sR fun _ q138=>?_;refine pa (i_ 0) (en q138 (cw_ret (fin1 rfl rfl ?_)));exact rI F S
set_option maxHeartbeats 4000000 in
theorem impl_within_ok {w0:World} {a0:Int} {a1:Int} {a2:Int}  {N:Nat} {r:Bool} (F:impl_within N a0 a1 a2=some r): Calls Try.prog 24 #[i_ a0,i_ a1,i_ a2] w0 fun e w'=>e=.returned (.bool r)∧Ext w0 w' := by
 unfold impl_within at F;refine calls_E Try.func24 rfl rfl (dt rfl) ?_;have S:=Sat.start w0;refine sR fun _ q101=>?_;refine pa (.bool false) (en q101 ?_);refine sR fun _ q102=>?_;refine pm (i_ a0) (pm (i_ a1) (pe (.bool (decide (a1 ≤ a0))) (pv_geq rfl rfl) (pm (.bool (decide (a1 ≤ a0))) ?_)));rcases oif F with ⟨hb103,F⟩|⟨hb103,F⟩
 ·refine ei hb103 (pm (i_ a0) (ei hb103 (pm (i_ a2) (ei hb103 (pe (.bool (decide (a0 ≤ a2))) (pv_leq rfl rfl) (pe (.bool (decide (a0 ≤ a2))) (pv_pick_t rfl hb103 rfl) (pa (.bool (decide (a0 ≤ a2))) (en q102 (cw_ret (fin1 rfl rfl ?_))))))))));exact rB F S
 refine eo hb103 (eo hb103 (eo hb103 (pe (.bool false) (pv_pick_f rfl hb103 rfl) (pa (.bool false) (en q102 (cw_ret (fin1 rfl rfl ?_)))))));exact rB F S
set_option maxHeartbeats 4000000 in
theorem impl_IsValidSemiring_ok {w0:World} {a0:Int}  {N:Nat} {r:Bool} (F:impl_IsValidSemiring N a0=some r): Calls Try.prog 12 #[i_ a0] w0 fun e w'=>e=.returned (.bool r)∧Ext w0 w' := by
 unfold impl_IsValidSemiring at F;refine calls_E Try.func12 rfl rfl (dt rfl) ?_;have S:=Sat.start w0;refine sR fun _ q101=>?_;refine pa (.bool false) (en q101 ?_);refine sR fun _ q102=>?_;refine pm (i_ a0) ?_;obtain ⟨r103,hr103,F⟩:=ob F;refine ec0 goes24 (impl_within_ok hr103) (ca (mapc rfl (mapc rfl (mapc rfl rfl)))) S fun w104 hx105 S=>?_;refine pa (.bool r103) (en q102 (cw_ret (fin1 rfl rfl ?_)));exact rB F S
set_option maxHeartbeats 4000000 in
theorem spec_l1In_ok {w0:World} {a0:Int} {a1:Int} {a2:Int}  {N:Nat} {r:Bool} (F:spec_l1In N a0 a1 a2=some r): Calls Try.prog 25 #[i_ a0,i_ a1,i_ a2] w0 fun e w'=>e=.returned (.bool r)∧Ext w0 w' := by
 unfold spec_l1In at F;refine calls_E Try.func25 rfl rfl (dt rfl) ?_;have S:=Sat.start w0;refine sR fun _ q101=>?_;refine pa (.bool false) (en q101 ?_);refine sR fun _ q102=>?_;refine pm (i_ a0) (pm (i_ a1) (pe (.bool (decide (a1 ≤ a0))) (pv_geq rfl rfl) (pm (.bool (decide (a1 ≤ a0))) ?_)));rcases oif F with ⟨hb103,F⟩|⟨hb103,F⟩
 ·refine ei hb103 (pm (i_ a0) (ei hb103 (pm (i_ a2) (ei hb103 (pe (.bool (decide (a0 ≤ a2))) (pv_leq rfl rfl) (pe (.bool (decide (a0 ≤ a2))) (pv_pick_t rfl hb103 rfl) (pa (.bool (decide (a0 ≤ a2))) (en q102 (cw_ret (fin1 rfl rfl ?_))))))))));exact rB F S
 refine eo hb103 (eo hb103 (eo hb103 (pe (.bool false) (pv_pick_f rfl hb103 rfl) (pa (.bool false) (en q102 (cw_ret (fin1 rfl rfl ?_)))))));exact rB F S
set_option maxHeartbeats 4000000 in
theorem spec_IsValidSemiring_ok {w0:World} {a0:Int}  {N:Nat} {r:Bool} (F:spec_IsValidSemiring N a0=some r): Calls Try.prog 13 #[i_ a0] w0 fun e w'=>e=.returned (.bool r)∧Ext w0 w' := by
 unfold spec_IsValidSemiring at F;refine calls_E Try.func13 rfl rfl (dt rfl) ?_;have S:=Sat.start w0;refine sR fun _ q101=>?_;refine pa (.bool false) (en q101 ?_);refine sR fun _ q102=>?_;refine pm (i_ a0) ?_;obtain ⟨r103,hr103,F⟩:=ob F;refine ec0 goes25 (spec_l1In_ok hr103) (ca (mapc rfl (mapc rfl (mapc rfl rfl)))) S fun w104 hx105 S=>?_;refine pa (.bool r103) (en q102 (cw_ret (fin1 rfl rfl ?_)));exact rB F S
set_option maxHeartbeats 4000000 in
theorem impl_SemiringZero_ok {w0:World} {a0:Int}  {N:Nat} {r:Int} (F:impl_SemiringZero N a0=some r): Calls Try.prog 14 #[i_ a0] w0 fun e w'=>e=.returned (i_ r)∧Ext w0 w' := by
 unfold impl_SemiringZero at F;refine calls_E Try.func14 rfl rfl (dt rfl) ?_;have S:=Sat.start w0;refine sR fun _ q101=>?_;refine pa (i_ 0) (en q101 ?_);refine sg fun _ q102=>?_;refine sR fun _ q103=>?_;refine pm (i_ a0) (pe (.bool (a0 == 2)) (pv_eql rfl rfl) (en q103 ?_));rcases oif F with ⟨hb104,F⟩|⟨hb104,F⟩
 ·refine ct hb104 ?_;refine sR fun _ q105=>?_;refine pa (i_ 1000000000) (en q105 (cw_ret (tr q102 (fin1 rfl rfl ?_))));exact rI F S
 refine cf hb104 (sn q102 ?_);refine sR fun _ q106=>?_;refine pa (i_ 0) (en q106 (cw_ret (fin1 rfl rfl ?_)));exact rI F S
set_option maxHeartbeats 4000000 in
theorem impl_SemiringOne_ok {w0:World} {a0:Int}  {N:Nat} {r:Int} (F:impl_SemiringOne N a0=some r): Calls Try.prog 15 #[i_ a0] w0 fun e w'=>e=.returned (i_ r)∧Ext w0 w' := by
 unfold impl_SemiringOne at F;refine calls_E Try.func15 rfl rfl (dt rfl) ?_;have S:=Sat.start w0;refine sR fun _ q101=>?_;refine pa (i_ 0) (en q101 ?_);refine sg fun _ q102=>?_;refine sR fun _ q103=>?_;refine pm (i_ a0) (pe (.bool (a0 == 1)) (pv_eql rfl rfl) (pm (.bool (a0 == 1)) ?_));rcases oif F with ⟨hb104,F⟩|⟨hb104,F⟩
 ·refine eo hb104 (eo hb104 (pe (.bool true) (pv_pick_t rfl hb104 rfl) (pm (.bool true) (eo rfl (eo rfl (pe (.bool true) (pv_pick_t rfl rfl rfl) (en q103 (ct rfl ?_))))))));refine sR fun _ q105=>?_;refine pa (i_ 1) (en q105 (cw_ret (tr q102 (fin1 rfl rfl ?_))));exact rI F S
 refine ei hb104 (pm (i_ a0) (ei hb104 (pe (.bool (a0 == 3)) (pv_eql rfl rfl) (pe (.bool (a0 == 3)) (pv_pick_f rfl hb104 rfl) (pm (.bool (a0 == 3)) ?_)))));rcases oif F with ⟨hb106,F⟩|⟨hb106,F⟩
 ·refine eo hb106 (eo hb106 (pe (.bool true) (pv_pick_t rfl hb106 rfl) (en q103 (ct rfl ?_))));refine sR fun _ q107=>?_;refine pa (i_ 1) (en q107 (cw_ret (tr q102 (fin1 rfl rfl ?_))));exact rI F S
 refine ei hb106 (pm (i_ a0) (ei hb106 (pe (.bool (a0 == 4)) (pv_eql rfl rfl) (pe (.bool (a0 == 4)) (pv_pick_f rfl hb106 rfl) (en q103 ?_)))));rcases oif F with ⟨hb108,F⟩|⟨hb108,F⟩
 ·refine ct hb108 ?_;refine sR fun _ q109=>?_;refine pa (i_ 1) (en q109 (cw_ret (tr q102 (fin1 rfl rfl ?_))));exact rI F S
 refine cf hb108 (sn q102 ?_);refine sR fun _ q110=>?_;refine pa (i_ 0) (en q110 (cw_ret (fin1 rfl rfl ?_)));exact rI F S
set_option maxHeartbeats 4000000 in
theorem spec_SemiringZero_ok {w0:World} {a0:Int}  {N:Nat} {r:Int} (F:spec_SemiringZero N a0=some r): Calls Try.prog 16 #[i_ a0] w0 fun e w'=>e=.returned (i_ r)∧Ext w0 w' := by
 unfold spec_SemiringZero at F;refine calls_E Try.func16 rfl rfl (dt rfl) ?_;have S:=Sat.start w0;refine sR fun _ q101=>?_;refine pa (i_ 0) (en q101 ?_);refine sg fun _ q102=>?_;refine sR fun _ q103=>?_;refine pm (i_ a0) (pe (.bool (a0 == 2)) (pv_eql rfl rfl) (en q103 ?_));rcases oif F with ⟨hb104,F⟩|⟨hb104,F⟩
 ·refine ct hb104 ?_;refine sR fun _ q105=>?_;refine pa (i_ 1000000000) (en q105 (cw_ret (tr q102 (fin1 rfl rfl ?_))));exact rI F S
 refine cf hb104 (sn q102 ?_);refine sR fun _ q106=>?_;refine pa (i_ 0) (en q106 (cw_ret (fin1 rfl rfl ?_)));exact rI F S

end Go.Proofs.Ytpobjikdmaifpaa
namespace Go.Proofs.Ytpobjikdmaifpaa
open Go.RowKit
set_option maxRecDepth 100000
set_option maxHeartbeats 4000000 in
theorem spec_SemiringOne_ok {w0:World} {a0:Int}  {N:Nat} {r:Int} (F:spec_SemiringOne N a0=some r): Calls Try.prog 17 #[i_ a0] w0 fun e w'=>e=.returned (i_ r)∧Ext w0 w' := by
 unfold spec_SemiringOne at F;refine calls_E Try.func17 rfl rfl (dt rfl) ?_;have S:=Sat.start w0;refine sR fun _ q101=>?_;refine pa (i_ 0) (en q101 ?_);refine sg fun _ q102=>?_;refine sR fun _ q103=>?_;refine pm (i_ a0) (pe (.bool (a0 == 2)) (pv_eql rfl rfl) (pm (.bool (a0 == 2)) ?_));rcases oif F with ⟨hb104,F⟩|⟨hb104,F⟩
 ·refine eo hb104 (eo hb104 (eo hb104 (pe (.bool true) (pv_pick_t rfl hb104 rfl) (en q103 (ct rfl ?_)))));refine sR fun _ q105=>?_;refine pa (i_ 0) (en q105 (cw_ret (tr q102 (fin1 rfl rfl ?_))));exact rI F S
 refine ei hb104 (pm (i_ a0) (ei hb104 ?_));obtain ⟨r106,hr106,F⟩:=ob F;refine ec0 goes13 (spec_IsValidSemiring_ok hr106) (ca (mapc rfl rfl)) S fun w107 hx108 S=>?_;refine ei hb104 (pe (.bool (!r106)) (pv_not rfl) (pe (.bool (!r106)) (pv_pick_f rfl hb104 rfl) (en q103 ?_)));rcases oif F with ⟨hb109,F⟩|⟨hb109,F⟩
 ·refine cf (bnot_t hb109) (sn q102 ?_);refine sR fun _ q110=>?_;refine pa (i_ 1) (en q110 (cw_ret (fin1 rfl rfl ?_)));exact rI F S
 refine ct (bnot_f hb109) ?_;refine sR fun _ q111=>?_;refine pa (i_ 0) (en q111 (cw_ret (tr q102 (fin1 rfl rfl ?_))));exact rI F S
set_option maxHeartbeats 4000000 in
theorem laws_FnSemiringAxioms_ok {w0:World} {u0:Value} {a0:List Int} (ha0:(sliceR u8R 5).rd w0 [u0] a0) {N:Nat} {r:Bool} (F:laws_FnSemiringAxioms N a0=some r): Calls Try.prog 3 #[u0] w0 fun e w'=>e=.returned (.bool r)∧Ext w0 w' := by
 unfold laws_FnSemiringAxioms at F;refine calls_E Try.func3 rfl rfl (dt rfl) ?_;have S:=Sat.start w0;refine sR fun _ q101=>?_;refine pa (.bool false) (en q101 ?_);refine sg fun _ q102=>?_;refine sR fun _ q103=>?_;refine pm u0 ?_;obtain ⟨r104,hr104,F⟩:=ob F;refine ec0 goes4 (laws_big_ok (S.up ha0) hr104) (ca (mapc rfl rfl)) S fun w105 hx106 S=>?_;refine en q103 ?_;rcases oif F with ⟨hb107,F⟩|⟨hb107,F⟩
 ·refine ct hb107 ?_;refine sR fun _ q108=>?_;refine pa (.bool true) (en q108 (cw_ret (tr q102 (fin1 rfl rfl ?_))));exact rB F S
 refine cf hb107 (sn q102 ?_);refine sR fun _ q109=>?_;refine pm u0 ?_;obtain ⟨r110,hr110,F⟩:=ob F;refine ec0 goes5 (spec_DrawSemiringAdd_ok (S.up ha0) hr110) (ca (mapc rfl rfl)) S fun w111 hx112 S=>?_;refine pm (.tuple #[i_ r110.1,i_ r110.2.1,i_ r110.2.2]) (pe (i_ r110.1) (pv_extract rfl rfl) (pe (i_ r110.2.1) (pv_extract rfl rfl) (pe (i_ r110.2.2) (pv_extract rfl rfl) (pa (i_ r110.1) (pa (i_ r110.2.1) (pa (i_ r110.2.2) (en q109 ?_)))))));refine sR fun _ q113=>?_;refine pm u0 ?_;obtain ⟨r114,hr114,F⟩:=ob F;refine ec1 goes7 (laws_fresh_ok (S.up ha0) hr114) (ca (mapc rfl (mapc rfl rfl))) S fun w117 v115 hx118 S=>?_;obtain ⟨r119,hr119,F⟩:=ob F;refine ec0 goes6 (spec_DrawSemiringMul_ok (S.rdAt (R:=(sliceR u8R 5)) 0 rfl) hr119) (ca (mapc rfl rfl)) S fun w120 hx121 S=>?_;refine pm (.tuple #[i_ r119.1,i_ r119.2.1,i_ r119.2.2]) (pe (i_ r119.1) (pv_extract rfl rfl) (pe (i_ r119.2.1) (pv_extract rfl rfl) (pe (i_ r119.2.2) (pv_extract rfl rfl) (pa (i_ r119.1) (pa (i_ r119.2.1) (pa (i_ r119.2.2) (en q113 ?_)))))));refine sg fun _ q122=>?_;replace S:Sat w0 w120 []:=S.rems 1 [0] rfl;refine cw_reg (pm (i_ r110.1) (pm (i_ r110.2.1) (pm (i_ r110.2.2) ?_)));obtain ⟨r123,hr123,F⟩:=ob F;refine ec0 goes8 (impl_SemiringAdd_ok hr123) (ca (mapc rfl (mapc rfl (mapc rfl rfl)))) S fun w124 hx125 S=>?_;refine pa (i_ r123) (en q122 ?_);refine sR fun _ q126=>?_;refine pm (i_ r110.1) (pm (i_ r110.2.1) (pm (i_ r110.2.2) ?_));obtain ⟨r127,hr127,F⟩:=ob F;refine ec0 goes9 (impl_SemiringMul_ok hr127) (ca (mapc rfl (mapc rfl (mapc rfl rfl)))) S fun w128 hx129 S=>?_;refine pa (i_ r127) (en q126 ?_);refine sg fun _ q130=>?_;refine sR fun _ q131=>?_;refine pm (i_ r123) (pm (i_ r110.1) (pm (i_ r110.2.1) (pm (i_ r110.2.2) ?_)));obtain ⟨r132,hr132,F⟩:=ob F;refine ec0 goes10 (spec_SemiringAdd_ok hr132) (ca (mapc rfl (mapc rfl (mapc rfl rfl)))) S fun w133 hx134 S=>?_;refine pe (.bool (r123 != r132)) (pv_neq rfl rfl) (pm (.bool (r123 != r132)) ?_);rcases oif F with ⟨hb135,F⟩|⟨hb135,F⟩
 ·refine eo hb135 (eo hb135 (eo hb135 (eo hb135 (eo hb135 (eo hb135 (pe (.bool true) (pv_pick_t rfl hb135 rfl) (pm (.bool true) (eo rfl (eo rfl (eo rfl (eo rfl (eo rfl (pe (.bool true) (pv_pick_t rfl rfl rfl) (en q131 (ct rfl ?_)))))))))))))));refine sR fun _ q136=>?_;refine pa (.bool false) (en q136 (cw_ret (tr q130 (fin1 rfl rfl ?_))));exact rB F S
 refine ei hb135 (pm (i_ r127) (ei hb135 (pm (i_ r110.1) (ei hb135 (pm (i_ r110.2.1) (ei hb135 (pm (i_ r110.2.2) (ei hb135 ?_))))))));obtain ⟨r137,hr137,F⟩:=ob F;refine ec0 goes11 (spec_SemiringMul_ok hr137) (ca (mapc rfl (mapc rfl (mapc rfl rfl)))) S fun w138 hx139 S=>?_;refine ei hb135 (pe (.bool (r127 != r137)) (pv_neq rfl rfl) (pe (.bool (r127 != r137)) (pv_pick_f rfl hb135 rfl) (pm (.bool (r127 != r137)) ?_)));rcases oif F with ⟨hb140,F⟩|⟨hb140,F⟩
 ·refine eo hb140 (eo hb140 (eo hb140 (eo hb140 (eo hb140 (pe (.bool true) (pv_pick_t rfl hb140 rfl) (en q131 (ct rfl ?_)))))));refine sR fun _ q141=>?_;refine pa (.bool false) (en q141 (cw_ret (tr q130 (fin1 rfl rfl ?_))));exact rB F S
 refine ei hb140 (pm (i_ r110.1) (ei hb140 ?_));obtain ⟨r142,hr142,F⟩:=ob F;refine ec0 goes12 (impl_IsValidSemiring_ok hr142) (ca (mapc rfl rfl)) S fun w143 hx144 S=>?_;refine ei hb140 (pm (i_ r110.1) (ei hb140 ?_));obtain ⟨r145,hr145,F⟩:=ob F;refine ec0 goes13 (spec_IsValidSemiring_ok hr145) (ca (mapc rfl rfl)) S fun w146 hx147 S=>?_;refine ei hb140 (pe (.bool (r142 != r145)) (pv_neqB Try.underlying4 rfl rfl) (pe (.bool (r142 != r145)) (pv_pick_f rfl hb140 rfl) (en q131 ?_)));rcases oif F with ⟨hb148,F⟩|⟨hb148,F⟩
 ·refine ct hb148 ?_;refine sR fun _ q149=>?_;refine pa (.bool false) (en q149 (cw_ret (tr q130 (fin1 rfl rfl ?_))));exact rB F S
 refine cf hb148 (sn q130 ?_);refine sg fun _ q150=>?_;refine sR fun _ q151=>?_;refine pm (i_ r123) (pm (i_ r110.1) (pm (i_ r110.2.2) (pm (i_ r110.2.1) ?_)));obtain ⟨r152,hr152,F⟩:=ob F;refine ec0 goes8 (impl_SemiringAdd_ok hr152) (ca (mapc rfl (mapc rfl (mapc rfl rfl)))) S fun w153 hx154 S=>?_;refine pe (.bool (r123 != r152)) (pv_neq rfl rfl) (pm (.bool (r123 != r152)) ?_);rcases oif F with ⟨hb155,F⟩|⟨hb155,F⟩
 ·refine eo hb155 (eo hb155 (eo hb155 (eo hb155 (eo hb155 (eo hb155 (pe (.bool true) (pv_pick_t rfl hb155 rfl) (pm (.bool true) (eo rfl (eo rfl (eo rfl (eo rfl (eo rfl (eo rfl (eo rfl (eo rfl (eo rfl (eo rfl (eo rfl (eo rfl (pe (.bool true) (pv_pick_t rfl rfl rfl) (pm (.bool true) (eo rfl (eo rfl (eo rfl (eo rfl (eo rfl (eo rfl (eo rfl (eo rfl (eo rfl (eo rfl (eo rfl (eo rfl (pe (.bool true) (pv_pick_t rfl rfl rfl) (en q151 (ct rfl ?_))))))))))))))))))))))))))))))))))));refine sR fun _ q156=>?_;refine pa (.bool false) (en q156 (cw_ret (tr q150 (fin1 rfl rfl ?_))));exact rB F S
 refine ei hb155 (pm (i_ r127) (ei hb155 (pm (i_ r110.1) (ei hb155 (pm (i_ r110.2.2) (ei hb155 (pm (i_ r110.2.1) (ei hb155 ?_))))))));obtain ⟨r157,hr157,F⟩:=ob F;refine ec0 goes9 (impl_SemiringMul_ok hr157) (ca (mapc rfl (mapc rfl (mapc rfl rfl)))) S fun w158 hx159 S=>?_;refine ei hb155 (pe (.bool (r127 != r157)) (pv_neq rfl rfl) (pe (.bool (r127 != r157)) (pv_pick_f rfl hb155 rfl) (pm (.bool (r127 != r157)) ?_)));rcases oif F with ⟨hb160,F⟩|⟨hb160,F⟩
 ·refine eo hb160 (eo hb160 (eo hb160 (eo hb160 (eo hb160 (eo hb160 (eo hb160 (eo hb160 (eo hb160 (eo hb160 (eo hb160 (eo hb160 (pe (.bool true) (pv_pick_t rfl hb160 rfl) (pm (.bool true) (eo rfl (eo rfl (eo rfl (eo rfl (eo rfl (eo rfl (eo rfl (eo rfl (eo rfl (eo rfl (eo rfl (eo rfl (pe (.bool true) (pv_pick_t rfl rfl rfl) (en q151 (ct rfl ?_))))))))))))))))))))))))))));refine sR fun _ q161=>?_;refine pa (.bool false) (en q161 (cw_ret (tr q150 (fin1 rfl rfl ?_))));exact rB F S
 refine ei hb160 (pm (i_ r110.1) (ei hb160 (pm (i_ r123) (ei hb160 (pm (i_ r119.2.1) (ei hb160 ?_))))));obtain ⟨r162,hr162,F⟩:=ob F;refine ec0 goes8 (impl_SemiringAdd_ok hr162) (ca (mapc rfl (mapc rfl (mapc rfl rfl)))) S fun w163 hx164 S=>?_;refine ei hb160 (pm (i_ r110.1) (ei hb160 (pm (i_ r110.2.1) (ei hb160 (pm (i_ r110.1) (ei hb160 (pm (i_ r110.2.2) (ei hb160 (pm (i_ r119.2.1) (ei hb160 ?_))))))))));obtain ⟨r165,hr165,F⟩:=ob F;refine ec0 goes8 (impl_SemiringAdd_ok hr165) (ca (mapc rfl (mapc rfl (mapc rfl rfl)))) S fun w166 hx167 S=>?_;refine ei hb160 ?_;obtain ⟨r168,hr168,F⟩:=ob F;refine ec0 goes8 (impl_SemiringAdd_ok hr168) (ca (mapc rfl (mapc rfl (mapc rfl rfl)))) S fun w169 hx170 S=>?_;refine ei hb160 (pe (.bool (r162 != r168)) (pv_neq rfl rfl) (pe (.bool (r162 != r168)) (pv_pick_f rfl hb160 rfl) (pm (.bool (r162 != r168)) ?_)));rcases oif F with ⟨hb171,F⟩|⟨hb171,F⟩
 ·refine eo hb171 (eo hb171 (eo hb171 (eo hb171 (eo hb171 (eo hb171 (eo hb171 (eo hb171 (eo hb171 (eo hb171 (eo hb171 (eo hb171 (pe (.bool true) (pv_pick_t rfl hb171 rfl) (en q151 (ct rfl ?_))))))))))))));refine sR fun _ q172=>?_;refine pa (.bool false) (en q172 (cw_ret (tr q150 (fin1 rfl rfl ?_))));exact rB F S
 refine ei hb171 (pm (i_ r110.1) (ei hb171 (pm (i_ r127) (ei hb171 (pm (i_ r119.2.1) (ei hb171 ?_))))));obtain ⟨r173,hr173,F⟩:=ob F;refine ec0 goes9 (impl_SemiringMul_ok hr173) (ca (mapc rfl (mapc rfl (mapc rfl rfl)))) S fun w174 hx175 S=>?_;refine ei hb171 (pm (i_ r110.1) (ei hb171 (pm (i_ r110.2.1) (ei hb171 (pm (i_ r110.1) (ei hb171 (pm (i_ r110.2.2) (ei hb171 (pm (i_ r119.2.1) (ei hb171 ?_))))))))));obtain ⟨r176,hr176,F⟩:=ob F;refine ec0 goes9 (impl_SemiringMul_ok hr176) (ca (mapc rfl (mapc rfl (mapc rfl rfl)))) S fun w177 hx178 S=>?_;refine ei hb171 ?_;obtain ⟨r179,hr179,F⟩:=ob F;refine ec0 goes9 (impl_SemiringMul_ok hr179) (ca (mapc rfl (mapc rfl (mapc rfl rfl)))) S fun w180 hx181 S=>?_;refine ei hb171 (pe (.bool (r173 != r179)) (pv_neq rfl rfl) (pe (.bool (r173 != r179)) (pv_pick_f rfl hb171 rfl) (en q151 ?_)));rcases oif F with ⟨hb182,F⟩|⟨hb182,F⟩
 ·refine ct hb182 ?_;refine sR fun _ q183=>?_;refine pa (.bool false) (en q183 (cw_ret (tr q150 (fin1 rfl rfl ?_))));exact rB F S
 refine cf hb182 (sn q150 ?_);refine sR fun _ q184=>?_;refine pm (i_ r110.1) (pm (i_ r119.2.1) (pm (i_ r123) ?_));obtain ⟨r185,hr185,F⟩:=ob F;refine ec0 goes9 (impl_SemiringMul_ok hr185) (ca (mapc rfl (mapc rfl (mapc rfl rfl)))) S fun w186 hx187 S=>?_;refine pa (i_ r185) (en q184 ?_);refine sR fun _ q188=>?_;refine pm (i_ r110.1) (pm (i_ r110.1) (pm (i_ r119.2.1) (pm (i_ r110.2.1) ?_)));obtain ⟨r189,hr189,F⟩:=ob F;refine ec0 goes9 (impl_SemiringMul_ok hr189) (ca (mapc rfl (mapc rfl (mapc rfl rfl)))) S fun w190 hx191 S=>?_;refine pm (i_ r110.1) (pm (i_ r119.2.1) (pm (i_ r110.2.2) ?_));obtain ⟨r192,hr192,F⟩:=ob F;refine ec0 goes9 (impl_SemiringMul_ok hr192) (ca (mapc rfl (mapc rfl (mapc rfl rfl)))) S fun w193 hx194 S=>?_;obtain ⟨r195,hr195,F⟩:=ob F;refine ec0 goes8 (impl_SemiringAdd_ok hr195) (ca (mapc rfl (mapc rfl (mapc rfl rfl)))) S fun w196 hx197 S=>?_;refine pa (i_ r195) (en q188 ?_);refine sR fun _ q198=>?_;refine pm (i_ r110.1) ?_;obtain ⟨r199,hr199,F⟩:=ob F;refine ec0 goes14 (impl_SemiringZero_ok hr199) (ca (mapc rfl rfl)) S fun w200 hx201 S=>?_;refine pa (i_ r199) (en q198 ?_);refine sR fun _ q202=>?_;refine pm (i_ r110.1) ?_;obtain ⟨r203,hr203,F⟩:=ob F;refine ec0 goes15 (impl_SemiringOne_ok hr203) (ca (mapc rfl rfl)) S fun w204 hx205 S=>?_;refine pa (i_ r203) (en q202 ?_);refine sR fun _ q206=>?_;refine pm (i_ r185) (pm (i_ r195) (pe (.bool (r185 == r195)) (pv_eql rfl rfl) (pm (.bool (r185 == r195)) ?_)));rcases oif F with ⟨hb207,F⟩|⟨hb207,F⟩
 ·refine ei hb207 (pm (i_ r110.1) (ei hb207 (pm (i_ r203) (ei hb207 (pm (i_ r110.2.1) (ei hb207 ?_))))));obtain ⟨r208,hr208,F⟩:=ob F;refine ec0 goes9 (impl_SemiringMul_ok hr208) (ca (mapc rfl (mapc rfl (mapc rfl rfl)))) S fun w209 hx210 S=>?_;refine ei hb207 (pm (i_ r110.1) (ei hb207 (pm (i_ r199) (ei hb207 (pm (i_ r110.2.1) (ei hb207 ?_))))));obtain ⟨r211,hr211,F⟩:=ob F;refine ec0 goes8 (impl_SemiringAdd_ok hr211) (ca (mapc rfl (mapc rfl (mapc rfl rfl)))) S fun w212 hx213 S=>?_;refine ei hb207 (pe (.bool (r208 == r211)) (pv_eql rfl rfl) (pe (.bool (r208 == r211)) (pv_pick_t rfl hb207 rfl) (pm (.bool (r208 == r211)) ?_)));rcases oif F with ⟨hb214,F⟩|⟨hb214,F⟩
  ·refine ei hb214 (pm (i_ r110.1) (ei hb214 (pm (i_ r199) (ei hb214 (pm (i_ r110.2.1) (ei hb214 ?_))))));obtain ⟨r215,hr215,F⟩:=ob F;refine ec0 goes9 (impl_SemiringMul_ok hr215) (ca (mapc rfl (mapc rfl (mapc rfl rfl)))) S fun w216 hx217 S=>?_;refine ei hb214 (pm (i_ r110.1) (ei hb214 (pm (i_ r199) (ei hb214 (pm (i_ r199) (ei hb214 ?_))))));obtain ⟨r218,hr218,F⟩:=ob F;refine ec0 goes9 (impl_SemiringMul_ok hr218) (ca (mapc rfl (mapc rfl (mapc rfl rfl)))) S fun w219 hx220 S=>?_;refine ei hb214 (pe (.bool (r215 == r218)) (pv_eql rfl rfl) (pe (.bool (r215 == r218)) (pv_pick_t rfl hb214 rfl) (pm (.bool (r215 == r218)) ?_)));rcases oif F with ⟨hb221,F⟩|⟨hb221,F⟩
   ·refine ei hb221 (pm (i_ r199) (ei hb221 (pm (i_ r110.1) (ei hb221 ?_))));obtain ⟨r222,hr222,F⟩:=ob F;refine ec0 goes16 (spec_SemiringZero_ok hr222) (ca (mapc rfl rfl)) S fun w223 hx224 S=>?_;refine ei hb221 (pe (.bool (r199 == r222)) (pv_eql rfl rfl) (pe (.bool (r199 == r222)) (pv_pick_t rfl hb221 rfl) (pm (.bool (r199 == r222)) ?_)));rcases oif F with ⟨hb225,F⟩|⟨hb225,F⟩
    ·refine ei hb225 (pm (i_ r203) (ei hb225 (pm (i_ r110.1) (ei hb225 ?_))));obtain ⟨r226,hr226,F⟩:=ob F;refine ec0 goes17 (spec_SemiringOne_ok hr226) (ca (mapc rfl rfl)) S fun w227 hx228 S=>?_;refine ei hb225 (pe (.bool (r203 == r226)) (pv_eql rfl rfl) (pe (.bool (r203 == r226)) (pv_pick_t rfl hb225 rfl) (pa (.bool (r203 == r226)) (en q206 (cw_ret (fin1 rfl rfl ?_))))));exact rB F S
    refine eo hb225 (eo hb225 (eo hb225 (eo hb225 (pe (.bool false) (pv_pick_f rfl hb225 rfl) (pa (.bool false) (en q206 (cw_ret (fin1 rfl rfl ?_))))))));exact rB F S
   refine eo hb221 (eo hb221 (eo hb221 (eo hb221 (pe (.bool false) (pv_pick_f rfl hb221 rfl) (pm (.bool false) (eo rfl (eo rfl (eo rfl (eo rfl (pe (.bool false) (pv_pick_f rfl rfl rfl) (pa (.bool false) (en q206 (cw_ret (fin1 rfl rfl ?_))))))))))))));exact rB F S
  refine eo hb214 (eo hb214 (eo hb214 (eo hb214 (eo hb214 (eo hb214 (eo hb214 (eo hb214 (eo hb214 (pe (.bool false) (pv_pick_f rfl hb214 rfl) (pm (.bool false) (eo rfl (eo rfl (eo rfl (eo rfl (pe (.bool false) (pv_pick_f rfl rfl rfl) (pm (.bool false) (eo rfl (eo rfl (eo rfl (eo rfl (pe (.bool false) (pv_pick_f rfl rfl rfl) (pa (.bool false) (en q206 (cw_ret (fin1 rfl rfl ?_)))))))))))))))))))))))));exact rB F S
 refine eo hb207 (eo hb207 (eo hb207 (eo hb207 (eo hb207 (eo hb207 (eo hb207 (eo hb207 (eo hb207 (pe (.bool false) (pv_pick_f rfl hb207 rfl) (pm (.bool false) (eo rfl (eo rfl (eo rfl (eo rfl (eo rfl (eo rfl (eo rfl (eo rfl (eo rfl (pe (.bool false) (pv_pick_f rfl rfl rfl) (pm (.bool false) (eo rfl (eo rfl (eo rfl (eo rfl (pe (.bool false) (pv_pick_f rfl rfl rfl) (pm (.bool false) (eo rfl (eo rfl (eo rfl (eo rfl (pe (.bool false) (pv_pick_f rfl rfl rfl) (pa (.bool false) (en q206 (cw_ret (fin1 rfl rfl ?_))))))))))))))))))))))))))))))))))));exact rB F S

end Go.Proofs.Ytpobjikdmaifpaa
namespace Go.Proofs.Ytpobjikdmaifpaa.fnSemiringAxioms
open Go.ChangeShapes Go.WideShapes Go.ChangeAt Go.RowKit

set_option maxRecDepth 100000 in
theorem lifted (os:Os) (started:os.Started) (H:Type) (enc:TypeId × Value→H) :
  ReturnsInHanded {} Try.checked os 3 .any (Rows.fnSemiringAxiomsSpec.pre6 enc Try.prog Try.f3 Rows.fnSemiringAxiomsRow.domain false) (Rows.fnSemiringAxiomsSpec.post enc Try.prog Try.f3 false true false false):=by
 refine returnsInHanded_of_change (C:=Try.checked) own_knob started (by kernel_rfl) Try.func3
  (ChangeSpec.witness6 (enc:=enc) (C:=Try.checked) false ⟨#[],#[.slice none 0 0],[]⟩ 8 (by kernel_rfl) (by kernel_rfl) (by kernel_rfl) (by kernel_rfl)) ?_
 intro W base args ds gs before hval0 hW hcnd _
 have hval:∀ (j:Nat) t v,Try.f3.params[j]? = some t→args[j]? = some v→Value.okWide Try.prog W .any base t v:=hval0
 have hW':=hW
 obtain ⟨p,q,hA0,hV,rfl,hfz,hnd⟩:=hW
 have hA:DataW.TrodAll enc Try.prog W 0 (fun _=>true) true Try.f3.params.toList args.toList ds p:=hA0
 rw [Try.params3] at hA hval
 obtain ⟨v0,vs0,d0,ds0,p0,q0,hargs,rfl,rfl,h0,r0⟩:=trodAll_cons hA
 obtain ⟨rfl,rfl,rfl⟩:=trodAll_nil r0
 obtain rfl:args=#[v0]:=by cases args;simp_all
 obtain ⟨rfl,rfl⟩:=trodVars_none hV
 clear hA0 hval0
 simp only [List.append_nil] at hW'
 have hlt0:∀ x∈p0,x.block<W.heap.size:=fun x hx=>by have:=hW'.lt x (by simp [hx]);simpa using this
 have k0:=h0
 obtain ⟨ao0,len0,cap0,rfl⟩:=okWide_slice Try.underlying22 (hval 0 22 v0 rfl rfl)
 obtain ⟨fuel0,hf0⟩:=h0
 obtain ⟨y0,hF0⟩:=opensF22 enc W 0 (fun _=>true) true fuel0 _ _ hf0
 obtain ⟨hy0,hr0⟩:=slice_F8 hF0
 refine (laws_FnSemiringAxioms_ok hy0 (law_FnSemiringAxioms (N:=1073742848) (Nat.le_refl _) (rdp22 hy0) hr0)).mono fun e W' ⟨he,hg⟩=>?_
 subst he
 exact ⟨_,rfl,_,_,_,[],_,[],hW',trodAll_cons_mk (shut_bool Try.underlying4 _) trodAll_mk0,(trodAll_cons_mk (Below.trod laid_out (by kernel_rfl) (of_decide_eq_true (by kernel_rfl)) k0 hg hlt0) trodAll_mk0),rfl,hg.frame _,fun h=>by cases h⟩

theorem over:Rows.fnSemiringAxiomsRow.holds Try.pinned (OpenSpec.ofChange Rows.fnSemiringAxiomsSpec) :=
 OpenClaim.holds_of_wide 3 Try.f3 rfl rfl rfl rfl rfl rfl rfl ⟨rfl,rfl,rfl,rfl,rfl⟩ rfl rfl rfl rfl rfl (by kernel_rfl) Try.func3 (by kernel_rfl)
  (of_decide_eq_true (by kernel_rfl)) (by unfold Func.isWrapper;first | (rw [if_pos (by decide +kernel)];kernel_rfl) | (rw [if_neg (by decide +kernel)];exact ⟨rfl,rfl⟩))
  (fun os started H enc _=>lifted os started H enc)

theorem proved:Rows.FnSemiringAxiomsSaid:=over
#print axioms proved
end Go.Proofs.Ytpobjikdmaifpaa.fnSemiringAxioms
