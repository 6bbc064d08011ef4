/- Short names for facts that are used often. -/
import Derived.WalkKit
import Derived.ProofKit
import Derived.WalkLawsBesides
import Derived.Outline
import Derived.Lib.Hide
import Derived.Deep.Quiet
import Derived.Deep.LoopGhost
import Derived.IntWalk
import Derived.Test.YtijmbnbnojicjaaGreatDoorRows
import Derived.OpenShut
import Derived.Lib.SmallJoins
import Derived.Laws.BytesString
namespace Go.Proofs.YtijmbnbnojicjaaGreatDoor
open Go.RowKit
theorem oa {p:Prop} (h:p:=by omega):p:=h
abbrev yP := List Int
abbrev T1_ := Int × Int
abbrev T2_ := List yP
abbrev T3_ := List T1_
abbrev T4_ := ByteArray × List Int
abbrev T5_ := Int × List yP
abbrev T6_ := List T3_
abbrev T7_ := List T4_
abbrev T8_ := ByteArray × T5_
abbrev T9_ := List T8_
abbrev o5 := Int × List T4_ × List Int
abbrev OI := List T3_ × List T1_ × List T1_
theorem bP:type_of% @List.length_singleton:=@List.length_singleton
theorem bA:type_of% @List.getElem_mem:=@List.getElem_mem
theorem bZ:type_of% @List.length_append:=@List.length_append
theorem b9:type_of% @List.length_cons:=@List.length_cons
theorem ce:type_of% @Bool.and_eq_true:=@Bool.and_eq_true
theorem gR:type_of% @List.take_succ_eq_append_getElem:=@List.take_succ_eq_append_getElem
theorem c5:type_of% @List.length_take:=@List.length_take
theorem cx:type_of% @List.mem_cons_self:=@List.mem_cons_self
theorem cD:type_of% @List.mem_cons_of_mem:=@List.mem_cons_of_mem
theorem bT:type_of% @List.length_map:=@List.length_map
theorem bX:type_of% @List.mem_cons:=@List.mem_cons
theorem eI:type_of% @Result.andThen_ok:=@Result.andThen_ok
theorem gP:type_of% @List.take_length:=@List.take_length
theorem cU:type_of% @List.mem_append:=@List.mem_append
theorem bN:type_of% @Nat.le_refl:=@Nat.le_refl
theorem eG:type_of% @Bool.true_and:=@Bool.true_and
theorem bL:type_of% @Option.some.inj:=@Option.some.inj
theorem df:type_of% @List.all_eq_true:=@List.all_eq_true
theorem d7:type_of% @List.mem_singleton:=@List.mem_singleton
theorem ie:type_of% @List.mem_append_left:=@List.mem_append_left
theorem dQ:type_of% @Sem.run_bind:=@Sem.run_bind
theorem eS:type_of% @List.append_assoc:=@List.append_assoc
theorem eU:type_of% @List.map_append:=@List.map_append
theorem gg:type_of% @List.getElem_of_mem:=@List.getElem_of_mem
theorem gu:type_of% @List.length_nil:=@List.length_nil
theorem jk:type_of% @Array.getElem?_eq_some_iff:=@Array.getElem?_eq_some_iff
theorem cV:type_of% @Nat.zero_le:=@Nat.zero_le
theorem jx:type_of% @List.mem_append_right:=@List.mem_append_right
theorem gd:type_of% @List.length_set:=@List.length_set
theorem ko:type_of% @List.length_eq_zero_iff:=@List.length_eq_zero_iff
theorem fJ:type_of% @Sem.run_pure:=@Sem.run_pure
theorem dA:type_of% @Nat.zero_add:=@Nat.zero_add
theorem mN:type_of% @List.drop_of_length_le:=@List.drop_of_length_le
theorem gE:type_of% @List.drop_zero:=@List.drop_zero
theorem dh:type_of% @List.mem_map:=@List.mem_map
theorem gH:type_of% @List.map_cons:=@List.map_cons
theorem jo:type_of% @List.pairwise_cons:=@List.pairwise_cons
theorem eJ:type_of% @Int.toNat_natCast:=@Int.toNat_natCast
theorem iH:type_of% @List.length_drop:=@List.length_drop
theorem iS:type_of% @List.getElem_map:=@List.getElem_map
theorem jr:type_of% @List.getElem?_take:=@List.getElem?_take
theorem me:type_of% @Nat.mul_le_mul_right:=@Nat.mul_le_mul_right
theorem nY:type_of% @Array.getElem?_eq_getElem:=@Array.getElem?_eq_getElem
theorem kq:type_of% @Rat.intCast_mul:=@Rat.intCast_mul
theorem nE:type_of% @List.take_of_length_le:=@List.take_of_length_le
theorem nD:type_of% @List.getD_eq_getElem?_getD:=@List.getD_eq_getElem?_getD
theorem ka:type_of% @Nat.pow_le_pow_right:=@Nat.pow_le_pow_right
theorem pv:type_of% @Nat.add_sub_cancel_left:=@Nat.add_sub_cancel_left
theorem lB:type_of% @Nat.sub_zero:=@Nat.sub_zero
theorem kf:type_of% @Int.eq_ofNat_of_zero_le:=@Int.eq_ofNat_of_zero_le
theorem mF:type_of% @List.nodup_append:=@List.nodup_append
theorem jm:type_of% @List.nodup_cons:=@List.nodup_cons
theorem mr:type_of% @Array.getElem?_toList:=@Array.getElem?_toList
theorem jI:type_of% @List.append_nil:=@List.append_nil
theorem jn:type_of% @List.mem_filter:=@List.mem_filter
theorem kT:type_of% @Bool.false_and:=@Bool.false_and
theorem px:type_of% @List.getElem?_eq_getElem:=@List.getElem?_eq_getElem
theorem jK:type_of% @Addr.add_lit:=@Addr.add_lit
theorem xm:type_of% @List.takeWhile_cons:=@List.takeWhile_cons
theorem kh:type_of% @Rat.pow_succ:=@Rat.pow_succ
theorem tw:type_of% @List.pairwise_iff_getElem:=@List.pairwise_iff_getElem
theorem rZ:type_of% @List.mem_or_eq_of_mem_set:=@List.mem_or_eq_of_mem_set
theorem pf:type_of% @List.range'_concat:=@List.range'_concat
theorem uB:type_of% @List.length_filter_le:=@List.length_filter_le
theorem vk:type_of% @Array.getD_eq_getD_getElem?:=@Array.getD_eq_getD_getElem?
theorem qD:type_of% @Bool.and_false:=@Bool.and_false
theorem rJ:type_of% @List.mem_of_mem_take:=@List.mem_of_mem_take
theorem mo:type_of% @Rat.mul_nonneg:=@Rat.mul_nonneg
theorem kS:type_of% @List.ext_getElem:=@List.ext_getElem
theorem mT:type_of% @Nat.add_zero:=@Nat.add_zero
theorem pC:type_of% @List.not_mem_nil:=@List.not_mem_nil
theorem tq:type_of% @List.getElem?_append_left:=@List.getElem?_append_left
theorem nC:type_of% @Classical.byContradiction:=@Classical.byContradiction
theorem sa:type_of% @List.toList_toArray:=@List.toList_toArray
theorem sl:type_of% @List.perm_iff_count:=@List.perm_iff_count
theorem qj:type_of% @List.size_toArray:=@List.size_toArray
theorem qp:type_of% @Option.some.injEq:=@Option.some.injEq
theorem vd:type_of% @Rat.mul_le_mul_of_nonneg_left:=@Rat.mul_le_mul_of_nonneg_left
theorem ql:type_of% @List.perm_append_comm:=@List.perm_append_comm
theorem tv:type_of% @Nat.eq_of_beq_eq_true:=@Nat.eq_of_beq_eq_true
theorem rP:type_of% @Nat.add_sub_cancel:=@Nat.add_sub_cancel
theorem lA:type_of% @Int.le_refl:=@Int.le_refl
theorem vz:type_of% @List.pairwise_singleton:=@List.pairwise_singleton
theorem vv:type_of% @Rat.intCast_eq_zero_iff:=@Rat.intCast_eq_zero_iff
theorem qh:type_of% @List.Perm.append_right:=@List.Perm.append_right
theorem ou:type_of% @List.map_nil:=@List.map_nil
theorem nx:type_of% @List.map_map:=@List.map_map
theorem tK:type_of% @Array.length_toList:=@Array.length_toList
theorem jL:type_of% @Nat.one_mul:=@Nat.one_mul
theorem rW:type_of% @Nat.mod_eq_of_lt:=@Nat.mod_eq_of_lt
theorem qy:type_of% @List.filter_cons:=@List.filter_cons
theorem Az:type_of% @List.length_erase_of_mem:=@List.length_erase_of_mem
theorem ma:type_of% @Nat.add_mul:=@Nat.add_mul
theorem Bx:type_of% @List.eq_nil_of_length_eq_zero:=@List.eq_nil_of_length_eq_zero
theorem lI:type_of% @Nat.mul_le_mul:=@Nat.mul_le_mul
theorem uD:type_of% @List.pairwise_append:=@List.pairwise_append
theorem th:type_of% @List.flatMap_cons:=@List.flatMap_cons
theorem nu:type_of% @Nat.min_eq_left:=@Nat.min_eq_left
theorem rQ:type_of% @Bool.or_eq_true:=@Bool.or_eq_true
theorem n6:type_of% @List.map_congr_left:=@List.map_congr_left
theorem u9:type_of% @Int.toNat_of_nonneg:=@Int.toNat_of_nonneg
theorem uL:type_of% @List.length_pos_of_mem:=@List.length_pos_of_mem
theorem rX:type_of% @Rat.intCast_le_intCast:=@Rat.intCast_le_intCast
theorem pp:type_of% @List.mem_flatMap:=@List.mem_flatMap
theorem xB:type_of% @List.getElem?_append_right:=@List.getElem?_append_right
theorem uP:type_of% @List.filter_append:=@List.filter_append
theorem od:type_of% @Nat.eq_zero_or_pos:=@Nat.eq_zero_or_pos
theorem uz:type_of% @Rat.natCast_nonneg:=@Rat.natCast_nonneg
theorem mb:type_of% @List.length_replicate:=@List.length_replicate
theorem xb:type_of% @List.getElem?_eq_some_iff:=@List.getElem?_eq_some_iff
theorem AY:type_of% @List.mem_of_find?_eq_some:=@List.mem_of_find?_eq_some
theorem tf:type_of% @Oper.upon_value:=@Oper.upon_value
theorem tI:type_of% @List.foldl_cons:=@List.foldl_cons
theorem Eg:type_of% @Array.all_eq_true_iff_forall_mem:=@Array.all_eq_true_iff_forall_mem
theorem n9:type_of% @Nat.mul_one:=@Nat.mul_one
theorem se:type_of% @List.getElem_take:=@List.getElem_take
theorem nB:type_of% @Rat.div_def:=@Rat.div_def
theorem pu:type_of% @List.getElem_range':=@List.getElem_range'
theorem nX:type_of% @Nat.pow_le_pow_left:=@Nat.pow_le_pow_left
theorem ve:type_of% @List.take_append:=@List.take_append
theorem Bp:type_of% @Int.dvd_mul_of_dvd_left:=@Int.dvd_mul_of_dvd_left
theorem Be:type_of% @Rat.mul_le_mul_of_nonneg_right:=@Rat.mul_le_mul_of_nonneg_right
theorem xn:type_of% @Bool.false_eq_true:=@Bool.false_eq_true
theorem xI:type_of% @Int.add_zero:=@Int.add_zero
theorem oC:type_of% @Nat.pow_succ:=@Nat.pow_succ
theorem rK:type_of% @Rat.pow_zero:=@Rat.pow_zero
theorem ta:type_of% @List.length_range':=@List.length_range'
theorem uC:type_of% @Rat.natCast_add:=@Rat.natCast_add
theorem tP:type_of% @Bool.false_or:=@Bool.false_or
theorem tm:type_of% @Nat.add_assoc:=@Nat.add_assoc
theorem rO:type_of% @Int.le_of_dvd:=@Int.le_of_dvd
theorem Bk:type_of% @List.take_append_drop:=@List.take_append_drop
theorem AT:type_of% @List.set_append_right:=@List.set_append_right
theorem A9:type_of% @Nat.le_of_ble_eq_true:=@Nat.le_of_ble_eq_true
theorem wZ:type_of% @Bool.not_eq_true':=@Bool.not_eq_true'
theorem sq:type_of% @Sem.run_ite:=@Sem.run_ite
theorem qH:type_of% @Int.mul_nonneg:=@Int.mul_nonneg
theorem vb:type_of% @List.getElem?_set_ne:=@List.getElem?_set_ne
theorem tG:type_of% @Nat.succ_mul:=@Nat.succ_mul
theorem rL:type_of% @Int.pow_succ:=@Int.pow_succ
theorem sY:type_of% @Int.le_of_lt:=@Int.le_of_lt
theorem qB:type_of% @Rat.le_of_lt:=@Rat.le_of_lt
theorem uZ:type_of% @List.length_pos_iff:=@List.length_pos_iff
theorem Bs:type_of% @List.replicate_succ:=@List.replicate_succ
theorem Aq:type_of% @List.filter_sublist:=@List.filter_sublist
theorem vr:type_of% @Bool.and_true:=@Bool.and_true
theorem wW:type_of% @List.eq_of_mem_replicate:=@List.eq_of_mem_replicate
theorem xF:type_of% @List.take_left':=@List.take_left'
theorem wX:type_of% @Rat.intCast_neg:=@Rat.intCast_neg
theorem Bb:type_of% @List.getElem?_drop:=@List.getElem?_drop
theorem s5:type_of% @Nat.zero_mul:=@Nat.zero_mul
theorem xM:type_of% @Oper.upon_skip:=@Oper.upon_skip
theorem AF:type_of% @Array.size_append:=@Array.size_append
theorem A7:type_of% @List.count_append:=@List.count_append
theorem mM:type_of% @Int.mul_le_mul:=@Int.mul_le_mul
theorem tO:type_of% @Int.mul_zero:=@Int.mul_zero
theorem tB:type_of% @List.mem_range'_1:=@List.mem_range'_1
theorem xS:type_of% @List.take_set:=@List.take_set
theorem uE:type_of% @List.all_cons:=@List.all_cons
theorem wV:type_of% @List.replicate_succ':=@List.replicate_succ'
theorem AC:type_of% @Int.mul_le_mul_of_nonneg_left:=@Int.mul_le_mul_of_nonneg_left
theorem sh:type_of% @Int.mul_one:=@Int.mul_one
theorem AB:type_of% @List.mem_of_mem_drop:=@List.mem_of_mem_drop
theorem mc:type_of% @List.nil_append:=@List.nil_append
theorem xJ:type_of% @List.cons.injEq:=@List.cons.injEq
theorem uI:type_of% @Rat.intCast_pos:=@Rat.intCast_pos
theorem uV:type_of% @Nat.not_lt_zero:=@Nat.not_lt_zero
theorem qg:type_of% @Int.natCast_pow:=@Int.natCast_pow
theorem uX:type_of% @Rat.le_trans:=@Rat.le_trans
theorem xr:type_of% @Rat.zero_mul:=@Rat.zero_mul
theorem uF:type_of% @Rat.intCast_nonneg:=@Rat.intCast_nonneg
theorem xd:type_of% @Int.lt_of_le_of_lt:=@Int.lt_of_le_of_lt
theorem At:type_of% @List.Pairwise.imp:=@List.Pairwise.imp
theorem Aw:type_of% @List.getElem_drop:=@List.getElem_drop
theorem wY:type_of% @Option.getD_some:=@Option.getD_some
theorem vt:type_of% @List.range'_succ:=@List.range'_succ
theorem qz:type_of% @Ne.symm:=@Ne.symm
theorem tN:type_of% @Int.ofNat_le:=@Int.ofNat_le
theorem pd:type_of% @Nat.zero_pow:=@Nat.zero_pow
theorem uR:type_of% @Int.one_mul:=@Int.one_mul
theorem nA:type_of% @Nat.mul_comm:=@Nat.mul_comm
theorem rF:type_of% @Option.bind_some:=@Option.bind_some
theorem tQ:type_of% @List.drop_eq_getElem_cons:=@List.drop_eq_getElem_cons
theorem xO:type_of% @List.getElem_append_right:=@List.getElem_append_right
theorem AR:type_of% @List.getElem_append_left:=@List.getElem_append_left
theorem xf:type_of% @Int.natCast_mul:=@Int.natCast_mul
theorem ae:type_of% @cond_true:=@cond_true
theorem ai:type_of% @cond_false:=@cond_false
theorem aJ:type_of% @decide_eq_true:=@decide_eq_true
theorem aN:type_of% @decide_eq_false:=@decide_eq_false
theorem aX:type_of% @congrArg:=@congrArg
theorem aK:type_of% @if_pos:=@if_pos
theorem aS:type_of% @if_neg:=@if_neg
theorem dm:type_of% @decide_eq_true_eq:=@decide_eq_true_eq
theorem fY:type_of% @run_underlying:=@run_underlying
theorem lq:type_of% @wpList_plain:=@wpList_plain
theorem mn:type_of% @bne_eq_false_iff_eq:=@bne_eq_false_iff_eq
theorem ny:type_of% @of_decide_eq_true:=@of_decide_eq_true
theorem l8:type_of% @beq_eq_false_iff_ne:=@beq_eq_false_iff_ne
theorem kZ:type_of% @cell_of_row:=@cell_of_row
theorem mS:type_of% @run_program:=@run_program
theorem mG:type_of% @dif_pos:=@dif_pos
theorem AM:type_of% @decide_eq_false_iff_not:=@decide_eq_false_iff_not
theorem nv:type_of% @if_false:=@if_false
theorem qk:type_of% @beq_iff_eq:=@beq_iff_eq
theorem rN:type_of% @or_false:=@or_false
theorem xz:type_of% @decide_eq_decide:=@decide_eq_decide
theorem rD:type_of% @wp_mono:=@wp_mono
abbrev Ext (w w':World):Prop:=Below w.heap.size w w'

theorem Ext.refl (w:World):Ext w w:=Below.refl _ _
theorem Ext.trans {a b c:World} (h:Ext a b) (k:Ext b c):Ext a c:=Below.trans h (k.mono h.size)
theorem Below.andExt {B:Nat} {a b c:World} (h:Below B a b) (hB:B<=b.heap.size) (k:Ext b c):Below B a c:=Below.trans h (k.mono hB)

structure Chg (fp:List Nat) (w w':World):Prop where
 os:w'.os=w.os
 tape:w'.tape=w.tape
 output:w'.output=w.output
 size:w.heap.size<=w'.heap.size
 block:∀ k,k<w.heap.size->k∉fp->w'.heap[k]? = w.heap[k]?

theorem Chg.of_ext {w w':World} (h:Ext w w') (fp:List Nat):Chg fp w w':=⟨h.os,h.tape,h.output,h.size,fun k hk _=>h.block k hk⟩
theorem Chg.trans {fp:List Nat} {a b c:World} (h:Chg fp a b) (k:Chg fp b c):Chg fp a c :=
 ⟨k.os.trans h.os,k.tape.trans h.tape,k.output.trans h.output,Nat.le_trans h.size k.size,fun i hi hn=>(k.block i (Nat.lt_of_lt_of_le hi h.size) hn).trans (h.block i hi hn)⟩
theorem Chg.mono {fp fp':List Nat} {a b:World} (h:Chg fp a b) (hs:∀ x∈fp,x∈fp'):Chg fp' a b :=
 ⟨h.os,h.tape,h.output,h.size,fun k hk hn=>h.block k hk (fun hm=>hn (hs k hm))⟩
theorem Chg.ext {a b:World} (h:Chg [] a b):Ext a b:=⟨h.os,h.tape,h.output,h.size,fun k hk=>h.block k hk (by simp)⟩
theorem Chg.refl (fp:List Nat) (w:World):Chg fp w w:=⟨rfl,rfl,rfl,bN _,fun _ _ _=>rfl⟩
theorem Chg.alloc (w:World) (o:Obj):Chg [] w (w.alloc o):=Chg.of_ext ((Below.refl _ _).alloc (bN _) o) _

theorem IH {B:Nat} {a b c:World} {fp:List Nat} (h:Below B a b) (hB:B<=b.heap.size) (k:Chg fp b c) (hf:∀ x∈fp,B<=x):Below B a c :=
  ⟨k.os.trans h.os,k.tape.trans h.tape,k.output.trans h.output,Nat.le_trans h.size k.size,
   fun i hi=>(k.block i (Nat.lt_of_lt_of_le hi hB) (fun hm=>by have:=hf i hm;omega)).trans (h.block i hi)⟩

structure Rep (α:Type) where
 sz:Nat
 rd:World->List Value->α->Prop
 own:World->List Value->α->List Nat->Prop
 rd_len:∀ {w cs x},rd w cs x->cs.length=sz
 rd_one:∀ {w cs x},rd w cs x->∀ c∈cs,c.oneCell'=true
 rd_ext:∀ {w w' cs x},rd w cs x->Ext w w'->rd w' cs x
 own_rd:∀ {w cs x fp},own w cs x fp->rd w cs x
 own_ext:∀ {w w' cs x fp},own w cs x fp->(∀ b∈fp,w'.heap[b]? = w.heap[b]?)->own w' cs x fp
 own_lt:∀ {w cs x fp},own w cs x fp->∀ b∈fp,b<w.heap.size

def cA:Rep Int where
 sz:=1
 rd _ cs n:=cs=[.int .i64 n]
 own _ cs n fp:=cs=[.int .i64 n]/\fp=[]
 rd_len h:=by subst h;rfl
 rd_one h:=by subst h;simp [Value.oneCell']
 rd_ext h _:=h
 own_rd h:=h.1
 own_ext h _:=h
 own_lt h:=by rw [h.2];simp

def nR:Rep ByteArray where
 sz:=1
 rd _ cs s:=cs=[.string s]/\s.size<=9223372036854775807
 own _ cs s fp:=(cs=[.string s]/\s.size<=9223372036854775807)/\fp=[]
 rd_len h:=by rw [h.1];rfl
 rd_one h:=by rw [h.1];simp [Value.oneCell']
 rd_ext h _:=h
 own_rd h:=h.1
 own_ext h _:=h
 own_lt h:=by rw [h.2];simp

def rz {α β:Type} (R:Rep α) (S:Rep β):Rep (α × β) where
 sz:=R.sz+S.sz
 rd w cs x:=∃ c1 c2,cs=c1++c2/\R.rd w c1 x.1/\S.rd w c2 x.2
 own w cs x fp:=∃ c1 c2 f1 f2,cs=c1++c2/\fp=f1++f2/\R.own w c1 x.1 f1/\S.own w c2 x.2 f2
 rd_len h:=by obtain ⟨c1,c2,rfl,h1,h2⟩:=h;rw [bZ,R.rd_len h1,S.rd_len h2]
 rd_one h:=by
  obtain ⟨c1,c2,rfl,h1,h2⟩:=h
  intro c hc
  rcases cU.1 hc with h | h
  ·exact R.rd_one h1 c h
  ·exact S.rd_one h2 c h
 rd_ext h he:=by obtain ⟨c1,c2,rfl,h1,h2⟩:=h;exact ⟨c1,c2,rfl,R.rd_ext h1 he,S.rd_ext h2 he⟩
 own_rd h:=by obtain ⟨c1,c2,f1,f2,rfl,rfl,h1,h2⟩:=h;exact ⟨c1,c2,rfl,R.own_rd h1,S.own_rd h2⟩
 own_ext h he:=by
  obtain ⟨c1,c2,f1,f2,rfl,rfl,h1,h2⟩:=h
  exact ⟨c1,c2,f1,f2,rfl,rfl,R.own_ext h1 (fun b hb=>he b (ie _ hb)),S.own_ext h2 (fun b hb=>he b (jx _ hb))⟩
 own_lt h:=by
  obtain ⟨c1,c2,f1,f2,rfl,rfl,h1,h2⟩:=h
  intro b hb
  rcases cU.1 hb with h | h
  ·exact R.own_lt h1 b h
  ·exact S.own_lt h2 b h

def ry (w:World) (ao:Option Addr) (ccs:List Value):Prop :=
 ccs=[]\/∃ b off,ao=some ⟨b,off,none⟩/\∀ j c,ccs[j]? = some c->w.cell? ⟨b,off+j,none⟩=some c

section
variable {α:Type} (R:Rep α)
def rdL (w:World):List Value->List α->Prop
 | ccs,[]=>ccs=[]
 | ccs,x :: xs=>∃ ec rest,ccs=ec++rest/\R.rd w ec x/\rdL w rest xs
def fO (w:World):List Value->List α->List Nat->Prop
 | ccs,[],fp=>ccs=[]/\fp=[]
 | ccs,x :: xs,fp=>∃ ec rest f1 f2,ccs=ec++rest/\fp=f1++f2/\R.own w ec x f1/\fO w rest xs f2
variable {R}
theorem kw {w:World}:∀ {xs:List α} {ccs:List Value},rdL R w ccs xs->ccs.length=xs.length*R.sz
 | [],_,h=>by simp only [rdL] at h;subst h;simp
 | x :: xs,_,h=>by
  obtain ⟨ec,rest,rfl,h1,h2⟩:=h
  rw [bZ,R.rd_len h1,kw h2,b9,ma,jL,Nat.add_comm]
theorem Fl {w:World}:∀ {xs:List α} {ccs:List Value},rdL R w ccs xs->∀ c∈ccs,c.oneCell'=true
 | [],_,h=>by simp only [rdL] at h;subst h;simp
 | x :: xs,_,h=>by
  obtain ⟨ec,rest,rfl,h1,h2⟩:=h
  intro c hc
  rcases cU.1 hc with h | h
  ·exact R.rd_one h1 c h
  ·exact Fl h2 c h
theorem FY {w w':World} (he:Ext w w'):∀ {xs:List α} {ccs:List Value},rdL R w ccs xs->rdL R w' ccs xs
 | [],_,h=>h
 | x :: xs,_,h=>by
  obtain ⟨ec,rest,rfl,h1,h2⟩:=h
  exact ⟨ec,rest,rfl,R.rd_ext h1 he,FY he h2⟩
theorem i4 {w:World}:∀ {xs:List α} {ccs:List Value} {fp:List Nat},fO R w ccs xs fp->rdL R w ccs xs
 | [],_,_,h=>h.1
 | x :: xs,_,_,h=>by
  obtain ⟨ec,rest,f1,f2,rfl,rfl,h1,h2⟩:=h
  exact ⟨ec,rest,rfl,R.own_rd h1,i4 h2⟩
theorem hU {w w':World}:∀ {xs:List α} {ccs:List Value} {fp:List Nat},fO R w ccs xs fp->(∀ b∈fp,w'.heap[b]? = w.heap[b]?)->fO R w' ccs xs fp
 | [],_,_,h,_=>h
 | x :: xs,_,_,h,he=>by
  obtain ⟨ec,rest,f1,f2,rfl,rfl,h1,h2⟩:=h
  exact ⟨ec,rest,f1,f2,rfl,rfl,R.own_ext h1 (fun b hb=>he b (ie _ hb)),hU h2 (fun b hb=>he b (jx _ hb))⟩
theorem iC {w:World}:∀ {xs:List α} {ccs:List Value} {fp:List Nat},fO R w ccs xs fp->∀ b∈fp,b<w.heap.size
 | [],_,_,h=>by rw [h.2];simp
 | x :: xs,_,_,h=>by
  obtain ⟨ec,rest,f1,f2,rfl,rfl,h1,h2⟩:=h
  intro b hb
  rcases cU.1 hb with h | h
  ·exact R.own_lt h1 b h
  ·exact iC h2 b h
theorem us {w:World} {ys:List α} {ccs':List Value} {fp':List Nat} (h':fO R w ccs' ys fp') :
  ∀ {xs:List α} {ccs:List Value} {fp:List Nat},fO R w ccs xs fp->fO R w (ccs++ccs') (xs++ys) (fp++fp')
 | [],_,_,h=>by obtain ⟨rfl,rfl⟩:=h;simpa using h'
 | x :: xs,_,_,h=>by
  obtain ⟨ec,rest,f1,f2,rfl,rfl,h1,h2⟩:=h
  exact ⟨ec,rest++ccs',f1,f2++fp',by simp,by simp,h1,us h' h2⟩
theorem Bu {w:World} {ys:List α} {ccs':List Value} (h':rdL R w ccs' ys) :
  ∀ {xs:List α} {ccs:List Value},rdL R w ccs xs->rdL R w (ccs++ccs') (xs++ys)
 | [],_,h=>by simp only [rdL] at h;subst h;simpa using h'
 | x :: xs,_,h=>by
  obtain ⟨ec,rest,rfl,h1,h2⟩:=h
  exact ⟨ec,rest++ccs',by simp,h1,Bu h' h2⟩
theorem sc {w:World}:∀ {xs:List α} {ccs:List Value},rdL R w ccs xs->∀ (i:Nat) (h:i<xs.length),
  ∃ ec,R.rd w ec xs[i]/\∀ j c,ec[j]? = some c->ccs[i*R.sz+j]? = some c
 | [],_,_,i,h=>absurd h (by simp)
 | x :: xs,_,hr,i,h=>by
  obtain ⟨ec,rest,rfl,h1,h2⟩:=hr
  cases i with
  | zero =>
   refine ⟨ec,h1,fun j c hj=>?_⟩
   have hlt:j<ec.length:=(xb.1 hj).1
   rw [s5,dA,tq hlt]
   exact hj
  | succ i =>
   obtain ⟨ec',h3,h4⟩:=sc h2 i (by simpa using h)
   refine ⟨ec',by simpa using h3,fun j c hj=>?_⟩
   have e:(i+1)*R.sz+j=ec.length+(i*R.sz+j):=by rw [R.rd_len h1,ma];omega
   rw [e,xB oa,pv]
   exact h4 j c hj
theorem r8 {w:World}:∀ (k:Nat) {xs:List α} {ccs:List Value},rdL R w ccs xs->rdL R w (ccs.take (k*R.sz)) (xs.take k)/\rdL R w (ccs.drop (k*R.sz)) (xs.drop k)
 | 0,xs,ccs,h=>by simp [rdL];simpa using h
 | k+1,[],ccs,h=>by simp only [rdL] at h;subst h;simp [rdL]
 | k+1,x :: xs,ccs,h=>by
  obtain ⟨ec,rest,rfl,h1,h2⟩:=h
  obtain ⟨i1,i2⟩:=r8 k h2
  have e:(k+1)*R.sz=ec.length+k*R.sz:=by rw [R.rd_len h1,ma];omega
  constructor
  ·refine ⟨ec,rest.take (k*R.sz),?_,h1,i1⟩
   rw [e,ve,nE oa,pv]
  ·rw [e,List.drop_append,mN oa,pv]
   simpa using i2
end

def aG {α:Type} (R:Rep α) (E:TypeId):Rep (List α) where
 sz:=1
 rd w cs xs:=∃ ao cap ccs,cs=[.slice ao xs.length cap]/\xs.length<=cap/\cap<=maxLen/\(ao=none->cap=0)/\rdL R w ccs xs/\ry w ao ccs
 own w cs xs fp:=(cs=[.slice none 0 0]/\xs=[]/\fp=[]) \/
  ∃ g cap cur ccs f2,cs=[.slice (some ⟨g,0,none⟩) xs.length cap]/\w.heap[g]? = some (.cells cur E (0,0))/\xs.length<=cap/\cap<=maxLen/\cur.size=cap*R.sz /\
   cur.toList.take (xs.length*R.sz)=ccs/\fO R w ccs xs f2/\fp=g :: f2
 rd_len h:=by obtain ⟨_,_,_,rfl,_⟩:=h;rfl
 rd_one h:=by obtain ⟨_,_,_,rfl,_⟩:=h;simp [Value.oneCell']
 rd_ext h he:=by
  obtain ⟨ao,cap,ccs,rfl,h1,h2,h3,h4,h5⟩:=h
  refine ⟨ao,cap,ccs,rfl,h1,h2,h3,FY he h4,?_⟩
  rcases h5 with h5 | ⟨b,off,rfl,h5⟩
  ·exact .inl h5
  ·exact .inr ⟨b,off,rfl,fun j c hj=>by have:=h5 j c hj;rw [he.cell (block_lt_of_cell this)];exact this⟩
 own_rd h:=by
  rcases h with ⟨rfl,rfl,rfl⟩ | ⟨g,cap,cur,ccs,f2,rfl,hg,h1,h2,h3,h4,h5,rfl⟩
  ·exact ⟨none,0,[],rfl,bN _,cV _,fun _=>rfl,rfl,.inl rfl⟩
  ·refine ⟨_,cap,ccs,rfl,h1,h2,by simp,i4 h5,.inr ⟨g,0,rfl,fun j c hj=>?_⟩⟩
   rw [dA,kZ _ g j cur E (0,0) hg,<- mr]
   rw [<- h4,jr] at hj
   split at hj
   ·exact hj
   ·cases hj
 own_ext h he:=by
  rcases h with h | ⟨g,cap,cur,ccs,f2,rfl,hg,h1,h2,h3,h4,h5,rfl⟩
  ·exact .inl h
  ·exact .inr ⟨g,cap,cur,ccs,f2,rfl,by rw [he g (by simp)];exact hg,h1,h2,h3,h4,hU h5 (fun b hb=>he b (by simp [hb])),rfl⟩
 own_lt h:=by
  rcases h with ⟨_,_,rfl⟩ | ⟨g,cap,cur,ccs,f2,rfl,hg,h1,h2,h3,h4,h5,rfl⟩
  ·simp
  ·intro b hb
   rcases bX.1 hb with rfl | hb
   ·exact (jk.1 hg).1
   ·exact iC h5 b hb

structure Asn where
 holds:World->List Nat->Prop
 ext:∀ {w w' fp},holds w fp->(∀ b∈fp,w'.heap[b]? = w.heap[b]?)->holds w' fp
 lt:∀ {w fp},holds w fp->∀ b∈fp,b<w.heap.size

def Own {α:Type} (R:Rep α) (cs:List Value) (x:α):Asn:=⟨fun w fp=>R.own w cs x fp,R.own_ext,R.own_lt⟩
def Box (b:Nat) (E:TypeId) (cs:List Value):Asn where
 holds w fp:=fp=[b]/\w.heap[b]? = some (.cells cs.toArray E (0,0))
 ext h he:=by obtain ⟨rfl,h⟩:=h;exact ⟨rfl,by rw [he b (by simp)];exact h⟩
 lt h:=by obtain ⟨rfl,h⟩:=h;intro b' hb;simp at hb;subst hb;exact (jk.1 h).1

def mt (w:World):List Asn->List Nat->Prop
 | [],fp=>fp=[]
 | A :: Γ,fp=>∃ f1 f2,fp=f1++f2/\A.holds w f1/\mt w Γ f2

structure Sat (w0 w:World) (Γ:List Asn):Prop where
 below:Below w0.heap.size w0 w
 sat:∃ fp,mt w Γ fp/\fp.Nodup/\∀ b∈fp,w0.heap.size<=b

theorem mt.ext {w w':World}:∀ {Γ:List Asn} {fp:List Nat},mt w Γ fp->(∀ b∈fp,w'.heap[b]? = w.heap[b]?)->mt w' Γ fp
 | [],_,h,_=>h
 | A :: Γ,_,h,he=>by
  obtain ⟨f1,f2,rfl,h1,h2⟩:=h
  exact ⟨f1,f2,rfl,A.ext h1 (fun b hb=>he b (ie _ hb)),mt.ext h2 (fun b hb=>he b (jx _ hb))⟩
theorem mt.lt {w:World}:∀ {Γ:List Asn} {fp:List Nat},mt w Γ fp->∀ b∈fp,b<w.heap.size
 | [],_,h=>by simp only [mt] at h;subst h;simp
 | A :: Γ,_,h=>by
  obtain ⟨f1,f2,rfl,h1,h2⟩:=h
  intro b hb
  rcases cU.1 hb with h | h
  ·exact A.lt h1 b h
  ·exact mt.lt h2 b h
theorem mt.append {w:World} {Δ:List Asn} {g:List Nat} (k:mt w Δ g):∀ {Γ:List Asn} {fp:List Nat},mt w Γ fp->mt w (Γ++Δ) (fp++g)
 | [],_,h=>by simp only [mt] at h;subst h;simpa using k
 | A :: Γ,_,h=>by
  obtain ⟨f1,f2,rfl,h1,h2⟩:=h
  exact ⟨f1,f2++g,by simp,h1,mt.append k h2⟩
theorem mt.perm {w:World} {Γ Δ:List Asn} (hp:Γ.Perm Δ):∀ {fp:List Nat},mt w Γ fp->∃ fp',fp.Perm fp'/\mt w Δ fp':=by
 induction hp with
 | nil=>intro fp h;exact ⟨fp,.refl _,h⟩
 | cons A _ ih =>
  rintro _ ⟨f1,f2,rfl,h1,h2⟩
  obtain ⟨f2',p,h2'⟩:=ih h2
  exact ⟨f1++f2',List.Perm.append_left _ p,f1,f2',rfl,h1,h2'⟩
 | swap A B Γ =>
  rintro _ ⟨f1,_,rfl,h1,f2,f3,rfl,h2,h3⟩
  refine ⟨f2++(f1++f3),?_,f2,f1++f3,rfl,h2,f1,f3,rfl,h1,h3⟩
  rw [<- eS,<- eS]
  exact qh _ ql
 | trans _ _ ih1 ih2 =>
  intro fp h
  obtain ⟨f1,p1,h1⟩:=ih1 h
  obtain ⟨f2,p2,h2⟩:=ih2 h1
  exact ⟨f2,p1.trans p2,h2⟩

theorem Sat.start (w:World):Sat w w []:=⟨Below.refl _ _,[],rfl,by simp,by simp⟩
theorem Sat.le {w0 w:World} {Γ:List Asn} (h:Sat w0 w Γ):w0.heap.size<=w.heap.size:=h.below.size
theorem Sat.ext {w0 w w':World} {Γ:List Asn} (h:Sat w0 w Γ) (he:Ext w w'):Sat w0 w' Γ:=by
 obtain ⟨hb,fp,h1,h2,h3⟩:=h
 exact ⟨Below.andExt hb hb.size he,fp,h1.ext (fun b hb'=>he.block b (h1.lt b hb')),h2,h3⟩
theorem Sat.call {w0 w w':World} {Γ Δ:List Asn} (h:Sat w0 w Γ) (k:Sat w w' Δ):Sat w0 w' (Δ++Γ):=by
 obtain ⟨hb,fp,h1,h2,h3⟩:=h
 obtain ⟨kb,fk,k1,k2,k3⟩:=k
 refine ⟨Below.andExt hb hb.size kb,fk++fp,mt.append (h1.ext (fun b hb'=>kb.block b (h1.lt b hb'))) k1,?_,?_⟩
 ·rw [mF]
  exact ⟨k2,h2,fun a ha b hb' e=>by have:=k3 a ha;have:=h1.lt b hb';omega⟩
 ·intro b hb'
  rcases cU.1 hb' with h | h
  ·have:=k3 b h;have:=hb.size;omega
  ·exact h3 b h
theorem Sat.zM {w0 w w':World} {Γ:List Asn} {A:Asn} (h:Sat w0 w Γ) (k:Sat w w' [A]):Sat w0 w' (A :: Γ):=h.call k
theorem Sat.call2 {w0 w w':World} {Γ:List Asn} {A B:Asn} (h:Sat w0 w Γ) (k:Sat w w' [A,B]):Sat w0 w' (A :: B :: Γ):=h.call k
theorem Sat.call3 {w0 w w':World} {Γ:List Asn} {A B C:Asn} (h:Sat w0 w Γ) (k:Sat w w' [A,B,C]):Sat w0 w' (A :: B :: C :: Γ):=h.call k
theorem Sat.perm {w0 w:World} {Γ Δ:List Asn} (h:Sat w0 w Γ) (hp:Γ.Perm Δ):Sat w0 w Δ:=by
 obtain ⟨hb,fp,h1,h2,h3⟩:=h
 obtain ⟨fp',p,h1'⟩:=mt.perm hp h1
 exact ⟨hb,fp',h1',p.nodup_iff.1 h2,fun b hb'=>h3 b (p.mem_iff.2 hb')⟩
theorem Sat.tail {w0 w:World} {A:Asn} {Γ:List Asn} (h:Sat w0 w (A :: Γ)):Sat w0 w Γ:=by
 obtain ⟨hb,_,⟨f1,f2,rfl,_,h2⟩,hn,h3⟩:=h
 exact ⟨hb,f2,h2,(mF.1 hn).2.1,fun b hb'=>h3 b (jx _ hb')⟩
theorem Sat.head {w0 w:World} {A:Asn} {Γ:List Asn} (h:Sat w0 w (A :: Γ)):∃ fp,A.holds w fp/\fp.Nodup/\∀ b∈fp,w0.heap.size<=b:=by
 obtain ⟨_,_,⟨f1,f2,rfl,h1,_⟩,hn,h3⟩:=h
 exact ⟨f1,h1,(mF.1 hn).1,fun b hb'=>h3 b (ie _ hb')⟩
theorem Sat.take {w0 w:World} {Γ:List Asn} (h:Sat w0 w Γ) (Δ Θ:List Asn) (hp:Γ.Perm (Δ++Θ)):Sat w0 w Δ:=by
 have h':=h.perm (hp.trans ql)
 clear h hp
 induction Θ with
 | nil=>simpa using h'
 | cons A Θ ih=>exact ih h'.tail
theorem Sat.yJ {w0 w w':World} {A B:Asn} {Γ:List Asn} (h:Sat w0 w (A :: Γ))
  (k:∀ fp,A.holds w fp->fp.Nodup->∃ fp',B.holds w' fp'/\fp'.Nodup/\Chg fp w w'/\∀ b∈fp',b∈fp\/w.heap.size<=b):Sat w0 w' (B :: Γ):=by
 obtain ⟨hb,_,⟨f1,f2,rfl,h1,h2⟩,hn,h3⟩:=h
 obtain ⟨n1,n2,n3⟩:=mF.1 hn
 obtain ⟨f1',k1,k2,k3,k4⟩:=k f1 h1 n1
 refine ⟨IH hb hb.size k3 (fun x hx=>h3 x (ie _ hx)),f1'++f2,⟨f1',f2,rfl,k1,h2.ext (fun b hb'=>k3.block b (h2.lt b hb') (fun hm=>n3 b hm b hb' rfl))⟩,?_,?_⟩
 ·rw [mF]
  refine ⟨k2,n2,fun a ha b hb' e=>?_⟩
  subst e
  rcases k4 a ha with h | h
  ·exact n3 a h a hb' rfl
  ·have:=h2.lt a hb';omega
 ·intro b hb'
  rcases cU.1 hb' with h | h
  ·rcases k4 b h with h | h
   ·exact h3 b (ie _ h)
   ·have:=hb.size;omega
  ·exact h3 b (jx _ h)
theorem Sat.join {w0 w:World} {A B C:Asn} {Γ:List Asn} (h:Sat w0 w (A :: B :: Γ)) (k:∀ f g,A.holds w f->B.holds w g->C.holds w (f++g)):Sat w0 w (C :: Γ):=by
 obtain ⟨hb,_,⟨f1,_,rfl,h1,f2,f3,rfl,h2,h4⟩,hn,h3⟩:=h
 exact ⟨hb,(f1++f2)++f3,⟨f1++f2,f3,rfl,k _ _ h1 h2,h4⟩,by simpa using hn,by simpa using h3⟩
theorem Sat.conv {w0 w:World} {A B:Asn} {Γ:List Asn} (h:Sat w0 w (A :: Γ)) (k:∀ f,A.holds w f->B.holds w f):Sat w0 w (B :: Γ):=by
 obtain ⟨hb,_,⟨f1,f2,rfl,h1,h2⟩,hn,h3⟩:=h
 exact ⟨hb,_,⟨f1,f2,rfl,k _ h1,h2⟩,hn,h3⟩
theorem Sat.add {w0 w:World} {A:Asn} {Γ:List Asn} (h:Sat w0 w Γ) (k:A.holds w []):Sat w0 w (A :: Γ):=by
 obtain ⟨hb,fp,h1,h2,h3⟩:=h
 exact ⟨hb,fp,⟨[],fp,rfl,k,h1⟩,h2,h3⟩
theorem Sat.box {w0 w:World} {Γ:List Asn} (h:Sat w0 w Γ) (E:TypeId) (cs:List Value):Sat w0 (w.alloc (.cells cs.toArray E)) (Box w.heap.size E cs :: Γ):=by
 have k:Sat w (w.alloc (.cells cs.toArray E)) [Box w.heap.size E cs] :=
  ⟨(Below.refl _ _).alloc (bN _) _,[w.heap.size],⟨[w.heap.size],[],by simp,⟨rfl,heap_alloc_new w _⟩,rfl⟩,by simp,by simp⟩
 simpa using h.call k
theorem oy (w:World) (o:Obj):Ext w (w.alloc o):=(Below.refl _ _).alloc (bN _) _
theorem Sat.rd {α:Type} {R:Rep α} {w0 w:World} {cs:List Value} {x:α} {Γ:List Asn} (h:Sat w0 w (Own R cs x :: Γ)):R.rd w cs x:=by
 obtain ⟨fp,h,_⟩:=h.head
 exact R.own_rd h

class AtBox (Γ:List Asn) (b:Nat) (E:outParam TypeId) (cs:outParam (List Value)) (rest:outParam (List Asn)):Prop where
 perm:Γ.Perm (Box b E cs :: rest)
instance (Γ:List Asn) (b:Nat) (E:TypeId) (cs:List Value):AtBox (Box b E cs :: Γ) b E cs Γ:=⟨.refl _⟩
instance (A:Asn) (Γ:List Asn) (b:Nat) (E:TypeId) (cs:List Value) (rest:List Asn) [h:AtBox Γ b E cs rest]:AtBox (A :: Γ) b E cs (A :: rest) :=
 ⟨(List.Perm.cons A h.perm).trans (.swap _ _ _)⟩
class AtOwn (Γ:List Asn) (v:Value) (α:outParam Type) (R:outParam (Rep α)) (x:outParam α) (rest:outParam (List Asn)):Prop where
 perm:Γ.Perm (Own R [v] x :: rest)
instance {α:Type} (Γ:List Asn) (v:Value) (R:Rep α) (x:α):AtOwn (Own R [v] x :: Γ) v α R x Γ:=⟨.refl _⟩
instance {α:Type} (A:Asn) (Γ:List Asn) (v:Value) (R:Rep α) (x:α) (rest:List Asn) [h:AtOwn Γ v α R x rest]:AtOwn (A :: Γ) v α R x (A :: rest) :=
 ⟨(List.Perm.cons A h.perm).trans (.swap _ _ _)⟩
theorem Sat.own {α:Type} {R:Rep α} {w0 w:World} {v:Value} {x:α} {Γ rest:List Asn} (h:Sat w0 w Γ) [k:AtOwn Γ v α R x rest]:Sat w0 w (Own R [v] x :: rest):=h.perm k.perm
theorem Sat.read {α:Type} {R:Rep α} {w0 w:World} {v:Value} {x:α} {Γ rest:List Asn} (h:Sat w0 w Γ) [AtOwn Γ v α R x rest]:R.rd w [v] x:=h.own.rd

theorem Sat.zC {w0 w:World} {Γ:List Asn} (n:Nat) (h:Sat w0 w Γ):Sat w0 w (Γ.take n):=h.take (Γ.take n) (Γ.drop n) (by rw [Bk])
class PlainT (P:Program) (t:TypeId):Prop where
 h:∃ d,P.underlying t=some d/\(match d with | .struct _ | .array _ _=>False | _=>True)
class AggT (P:Program) (t:TypeId) (n:outParam Nat):Prop where
 h:∃ d,P.underlying t=some d/\(match d with | .struct _ | .array _ _=>True | _=>False)
 size:(P.info? t).map (·.size)=some n
class SliceT (P:Program) (t:TypeId) (e:outParam TypeId):Prop where
 h:P.underlying t=some (.slice e)
class ElemT (P:Program) (t:TypeId) (z:outParam (List Value)) (n yO:outParam Nat):Prop where
 h:(P.info? t).map (fun i=>(i.zero.map fun v=>v.cells.toList,i.size,i.bytes))=some (some z,n,yO)

section laws
variable {P:Program} {ops:Array Oper} {rest:List Oper} {o:Oper} {a:Act} {Q:Exit->Act->World->Prop} {w w0:World} {Γ rΓ:List Asn}

theorem Ln (hg:o.guard=none) {t:TypeId} {x:Operand} (ho:o.op=.box t x) (cs:List Value) (hx:(a.eval x).cells=cs.toArray) (hS:Sat w0 w Γ)
  (hK:∀ w' b,Sat w0 w' (Box b t cs :: Γ)->Ext w w'->wpList P ops Q rest (a.put o.dst (.pointer (some ⟨b,0,none⟩))) w'):wpList P ops Q (o :: rest) a w:=by
 refine lq hg fun K hK'=>?_
 unfold Oper.wp execOp
 simp only [ho,Instr.box,newVar,newRow,hx,dQ,fJ,run_newObj,eI,tf]
 exact hK' _ _ (hK _ _ (hS.box t cs) (oy _ _))

theorem Hx (hg:o.guard=none) {t:TypeId} (ho:o.op=.alloc t) {cs:List Value} {n yO:Nat} [hz:ElemT P t cs n yO] (hS:Sat w0 w Γ)
  (hK:∀ w' b,Sat w0 w' (Box b t cs :: Γ)->Ext w w'->wpList P ops Q rest (a.put o.dst (.pointer (some ⟨b,0,none⟩))) w'):wpList P ops Q (o :: rest) a w:=by
 refine lq hg fun K hK'=>?_
 have hz:=hz.h
 cases hi:P.info? t with
 | none=>simp [hi] at hz
 | some i =>
  cases hzz:i.zero with
  | none=>simp [hi,hzz] at hz
  | some z =>
   simp [hi,hzz] at hz
   have hzc:z.cells=cs.toArray:=by rw [<- hz.1]
   unfold Oper.wp execOp
   simp only [ho,Instr.alloc,zeroValue,typeInfo,hi,hzz,newVar,newRow,hzc,dQ,fJ,run_newObj,mS,eI,tf]
   exact hK' _ _ (hK _ _ (hS.box t cs) (oy _ _))

theorem yu {t:TypeId} [hT:PlainT P t] {ad:Addr} {c:Value} (hc:w.cell? ad=some c):(loadVar t ad).run P w=.ok c w:=by
 obtain ⟨d,hd,hk⟩:=hT.h
 have hagg:(isAgg t).run P w=.ok false w:=by
  unfold isAgg
  rw [dQ,fY hd w]
  cases d <;> simp_all
 simp [loadVar,dQ,hagg,hc]

theorem kD {t:TypeId} {n:Nat} [hT:AggT P t n] {b off:Nat} {cs:List Value} (hn:cs.length=n) (hc:∀ j c,cs[j]? = some c->w.cell? ⟨b,off+j,none⟩=some c) :
  (loadVar t ⟨b,off,none⟩).run P w=.ok (.agg cs.toArray) w:=by
 obtain ⟨d,hd,hk⟩:=hT.h
 have hagg:(isAgg t).run P w=.ok true w:=by
  unfold isAgg
  rw [dQ,fY hd w]
  cases d <;> simp_all
 have hs:=hT.size
 cases hi:P.info? t with
 | none=>simp [hi] at hs
 | some i =>
  simp [hi] at hs
  have hl:=run_loadCells_list (P:=P) w ⟨b,off,none⟩ cs (fun j c hj=>by rw [jK];exact hc j c hj)
  rw [hn,<- hs] at hl
  simp [loadVar,dQ,hagg,sizeOf,typeInfo,hi,hl]

theorem Sat.yD {b:Nat} {E:TypeId} {cs:List Value} (hS:Sat w0 w Γ) [k:AtBox Γ b E cs rΓ]:∀ j c,cs[j]? = some c->w.cell? ⟨b,j,none⟩=some c:=by
 obtain ⟨fp,⟨_,hh⟩,_⟩:=(hS.perm k.perm).head
 intro j c hj
 rw [kZ w b j _ E (0,0) hh]
 simpa using hj

theorem jf {b:Nat} {E:TypeId}:∀ (vs:List Value) (off i:Nat) (cur:List Value) (w:World),w.heap[b]? = some (.cells cur.toArray E (0,0))->off+i+vs.length<=cur.length->(∀ v∈vs,v.oneCell'=true) ->
  ∃ w',(storeCells ⟨b,off,none⟩ vs i).run P w=.ok () w'/\w'.heap[b]? = some (.cells (cur.take (off+i)++vs++cur.drop (off+i+vs.length)).toArray E (0,0))/\Chg [b] w w'
 | [],off,i,cur,w,hb,_,_=>by
  refine ⟨w,rfl,?_,Chg.refl _ _⟩
  rw [hb];simp
 | v :: vs,off,i,cur,w,hb,hl,h1=>by
  simp only [b9] at hl
  have hi:off+i<cur.length:=by omega
  have hcell:w.cell? ⟨b,off+i,none⟩=some cur[off+i]:=by rw [kZ w b _ _ E (0,0) hb];simp [hi]
  have hfro:w.frozen? ⟨b,off+i,none⟩=false:=frozen_of_row w b _ _ E hb
  have hst:(store ((⟨b,off,none⟩:Addr).add i) v).run P w=.ok () (w.setCell ⟨b,off+i,none⟩ v):=by
   rw [jK,run_store P w _ v _ (h1 v (by simp)),hcell]
   simp [hfro]
  have hb':(w.setCell ⟨b,off+i,none⟩ v).heap[b]? = some (.cells ((cur.set (off+i) v).toArray) E (0,0)):=by
   rw [heap_setCell_same w b (off+i) _ E v hb];simp
  obtain ⟨w',h2,h3,h4⟩:=jf vs off (i+1) (cur.set (off+i) v) _ hb' (by simp;omega) (fun x hx=>h1 x (by simp [hx]))
  refine ⟨w',?_,?_,?_⟩
  ·simp only [storeCells,dQ,hst,eI];exact h2
  ·rw [h3]
   congr 3
   have e1:(cur.set (off+i) v).take (off+(i+1))=cur.take (off+i)++[v]:=by
    rw [show off+(i+1)=(off+i)+1 by omega,xS,gR hi,AT _ _ (by simp;omega)]
    simp [show min (off+i) cur.length=off+i by omega]
   have e2:(cur.set (off+i) v).drop (off+(i+1)+vs.length)=cur.drop (off+i+(v :: vs).length):=by
    rw [List.drop_set_of_lt oa]
    congr 1
    simp only [b9];omega
   rw [e1,e2];simp
  ·exact Chg.trans (show Chg [b] w (w.setCell ⟨b,off+i,none⟩ v) from ⟨rfl,rfl,rfl,by simp,fun k _ hk=>Below.heap_setCell _ _ _ _ (by simpa using hk)⟩) h4

theorem GJ {t:TypeId} {x y:Operand} (hg:o.guard=none) (ho:o.op=.store t x y) {z:List Value} {n yO:Nat} [hz:ElemT P t z n yO] (hS:Sat w0 w Γ) {b j:Nat} (hx:a.eval x=.pointer (some ⟨b,j,none⟩))
  {E:TypeId} {cs:List Value} [k:AtBox Γ b E cs rΓ] (vs:List Value) (hy:(a.eval y).cells=vs.toArray) (hn:vs.length=n) (hl:j+n<=cs.length) (h1:vs.all (·.oneCell')=true)
  (hK:∀ w',Sat w0 w' (Box b E (cs.take j++vs++cs.drop (j+n)) :: rΓ)->wpList P ops Q rest (a.put o.dst undef) w'):wpList P ops Q (o :: rest) a w:=by
 refine lq hg fun K hK'=>?_
 have hz:=hz.h
 cases hi:P.info? t with
 | none=>simp [hi] at hz
 | some i =>
  simp [hi] at hz
  obtain ⟨fp,⟨_,hh⟩,_⟩:=(hS.perm k.perm).head
  obtain ⟨w',hr,hh',hc⟩:=jf (P:=P) vs j 0 cs w hh oa (by simpa using h1)
  have hsz:¬ (vs.toArray.size≠i.size):=by simp;omega
  unfold Oper.wp execOp
  simp only [ho,hx,Instr.storeAt,Instr.sureAddr,storeVar,sizeOf,typeInfo,hi,hy,dQ,fJ,mS,eI,hsz,nv,sq,sa,hr,xM]
  refine hK' _ _ (hK w' ?_)
  refine Sat.yJ (hS.perm k.perm) fun fp hfp hnd=>?_
  obtain ⟨rfl,_⟩:=hfp
  refine ⟨[b],⟨rfl,?_⟩,by simp,hc,fun x hx=>.inl hx⟩
  rw [hh']
  simp [hn]
theorem HN {v:Value} (h:v.oneCell'=true):v.cells=[v].toArray:=by cases v <;> first | rfl | simp [Value.oneCell'] at h
end laws

section laws2
variable {P:Program} {ops:Array Oper} {rest:List Oper} {o:Oper} {a:Act} {Q:Exit->Act->World->Prop} {w w0 wA:World} {Γ rΓ:List Asn} {α:Type} {R:Rep α} {E:TypeId}

theorem EN {w:World} {v:Value} {xs:List α} (h:(aG R E).rd w [v] xs):∃ ao cap,v=.slice ao xs.length cap:=by
 obtain ⟨ao,cap,ccs,hv,_⟩:=h
 exact ⟨ao,cap,by simpa using hv⟩

def tp (R:Rep α) (ccs:List Value) (ys:List α):Asn:=⟨fun w fp=>fO R w ccs ys fp,fun h he=>hU h he,fun h=>iC h⟩
def GX (A B:Asn):Asn where
 holds w fp:=∃ f g,fp=f++g/\A.holds w f/\B.holds w g
 ext h he:=by
  obtain ⟨f,g,rfl,h1,h2⟩:=h
  exact ⟨f,g,rfl,A.ext h1 (fun b hb=>he b (ie _ hb)),B.ext h2 (fun b hb=>he b (jx _ hb))⟩
 lt h:=by
  obtain ⟨f,g,rfl,h1,h2⟩:=h
  intro b hb
  rcases cU.1 hb with h | h
  ·exact A.lt h1 b h
  ·exact B.lt h2 b h

theorem uS (z:Value) (k:Nat):(Builtin.zeroCells z.cells k).size=k*z.cells.size:=size_zeroCells _ _

theorem FO {w:World} {cur:Array Value} {xs:List α} {ccs:List Value} {f:List Nat} {cap:Nat} (h:fO R w ccs xs f) (hcap:xs.length<=cap) (hm:cap<=maxLen) (hs:cur.size=cap*R.sz)
  (ht:cur.toList.take ccs.length=ccs):(aG R E).own (w.drew.alloc (.cells cur E)) [.slice (some ⟨w.heap.size,0,none⟩) xs.length cap] xs (w.heap.size :: f):=by
 refine .inr ⟨w.heap.size,cap,cur,ccs,f,rfl,heap_alloc_new w.drew _,hcap,hm,hs,by rw [<- kw (i4 h)];exact ht,hU h (fun b hb=>?_),rfl⟩
 exact Below.heap_alloc w.drew _ b (iC h b hb)

theorem wL {t ty:TypeId} [ht:SliceT P t E] {z:List Value} {n yO:Nat} [hz:ElemT P E z n yO] (hn:R.sz=n) (hpos:0<n) (hzl:z.length=n) (hb0:0<yO)
  {v:Value} {xs:List α} {f:List Nat} (hv:(aG R E).own w [v] xs f) {ccs:List Value} {ys:List α} {fy:List Nat} (hy:fO R w ccs ys fy) (hnd:(fy++f).Nodup)
  {ao:Option Addr} {c:Nat} (hnone:ao=none->c=0) (hrow:ry w ao ccs) (hby:(xs.length+ys.length)*yO<=140737488355328) :
  ∃ v' w' f',(Builtin.append_ #[t,t] ty #[v,.slice ao ys.length c]).run P w=.ok v' w'/\(aG R E).own w' [v'] (xs++ys) f'/\f'.Nodup/\Chg (fy++f) w w'/\∀ b∈f',b∈fy++f\/w.heap.size<=b:=by
 have hz:=hz.h
 have hmax:xs.length+ys.length<=140737488355328:=Nat.le_trans (Nat.le_mul_of_pos_right _ hb0) hby
 have hyl:ccs.length=ys.length*R.sz:=kw (i4 hy)
 have hy1:∀ u∈ccs,u.oneCell'=true:=Fl (i4 hy)
 cases hi:P.info? E with
 | none=>simp [hi] at hz
 | some i =>
 cases hzz:i.zero with
 | none=>simp [hi,hzz] at hz
 | some zv =>
 simp [hi,hzz] at hz
 obtain ⟨hz1,hz2,hz3⟩:=hz
 have hzs:zv.cells.size=R.sz:=by rw [<- tK,hz1,hzl,hn]
 have hsz:i.size=R.sz:=by omega
 have hdrew:Chg (fy++f) w w.drew:=⟨rfl,rfl,rfl,bN _,fun _ _ _=>rfl⟩
 have hgrow:∀ cur:Array Value,Chg (fy++f) w (w.drew.alloc (.cells cur E)):=fun cur=>hdrew.trans ((Chg.alloc w.drew _).mono (by simp))
 have hlt:∀ b∈fy++f,b<w.heap.size:=fun b hb=>by
  rcases cU.1 hb with h | h
  ·exact iC hy b h
  ·exact (aG R E).own_lt hv b h
 obtain ⟨nd1,nd2,nd3⟩:=mF.1 hnd
 -- nothing is appended
 by_cases hy0:ys=[]
 ·subst hy0
  have hccs:ccs=[]:=by simp only [fO] at hy;exact hy.1
  have hfy:fy=[]:=by simp only [fO] at hy;exact hy.2
  subst hccs;subst hfy
  refine ⟨v,w,f,?_,by simpa using hv,by simpa using hnd,Chg.refl _ _,fun b hb=>.inl (by simpa using hb)⟩
  rcases hv with ⟨hv,rfl,rfl⟩ | ⟨g,cap,cur,cs,f2,hv,hg,h1,h2,h3,h4,h5,rfl⟩
  ·obtain rfl:v=.slice none 0 0:=by simpa using hv
   cases ao <;> simp [Builtin.append_,fY ht.h,sizeOf,typeInfo,hi,Builtin.lenOf,Builtin.firstCells,loadCells,loadCellsFrom]
  ·obtain rfl:v=.slice (some ⟨g,0,none⟩) xs.length cap:=by simpa using hv
   cases ao <;> simp [Builtin.append_,fY ht.h,sizeOf,typeInfo,hi,Builtin.lenOf,Builtin.firstCells,loadCells,loadCellsFrom,h1,storeCells]
 have hyp:0<ys.length:=uZ.2 hy0
 obtain ⟨b,off,rfl,hcell⟩:∃ b off,ao=some ⟨b,off,none⟩/\∀ j c,ccs[j]? = some c->w.cell? ⟨b,off+j,none⟩=some c:=by
  rcases hrow with rfl | h
  ·exfalso
   have:0<ys.length*R.sz:=Nat.mul_pos hyp oa
   simp at hyl;omega
  ·exact h
 have hnews:∀ j u,ccs[j]? = some u->w.cell? ((⟨b,off,none⟩:Addr).add j)=some u:=fun j u hj=>by rw [jK];exact hcell j u hj
 rcases hv with ⟨hv,rfl,rfl⟩ | ⟨g,cap,cur,cs,f2,hv,hg,h1,h2,h3,h4,h5,rfl⟩
 ·obtain rfl:v=.slice none 0 0:=by simpa using hv
  simp only [gu,dA] at hby hmax
  have hr:=run_append_nil (P:=P) w t ty E i zv ht.h hi hzz ⟨b,off,none⟩ ys.length c ccs (by rw [hyl,hsz]) hnews hyp oa (by rw [hz3];omega)
  refine ⟨_,_,w.heap.size :: fy,hr,?_,?_,hgrow _,?_⟩
  ·have hge:=grownCap_ge w ys.length 0 E
   rw [mc]
   refine FO hy hge (grownCap_le_maxLen w ys.length 0 E (by unfold maxLen;omega)) ?_ ?_
   ·rw [AF,uS,hzs,qj,hyl,<- ma]
    congr 1;omega
   ·rw [Array.toList_append,sa,xF]
    rfl
  ·refine jm.2 ⟨fun hm=>?_,nd1⟩
   have:=hlt _ (ie _ hm);omega
  ·intro x hx
   rcases bX.1 hx with rfl | hx
   ·exact .inr (bN _)
   ·exact .inl (ie _ hx)
 ·obtain rfl:v=.slice (some ⟨g,0,none⟩) xs.length cap:=by simpa using hv
  have hcl:cs.length=xs.length*R.sz:=kw (i4 h5)
  have hfit:xs.length*R.sz<=cur.size:=by rw [h3];exact me _ h1
  obtain ⟨ng,nf2⟩:=jm.1 nd2
  by_cases hroom:xs.length+ys.length<=cap
  ·have hfit2:xs.length*i.size+ccs.length<=cur.size:=by rw [hsz,hyl,h3,<- ma];exact me _ hroom
   have hr:=run_append_room (P:=P) w t ty E i ht.h hi g xs.length cap cur hg ⟨b,off,none⟩ ys.length c ccs (by rw [hyl,hsz]) hnews hy1 hroom hfit2
   have hoth:∀ k,k≠g->(w.setRow g (cur.toList.take (xs.length*i.size)++ccs++cur.toList.drop (xs.length*i.size+ccs.length)).toArray).heap[k]? = w.heap[k]?:=fun k hk=>setRow_other w g k _ hk
   refine ⟨_,_,g :: (f2++fy),hr,?_,?_,⟨rfl,rfl,rfl,by simp,fun k _ hk=>hoth k (fun e=>hk (by simp [e]))⟩,?_⟩
   ·rw [show xs.length+ys.length=(xs++ys).length by simp]
    refine .inr ⟨g,cap,_,cs++ccs,f2++fy,rfl,setRow_heap w g cur _ E _ hg,by simpa using hroom,h2,?_,?_,?_,rfl⟩
    ·simp only [qj,bZ,c5,iH,tK]
     rw [hsz] at hfit2 ⊢
     omega
    ·rw [hsz,h4,bZ,ma,<- hcl,<- hyl,<- bZ]
     exact xF rfl
    ·refine us (hU hy fun x hx=>hoth x fun e=>?_) (hU h5 fun x hx=>hoth x fun e=>?_)
     ·subst e;exact nd3 x hx x (by simp) rfl
     ·subst e;exact ng hx
   ·refine jm.2 ⟨fun hm=>?_,mF.2 ⟨nf2,nd1,fun a ha b hb e=>nd3 b hb a (by simp [ha]) e.symm⟩⟩
    rcases cU.1 hm with h | h
    ·exact ng h
    ·exact nd3 g h g (by simp) rfl
   ·intro x hx
    refine .inl ?_
    simp only [bX,cU] at hx ⊢
    rcases hx with h | h | h <;> simp [h]
  ·have hcells:∀ j u,cs[j]? = some u->w.cell? ((⟨g,0,none⟩:Addr).add j)=some u:=fun j u hj=>by
    rw [jK,dA,kZ w g j cur E (0,0) hg,<- mr]
    rw [<- h4,jr] at hj
    split at hj
    ·exact hj
    ·cases hj
   have hr:=run_append_grow (P:=P) w t ty E i zv ht.h hi hzz ⟨g,0,none⟩ xs.length cap cs (by rw [hcl,hsz]) hcells ⟨b,off,none⟩ ys.length c ccs (by rw [hyl,hsz]) hnews oa oa (growslice_fits oa (by rw [hz3];exact hby))
   refine ⟨_,_,w.heap.size :: (f2++fy),hr,?_,?_,hgrow _,?_⟩
   ·have hge:=grownCap_ge w (xs.length+ys.length) cap E
    rw [show (xs.length+ys.length:Nat)=(xs++ys).length by simp] at hge ⊢
    refine FO (us hy h5) hge (grownCap_le_maxLen w _ cap E (by unfold maxLen;simp;omega)) ?_ ?_
    ·rw [AF,AF,uS,hzs,qj,qj,hyl,hcl,<- ma,<- ma]
     congr 1;simp at hge ⊢;omega
    ·rw [Array.toList_append,Array.toList_append,sa,sa,xF]
     rfl
   ·refine jm.2 ⟨fun hm=>?_,mF.2 ⟨nf2,nd1,fun a ha b hb e=>nd3 b hb a (by simp [ha]) e.symm⟩⟩
    have:=hlt w.heap.size (by
     rcases cU.1 hm with h | h
     ·exact jx _ (by simp [h])
     ·exact ie _ h)
    omega
   ·intro x hx
    simp only [bX,cU] at hx ⊢
    rcases hx with h | h | h
    ·exact .inr oa
    ·exact .inl (by simp [h])
    ·exact .inl (by simp [h])

theorem G4 (hg:o.guard=none) {t:TypeId} {s x:Operand} (ho:o.op=.call { callee:=.builtin .append,args:=#[s,x],argTypes:=#[t,t] })
  [SliceT P t E] {z:List Value} {n yO:Nat} [ElemT P E z n yO] (hn:R.sz=n) (hpos:0<n) (hzl:z.length=n) (hb0:0<yO)
  {v:Value} {xs:List α} {ccs:List Value} {ys:List α} (hS:Sat w0 w (tp R ccs ys :: Own (aG R E) [v] xs :: Γ)) (hs:a.eval s=v)
  {ao:Option Addr} {m c:Nat} (hx:a.eval x=.slice ao m c) (hm:m=ys.length) (hnone:ao=none->c=0) (hrow:ry w ao ccs) (hby:(xs.length+ys.length)*yO<=140737488355328)
  (hK:∀ v' w',Sat w0 w' (Own (aG R E) [v'] (xs++ys) :: Γ)->wpList P ops Q rest (a.put o.dst v') w'):wpList P ops Q (o :: rest) a w:=by
 subst hm
 refine lq hg fun K hK'=>?_
 have hS':Sat w0 w (GX (tp R ccs ys) (Own (aG R E) [v] xs) :: Γ):=hS.join fun f g h1 h2=>⟨f,g,rfl,h1,h2⟩
 obtain ⟨fp,⟨fy,f,rfl,hy,hv⟩,hnd,_⟩:=hS'.head
 obtain ⟨v',w',f',hr,k1,k2,k3,k4⟩:=wL (P:=P) (t:=t) (ty:=o.type) hn hpos hzl hb0 hv hy hnd hnone hrow hby
 unfold Oper.wp execOp
 simp only [ho,resolve,invoke,builtin,dQ,fJ,eI,List.map_toArray,gH,ou,hs,hx,hr,tf]
 refine hK' _ _ (hK v' w' ?_)
 have hex:∀ fp,(GX (tp R ccs ys) (Own (aG R E) [v] xs)).holds w fp->fp.Nodup->∃ fp',(Own (aG R E) [v'] (xs++ys)).holds w' fp'/\fp'.Nodup/\Chg fp w w'/\∀ b∈fp',b∈fp\/w.heap.size<=b:=by
  rintro _ ⟨gy,g,rfl,hy2,hv2⟩ hnd2
  obtain ⟨v2,w2,f2,hr2,l1,l2,l3,l4⟩:=wL (P:=P) (t:=t) (ty:=o.type) hn hpos hzl hb0 hv2 hy2 hnd2 hnone hrow hby
  rw [hr] at hr2
  obtain ⟨rfl,rfl⟩:v'=v2/\w'=w2:=by simpa using hr2
  exact ⟨f2,l1,l2,l3,l4⟩
 exact hS'.yJ hex

theorem wE (z:Array Value) (h:0<z.size):∀ k,(madeCells z (k*z.size)).toList=(List.replicate k z.toList).flatten
 | 0=>by simp [madeCells]
 | k+1=>by
  have ih:=wE z h k
  rw [wV,List.flatten_append,<- ih]
  unfold madeCells
  rw [ma,jL]
  simp only [Array.toList_map,Array.toList_range,List.range_add,eU,nx,List.flatten_cons,List.flatten_nil,jI]
  congr 1
  apply kS
  ·simp
  ·intro j h1 h2
   have hj:j<z.size:=by simpa using h1
   simp only [iS,List.getElem_range,Function.comp]
   rw [Nat.mul_add_mod_self_right,rW hj]
   simp [hj]
theorem Jr (hg:o.guard=none) {t:TypeId} {l c:Operand} (ho:o.op=.makeSlice t l c) [ht:SliceT P t E] {z:List Value} {n yO:Nat} [hz:ElemT P E z n yO] (hn:R.sz=n) (hpos:0<n) (hzl:z.length=n)
  {x0:α} (hx0:∀ w,R.own w z x0 []) {L C:Int} (hl:a.eval l=.int .i64 L) (hc:a.eval c=.int .i64 C) (k:Nat) (hL:L=(k:Int)) (hC:C=(k:Int)) (hby:k*yO<=281474976710656) (hk:k<=140737488355328) (hS:Sat w0 w Γ)
  (hK:∀ w' g,Sat w0 w' (Own (aG R E) [.slice (some ⟨g,0,none⟩) k k] (List.replicate k x0) :: Γ)->Ext w w'->wpList P ops Q rest (a.put o.dst (.slice (some ⟨g,0,none⟩) k k)) w'):wpList P ops Q (o :: rest) a w:=by
 refine lq hg fun K hK'=>?_
 have hz:=hz.h
 cases hi:P.info? E with
 | none=>simp [hi] at hz
 | some i =>
 cases hzz:i.zero with
 | none=>simp [hi,hzz] at hz
 | some zv =>
 simp [hi,hzz] at hz
 obtain ⟨hz1,hz2,hz3⟩:=hz
 subst hL;subst hC
 have hr:=run_make (P:=P) w t E i zv ht.h hi hzz .i64 .i64 k k oa oa (by rw [hz3];have:=hby;rw [nA] at this;omega) oa
 simp only [eJ] at hr
 unfold Oper.wp execOp
 simp only [ho,hl,hc,dQ,hr,fJ,eI,tf]
 have hzs:zv.cells.size=n:=by rw [<- tK,hz1,hzl]
 have hcur:(madeCells zv.cells (k*i.size)).toList=(List.replicate k z).flatten:=by
  rw [<- hz1,hz2,<- hzs]
  exact wE _ oa k
 refine hK' _ _ (hK _ _ ?_ (oy _ _))
 have hown:∀ k',fO R (w.alloc (.cells (madeCells zv.cells (k*i.size)) E)) (List.replicate k' z).flatten (List.replicate k' x0) []:=by
  intro k'
  induction k' with
  | zero=>exact ⟨rfl,rfl⟩
  | succ k' ih=>exact ⟨z,_,[],[],by simp [Bs],rfl,hx0 _,ih⟩
 have kk:Sat w (w.alloc (.cells (madeCells zv.cells (k*i.size)) E)) [Own (aG R E) [.slice (some ⟨w.heap.size,0,none⟩) k k] (List.replicate k x0)]:=by
  refine ⟨oy _ _,[w.heap.size],⟨[w.heap.size],[],rfl,.inr ⟨w.heap.size,k,_,_,[],by simp,heap_alloc_new w _,by simp,by unfold maxLen;omega,?_,rfl,?_,rfl⟩,rfl⟩,by simp,by simp⟩
  ·rw [<- tK,hcur];simp [hzl,hn]
  ·rw [hcur,nE (by simp [hzl,hn])]
   exact hown k
 simpa using hS.call kk

theorem Ih {v:Value} {xs:List α} {fp:List Nat} (h:(aG R E).own w [v] xs fp):(v=.slice none 0 0/\xs=[])\/∃ g cap,v=.slice (some ⟨g,0,none⟩) xs.length cap:=by
 rcases h with ⟨h,h2,_⟩ | ⟨g,cap,_,_,_,h,_⟩
 ·exact .inl ⟨by simpa using h,h2⟩
 ·exact .inr ⟨g,cap,by simpa using h⟩
theorem Sat.shape {v:Value} {xs:List α} (h:Sat w0 w (Own (aG R E) [v] xs :: Γ)):(v=.slice none 0 0/\xs=[])\/∃ g cap,v=.slice (some ⟨g,0,none⟩) xs.length cap:=by
 obtain ⟨fp,h,_⟩:=h.head
 exact Ih h

theorem Dm {w:World}:∀ {xs:List α} {ccs:List Value} {fp:List Nat},fO R w ccs xs fp->∀ (k:Nat) (_:k<xs.length) {ec:List Value} {y:α} {fy:List Nat},R.own w ec y fy ->
  ∃ fl fk fr,fp=fl++fk++fr/\fO R w (ccs.take (k*R.sz)++ec++ccs.drop (k*R.sz+R.sz)) (xs.set k y) (fl++fy++fr)
 | [],_,_,_,k,hk,_,_,_,_=>absurd hk (by simp)
 | x :: xs,_,_,h,0,_,ec,y,fy,hy=>by
  obtain ⟨e0,rest,f1,f2,rfl,rfl,h1,h2⟩:=h
  refine ⟨[],f1,f2,by simp,ec,rest,fy,f2,?_,by simp,hy,h2⟩
  have:=R.rd_len (R.own_rd h1)
  simp [<- this]
 | x :: xs,_,_,h,k+1,hk,ec,y,fy,hy=>by
  obtain ⟨e0,rest,f1,f2,rfl,rfl,h1,h2⟩:=h
  obtain ⟨fl,fk,fr,rfl,h3⟩:=Dm h2 k (by simpa using hk) hy
  refine ⟨f1++fl,fk,fr,by simp,e0,_,f1,fl++fy++fr,?_,by simp,h1,h3⟩
  have hl:=R.rd_len (R.own_rd h1)
  have e:(k+1)*R.sz=e0.length+k*R.sz:=by rw [hl,ma];omega
  rw [e,ve,nE oa,pv,show e0.length+k*R.sz+R.sz=e0.length+(k*R.sz+R.sz) by omega,List.drop_append,mN oa,pv]
  simp

theorem uk (L ec:List Value) (p s N:Nat) (h1:p+s<=N) (h2:N<=L.length) (h3:ec.length=s):(L.take (p+0)++ec++L.drop (p+0+s)).take N=(L.take N).take p++ec++(L.take N).drop (p+s):=by
 rw [mT,ve,nE (by simp;omega),List.take_take,nu (by omega:p<=N),List.drop_take]
 congr 2
 simp;omega
theorem Hi {t:TypeId} {x y:Operand} (hg:o.guard=none) (ho:o.op=.store t x y) {z:List Value} {n yO:Nat} [hz:ElemT P t z n yO] (hn:R.sz=n) {ec:List Value} {yv:α} {xs:List α} {g m cap:Nat}
  (hS:Sat w0 w (Own R ec yv :: Own (aG R E) [.slice (some ⟨g,0,none⟩) m cap] xs :: Γ)) (k off:Nat) (hk:k<xs.length) (hoff:off=k*n) (hx:a.eval x=.pointer (some ⟨g,off,none⟩)) (hy:(a.eval y).cells=ec.toArray)
  (hK:∀ w',Sat w0 w' (Own (aG R E) [.slice (some ⟨g,0,none⟩) m cap] (xs.set k yv) :: Γ)->wpList P ops Q rest (a.put o.dst undef) w'):wpList P ops Q (o :: rest) a w:=by
 refine lq hg fun K hK'=>?_
 have hz:=hz.h
 cases hi:P.info? t with
 | none=>simp [hi] at hz
 | some i =>
  simp [hi] at hz
  have hS':Sat w0 w (GX (Own R ec yv) (Own (aG R E) [.slice (some ⟨g,0,none⟩) m cap] xs) :: Γ):=hS.join fun f g h1 h2=>⟨f,g,rfl,h1,h2⟩
  obtain ⟨fp,⟨fy,f,rfl,hyo,hv⟩,hnd,_⟩:=hS'.head
  have hel:ec.length=R.sz:=R.rd_len (R.own_rd hyo)
  obtain ⟨cur,hh,hcs⟩:∃ cur,w.heap[g]? = some (.cells cur E (0,0))/\xs.length*R.sz<=cur.size:=by
   rcases hv with ⟨h,_⟩ | ⟨g',cap',cur,ccs,f2,h,hg',h1,h2,h3,_⟩
   ·simp at h
   ·simp at h
    obtain ⟨rfl,_⟩:=h
    exact ⟨cur,hg',by rw [h3];exact me _ h1⟩
  have hkk:k*R.sz+R.sz<=xs.length*R.sz:=by have:=me R.sz hk;rw [tG] at this;exact this
  have hh':w.heap[g]? = some (.cells cur.toList.toArray E (0,0)):=by simpa using hh
  obtain ⟨w',hr,hnew,hc⟩:=jf (P:=P) ec off 0 cur.toList w hh' (by rw [hoff,hel,<- hn];simp;omega) (R.rd_one (R.own_rd hyo))
  have hsz:¬ (ec.toArray.size≠i.size):=by simp;omega
  unfold Oper.wp execOp
  simp only [ho,hx,Instr.storeAt,Instr.sureAddr,storeVar,sizeOf,typeInfo,hi,hy,dQ,fJ,mS,eI,hsz,nv,sq,sa,hr,xM]
  refine hK' _ _ (hK w' ?_)
  refine hS'.yJ ?_
  rintro _ ⟨gy,gf,rfl,hy2,hv2⟩ hnd2
  rcases hv2 with ⟨h,_⟩ | ⟨g',cap',cur',ccs,f2,h,hg',h1,h2,h3,h4,h5,rfl⟩
  ·simp at h
  ·simp at h
   obtain ⟨rfl,rfl,rfl⟩:=h
   obtain ⟨rfl⟩:cur'=cur:=by rw [hh] at hg';simpa using hg'.symm
   obtain ⟨fl,fk,fr,rfl,h6⟩:=Dm h5 k hk hy2
   have hoth:∀ x,x≠g->x<w.heap.size->w'.heap[x]? = w.heap[x]?:=fun x hx hlt=>hc.block x hlt (by simpa using hx)
   have hnd3:(gy++g :: (fl++fk++fr)).Nodup:=hnd2
   simp only [mF,jm,cU,bX] at hnd3
   have hgn:g∉fl++gy++fr:=by
    simp only [cU,not_or]
    refine ⟨⟨fun hm=>hnd3.2.1.1 (.inl (.inl hm)),fun hm=>hnd3.2.2 g hm g (.inl rfl) rfl⟩,fun hm=>hnd3.2.1.1 (.inr hm)⟩
   refine ⟨g :: (fl++gy++fr),.inr ⟨g,cap,_,ccs.take (k*R.sz)++ec++ccs.drop (k*R.sz+R.sz),fl++gy++fr,by simp,hnew,by simpa using h1,h2,?_,?_,hU h6 (fun b hb=>hoth b (fun e=>hgn (e ▸ hb)) ?_),rfl⟩,?_,hc.mono (by simp),?_⟩
   ·simp only [qj,bZ,c5,iH,tK]
    rw [hoff,<- hn]
    omega
   ·have hcl:ccs.length=xs.length*R.sz:=kw (i4 h5)
    rw [<- h4,hoff,<- hn,hel,gd]
    exact uk _ _ _ _ _ hkk (by simpa using hcs) hel
   ·exact iC h6 b hb
   ·refine jm.2 ⟨hgn,?_⟩
    have hs:(gy++(fl++fr)).Nodup:=List.Nodup.sublist (List.Sublist.append (List.Sublist.refl gy) (List.Sublist.cons g (List.Sublist.append (List.sublist_append_left fl fk) (List.Sublist.refl fr)))) hnd2
    rw [<- eS] at hs
    exact (qh fr ql).nodup_iff.1 hs
   ·intro b hb
    refine .inl ?_
    simp only [bX,cU] at hb ⊢
    rcases hb with h | (h | h) | h <;> simp [h]

theorem AU {t e:TypeId} [ht:SliceT P t e] {z:List Value} {n yO:Nat} [hz:ElemT P e z n yO] {v:Value} {cs:List Value} (hcs:v.cells=cs.toArray) (hl:cs.length=n) (hpos:0<n) (hzl:z.length=n) (hn:n<=16) :
  (Instr.buildSlice t 1 #[(0,v)]).run P w=.ok (.slice (some ⟨w.heap.size,0,none⟩) 1 1) (w.alloc (.cells cs.toArray e)):=by
 have hz:=hz.h
 cases hi:P.info? e with
 | none=>simp [hi] at hz
 | some i =>
 cases hzz:i.zero with
 | none=>simp [hi,hzz] at hz
 | some zv =>
 simp [hi,hzz] at hz
 obtain ⟨hz1,hz2,hz3⟩:=hz
 have h24:¬ (n > 2 ^ 24):=by omega
 have hn0:¬ (n=0):=by omega
 have hfill:Instr.fill (fun i=>some (i*n,n)) ((Array.range n).map (zv.cells[· % zv.cells.size]!)) [(0,v)]=some cs.toArray:=by
  have hsz:((Array.range n).map (zv.cells[· % zv.cells.size]!)).size=n:=by simp
  have hfold:∀ (l:List Value) (pre:List Value) (A:Array Value),A.size=pre.length+l.length->A.toList.take pre.length=pre ->
    ((l.zipIdx pre.length).foldl (fun A (c:Value × Nat)=>A.setIfInBounds c.2 c.1) A).toList=pre++l:=by
   intro l
   induction l with
   | nil=>intro pre A h1 h2;simp;rw [<- h2,nE (by simp at h1 ⊢;omega)]
   | cons x l ih =>
    intro pre A h1 h2
    simp only [List.zipIdx_cons,tI]
    have:=ih (pre++[x]) (A.setIfInBounds pre.length x) (by simp at h1 ⊢;omega) (by
     simp only [Array.toList_setIfInBounds,bZ,bP]
     rw [xS,gR (by simp at h1 ⊢;omega),h2,AT _ _ (bN _)]
     simp)
    simpa using this
  have h0:=hfold cs [] ((Array.range n).map (zv.cells[· % zv.cells.size]!)) (by simp [hl]) (by simp)
  simp only [Instr.fill,hcs,qj,hl,hsz,s5,dA,ne_eq,not_true_eq_false,decide_false,tP,gt_iff_lt,Nat.lt_irrefl,xn,nv]
  congr 1
  apply Array.ext'
  simpa using h0
 simp [Instr.buildSlice,fY ht.h,sizeOf,typeInfo,hi,hz2,h24,hn0,zeroValue,hzz,hfill,newRow]

theorem Bq (hg:o.guard=none) {t e:TypeId} {x:Operand} (ho:o.op=.buildSlice t 1 #[(0,x)]) [SliceT P t e] {z:List Value} {n yO:Nat} [ElemT P e z n yO] {cs:List Value} (hcs:(a.eval x).cells=cs.toArray) (hl:cs.length=n) (hpos:0<n) (hzl:z.length=n) (hn:n<=16)
  (hS:Sat w0 w Γ) (hK:∀ w' b,Sat w0 w' (Box b e cs :: Γ)->Ext w w'->wpList P ops Q rest (a.put o.dst (.slice (some ⟨b,0,none⟩) 1 1)) w'):wpList P ops Q (o :: rest) a w:=by
 refine lq hg fun K hK'=>?_
 have hr:=AU (P:=P) (w:=w) (t:=t) (e:=e) hcs hl hpos hzl hn
 unfold Oper.wp execOp
 simp only [ho,List.map_toArray,gH,ou,hr,dQ,fJ,eI,tf]
 exact hK' _ _ (hK _ _ (hS.box e cs) (oy _ _))

theorem AN (R:Rep α) (hg:o.guard=none) {t:TypeId} (ho:o.op=.buildSlice t 0 #[]) [ht:SliceT P t E] {z:List Value} {n yO:Nat} [hz:ElemT P E z n yO]
  (hS:Sat w0 w Γ) (hK:∀ w' b,Sat w0 w' (Own (aG R E) [.slice (some ⟨b,0,none⟩) 0 0] [] :: Γ)->Ext w w'->wpList P ops Q rest (a.put o.dst (.slice (some ⟨b,0,none⟩) 0 0)) w'):wpList P ops Q (o :: rest) a w:=by
 refine lq hg fun K hK'=>?_
 have hz:=hz.h
 cases hi:P.info? E with
 | none=>simp [hi] at hz
 | some i =>
 have hr:(Instr.buildSlice t 0 #[]).run P w=.ok (.slice (some ⟨w.heap.size,0,none⟩) 0 0) (w.alloc (.cells #[] E)):=by
  simp [Instr.buildSlice,fY ht.h,sizeOf,typeInfo,hi,Instr.fill,newRow,Array.range_zero']
 unfold Oper.wp execOp
 simp only [ho,List.map_toArray,ou,hr,dQ,fJ,eI,tf]
 have hB:=hS.box E []
 refine hK' _ _ (hK _ _ (hB.conv (B:=Own (aG R E) [.slice (some ⟨w.heap.size,0,none⟩) 0 0] []) fun f hf=>?_) (oy _ _))
 obtain ⟨rfl,hf⟩:=hf
 exact .inr ⟨w.heap.size,0,#[],[],[],rfl,hf,bN _,cV _,by simp,by simp,⟨rfl,rfl⟩,rfl⟩

theorem Sat.one {ec:List Value} {y:α} (h:Sat w0 w (Own R ec y :: Γ)):Sat w0 w (tp R ec [y] :: Γ) :=
 h.conv fun f hf=>⟨ec,[],f,[],by simp,by simp,hf,rfl,rfl⟩
theorem Sat.str (h:Sat w0 w Γ) (s:ByteArray) (hs:s.size<=9223372036854775807):Sat w0 w (Own nR [.string s] s :: Γ):=h.add ⟨⟨rfl,hs⟩,rfl⟩
theorem Sat.int (h:Sat w0 w Γ) (n:Int):Sat w0 w (Own cA [.int .i64 n] n :: Γ):=h.add ⟨rfl,rfl⟩
theorem Sat.pair {α β:Type} {R:Rep α} {S:Rep β} {c d:List Value} {x:α} {y:β} (h:Sat w0 w (Own R c x :: Own S d y :: Γ)):Sat w0 w (Own (rz R S) (c++d) (x,y) :: Γ) :=
 h.join fun f g h1 h2=>⟨c,d,f,g,rfl,rfl,h1,h2⟩
theorem Sat.ints {xs:yP} (h:Sat w0 w Γ):Sat w0 w (tp cA (xs.map (Value.int .i64)) xs :: Γ):=by
 refine h.add ?_
 induction xs with
 | nil=>exact ⟨rfl,rfl⟩
 | cons x xs ih=>exact ⟨[.int .i64 x],_,[],[],rfl,rfl,⟨rfl,rfl⟩,ih⟩
end laws2
abbrev Env:=Nat->Value
def upd (e:Env) (d:Nat) (v:Value):Env:=fun t=>bif Nat.beq t d then v else e t
def ev (e:Env):Operand->Value
 | .tmp t=>e t
 | .const v=>v
 | .global g=>.pointer (some ⟨g,0,none⟩)
 | .func f=>.func (.func f) #[] #[]
theorem vw {a b:Nat} (h:¬ a=b):Nat.beq a b=false:=by
 cases hb:Nat.beq a b
 ·rfl
 ·exact absurd (tv hb) h
structure Mt (n:Nat) (e:Env) (a:Act):Prop where
 size:a.tmps.size=n
 defers:a.defers=[]
 get:∀ t,a.tmps.getD t undef=e t
theorem Mt.eval {n:Nat} {e:Env} {a:Act} (h:Mt n e a):a.eval=ev e:=by
 funext x
 cases x <;> simp only [Act.eval,ev]
 exact h.get _
theorem Mt.put {n:Nat} {e:Env} {a:Act} (h:Mt n e a) {d:Nat} (hd:d<n) (v:Value):Mt n (upd e d v) (a.put (some d) v):=by
 refine ⟨by simp [Act.put,h.size],by simpa [Act.put] using h.defers,fun t=>?_⟩
 have hg:=h.get t
 have hs:=h.size
 simp only [Act.put,upd]
 by_cases ht:t=d
 ·subst ht
  simp [Array.getD,hs,hd]
 ·have:Nat.beq t d=false:=vw ht
  rw [this]
  simp only [ai,<- hg,Array.getD,Array.size_setIfInBounds]
  split
  ·rename_i hlt
   have:=Array.getElem_setIfInBounds (xs:=a.tmps) (i:=d) (a:=v) (j:=t) (by simpa using hlt)
   rw [aS (fun e=>ht e.symm)] at this
   exact this
  ·rfl
theorem Jm {e:Env} {d:Nat} {v:Value} (h:e d=v):upd e d v=e:=by
 funext t
 unfold upd
 by_cases ht:t=d
 ·subst ht;simp [h]
 ·have:Nat.beq t d=false:=vw ht
  rw [this];rfl
theorem OH {e e':Env} {d:Nat} {v:Value} (h:e' d=v) (h2:e=e'):e=upd e' d v:=by rw [Jm h,h2]
def PV (P:Program) (o:Oper) (e:Env) (w:World) (v:Value):Prop:=∀ w',Ext w w'->(execOp (ev e) o).run P w'=.ok (.value v) w'
theorem PV.ext {P:Program} {o:Oper} {e:Env} {w w1:World} {v:Value} (h:PV P o e w v) (hx:Ext w w1):PV P o e w1 v:=fun w' h'=>h w' (hx.trans h')

def nrm (n:Nat) (K:Env->World->Prop):Exit->Act->World->Prop:=fun x a w=>x=.normal/\∃ e,Mt n e a/\K e w
def EL (P:Program) (n:Nat) (ops:Array Oper) (K:Env->World->Prop) (rest:List Oper) (e:Env) (w:World):Prop:=∀ a,Mt n e a->wpList P ops (nrm n K) rest a w
def QL (P:Program) (n:Nat) (ops:Array Oper) (w:World) (K:Env->Prop) (rest:List Oper) (e:Env):Prop:=∀ a,Mt n e a->wpQuiet P ops (fun w'=>Ext w w') (fun a'=>∃ e',Mt n e' a'/\K e') rest a

structure Goes (P:Program) (f:FuncId):Prop where
 h:∃ fn,P.funcs[f]? = some fn/\(fn.name == "runtime.NumGoroutine")=false/\fn.body.isNone=false
theorem Goes.run {P:Program} {f:FuncId} (h:Goes P f) (args:Array Value) (w:World):(callFunc f args).run P w=.ok (.enter f args) w:=by
 obtain ⟨fn,h1,h2,h3⟩:=h.h
 simp only [callFunc,dQ,mS,eI,h1,h2,h3,xn,nv]
 rfl

section
variable {P:Program} {n:Nat} {ops:Array Oper} {K:Env->World->Prop} {KQ:Env->Prop} {rest:List Oper} {e:Env} {w w0:World} {v:Value} {d:Nat} {op:Op} {ty:TypeId} {pos:String} {af:Array Edge} {Γ rΓ:List Asn}

theorem ak (h:K e w):EL P n ops K [] e w:=fun _ ha=>⟨rfl,e,ha,h⟩
theorem cj (h:KQ e):QL P n ops w KQ [] e:=fun _ ha=>⟨e,ha,h⟩
theorem qn (hp:PV P ⟨some d,op,ty,pos,af,none⟩ e w v) (hd:d<n) (hK:EL P n ops K rest (upd e d v) w):EL P n ops K (⟨some d,op,ty,pos,af,none⟩ :: rest) e w:=by
 intro a ha
 refine lq rfl fun K' hK'=>?_
 unfold Oper.wp
 rw [ha.eval,hp w (Ext.refl w)]
 exact hK' _ _ (hK _ (ha.put hd v))
theorem yc (hp:PV P ⟨some d,op,ty,pos,af,none⟩ e w v) (hd:d<n) (hK:QL P n ops w KQ rest (upd e d v)):QL P n ops w KQ (⟨some d,op,ty,pos,af,none⟩ :: rest) e:=by
 intro a ha
 unfold wpQuiet
 rw [aK (by rfl)]
 refine ⟨v,fun w' hw'=>?_,hK _ (ha.put hd v)⟩
 unfold Oper.quietAt
 rw [ha.eval,hp w' hw']
 exact ⟨rfl,rfl⟩
theorem bD {f:FuncId} {args:Array Operand} {tys:Array TypeId} {vals:Array Value} {R:Ending->World->Prop} (hg:Goes P f) (hc:Calls P f vals w R) (hv:(args.toList.map (ev e)).toArray=vals) (hd:d<n)
  (hK:∀ x w',R x w'->∃ v,x=.returned v/\EL P n ops K rest (upd e d v) w'):EL P n ops K (⟨some d,.call ⟨.value (.func f),args,tys⟩,ty,pos,af,none⟩ :: rest) e w:=by
 intro a ha
 refine lq rfl fun K' hK'=>?_
 unfold Oper.wp execOp
 have he:args.map (ev e)=vals:=by rw [<- hv];apply Array.ext';simp
 simp only [ha.eval,resolve,ev,Deferred.ofValue,dQ,fJ,eI,Array.empty_append,Array.append_empty,he,invoke,hg.run,Oper.upon_enter]
 refine hc.mono fun x w' hx=>?_
 obtain ⟨v,rfl,h⟩:=hK x w' hx
 exact hK' _ _ (h _ (ha.put hd v))
theorem fo {f:FuncId} {args:Array Operand} {tys:Array TypeId} {vals:Array Value} (v:Value) (hg:Goes P f)
  (hc:∀ w',Ext w w'->Calls P f vals w' fun x w''=>x=.returned v/\Ext w' w'') (hv:(args.toList.map (ev e)).toArray=vals) (hd:d<n)
  (hK:QL P n ops w KQ rest (upd e d v)):QL P n ops w KQ (⟨some d,.call ⟨.value (.func f),args,tys⟩,ty,pos,af,none⟩ :: rest) e:=by
 intro a ha
 unfold wpQuiet
 rw [aK (by rfl)]
 refine ⟨v,fun w' hw'=>?_,hK _ (ha.put hd v)⟩
 unfold Oper.quietAt execOp
 have he:args.map (ev e)=vals:=by rw [<- hv];apply Array.ext';simp
 simp only [ha.eval,resolve,ev,Deferred.ofValue,dQ,fJ,eI,Array.empty_append,Array.append_empty,he,invoke,hg.run]
 exact ⟨rfl,(hc w' hw').mono fun x w'' ⟨h1,h2⟩=>⟨h1,hw'.trans h2⟩⟩
def yld (ops:Array Oper) (e:Env) (j:Nat):Option Bool :=
 match (ops[j]?).bind (·.dst) with
 | some t=>match e t with | .bool b=>some b | _=>none
 | none=>none
theorem oS {a:Act} (ha:Mt n e a) {j:Nat} {b:Bool} (h:yld ops e j=some b):yielded ops a.tmps j=some b:=by
 unfold yld at h
 unfold yielded
 cases hj:(ops[j]?).bind (·.dst) with
 | none=>simp [hj] at h
 | some t =>
  simp only [hj] at h
  have hg:=ha.get t
  simp only [rF]
  cases hv:e t with
  | bool c =>
   rw [hv] at h hg
   simp only [qp] at h
   subst h
   unfold Array.getD at hg
   split at hg
   ·rename_i hlt
    rw [nY hlt]
    have:a.tmps[t]=.bool c:=hg
    rw [this]
   ·simp [undef] at hg
  | _=>simp [hv] at h
theorem xt {a:Act} (ha:Mt n e a) {j:Nat} (h:(match (ops[j]?).bind (·.dst) with | some t=>e t | none=>undef)=undef):yielded ops a.tmps j=none:=by
 unfold yielded
 cases hj:(ops[j]?).bind (·.dst) with
 | none=>rfl
 | some t =>
  simp only [hj] at h
  have hg:=ha.get t
  rw [h] at hg
  simp only [rF]
  cases hv:a.tmps[t]? with
  | none=>rfl
  | some v =>
   have:a.tmps.getD t undef=v:=by
    obtain ⟨h1,h2⟩:=jk.1 hv
    simp [Array.getD,h1,h2]
   rw [this] at hg
   subst hg
   rfl
theorem NV {j:Nat} {b c:Bool} {dst:Option Nat} (h:yld ops e j=some c) (hc:c=b) (hK:EL P n ops K (⟨dst,op,ty,pos,af,none⟩ :: rest) e w):EL P n ops K (⟨dst,op,ty,pos,af,some (j,b)⟩ :: rest) e w:=by
 subst hc
 intro a ha
 have:=hK a ha
 unfold wpList at this ⊢
 rw [aK (by simp [Region.wanted])] at this
 rw [aK (by simp [Region.wanted,oS ha h])]
 exact this
theorem Ms {j:Nat} {b b' c:Bool} {d:Nat} (h:yld ops e j=some c) (hc:c=b) (hb:(b == b')=false) (hd:d<n) (hK:EL P n ops K rest (upd e d undef) w):EL P n ops K (⟨some d,op,ty,pos,af,some (j,b')⟩ :: rest) e w:=by
 subst hc
 intro a ha
 unfold wpList
 rw [aS (by simp [Region.wanted,oS ha h];simpa using hb)]
 exact hK _ (ha.put hd _)
theorem N9 {j:Nat} {b c:Bool} {dst:Option Nat} (h:yld ops e j=some c) (hc:c=b) (hK:QL P n ops w KQ (⟨dst,op,ty,pos,af,none⟩ :: rest) e):QL P n ops w KQ (⟨dst,op,ty,pos,af,some (j,b)⟩ :: rest) e:=by
 subst hc
 intro a ha
 have:=hK a ha
 unfold wpQuiet at this ⊢
 rw [aK (by simp [Region.wanted])] at this
 rw [aK (by simp [Region.wanted,oS ha h])]
 exact this
theorem Mi {j:Nat} {b b' c:Bool} {d:Nat} (h:yld ops e j=some c) (hc:c=b) (hb:(b == b')=false) (hd:d<n) (hK:QL P n ops w KQ rest (upd e d undef)):QL P n ops w KQ (⟨some d,op,ty,pos,af,some (j,b')⟩ :: rest) e:=by
 subst hc
 intro a ha
 unfold wpQuiet
 rw [aS (by simp [Region.wanted,oS ha h];simpa using hb)]
 exact hK _ (ha.put hd _)
end

def Lf (n:Nat) (Q:Exit->Env->World->Prop):Exit->Act->World->Prop:=fun x a w=>∃ e,Mt n e a/\Q x e w
def CW (P:Program) (n:Nat) (c:Code) (Q:Exit->Env->World->Prop) (e:Env) (w:World):Prop:=∀ a,Mt n e a->c.wp P (Lf n Q) a w
def thn (K:Env->World->Prop) (Q:Exit->Env->World->Prop):Exit->Env->World->Prop
 | .normal,e,w=>K e w
 | x,e,w=>Q x e w
def inb (id:Nat) (Q:Exit->Env->World->Prop):Exit->Env->World->Prop
 | .exit id',e,w=>bif Nat.beq id' id then Q .normal e w else Q (.exit id') e w
 | x,e,w=>Q x e w
section
variable {P:Program} {n:Nat} {Q:Exit->Env->World->Prop} {K:Env->World->Prop} {e:Env} {w:World} {c x y:Code}
theorem AX (h:∀ Q',(∀ x e w,Q x e w->Q' x e w)->CW P n c Q' e w):CW P n c Q e w:=h Q fun _ _ _ h=>h
theorem NU {i:Nat} (h:Q .normal e w):inb i Q (.exit i) e w:=by
 have:Nat.beq i i=true:=by simp
 show (bif Nat.beq i i then _ else _)
 rw [this];exact h
theorem HZ (h:CW P n x (thn (fun e w=>CW P n y Q e w) Q) e w):CW P n (.seq x y) Q e w:=by
 intro a ha
 refine wp_seq (rD (h a ha) ?_)
 rintro x' a' w' ⟨e',he',hq⟩
 cases x' with
 | normal=>exact hq a' he'
 | _=>exact ⟨e',he',hq⟩
theorem bk (h:Q .normal e w):CW P n .skip Q e w:=fun _ ha=>wp_skip ⟨e,ha,h⟩
theorem aY {i:Nat} (h:Q (.exit i) e w):CW P n (.exit i) Q e w:=fun _ ha=>wp_exit ⟨e,ha,h⟩
theorem am (h:Q .ret e w):CW P n .ret Q e w:=fun _ ha=>wp_ret ⟨e,ha,h⟩
theorem H3 {o:Operand} {b:Bool} (hc:ev e o=.bool b) (hb:b=true) (h:CW P n x Q e w):CW P n (.cond o x y) Q e w :=
 fun a ha=>wp_cond_true (by rw [ha.eval,hc,hb]) (h a ha)
theorem Iq {o:Operand} {b:Bool} (hc:ev e o=.bool b) (hb:b=false) (h:CW P n y Q e w):CW P n (.cond o x y) Q e w :=
 fun a ha=>wp_cond_false (by rw [ha.eval,hc,hb]) (h a ha)
theorem I9 {i:Nat} (h:CW P n c (inb i Q) e w):CW P n (.block i c) Q e w:=by
 intro a ha
 refine wp_block (rD (h a ha) ?_)
 rintro x' a' w' ⟨e',he',hq⟩
 cases x' with
 | exit id' =>
  by_cases hi:id'=i
  ·subst hi
   have:Nat.beq id' id'=true:=by simp
   have hq':(bif Nat.beq id' id' then Q .normal e' w' else Q (.exit id') e' w'):=hq
   rw [this] at hq'
   simp only [Exit.inBlock,if_true]
   exact ⟨e',he',hq'⟩
  ·have:Nat.beq id' i=false:=vw hi
   have hq':(bif Nat.beq id' i then Q .normal e' w' else Q (.exit id') e' w'):=hq
   rw [this] at hq'
   simp only [Exit.inBlock,hi,nv]
   exact ⟨e',he',hq'⟩
 | _=>exact ⟨e',he',hq⟩
theorem ag {id:Nat} {l:List Oper} (h:EL P n l.toArray (fun e w=>Q .normal e w) l e w):CW P n (.region id l.toArray false) Q e w:=by
 intro a ha
 refine rD (wp_region_lit (h a ha)) ?_
 rintro x a w ⟨rfl,e,he,hk⟩
 exact ⟨e,he,hk⟩
theorem dM {id:Nat} {l:List Oper} (hm:P.follows .mixedOrders=true) (hB:Region.lexB .any l.toArray=true) (h:QL P n l.toArray w (fun e=>∀ w',Ext w w'->Q .normal e w') l e):CW P n (.region id l.toArray true) Q e w:=by
 intro a ha
 refine wp_region_quiet (C:=fun w'=>Ext w w') hm hB ⟨rfl,rfl,rfl,bN _,fun _ _=>rfl⟩ ?_
 have:=h a ha
 have key:∀ (r:List Oper) (a:Act),wpQuiet P l.toArray (fun w'=>Ext w w') (fun a'=>∃ e',Mt n e' a'/\∀ w',Ext w w'->Q .normal e' w') r a->wpQuiet P l.toArray (fun w'=>Ext w w') (fun a'=>∀ w',Ext w w'->Lf n Q .normal a' w') r a:=by
  intro r
  induction r with
  | nil=>rintro a ⟨e',h1,h2⟩ w' hw';exact ⟨e',h1,h2 w' hw'⟩
  | cons o r ih =>
   intro a h
   unfold wpQuiet at h ⊢
   split
   ·rename_i hw
    rw [aK hw] at h
    exact Oper.quiet_mono ih h
   ·rename_i hw
    rw [aS hw] at h
    exact ih _ h
 exact key _ _ this
theorem KZ (I:Nat->Env->World->Prop) (k0:Nat) (h0:I k0 e w)
  (hr:∀ k e w,I k e w->CW P n c (thn (fun e w=>∃ k',k'<k/\I k' e w) Q) e w):CW P n (.loop c) Q e w:=by
 intro a ha
 refine wp_loop_ghost (fun k a w=>∃ e,Mt n e a/\I k e w) k0 ⟨e,ha,h0⟩ ?_
 rintro k a w ⟨e,he,hI⟩
 refine rD (hr k e w hI a he) ?_
 rintro x' a' w' ⟨e',he',hq⟩
 cases x' with
 | normal =>
  obtain ⟨k',hk',hI'⟩:=hq
  exact ⟨k',hk',e',he',hI'⟩
 | _=>exact ⟨e',he',hq⟩
theorem I4 (I:Nat->Env->World->Prop) (k0:Nat) (h0:I k0 e w) (hz:∀ e w,¬ I 0 e w)
  (hr:∀ k e w,I (k+1) e w->CW P n c (thn (fun e w=>I k e w) Q) e w):CW P n (.loop c) Q e w:=by
 refine KZ I k0 h0 ?_
 intro k e w hI
 cases k with
 | zero=>exact absurd hI (hz e w)
 | succ k =>
  intro a ha
  refine rD (hr k e w hI a ha) ?_
  rintro x' a' w' ⟨e',he',hq⟩
  cases x' with
  | normal=>exact ⟨e',he',k,Nat.lt_succ_self k,hq⟩
  | _=>exact ⟨e',he',hq⟩
end

def Fin (P:Program) (fn:Func) (n:Nat) (R:Ending->World->Prop):Exit->Env->World->Prop
 | .normal,e,w=>∃ v,(∀ a,Mt n e a->(results fn a.tmps).run P w=.ok v w)/\R (.returned v) w
 | .ret,e,w=>∃ v,(∀ a,Mt n e a->(results fn a.tmps).run P w=.ok v w)/\R (.returned v) w
 | _,_,_=>False
def A2:List Value->Nat->Env
 | [],_=>fun _=>undef
 | v :: l,k=>upd (A2 l (k+1)) k v
theorem B8:∀ (l:List Value) (k t:Nat),A2 l k t=if k<=t then l.getD (t-k) undef else undef
 | [],k,t=>by simp [A2]
 | v :: l,k,t=>by
  unfold A2 upd
  by_cases h:t=k
  ·subst h;simp
  ·have hb:Nat.beq t k=false:=vw h
   rw [hb,ai,B8 l (k+1) t]
   by_cases hk:k+1<=t
   ·rw [aK hk,aK oa,show t-k=(t-(k+1))+1 by omega]
    simp
   ·rw [aS hk]
    by_cases hk2:k<=t
    ·omega
    ·rw [aS hk2]
theorem ba {P:Program} {f:FuncId} {fn:Func} {c:Code} {l:List Value} {w:World} {R:Ending->World->Prop} (hf:P.funcs[f]? = some fn) (hb:fn.body=some c) {n:Nat} (hn:fn.ntmps=n) (hl:l.length<=n)
  (h:CW P n c (Fin P fn n R) (A2 l 0) w):Calls P f l.toArray w R:=by
 refine calls_of_wp hf hb (rD (h _ ?_) ?_)
 ·refine ⟨by simp;omega,rfl,fun t=>?_⟩
  rw [B8]
  simp only [cV,if_true,lB,Array.getD,AF,qj,Array.size_replicate]
  by_cases h1:t<l.length
  ·rw [mG oa]
   simp [h1]
  ·have h2:l.getD t undef=undef:=by simp [h1]
   rw [h2]
   split
   ·rename_i h3
    have:=Array.getElem_append_right (xs:=l.toArray) (ys:=Array.replicate (fn.ntmps-l.length) undef) (i:=t) (by simpa using h1) (h:=by simpa using h3)
    simpa using this
   ·rfl
 ·rintro x a w' ⟨e,he,hq⟩
  cases x with
  | normal=>obtain ⟨v,h1,h2⟩:=hq;exact bodyPost_end (h1 a he) he.defers h2
  | ret=>obtain ⟨v,h1,h2⟩:=hq;exact bodyPost_ret (h1 a he) he.defers h2
  | _=>exact hq.elim
def rng (n:Int):Bool:=decide (-9223372036854775808<=n)&&decide (n<=9223372036854775807)
def ad (a b:Int):Option Int:=if rng (a+b) then some (a+b) else none
def sb (a b:Int):Option Int:=if rng (a-b) then some (a-b) else none
def ml (a b:Int):Option Int:=if rng (a*b) then some (a*b) else none
def qt (a b:Int):Option Int:=if b≠0/\rng (a.tdiv b) then some (a.tdiv b) else none
def rm (a b:Int):Option Int:=if b≠0 then some (a.tmod b) else none
def ix {α:Type} (xs:List α) (i:Int):Option α:=if 0<=i then xs[i.toNat]? else none
def bx (s:ByteArray) (i:Int):Option Int:=if 0<=i then (s[i.toNat]?).map (fun b=>(b.toNat:Int)) else none
def slc {α:Type} (xs:List α) (lo hi:Int):Option (List α):=if 0<=lo/\lo<=hi/\hi<=xs.length then some ((xs.take hi.toNat).drop lo.toNat) else none
def apd {α:Type} (yO:Nat) (xs ys:List α):Option (List α):=if (xs.length+ys.length)*yO<=140737488355328 then some (xs++ys) else none
def mk {α:Type} (yO:Nat) (z:α) (n:Int):Option (List α):=if 0<=n/\n.toNat*yO<=281474976710656/\n.toNat<=140737488355328 then some (List.replicate n.toNat z) else none
def sto {α:Type} (xs:List α) (i:Int) (y:α):Option (List α):=if 0<=i/\i.toNat<xs.length then some (xs.set i.toNat y) else none

theorem ob {α β:Type} {o:Option α} {f:α->Option β} {r:β} (h:o.bind f=some r):∃ x,o=some x/\f x=some r:=Option.bind_eq_some_iff.1 h
theorem oif {α:Type} {c:Bool} {x y:Option α} {r:α} (h:(bif c then x else y)=some r):(c=true/\x=some r)\/(c=false/\y=some r):=by
 cases c
 ·exact .inr ⟨rfl,h⟩
 ·exact .inl ⟨rfl,h⟩
theorem nl {n:Int} (h:rng n=true):IntKind.i64.wrap n=n:=by
 simp only [rng,ce,dm] at h
 exact IntWalk.i64_in n h
theorem Gm {a b c:Int} (h:ad a b=some c):rng (a+b)=true/\c=a+b:=by
 unfold ad at h;split at h
 ·exact ⟨by assumption,by simpa using h.symm⟩
 ·cases h
theorem Gf {a b c:Int} (h:sb a b=some c):rng (a-b)=true/\c=a-b:=by
 unfold sb at h;split at h
 ·exact ⟨by assumption,by simpa using h.symm⟩
 ·cases h
theorem Ld {a b c:Int} (h:ml a b=some c):rng (a*b)=true/\c=a*b:=by
 unfold ml at h;split at h
 ·exact ⟨by assumption,by simpa using h.symm⟩
 ·cases h
theorem gq {α:Type} {xs:List α} {i:Int} {x:α} (h:ix xs i=some x):∃ k:Nat,i=(k:Int)/\∃ h:k<xs.length,xs[k]=x:=by
 unfold ix at h
 split at h
 ·rename_i h0
  obtain ⟨h1,h2⟩:=xb.1 h
  exact ⟨i.toNat,oa,h1,h2⟩
 ·cases h

section
variable {P:Program} {e:Env} {w w0:World} {d:Option Nat} {ty:TypeId} {pos:String} {af:Array Edge} {x y z:Operand} {Γ rΓ:List Asn}

theorem bo {v:Value} (hx:ev e x=v):PV P ⟨d,.move x,ty,pos,af,none⟩ e w v:=fun w' _=>by
 unfold execOp;simp only [hx];rfl
theorem bH {v:Value} (hx:ev e x=v:=by exact rfl):PV P ⟨d,.move x,ty,pos,af,none⟩ e w v:=bo hx
theorem fh {v:Value} (hx:ev e x=v):PV P ⟨d,.assign x,ty,pos,af,none⟩ e w v:=fun w' _=>by
 unfold execOp;simp only [hx];rfl
theorem Cf {b:Bool} {v:Value} (hx:ev e x=.bool b) (hb:b=true) (hy:ev e y=v):PV P ⟨d,.pick x y z,ty,pos,af,none⟩ e w v:=fun w' _=>by
 unfold execOp;subst hb;simp [hx,hy,asBool]
theorem az {b:Bool} {v:Value} (hb:b=true) (hx:ev e x=.bool b:=by exact rfl) (hy:ev e y=v:=by exact rfl):PV P ⟨d,.pick x y z,ty,pos,af,none⟩ e w v:=Cf hx hb hy
theorem bY {b:Bool} {v:Value} (hx:ev e x=.bool b:=by exact rfl) (hb:b=true:=by exact rfl) (hy:ev e y=v:=by exact rfl):PV P ⟨d,.pick x y z,ty,pos,af,none⟩ e w v:=Cf hx hb hy
theorem Cp {b:Bool} {v:Value} (hx:ev e x=.bool b) (hb:b=false) (hz:ev e z=v):PV P ⟨d,.pick x y z,ty,pos,af,none⟩ e w v:=fun w' _=>by
 unfold execOp;subst hb;simp [hx,hz,asBool]
theorem ay {b:Bool} {v:Value} (hb:b=false) (hx:ev e x=.bool b:=by exact rfl) (hz:ev e z=v:=by exact rfl):PV P ⟨d,.pick x y z,ty,pos,af,none⟩ e w v:=Cp hx hb hz
theorem bG {b:Bool} {v:Value} (hx:ev e x=.bool b:=by exact rfl) (hb:b=false:=by exact rfl) (hz:ev e z=v:=by exact rfl):PV P ⟨d,.pick x y z,ty,pos,af,none⟩ e w v:=Cp hx hb hz
theorem MR {t:TypeId} {b:Bool} (hx:ev e x=.bool b):PV P ⟨d,.unOp .not t x,ty,pos,af,none⟩ e w (.bool (!b)):=fun w' _=>by
 unfold execOp;simp [hx,Op.unary]
theorem aW {t:TypeId} {b:Bool} (hx:ev e x=.bool b:=by exact rfl):PV P ⟨d,.unOp .not t x,ty,pos,af,none⟩ e w (.bool (!b)):=MR hx
theorem xw {t:TypeId} {a c:Int} (hx:ev e x=.int .i64 a) (h:sb 0 a=some c):PV P ⟨d,.unOp .neg t x,ty,pos,af,none⟩ e w (.int .i64 c):=fun w' _=>by
 obtain ⟨h1,rfl⟩:=Gf h
 unfold execOp;simp [hx,Op.unary,Op.intArith,nl h1];simpa using nl h1
section
variable {t u:TypeId} {a b c:Int}
theorem cC (hx:ev e x=.int .i64 a) (hy:ev e y=.int .i64 b) (h:ad a b=some c):PV P ⟨d,.binOp .add t x y u,ty,pos,af,none⟩ e w (.int .i64 c):=fun w' _=>by
 obtain ⟨h1,rfl⟩:=Gm h
 unfold execOp;simp [hx,hy,eqGuard,binOp,Op.intArith,nl h1]
theorem bc (h:ad a b=some c) (hx:ev e x=.int .i64 a:=by exact rfl) (hy:ev e y=.int .i64 b:=by exact rfl):PV P ⟨d,.binOp .add t x y u,ty,pos,af,none⟩ e w (.int .i64 c):=cC hx hy h
theorem Mk (hx:ev e x=.int .i64 a) (hy:ev e y=.int .i64 b) (h:sb a b=some c):PV P ⟨d,.binOp .sub t x y u,ty,pos,af,none⟩ e w (.int .i64 c):=fun w' _=>by
 obtain ⟨h1,rfl⟩:=Gf h
 unfold execOp;simp [hx,hy,eqGuard,binOp,Op.intArith,nl h1]
theorem cY (h:sb a b=some c) (hx:ev e x=.int .i64 a:=by exact rfl) (hy:ev e y=.int .i64 b:=by exact rfl):PV P ⟨d,.binOp .sub t x y u,ty,pos,af,none⟩ e w (.int .i64 c):=Mk hx hy h
theorem Ma (hx:ev e x=.int .i64 a) (hy:ev e y=.int .i64 b) (h:ml a b=some c):PV P ⟨d,.binOp .mul t x y u,ty,pos,af,none⟩ e w (.int .i64 c):=fun w' _=>by
 obtain ⟨h1,rfl⟩:=Ld h
 unfold execOp;simp [hx,hy,eqGuard,binOp,Op.intArith,nl h1]
theorem fM (h:ml a b=some c) (hx:ev e x=.int .i64 a:=by exact rfl) (hy:ev e y=.int .i64 b:=by exact rfl):PV P ⟨d,.binOp .mul t x y u,ty,pos,af,none⟩ e w (.int .i64 c):=Ma hx hy h
theorem jJ (hx:ev e x=.int .i64 a) (hy:ev e y=.int .i64 b) (h:qt a b=some c):PV P ⟨d,.binOp .quo t x y u,ty,pos,af,none⟩ e w (.int .i64 c):=fun w' _=>by
 unfold qt at h;split at h
 ·rename_i h1
  obtain rfl:=bL h
  unfold execOp;simp [hx,hy,eqGuard,binOp,Op.intDiv,h1.1,nl h1.2]
 ·cases h
theorem pB (hx:ev e x=.int .i64 a) (hy:ev e y=.int .i64 b) (h:rm a b=some c):PV P ⟨d,.binOp .rem t x y u,ty,pos,af,none⟩ e w (.int .i64 c):=fun w' _=>by
 unfold rm at h;split at h
 ·rename_i h1
  obtain rfl:=bL h
  unfold execOp;simp [hx,hy,eqGuard,binOp,Op.intDiv,h1]
 ·cases h
theorem BP {k:IntKind} (hx:ev e x=.int k a) (hy:ev e y=.int k b):PV P ⟨d,.binOp .add t x y u,ty,pos,af,none⟩ e w (.int k (k.wrap (a+b))):=fun w' _=>by
 unfold execOp;simp [hx,hy,eqGuard,binOp,Op.intArith]
theorem Ks {k:IntKind} (hx:ev e x=.int k a) (hy:ev e y=.int k b):PV P ⟨d,.binOp .mul t x y u,ty,pos,af,none⟩ e w (.int k (k.wrap (a*b))):=fun w' _=>by
 unfold execOp;simp [hx,hy,eqGuard,binOp,Op.intArith]
theorem Nc {k:IntKind} (hx:ev e x=.int k a) (hy:ev e y=.int k b):PV P ⟨d,.binOp .eql t x y u,ty,pos,af,none⟩ e w (.bool (a == b)):=fun w' _=>by
 unfold execOp;simp [hx,hy,eqGuard,binOp,Op.intCmp]
theorem bM {k:IntKind} (hx:ev e x=.int k a:=by exact rfl) (hy:ev e y=.int k b:=by exact rfl):PV P ⟨d,.binOp .eql t x y u,ty,pos,af,none⟩ e w (.bool (a == b)):=Nc hx hy
theorem Nw {k:IntKind} (hx:ev e x=.int k a) (hy:ev e y=.int k b):PV P ⟨d,.binOp .neq t x y u,ty,pos,af,none⟩ e w (.bool (a != b)):=fun w' _=>by
 unfold execOp;simp [hx,hy,eqGuard,binOp,Op.intCmp]
theorem ci {k:IntKind} (hx:ev e x=.int k a:=by exact rfl) (hy:ev e y=.int k b:=by exact rfl):PV P ⟨d,.binOp .neq t x y u,ty,pos,af,none⟩ e w (.bool (a != b)):=Nw hx hy
theorem dc {k:IntKind} (hx:ev e x=.int k a) (hy:ev e y=.int k b):PV P ⟨d,.binOp .lss t x y u,ty,pos,af,none⟩ e w (.bool (decide (a<b))):=fun w' _=>by
 unfold execOp;simp [hx,hy,eqGuard,binOp,Op.intCmp]
theorem bf {k:IntKind} (hx:ev e x=.int k a:=by exact rfl) (hy:ev e y=.int k b:=by exact rfl):PV P ⟨d,.binOp .lss t x y u,ty,pos,af,none⟩ e w (.bool (decide (a<b))):=dc hx hy
theorem lx {k:IntKind} (hx:ev e x=.int k a) (hy:ev e y=.int k b):PV P ⟨d,.binOp .leq t x y u,ty,pos,af,none⟩ e w (.bool (decide (a<=b))):=fun w' _=>by
 unfold execOp;simp [hx,hy,eqGuard,binOp,Op.intCmp]
theorem NJ {k:IntKind} (hx:ev e x=.int k a) (hy:ev e y=.int k b):PV P ⟨d,.binOp .gtr t x y u,ty,pos,af,none⟩ e w (.bool (decide (b<a))):=fun w' _=>by
 unfold execOp;simp [hx,hy,eqGuard,binOp,Op.intCmp]
theorem bv {k:IntKind} (hx:ev e x=.int k a:=by exact rfl) (hy:ev e y=.int k b:=by exact rfl):PV P ⟨d,.binOp .gtr t x y u,ty,pos,af,none⟩ e w (.bool (decide (b<a))):=NJ hx hy
theorem jH {k:IntKind} (hx:ev e x=.int k a) (hy:ev e y=.int k b):PV P ⟨d,.binOp .geq t x y u,ty,pos,af,none⟩ e w (.bool (decide (b<=a))):=fun w' _=>by
 unfold execOp;simp [hx,hy,eqGuard,binOp,Op.intCmp]
end
def eqS (s r:ByteArray):Bool:=s.toList == r.toList
def ltS (s r:ByteArray):Bool:=Op.bytesLess s.toList r.toList
section
variable {t u:TypeId} {s r:ByteArray}
theorem sS (hx:ev e x=.string s) (hy:ev e y=.string r):PV P ⟨d,.binOp .eql t x y u,ty,pos,af,none⟩ e w (.bool (eqS s r)):=fun w' _=>by
 unfold execOp eqS;simp [hx,hy,eqGuard,binOp,Op.stringOp]
theorem KD (hx:ev e x=.string s) (hy:ev e y=.string r):PV P ⟨d,.binOp .neq t x y u,ty,pos,af,none⟩ e w (.bool (!(eqS s r))):=fun w' _=>by
 unfold execOp eqS;simp [hx,hy,eqGuard,binOp,Op.stringOp]
theorem Fi (hx:ev e x=.string s) (hy:ev e y=.string r):PV P ⟨d,.binOp .geq t x y u,ty,pos,af,none⟩ e w (.bool (!(ltS s r))):=fun w' _=>by
 unfold execOp ltS;simp [hx,hy,eqGuard,binOp,Op.stringOp]
end
theorem He {k:Nat} {vs:Array Value} {v:Value} (hx:ev e x=.tuple vs) (h:vs[k]? = some v):PV P ⟨d,.extract x k,ty,pos,af,none⟩ e w v:=fun w' _=>by
 unfold execOp;simp [hx,Instr.extract,h]
theorem au {k:Nat} {vs:Array Value} {v:Value} (hx:ev e x=.tuple vs:=by exact rfl) (h:vs[k]? = some v:=by exact rfl):PV P ⟨d,.extract x k,ty,pos,af,none⟩ e w v:=He hx h
theorem Dy {s t:TypeId} {k k2:IntKind} {a:Int} {u:TypeDesc} (hs:P.underlying s=some u) (ht:P.underlying t=some (.int k2)) (hx:ev e x=.int k a):PV P ⟨d,.convert s t x,ty,pos,af,none⟩ e w (.int k2 (k2.wrap a)):=fun w' _=>by
 unfold execOp;simp [hx,convert,fY ht,fY hs,Conv.intToInt]
theorem pQ {t:TypeId} {s:ByteArray} (ht:P.underlying t=some .string) (hx:ev e x=.string s):PV P ⟨d,.call ⟨.builtin .len,#[x],#[t]⟩,ty,pos,af,none⟩ e w (.int .i64 s.size):=fun w' _=>by
 unfold execOp;simp [resolve,invoke,builtin,hx,Builtin.len_,fY ht,goInt]
def imx (a b:Int):Int:=if a<b then b else a
theorem ji {p:Addr} (hx:ev e x=.pointer (some p)):PV P ⟨d,.nilCheck x,ty,pos,af,none⟩ e w (.pointer (some p)):=fun w' _=>by
 unfold execOp;simp [hx]
theorem Ex {t t2:TypeId} {a b:Int} (hx:ev e x=.int .i64 a) (hy:ev e y=.int .i64 b):PV P ⟨d,.call ⟨.builtin .max,#[x,y],#[t,t2]⟩,ty,pos,af,none⟩ e w (.int .i64 (imx a b)):=fun w' _=>by
 unfold execOp imx;simp [resolve,invoke,builtin,hx,hy,Builtin.max_,Builtin.max2]
theorem AA {t:TypeId} {s:ByteArray} {i:Int} {k:IntKind} {b:Int} (ht:P.underlying t=some .string) (hx:ev e x=.string s) (hy:ev e y=.int k i) (h:bx s i=some b):PV P ⟨d,.index t x y,ty,pos,af,none⟩ e w (.int .u8 b):=fun w' _=>by
 unfold bx at h
 split at h
 ·rename_i h0
  cases hb:s[i.toNat]? with
  | none=>simp [hb] at h
  | some c =>
   simp [hb] at h;subst h
   unfold execOp;simp [hx,hy,Instr.index,asIntOf,fY ht,h0,hb]
 ·cases h
class FldT (P:Program) (t:TypeId) (k:Nat) (off:outParam Nat):Prop where
 h:∃ fs f,P.underlying t=some (.struct fs)/\fs[k]? = some f/\f.offset=off/\((P.info? f.type).map fun i=>Nat.beq i.size 0)=some false
theorem ax {t:TypeId} {k off b o:Nat} [ht:FldT P t k off] (hx:ev e x=.pointer (some ⟨b,o,none⟩)):PV P ⟨d,.fieldAddr t x k,ty,pos,af,none⟩ e w (.pointer (some ⟨b,o+off,none⟩)):=fun w' _=>by
 obtain ⟨fs,f,h1,h2,h3,h4⟩:=ht.h
 cases hi:P.info? f.type with
 | none=>simp [hi] at h4
 | some i =>
  have h5:¬ i.size=0:=by
   intro e0
   simp [hi,e0] at h4
  unfold execOp
  simp [hx,Instr.fieldAt,fY h1,h2,Instr.sureAddr,fieldPlace,sizeOf,typeInfo,hi,h5,h3,jK]
theorem ah {t:TypeId} {k off b o:Nat} [ht:FldT P t k off] (hx:ev e x=.pointer (some ⟨b,o,none⟩):=by exact rfl):PV P ⟨d,.fieldAddr t x k,ty,pos,af,none⟩ e w (.pointer (some ⟨b,o+off,none⟩)):=ax hx
theorem D6 {w w':World} {p:Addr} {c:Value} (hE:Ext w w') (h:w.cell? p=some c):w'.cell? p=some c:=by rw [hE.cell (block_lt_of_cell h)];exact h
theorem av {w w':World} {b off:Nat} {ec:List Value} (hE:Ext w w') (h:∀ j c,ec[j]? = some c->w.cell? ⟨b,off+j,none⟩=some c):∀ j c,ec[j]? = some c->w'.cell? ⟨b,off+j,none⟩=some c :=
 fun j c hj=>D6 hE (h j c hj)
theorem kN {t:TypeId} [PlainT P t] {p:Addr} {c:Value} (hx:ev e x=.pointer (some p)) (hc:w.cell? p=some c):PV P ⟨d,.load t x,ty,pos,af,none⟩ e w c:=fun w' hw'=>by
 unfold execOp
 simp only [hx,Instr.loadAt,Instr.sureAddr,dQ,fJ,eI,yu (D6 hw' hc)]
theorem ac {t:TypeId} [PlainT P t] {p:Addr} {c:Value} (hc:w.cell? p=some c) (hx:ev e x=.pointer (some p):=by exact rfl):PV P ⟨d,.load t x,ty,pos,af,none⟩ e w c:=kN hx hc
theorem bJ {t:TypeId} {n b off:Nat} [AggT P t n] {cs:List Value} (hx:ev e x=.pointer (some ⟨b,off,none⟩)) (hn:cs.length=n) (hc:∀ j c,cs[j]? = some c->w.cell? ⟨b,off+j,none⟩=some c) :
  PV P ⟨d,.load t x,ty,pos,af,none⟩ e w (.agg cs.toArray):=fun w' hw'=>by
 unfold execOp
 simp only [hx,Instr.loadAt,Instr.sureAddr,dQ,fJ,eI,kD hn (av hw' hc)]
theorem aA {t:TypeId} {n b off:Nat} [AggT P t n] {cs:List Value} (hc:∀ j c,cs[j]? = some c->w.cell? ⟨b,off+j,none⟩=some c) (hx:ev e x=.pointer (some ⟨b,off,none⟩):=by exact rfl) (hn:cs.length=n:=by exact rfl):PV P ⟨d,.load t x,ty,pos,af,none⟩ e w (.agg cs.toArray):=bJ hx hn hc
theorem Ng {α:Type} {R:Rep α} {E E':TypeId} {t:TypeId} [ht:SliceT P t E'] {wA:World} {v:Value} {xs:List α} (hx:ev e x=v) (hr:(aG R E).rd wA [v] xs) :
  PV P ⟨d,.call ⟨.builtin .len,#[x],#[t]⟩,ty,pos,af,none⟩ e w (.int .i64 xs.length):=fun w' _=>by
 obtain ⟨ao,cap,rfl⟩:=EN hr
 unfold execOp;simp [resolve,invoke,builtin,hx,Builtin.len_,fY ht.h,goInt]
theorem ar {α:Type} {R:Rep α} {E E':TypeId} {t:TypeId} [ht:SliceT P t E'] {wA:World} {v:Value} {xs:List α} (hr:(aG R E).rd wA [v] xs) (hx:ev e x=v:=by exact rfl):PV P ⟨d,.call ⟨.builtin .len,#[x],#[t]⟩,ty,pos,af,none⟩ e w (.int .i64 xs.length):=Ng hx hr
theorem wh {α:Type} {R:Rep α} {E E':TypeId} {t:TypeId} [ht:SliceT P t E'] {zz:List Value} {n yO:Nat} [hz:ElemT P E' zz n yO] {wA:World} {v:Value} {xs:List α} (hs:ev e x=v) (hr:(aG R E).rd wA [v] xs)
  (hn:R.sz=n) (hpos:0<n) {k:IntKind} {i:Int} (hi:ev e y=.int k i) {u:α} (h:ix xs i=some u) :
  ∃ b off ec,R.rd wA ec u/\(∀ j c,ec[j]? = some c->wA.cell? ⟨b,off+j,none⟩=some c)/\∀ w,PV P ⟨d,.indexAddr t x y,ty,pos,af,none⟩ e w (.pointer (some ⟨b,off,none⟩)):=by
 obtain ⟨k',rfl,hk,rfl⟩:=gq h
 obtain ⟨ao,cap,ccs,hv,h1,h2,h3,h4,h5⟩:=hr
 obtain rfl:v=.slice ao xs.length cap:=by simpa using hv
 obtain ⟨ec,hec,hcc⟩:=sc h4 k' hk
 have hz:=hz.h
 have hlen:=kw h4
 cases hq:P.info? E' with
 | none=>simp [hq] at hz
 | some inf =>
  simp [hq] at hz
  obtain ⟨b,off,rfl,hc⟩:∃ b off,ao=some ⟨b,off,none⟩/\∀ j c,ccs[j]? = some c->wA.cell? ⟨b,off+j,none⟩=some c:=by
   rcases h5 with rfl | ⟨b,off,rfl,hc⟩
   ·have:0<xs.length*R.sz:=Nat.mul_pos oa oa
    simp at hlen
    omega
   ·exact ⟨b,off,rfl,hc⟩
  have hsz:inf.size=R.sz:=by rw [hn];exact hz.2.1
  refine ⟨b,off+k'*R.sz,ec,hec,fun j c hj=>by rw [tm];exact hc _ _ (hcc j c hj),fun w w' _=>?_⟩
  unfold execOp
  simp [hs,hi,Instr.indexAt,asIntOf,fY ht.h,sizeOf,typeInfo,hq,hk,jK,hsz]
end

section
variable {P:Program} {n:Nat} {ops:Array Oper} {K:Env->World->Prop} {KQ:Env->Prop} {rest:List Oper} {e:Env} {w w0 wA:World} {v:Value} {d:Nat} {ty:TypeId} {pos:String} {af:Array Edge} {Γ rΓ:List Asn} {x y:Operand} {α:Type} {R:Rep α} {E E':TypeId}
theorem cW {t:TypeId} [SliceT P t E'] {zz:List Value} {m yO:Nat} [ElemT P E' zz m yO] {xs:List α} (hs:ev e x=v) (hr:(aG R E).rd wA [v] xs)
  (hn:R.sz=m) (hpos:0<m) {k:IntKind} {i:Int} (hi:ev e y=.int k i) {u:α} (h:ix xs i=some u) (hd:d<n)
  (hK:∀ b off ec,R.rd wA ec u->(∀ j c,ec[j]? = some c->wA.cell? ⟨b,off+j,none⟩=some c)->EL P n ops K rest (upd e d (.pointer (some ⟨b,off,none⟩))) w):EL P n ops K (⟨some d,.indexAddr t x y,ty,pos,af,none⟩ :: rest) e w:=by
 obtain ⟨b,off,ec,h1,h2,h3⟩:=wh (P:=P) (d:=some d) (ty:=ty) (pos:=pos) (af:=af) (t:=t) hs hr hn hpos hi h
 exact qn (h3 _) hd (hK b off ec h1 h2)
theorem bm {t:TypeId} [SliceT P t E'] {zz:List Value} {m yO:Nat} [ElemT P E' zz m yO] {xs:List α} (hr:(aG R E).rd wA [v] xs) {k:IntKind} {i:Int} {u:α} (h:ix xs i=some u) (hK:∀ b off ec,R.rd wA ec u->(∀ j c,ec[j]? = some c->wA.cell? ⟨b,off+j,none⟩=some c)->EL P n ops K rest (upd e d (.pointer (some ⟨b,off,none⟩))) w) (hs:ev e x=v:=by exact rfl) (hn:R.sz=m:=by exact rfl) (hpos:0<m:=by exact dt) (hi:ev e y=.int k i:=by exact rfl) (hd:d<n:=by exact dt):EL P n ops K (⟨some d,.indexAddr t x y,ty,pos,af,none⟩ :: rest) e w:=cW hs hr hn hpos hi h hd hK
theorem JQ {t:TypeId} [SliceT P t E'] {zz:List Value} {m yO:Nat} [ElemT P E' zz m yO] {xs:List α} (hs:ev e x=v) (hr:(aG R E).rd wA [v] xs)
  (hn:R.sz=m) (hpos:0<m) {k:IntKind} {i:Int} (hi:ev e y=.int k i) {u:α} (h:ix xs i=some u) (hd:d<n)
  (hK:∀ b off ec,R.rd wA ec u->(∀ j c,ec[j]? = some c->wA.cell? ⟨b,off+j,none⟩=some c)->QL P n ops w KQ rest (upd e d (.pointer (some ⟨b,off,none⟩)))):QL P n ops w KQ (⟨some d,.indexAddr t x y,ty,pos,af,none⟩ :: rest) e:=by
 obtain ⟨b,off,ec,h1,h2,h3⟩:=wh (P:=P) (d:=some d) (ty:=ty) (pos:=pos) (af:=af) (t:=t) hs hr hn hpos hi h
 exact yc (h3 _) hd (hK b off ec h1 h2)
theorem bK {t:TypeId} [SliceT P t E'] {zz:List Value} {m yO:Nat} [ElemT P E' zz m yO] {xs:List α} (hr:(aG R E).rd wA [v] xs) {k:IntKind} {i:Int} {u:α} (h:ix xs i=some u) (hK:∀ b off ec,R.rd wA ec u->(∀ j c,ec[j]? = some c->wA.cell? ⟨b,off+j,none⟩=some c)->QL P n ops w KQ rest (upd e d (.pointer (some ⟨b,off,none⟩)))) (hs:ev e x=v:=by exact rfl) (hn:R.sz=m:=by exact rfl) (hpos:0<m:=by exact dt) (hi:ev e y=.int k i:=by exact rfl) (hd:d<n:=by exact dt):QL P n ops w KQ (⟨some d,.indexAddr t x y,ty,pos,af,none⟩ :: rest) e:=JQ hs hr hn hpos hi h hd hK
theorem L8 {t:TypeId} (cs:List Value) (hx:(ev e x).cells=cs.toArray) (hS:Sat w0 w Γ) (hd:d<n)
  (hK:∀ w' b,Sat w0 w' (Box b t cs :: Γ)->Ext w w'->EL P n ops K rest (upd e d (.pointer (some ⟨b,0,none⟩))) w'):EL P n ops K (⟨some d,.box t x,ty,pos,af,none⟩ :: rest) e w :=
 fun a ha=>Ln rfl rfl cs (by rw [ha.eval];exact hx) hS fun w' b h1 h2=>hK w' b h1 h2 _ (ha.put hd _)
theorem bz {t:TypeId} (cs:List Value) (hS:Sat w0 w Γ) (hK:∀ w' b,Sat w0 w' (Box b t cs :: Γ)->Ext w w'->EL P n ops K rest (upd e d (.pointer (some ⟨b,0,none⟩))) w') (hx:(ev e x).cells=cs.toArray:=by exact rfl) (hd:d<n:=by exact dt):EL P n ops K (⟨some d,.box t x,ty,pos,af,none⟩ :: rest) e w:=L8 cs hx hS hd hK
theorem JJ {t:TypeId} {cs:List Value} {m yO:Nat} [ElemT P t cs m yO] (hS:Sat w0 w Γ) (hd:d<n)
  (hK:∀ w' b,Sat w0 w' (Box b t cs :: Γ)->Ext w w'->EL P n ops K rest (upd e d (.pointer (some ⟨b,0,none⟩))) w'):EL P n ops K (⟨some d,.alloc t,ty,pos,af,none⟩ :: rest) e w :=
 fun _ ha=>Hx rfl rfl hS fun w' b h1 h2=>hK w' b h1 h2 _ (ha.put hd _)
theorem aD {t:TypeId} {cs:List Value} {m yO:Nat} [ElemT P t cs m yO] (hS:Sat w0 w Γ) (hK:∀ w' b,Sat w0 w' (Box b t cs :: Γ)->Ext w w'->EL P n ops K rest (upd e d (.pointer (some ⟨b,0,none⟩))) w') (hd:d<n:=by exact dt):EL P n ops K (⟨some d,.alloc t,ty,pos,af,none⟩ :: rest) e w:=JJ hS hd hK
theorem cZ {t:TypeId} {z:List Value} {m yO:Nat} [ElemT P t z m yO] (hS:Sat w0 w Γ) {b j:Nat} (hx:ev e x=.pointer (some ⟨b,j,none⟩))
  {E:TypeId} {cs:List Value} [AtBox Γ b E cs rΓ] (vs:List Value) (hy:(ev e y).cells=vs.toArray) (hn:vs.length=m) (hl:j+m<=cs.length) (h1:vs.all (·.oneCell')=true)
  (hK:∀ w',Sat w0 w' (Box b E (cs.take j++vs++cs.drop (j+m)) :: rΓ)->EL P n ops K rest e w'):EL P n ops K (⟨none,.store t x y,ty,pos,af,none⟩ :: rest) e w :=
 fun _ ha=>GJ rfl rfl hS (by rw [ha.eval];exact hx) vs (by rw [ha.eval];exact hy) hn hl h1 fun w' h1=>hK w' h1 _ ha
theorem aj {t:TypeId} {z:List Value} {m yO:Nat} [ElemT P t z m yO] (hS:Sat w0 w Γ) {b j:Nat} (hx:ev e x=.pointer (some ⟨b,j,none⟩)) {E:TypeId} {cs:List Value} [AtBox Γ b E cs rΓ] (vs:List Value) (h1:vs.all (·.oneCell')=true) (hK:∀ w',Sat w0 w' (Box b E (cs.take j++vs++cs.drop (j+m)) :: rΓ)->EL P n ops K rest e w') (hy:(ev e y).cells=vs.toArray:=by exact rfl) (hn:vs.length=m:=by exact rfl) (hl:j+m<=cs.length:=by exact dt):EL P n ops K (⟨none,.store t x y,ty,pos,af,none⟩ :: rest) e w:=cZ hS hx vs hy hn hl h1 hK
theorem Is {t:TypeId} {z:List Value} {m yO:Nat} [ElemT P t z m yO] (hn:R.sz=m) {ec:List Value} {yv:α} {xs ys:List α} {g ln cap:Nat}
  (hS:Sat w0 w (Own R ec yv :: Own (aG R E) [.slice (some ⟨g,0,none⟩) ln cap] xs :: Γ)) (k off:Nat) {i:Int} (hi:i=(k:Int)) (h:sto xs i yv=some ys) (hoff:off=k*m) (hx:ev e x=.pointer (some ⟨g,off,none⟩)) (hy:(ev e y).cells=ec.toArray)
  (hK:∀ w',Sat w0 w' (Own (aG R E) [.slice (some ⟨g,0,none⟩) ln cap] ys :: Γ)->EL P n ops K rest e w'):EL P n ops K (⟨none,.store t x y,ty,pos,af,none⟩ :: rest) e w:=by
 intro a ha
 subst hi
 unfold sto at h
 split at h
 ·rename_i h0
  obtain rfl:=bL h
  simp only [eJ] at h0 hK
  exact Hi rfl rfl hn hS k off h0.2 hoff (by rw [ha.eval];exact hx) (by rw [ha.eval];exact hy) fun w' h1=>hK w' h1 _ ha
 ·cases h
theorem lh {t:TypeId} [SliceT P t E] {z:List Value} {m yO:Nat} [ElemT P E z m yO] (hn:R.sz=m) (hpos:0<m) (hzl:z.length=m) (hb0:0<yO)
  {xs:List α} {ccs:List Value} {ys zs:List α} (hS:Sat w0 w (tp R ccs ys :: Own (aG R E) [v] xs :: Γ)) (hs:ev e x=v)
  {ao:Option Addr} {ln c:Nat} (hx:ev e y=.slice ao ln c) (hm:ln=ys.length) (hnone:ao=none->c=0) (hrow:ry w ao ccs) (h:apd yO xs ys=some zs) (hd:d<n)
  (hK:∀ w' v',Sat w0 w' (Own (aG R E) [v'] zs :: Γ)->EL P n ops K rest (upd e d v') w'):EL P n ops K (⟨some d,.call ⟨.builtin .append,#[x,y],#[t,t]⟩,ty,pos,af,none⟩ :: rest) e w:=by
 intro a ha
 unfold apd at h
 split at h
 ·rename_i hby
  obtain rfl:=bL h
  exact G4 rfl rfl hn hpos hzl hb0 hS (by rw [ha.eval];exact hs) (by rw [ha.eval];exact hx) hm hnone hrow hby fun v' w' h1=>hK w' v' h1 _ (ha.put hd _)
 ·cases h
theorem aU {t:TypeId} [SliceT P t E] {z:List Value} {m yO:Nat} [ElemT P E z m yO] {xs:List α} {ccs:List Value} {ys zs:List α} (hS:Sat w0 w (tp R ccs ys :: Own (aG R E) [v] xs :: Γ)) {ao:Option Addr} {ln c:Nat} (hrow:ry w ao ccs) (h:apd yO xs ys=some zs) (hK:∀ w' v',Sat w0 w' (Own (aG R E) [v'] zs :: Γ)->EL P n ops K rest (upd e d v') w') (hn:R.sz=m:=by exact rfl) (hpos:0<m:=by exact dt) (hzl:z.length=m:=by exact rfl) (hb0:0<yO:=by exact dt) (hs:ev e x=v:=by exact rfl) (hx:ev e y=.slice ao ln c:=by exact rfl) (hm:ln=ys.length:=by exact rfl) (hnone:ao=none->c=0:=by simp) (hd:d<n:=by exact dt):EL P n ops K (⟨some d,.call ⟨.builtin .append,#[x,y],#[t,t]⟩,ty,pos,af,none⟩ :: rest) e w:=lh hn hpos hzl hb0 hS hs hx hm hnone hrow h hd hK
theorem yh {t:TypeId} [SliceT P t E] {z:List Value} {m yO:Nat} [ElemT P E z m yO] (hn:R.sz=m) (hpos:0<m) (hzl:z.length=m) {x0:α} (hx0:∀ w,R.own w z x0 []) {i:Int} {xs:List α}
  (hl:ev e x=.int .i64 i) (hc:ev e y=.int .i64 i) (h:mk yO x0 i=some xs) (hS:Sat w0 w Γ) (hd:d<n)
  (hK:∀ w' g k,Sat w0 w' (Own (aG R E) [.slice (some ⟨g,0,none⟩) k k] xs :: Γ)->Ext w w'->xs.length=k->EL P n ops K rest (upd e d (.slice (some ⟨g,0,none⟩) k k)) w'):EL P n ops K (⟨some d,.makeSlice t x y,ty,pos,af,none⟩ :: rest) e w:=by
 intro a ha
 unfold mk at h
 split at h
 ·rename_i h0
  obtain rfl:=bL h
  exact Jr rfl rfl hn hpos hzl hx0 (by rw [ha.eval];exact hl) (by rw [ha.eval];exact hc) i.toNat oa oa h0.2.1 h0.2.2 hS fun w' g h1 h2=>hK w' g _ h1 h2 (by simp) _ (ha.put hd _)
 ·cases h
theorem uQ {t u:TypeId} [SliceT P t u] {z:List Value} {m yO:Nat} [ElemT P u z m yO] (cs:List Value) (hcs:(ev e x).cells=cs.toArray) (hl:cs.length=m) (hpos:0<m) (hzl:z.length=m) (hn:m<=16)
  (hS:Sat w0 w Γ) (hd:d<n) (hK:∀ w' b,Sat w0 w' (Box b u cs :: Γ)->Ext w w'->EL P n ops K rest (upd e d (.slice (some ⟨b,0,none⟩) 1 1)) w'):EL P n ops K (⟨some d,.buildSlice t 1 #[(0,x)],ty,pos,af,none⟩ :: rest) e w :=
 fun _ ha=>Bq rfl rfl (by rw [ha.eval];exact hcs) hl hpos hzl hn hS fun w' b h1 h2=>hK w' b h1 h2 _ (ha.put hd _)
theorem bi {t u:TypeId} [SliceT P t u] {z:List Value} {m yO:Nat} [ElemT P u z m yO] (cs:List Value) (hS:Sat w0 w Γ) (hK:∀ w' b,Sat w0 w' (Box b u cs :: Γ)->Ext w w'->EL P n ops K rest (upd e d (.slice (some ⟨b,0,none⟩) 1 1)) w') (hcs:(ev e x).cells=cs.toArray:=by exact rfl) (hl:cs.length=m:=by rfl) (hpos:0<m:=by exact dt) (hzl:z.length=m:=by exact rfl) (hn:m<=16:=by exact dt) (hd:d<n:=by exact dt):EL P n ops K (⟨some d,.buildSlice t 1 #[(0,x)],ty,pos,af,none⟩ :: rest) e w:=uQ cs hcs hl hpos hzl hn hS hd hK
theorem be {t u:TypeId} [SliceT P t u] {z:List Value} {m yO:Nat} [ElemT P u z m yO] (cs:List Value) (hcs:(ev e x).cells=cs.toArray) (hS:Sat w0 w Γ) (hK:∀ w' b,Sat w0 w' (Box b u cs :: Γ)->Ext w w'->EL P n ops K rest (upd e d (.slice (some ⟨b,0,none⟩) 1 1)) w') (hl:cs.length=m:=by rfl) (hpos:0<m:=by exact dt) (hzl:z.length=m:=by exact rfl) (hn:m<=16:=by exact dt) (hd:d<n:=by exact dt):EL P n ops K (⟨some d,.buildSlice t 1 #[(0,x)],ty,pos,af,none⟩ :: rest) e w:=uQ cs hcs hl hpos hzl hn hS hd hK
theorem cd (R:Rep α) {t:TypeId} [SliceT P t E] {z:List Value} {m yO:Nat} [ElemT P E z m yO] (hS:Sat w0 w Γ) (hd:d<n)
  (hK:∀ w' v,Sat w0 w' (Own (aG R E) [v] [] :: Γ)->Ext w w'->EL P n ops K rest (upd e d v) w'):EL P n ops K (⟨some d,.buildSlice t 0 #[],ty,pos,af,none⟩ :: rest) e w :=
 fun _ ha=>AN R rfl rfl hS fun w' b h1 h2=>hK w' _ h1 h2 _ (ha.put hd _)
theorem Aa {t:TypeId} {lo hi:Option Operand} [ht:SliceT P t E'] {z:List Value} {m yO:Nat} [hz:ElemT P E' z m yO] (hn:R.sz=m) {d:Option Nat}
    (hx:ev e x=v) {xs ys:List α} (hr:(aG R E).rd wA [v] xs) {l h:Int} (hlo:(lo.map (ev e)=some (.int .i64 l))\/(lo=none/\l=0)) (hhi:(hi.map (ev e)=some (.int .i64 h))\/(hi=none/\h=xs.length)) (hq:slc xs l h=some ys) :
    ∃ v',(aG R E).rd wA [v'] ys/\∀ w,PV P ⟨d,.slice t x lo hi none,ty,pos,af,none⟩ e w v':=by
  unfold slc at hq
  split at hq
  case isFalse=>cases hq
  rename_i h0
  obtain rfl:=bL hq
  obtain ⟨l',rfl⟩:=kf h0.1
  obtain ⟨h',rfl⟩:=kf (Int.le_trans h0.1 h0.2.1)
  obtain ⟨_,hlh,hh⟩:=h0
  replace hlh:l'<=h':=by omega
  replace hh:h'<=xs.length:=by omega
  simp only [eJ]
  obtain ⟨ao,cap,ccs,hv,h1,h2,h3,h4,h5⟩:=hr
  obtain rfl:v=.slice ao xs.length cap:=by simpa using hv
  have hz:=hz.h
  cases hq:P.info? E' with
  | none=>simp [hq] at hz
  | some inf =>
    simp [hq] at hz
    have hcap:h'<=cap:=by omega
    have hsz:inf.size=R.sz:=by rw [hn];exact hz.2.1
    have hlen:((xs.take h').drop l').length=h' - l':=by simp;omega
    have hccl:=kw h4
    have hrd:=(r8 l' (r8 h' h4).1).2
    refine ⟨.slice (if cap=l' then ao else ao.map (·.add (l'*inf.size))) (h' - l') (cap-l'),⟨_,cap-l',_,by rw [hlen],by rw [hlen];omega,oa,?_,hrd,?_⟩,fun w w' _=>?_⟩
    · intro e
      split at e
      · omega
      · cases ao with
        | none=>have:=h3 rfl;omega
        | some _=>simp at e
    · by_cases hcl:cap=l'
      · left
        have:h'=l':=by omega
        subst this
        apply Bx
        simp
      · rw [aS hcl]
        rcases h5 with rfl | ⟨b,off,rfl,h5⟩
        · left;simp
        · right
          refine ⟨b,off+l'*R.sz,by rw [hsz];simp [jK],fun j c hj=>?_⟩
          rw [Bb,jr] at hj
          split at hj
          · rw [tm];exact h5 _ c hj
          · cases hj
    · have hb:(Instr.sliceBounds true xs.length cap (lo.map (ev e)) (hi.map (ev e)) none).run P w'=.ok (l',h',cap) w':=by
        rcases hlo with e1 | ⟨e1,e1'⟩ <;> rcases hhi with e2 | ⟨e2,e2'⟩
        all_goals
          (try rw [e1]);(try rw [e2])
          first
            | (simp [Instr.sliceBounds,Instr.sliceBound,asIntOf,hcap,hlh];done)
            | (have:l'=0:=by omega
               subst this
               simp [Instr.sliceBounds,Instr.sliceBound,asIntOf,hcap,hlh];done)
            | (have:h'=xs.length:=by omega
               subst this
               simp [Instr.sliceBounds,Instr.sliceBound,asIntOf,hcap,hlh];done)
            | (have:l'=0:=by omega
               have:h'=xs.length:=by omega
               subst_vars
               simp [Instr.sliceBounds,Instr.sliceBound,asIntOf])
      unfold execOp
      simp only [hx,Instr.sliceAt,dQ,fY ht.h,eI,Instr.slice,hb,sizeOf,typeInfo,hq,mS,fJ,Option.map_none]
theorem jP {t:TypeId} {lo hi:Option Operand} [SliceT P t E'] {z:List Value} {m yO:Nat} [ElemT P E' z m yO] (hn:R.sz=m)
  (hx:ev e x=v) {xs ys:List α} (hr:(aG R E).rd wA [v] xs) {l h:Int} (hlo:(lo.map (ev e)=some (.int .i64 l))\/(lo=none/\l=0)) (hhi:(hi.map (ev e)=some (.int .i64 h))\/(hi=none/\h=xs.length)) (hq:slc xs l h=some ys) (hd:d<n)
  (hK:∀ v',(aG R E).rd wA [v'] ys->EL P n ops K rest (upd e d v') w):EL P n ops K (⟨some d,.slice t x lo hi none,ty,pos,af,none⟩ :: rest) e w:=by
 obtain ⟨v',h1,h2⟩:=Aa (P:=P) (d:=some d) (ty:=ty) (pos:=pos) (af:=af) (t:=t) hn hx hr hlo hhi hq
 exact qn (h2 _) hd (hK v' h1)
theorem IY {t:TypeId} {lo hi:Option Operand} [SliceT P t E'] {z:List Value} {m yO:Nat} [ElemT P E' z m yO] (hn:R.sz=m)
  (hx:ev e x=v) {xs ys:List α} (hr:(aG R E).rd wA [v] xs) {l h:Int} (hlo:(lo.map (ev e)=some (.int .i64 l))\/(lo=none/\l=0)) (hhi:(hi.map (ev e)=some (.int .i64 h))\/(hi=none/\h=xs.length)) (hq:slc xs l h=some ys) (hd:d<n)
  (hK:∀ v',(aG R E).rd wA [v'] ys->QL P n ops w KQ rest (upd e d v')):QL P n ops w KQ (⟨some d,.slice t x lo hi none,ty,pos,af,none⟩ :: rest) e:=by
 obtain ⟨v',h1,h2⟩:=Aa (P:=P) (d:=some d) (ty:=ty) (pos:=pos) (af:=af) (t:=t) hn hx hr hlo hhi hq
 exact yc (h2 _) hd (hK v' h1)
end
section
variable {P:Program} {fn:Func} {n:Nat} {e:Env} {w:World} {R:Ending->World->Prop}
theorem OA {t:Tmp} (h:fn.results=#[.tmp t]) {v:Value} (ht:e t=v) (hR:R (.returned v) w):Fin P fn n R .ret e w :=
 ⟨v,fun a ha=>by rw [results_tmp h,ha.get,ht],hR⟩
theorem aE {t:Tmp} {v:Value} (hR:R (.returned v) w) (h:fn.results=#[.tmp t]:=by exact rfl) (ht:e t=v:=by exact rfl):Fin P fn n R .ret e w:=OA h ht hR
theorem NX (h:Fin P fn n R .ret e w):Fin P fn n R .normal e w:=h
theorem Of {t u:Tmp} (h:fn.results=#[.tmp t,.tmp u]) {v v2:Value} (ht:e t=v) (hu:e u=v2) (hR:R (.returned (.tuple #[v,v2])) w):Fin P fn n R .ret e w :=
 ⟨_,fun a ha=>by rw [results_tmp2 h,ha.get,ha.get,ht,hu],hR⟩
theorem dR {t u:Tmp} {v v2:Value} (hR:R (.returned (.tuple #[v,v2])) w) (h:fn.results=#[.tmp t,.tmp u]:=by exact rfl) (ht:e t=v:=by exact rfl) (hu:e u=v2:=by exact rfl):Fin P fn n R .ret e w:=Of h ht hu hR
theorem io {p:Tmp} {ty:TypeId} {m:Nat} [AggT P ty m] (h:fn.results=#[.cell p ty]) {b off:Nat} {cs:List Value} (hp:e p=.pointer (some ⟨b,off,none⟩)) (hm:cs.length=m) (hc:∀ j c,cs[j]? = some c->w.cell? ⟨b,off+j,none⟩=some c) (hR:R (.returned (.agg cs.toArray)) w) :
  Fin P fn n R .ret e w:=by
 refine ⟨_,fun a ha=>?_,hR⟩
 have h1:a.tmps.getD p undef=.pointer (some ⟨b,off,none⟩):=by rw [ha.get,hp]
 have h1':a.tmps[p]?.getD undef=.pointer (some ⟨b,off,none⟩):=by simpa using h1
 simp [results,h,h1',asAddr,kD (P:=P) (t:=ty) hm hc]
theorem fK {p t:Tmp} {ty:TypeId} {m:Nat} [AggT P ty m] (h:fn.results=#[.cell p ty,.tmp t]) {b off:Nat} {cs:List Value} {v2:Value} (hp:e p=.pointer (some ⟨b,off,none⟩)) (hm:cs.length=m) (hc:∀ j c,cs[j]? = some c->w.cell? ⟨b,off+j,none⟩=some c) (ht:e t=v2) (hR:R (.returned (.tuple #[.agg cs.toArray,v2])) w) :
  Fin P fn n R .ret e w:=by
 refine ⟨_,fun a ha=>?_,hR⟩
 have h1:a.tmps.getD p undef=.pointer (some ⟨b,off,none⟩):=by rw [ha.get,hp]
 have h1':a.tmps[p]?.getD undef=.pointer (some ⟨b,off,none⟩):=by simpa using h1
 have h2:a.tmps.getD t undef=v2:=by rw [ha.get,ht]
 have h2':a.tmps[t]?.getD undef=v2:=by simpa using h2
 simp [results,h,h1',h2',asAddr,kD (P:=P) (t:=ty) hm hc]
theorem eF {p t:Tmp} {ty:TypeId} {m:Nat} [AggT P ty m] (h:fn.results=#[.cell p ty,.tmp t]) {b off:Nat} {cs:List Value} {v2:Value} (hc:∀ j c,cs[j]? = some c->w.cell? ⟨b,off+j,none⟩=some c) (hR:R (.returned (.tuple #[.agg cs.toArray,v2])) w) (hp:e p=.pointer (some ⟨b,off,none⟩):=by exact rfl) (hm:cs.length=m:=by exact rfl) (ht:e t=v2:=by exact rfl):Fin P fn n R .ret e w:=fK h hp hm hc ht hR
theorem Da {p0:Tmp} {ty0:TypeId} {m0:Nat} [AggT P ty0 m0] {b0 off0:Nat} {cs0:List Value} {p1:Tmp} {ty1:TypeId} {m1:Nat} [AggT P ty1 m1] {b1 off1:Nat} {cs1:List Value} (h:fn.results=#[.cell p0 ty0,.cell p1 ty1]) (hp0:e p0=.pointer (some ⟨b0,off0,none⟩)) (hm0:cs0.length=m0) (hc0:∀ j c,cs0[j]? = some c->w.cell? ⟨b0,off0+j,none⟩=some c) (hp1:e p1=.pointer (some ⟨b1,off1,none⟩)) (hm1:cs1.length=m1) (hc1:∀ j c,cs1[j]? = some c->w.cell? ⟨b1,off1+j,none⟩=some c) (hR:R (.returned (.tuple #[.agg cs0.toArray,.agg cs1.toArray])) w):Fin P fn n R .ret e w:=by
 refine ⟨_,fun a ha=>?_,hR⟩
 have k0:a.tmps[p0]?.getD undef=.pointer (some ⟨b0,off0,none⟩):=by simpa using (show a.tmps.getD p0 undef=.pointer (some ⟨b0,off0,none⟩) by rw [ha.get,hp0])
 have k1:a.tmps[p1]?.getD undef=.pointer (some ⟨b1,off1,none⟩):=by simpa using (show a.tmps.getD p1 undef=.pointer (some ⟨b1,off1,none⟩) by rw [ha.get,hp1])
 simp [results,h,k0,kD (P:=P) (t:=ty0) hm0 hc0,k1,kD (P:=P) (t:=ty1) hm1 hc1,asAddr]
theorem w6 {t0:Tmp} {v0:Value} {p1:Tmp} {ty1:TypeId} {m1:Nat} [AggT P ty1 m1] {b1 off1:Nat} {cs1:List Value} {t2:Tmp} {v2:Value} (h:fn.results=#[.tmp t0,.cell p1 ty1,.tmp t2]) (ht0:e t0=v0) (hp1:e p1=.pointer (some ⟨b1,off1,none⟩)) (hm1:cs1.length=m1) (hc1:∀ j c,cs1[j]? = some c->w.cell? ⟨b1,off1+j,none⟩=some c) (ht2:e t2=v2) (hR:R (.returned (.tuple #[v0,.agg cs1.toArray,v2])) w):Fin P fn n R .ret e w:=by
 refine ⟨_,fun a ha=>?_,hR⟩
 have k0:a.tmps[t0]?.getD undef=v0:=by simpa using (show a.tmps.getD t0 undef=v0 by rw [ha.get,ht0])
 have k1:a.tmps[p1]?.getD undef=.pointer (some ⟨b1,off1,none⟩):=by simpa using (show a.tmps.getD p1 undef=.pointer (some ⟨b1,off1,none⟩) by rw [ha.get,hp1])
 have k2:a.tmps[t2]?.getD undef=v2:=by simpa using (show a.tmps.getD t2 undef=v2 by rw [ha.get,ht2])
 simp [results,h,k0,k1,kD (P:=P) (t:=ty1) hm1 hc1,k2,asAddr]
end
def tY:Rep Bool where
 sz:=1
 rd _ cs b:=cs=[.bool b]
 own _ cs b fp:=cs=[.bool b]/\fp=[]
 rd_len h:=by subst h;rfl
 rd_one h:=by subst h;simp [Value.oneCell']
 rd_ext h _:=h
 own_rd h:=h.1
 own_ext h _:=h
 own_lt h:=by rw [h.2];simp
def u8R:Rep Int where
 sz:=1
 rd _ cs n:=cs=[.int .u8 n]
 own _ cs n fp:=cs=[.int .u8 n]/\fp=[]
 rd_len h:=by subst h;rfl
 rd_one h:=by subst h;simp [Value.oneCell']
 rd_ext h _:=h
 own_rd h:=h.1
 own_ext h _:=h
 own_lt h:=by rw [h.2];simp

def lpS {R V S:Type} (s:Sum R V) (f:R->Option S) (g:V->Option S):Option S:=match s with | .inl r=>f r | .inr v=>g v
def lpB {V S:Type} (s:V) (g:V->Option S):Option S:=g s
theorem exA {R V S:Type} {s:Sum R V} {v:V} {f:R->Option S} {g:V->Option S} {r:S} (h:some (Sum.inr v)=some s) (hK:lpS s f g=some r):g v=some r:=by cases h;exact hK
theorem exL {R V S:Type} {s:Sum R V} {q:R} {f:R->Option S} {g:V->Option S} {r:S} (h:some (Sum.inl q)=some s) (hK:lpS s f g=some r):f q=some r:=by cases h;exact hK
theorem exB {V S:Type} {s v:V} {g:V->Option S} {r:S} (h:some v=some s) (hK:lpB s g=some r):g v=some r:=by cases h;exact hK
theorem Af {α β:Type} {f:α->β} {a:α} {b:β} {l:List α} {m:List β} (h:f a=b) (t:l.map f=m):(a :: l).map f=b :: m:=by rw [gH,h,t]
theorem ap {α β:Type} {f:α->β} {a:α} {b:β} {l:List α} {m:List β} (h:f a=b:=by exact rfl) (t:l.map f=m:=by exact rfl):(a :: l).map f=b :: m:=Af h t
theorem aw {α β:Type} {f:α->β} {a:α} {b:β} {l:List α} {m:List β} (t:l.map f=m) (h:f a=b:=by exact rfl):(a :: l).map f=b :: m:=Af h t
theorem an {x:Bool} (h:x=true):(!x)=false:=by rw [h];rfl
theorem aq {x:Bool} (h:x=false):(!x)=true:=by rw [h];rfl

theorem c7 {P:Program} {n:Nat} {ops:Array Oper} {K:Env->World->Prop} {rest:List Oper} {e:Env} {w:World} {op:Op} {ty:TypeId} {pos:String} {af:Array Edge} {j:Nat} {b':Bool} {d:Nat} (h:(match (ops[j]?).bind (·.dst) with | some t=>e t | none=>undef)=undef) (hd:d<n) (hK:EL P n ops K rest (upd e d undef) w):EL P n ops K (⟨some d,op,ty,pos,af,some (j,b')⟩ :: rest) e w:=by
 intro a ha
 have hy:yielded ops a.tmps j=none:=xt ha h
 unfold wpList
 rw [aS (by simp [Region.wanted,hy])]
 exact hK _ (ha.put hd _)
theorem cl {P:Program} {n:Nat} {ops:Array Oper} {KQ:Env->Prop} {rest:List Oper} {e:Env} {w:World} {op:Op} {ty:TypeId} {pos:String} {af:Array Edge} {j:Nat} {b':Bool} {d:Nat} (h:(match (ops[j]?).bind (·.dst) with | some t=>e t | none=>undef)=undef) (hd:d<n) (hK:QL P n ops w KQ rest (upd e d undef)):QL P n ops w KQ (⟨some d,op,ty,pos,af,some (j,b')⟩ :: rest) e:=by
 intro a ha
 have hy:yielded ops a.tmps j=none:=xt ha h
 unfold wpQuiet
 rw [aS (by simp [Region.wanted,hy])]
 exact hK _ (ha.put hd _)
theorem oc {w:World} {α:Type} {R:Rep α} {E:TypeId} {v:Value} {xs:List α} (h:(aG R E).rd w [v] xs):v.oneCell'=true:=(aG R E).rd_one h v (d7.2 rfl)
theorem I8 {e:Env} {x:Operand} {v:Value} (h:ev e x=v) (h1:v.oneCell'=true):(ev e x).cells=[v].toArray:=by rw [h];exact HN h1
theorem aT {e:Env} {x:Operand} {v:Value} (h1:v.oneCell'=true) (h:ev e x=v:=by exact rfl):(ev e x).cells=[v].toArray:=I8 h h1
theorem all_cons {α:Type} {p:α->Bool} {a:α} {l:List α} (h:p a=true) (t:l.all p=true):(a :: l).all p=true:=by simp [h,t]
theorem aF {α:Type} {p:α->Bool} {a:α} {l:List α} (t:l.all p=true) (h:p a=true:=by exact rfl):(a :: l).all p=true:=all_cons h t
theorem aB {α:Type} {p:α->Bool} {a:α} {l:List α} (h:p a=true) (t:l.all p=true:=by exact rfl):(a :: l).all p=true:=all_cons h t
theorem aM {α:Type} {p:α->Bool} {a:α} {l:List α} (h:p a=true:=by exact rfl) (t:l.all p=true:=by exact rfl):(a :: l).all p=true:=all_cons h t
theorem Ic {w:World} {b off:Nat} {cs:List Value} (h:∀ j c,cs[j]? = some c->w.cell? ⟨b,off+j,none⟩=some c) (k n:Nat):∀ j c,((cs.drop k).take n)[j]? = some c->w.cell? ⟨b,off+k+j,none⟩=some c:=by
 intro j c hj
 rw [jr] at hj
 split at hj
 ·rw [Bb] at hj;rw [tm];exact h _ c hj
 ·cases hj
section
variable {w w0 wA:World} {Γ rest:List Asn} {α:Type} {R:Rep α} {E:TypeId} {v:Value} {xs:List α}
theorem Sat.top (i:Nat) {A:Asn} (h:Sat w0 w Γ) (hi:Γ[i]? = some A):Sat w0 w (A :: Γ.eraseIdx i):=by
 refine h.perm ?_
 clear h
 induction Γ generalizing i with
 | nil=>simp at hi
 | cons B Γ ih =>
  cases i with
  | zero=>simp at hi;subst hi;exact .refl _
  | succ i =>
   simp at hi
   exact (List.Perm.cons B (ih i hi)).trans (.swap _ _ _)
theorem Sat.rem (i:Nat) {A:Asn} (h:Sat w0 w Γ) (hi:Γ[i]? = some A):Sat w0 w (Γ.eraseIdx i):=(h.top i hi).tail
theorem Sat.zB (i:Nat) {cs:List Value} {x:α} {R:Rep α} (h:Sat w0 w Γ) (hi:Γ[i]? = some (Own R cs x)):R.rd w cs x:=(h.top i hi).rd
theorem Sat.nil (R:Rep α) (E:TypeId) (h:Sat w0 w Γ):Sat w0 w (Own (aG R E) [.slice none 0 0] [] :: Γ):=h.add (.inl ⟨rfl,rfl,rfl⟩)
theorem Sat.bool (h:Sat w0 w Γ) (b:Bool):Sat w0 w (Own tY [.bool b] b :: Γ):=h.add ⟨rfl,rfl⟩
theorem Sat.u8 (h:Sat w0 w Γ) (n:Int):Sat w0 w (Own u8R [.int .u8 n] n :: Γ):=h.add ⟨rfl,rfl⟩
theorem aL {cs:List Value} (h:(aG R E).rd w cs xs):∃ v,cs=[v]:=List.length_eq_one_iff.1 ((aG R E).rd_len h)
theorem de {cs:List Value} {x:α} (h:R.rd w0 cs x) (hx:Ext w0 w):R.rd w cs x:=R.rd_ext h hx
theorem Sat.up {cs:List Value} {x:α} (hS:Sat w0 w Γ) (h:R.rd w0 cs x):R.rd w cs x:=R.rd_ext h hS.below
theorem Sat.zA (i:Nat) {b:Nat} {cs:List Value} (h:Sat w0 w Γ) (hi:Γ[i]? = some (Box b E cs)):∀ j c,cs[j]? = some c->w.cell? ⟨b,j,none⟩=some c:=by
 have h2:=h.top i hi
 exact h2.yD
theorem Dv {b:Nat} {cs:List Value} (h:∀ j c,cs[j]? = some c->w.cell? ⟨b,j,none⟩=some c) (k n:Nat):∀ j c,((cs.drop k).take n)[j]? = some c->w.cell? ⟨b,k+j,none⟩=some c:=by
 intro j c hj
 rw [jr] at hj
 split at hj
 ·rw [Bb] at hj;exact h _ c hj
 ·cases hj
theorem aC {b:Nat} {cs:List Value} (h:∀ j c,cs[j]? = some c->w.cell? ⟨b,j,none⟩=some c):∀ j c,cs[j]? = some c->w.cell? ⟨b,0+j,none⟩=some c:=by
 intro j c hj;rw [dA];exact h j c hj
theorem Sat.zD (i:Nat) {b:Nat} {cs:List Value} (h:Sat w0 w Γ) (hi:Γ[i]? = some (Box b E cs)):ry w (some ⟨b,0,none⟩) cs :=
 .inr ⟨b,0,rfl,aC (h.zA i hi)⟩
theorem Sat.zY {b:Nat} {cs:List Value} {y:α} (h:Sat w0 w (Box b E cs :: Own R cs y :: Γ)):Sat w0 w (Own (aG R E) [.slice (some ⟨b,0,none⟩) 1 1] [y] :: Γ):=by
 refine h.join ?_
 rintro f g ⟨rfl,h1⟩ h2
 have hl:=R.rd_len (R.own_rd h2)
 refine .inr ⟨b,1,cs.toArray,cs,g,rfl,h1,by simp,by unfold maxLen;omega,by simp [hl],by simp [<- hl],⟨cs,[],g,[],by simp,by simp,h2,rfl,rfl⟩,by simp⟩
theorem Jb {ccs:List Value} {ys:yP} (h:rdL cA w ccs ys):ccs=ys.map (Value.int .i64):=by
 induction ys generalizing ccs with
 | nil=>simpa [rdL] using h
 | cons y ys ih =>
  obtain ⟨ec,r,rfl,h1,h2⟩:=h
  obtain rfl:=ih h2
  have:ec=[.int .i64 y]:=h1
  rw [this];rfl
theorem td {v:Value} {ys:yP} (h:(aG cA E).rd w [v] ys):∃ ao c,v=.slice ao ys.length c/\(ao=none->c=0)/\ry w ao (ys.map (Value.int .i64)):=by
 obtain ⟨ao,cap,ccs,hv,h1,h2,h3,h4,h5⟩:=h
 obtain rfl:=Jb h4
 exact ⟨ao,cap,by simpa using hv,h3,h5⟩
end
section
variable {P:Program} {n:Nat} {ops:Array Oper} {K:Env->World->Prop} {rest:List Oper} {e:Env} {w w0 wA:World} {v:Value} {d:Nat} {ty:TypeId} {pos:String} {af:Array Edge} {Γ rΓ:List Asn} {x y:Operand} {α:Type} {R:Rep α} {E E':TypeId}
theorem pX {t:TypeId} [ht:SliceT P t E] {zz:List Value} {m yO:Nat} [hz:ElemT P E zz m yO] {xs:List α} (hS:Sat w0 w (Own (aG R E) [v] xs :: Γ)) (hs:ev e x=v)
  (hn:R.sz=m) (hpos:0<m) {k:IntKind} {i:Int} (hi:ev e y=.int k i) {u:α} (h:ix xs i=some u) (hd:d<n)
  (hK:∀ g cap ec,v=.slice (some ⟨g,0,none⟩) xs.length cap->R.rd w ec u->(∀ j c,ec[j]? = some c->w.cell? ⟨g,i.toNat*m+j,none⟩=some c)->EL P n ops K rest (upd e d (.pointer (some ⟨g,i.toNat*m,none⟩))) w) :
  EL P n ops K (⟨some d,.indexAddr t x y,ty,pos,af,none⟩ :: rest) e w:=by
 obtain ⟨k',rfl,hk,rfl⟩:=gq h
 obtain ⟨fp,hv,_⟩:=hS.head
 rcases hv with ⟨_,h2,_⟩ | ⟨g,cap,cur,ccs,f2,hv,hg,h1,h2,h3,h4,h5,rfl⟩
 ·subst h2;simp at hk
 obtain rfl:v=.slice (some ⟨g,0,none⟩) xs.length cap:=by simpa using hv
 obtain ⟨ec,hec,hcc⟩:=sc (i4 h5) k' hk
 have hz:=hz.h
 cases hq:P.info? E with
 | none=>simp [hq] at hz
 | some inf =>
  simp [hq] at hz
  have hsz:inf.size=m:=hz.2.1
  refine qn (v:=.pointer (some ⟨g,k'*m,none⟩)) ?_ hd ?_
  ·intro w' _
   unfold execOp
   simp [hs,hi,Instr.indexAt,asIntOf,fY ht.h,sizeOf,typeInfo,hq,hk,jK,hsz]
  ·refine hK g cap ec rfl hec ?_
   intro j c hj
   have h0:=hcc j c hj
   simp only [eJ]
   rw [kZ w g _ cur E (0,0) hg,<- mr]
   rw [<- h4,jr] at h0
   rw [<- hn]
   split at h0
   ·exact h0
   ·cases h0
theorem li {t:TypeId} {z:List Value} {m yO:Nat} [ElemT P t z m yO] (hn:R.sz=m) {ec:List Value} {yv:α} {xs ys:List α} {g ln cap:Nat} (hv:v=.slice (some ⟨g,0,none⟩) ln cap)
  (hS:Sat w0 w (Own R ec yv :: Own (aG R E) [v] xs :: Γ)) {i:Int} (h:sto xs i yv=some ys) (hx:ev e x=.pointer (some ⟨g,i.toNat*m,none⟩)) (hy:(ev e y).cells=ec.toArray)
  (hK:∀ w',Sat w0 w' (Own (aG R E) [v] ys :: Γ)->EL P n ops K rest e w'):EL P n ops K (⟨none,.store t x y,ty,pos,af,none⟩ :: rest) e w:=by
 subst hv
 have h0:0<=i:=by
  unfold sto at h;split at h
  ·rename_i h1;exact h1.1
  ·cases h
 exact Is hn hS i.toNat (i.toNat*m) oa h rfl hx hy hK
end
class BldT (P:Program) (t:TypeId) (pl:outParam (Array (Nat × Nat))):Prop where
 h:∃ fs,P.underlying t=some (.struct fs)/\∀ w,(fs.mapM (fun f=>do pure (f.offset,<- sizeOf f.type)):Sem (Array (Nat × Nat))).run P w=.ok pl w
def v8 (place:Nat->Option (Nat × Nat)) (cells:List Value):List (Nat × List Value)->Option (List Value)
  | []=>some cells
  | (i,v) :: rest=>match place i with
    | none=>none
    | some (off,size)=>bif Nat.beq v.length size&&Nat.ble (off+v.length) cells.length then v8 place (cells.take off++v++cells.drop (off+v.length)) rest else none
theorem CB:∀ (v:List Value) (off k:Nat) (cells:List Value),off+k+v.length<=cells.length ->
  ((v.zipIdx k).foldl (fun (cs:Array Value) (c:Value × Nat)=>cs.setIfInBounds (off+c.2) c.1) cells.toArray)=(cells.take (off+k)++v++cells.drop (off+k+v.length)).toArray
 | [],off,k,cells,h=>by simp
 | x :: v,off,k,cells,h=>by
  simp only [b9] at h
  have hi:off+k<cells.length:=by omega
  simp only [List.zipIdx_cons,tI,List.setIfInBounds_toArray]
  rw [CB v off (k+1) (cells.set (off+k) x) (by simp;omega)]
  have e1:(cells.set (off+k) x).take (off+(k+1))=cells.take (off+k)++[x]:=by
   rw [show off+(k+1)=(off+k)+1 by omega,xS,gR hi,AT _ _ (by simp;omega)]
   simp [show min (off+k) cells.length=off+k by omega]
  have e2:(cells.set (off+k) x).drop (off+(k+1)+v.length)=cells.drop (off+k+(x :: v).length):=by
   rw [List.drop_set_of_lt oa]
   congr 1
   simp only [b9];omega
  rw [e1,e2];simp
theorem BT (place:Nat->Option (Nat × Nat)):∀ (ps:List (Nat × Value)) (qs:List (Nat × List Value)) (cells:List Value) {r:List Value},ps.map (fun p=>(p.1,p.2.cells))=qs.map (fun q=>(q.1,q.2.toArray))->v8 place cells qs=some r->Instr.fill place cells.toArray ps=some r.toArray
  | [],[],cells,r,_,h=>by simp only [v8,qp] at h;subst h;rfl
  | [],_ :: _,_,_,h,_=>by simp at h
  | _ :: _,[],_,_,h,_=>by simp at h
  | (i,v) :: ps,(j,c) :: qs,cells,r,h,hf=>by
    simp only [gH,xJ,Prod.mk.injEq] at h
    obtain ⟨⟨rfl,hc⟩,ht⟩:=h
    unfold v8 at hf
    unfold Instr.fill
    cases hp:place i with
    | none=>simp [hp] at hf
    | some os =>
      obtain ⟨off,size⟩:=os
      simp only [hp] at hf ⊢
      cases hb:(Nat.beq c.length size&&Nat.ble (off+c.length) cells.length) with
      | false=>rw [hb] at hf;cases hf
      | true =>
        rw [hb] at hf
        simp only [ce] at hb
        have h1:=tv hb.1
        have h2:=A9 hb.2
        rw [hc]
        have hn:(decide (c.toArray.size≠size)||decide (off+c.toArray.size > cells.toArray.size))=false:=by simp;omega
        rw [aS (by simp only [hn];simp)]
        have:=CB c off 0 cells oa
        simp only [mT] at this
        have e:c.toArray.zipIdx.foldl (fun cs (c,j)=>cs.setIfInBounds (off+j) c) cells.toArray=(cells.take off++c++cells.drop (off+c.length)).toArray:=by
          rw [<- this]
          simp
        rw [e]
        exact BT place ps qs _ ht hf
theorem bq {P:Program} {e:Env} {w:World} {d:Option Nat} {ty:TypeId} {pos:String} {af:Array Edge} {t:TypeId} {z:List Value} {n yO:Nat} {pl:Array (Nat × Nat)} [hz:ElemT P t z n yO] [hb:BldT P t pl] {parts:Array (Nat × Operand)} (qs:List (Nat × List Value)) (r:List Value)
  (hp:parts.toList.map (fun p=>(p.1,(ev e p.2).cells))=qs.map (fun q=>(q.1,q.2.toArray))) (hf:v8 (pl[·]?) z qs=some r):PV P ⟨d,.build t parts,ty,pos,af,none⟩ e w (.agg r.toArray):=fun w' _=>by
 have hz:=hz.h
 obtain ⟨fs,h1,h2⟩:=hb.h
 cases hi:P.info? t with
 | none=>simp [hi] at hz
 | some i =>
 cases hzz:i.zero with
 | none=>simp [hi,hzz] at hz
 | some zv =>
 simp [hi,hzz] at hz
 have hzc:zv.cells=z.toArray:=by rw [<- hz.1]
 have hff:=BT (pl[·]?) (parts.toList.map fun p=>(p.1,ev e p.2)) qs z (by rw [nx];exact hp) hf
 unfold execOp
 simp only [Instr.build,zeroValue,typeInfo,hi,hzz,dQ,fJ,mS,eI,fY h1,h2,hzc,Array.toList_map]
 rw [hff]
 simp
theorem gm {e:Env} {i:Nat} {x:Operand} {c:List Value} {l:List (Nat × Operand)} {m:List (Nat × List Value)} (h:(ev e x).cells=c.toArray) (t:l.map (fun p=>(p.1,(ev e p.2).cells))=m.map (fun q=>(q.1,q.2.toArray))) :
  ((i,x) :: l).map (fun p=>(p.1,(ev e p.2).cells))=((i,c) :: m).map (fun q=>(q.1,q.2.toArray)):=by
 rw [gH,gH,t,h]
-- func()
instance:PlainT Tryz.prog 1:=⟨_,Tryz.underlying1,trivial⟩
instance:ElemT Tryz.prog 1 [.nilFunc] 1 8:=⟨by kernel_rfl⟩
-- int64
instance:PlainT Tryz.prog 2:=⟨_,Tryz.underlying2,trivial⟩
instance:ElemT Tryz.prog 2 [.int .i64 0] 1 8:=⟨by kernel_rfl⟩
-- int
instance:PlainT Tryz.prog 3:=⟨_,Tryz.underlying3,trivial⟩
instance:ElemT Tryz.prog 3 [.int .i64 0] 1 8:=⟨by kernel_rfl⟩
-- bool
instance:PlainT Tryz.prog 4:=⟨_,Tryz.underlying4,trivial⟩
instance:ElemT Tryz.prog 4 [.bool false] 1 1:=⟨by kernel_rfl⟩
-- uint8
instance:PlainT Tryz.prog 5:=⟨_,Tryz.underlying5,trivial⟩
instance:ElemT Tryz.prog 5 [.int .u8 0] 1 1:=⟨by kernel_rfl⟩
-- string
instance:PlainT Tryz.prog 9:=⟨_,Tryz.underlying9,trivial⟩
instance:ElemT Tryz.prog 9 [.string ByteArray.empty] 1 16:=⟨by kernel_rfl⟩
-- uintptr
instance:PlainT Tryz.prog 12:=⟨_,Tryz.underlying12,trivial⟩
instance:ElemT Tryz.prog 12 [.int .u64 0] 1 8:=⟨by kernel_rfl⟩
-- int32
instance:PlainT Tryz.prog 21:=⟨_,Tryz.underlying21,trivial⟩
instance:ElemT Tryz.prog 21 [.int .i32 0] 1 4:=⟨by kernel_rfl⟩
-- []laws.Atom
instance:PlainT Tryz.prog 22:=⟨_,Tryz.underlying22,trivial⟩
instance:SliceT Tryz.prog 22 114:=⟨Tryz.underlying22⟩
instance:ElemT Tryz.prog 22 [.slice none 0 0] 1 24:=⟨by kernel_rfl⟩
-- []int
instance:PlainT Tryz.prog 23:=⟨_,Tryz.underlying23,trivial⟩
instance:SliceT Tryz.prog 23 3:=⟨Tryz.underlying23⟩
instance:ElemT Tryz.prog 23 [.slice none 0 0] 1 24:=⟨by kernel_rfl⟩
-- struct { VariableCount int;Atoms []laws.Atom;Output []int }
instance:AggT Tryz.prog 24 3:=⟨⟨_,Tryz.underlying24,trivial⟩,by kernel_rfl⟩
instance:FldT Tryz.prog 24 0 0:=⟨_,_,Tryz.underlying24,rfl,rfl,by kernel_rfl⟩
instance:FldT Tryz.prog 24 1 1:=⟨_,_,Tryz.underlying24,rfl,rfl,by kernel_rfl⟩
instance:FldT Tryz.prog 24 2 2:=⟨_,_,Tryz.underlying24,rfl,rfl,by kernel_rfl⟩
instance:BldT Tryz.prog 24 #[(0,1),(1,1),(2,1)]:=⟨_,Tryz.underlying24,fun w=>by kernel_rfl⟩
instance:ElemT Tryz.prog 24 [.int .i64 0,.slice none 0 0,.slice none 0 0] 3 56:=⟨by kernel_rfl⟩
-- laws.Query
instance:AggT Tryz.prog 25 3:=⟨⟨_,Tryz.underlying25,trivial⟩,by kernel_rfl⟩
instance:FldT Tryz.prog 25 0 0:=⟨_,_,Tryz.underlying25,rfl,rfl,by kernel_rfl⟩
instance:FldT Tryz.prog 25 1 1:=⟨_,_,Tryz.underlying25,rfl,rfl,by kernel_rfl⟩
instance:FldT Tryz.prog 25 2 2:=⟨_,_,Tryz.underlying25,rfl,rfl,by kernel_rfl⟩
instance:BldT Tryz.prog 25 #[(0,1),(1,1),(2,1)]:=⟨_,Tryz.underlying25,fun w=>by kernel_rfl⟩
instance:ElemT Tryz.prog 25 [.int .i64 0,.slice none 0 0,.slice none 0 0] 3 56:=⟨by kernel_rfl⟩
-- func(laws.Query,int) int
instance:PlainT Tryz.prog 26:=⟨_,Tryz.underlying26,trivial⟩
instance:ElemT Tryz.prog 26 [.nilFunc] 1 8:=⟨by kernel_rfl⟩
-- []impl.Rational
instance:PlainT Tryz.prog 27:=⟨_,Tryz.underlying27,trivial⟩
instance:SliceT Tryz.prog 27 68:=⟨Tryz.underlying27⟩
instance:ElemT Tryz.prog 27 [.slice none 0 0] 1 24:=⟨by kernel_rfl⟩
-- func(impl.Query,[]int) ([]impl.Rational,bool)
instance:PlainT Tryz.prog 29:=⟨_,Tryz.underlying29,trivial⟩
instance:ElemT Tryz.prog 29 [.nilFunc] 1 8:=⟨by kernel_rfl⟩
-- []impl.Atom
instance:PlainT Tryz.prog 30:=⟨_,Tryz.underlying30,trivial⟩
instance:SliceT Tryz.prog 30 88:=⟨Tryz.underlying30⟩
instance:ElemT Tryz.prog 30 [.slice none 0 0] 1 24:=⟨by kernel_rfl⟩
-- struct { VariableCount int;Atoms []impl.Atom;Output []int }
instance:AggT Tryz.prog 31 3:=⟨⟨_,Tryz.underlying31,trivial⟩,by kernel_rfl⟩
instance:FldT Tryz.prog 31 0 0:=⟨_,_,Tryz.underlying31,rfl,rfl,by kernel_rfl⟩
instance:FldT Tryz.prog 31 1 1:=⟨_,_,Tryz.underlying31,rfl,rfl,by kernel_rfl⟩
instance:FldT Tryz.prog 31 2 2:=⟨_,_,Tryz.underlying31,rfl,rfl,by kernel_rfl⟩
instance:BldT Tryz.prog 31 #[(0,1),(1,1),(2,1)]:=⟨_,Tryz.underlying31,fun w=>by kernel_rfl⟩
instance:ElemT Tryz.prog 31 [.int .i64 0,.slice none 0 0,.slice none 0 0] 3 56:=⟨by kernel_rfl⟩
-- impl.Query
instance:AggT Tryz.prog 32 3:=⟨⟨_,Tryz.underlying32,trivial⟩,by kernel_rfl⟩
instance:FldT Tryz.prog 32 0 0:=⟨_,_,Tryz.underlying32,rfl,rfl,by kernel_rfl⟩
instance:FldT Tryz.prog 32 1 1:=⟨_,_,Tryz.underlying32,rfl,rfl,by kernel_rfl⟩
instance:FldT Tryz.prog 32 2 2:=⟨_,_,Tryz.underlying32,rfl,rfl,by kernel_rfl⟩
instance:BldT Tryz.prog 32 #[(0,1),(1,1),(2,1)]:=⟨_,Tryz.underlying32,fun w=>by kernel_rfl⟩
instance:ElemT Tryz.prog 32 [.int .i64 0,.slice none 0 0,.slice none 0 0] 3 56:=⟨by kernel_rfl⟩
-- func(laws.Query) impl.Query
instance:PlainT Tryz.prog 33:=⟨_,Tryz.underlying33,trivial⟩
instance:ElemT Tryz.prog 33 [.nilFunc] 1 8:=⟨by kernel_rfl⟩
-- func([]int) []int
instance:PlainT Tryz.prog 34:=⟨_,Tryz.underlying34,trivial⟩
instance:ElemT Tryz.prog 34 [.nilFunc] 1 8:=⟨by kernel_rfl⟩
-- func([]impl.Rational,[]impl.Rational) bool
instance:PlainT Tryz.prog 35:=⟨_,Tryz.underlying35,trivial⟩
instance:ElemT Tryz.prog 35 [.nilFunc] 1 8:=⟨by kernel_rfl⟩
-- func(impl.Query,impl.Query) bool
instance:PlainT Tryz.prog 36:=⟨_,Tryz.underlying36,trivial⟩
instance:ElemT Tryz.prog 36 [.nilFunc] 1 8:=⟨by kernel_rfl⟩
-- func([]int,[]int) bool
instance:PlainT Tryz.prog 37:=⟨_,Tryz.underlying37,trivial⟩
instance:ElemT Tryz.prog 37 [.nilFunc] 1 8:=⟨by kernel_rfl⟩
-- func(impl.Query,int) int
instance:PlainT Tryz.prog 38:=⟨_,Tryz.underlying38,trivial⟩
instance:ElemT Tryz.prog 38 [.nilFunc] 1 8:=⟨by kernel_rfl⟩
-- func([]int,int) int
instance:PlainT Tryz.prog 39:=⟨_,Tryz.underlying39,trivial⟩
instance:ElemT Tryz.prog 39 [.nilFunc] 1 8:=⟨by kernel_rfl⟩
-- func([]impl.Rational,int) int
instance:PlainT Tryz.prog 40:=⟨_,Tryz.underlying40,trivial⟩
instance:ElemT Tryz.prog 40 [.nilFunc] 1 8:=⟨by kernel_rfl⟩
-- func(laws.Query,[]int) bool
instance:PlainT Tryz.prog 41:=⟨_,Tryz.underlying41,trivial⟩
instance:ElemT Tryz.prog 41 [.nilFunc] 1 8:=⟨by kernel_rfl⟩
-- []uint8
instance:PlainT Tryz.prog 42:=⟨_,Tryz.underlying42,trivial⟩
instance:SliceT Tryz.prog 42 5:=⟨Tryz.underlying42⟩
instance:ElemT Tryz.prog 42 [.slice none 0 0] 1 24:=⟨by kernel_rfl⟩
-- func([]uint8) bool
instance:PlainT Tryz.prog 43:=⟨_,Tryz.underlying43,trivial⟩
instance:ElemT Tryz.prog 43 [.nilFunc] 1 8:=⟨by kernel_rfl⟩
-- func([]uint8) (impl.Query,[]int)
instance:PlainT Tryz.prog 45:=⟨_,Tryz.underlying45,trivial⟩
instance:ElemT Tryz.prog 45 [.nilFunc] 1 8:=⟨by kernel_rfl⟩
-- [][]impl.Rational
instance:PlainT Tryz.prog 46:=⟨_,Tryz.underlying46,trivial⟩
instance:SliceT Tryz.prog 46 27:=⟨Tryz.underlying46⟩
instance:ElemT Tryz.prog 46 [.slice none 0 0] 1 24:=⟨by kernel_rfl⟩
-- struct { A [][]impl.Rational;B []impl.Rational;C []impl.Rational }
instance:AggT Tryz.prog 47 3:=⟨⟨_,Tryz.underlying47,trivial⟩,by kernel_rfl⟩
instance:FldT Tryz.prog 47 0 0:=⟨_,_,Tryz.underlying47,rfl,rfl,by kernel_rfl⟩
instance:FldT Tryz.prog 47 1 1:=⟨_,_,Tryz.underlying47,rfl,rfl,by kernel_rfl⟩
instance:FldT Tryz.prog 47 2 2:=⟨_,_,Tryz.underlying47,rfl,rfl,by kernel_rfl⟩
instance:BldT Tryz.prog 47 #[(0,1),(1,1),(2,1)]:=⟨_,Tryz.underlying47,fun w=>by kernel_rfl⟩
instance:ElemT Tryz.prog 47 [.slice none 0 0,.slice none 0 0,.slice none 0 0] 3 72:=⟨by kernel_rfl⟩
-- impl.LinearProgram
instance:AggT Tryz.prog 48 3:=⟨⟨_,Tryz.underlying48,trivial⟩,by kernel_rfl⟩
instance:FldT Tryz.prog 48 0 0:=⟨_,_,Tryz.underlying48,rfl,rfl,by kernel_rfl⟩
instance:FldT Tryz.prog 48 1 1:=⟨_,_,Tryz.underlying48,rfl,rfl,by kernel_rfl⟩
instance:FldT Tryz.prog 48 2 2:=⟨_,_,Tryz.underlying48,rfl,rfl,by kernel_rfl⟩
instance:BldT Tryz.prog 48 #[(0,1),(1,1),(2,1)]:=⟨_,Tryz.underlying48,fun w=>by kernel_rfl⟩
instance:ElemT Tryz.prog 48 [.slice none 0 0,.slice none 0 0,.slice none 0 0] 3 72:=⟨by kernel_rfl⟩
-- func(impl.Query) (impl.LinearProgram,bool)
instance:PlainT Tryz.prog 50:=⟨_,Tryz.underlying50,trivial⟩
instance:ElemT Tryz.prog 50 [.nilFunc] 1 8:=⟨by kernel_rfl⟩
-- func(impl.LinearProgram) [][]impl.Rational
instance:PlainT Tryz.prog 51:=⟨_,Tryz.underlying51,trivial⟩
instance:ElemT Tryz.prog 51 [.nilFunc] 1 8:=⟨by kernel_rfl⟩
-- func([]int,[]impl.Rational,[]impl.Rational) (int,bool)
instance:PlainT Tryz.prog 53:=⟨_,Tryz.underlying53,trivial⟩
instance:ElemT Tryz.prog 53 [.nilFunc] 1 8:=⟨by kernel_rfl⟩
-- func(impl.Query,[]impl.Rational) bool
instance:PlainT Tryz.prog 54:=⟨_,Tryz.underlying54,trivial⟩
instance:ElemT Tryz.prog 54 [.nilFunc] 1 8:=⟨by kernel_rfl⟩
-- []impl.Table
instance:PlainT Tryz.prog 55:=⟨_,Tryz.underlying55,trivial⟩
instance:SliceT Tryz.prog 55 144:=⟨Tryz.underlying55⟩
instance:ElemT Tryz.prog 55 [.slice none 0 0] 1 24:=⟨by kernel_rfl⟩
-- struct { Tables []impl.Table }
instance:AggT Tryz.prog 56 1:=⟨⟨_,Tryz.underlying56,trivial⟩,by kernel_rfl⟩
instance:FldT Tryz.prog 56 0 0:=⟨_,_,Tryz.underlying56,rfl,rfl,by kernel_rfl⟩
instance:BldT Tryz.prog 56 #[(0,1)]:=⟨_,Tryz.underlying56,fun w=>by kernel_rfl⟩
instance:ElemT Tryz.prog 56 [.slice none 0 0] 1 24:=⟨by kernel_rfl⟩
-- impl.Database
instance:AggT Tryz.prog 57 1:=⟨⟨_,Tryz.underlying57,trivial⟩,by kernel_rfl⟩
instance:FldT Tryz.prog 57 0 0:=⟨_,_,Tryz.underlying57,rfl,rfl,by kernel_rfl⟩
instance:BldT Tryz.prog 57 #[(0,1)]:=⟨_,Tryz.underlying57,fun w=>by kernel_rfl⟩
instance:ElemT Tryz.prog 57 [.slice none 0 0] 1 24:=⟨by kernel_rfl⟩
-- func([]uint8) (impl.Database,impl.Query)
instance:PlainT Tryz.prog 59:=⟨_,Tryz.underlying59,trivial⟩
instance:ElemT Tryz.prog 59 [.nilFunc] 1 8:=⟨by kernel_rfl⟩
-- func(impl.Database,impl.Query) ([]int,bool)
instance:PlainT Tryz.prog 61:=⟨_,Tryz.underlying61,trivial⟩
instance:ElemT Tryz.prog 61 [.nilFunc] 1 8:=⟨by kernel_rfl⟩
-- func(impl.Database,impl.Query) bool
instance:PlainT Tryz.prog 62:=⟨_,Tryz.underlying62,trivial⟩
instance:ElemT Tryz.prog 62 [.nilFunc] 1 8:=⟨by kernel_rfl⟩
-- [][]int
instance:PlainT Tryz.prog 63:=⟨_,Tryz.underlying63,trivial⟩
instance:SliceT Tryz.prog 63 23:=⟨Tryz.underlying63⟩
instance:ElemT Tryz.prog 63 [.slice none 0 0] 1 24:=⟨by kernel_rfl⟩
-- struct { Arity int;Rows [][]int }
instance:AggT Tryz.prog 64 2:=⟨⟨_,Tryz.underlying64,trivial⟩,by kernel_rfl⟩
instance:FldT Tryz.prog 64 0 0:=⟨_,_,Tryz.underlying64,rfl,rfl,by kernel_rfl⟩
instance:FldT Tryz.prog 64 1 1:=⟨_,_,Tryz.underlying64,rfl,rfl,by kernel_rfl⟩
instance:BldT Tryz.prog 64 #[(0,1),(1,1)]:=⟨_,Tryz.underlying64,fun w=>by kernel_rfl⟩
instance:ElemT Tryz.prog 64 [.int .i64 0,.slice none 0 0] 2 32:=⟨by kernel_rfl⟩
-- impl.Relation
instance:AggT Tryz.prog 65 2:=⟨⟨_,Tryz.underlying65,trivial⟩,by kernel_rfl⟩
instance:FldT Tryz.prog 65 0 0:=⟨_,_,Tryz.underlying65,rfl,rfl,by kernel_rfl⟩
instance:FldT Tryz.prog 65 1 1:=⟨_,_,Tryz.underlying65,rfl,rfl,by kernel_rfl⟩
instance:BldT Tryz.prog 65 #[(0,1),(1,1)]:=⟨_,Tryz.underlying65,fun w=>by kernel_rfl⟩
instance:ElemT Tryz.prog 65 [.int .i64 0,.slice none 0 0] 2 32:=⟨by kernel_rfl⟩
-- func(impl.Database,impl.Query) impl.Relation
instance:PlainT Tryz.prog 66:=⟨_,Tryz.underlying66,trivial⟩
instance:ElemT Tryz.prog 66 [.nilFunc] 1 8:=⟨by kernel_rfl⟩
-- struct { Num int;Den int }
instance:AggT Tryz.prog 67 2:=⟨⟨_,Tryz.underlying67,trivial⟩,by kernel_rfl⟩
instance:FldT Tryz.prog 67 0 0:=⟨_,_,Tryz.underlying67,rfl,rfl,by kernel_rfl⟩
instance:FldT Tryz.prog 67 1 1:=⟨_,_,Tryz.underlying67,rfl,rfl,by kernel_rfl⟩
instance:BldT Tryz.prog 67 #[(0,1),(1,1)]:=⟨_,Tryz.underlying67,fun w=>by kernel_rfl⟩
instance:ElemT Tryz.prog 67 [.int .i64 0,.int .i64 0] 2 16:=⟨by kernel_rfl⟩
-- impl.Rational
instance:AggT Tryz.prog 68 2:=⟨⟨_,Tryz.underlying68,trivial⟩,by kernel_rfl⟩
instance:FldT Tryz.prog 68 0 0:=⟨_,_,Tryz.underlying68,rfl,rfl,by kernel_rfl⟩
instance:FldT Tryz.prog 68 1 1:=⟨_,_,Tryz.underlying68,rfl,rfl,by kernel_rfl⟩
instance:BldT Tryz.prog 68 #[(0,1),(1,1)]:=⟨_,Tryz.underlying68,fun w=>by kernel_rfl⟩
instance:ElemT Tryz.prog 68 [.int .i64 0,.int .i64 0] 2 16:=⟨by kernel_rfl⟩
-- func(impl.Query) ([]impl.Rational,impl.Rational,bool)
instance:PlainT Tryz.prog 70:=⟨_,Tryz.underlying70,trivial⟩
instance:ElemT Tryz.prog 70 [.nilFunc] 1 8:=⟨by kernel_rfl⟩
-- func(impl.Query,[]int) (int,bool)
instance:PlainT Tryz.prog 71:=⟨_,Tryz.underlying71,trivial⟩
instance:ElemT Tryz.prog 71 [.nilFunc] 1 8:=⟨by kernel_rfl⟩
-- func([]int,[]impl.Rational,int) bool
instance:PlainT Tryz.prog 72:=⟨_,Tryz.underlying72,trivial⟩
instance:ElemT Tryz.prog 72 [.nilFunc] 1 8:=⟨by kernel_rfl⟩
-- func([]laws.Atom,int) int
instance:PlainT Tryz.prog 73:=⟨_,Tryz.underlying73,trivial⟩
instance:ElemT Tryz.prog 73 [.nilFunc] 1 8:=⟨by kernel_rfl⟩
-- func(int,int,int) bool
instance:PlainT Tryz.prog 74:=⟨_,Tryz.underlying74,trivial⟩
instance:ElemT Tryz.prog 74 [.nilFunc] 1 8:=⟨by kernel_rfl⟩
-- func([]laws.Atom) []impl.Atom
instance:PlainT Tryz.prog 75:=⟨_,Tryz.underlying75,trivial⟩
instance:ElemT Tryz.prog 75 [.nilFunc] 1 8:=⟨by kernel_rfl⟩
-- func(impl.Query) bool
instance:PlainT Tryz.prog 76:=⟨_,Tryz.underlying76,trivial⟩
instance:ElemT Tryz.prog 76 [.nilFunc] 1 8:=⟨by kernel_rfl⟩
-- func(impl.Rational,impl.Rational) bool
instance:PlainT Tryz.prog 77:=⟨_,Tryz.underlying77,trivial⟩
instance:ElemT Tryz.prog 77 [.nilFunc] 1 8:=⟨by kernel_rfl⟩
-- func([]impl.Atom,[]impl.Atom) bool
instance:PlainT Tryz.prog 78:=⟨_,Tryz.underlying78,trivial⟩
instance:ElemT Tryz.prog 78 [.nilFunc] 1 8:=⟨by kernel_rfl⟩
-- func([]impl.Atom,int) int
instance:PlainT Tryz.prog 79:=⟨_,Tryz.underlying79,trivial⟩
instance:ElemT Tryz.prog 79 [.nilFunc] 1 8:=⟨by kernel_rfl⟩
-- func([]uint8) *spec.l1Cur
instance:PlainT Tryz.prog 81:=⟨_,Tryz.underlying81,trivial⟩
instance:ElemT Tryz.prog 81 [.nilFunc] 1 8:=⟨by kernel_rfl⟩
-- func(*spec.l1Cur) impl.Query
instance:PlainT Tryz.prog 82:=⟨_,Tryz.underlying82,trivial⟩
instance:ElemT Tryz.prog 82 [.nilFunc] 1 8:=⟨by kernel_rfl⟩
-- func(*spec.l1Cur,int) []int
instance:PlainT Tryz.prog 83:=⟨_,Tryz.underlying83,trivial⟩
instance:ElemT Tryz.prog 83 [.nilFunc] 1 8:=⟨by kernel_rfl⟩
-- func(*spec.l1Cur,int) bool
instance:PlainT Tryz.prog 84:=⟨_,Tryz.underlying84,trivial⟩
instance:ElemT Tryz.prog 84 [.nilFunc] 1 8:=⟨by kernel_rfl⟩
-- func(*spec.l1Cur,[]int) int
instance:PlainT Tryz.prog 85:=⟨_,Tryz.underlying85,trivial⟩
instance:ElemT Tryz.prog 85 [.nilFunc] 1 8:=⟨by kernel_rfl⟩
-- func(impl.Atom,int) bool
instance:PlainT Tryz.prog 86:=⟨_,Tryz.underlying86,trivial⟩
instance:ElemT Tryz.prog 86 [.nilFunc] 1 8:=⟨by kernel_rfl⟩
-- struct { Relation string;Vars []int }
instance:AggT Tryz.prog 87 2:=⟨⟨_,Tryz.underlying87,trivial⟩,by kernel_rfl⟩
instance:FldT Tryz.prog 87 0 0:=⟨_,_,Tryz.underlying87,rfl,rfl,by kernel_rfl⟩
instance:FldT Tryz.prog 87 1 1:=⟨_,_,Tryz.underlying87,rfl,rfl,by kernel_rfl⟩
instance:BldT Tryz.prog 87 #[(0,1),(1,1)]:=⟨_,Tryz.underlying87,fun w=>by kernel_rfl⟩
instance:ElemT Tryz.prog 87 [.string ByteArray.empty,.slice none 0 0] 2 40:=⟨by kernel_rfl⟩
-- impl.Atom
instance:AggT Tryz.prog 88 2:=⟨⟨_,Tryz.underlying88,trivial⟩,by kernel_rfl⟩
instance:FldT Tryz.prog 88 0 0:=⟨_,_,Tryz.underlying88,rfl,rfl,by kernel_rfl⟩
instance:FldT Tryz.prog 88 1 1:=⟨_,_,Tryz.underlying88,rfl,rfl,by kernel_rfl⟩
instance:BldT Tryz.prog 88 #[(0,1),(1,1)]:=⟨_,Tryz.underlying88,fun w=>by kernel_rfl⟩
instance:ElemT Tryz.prog 88 [.string ByteArray.empty,.slice none 0 0] 2 40:=⟨by kernel_rfl⟩
-- func(impl.LinearProgram) bool
instance:PlainT Tryz.prog 89:=⟨_,Tryz.underlying89,trivial⟩
instance:ElemT Tryz.prog 89 [.nilFunc] 1 8:=⟨by kernel_rfl⟩
-- func(impl.LinearProgram,int) [][]impl.Rational
instance:PlainT Tryz.prog 90:=⟨_,Tryz.underlying90,trivial⟩
instance:ElemT Tryz.prog 90 [.nilFunc] 1 8:=⟨by kernel_rfl⟩
-- func([]impl.Rational) ([]int,int)
instance:PlainT Tryz.prog 92:=⟨_,Tryz.underlying92,trivial⟩
instance:ElemT Tryz.prog 92 [.nilFunc] 1 8:=⟨by kernel_rfl⟩
-- struct { Digits []int }
instance:AggT Tryz.prog 93 1:=⟨⟨_,Tryz.underlying93,trivial⟩,by kernel_rfl⟩
instance:FldT Tryz.prog 93 0 0:=⟨_,_,Tryz.underlying93,rfl,rfl,by kernel_rfl⟩
instance:BldT Tryz.prog 93 #[(0,1)]:=⟨_,Tryz.underlying93,fun w=>by kernel_rfl⟩
instance:ElemT Tryz.prog 93 [.slice none 0 0] 1 24:=⟨by kernel_rfl⟩
-- impl.BigInt
instance:AggT Tryz.prog 94 1:=⟨⟨_,Tryz.underlying94,trivial⟩,by kernel_rfl⟩
instance:FldT Tryz.prog 94 0 0:=⟨_,_,Tryz.underlying94,rfl,rfl,by kernel_rfl⟩
instance:BldT Tryz.prog 94 #[(0,1)]:=⟨_,Tryz.underlying94,fun w=>by kernel_rfl⟩
instance:ElemT Tryz.prog 94 [.slice none 0 0] 1 24:=⟨by kernel_rfl⟩
-- func([]int,[]int) (impl.BigInt,bool)
instance:PlainT Tryz.prog 96:=⟨_,Tryz.underlying96,trivial⟩
instance:ElemT Tryz.prog 96 [.nilFunc] 1 8:=⟨by kernel_rfl⟩
-- func([]int,int) []int
instance:PlainT Tryz.prog 97:=⟨_,Tryz.underlying97,trivial⟩
instance:ElemT Tryz.prog 97 [.nilFunc] 1 8:=⟨by kernel_rfl⟩
-- func(impl.BigInt,impl.BigInt) int
instance:PlainT Tryz.prog 98:=⟨_,Tryz.underlying98,trivial⟩
instance:ElemT Tryz.prog 98 [.nilFunc] 1 8:=⟨by kernel_rfl⟩
-- func([]impl.Rational,int) bool
instance:PlainT Tryz.prog 99:=⟨_,Tryz.underlying99,trivial⟩
instance:ElemT Tryz.prog 99 [.nilFunc] 1 8:=⟨by kernel_rfl⟩
-- func([]impl.Rational) (impl.Rational,bool)
instance:PlainT Tryz.prog 101:=⟨_,Tryz.underlying101,trivial⟩
instance:ElemT Tryz.prog 101 [.nilFunc] 1 8:=⟨by kernel_rfl⟩
-- func(impl.Rational,impl.Rational) int
instance:PlainT Tryz.prog 102:=⟨_,Tryz.underlying102,trivial⟩
instance:ElemT Tryz.prog 102 [.nilFunc] 1 8:=⟨by kernel_rfl⟩
-- func(*spec.l1Cur) (impl.Database,impl.Query)
instance:PlainT Tryz.prog 103:=⟨_,Tryz.underlying103,trivial⟩
instance:ElemT Tryz.prog 103 [.nilFunc] 1 8:=⟨by kernel_rfl⟩
-- func(impl.Database,impl.Atom) impl.Relation
instance:PlainT Tryz.prog 104:=⟨_,Tryz.underlying104,trivial⟩
instance:ElemT Tryz.prog 104 [.nilFunc] 1 8:=⟨by kernel_rfl⟩
-- func(impl.Database,string) (impl.Relation,bool)
instance:PlainT Tryz.prog 106:=⟨_,Tryz.underlying106,trivial⟩
instance:ElemT Tryz.prog 106 [.nilFunc] 1 8:=⟨by kernel_rfl⟩
-- func(impl.Database) bool
instance:PlainT Tryz.prog 107:=⟨_,Tryz.underlying107,trivial⟩
instance:ElemT Tryz.prog 107 [.nilFunc] 1 8:=⟨by kernel_rfl⟩
-- func(int,[][]int) (impl.Relation,bool)
instance:PlainT Tryz.prog 108:=⟨_,Tryz.underlying108,trivial⟩
instance:ElemT Tryz.prog 108 [.nilFunc] 1 8:=⟨by kernel_rfl⟩
-- func(impl.Database,impl.Query,int,[]int) [][]int
instance:PlainT Tryz.prog 109:=⟨_,Tryz.underlying109,trivial⟩
instance:ElemT Tryz.prog 109 [.nilFunc] 1 8:=⟨by kernel_rfl⟩
-- func(impl.LinearProgram) ([]impl.Rational,impl.Rational,bool)
instance:PlainT Tryz.prog 110:=⟨_,Tryz.underlying110,trivial⟩
instance:ElemT Tryz.prog 110 [.nilFunc] 1 8:=⟨by kernel_rfl⟩
-- func([]int,[]impl.Rational,int,int) bool
instance:PlainT Tryz.prog 111:=⟨_,Tryz.underlying111,trivial⟩
instance:ElemT Tryz.prog 111 [.nilFunc] 1 8:=⟨by kernel_rfl⟩
-- func(int,int) (impl.BigInt,bool)
instance:PlainT Tryz.prog 112:=⟨_,Tryz.underlying112,trivial⟩
instance:ElemT Tryz.prog 112 [.nilFunc] 1 8:=⟨by kernel_rfl⟩
-- func(laws.Atom,int) int
instance:PlainT Tryz.prog 113:=⟨_,Tryz.underlying113,trivial⟩
instance:ElemT Tryz.prog 113 [.nilFunc] 1 8:=⟨by kernel_rfl⟩
-- laws.Atom
instance:AggT Tryz.prog 114 2:=⟨⟨_,Tryz.underlying114,trivial⟩,by kernel_rfl⟩
instance:FldT Tryz.prog 114 0 0:=⟨_,_,Tryz.underlying114,rfl,rfl,by kernel_rfl⟩
instance:FldT Tryz.prog 114 1 1:=⟨_,_,Tryz.underlying114,rfl,rfl,by kernel_rfl⟩
instance:BldT Tryz.prog 114 #[(0,1),(1,1)]:=⟨_,Tryz.underlying114,fun w=>by kernel_rfl⟩
instance:ElemT Tryz.prog 114 [.string ByteArray.empty,.slice none 0 0] 2 40:=⟨by kernel_rfl⟩
-- func(laws.Atom) impl.Atom
instance:PlainT Tryz.prog 115:=⟨_,Tryz.underlying115,trivial⟩
instance:ElemT Tryz.prog 115 [.nilFunc] 1 8:=⟨by kernel_rfl⟩
-- func([]int,int) bool
instance:PlainT Tryz.prog 116:=⟨_,Tryz.underlying116,trivial⟩
instance:ElemT Tryz.prog 116 [.nilFunc] 1 8:=⟨by kernel_rfl⟩
-- []bool
instance:PlainT Tryz.prog 117:=⟨_,Tryz.underlying117,trivial⟩
instance:SliceT Tryz.prog 117 4:=⟨Tryz.underlying117⟩
instance:ElemT Tryz.prog 117 [.slice none 0 0] 1 24:=⟨by kernel_rfl⟩
-- func(string) bool
instance:PlainT Tryz.prog 118:=⟨_,Tryz.underlying118,trivial⟩
instance:ElemT Tryz.prog 118 [.nilFunc] 1 8:=⟨by kernel_rfl⟩
-- func(impl.Query,[]int) impl.LinearProgram
instance:PlainT Tryz.prog 119:=⟨_,Tryz.underlying119,trivial⟩
instance:ElemT Tryz.prog 119 [.nilFunc] 1 8:=⟨by kernel_rfl⟩
-- func(impl.Query) []int
instance:PlainT Tryz.prog 120:=⟨_,Tryz.underlying120,trivial⟩
instance:ElemT Tryz.prog 120 [.nilFunc] 1 8:=⟨by kernel_rfl⟩
-- func(impl.Atom,impl.Atom) bool
instance:PlainT Tryz.prog 121:=⟨_,Tryz.underlying121,trivial⟩
instance:ElemT Tryz.prog 121 [.nilFunc] 1 8:=⟨by kernel_rfl⟩
-- func(int) string
instance:PlainT Tryz.prog 122:=⟨_,Tryz.underlying122,trivial⟩
instance:ElemT Tryz.prog 122 [.nilFunc] 1 8:=⟨by kernel_rfl⟩
-- struct { b []uint8;i int;h int }
instance:AggT Tryz.prog 123 3:=⟨⟨_,Tryz.underlying123,trivial⟩,by kernel_rfl⟩
instance:FldT Tryz.prog 123 0 0:=⟨_,_,Tryz.underlying123,rfl,rfl,by kernel_rfl⟩
instance:FldT Tryz.prog 123 1 1:=⟨_,_,Tryz.underlying123,rfl,rfl,by kernel_rfl⟩
instance:FldT Tryz.prog 123 2 2:=⟨_,_,Tryz.underlying123,rfl,rfl,by kernel_rfl⟩
instance:BldT Tryz.prog 123 #[(0,1),(1,1),(2,1)]:=⟨_,Tryz.underlying123,fun w=>by kernel_rfl⟩
instance:ElemT Tryz.prog 123 [.slice none 0 0,.int .i64 0,.int .i64 0] 3 40:=⟨by kernel_rfl⟩
-- spec.l1Cur
instance:AggT Tryz.prog 124 3:=⟨⟨_,Tryz.underlying124,trivial⟩,by kernel_rfl⟩
instance:FldT Tryz.prog 124 0 0:=⟨_,_,Tryz.underlying124,rfl,rfl,by kernel_rfl⟩
instance:FldT Tryz.prog 124 1 1:=⟨_,_,Tryz.underlying124,rfl,rfl,by kernel_rfl⟩
instance:FldT Tryz.prog 124 2 2:=⟨_,_,Tryz.underlying124,rfl,rfl,by kernel_rfl⟩
instance:BldT Tryz.prog 124 #[(0,1),(1,1),(2,1)]:=⟨_,Tryz.underlying124,fun w=>by kernel_rfl⟩
instance:ElemT Tryz.prog 124 [.slice none 0 0,.int .i64 0,.int .i64 0] 3 40:=⟨by kernel_rfl⟩
-- func(*spec.l1Cur,int) int
instance:PlainT Tryz.prog 125:=⟨_,Tryz.underlying125,trivial⟩
instance:ElemT Tryz.prog 125 [.nilFunc] 1 8:=⟨by kernel_rfl⟩
-- func(*spec.l1Cur,[]string) string
instance:PlainT Tryz.prog 126:=⟨_,Tryz.underlying126,trivial⟩
instance:ElemT Tryz.prog 126 [.nilFunc] 1 8:=⟨by kernel_rfl⟩
-- []string
instance:PlainT Tryz.prog 127:=⟨_,Tryz.underlying127,trivial⟩
instance:SliceT Tryz.prog 127 9:=⟨Tryz.underlying127⟩
instance:ElemT Tryz.prog 127 [.slice none 0 0] 1 24:=⟨by kernel_rfl⟩
-- func([][]impl.Rational,int,int) bool
instance:PlainT Tryz.prog 128:=⟨_,Tryz.underlying128,trivial⟩
instance:ElemT Tryz.prog 128 [.nilFunc] 1 8:=⟨by kernel_rfl⟩
-- func(int,int,int) [][]int
instance:PlainT Tryz.prog 129:=⟨_,Tryz.underlying129,trivial⟩
instance:ElemT Tryz.prog 129 [.nilFunc] 1 8:=⟨by kernel_rfl⟩
-- func([][]impl.Rational,[]impl.Rational) ([]impl.Rational,bool)
instance:PlainT Tryz.prog 130:=⟨_,Tryz.underlying130,trivial⟩
instance:ElemT Tryz.prog 130 [.nilFunc] 1 8:=⟨by kernel_rfl⟩
-- func(impl.LinearProgram,[]impl.Rational,int) bool
instance:PlainT Tryz.prog 131:=⟨_,Tryz.underlying131,trivial⟩
instance:ElemT Tryz.prog 131 [.nilFunc] 1 8:=⟨by kernel_rfl⟩
-- func(impl.Rational) bool
instance:PlainT Tryz.prog 132:=⟨_,Tryz.underlying132,trivial⟩
instance:ElemT Tryz.prog 132 [.nilFunc] 1 8:=⟨by kernel_rfl⟩
-- func(int,int) int
instance:PlainT Tryz.prog 133:=⟨_,Tryz.underlying133,trivial⟩
instance:ElemT Tryz.prog 133 [.nilFunc] 1 8:=⟨by kernel_rfl⟩
-- func(int) impl.BigInt
instance:PlainT Tryz.prog 134:=⟨_,Tryz.underlying134,trivial⟩
instance:ElemT Tryz.prog 134 [.nilFunc] 1 8:=⟨by kernel_rfl⟩
-- func(impl.BigInt,impl.BigInt) (impl.BigInt,bool)
instance:PlainT Tryz.prog 135:=⟨_,Tryz.underlying135,trivial⟩
instance:ElemT Tryz.prog 135 [.nilFunc] 1 8:=⟨by kernel_rfl⟩
-- func(impl.BigInt) bool
instance:PlainT Tryz.prog 136:=⟨_,Tryz.underlying136,trivial⟩
instance:ElemT Tryz.prog 136 [.nilFunc] 1 8:=⟨by kernel_rfl⟩
-- func(impl.Rational,impl.Rational) (impl.Rational,bool)
instance:PlainT Tryz.prog 137:=⟨_,Tryz.underlying137,trivial⟩
instance:ElemT Tryz.prog 137 [.nilFunc] 1 8:=⟨by kernel_rfl⟩
-- func(*spec.l1Cur) impl.Database
instance:PlainT Tryz.prog 138:=⟨_,Tryz.underlying138,trivial⟩
instance:ElemT Tryz.prog 138 [.nilFunc] 1 8:=⟨by kernel_rfl⟩
-- func(impl.Atom) []int
instance:PlainT Tryz.prog 139:=⟨_,Tryz.underlying139,trivial⟩
instance:ElemT Tryz.prog 139 [.nilFunc] 1 8:=⟨by kernel_rfl⟩
-- func(int,[]int) bool
instance:PlainT Tryz.prog 140:=⟨_,Tryz.underlying140,trivial⟩
instance:ElemT Tryz.prog 140 [.nilFunc] 1 8:=⟨by kernel_rfl⟩
-- func([]int,[]int) []int
instance:PlainT Tryz.prog 141:=⟨_,Tryz.underlying141,trivial⟩
instance:ElemT Tryz.prog 141 [.nilFunc] 1 8:=⟨by kernel_rfl⟩
-- func([][]int) [][]int
instance:PlainT Tryz.prog 142:=⟨_,Tryz.underlying142,trivial⟩
instance:ElemT Tryz.prog 142 [.nilFunc] 1 8:=⟨by kernel_rfl⟩
-- struct { Name string;Relation impl.Relation }
instance:AggT Tryz.prog 143 3:=⟨⟨_,Tryz.underlying143,trivial⟩,by kernel_rfl⟩
instance:FldT Tryz.prog 143 0 0:=⟨_,_,Tryz.underlying143,rfl,rfl,by kernel_rfl⟩
instance:FldT Tryz.prog 143 1 1:=⟨_,_,Tryz.underlying143,rfl,rfl,by kernel_rfl⟩
instance:BldT Tryz.prog 143 #[(0,1),(1,2)]:=⟨_,Tryz.underlying143,fun w=>by kernel_rfl⟩
instance:ElemT Tryz.prog 143 [.string ByteArray.empty,.int .i64 0,.slice none 0 0] 3 48:=⟨by kernel_rfl⟩
-- impl.Table
instance:AggT Tryz.prog 144 3:=⟨⟨_,Tryz.underlying144,trivial⟩,by kernel_rfl⟩
instance:FldT Tryz.prog 144 0 0:=⟨_,_,Tryz.underlying144,rfl,rfl,by kernel_rfl⟩
instance:FldT Tryz.prog 144 1 1:=⟨_,_,Tryz.underlying144,rfl,rfl,by kernel_rfl⟩
instance:BldT Tryz.prog 144 #[(0,1),(1,2)]:=⟨_,Tryz.underlying144,fun w=>by kernel_rfl⟩
instance:ElemT Tryz.prog 144 [.string ByteArray.empty,.int .i64 0,.slice none 0 0] 3 48:=⟨by kernel_rfl⟩
-- func(impl.Relation) impl.Relation
instance:PlainT Tryz.prog 145:=⟨_,Tryz.underlying145,trivial⟩
instance:ElemT Tryz.prog 145 [.nilFunc] 1 8:=⟨by kernel_rfl⟩
-- func(impl.Relation) bool
instance:PlainT Tryz.prog 146:=⟨_,Tryz.underlying146,trivial⟩
instance:ElemT Tryz.prog 146 [.nilFunc] 1 8:=⟨by kernel_rfl⟩
-- func([]int) bool
instance:PlainT Tryz.prog 147:=⟨_,Tryz.underlying147,trivial⟩
instance:ElemT Tryz.prog 147 [.nilFunc] 1 8:=⟨by kernel_rfl⟩
-- func(impl.LinearProgram,int) ([]impl.Rational,impl.Rational,bool)
instance:PlainT Tryz.prog 148:=⟨_,Tryz.underlying148,trivial⟩
instance:ElemT Tryz.prog 148 [.nilFunc] 1 8:=⟨by kernel_rfl⟩
-- func(string,int) bool
instance:PlainT Tryz.prog 149:=⟨_,Tryz.underlying149,trivial⟩
instance:ElemT Tryz.prog 149 [.nilFunc] 1 8:=⟨by kernel_rfl⟩
-- func(bool) int
instance:PlainT Tryz.prog 150:=⟨_,Tryz.underlying150,trivial⟩
instance:ElemT Tryz.prog 150 [.nilFunc] 1 8:=⟨by kernel_rfl⟩
-- func([]impl.Rational) bool
instance:PlainT Tryz.prog 151:=⟨_,Tryz.underlying151,trivial⟩
instance:ElemT Tryz.prog 151 [.nilFunc] 1 8:=⟨by kernel_rfl⟩
-- func([]impl.Rational) []impl.Rational
instance:PlainT Tryz.prog 152:=⟨_,Tryz.underlying152,trivial⟩
instance:ElemT Tryz.prog 152 [.nilFunc] 1 8:=⟨by kernel_rfl⟩
-- func(int,[]int)
instance:PlainT Tryz.prog 153:=⟨_,Tryz.underlying153,trivial⟩
instance:ElemT Tryz.prog 153 [.nilFunc] 1 8:=⟨by kernel_rfl⟩
-- func(string) (impl.Query,bool)
instance:PlainT Tryz.prog 155:=⟨_,Tryz.underlying155,trivial⟩
instance:ElemT Tryz.prog 155 [.nilFunc] 1 8:=⟨by kernel_rfl⟩
-- func(*spec.l1Cur) int
instance:PlainT Tryz.prog 156:=⟨_,Tryz.underlying156,trivial⟩
instance:ElemT Tryz.prog 156 [.nilFunc] 1 8:=⟨by kernel_rfl⟩
-- func([][]impl.Rational,int) bool
instance:PlainT Tryz.prog 157:=⟨_,Tryz.underlying157,trivial⟩
instance:ElemT Tryz.prog 157 [.nilFunc] 1 8:=⟨by kernel_rfl⟩
-- func(int) int
instance:PlainT Tryz.prog 158:=⟨_,Tryz.underlying158,trivial⟩
instance:ElemT Tryz.prog 158 [.nilFunc] 1 8:=⟨by kernel_rfl⟩
-- func([]int) (impl.BigInt,bool)
instance:PlainT Tryz.prog 159:=⟨_,Tryz.underlying159,trivial⟩
instance:ElemT Tryz.prog 159 [.nilFunc] 1 8:=⟨by kernel_rfl⟩
-- func(int,int) (impl.Rational,bool)
instance:PlainT Tryz.prog 160:=⟨_,Tryz.underlying160,trivial⟩
instance:ElemT Tryz.prog 160 [.nilFunc] 1 8:=⟨by kernel_rfl⟩
-- func(*spec.l1Cur,int,int,int) impl.Relation
instance:PlainT Tryz.prog 161:=⟨_,Tryz.underlying161,trivial⟩
instance:ElemT Tryz.prog 161 [.nilFunc] 1 8:=⟨by kernel_rfl⟩
-- func(*spec.l1Cur) impl.Relation
instance:PlainT Tryz.prog 162:=⟨_,Tryz.underlying162,trivial⟩
instance:ElemT Tryz.prog 162 [.nilFunc] 1 8:=⟨by kernel_rfl⟩
-- func([]int,[]int) int
instance:PlainT Tryz.prog 163:=⟨_,Tryz.underlying163,trivial⟩
instance:ElemT Tryz.prog 163 [.nilFunc] 1 8:=⟨by kernel_rfl⟩
-- func([]impl.Rational,[]impl.Rational) (impl.Rational,bool)
instance:PlainT Tryz.prog 164:=⟨_,Tryz.underlying164,trivial⟩
instance:ElemT Tryz.prog 164 [.nilFunc] 1 8:=⟨by kernel_rfl⟩
-- func([]impl.Rational,[]impl.Rational,int) bool
instance:PlainT Tryz.prog 165:=⟨_,Tryz.underlying165,trivial⟩
instance:ElemT Tryz.prog 165 [.nilFunc] 1 8:=⟨by kernel_rfl⟩
-- func(string,uint8) []string
instance:PlainT Tryz.prog 166:=⟨_,Tryz.underlying166,trivial⟩
instance:ElemT Tryz.prog 166 [.nilFunc] 1 8:=⟨by kernel_rfl⟩
-- func(string) []int
instance:PlainT Tryz.prog 167:=⟨_,Tryz.underlying167,trivial⟩
instance:ElemT Tryz.prog 167 [.nilFunc] 1 8:=⟨by kernel_rfl⟩
-- func(impl.Query) string
instance:PlainT Tryz.prog 168:=⟨_,Tryz.underlying168,trivial⟩
instance:ElemT Tryz.prog 168 [.nilFunc] 1 8:=⟨by kernel_rfl⟩
-- uint
instance:PlainT Tryz.prog 169:=⟨_,Tryz.underlying169,trivial⟩
instance:ElemT Tryz.prog 169 [.int .u64 0] 1 8:=⟨by kernel_rfl⟩
-- func(*spec.l1Cur,int,int) []int
instance:PlainT Tryz.prog 170:=⟨_,Tryz.underlying170,trivial⟩
instance:ElemT Tryz.prog 170 [.nilFunc] 1 8:=⟨by kernel_rfl⟩
-- func(int,[][]int) bool
instance:PlainT Tryz.prog 171:=⟨_,Tryz.underlying171,trivial⟩
instance:ElemT Tryz.prog 171 [.nilFunc] 1 8:=⟨by kernel_rfl⟩
-- func([]int) string
instance:PlainT Tryz.prog 172:=⟨_,Tryz.underlying172,trivial⟩
instance:ElemT Tryz.prog 172 [.nilFunc] 1 8:=⟨by kernel_rfl⟩
-- func() string
instance:PlainT Tryz.prog 173:=⟨_,Tryz.underlying173,trivial⟩
instance:ElemT Tryz.prog 173 [.nilFunc] 1 8:=⟨by kernel_rfl⟩
-- func() int
instance:PlainT Tryz.prog 179:=⟨_,Tryz.underlying179,trivial⟩
instance:ElemT Tryz.prog 179 [.nilFunc] 1 8:=⟨by kernel_rfl⟩
-- uint32
instance:PlainT Tryz.prog 180:=⟨_,Tryz.underlying180,trivial⟩
instance:ElemT Tryz.prog 180 [.int .u32 0] 1 4:=⟨by kernel_rfl⟩
-- func(unsafe.Pointer,unsafe.Pointer) bool
instance:PlainT Tryz.prog 183:=⟨_,Tryz.underlying183,trivial⟩
instance:ElemT Tryz.prog 183 [.nilFunc] 1 8:=⟨by kernel_rfl⟩
def AL (P:Program) (n:Nat) (ops:Array Oper) (X:List Nat) (C:World->Prop) (K:Env->World->Prop):Nat->Array Bool->Env->World->Prop
 | 0,L,e,w=>Region.ready .any ops L=[]/\K e w
 | f+1,L,e,w=>(Region.ready .any ops L=[]->K e w) /\
  ∀ i∈Region.ready .any ops L,∃ o,ops[i]? = some o/\EL P n ops (fun e' w'=>(X.contains i=true->C w')/\AL P n ops X C K f (L.setIfInBounds i true) e' w') [o] e w

section
variable {P:Program} {n:Nat} {ops:Array Oper} {X:List Nat} {C:World->Prop} {K:Env->World->Prop}
theorem Ht {o:Oper} {a:Act} {w:World} {N N2:Act->World->Prop} {K1 K2:Env->World->Prop} (h:∀ a w,N a w->N2 a w) (hh:o.wp P a w N (nrm n K1)):o.wp P a w N2 (nrm n K2):=by
  unfold Oper.wp at *
  generalize (execOp a.eval o).run P w=r at *
  cases r with
  | ok m w' =>
    cases m <;> simp only [Oper.upon] at hh ⊢ <;>
      first
        | exact h _ _ hh
        | exact Calls.mono hh (fun e w'' he=>by
            cases e with
            | returned v=>exact h _ _ he
            | panicked ch=>exact absurd he.1 (by simp)
            | outgrown=>obtain ⟨_,_,hx,_⟩:=he;exact absurd hx (by simp))
        | exact Rows.mono hh (fun _ _ he=>h _ _ he)
  | halt x w' =>
    cases x <;> simp only [Oper.upon] at hh ⊢
    exact absurd hh.1 (by simp)
theorem Bg {K:Env->World->Prop}:¬ LetsOut (nrm n K):=by
 rintro ⟨_,_,h,_⟩;exact absurd h (by simp)
theorem AL.any:∀ (f:Nat) (L:Array Bool) (e:Env) (a:Act) (w:World),Mt n e a->AL P n ops X C K f L e w->wpAny P .any ops (nrm n K) f L a w
 | 0,_,e,a,_,ha,h=>⟨h.1,rfl,e,ha,h.2⟩
 | f+1,L,e,a,w,ha,h=>by
  refine ⟨fun h0=>⟨rfl,e,ha,h.1 h0⟩,fun i hi=>?_⟩
  obtain ⟨o,ho,hE⟩:=h.2 i hi
  have:=hE a ha
  unfold wpOp
  simp only [ho]
  unfold wpList at this
  have key:∀ a w,wpList P ops (nrm n fun e' w'=>(X.contains i=true->C w')/\AL P n ops X C K f (L.setIfInBounds i true) e' w') [] a w->wpAny P .any ops (nrm n K) f (L.setIfInBounds i true) a w:=by
   rintro a w ⟨_,e',ha',_,h2⟩
   exact AL.any f _ e' a w ha' h2
  split
  ·rename_i hw
   rw [aK hw] at this
   rcases this with h1 | ⟨_,h1⟩
   ·exact .inl (Ht key h1)
   ·exact absurd h1 Bg
  ·rename_i hw
   rw [aS hw] at this
   exact key _ _ this
theorem vm {id:Nat} {l:List Oper} {Q:Exit->Env->World->Prop} {e:Env} {w:World} (X:List Nat) (C:World->Prop) (hm:P.follows .mixedOrders=true)
  (hx:∀ w',Ext w w'->AL P n l.toArray X C (fun e w=>Q .normal e w) l.length (Array.replicate l.length false) e w'):CW P n (.region id l.toArray true) Q e w:=by
 intro a ha
 have h2:=hx { w with drawn:=w.drawn+1 } ⟨rfl,rfl,rfl,bN _,fun _ _=>rfl⟩
 have:=AL.any _ _ _ a _ ha h2
 refine rD (wp_region_any (Q:=nrm n fun e w=>Q .normal e w) hm (by simpa using this)) ?_
 rintro x a w ⟨rfl,e,he,hk⟩
 exact ⟨e,he,hk⟩

def SV (P:Program) (n:Nat) (ops:Array Oper) (C:World->Prop) (o:Oper) (e:Env) (v:Value):Prop :=
 ∀ a,Mt n e a->(Region.wanted o (yielded ops a.tmps)=true/\∀ w',C w'->(execOp a.eval o).run P w'=.ok (.value v) w')\/(Region.wanted o (yielded ops a.tmps)=false/\v=undef)
def sZ (ops:Array Oper) (X:List Nat) (L:Array Bool) (i:Nat) (o:Oper):Bool :=
 (List.range ops.size).all fun j=>Nat.beq j i||L.getD j true||(match ops[j]? with
  | some oj=>oj.after.any (fun e=>Region.binds .any e&&Nat.beq e.on i)||(o.apart ops oj&&X.contains j)
  | none=>true)
theorem pR {L:Array Bool} {i:Nat}:i∈Region.ready .any ops L↔L.getD i true=false/\∃ o,ops[i]? = some o/\∀ e∈o.after,Region.binds .any e=true->L.getD e.on false=true:=by
 unfold Region.ready
 simp only [jn,List.mem_range,ce,wZ]
 constructor
 ·rintro ⟨h1,h2,h3⟩
  refine ⟨h2,ops[i],nY h1,fun e he hb=>?_⟩
  rw [nY h1] at h3
  simp only [Option.map_some,wY,Eg] at h3
  have:=h3 e he
  simpa [hb] using this
 ·rintro ⟨h2,o,h1,h3⟩
  obtain ⟨hlt,rfl⟩:=jk.1 h1
  refine ⟨hlt,h2,?_⟩
  rw [h1]
  simp only [Option.map_some,wY,Eg]
  intro e he
  by_cases hb:Region.binds .any e=true
  ·simp [h3 e he hb]
  ·simp [hb]
theorem rt {L:Array Bool} {i j:Nat} {d:Bool} (h:j≠i):(L.setIfInBounds i true).getD j d=L.getD j d:=by
 simp [Array.getElem?_setIfInBounds_ne (qz h)]
theorem E7 {L:Array Bool} {i j:Nat} (h:L.getD j false=true):(L.setIfInBounds i true).getD j false=true:=by
 by_cases hj:j=i
 ·subst hj
  have:j<L.size:=by
   rcases Nat.lt_or_ge j L.size with h1 | h1
   ·exact h1
   ·simp [Array.getElem?_eq_none h1] at h
  simp [this]
 ·rw [rt hj];exact h
theorem pP {L:Array Bool} {i j:Nat} (hij:j≠i) (h:j∈Region.ready .any ops L):j∈Region.ready .any ops (L.setIfInBounds i true):=by
 obtain ⟨h1,o,h2,h3⟩:=pR.1 h
 exact pR.2 ⟨by rw [rt hij];exact h1,o,h2,fun e he hb=>E7 (h3 e he hb)⟩
theorem set_comm (L:Array Bool) (i j:Nat):(L.setIfInBounds i true).setIfInBounds j true=(L.setIfInBounds j true).setIfInBounds i true:=by
 by_cases h:i=j
 ·subst h;rfl
 ·exact Array.setIfInBounds_comm _ _ h
theorem JG {L:Array Bool} {i j:Nat} {o:Oper} (h:sZ ops X L i o=true):sZ ops X (L.setIfInBounds j true) i o=true:=by
 unfold sZ at *
 rw [df] at *
 intro k hk
 have:=h k hk
 by_cases hkj:k=j
 ·subst hkj
  have:k<ops.size:=by simpa using hk
  by_cases hkl:k<L.size
  ·simp [hkl]
  ·have hn:L[k]? = none:=Array.getElem?_eq_none oa
   simp [hkl]
 ·rw [rt hkj];exact this
def GD (a:Act):Env:=fun t=>a.tmps.getD t undef
theorem Kd {a:Act} (h1:a.tmps.size=n) (h2:a.defers=[]):Mt n (GD a) a:=⟨h1,h2,fun _=>rfl⟩
theorem Mt.uniq {a:Act} {e e':Env} (h:Mt n e a) (h':Mt n e' a):e=e':=by funext t;rw [<- h.get,<- h'.get]
theorem Et (a:Act) (d:Option Nat) (v:Value):(a.put d v).tmps.size=a.tmps.size:=by cases d <;> simp [Act.put]
theorem FH (a:Act) (d:Option Nat) (v:Value):(a.put d v).defers=a.defers:=by cases d <;> rfl
theorem xq {a b:Act} (h:∀ t,a.tmps.getD t undef=b.tmps.getD t undef) (hs:a.tmps.size=b.tmps.size):a.tmps=b.tmps:=by
 apply Array.ext hs
 intro i h1 h2
 have:=h i
 simpa [Array.getD,h1,h2] using this
theorem Ej {o:Oper} {a a':Act} {N N2:Act->World->Prop} {K1 K2:Env->World->Prop} (h:∀ u w,N (a'.put o.dst u) w->N2 (a.put o.dst u) w) (hd:∀ d u w,¬ N (({ a' with defers:=d :: a'.defers }:Act).put o.dst u) w) {r:Result Next}
    (hh:o.upon P a' N (nrm n K1) r):o.upon P a N2 (nrm n K2) r:=by
  cases r with
  | ok m w' =>
    cases m <;> simp only [Oper.upon] at hh ⊢ <;>
      first
        | exact h _ _ hh
        | exact absurd hh (hd _ _ _)
        | exact Calls.mono hh (fun e w'' he=>by
            cases e with
            | returned v=>exact h _ _ he
            | panicked ch=>exact absurd he.1 (by simp)
            | outgrown=>obtain ⟨_,_,hx,_⟩:=he;exact absurd hx (by simp))
        | exact Rows.mono hh (fun _ _ he=>h _ _ he)
  | halt x w' =>
    cases x <;> simp only [Oper.upon] at hh ⊢
    exact absurd hh.1 (by simp)
def nj (ops:Array Oper):Bool:=ops.all fun o=>match o.op with | .select ..=>false | _=>true
theorem wd (h:nj ops=true) {i:Nat} {o:Oper} (hi:ops[i]? = some o):∀ cs b,o.op≠.select cs b:=by
 intro cs b e
 unfold nj at h
 rw [Eg] at h
 have:=h o (Array.mem_of_getElem? hi)
 simp [e] at this
theorem KJ (hsel:nj ops=true) (i:Nat) {o:Oper} {d:Nat} {v:Value} (hi:ops[i]? = some o) (hdst:o.dst=some d) (hdn:d<n) :
  ∀ (f:Nat) (L:Array Bool) (e:Env) (w:World),C w->sZ ops X L i o=true->i∈Region.ready .any ops L->SV P n ops C o e v->AL P n ops X C K f (L.setIfInBounds i true) (upd e d v) w->AL P n ops X C K (f+1) L e w:=by
 intro f
 induction f with
 | zero =>
  intro L e w hC hf hr hy H
  refine ⟨fun h=>(by rw [h] at hr;cases hr),fun j hj=>?_⟩
  by_cases hji:j=i
  ·subst hji
   refine ⟨o,hi,fun a ha=>?_⟩
   unfold wpList
   rcases hy a ha with ⟨hw,hv⟩ | ⟨hw,rfl⟩
   ·rw [aK hw]
    refine .inl ?_
    unfold Oper.wp
    rw [hv w hC]
    simp only [Oper.upon,hdst]
    exact ⟨rfl,_,ha.put hdn v,fun _=>hC,H⟩
   ·rw [aS (by simp [hw])]
    rw [hdst]
    exact ⟨rfl,_,ha.put hdn _,fun _=>hC,H⟩
  ·have:=pP (i:=i) hji hj
   rw [H.1] at this;cases this
 | succ f ih =>
  intro L e w hC hf hr hy H
  refine ⟨fun h=>(by rw [h] at hr;cases hr),fun j hj=>?_⟩
  by_cases hji:j=i
  ·subst hji
   refine ⟨o,hi,fun a ha=>?_⟩
   unfold wpList
   rcases hy a ha with ⟨hw,hv⟩ | ⟨hw,rfl⟩
   ·rw [aK hw]
    refine .inl ?_
    unfold Oper.wp
    rw [hv w hC]
    simp only [Oper.upon,hdst]
    exact ⟨rfl,_,ha.put hdn v,fun _=>hC,H⟩
   ·rw [aS (by simp [hw])]
    rw [hdst]
    exact ⟨rfl,_,ha.put hdn _,fun _=>hC,H⟩
  ·obtain ⟨oj,hoj,hE⟩:=H.2 j (pP hji hj)
   have hjL:=(pR.1 hj)
   have hiL:=(pR.1 hr)
   have hap:o.apart ops oj=true/\X.contains j=true:=by
    have h1:=hf
    unfold sZ at h1
    rw [df] at h1
    have h2:=h1 j (by simp [(jk.1 hoj).1])
    have hb:Nat.beq j i=false:=vw hji
    simp only [hb,hjL.1,hoj,tP,rQ,ce] at h2
    rcases h2 with h2 | h2
    ·exfalso
     obtain ⟨_,h3,h4⟩:=hjL.2
     rw [hoj] at h3;obtain rfl:=bL h3
     rw [Array.any_eq_true'] at h2
     obtain ⟨ed,hm,h5⟩:=h2
     simp only [ce] at h5
     have h6:=h4 ed hm h5.1
     have h7:ed.on=i:=tv h5.2
     rw [h7] at h6
     have:=hiL.1
     cases hx:L[i]? with
     | none=>simp [vk,hx] at this
     | some b=>simp [vk,hx] at this h6;simp [this] at h6
    ·exact h2
   obtain ⟨h1,h2,h3⟩:=Oper.apart_spec hap.1
   have hso:=wd hsel hi
   have hsj:=wd hsel hoj
   refine ⟨oj,hoj,fun a ha=>?_⟩
   have h4:=hE _ (ha.put hdn v)
   have key:∀ u w',nrm n (fun e' w'=>(X.contains j=true->C w')/\AL P n ops X C K f ((L.setIfInBounds i true).setIfInBounds j true) e' w') .normal ((a.put (some d) v).put oj.dst u) w' ->
     nrm n (fun e' w'=>(X.contains j=true->C w')/\AL P n ops X C K (f+1) (L.setIfInBounds j true) e' w') .normal (a.put oj.dst u) w':=by
    rintro u w' ⟨_,e1,he1,hc1,hA1⟩
    have hm2:Mt n (GD (a.put oj.dst u)) (a.put oj.dst u):=Kd (by rw [Et,ha.size]) (by rw [FH,ha.defers])
    have hcm:(a.put (some d) v).put oj.dst u=(a.put oj.dst u).put (some d) v:=Act.put_comm a v u (fun x hx=>by
     have:=h2 d hdst
     simp only [qp] at hx;subst hx;exact this)
    rw [hcm] at he1
    obtain rfl:=he1.uniq (hm2.put hdn v)
    refine ⟨rfl,_,hm2,hc1,ih _ _ _ (hc1 hap.2) (JG hf) (pP (qz hji) hr) ?_ (by rw [<- set_comm];exact hA1)⟩
    intro b hb
    have hbt:b.tmps=(a.put oj.dst u).tmps:=xq (fun t=>by rw [hb.get t];rfl) (by rw [hb.size,hm2.size])
    have hbe:b.eval=(a.put oj.dst u).eval:=by rw [hb.eval,hm2.eval]
    rw [hbt,hbe,execOp_put o hso a oj.dst u h3,wanted_put o a oj.dst u h3]
    exact hy a ha
   unfold wpList at h4 ⊢
   have hwe:=wanted_put (ops:=ops) oj a (some d) v (fun x hx=>by simp only [qp] at hx;subst hx;exact h1 d hdst)
   have hxe:=execOp_put oj hsj a (some d) v (fun x hx=>by simp only [qp] at hx;subst hx;exact h1 d hdst)
   rw [hwe] at h4
   split
   ·rename_i hw
    rw [aK hw] at h4
    rcases h4 with h5 | ⟨_,h5⟩
    ·refine .inl ?_
     unfold Oper.wp at h5 ⊢
     rw [hxe] at h5
     refine Ej key ?_ h5
     rintro dd u w' ⟨_,e1,he1,_⟩
     have:=he1.defers
     cases hdj:oj.dst <;> simp [Act.put,hdj] at this
    ·exact absurd h5 Bg
   ·rename_i hw
    rw [aS hw] at h4
    exact key _ _ h4
def rr (ops:Array Oper) (X T:List Nat) (L:Array Bool) (i:Nat) (o:Oper):Bool :=
 (List.range ops.size).all fun j=>Nat.beq j i||(match ops[j]? with
  | some oj=>if T.contains j then !L.getD j true&&oj.after.any (fun e=>Region.binds .any e&&Nat.blt e.on ops.size&&(Nat.beq e.on i||T.contains e.on)) else L.getD j true||(o.apart ops oj&&X.contains j)
  | none=>true)
theorem IV {T:List Nat} {L:Array Bool} {i j:Nat} {o:Oper} (hT:T.contains j=false) (h:rr ops X T L i o=true):rr ops X T (L.setIfInBounds j true) i o=true:=by
 unfold rr at *
 rw [df] at *
 intro k hk
 have:=h k hk
 by_cases hkj:k=j
 ·subst hkj
  have hlt:k<ops.size:=by simpa using hk
  rw [nY hlt]
  dsimp only
  rw [hT,aS (by decide),rQ]
  refine .inr ?_
  by_cases hkl:k<L.size
  ·simp [hkl]
  ·have hn:L[k]? = none:=Array.getElem?_eq_none oa
   simp [hkl]
 ·rw [rt hkj];exact this
theorem JW (T:List Nat) (hsel:nj ops=true) (i:Nat) {o:Oper} {d:Nat} {v:Value} (hi:ops[i]? = some o) (hdst:o.dst=some d) (hdn:d<n) :
  ∀ (f:Nat) (L:Array Bool) (e:Env) (w:World),C w->rr ops X T L i o=true->i∈Region.ready .any ops L->SV P n ops C o e v->AL P n ops X C K f (L.setIfInBounds i true) (upd e d v) w->AL P n ops X C K (f+1) L e w:=by
 intro f
 induction f with
 | zero =>
  intro L e w hC hf hr hy H
  refine ⟨fun h=>(by rw [h] at hr;cases hr),fun j hj=>?_⟩
  by_cases hji:j=i
  ·subst hji
   refine ⟨o,hi,fun a ha=>?_⟩
   unfold wpList
   rcases hy a ha with ⟨hw,hv⟩ | ⟨hw,rfl⟩
   ·rw [aK hw]
    refine .inl ?_
    unfold Oper.wp
    rw [hv w hC]
    simp only [Oper.upon,hdst]
    exact ⟨rfl,_,ha.put hdn v,fun _=>hC,H⟩
   ·rw [aS (by simp [hw])]
    rw [hdst]
    exact ⟨rfl,_,ha.put hdn _,fun _=>hC,H⟩
  ·have:=pP (i:=i) hji hj
   rw [H.1] at this;cases this
 | succ f ih =>
  intro L e w hC hf hr hy H
  refine ⟨fun h=>(by rw [h] at hr;cases hr),fun j hj=>?_⟩
  by_cases hji:j=i
  ·subst hji
   refine ⟨o,hi,fun a ha=>?_⟩
   unfold wpList
   rcases hy a ha with ⟨hw,hv⟩ | ⟨hw,rfl⟩
   ·rw [aK hw]
    refine .inl ?_
    unfold Oper.wp
    rw [hv w hC]
    simp only [Oper.upon,hdst]
    exact ⟨rfl,_,ha.put hdn v,fun _=>hC,H⟩
   ·rw [aS (by simp [hw])]
    rw [hdst]
    exact ⟨rfl,_,ha.put hdn _,fun _=>hC,H⟩
  ·obtain ⟨oj,hoj,hE⟩:=H.2 j (pP hji hj)
   have hjL:=(pR.1 hj)
   have hiL:=(pR.1 hr)
   have hpend:L.getD i false≠true:=fun h6=>by
    have:=hiL.1
    cases hx:L[i]? with
    | none=>simp [vk,hx] at this
    | some b=>simp [vk,hx] at this h6;simp [this] at h6
   have hap:T.contains j=false/\o.apart ops oj=true/\X.contains j=true:=by
    have h1:=hf
    unfold rr at h1
    rw [df] at h1
    have h2:=h1 j (by simp [(jk.1 hoj).1])
    have hb:Nat.beq j i=false:=vw hji
    rw [hb,tP,hoj] at h2
    dsimp only at h2
    cases hT:T.contains j with
    | true =>
     exfalso
     rw [hT,aK rfl,ce] at h2
     obtain ⟨_,h3,h4⟩:=hjL.2
     rw [hoj] at h3;obtain rfl:=bL h3
     have h2':=h2.2
     rw [Array.any_eq_true'] at h2'
     obtain ⟨ed,hm,h5⟩:=h2'
     rw [ce,ce,rQ] at h5
     have h6:=h4 ed hm h5.1.1
     rcases h5.2 with h7 | h7
     ·rw [tv h7] at h6;exact hpend h6
     ·have hlt:ed.on<ops.size:=by simpa using h5.1.2
      have h8:=h1 ed.on (by simpa using hlt)
      rw [nY hlt] at h8
      dsimp only at h8
      rw [aK h7,rQ,ce] at h8
      rcases h8 with h8 | ⟨h8,_⟩
      ·rw [tv h8] at h6;exact hpend h6
      ·cases hx:L[ed.on]? with
       | none=>simp [vk,hx] at h6
       | some b=>simp [vk,hx] at h8 h6;simp [h6] at h8
    | false =>
     rw [hT,aS (by decide),rQ,ce] at h2
     rcases h2 with h2 | h2
     ·rw [hjL.1] at h2;cases h2
     ·exact ⟨rfl,h2⟩
   obtain ⟨h1,h2,h3⟩:=Oper.apart_spec hap.2.1
   have hso:=wd hsel hi
   have hsj:=wd hsel hoj
   refine ⟨oj,hoj,fun a ha=>?_⟩
   have h4:=hE _ (ha.put hdn v)
   have key:∀ u w',nrm n (fun e' w'=>(X.contains j=true->C w')/\AL P n ops X C K f ((L.setIfInBounds i true).setIfInBounds j true) e' w') .normal ((a.put (some d) v).put oj.dst u) w' ->
     nrm n (fun e' w'=>(X.contains j=true->C w')/\AL P n ops X C K (f+1) (L.setIfInBounds j true) e' w') .normal (a.put oj.dst u) w':=by
    rintro u w' ⟨_,e1,he1,hc1,hA1⟩
    have hm2:Mt n (GD (a.put oj.dst u)) (a.put oj.dst u):=Kd (by rw [Et,ha.size]) (by rw [FH,ha.defers])
    have hcm:(a.put (some d) v).put oj.dst u=(a.put oj.dst u).put (some d) v:=Act.put_comm a v u (fun x hx=>by
     have:=h2 d hdst
     simp only [qp] at hx;subst hx;exact this)
    rw [hcm] at he1
    obtain rfl:=he1.uniq (hm2.put hdn v)
    refine ⟨rfl,_,hm2,hc1,ih _ _ _ (hc1 hap.2.2) (IV hap.1 hf) (pP (qz hji) hr) ?_ (by rw [<- set_comm];exact hA1)⟩
    intro b hb
    have hbt:b.tmps=(a.put oj.dst u).tmps:=xq (fun t=>by rw [hb.get t];rfl) (by rw [hb.size,hm2.size])
    have hbe:b.eval=(a.put oj.dst u).eval:=by rw [hb.eval,hm2.eval]
    rw [hbt,hbe,execOp_put o hso a oj.dst u h3,wanted_put o a oj.dst u h3]
    exact hy a ha
   unfold wpList at h4 ⊢
   have hwe:=wanted_put (ops:=ops) oj a (some d) v (fun x hx=>by simp only [qp] at hx;subst hx;exact h1 d hdst)
   have hxe:=execOp_put oj hsj a (some d) v (fun x hx=>by simp only [qp] at hx;subst hx;exact h1 d hdst)
   rw [hwe] at h4
   split
   ·rename_i hw
    rw [aK hw] at h4
    rcases h4 with h5 | ⟨_,h5⟩
    ·refine .inl ?_
     unfold Oper.wp at h5 ⊢
     rw [hxe] at h5
     refine Ej key ?_ h5
     rintro dd u w' ⟨_,e1,he1,_⟩
     have:=he1.defers
     cases hdj:oj.dst <;> simp [Act.put,hdj] at this
    ·exact absurd h5 Bg
   ·rename_i hw
    rw [aS hw] at h4
    exact key _ _ h4
theorem kH (T:List Nat) (hsel:nj ops=true) (i:Nat) {o:Oper} {d:Nat} {v:Value} {f:Nat} {L:Array Bool} {e:Env} {w:World} (hi:ops[i]? = some o) (hdst:o.dst=some d) (hdn:d<n) (hC:C w) (hf:rr ops X T L i o=true) (hr:(Region.ready .any ops L).contains i=true)
  (hy:SV P n ops C o e v) (hK:AL P n ops X C K f (L.setIfInBounds i true) (upd e d v) w):AL P n ops X C K (f+1) L e w :=
 JW T hsel i hi hdst hdn f L e w hC hf (by simpa using hr) hy hK
theorem aZ (T:List Nat) (i:Nat) {o:Oper} {d:Nat} {v:Value} {f:Nat} {L:Array Bool} {e:Env} {w:World} (hi:ops[i]? = some o) (hdst:o.dst=some d) (hy:SV P n ops C o e v) (hK:AL P n ops X C K f (L.setIfInBounds i true) (upd e d v) w) (hsel:nj ops=true:=by kernel_rfl) (hdn:d<n:=by exact dt) (hC:C w:=by exact rfl) (hf:rr ops X T L i o=true:=by kernel_rfl) (hr:(Region.ready .any ops L).contains i=true:=by kernel_rfl):AL P n ops X C K (f+1) L e w:=kH T hsel i hi hdst hdn hC hf hr hy hK
theorem M1 {f:Nat} {L:Array Bool} {e:Env} {w:World} (h:Region.ready .any ops L=[]) (hK:K e w):AL P n ops X C K f L e w:=by
 cases f with
 | zero=>exact ⟨h,hK⟩
 | succ f=>exact ⟨fun _=>hK,fun i hi=>by rw [h] at hi;cases hi⟩
theorem bO {f:Nat} {L:Array Bool} {e:Env} {w:World} (hK:K e w) (h:Region.ready .any ops L=[]:=by kernel_rfl):AL P n ops X C K f L e w:=M1 h hK
theorem Mz (i:Nat) {f:Nat} {L:Array Bool} {e:Env} {w:World} {o:Oper} (hr:Region.ready .any ops L=[i]) (ho:ops[i]? = some o)
  (h:EL P n ops (fun e' w'=>(X.contains i=true->C w')/\AL P n ops X C K f (L.setIfInBounds i true) e' w') [o] e w):AL P n ops X C K (f+1) L e w :=
 ⟨fun h0=>(by rw [hr] at h0;cases h0),fun j hj=>by
  rw [hr] at hj
  have e:j=i:=by simpa using hj
  rw [e]
  exact ⟨o,ho,h⟩⟩
theorem j6 {o:Oper} {e:Env} {v:Value} (hg:o.guard=none) (h:∀ w',C w'->PV P o e w' v):SV P n ops C o e v:=fun a ha=>.inl ⟨by simp [Region.wanted,hg],fun w' hw'=>by rw [ha.eval];exact h w' hw' w' (Ext.refl _)⟩
theorem I0 {dst:Option Nat} {op:Op} {ty:TypeId} {pos:String} {af:Array Edge} {j:Nat} {b c:Bool} {e:Env} {v:Value} (hy:yld ops e j=some c) (hc:c=b) (h:∀ w',C w'->PV P ⟨dst,op,ty,pos,af,none⟩ e w' v):SV P n ops C ⟨dst,op,ty,pos,af,some (j,b)⟩ e v:=fun a ha=>.inl ⟨by simp [Region.wanted,oS ha hy,hc],fun w' hw'=>by
 rw [ha.eval]
 exact h w' hw' w' (Ext.refl _)⟩
theorem iu {dst:Option Nat} {op:Op} {ty:TypeId} {pos:String} {af:Array Edge} {j:Nat} {b b' c:Bool} {e:Env} (hy:yld ops e j=some c) (hc:c=b) (hb:(b == b')=false):SV P n ops C ⟨dst,op,ty,pos,af,some (j,b')⟩ e undef:=fun a ha=>.inr ⟨by simp [Region.wanted,oS ha hy,hc];simpa using hb,rfl⟩
theorem cn {dst:Option Nat} {op:Op} {ty:TypeId} {pos:String} {af:Array Edge} {j:Nat} {b b' c:Bool} {e:Env} (hc:c=b) (hy:yld ops e j=some c:=by exact rfl) (hb:(b == b')=false:=by exact rfl):SV P n ops C ⟨dst,op,ty,pos,af,some (j,b')⟩ e undef:=iu hy hc hb
theorem GR (hsel:nj ops=true) (i:Nat) {o:Oper} {d:Nat} {v:Value} {f:Nat} {L:Array Bool} {e:Env} {w:World} (hi:ops[i]? = some o) (hdst:o.dst=some d) (hdn:d<n) (hC:C w) (hf:sZ ops X L i o=true) (hr:(Region.ready .any ops L).contains i=true)
  (hy:SV P n ops C o e v) (hK:AL P n ops X C K f (L.setIfInBounds i true) (upd e d v) w):AL P n ops X C K (f+1) L e w :=
 KJ hsel i hi hdst hdn f L e w hC hf (by simpa using hr) hy hK
section
variable {wA:World} {v:Value} {d:Nat} {ty:TypeId} {pos:String} {af:Array Edge} {x y:Operand} {α:Type} {R:Rep α} {E E':TypeId} {f:Nat} {L:Array Bool} {e:Env} {w:World}
theorem kJ (hsel:nj ops=true) (i:Nat) {t:TypeId} [SliceT P t E'] {zz:List Value} {m yO:Nat} [ElemT P E' zz m yO] {xs:List α} (hi':ops[i]? = some ⟨some d,.indexAddr t x y,ty,pos,af,none⟩) (hC:C w) (hf:sZ ops X L i ⟨some d,.indexAddr t x y,ty,pos,af,none⟩=true) (hrd:(Region.ready .any ops L).contains i=true)
  (hs:ev e x=v) (hr:(aG R E).rd wA [v] xs) (hn:R.sz=m) (hpos:0<m) {k:IntKind} {j:Int} (hi:ev e y=.int k j) {u:α} (h:ix xs j=some u) (hd:d<n)
  (hK:∀ b off ec,R.rd wA ec u->(∀ j c,ec[j]? = some c->wA.cell? ⟨b,off+j,none⟩=some c)->AL P n ops X C K f (L.setIfInBounds i true) (upd e d (.pointer (some ⟨b,off,none⟩))) w):AL P n ops X C K (f+1) L e w:=by
 obtain ⟨b,off,ec,h1,h2,h3⟩:=wh (P:=P) (d:=some d) (ty:=ty) (pos:=pos) (af:=af) (t:=t) hs hr hn hpos hi h
 exact GR hsel i hi' rfl hd hC hf hrd (j6 rfl fun w' _=>h3 w') (hK b off ec h1 h2)
theorem Eh (hsel:nj ops=true) (i:Nat) {t:TypeId} {lo hi:Option Operand} [SliceT P t E'] {z:List Value} {m yO:Nat} [ElemT P E' z m yO] (hi':ops[i]? = some ⟨some d,.slice t x lo hi none,ty,pos,af,none⟩) (hC:C w) (hf:sZ ops X L i ⟨some d,.slice t x lo hi none,ty,pos,af,none⟩=true) (hrd:(Region.ready .any ops L).contains i=true) (hn:R.sz=m)
  (hx:ev e x=v) {xs ys:List α} (hr:(aG R E).rd wA [v] xs) {l h:Int} (hlo:(lo.map (ev e)=some (.int .i64 l))\/(lo=none/\l=0)) (hhi:(hi.map (ev e)=some (.int .i64 h))\/(hi=none/\h=xs.length)) (hq:slc xs l h=some ys) (hd:d<n)
  (hK:∀ v',(aG R E).rd wA [v'] ys->AL P n ops X C K f (L.setIfInBounds i true) (upd e d v') w):AL P n ops X C K (f+1) L e w:=by
 obtain ⟨v',h1,h2⟩:=Aa (P:=P) (d:=some d) (ty:=ty) (pos:=pos) (af:=af) (t:=t) hn hx hr hlo hhi hq
 exact GR hsel i hi' rfl hd hC hf hrd (j6 rfl fun w' _=>h2 w') (hK v' h1)
end
end
class FlatR {α:Type} (R:Rep α) (f:outParam (α->Value)):Prop where
 h:∀ {w:World} {cs:List Value} {x:α},R.rd w cs x->cs=[f x]
instance:FlatR cA (Value.int .i64):=⟨fun h=>h⟩
instance:FlatR u8R (Value.int .u8):=⟨fun h=>h⟩
instance:FlatR tY Value.bool:=⟨fun h=>h⟩
section
variable {P:Program} {n:Nat} {ops:Array Oper} {K:Env->World->Prop} {KQ:Env->Prop} {rest:List Oper} {e:Env} {w w0:World} {v:Value} {d:Nat} {ty:TypeId} {pos:String} {af:Array Edge} {Γ:List Asn} {x y:Operand} {α:Type} {R:Rep α} {E:TypeId} {f:α->Value}
theorem Sat.zI (i:Nat) [hf:FlatR R f] {xs:List α} (hS:Sat w0 w Γ) (hi:Γ[i]? = some (Own (aG R E) [v] xs)) {g cap ln:Nat} (hv:v=.slice (some ⟨g,0,none⟩) ln cap) {j:Int} {u:α} (h:ix xs j=some u):w.cell? ⟨g,j.toNat*1,none⟩=some (f u):=by
 obtain ⟨k,rfl,hk,rfl⟩:=gq h
 obtain ⟨fp,ho,_⟩:=(hS.top i hi).head
 rcases ho with ⟨_,h2,_⟩ | ⟨g',cap',cur,ccs,f2,hv',hg,h1,h2,h3,h4,h5,rfl⟩
 ·subst h2;simp at hk
 subst hv
 simp at hv'
 obtain ⟨rfl,rfl,rfl⟩:=hv'
 obtain ⟨ec,hec,hcc⟩:=sc (i4 h5) k hk
 obtain rfl:=hf.h hec
 have hsz:R.sz=1:=by have:=R.rd_len hec;simpa using this.symm
 have h0:=hcc 0 _ rfl
 rw [kZ w g _ cur E (0,0) hg,<- mr]
 rw [<- h4,jr] at h0
 simp only [eJ]
 rw [hsz] at h0
 split at h0
 ·simpa using h0
 ·cases h0
theorem gw (i:Nat) {xs:List α} (hS:Sat w0 w Γ) (hi:Γ[i]? = some (Own (aG R E) [v] xs)) {j:Int} {u:α} (h:ix xs j=some u):∃ g cap,v=.slice (some ⟨g,0,none⟩) xs.length cap:=by
 obtain ⟨k,rfl,hk,rfl⟩:=gq h
 rcases (hS.top i hi).shape with ⟨_,h2⟩ | ⟨g,cap,h⟩
 ·subst h2;simp at hk
 ·exact ⟨g,cap,h⟩
theorem fE {d:Option Nat} {t:TypeId} [ht:SliceT P t E] {zz:List Value} {yO:Nat} [hz:ElemT P E zz 1 yO] {xs:List α} (hs:ev e x=v) {g cap:Nat} (hv:v=.slice (some ⟨g,0,none⟩) xs.length cap) {k:IntKind} {j:Int} (hi:ev e y=.int k j) {u:α} (h:ix xs j=some u) :
  PV P ⟨d,.indexAddr t x y,ty,pos,af,none⟩ e w (.pointer (some ⟨g,j.toNat*1,none⟩)):=fun w' _=>by
 obtain ⟨k',rfl,hk,rfl⟩:=gq h
 subst hv
 have hz:=hz.h
 cases hq:P.info? E with
 | none=>simp [hq] at hz
 | some inf =>
  simp [hq] at hz
  have hsz:inf.size=1:=hz.2.1
  unfold execOp
  simp [hs,hi,Instr.indexAt,asIntOf,fY ht.h,sizeOf,typeInfo,hq,hk,jK,hsz]
end
theorem IP:Goes Tryz.prog 10:=⟨_,Tryz.func10,by kernel_rfl,by kernel_rfl⟩
theorem MF:Goes Tryz.prog 18:=⟨_,Tryz.func18,by kernel_rfl,by kernel_rfl⟩
theorem MP:Goes Tryz.prog 23:=⟨_,Tryz.func23,by kernel_rfl,by kernel_rfl⟩
theorem Mx:Goes Tryz.prog 25:=⟨_,Tryz.func25,by kernel_rfl,by kernel_rfl⟩
theorem MN:Goes Tryz.prog 26:=⟨_,Tryz.func26,by kernel_rfl,by kernel_rfl⟩
theorem If:Goes Tryz.prog 27:=⟨_,Tryz.func27,by kernel_rfl,by kernel_rfl⟩
theorem Mf:Goes Tryz.prog 28:=⟨_,Tryz.func28,by kernel_rfl,by kernel_rfl⟩
theorem Nx:Goes Tryz.prog 29:=⟨_,Tryz.func29,by kernel_rfl,by kernel_rfl⟩
theorem MK:Goes Tryz.prog 30:=⟨_,Tryz.func30,by kernel_rfl,by kernel_rfl⟩
theorem Dq:Goes Tryz.prog 31:=⟨_,Tryz.func31,by kernel_rfl,by kernel_rfl⟩
theorem DF:Goes Tryz.prog 32:=⟨_,Tryz.func32,by kernel_rfl,by kernel_rfl⟩
theorem mW:Goes Tryz.prog 35:=⟨_,Tryz.func35,by kernel_rfl,by kernel_rfl⟩
theorem As:Goes Tryz.prog 38:=⟨_,Tryz.func38,by kernel_rfl,by kernel_rfl⟩
theorem ki:Goes Tryz.prog 39:=⟨_,Tryz.func39,by kernel_rfl,by kernel_rfl⟩
theorem IK:Goes Tryz.prog 40:=⟨_,Tryz.func40,by kernel_rfl,by kernel_rfl⟩
theorem M7:Goes Tryz.prog 41:=⟨_,Tryz.func41,by kernel_rfl,by kernel_rfl⟩
theorem MW:Goes Tryz.prog 45:=⟨_,Tryz.func45,by kernel_rfl,by kernel_rfl⟩
theorem Me:Goes Tryz.prog 46:=⟨_,Tryz.func46,by kernel_rfl,by kernel_rfl⟩
theorem D5:Goes Tryz.prog 48:=⟨_,Tryz.func48,by kernel_rfl,by kernel_rfl⟩
theorem vu:Goes Tryz.prog 49:=⟨_,Tryz.func49,by kernel_rfl,by kernel_rfl⟩
theorem DQ:Goes Tryz.prog 50:=⟨_,Tryz.func50,by kernel_rfl,by kernel_rfl⟩
theorem M3:Goes Tryz.prog 51:=⟨_,Tryz.func51,by kernel_rfl,by kernel_rfl⟩
theorem Dw:Goes Tryz.prog 54:=⟨_,Tryz.func54,by kernel_rfl,by kernel_rfl⟩
theorem DU:Goes Tryz.prog 55:=⟨_,Tryz.func55,by kernel_rfl,by kernel_rfl⟩
theorem HS:Goes Tryz.prog 56:=⟨_,Tryz.func56,by kernel_rfl,by kernel_rfl⟩
theorem H2:Goes Tryz.prog 57:=⟨_,Tryz.func57,by kernel_rfl,by kernel_rfl⟩
theorem Na:Goes Tryz.prog 61:=⟨_,Tryz.func61,by kernel_rfl,by kernel_rfl⟩
theorem Mh:Goes Tryz.prog 62:=⟨_,Tryz.func62,by kernel_rfl,by kernel_rfl⟩
theorem Nf:Goes Tryz.prog 63:=⟨_,Tryz.func63,by kernel_rfl,by kernel_rfl⟩
theorem Ay:Goes Tryz.prog 64:=⟨_,Tryz.func64,by kernel_rfl,by kernel_rfl⟩
theorem Ho:Goes Tryz.prog 65:=⟨_,Tryz.func65,by kernel_rfl,by kernel_rfl⟩
theorem A1:Goes Tryz.prog 66:=⟨_,Tryz.func66,by kernel_rfl,by kernel_rfl⟩
theorem AG:Goes Tryz.prog 67:=⟨_,Tryz.func67,by kernel_rfl,by kernel_rfl⟩
theorem NE:Goes Tryz.prog 68:=⟨_,Tryz.func68,by kernel_rfl,by kernel_rfl⟩
theorem NA:Goes Tryz.prog 69:=⟨_,Tryz.func69,by kernel_rfl,by kernel_rfl⟩
theorem Np:Goes Tryz.prog 70:=⟨_,Tryz.func70,by kernel_rfl,by kernel_rfl⟩
theorem ML:Goes Tryz.prog 71:=⟨_,Tryz.func71,by kernel_rfl,by kernel_rfl⟩
theorem DY:Goes Tryz.prog 72:=⟨_,Tryz.func72,by kernel_rfl,by kernel_rfl⟩
theorem Nu:Goes Tryz.prog 73:=⟨_,Tryz.func73,by kernel_rfl,by kernel_rfl⟩
theorem MS:Goes Tryz.prog 76:=⟨_,Tryz.func76,by kernel_rfl,by kernel_rfl⟩
theorem Iz:Goes Tryz.prog 77:=⟨_,Tryz.func77,by kernel_rfl,by kernel_rfl⟩
theorem M2:Goes Tryz.prog 78:=⟨_,Tryz.func78,by kernel_rfl,by kernel_rfl⟩
theorem M6:Goes Tryz.prog 79:=⟨_,Tryz.func79,by kernel_rfl,by kernel_rfl⟩
theorem Di:Goes Tryz.prog 80:=⟨_,Tryz.func80,by kernel_rfl,by kernel_rfl⟩
theorem Ig:Goes Tryz.prog 81:=⟨_,Tryz.func81,by kernel_rfl,by kernel_rfl⟩
theorem Hq:Goes Tryz.prog 84:=⟨_,Tryz.func84,by kernel_rfl,by kernel_rfl⟩
theorem ke:Goes Tryz.prog 85:=⟨_,Tryz.func85,by kernel_rfl,by kernel_rfl⟩
theorem wS:Goes Tryz.prog 86:=⟨_,Tryz.func86,by kernel_rfl,by kernel_rfl⟩
theorem Iv:Goes Tryz.prog 87:=⟨_,Tryz.func87,by kernel_rfl,by kernel_rfl⟩
theorem Nd:Goes Tryz.prog 88:=⟨_,Tryz.func88,by kernel_rfl,by kernel_rfl⟩
theorem uG:Goes Tryz.prog 93:=⟨_,Tryz.func93,by kernel_rfl,by kernel_rfl⟩
theorem A0:Goes Tryz.prog 94:=⟨_,Tryz.func94,by kernel_rfl,by kernel_rfl⟩
theorem Bf:Goes Tryz.prog 95:=⟨_,Tryz.func95,by kernel_rfl,by kernel_rfl⟩
theorem Bh:Goes Tryz.prog 96:=⟨_,Tryz.func96,by kernel_rfl,by kernel_rfl⟩
theorem xh:Goes Tryz.prog 97:=⟨_,Tryz.func97,by kernel_rfl,by kernel_rfl⟩
theorem Ar:Goes Tryz.prog 98:=⟨_,Tryz.func98,by kernel_rfl,by kernel_rfl⟩
theorem uH:Goes Tryz.prog 99:=⟨_,Tryz.func99,by kernel_rfl,by kernel_rfl⟩
theorem LE:Goes Tryz.prog 100:=⟨_,Tryz.func100,by kernel_rfl,by kernel_rfl⟩
theorem FZ:Goes Tryz.prog 102:=⟨_,Tryz.func102,by kernel_rfl,by kernel_rfl⟩
theorem Lq:Goes Tryz.prog 103:=⟨_,Tryz.func103,by kernel_rfl,by kernel_rfl⟩
theorem Gd:Goes Tryz.prog 104:=⟨_,Tryz.func104,by kernel_rfl,by kernel_rfl⟩
theorem Fr:Goes Tryz.prog 105:=⟨_,Tryz.func105,by kernel_rfl,by kernel_rfl⟩
theorem L4:Goes Tryz.prog 106:=⟨_,Tryz.func106,by kernel_rfl,by kernel_rfl⟩
theorem Kx:Goes Tryz.prog 107:=⟨_,Tryz.func107,by kernel_rfl,by kernel_rfl⟩
theorem F5:Goes Tryz.prog 108:=⟨_,Tryz.func108,by kernel_rfl,by kernel_rfl⟩
theorem Kq:Goes Tryz.prog 109:=⟨_,Tryz.func109,by kernel_rfl,by kernel_rfl⟩
theorem BB:Goes Tryz.prog 110:=⟨_,Tryz.func110,by kernel_rfl,by kernel_rfl⟩
theorem Gh:Goes Tryz.prog 111:=⟨_,Tryz.func111,by kernel_rfl,by kernel_rfl⟩
theorem BN:Goes Tryz.prog 112:=⟨_,Tryz.func112,by kernel_rfl,by kernel_rfl⟩
theorem Fs:Goes Tryz.prog 113:=⟨_,Tryz.func113,by kernel_rfl,by kernel_rfl⟩
theorem B6:Goes Tryz.prog 114:=⟨_,Tryz.func114,by kernel_rfl,by kernel_rfl⟩
theorem KR:Goes Tryz.prog 115:=⟨_,Tryz.func115,by kernel_rfl,by kernel_rfl⟩
theorem Gc:Goes Tryz.prog 116:=⟨_,Tryz.func116,by kernel_rfl,by kernel_rfl⟩
theorem xY:Goes Tryz.prog 117:=⟨_,Tryz.func117,by kernel_rfl,by kernel_rfl⟩
theorem ye:Goes Tryz.prog 118:=⟨_,Tryz.func118,by kernel_rfl,by kernel_rfl⟩
theorem yi:Goes Tryz.prog 119:=⟨_,Tryz.func119,by kernel_rfl,by kernel_rfl⟩
theorem FC:Goes Tryz.prog 120:=⟨_,Tryz.func120,by kernel_rfl,by kernel_rfl⟩
theorem KB:Goes Tryz.prog 121:=⟨_,Tryz.func121,by kernel_rfl,by kernel_rfl⟩
theorem FR:Goes Tryz.prog 122:=⟨_,Tryz.func122,by kernel_rfl,by kernel_rfl⟩
theorem FF:Goes Tryz.prog 123:=⟨_,Tryz.func123,by kernel_rfl,by kernel_rfl⟩
theorem sW:Goes Tryz.prog 124:=⟨_,Tryz.func124,by kernel_rfl,by kernel_rfl⟩
theorem BH:Goes Tryz.prog 125:=⟨_,Tryz.func125,by kernel_rfl,by kernel_rfl⟩
theorem BM:Goes Tryz.prog 126:=⟨_,Tryz.func126,by kernel_rfl,by kernel_rfl⟩
theorem BX:Goes Tryz.prog 127:=⟨_,Tryz.func127,by kernel_rfl,by kernel_rfl⟩
theorem Lg:Goes Tryz.prog 128:=⟨_,Tryz.func128,by kernel_rfl,by kernel_rfl⟩
theorem LG:Goes Tryz.prog 129:=⟨_,Tryz.func129,by kernel_rfl,by kernel_rfl⟩
theorem LS:Goes Tryz.prog 130:=⟨_,Tryz.func130,by kernel_rfl,by kernel_rfl⟩
theorem Lr:Goes Tryz.prog 131:=⟨_,Tryz.func131,by kernel_rfl,by kernel_rfl⟩
theorem uM:Goes Tryz.prog 132:=⟨_,Tryz.func132,by kernel_rfl,by kernel_rfl⟩
theorem B0:Goes Tryz.prog 136:=⟨_,Tryz.func136,by kernel_rfl,by kernel_rfl⟩
theorem Lj:Goes Tryz.prog 137:=⟨_,Tryz.func137,by kernel_rfl,by kernel_rfl⟩
theorem Gg:Goes Tryz.prog 139:=⟨_,Tryz.func139,by kernel_rfl,by kernel_rfl⟩
theorem Ku:Goes Tryz.prog 140:=⟨_,Tryz.func140,by kernel_rfl,by kernel_rfl⟩
theorem Fq:Goes Tryz.prog 141:=⟨_,Tryz.func141,by kernel_rfl,by kernel_rfl⟩
theorem KO:Goes Tryz.prog 142:=⟨_,Tryz.func142,by kernel_rfl,by kernel_rfl⟩
theorem FG:Goes Tryz.prog 143:=⟨_,Tryz.func143,by kernel_rfl,by kernel_rfl⟩
theorem B5:Goes Tryz.prog 144:=⟨_,Tryz.func144,by kernel_rfl,by kernel_rfl⟩
theorem ll:Goes Tryz.prog 145:=⟨_,Tryz.func145,by kernel_rfl,by kernel_rfl⟩
theorem Ga:Goes Tryz.prog 146:=⟨_,Tryz.func146,by kernel_rfl,by kernel_rfl⟩
theorem FA:Goes Tryz.prog 147:=⟨_,Tryz.func147,by kernel_rfl,by kernel_rfl⟩
theorem KG:Goes Tryz.prog 148:=⟨_,Tryz.func148,by kernel_rfl,by kernel_rfl⟩
theorem Fd:Goes Tryz.prog 149:=⟨_,Tryz.func149,by kernel_rfl,by kernel_rfl⟩
theorem xZ:Goes Tryz.prog 150:=⟨_,Tryz.func150,by kernel_rfl,by kernel_rfl⟩
theorem Ky:Goes Tryz.prog 151:=⟨_,Tryz.func151,by kernel_rfl,by kernel_rfl⟩
theorem BO:Goes Tryz.prog 152:=⟨_,Tryz.func152,by kernel_rfl,by kernel_rfl⟩
theorem FN:Goes Tryz.prog 153:=⟨_,Tryz.func153,by kernel_rfl,by kernel_rfl⟩
theorem BE:Goes Tryz.prog 154:=⟨_,Tryz.func154,by kernel_rfl,by kernel_rfl⟩
theorem La:Goes Tryz.prog 155:=⟨_,Tryz.func155,by kernel_rfl,by kernel_rfl⟩
theorem FP:Goes Tryz.prog 159:=⟨_,Tryz.func159,by kernel_rfl,by kernel_rfl⟩
theorem LM:Goes Tryz.prog 160:=⟨_,Tryz.func160,by kernel_rfl,by kernel_rfl⟩
theorem yo:Goes Tryz.prog 161:=⟨_,Tryz.func161,by kernel_rfl,by kernel_rfl⟩
theorem Ft:Goes Tryz.prog 162:=⟨_,Tryz.func162,by kernel_rfl,by kernel_rfl⟩
theorem ym:Goes Tryz.prog 163:=⟨_,Tryz.func163,by kernel_rfl,by kernel_rfl⟩
theorem Fa:Goes Tryz.prog 164:=⟨_,Tryz.func164,by kernel_rfl,by kernel_rfl⟩
theorem BS:Goes Tryz.prog 165:=⟨_,Tryz.func165,by kernel_rfl,by kernel_rfl⟩
theorem FE:Goes Tryz.prog 166:=⟨_,Tryz.func166,by kernel_rfl,by kernel_rfl⟩
theorem LK:Goes Tryz.prog 167:=⟨_,Tryz.func167,by kernel_rfl,by kernel_rfl⟩
section
open Go.RowKit Go.ChangeShapes Go.WideShapes Go.ChangeAt
def C7 {α:Type} (P:Program) (R:Rep α) (T:TypeId):Prop :=
 ∀ {H:Type} (enc:TypeId × Value->H) (w:World) (base:Nat) (spare:Nat->Bool) (held:Bool) (yN:Nat) (cs:List Value) (x:DataW H × List MemPlace),DataW.trod enc P w base spare held yN T cs=some x->∃ y,R.rd w cs y

theorem EU {α:Type} {P:Program} {R:Rep α} {T e E:TypeId} (ht:P.underlying T=some (.slice e)) (hs:P.cellsOf e=R.sz) (hpos:0<R.sz) (ho:C7 P R e):C7 P (aG R E) T:=by
 intro H enc w base spare held yN cs x h
 rcases DataW.trod_slice ht h with ⟨rfl,_⟩ | ⟨a,len,cap,elems,rst,n,_,rfl,_,hb,hlc,hm,hel,hev,_⟩
 ·exact ⟨[],none,0,[],rfl,bN _,cV _,fun _=>rfl,rfl,.inl rfl⟩
 ·have hone:∀ i,i<len->∃ ec y,R.rd w ec y/\∀ j c,ec[j]? = some c->w.cell? (a.add (i*R.sz) |>.add j)=some c:=by
   intro i hi
   have h1:=hev i hi
   rw [px oa,hs] at h1
   obtain ⟨ec,h2,h3⟩:=Option.bind_eq_some_iff.1 h1
   obtain ⟨y,hy⟩:=ho enc w base spare held n ec _ h3
   obtain ⟨_,h4,h5⟩:=World.cells?_some h2
   exact ⟨ec,y,hy,fun j c hj=>by rw [h5 j (by have:=(xb.1 hj).1;omega)];exact hj⟩
  by_cases hl0:len=0
  ·subst hl0
   exact ⟨[],some a,cap,[],rfl,hlc,hm,by simp,rfl,.inl rfl⟩
  obtain ⟨b,off,spot⟩:=a
  have hspot:spot=none:=by
   obtain ⟨ec,y,hy,hc⟩:=hone 0 oa
   have hl:=R.rd_len hy
   have h0:=hc 0 ec[0] (by simp)
   simp only [s5,Addr.add,if_true] at h0
   cases spot with
   | none=>rfl
   | some s =>
    unfold World.cell? at h0
    split at h0 <;> simp at h0
  subst hspot
  have hall:∀ k,k<=len->∃ ys ccs,ys.length=k/\rdL R w ccs ys/\∀ j c,ccs[j]? = some c->w.cell? ⟨b,off+j,none⟩=some c:=by
   intro k
   induction k with
   | zero=>intro _;exact ⟨[],[],rfl,rfl,by simp⟩
   | succ k ih =>
    intro hk
    obtain ⟨ys,ccs,h1,h2,h3⟩:=ih oa
    obtain ⟨ec,y,hy,hc⟩:=hone k oa
    refine ⟨ys++[y],ccs++ec,by simp [h1],Bu (ys:=[y]) ⟨ec,[],by simp,hy,rfl⟩ h2,fun j c hj=>?_⟩
    have hcl:=kw h2
    by_cases hj1:j<ccs.length
    ·rw [tq hj1] at hj;exact h3 j c hj
    ·rw [xB oa] at hj
     have:=hc (j-ccs.length) c hj
     rw [jK,jK] at this
     rw [show off+j=off+k*R.sz+(j-ccs.length) by rw [hcl,h1] at *;omega]
     exact this
  obtain ⟨ys,ccs,h1,h2,h3⟩:=hall len (bN _)
  exact ⟨ys,some ⟨b,off,none⟩,cap,ccs,by rw [h1],oa,hm,by simp,h2,.inr ⟨b,off,rfl,h3⟩⟩
def DE (n:Int):Prop:=0<=n/\n<=255
def u8F:Rep Int where
 sz:=1
 rd _ cs n:=cs=[.int .u8 n]/\DE n
 own _ cs n fp:=(cs=[.int .u8 n]/\DE n)/\fp=[]
 rd_len h:=by rw [h.1];rfl
 rd_one h:=by rw [h.1];simp [Value.oneCell']
 rd_ext h _:=h
 own_rd h:=h.1
 own_ext h _:=h
 own_lt h:=by rw [h.2];simp
theorem wf8 {n:Int} (h:(Lit.int .u8 n).wf=true):DE n:=by
 unfold Lit.wf at h
 simp only [ce,dm] at h
 exact ⟨h.1,h.2⟩
theorem IE {P:Program} {T:TypeId} (ht:P.underlying T=some (.int .u8)):C7 P u8F T:=by
 intro H enc w base spare held yN cs x h
 obtain ⟨n,rfl,_,hw⟩:=DataW.trod_int ht h
 exact ⟨n,rfl,wf8 hw⟩
theorem Id {w:World}:∀ {xs:yP} {ccs:List Value},rdL u8F w ccs xs->rdL u8R w ccs xs/\∀ v∈xs,DE v
 | [],_,h=>⟨h,by simp⟩
 | x :: xs,_,h=>by
  obtain ⟨ec,rest,rfl,h1,h2⟩:=h
  obtain ⟨g1,g2⟩:=Id h2
  refine ⟨⟨ec,rest,rfl,h1.1,g1⟩,fun v hv=>?_⟩
  rcases bX.1 hv with rfl | hv
  ·exact h1.2
  ·exact g2 v hv
theorem JD {E:TypeId} {w:World} {cs:List Value} {xs:yP} (h:(aG u8F E).rd w cs xs):(aG u8R E).rd w cs xs/\∀ v∈xs,DE v:=by
 obtain ⟨ao,cap,ccs,rfl,h1,h2,h3,h4,h5⟩:=h
 obtain ⟨g1,g2⟩:=Id h4
 exact ⟨⟨ao,cap,ccs,rfl,h1,h2,h3,g1,h5⟩,g2⟩
end
theorem bs {α β:Type} (a:α) (f:α->Option β):(some a).bind f=f a:=rfl
theorem bh {α:Type} {xs:List α} {i:Nat} (h:i<xs.length):ix xs (i:Int)=some xs[i]:=by
 unfold ix;rw [aK oa];simp [h]
theorem oq {α:Type} {xs:List α} {i:Int} (h0:0<=i) (h:i<xs.length):ix xs i=some (xs[i.toNat]'oa):=by
 unfold ix;rw [aK h0];simp
theorem qJ {n:Int} (h:-4611686018427387904<=n) (h2:n<=4611686018427387904):rng n=true:=by
 unfold rng;simp only [ce,dm];omega
theorem bR {a b:Int} (h:-4611686018427387904<=a+b) (h2:a+b<=4611686018427387904):ad a b=some (a+b):=by unfold ad;rw [aK (qJ h h2)]
theorem fL {a b:Int} (h:-4611686018427387904<=a-b) (h2:a-b<=4611686018427387904):sb a b=some (a-b):=by unfold sb;rw [aK (qJ h h2)]
theorem fv {a b:Int} (h:-4611686018427387904<=a*b) (h2:a*b<=4611686018427387904):ml a b=some (a*b):=by unfold ml;rw [aK (qJ h h2)]
theorem ad1 {i:Nat} (h:i<1099511627776):ad (i:Int) 1=some ((i+1:Nat):Int):=by rw [bR oa oa];simp
theorem dlt {i n:Nat} (h:i<n):decide ((i:Int)<(n:Int))=true:=by simp;omega
theorem dge {i n:Nat} (h:¬ i<n):decide ((i:Int)<(n:Int))=false:=by simp;omega
theorem mY {α:Type} {xs:List α} {i:Nat} {y:α} (h:i<xs.length):sto xs (i:Int) y=some (xs.set i y):=by
 unfold sto;rw [aK ⟨oa,by simpa using h⟩];simp
theorem M5 {α:Type} {b:Nat} {xs ys:List α} (h:(xs.length+ys.length)*b<=140737488355328):apd b xs ys=some (xs++ys):=by unfold apd;rw [aK h]
theorem bB {α:Type} {b:Nat} {xs ys:List α} (hb:b<=64) (h:xs.length+ys.length<=2199023255552):apd b xs ys=some (xs++ys):=by
 refine M5 (Nat.le_trans (lI h hb) oa)
theorem Bc {α:Type} {b:Nat} {z:α} {n:Nat} (hb:b<=64) (h:n<=2199023255552):mk b z (n:Int)=some (List.replicate n z):=by
 unfold mk;rw [aK ⟨oa,by simpa using Nat.le_trans (lI h hb) oa,by simp;omega⟩];simp
theorem ow {α:Type} {xs:List α} {lo hi:Nat} (h1:lo<=hi) (h2:hi<=xs.length):slc xs (lo:Int) (hi:Int)=some ((xs.take hi).drop lo):=by
 unfold slc;rw [aK ⟨oa,oa,oa⟩];simp

theorem pF {R V:Type} (L:Nat->Int->Option (Sum R V)) (n:Nat) (hn:n<1099511627776) (b:R) (p:Nat->Bool) (v:V)
  (hstep:∀ k i,i<n->L (k+1) (i:Int)=bif p i then L k ((i+1:Nat):Int) else some (.inl b))
  (hend:∀ k,L (k+1) (n:Int)=some (.inr v)) :
  ∀ k i,i<=n->n-i<k->L k (i:Int)=some (bif (List.range' i (n-i)).all p then .inr v else .inl b):=by
 intro k
 induction k with
 | zero=>intro i hi hk;omega
 | succ k ih =>
  intro i hi hk
  by_cases h:i<n
  ·rw [hstep k i h,show n-i=(n-(i+1))+1 by omega,vt,uE]
   cases hp:p i with
   | true=>rw [ae,eG];exact ih (i+1) oa oa
   | false=>rfl
  ·obtain rfl:i=n:=by omega
   rw [hend k,Nat.sub_self];rfl
theorem pU {α:Type} (xs:List α) (p:α->Bool) (q:Nat->Bool) (h:∀ i (hi:i<xs.length),q i=p xs[i]):(List.range' 0 xs.length).all q=xs.all p:=by
 rw [Bool.eq_iff_iff,df,df]
 constructor
 ·intro hq x hx
  obtain ⟨i,hi,rfl⟩:=gg hx
  rw [<- h i hi];exact hq i (by simp;omega)
 ·intro hp i hi
  have hi':i<xs.length:=by simpa using hi
  rw [h i hi'];exact hp _ (bA hi')
section
variable {α:Type}
def s8 (p:α->Prop) (m:Nat) (xs:List α):Prop:=xs.length<=m/\∀ x∈xs,p x

end
theorem Jc (x y:Int):(x != y)=!decide (x=y):=by by_cases h:x=y <;> simp [h]
theorem Md (x y:Int):(x == y)=decide (x=y):=by by_cases h:x=y <;> simp [h]
theorem Fc (s r:ByteArray):eqS s r=decide (s=r):=by
 unfold eqS
 rw [Bool.eq_iff_iff,decide_eq_true_iff]
 constructor
 ·intro h
  have h1:s.toList=r.toList:=by simpa using h
  rw [ByteArray.toList_eq,ByteArray.toList_eq] at h1
  cases s;cases r;simp_all
 ·rintro rfl;simp
section
open Go.RowKit Go.ChangeShapes Go.WideShapes Go.ChangeAt
theorem Jz:ownKnob Tryz.prog.godebug=none:=by kernel_rfl
theorem Jx:laidOutB Tryz.prog=true:=by kernel_rfl
theorem IX {α:Type} {R:Rep α} {E:TypeId} {p:α->Prop} (h:∀ {w:World} {cs:List Value} {x:α},R.rd w cs x->p x) {w:World} {cs:List Value} {xs:List α} (hr:(aG R E).rd w cs xs):s8 p 9223372036854775807 xs:=by
 obtain ⟨ao,cap,ccs,rfl,h1,h2,h3,h4,h5⟩:=hr
 refine ⟨by unfold maxLen at h2;omega,fun x hx=>?_⟩
 obtain ⟨j,hj,rfl⟩:=gg hx
 obtain ⟨ec,h6,_⟩:=sc h4 j hj
 exact h h6
theorem JX:C7 Tryz.prog (aG u8F 5) 42:=EU Tryz.underlying42 (by kernel_rfl) (by decide) (IE Tryz.underlying5)
theorem Ob {w:World} {cs:List Value} {x:yP} (h:((aG u8R 5)).rd w cs x):(s8 (fun _=>True) 9223372036854775807) x:=IX (fun _=>trivial) h
end
theorem Sat.zO {w0 w:World} {A B C:Asn} {Γ:List Asn} (h:Sat w0 w (A :: Γ)) (k:∀ f,A.holds w f->∃ p q,(p++q).Perm f/\B.holds w p/\C.holds w q):Sat w0 w (B :: C :: Γ):=by
 obtain ⟨hb,_,⟨f1,f2,rfl,h1,h2⟩,hn,h3⟩:=h
 obtain ⟨p,q,hp,k1,k2⟩:=k f1 h1
 have hpp:(p++(q++f2)).Perm (f1++f2):=by rw [<- eS];exact qh _ hp
 exact ⟨hb,p++(q++f2),⟨p,q++f2,rfl,k1,q,f2,rfl,k2,h2⟩,hpp.nodup_iff.2 hn,fun b hb'=>h3 b (hpp.mem_iff.1 hb')⟩
theorem Sat.yC {w0 w:World} {A B C:Asn} {Γ:List Asn} (h:Sat w0 w (A :: B :: Γ)) (k:∀ f g,A.holds w f->B.holds w g->∃ p,p.Perm (f++g)/\C.holds w p):Sat w0 w (C :: Γ):=by
 obtain ⟨hb,_,⟨f1,_,rfl,h1,f2,f3,rfl,h2,h4⟩,hn,h3⟩:=h
 obtain ⟨p,hp,k1⟩:=k f1 f2 h1 h2
 have hpp:(p++f3).Perm (f1++(f2++f3)):=by rw [<- eS];exact qh _ hp
 exact ⟨hb,p++f3,⟨p,f3,rfl,k1,h4⟩,hpp.nodup_iff.2 hn,fun b hb'=>h3 b (hpp.mem_iff.1 hb')⟩
section
variable {α β:Type} {R:Rep α} {S:Rep β} {w0 w:World} {Γ:List Asn} {E:TypeId} {v:Value}
def B1 (R:Rep α) (E:TypeId) (v:Value) (xs:List α) (i:Nat) (ec:List Value):Asn where
 holds w fp:=(∀ b∈fp,b<w.heap.size)/\∀ w' y f',(∀ b∈fp,w'.heap[b]? = w.heap[b]?)->R.own w' ec y f'->∃ p,p.Perm (f'++fp)/\(aG R E).own w' [v] (xs.set i y) p
 ext h he:=by
  refine ⟨fun b hb=>?_,fun w'' y f' he' ho=>h.2 w'' y f' (fun b hb=>(he' b hb).trans (he b hb)) ho⟩
  have h1:=h.1 b hb
  have h2:=he b hb
  rw [nY h1] at h2
  exact (jk.1 h2).1
 lt h:=h.1
theorem pW {w:World}:∀ {xs:List α} {ccs:List Value} {f:List Nat},fO R w ccs xs f->∀ (k:Nat) (hk:k<xs.length),
  ∃ ec f1 f2 f3,R.own w ec xs[k] f2/\f=f1++(f2++f3)/\(∀ j c,ec[j]? = some c->ccs[k*R.sz+j]? = some c) /\
   ∀ w' y f',(∀ b∈f1++f3,w'.heap[b]? = w.heap[b]?)->R.own w' ec y f'->fO R w' ccs (xs.set k y) (f1++(f'++f3))
 | [],_,_,_,k,hk=>absurd hk (by simp)
 | x :: xs,_,_,h,k,hk=>by
  obtain ⟨ec,rest,f1,f2,rfl,rfl,h1,h2⟩:=h
  cases k with
  | zero =>
   refine ⟨ec,[],f1,f2,h1,rfl,fun j c hj=>?_,fun w' y f' he ho=>?_⟩
   ·have hlt:j<ec.length:=(xb.1 hj).1
    rw [s5,dA,tq hlt];exact hj
   ·exact ⟨ec,rest,f',f2,rfl,rfl,ho,hU h2 fun b hb=>he b (by simpa using hb)⟩
  | succ k =>
   obtain ⟨ec',g1,g2,g3,k1,rfl,k3,k4⟩:=pW h2 k (by simpa using hk)
   refine ⟨ec',f1++g1,g2,g3,by simpa using k1,by simp,fun j c hj=>?_,fun w' y f' he ho=>?_⟩
   ·have e:(k+1)*R.sz+j=ec.length+(k*R.sz+j):=by rw [R.rd_len (R.own_rd h1),ma];omega
    rw [e,xB oa,pv]
    exact k3 j c hj
   ·refine ⟨ec,rest,f1,g1++(f'++g3),rfl,by simp,R.own_ext h1 fun b hb=>he b (by simp [hb]),k4 w' y f' (fun b hb=>he b ?_) ho⟩
    rcases cU.1 hb with h | h
    ·simp [h]
    ·simp [h]
theorem Sat.yH {c d:List Value} {x:α × β} (hS:Sat w0 w (Own (rz R S) (c++d) x :: Γ)) (hc:c.length=R.sz):Sat w0 w (Own R c x.1 :: Own S d x.2 :: Γ):=by
 refine hS.zO fun f hf=>?_
 obtain ⟨c1,c2,f1,f2,hcs,rfl,h1,h2⟩:=hf
 have hl:=R.rd_len (R.own_rd h1)
 obtain ⟨rfl,rfl⟩:=List.append_inj hcs oa
 exact ⟨f1,f2,.refl _,h1,h2⟩
end
theorem Sat.zV {a b w:World} {Γ:List Asn} (h:Sat b w Γ) (hx:Ext a b):Sat a w Γ:=by
 obtain ⟨hb,fp,h1,h2,h3⟩:=h
 exact ⟨Ext.trans hx hb,fp,h1,h2,fun x hx'=>Nat.le_trans hx.size (h3 x hx')⟩
theorem Sat.drop {w0 w:World} {Γ Δ:List Asn} (h:Sat w0 w (Γ++Δ)):Sat w0 w Δ:=by
 induction Γ with
 | nil=>simpa using h
 | cons A Γ ih=>exact ih h.tail
def roR {α:Type} (W:World) (R:Rep α):Rep α where
 sz:=R.sz
 rd _ cs x:=R.rd W cs x
 own _ cs x fp:=R.rd W cs x/\fp=[]
 rd_len h:=R.rd_len h
 rd_one h:=R.rd_one h
 rd_ext h _:=h
 own_rd h:=h.1
 own_ext h _:=h
 own_lt h:=by rw [h.2];simp
section
variable {α:Type} {R:Rep α} {W w w0 w':World} {E:TypeId} {Γ:List Asn} {v:Value} {xs:List α}
theorem HV (hx:Ext W w):∀ {xs:List α} {ccs:List Value},rdL (roR W R) w ccs xs->rdL R w ccs xs
 | [],_,h=>h
 | x :: xs,_,h=>by
  obtain ⟨ec,rest,rfl,h1,h2⟩:=h
  exact ⟨ec,rest,rfl,R.rd_ext h1 hx,HV hx h2⟩
theorem Kc {cs:List Value} (hx:Ext W w) (h:(aG (roR W R) E).rd w cs xs):(aG R E).rd w cs xs:=by
 obtain ⟨ao,cap,ccs,h1,h2,h3,h4,h5,h6⟩:=h
 exact ⟨ao,cap,ccs,h1,h2,h3,h4,HV hx h5,h6⟩
theorem Sat.zF {cs:List Value} {x:α} (hS:Sat w0 w Γ) (h:R.rd W cs x):Sat w0 w (Own (roR W R) cs x :: Γ):=hS.add ⟨h,rfl⟩
theorem En:∀ {xs:List α} {ccs:List Value},rdL R W ccs xs->rdL (roR W R) w ccs xs
 | [],_,h=>h
 | x :: xs,_,h=>by
  obtain ⟨ec,rest,rfl,h1,h2⟩:=h
  exact ⟨ec,rest,rfl,h1,En h2⟩
theorem Nn (h:(aG (roR W R) E).rd w [v] xs):∃ ao c ccs,v=.slice ao xs.length c/\(ao=none->c=0)/\ry w ao ccs/\rdL (roR W R) w ccs xs:=by
 obtain ⟨ao,cap,ccs,hv,h1,h2,h3,h4,h5⟩:=h
 exact ⟨ao,cap,ccs,by simpa using hv,h3,h5,h4⟩
theorem Lt {cs:List Value} (hx:Ext W w) (h:(aG R E).rd W cs xs):(aG (roR W R) E).rd w cs xs:=by
 obtain ⟨ao,cap,ccs,h1,h2,h3,h4,h5,h6⟩:=h
 refine ⟨ao,cap,ccs,h1,h2,h3,h4,En h5,?_⟩
 rcases h6 with h6 | ⟨b,off,rfl,h6⟩
 ·exact .inl h6
 ·exact .inr ⟨b,off,rfl,fun j c hj=>by have:=h6 j c hj;rw [hx.cell (block_lt_of_cell this)];exact this⟩

def IF (w:World) (E:TypeId) (ao:Option Addr) (ccs:List Value) (fp f2:List Nat):Prop :=
 (ccs=[]/\fp=f2)\/∃ g off cur,ao=some ⟨g,off,none⟩/\w.heap[g]? = some (.cells cur E (0,0))/\(∀ j c,ccs[j]? = some c->cur[off+j]? = some c)/\fp=g :: f2
def wx {α:Type} (R:Rep α) (E:TypeId):Rep (List α) where
 sz:=1
 rd w cs xs:=(aG R E).rd w cs xs
 own w cs xs fp:=∃ ao cap ccs f2,cs=[.slice ao xs.length cap]/\xs.length<=cap/\cap<=maxLen/\(ao=none->cap=0)/\fO R w ccs xs f2/\IF w E ao ccs fp f2
 rd_len h:=(aG R E).rd_len h
 rd_one h:=(aG R E).rd_one h
 rd_ext h he:=(aG R E).rd_ext h he
 own_rd h:=by
  obtain ⟨ao,cap,ccs,f2,rfl,h1,h2,h3,h4,h5⟩:=h
  refine ⟨ao,cap,ccs,rfl,h1,h2,h3,i4 h4,?_⟩
  rcases h5 with ⟨rfl,_⟩ | ⟨g,off,cur,rfl,hg,hc,_⟩
  ·exact .inl rfl
  ·refine .inr ⟨g,off,rfl,fun j c hj=>?_⟩
   rw [kZ _ g _ cur E (0,0) hg];exact hc j c hj
 own_ext h he:=by
  obtain ⟨ao,cap,ccs,f2,rfl,h1,h2,h3,h4,h5⟩:=h
  rcases h5 with ⟨hc,rfl⟩ | ⟨g,off,cur,rfl,hg,hc,rfl⟩
  ·exact ⟨ao,cap,ccs,_,rfl,h1,h2,h3,hU h4 he,.inl ⟨hc,rfl⟩⟩
  ·exact ⟨_,cap,ccs,f2,rfl,h1,h2,h3,hU h4 (fun b hb=>he b (by simp [hb])),.inr ⟨g,off,cur,rfl,by rw [he g (by simp)];exact hg,hc,rfl⟩⟩
 own_lt h:=by
  obtain ⟨ao,cap,ccs,f2,rfl,h1,h2,h3,h4,h5⟩:=h
  rcases h5 with ⟨hc,rfl⟩ | ⟨g,off,cur,rfl,hg,hc,rfl⟩
  ·exact iC h4
  ·intro b hb
   rcases bX.1 hb with rfl | hb
   ·exact (jk.1 hg).1
   ·exact iC h4 b hb
theorem Sat.yB (hS:Sat w0 w (Own (aG R E) [v] xs :: Γ)):Sat w0 w (Own (wx R E) [v] xs :: Γ):=by
 refine hS.conv fun f hf=>?_
 rcases hf with ⟨hv,rfl,rfl⟩ | ⟨g,cap,cur,ccs,f2,hv,hg,h1,h2,h3,h4,h5,rfl⟩
 ·exact ⟨none,0,[],[],hv,bN _,cV _,fun _=>rfl,⟨rfl,rfl⟩,.inl ⟨rfl,rfl⟩⟩
 ·refine ⟨_,cap,ccs,f2,hv,h1,h2,by simp,h5,.inr ⟨g,0,cur,rfl,hg,fun j c hj=>?_,rfl⟩⟩
  rw [dA,<- mr]
  rw [<- h4,jr] at hj
  split at hj
  ·exact hj
  ·cases hj
def zo (R:Rep α) (E:TypeId) (v:Value) (xs:List α):Asn where
 holds w fp:=∃ ao cap ec rest f2,v=.slice ao xs.length cap/\xs.length<=cap/\cap<=maxLen/\(ao=none->cap=0)/\ec.length=R.sz/\fO R w rest xs.tail f2/\IF w E ao (ec++rest) fp f2
 ext h he:=by
  obtain ⟨ao,cap,ec,rest,f2,rfl,h1,h2,h3,hl,h4,h5⟩:=h
  rcases h5 with ⟨hc,rfl⟩ | ⟨g,off,cur,rfl,hg,hc,rfl⟩
  ·exact ⟨ao,cap,ec,rest,_,rfl,h1,h2,h3,hl,hU h4 he,.inl ⟨hc,rfl⟩⟩
  ·exact ⟨_,cap,ec,rest,f2,rfl,h1,h2,h3,hl,hU h4 (fun b hb=>he b (by simp [hb])),.inr ⟨g,off,cur,rfl,by rw [he g (by simp)];exact hg,hc,rfl⟩⟩
 lt h:=by
  obtain ⟨ao,cap,ec,rest,f2,rfl,h1,h2,h3,hl,h4,h5⟩:=h
  rcases h5 with ⟨hc,rfl⟩ | ⟨g,off,cur,rfl,hg,hc,rfl⟩
  ·exact iC h4
  ·intro b hb
   rcases bX.1 hb with rfl | hb
   ·exact (jk.1 hg).1
   ·exact iC h4 b hb
theorem Sat.zG {u:α} {ec:List Value} {m b off:Nat} (hS:Sat w0 w (Own (wx R E) [v] xs :: Γ)) (h:ix xs 0=some u) (hn:R.sz=m) (hpos:0<m) (hl:ec.length=m)
  (hv:∃ ln cap,v=.slice (some ⟨b,off,none⟩) ln cap) (hm:∀ j c,ec[j]? = some c->w.cell? ⟨b,off+j,none⟩=some c):Sat w0 w (Own R ec u :: zo R E v xs :: Γ):=by
 subst hn
 refine hS.zO fun f hf=>?_
 obtain ⟨ao,cap,ccs,f2,hcs,h1,h2,h3,h4,h5⟩:=hf
 cases xs with
 | nil=>simp [ix] at h
 | cons x xs =>
  obtain rfl:x=u:=by simpa [ix] using h
  obtain ⟨ec',rest,g1,g2,rfl,rfl,k1,k2⟩:=h4
  have hl':=R.rd_len (R.own_rd k1)
  obtain ⟨ln,cap',rfl⟩:=hv
  simp only [xJ,and_true,Value.slice.injEq] at hcs
  obtain ⟨rfl,rfl,rfl⟩:=hcs
  rcases h5 with ⟨hc,rfl⟩ | ⟨g,off',cur,hao,hg,hc,rfl⟩
  ·rw [List.append_eq_nil_iff] at hc;rw [hc.1] at hl';simp at hl';omega
  ·simp only [qp,Addr.mk.injEq,and_true] at hao
   obtain ⟨rfl,rfl⟩:=hao
   have hec:ec=ec':=by
    refine kS oa fun j hj1 hj2=>?_
    have e1:=hm j ec[j] (px hj1)
    have e2:=hc j ec'[j] (by rw [tq hj2];exact px hj2)
    rw [kZ w b _ cur E (0,0) hg,e2] at e1
    exact (bL e1).symm
   subst hec
   exact ⟨g1,b :: g2,List.perm_middle,k1,_,_,ec,rest,g2,rfl,h1,h2,h3,hl,k2,.inr ⟨b,off,cur,rfl,hg,hc,rfl⟩⟩
theorem Sat.zJ (hS:Sat w0 w (Own (wx R E) [v] xs :: Γ)) (h:0<xs.length):Sat w0 w (zo R E v xs :: Γ):=by
 obtain ⟨ao,hao⟩:∃ A,A=Asn.mk (fun w fp=>True/\∀ b∈fp,b<w.heap.size) (fun h he=>⟨trivial,fun b hb=>by
  have h1:=h.2 b hb
  have h2:=he b hb
  rw [nY h1] at h2
  exact (jk.1 h2).1⟩) (fun h=>h.2):=⟨_,rfl⟩
 refine Sat.tail (A:=ao) ?_
 refine hS.zO fun f hf=>?_
 obtain ⟨ao',cap,ccs,f2,hcs,h1,h2,h3,h4,h5⟩:=hf
 cases xs with
 | nil=>simp at h
 | cons x xs =>
  obtain ⟨ec',rest,g1,g2,rfl,rfl,k1,k2⟩:=h4
  have hl':=R.rd_len (R.own_rd k1)
  have hv:v=.slice ao' (x :: xs).length cap:=by simpa using hcs
  subst hao
  rcases h5 with ⟨hc,rfl⟩ | ⟨g,off',cur,hao,hg,hc,rfl⟩
  ·exact ⟨g1,g2,.refl _,⟨trivial,R.own_lt k1⟩,ao',cap,ec',rest,g2,hv,h1,h2,h3,hl',k2,.inl ⟨hc,rfl⟩⟩
  ·exact ⟨g1,g :: g2,List.perm_middle,⟨trivial,R.own_lt k1⟩,ao',cap,ec',rest,g2,hv,h1,h2,h3,hl',k2,.inr ⟨g,off',cur,hao,hg,hc,rfl⟩⟩
end
section
variable {P:Program} {n:Nat} {ops:Array Oper} {K:Env->World->Prop} {rest:List Oper} {e:Env} {w w0:World} {v:Value} {d:Nat} {ty:TypeId} {pos:String} {af:Array Edge} {Γ:List Asn} {x y:Operand} {α:Type} {R:Rep α} {E:TypeId}
theorem fS {t:TypeId} {lo:Operand} [ht:SliceT P t E] {z:List Value} {m yO:Nat} [hz:ElemT P E z m yO] (hn:R.sz=m) (hpos:0<m) {xs ys:List α} (hS:Sat w0 w (zo R E v xs :: Γ)) (hx:ev e x=v) (hlo:ev e lo=.int .i64 1) (hq:slc xs 1 (xs.length:Int)=some ys) (hd:d<n)
  (hK:∀ v',Sat w0 w (Own (wx R E) [v'] ys :: Γ)->EL P n ops K rest (upd e d v') w):EL P n ops K (⟨some d,.slice t x (some lo) none none,ty,pos,af,none⟩ :: rest) e w:=by
 have hlen:1<=xs.length/\ys=xs.tail:=by
  unfold slc at hq
  split at hq
  ·rename_i h0
   refine ⟨oa,?_⟩
   have:=bL hq
   rw [<- this];simp
  ·cases hq
 obtain ⟨hl1,rfl⟩:=hlen
 obtain ⟨fp,⟨ao,cap,ec,rs,f2,rfl,h1,h2,h3,hl,h4,h5⟩,_⟩:=hS.head
 have hz:=hz.h
 cases hq':P.info? E with
 | none=>simp [hq'] at hz
 | some inf =>
  simp [hq'] at hz
  have hsz:inf.size=R.sz:=by rw [hn];exact hz.2.1
  refine qn (v:=.slice (if cap=1 then ao else ao.map (·.add (1*inf.size))) (xs.length-1) (cap-1)) ?_ hd (hK _ ?_)
  ·intro w' _
   have hb:(Instr.sliceBounds true xs.length cap (some (.int .i64 1)) none none).run P w'=.ok (1,xs.length,cap) w':=by
    have h9:xs.length<=cap:=h1
    simp [Instr.sliceBounds,Instr.sliceBound,asIntOf,h9,hl1]
    intro h;omega
   unfold execOp
   simp only [hx,Instr.sliceAt,dQ,fY ht.h,eI,Instr.slice,Option.map_some,hlo,Option.map_none,hb,sizeOf,typeInfo,hq',mS,fJ]
  ·refine hS.conv fun f hf=>?_
   obtain ⟨ao',cap',ec',rs',f2',hv,k1,k2,k3,kl,k4,k5⟩:=hf
   simp only [Value.slice.injEq] at hv
   obtain ⟨rfl,_,rfl⟩:=hv
   have hrl:=kw (i4 k4)
   refine ⟨(if cap=1 then ao else ao.map (·.add (1*inf.size))),cap-1,rs',f2',by simp,by simp;omega,oa,?_,k4,?_⟩
   ·intro e0
    split at e0
    ·omega
    ·cases ao with
     | none=>have:=k3 rfl;omega
     | some _=>simp at e0
   ·rcases k5 with ⟨hc,rfl⟩ | ⟨g,off,cur,rfl,hg,hc,rfl⟩
    ·rw [List.append_eq_nil_iff] at hc
     exact .inl ⟨hc.2,rfl⟩
    ·by_cases hc1:cap=1
     ·
      have:xs.tail=[]:=by apply Bx;simp;omega
      rw [aK hc1]
      have hr0:rs'=[]:=by apply Bx;rw [hrl,this];simp
      subst hr0
      exact .inr ⟨g,off,cur,rfl,hg,by simp,rfl⟩
     ·rw [aS hc1]
      refine .inr ⟨g,off+inf.size,cur,by simp [jK],hg,fun j c hj=>?_,rfl⟩
      rw [hsz,<- kl,tm]
      exact hc _ c (by rw [xB oa,pv];exact hj)
theorem jO {t:TypeId} [ht:SliceT P t E] {zz:List Value} {m yO:Nat} [hz:ElemT P E zz m yO] {xs:List α} (hS:Sat w0 w (Own (wx R E) [v] xs :: Γ)) (hs:ev e x=v)
  (hn:R.sz=m) (hpos:0<m) {k:IntKind} (hi:ev e y=.int k 0) {u:α} (h:ix xs 0=some u) (hd:d<n)
  (hK:∀ b off ec,(∃ ln cap,v=.slice (some ⟨b,off,none⟩) ln cap)->R.rd w ec u->(∀ j c,ec[j]? = some c->w.cell? ⟨b,off+j,none⟩=some c)->EL P n ops K rest (upd e d (.pointer (some ⟨b,off,none⟩))) w) :
  EL P n ops K (⟨some d,.indexAddr t x y,ty,pos,af,none⟩ :: rest) e w:=by
 have hr:(aG R E).rd w [v] xs:=hS.rd
 obtain ⟨ao,cap,ccs,hv,h1,h2,h3,h4,h5⟩:=hr
 obtain rfl:v=.slice ao xs.length cap:=by simpa using hv
 obtain ⟨k',hk0,hk,rfl⟩:=gq h
 obtain rfl:k'=0:=by omega
 obtain ⟨ec,hec,hcc⟩:=sc h4 0 hk
 have hz:=hz.h
 have hlen:=kw h4
 cases hq:P.info? E with
 | none=>simp [hq] at hz
 | some inf =>
  simp [hq] at hz
  obtain ⟨b,off,rfl,hc⟩:∃ b off,ao=some ⟨b,off,none⟩/\∀ j c,ccs[j]? = some c->w.cell? ⟨b,off+j,none⟩=some c:=by
   rcases h5 with rfl | ⟨b,off,rfl,hc⟩
   ·have:0<xs.length*R.sz:=Nat.mul_pos oa oa
    simp at hlen;omega
   ·exact ⟨b,off,rfl,hc⟩
  refine qn (v:=.pointer (some ⟨b,off,none⟩)) ?_ hd (hK b off ec ⟨_,_,rfl⟩ hec fun j c hj=>hc _ _ (by have:=hcc j c hj;simpa using this))
  intro w' _
  unfold execOp
  simp [hs,hi,Instr.indexAt,asIntOf,fY ht.h,sizeOf,typeInfo,hq,hk,jK]
end

def jZ (a b:Int):Int:=IntKind.i64.wrap ((BitVec.ofInt IntKind.i64.bits a &&& BitVec.ofInt IntKind.i64.bits b).toNat)
def og (a b:Int):Int:=IntKind.i64.wrap ((BitVec.ofInt IntKind.i64.bits a ^^^ BitVec.ofInt IntKind.i64.bits b).toNat)
def sr (a b:Int):Option Int:=if 0<=b then some (a.fdiv (2 ^ (min b.toNat IntKind.i64.bits))) else none
def sx (s r:ByteArray):Option ByteArray:=if s.size+r.size<=9223372036854775807 then some (s++r) else none
theorem uh {s r c:ByteArray} (h:sx s r=some c):c.size<=9223372036854775807:=by
 unfold sx at h
 split at h
 ·rename_i h0
  obtain rfl:=bL h
  rw [ByteArray.size_append];exact h0
 ·cases h
section
variable {P:Program} {e:Env} {w:World} {d:Option Nat} {ty:TypeId} {pos:String} {af:Array Edge} {x y:Operand}
theorem Dp {t u:TypeId} {a b:Int} (hx:ev e x=.int .i64 a) (hy:ev e y=.int .i64 b):PV P ⟨d,.binOp .and t x y u,ty,pos,af,none⟩ e w (.int .i64 (jZ a b)):=fun w' _=>by
 unfold execOp jZ;simp [hx,hy,eqGuard,binOp,Op.intBits]
theorem MA {t u:TypeId} {a b:Int} (hx:ev e x=.int .i64 a) (hy:ev e y=.int .i64 b):PV P ⟨d,.binOp .xor t x y u,ty,pos,af,none⟩ e w (.int .i64 (og a b)):=fun w' _=>by
 unfold execOp og;simp [hx,hy,eqGuard,binOp,Op.intBits]
theorem Ij {t u:TypeId} {k2:IntKind} {a b c:Int} (hx:ev e x=.int .i64 a) (hy:ev e y=.int k2 b) (h:sr a b=some c):PV P ⟨d,.binOp .shr t x y u,ty,pos,af,none⟩ e w (.int .i64 c):=fun w' _=>by
 unfold sr at h
 split at h
 ·rename_i h0
  obtain rfl:=bL h
  have h1:¬ b<0:=by omega
  unfold execOp;simp [hx,hy,eqGuard,binOp,Op.shift,h1]
 ·cases h
theorem sU {t u:TypeId} {s r c:ByteArray} (hx:ev e x=.string s) (hy:ev e y=.string r) (h:sx s r=some c):PV P ⟨d,.binOp .add t x y u,ty,pos,af,none⟩ e w (.string c):=fun w' _=>by
 unfold sx at h
 split at h
 ·rename_i h0
  obtain rfl:=bL h
  have h1:¬ (((s.size+r.size:Nat):Int) > IntKind.i64.max):=by
   have:IntKind.i64.max=9223372036854775807:=by decide
   rw [this];omega
  unfold execOp;simp only [hx,hy,eqGuard,binOp,Op.stringOp,dQ,fJ,eI,aS h1]
  simp
 ·cases h
instance flat_str:FlatR nR (fun s=>.string s):=⟨fun h=>h.1⟩
theorem Hw {E:TypeId} (i:Nat) {xs:List ByteArray} {v:Value} {w0 w:World} {Γ:List Asn} (hS:Sat w0 w Γ) (hi:Γ[i]? = some (Own (aG nR E) [v] xs)) {j:Int} {u:ByteArray} (h:ix xs j=some u):u.size<=9223372036854775807:=by
 obtain ⟨k,rfl,hk,rfl⟩:=gq h
 obtain ⟨ao,cap,ccs,_,_,_,_,h4,_⟩:=hS.zB (R:=aG nR E) i hi
 obtain ⟨ec,hec,_⟩:=sc h4 k hk
 exact hec.2
def ssl (s:ByteArray) (l h:Int):Option ByteArray:=if 0<=l/\l<=h/\h<=(s.size:Int) then some (s.extract l.toNat h.toNat) else none
theorem Ad {s c:ByteArray} {l h:Int} (hs:s.size<=9223372036854775807) (hq:ssl s l h=some c):c.size<=9223372036854775807:=by
 unfold ssl at hq
 split at hq
 ·obtain rfl:=bL hq
  rw [ByteArray.size_extract];omega
 ·cases hq
theorem xU {t:TypeId} {lo hi:Option Operand} {s c:ByteArray} (ht:P.underlying t=some .string) (hx:ev e x=.string s) {l h:Int} (hlo:(lo.map (ev e)=some (.int .i64 l))\/(lo=none/\l=0)) (hhi:(hi.map (ev e)=some (.int .i64 h))\/(hi=none/\h=s.size)) (hq:ssl s l h=some c):PV P ⟨d,.slice t x lo hi none,ty,pos,af,none⟩ e w (.string c):=fun w' _=>by
  unfold ssl at hq
  split at hq
  case isFalse=>cases hq
  rename_i h0
  obtain rfl:=bL hq
  obtain ⟨l',rfl⟩:=kf h0.1
  obtain ⟨h',rfl⟩:=kf (Int.le_trans h0.1 h0.2.1)
  obtain ⟨_,hlh,hh⟩:=h0
  replace hlh:l'<=h':=by omega
  replace hh:h'<=s.size:=by omega
  simp only [eJ]
  have hb:(Instr.sliceBounds false s.size s.size (lo.map (ev e)) (hi.map (ev e)) none).run P w'=.ok (l',h',s.size) w':=by
    rcases hlo with e1 | ⟨e1,e1'⟩ <;> rcases hhi with e2 | ⟨e2,e2'⟩
    all_goals
      (try rw [e1]);(try rw [e2])
      first
        | (simp [Instr.sliceBounds,Instr.sliceBound,asIntOf,hh,hlh];done)
        | (have:l'=0:=by omega
           subst this
           simp [Instr.sliceBounds,Instr.sliceBound,asIntOf,hh,hlh];done)
        | (have:h'=s.size:=by omega
           subst this
           simp [Instr.sliceBounds,Instr.sliceBound,asIntOf,hlh];done)
        | (have:l'=0:=by omega
           have:h'=s.size:=by omega
           subst_vars
           simp [Instr.sliceBounds,Instr.sliceBound,asIntOf])
  unfold execOp
  simp only [hx,Instr.sliceAt,dQ,fY ht,eI,Instr.slice,hb,fJ,Option.map_none,Option.isSome_none,xn,nv]
end
theorem CN:∀ (vs:List Value) (i:Nat) (cells:List Value),cells.length=i+vs.length->v8 (fun i=>some (i*1,1)) cells ((vs.zipIdx i).map fun p=>(p.2,[p.1]))=some (cells.take i++vs)
 | [],i,cells,h=>by
  simp only [gu,mT] at h
  show some cells=some (cells.take i++[])
  rw [jI,nE oa]
 | v :: vs,i,cells,h=>by
  simp only [b9] at h
  have e1:i*1=i:=n9 i
  simp only [List.zipIdx_cons,gH,v8,bP,e1]
  rw [show Nat.beq 1 1=true from rfl,eG]
  have hb:Nat.ble (i+1) cells.length=true:=by rw [Nat.ble_eq];omega
  rw [hb,ae,CN vs (i+1) _ (by simp;omega)]
  congr 1
  rw [List.take_append_of_le_length (by simp;omega),nE (by simp;omega)]
  simp
section
variable {P:Program} {n:Nat} {ops:Array Oper} {K:Env->World->Prop} {rest:List Oper} {e:Env} {w w0:World} {d:Nat} {ty:TypeId} {pos:String} {af:Array Edge} {Γ:List Asn} {E:TypeId} {α:Type} {R:Rep α}
theorem fT {t:TypeId} [ht:SliceT P t E] {z:List Value} {yO:Nat} [hz:ElemT P E z 1 yO] {parts:Array (Nat × Operand)} {k:Nat} (vs:List Value) {xs:List α} (hsz:R.sz=1) (hk:vs.length=k) (hxl:xs.length=k) (hk1:Nat.ble k 16777216=true)
  (hp:parts.toList.map (fun p=>(p.1,(ev e p.2).cells))=((vs.zipIdx 0).map fun p=>(p.2,[p.1].toArray))) (hown:∀ w,fO R w vs xs []) (hS:Sat w0 w Γ) (hd:d<n)
  (hK:∀ w' v,Sat w0 w' (Own (aG R E) [v] xs :: Γ)->Ext w w'->EL P n ops K rest (upd e d v) w'):EL P n ops K (⟨some d,.buildSlice t k parts,ty,pos,af,none⟩ :: rest) e w:=by
 intro a ha
 refine lq rfl fun K' hK'=>?_
 have hz:=hz.h
 cases hi:P.info? E with
 | none=>simp [hi] at hz
 | some i =>
 cases hzz:i.zero with
 | none=>simp [hi,hzz] at hz
 | some zv =>
 simp [hi,hzz] at hz
 obtain ⟨hz1,hz2,hz3⟩:=hz
 have hk':¬ (k*1 > 2 ^ 24):=by have:=A9 hk1;omega
 have hfill:∀ A:Array Value,A.size=k->Instr.fill (fun i=>some (i*1,1)) A (parts.toList.map fun p=>(p.1,ev e p.2))=some vs.toArray:=by
  intro A hA
  have:=BT (fun i=>some (i*1,1)) (parts.toList.map fun p=>(p.1,ev e p.2)) ((vs.zipIdx 0).map fun p=>(p.2,[p.1])) A.toList (r:=vs) (by
   rw [nx,nx];exact hp) (by rw [CN vs 0 A.toList (by simp;omega)];simp)
  simpa using this
 have hr:(Instr.buildSlice t k (parts.map fun p=>(p.1,ev e p.2))).run P w=.ok (.slice (some ⟨w.heap.size,0,none⟩) k k) (w.alloc (.cells vs.toArray E)):=by
  unfold Instr.buildSlice
  simp only [fY ht.h,sizeOf,typeInfo,hi,hz2,dQ,fJ,mS,eI,aS hk',sq,Array.toList_map]
  by_cases h0:k*1=0
  ·simp only [h0,if_true,fJ,eI]
   have hk0:k=0:=by omega
   rw [hfill _ (by simp;omega)]
   simp [newRow,hk0]
  ·simp only [h0,nv,zeroValue,typeInfo,hi,hzz,dQ,fJ,mS,eI]
   rw [hfill _ (by simp)]
   simp [newRow]
 unfold Oper.wp execOp
 simp only [ha.eval,hr,dQ,fJ,eI,tf]
 refine hK' _ _ (hK _ _ ?_ (oy _ _) _ (ha.put hd _))
 refine (hS.box E vs).conv fun f hf=>?_
 obtain ⟨rfl,hf⟩:=hf
 have h2:=A9 hk1
 exact .inr ⟨w.heap.size,k,vs.toArray,vs,[],by rw [hxl],hf,oa,by unfold maxLen;omega,by simp [hsz,hk],by rw [hsz,hxl,n9];exact nE (by simp;omega),hown _,by simp⟩
theorem rc (xs:yP) (w:World):fO cA w (xs.map (Value.int .i64)) xs []:=by
 induction xs with
 | nil=>exact ⟨rfl,rfl⟩
 | cons x xs ih=>exact ⟨[.int .i64 x],_,[],[],rfl,rfl,⟨rfl,rfl⟩,ih⟩
theorem qY {xs:List ByteArray} (h:xs.all (fun s=>Nat.ble s.size 1000000)=true) (w:World):fO nR w (xs.map Value.string) xs []:=by
 induction xs with
 | nil=>exact ⟨rfl,rfl⟩
 | cons x xs ih =>
  rw [uE,ce] at h
  exact ⟨[.string x],_,[],[],rfl,rfl,⟨⟨rfl,by have:=A9 h.1;omega⟩,rfl⟩,ih h.2⟩
end
def uT {α:Type} (R:Rep α) (j:Nat) (c:Value) (u y:α):Prop:=∀ w ec f,R.own w ec u f->j<ec.length/\R.own w (ec.set j c) y f
theorem Mo {s:ByteArray} (hs:s.size<=9223372036854775807) (x:ByteArray):uT nR 0 (.string s) x s:=fun w ec f h=>by obtain ⟨⟨rfl,_⟩,rfl⟩:=h;exact ⟨by simp,⟨rfl,hs⟩,rfl⟩
theorem NL {α β:Type} {R:Rep α} {S:Rep β} {j:Nat} {c:Value} {x:α × β} {y:α} (h:uT R j c x.1 y):uT (rz R S) j c x (y,x.2):=fun w ec f hf=>by
 obtain ⟨c1,c2,f1,f2,rfl,rfl,h1,h2⟩:=hf
 obtain ⟨k1,k2⟩:=h w c1 f1 h1
 exact ⟨by simp;omega,c1.set j c,c2,f1,f2,List.set_append_left _ _ k1,rfl,k2,h2⟩
theorem Em {α:Type} {R:Rep α} {w:World} {j:Nat} {c:Value} {y:α}:∀ {xs:List α} {ccs:List Value} {f:List Nat},fO R w ccs xs f->∀ (k:Nat) (hk:k<xs.length),uT R j c xs[k] y->fO R w (ccs.set (k*R.sz+j) c) (xs.set k y) f
 | [],_,_,_,k,hk,_=>absurd hk (by simp)
 | x :: xs,_,_,h,k,hk,hu=>by
  obtain ⟨ec,rest,f1,f2,rfl,rfl,h1,h2⟩:=h
  cases k with
  | zero =>
   obtain ⟨k1,k2⟩:=hu w ec f1 h1
   exact ⟨ec.set j c,rest,f1,f2,by rw [s5,dA,List.set_append_left _ _ k1],rfl,k2,h2⟩
  | succ k =>
   have hl:=R.rd_len (R.own_rd h1)
   refine ⟨ec,rest.set (k*R.sz+j) c,f1,f2,?_,rfl,h1,Em h2 k (by simpa using hk) (by simpa using hu)⟩
   rw [AT _ _ (by rw [tG];omega)]
   congr 2;rw [tG];omega
section
variable {P:Program} {n:Nat} {ops:Array Oper} {K:Env->World->Prop} {rest:List Oper} {e:Env} {w w0:World} {v:Value} {ty:TypeId} {pos:String} {af:Array Edge} {Γ:List Asn} {x y:Operand} {α:Type} {R:Rep α} {E:TypeId}
theorem H6 {t:TypeId} {z:List Value} {yO:Nat} [hz:ElemT P t z 1 yO] {xs ys:List α} {g ln cap o j m:Nat} {u yv:α} {c:Value} (hv:v=.slice (some ⟨g,0,none⟩) ln cap)
  (hS:Sat w0 w (Own (aG R E) [v] xs :: Γ)) {i:Int} (hix:ix xs i=some u) (h:sto xs i yv=some ys) (hn:R.sz=m) (ho:o=i.toNat*m+j) (hx:ev e x=.pointer (some ⟨g,o,none⟩)) (hy:(ev e y).cells=[c].toArray) (h1:c.oneCell'=true)
  (hup:uT R j c u yv) (hK:∀ w',Sat w0 w' (Own (aG R E) [v] ys :: Γ)->EL P n ops K rest e w'):EL P n ops K (⟨none,.store t x y,ty,pos,af,none⟩ :: rest) e w:=by
 intro a ha
 refine lq rfl fun K' hK'=>?_
 obtain ⟨k,rfl,hk,rfl⟩:=gq hix
 have hys:ys=xs.set k yv:=by
  unfold sto at h;split at h
  ·simpa using (bL h).symm
  ·cases h
 subst hys hv hn ho
 simp only [eJ] at hx
 have hz:=hz.h
 cases hi:P.info? t with
 | none=>simp [hi] at hz
 | some inf =>
  simp [hi] at hz
  obtain ⟨fp,hv,_⟩:=hS.head
  obtain ⟨cur,hh,hcs⟩:∃ cur,w.heap[g]? = some (.cells cur E (0,0))/\xs.length*R.sz<=cur.size:=by
   rcases hv with ⟨h,_⟩ | ⟨g',cap',cur,ccs,f2,h,hg',h1,h2,h3,_⟩
   ·simp at h
   ·simp at h
    obtain ⟨rfl,_⟩:=h
    exact ⟨cur,hg',by rw [h3];exact me _ h1⟩
  have hjm:j<R.sz:=by
   rcases hv with ⟨_,h,_⟩ | ⟨g',cap',cur,ccs,f2,_,_,_,_,_,_,h5,_⟩
   ·subst h;simp at hk
   ·obtain ⟨ec,f1,f2,f3,k1,_,_,_⟩:=pW h5 k hk
    have:=(hup w ec f2 k1).1
    rw [R.rd_len (R.own_rd k1)] at this;exact this
  have hkk:k*R.sz+R.sz<=xs.length*R.sz:=by have:=me R.sz hk;rw [tG] at this;exact this
  have hh':w.heap[g]? = some (.cells cur.toList.toArray E (0,0)):=by simpa using hh
  obtain ⟨w',hr,hnew,hc⟩:=jf (P:=P) [c] (k*R.sz+j) 0 cur.toList w hh' (by simp;omega) (by simpa using h1)
  have hsz:¬ ([c].toArray.size≠inf.size):=by simp;omega
  unfold Oper.wp execOp
  simp only [ha.eval,hx,Instr.storeAt,Instr.sureAddr,storeVar,sizeOf,typeInfo,hi,hy,dQ,fJ,mS,eI,hsz,nv,sq,sa,hr,xM]
  refine hK' _ _ (hK w' ?_ _ ha)
  refine hS.yJ ?_
  intro fp2 hv2 hnd2
  rcases hv2 with ⟨h,_⟩ | ⟨g',cap',cur',ccs,f2,h,hg',h1,h2,h3,h4,h5,rfl⟩
  ·simp at h
  ·simp at h
   obtain ⟨rfl,rfl,rfl⟩:=h
   obtain ⟨rfl⟩:cur'=cur:=by rw [hh] at hg';simpa using hg'.symm
   have h6:=Em h5 k hk hup
   have hoth:∀ x,x≠g->x<w.heap.size->w'.heap[x]? = w.heap[x]?:=fun x hx hlt=>hc.block x hlt (by simpa using hx)
   have hgn:g∉f2:=(jm.1 hnd2).1
   have hcl:ccs.length=xs.length*R.sz:=kw (i4 h5)
   refine ⟨g :: f2,.inr ⟨g,cap,_,ccs.set (k*R.sz+j) c,f2,by simp,hnew,by simpa using h1,h2,?_,?_,hU h6 (fun b hb=>hoth b (fun e=>hgn (e ▸ hb)) (iC h5 b hb)),rfl⟩,hnd2,hc.mono (by simp),fun b hb=>.inl hb⟩
   ·simp only [qj,bZ,c5,iH,tK,bP,mT]
    omega
   ·rw [<- h4,gd]
    have:=uk cur.toList [c] (k*R.sz+j) 1 (xs.length*R.sz) oa (by simpa using hcs) rfl
    simp only [mT,bP] at this ⊢
    rw [this,List.set_eq_take_append_cons_drop,aK (by simp;omega)]
    simp
end
theorem jq {P:Program} {n:Nat} {ops:Array Oper} {X:List Nat} {C:World->Prop} {K:Env->World->Prop} (i j:Nat) {f:Nat} {L:Array Bool} {e:Env} {w:World} {o o':Oper} (hr:Region.ready .any ops L=[i,j]) (ho:ops[i]? = some o) (ho':ops[j]? = some o')
  (h:EL P n ops (fun e' w'=>(X.contains i=true->C w')/\AL P n ops X C K f (L.setIfInBounds i true) e' w') [o] e w) (h':EL P n ops (fun e' w'=>(X.contains j=true->C w')/\AL P n ops X C K f (L.setIfInBounds j true) e' w') [o'] e w):AL P n ops X C K (f+1) L e w :=
 ⟨fun h0=>(by rw [h0] at hr;cases hr),fun k hk=>by
  rw [hr] at hk
  rcases bX.1 hk with rfl | hk
  ·exact ⟨o,ho,h⟩
  ·obtain rfl:k=j:=by simpa using hk
   exact ⟨o',ho',h'⟩⟩
theorem lv {P:Program} {n:Nat} {c:Code} {Q:Exit->Env->World->Prop} {e:Env} {w:World} (I:Env->World->Prop) (h1:CW P n c (fun x e w=>x=.normal/\I e w) e w) (h2:∀ e w,I e w->Q .normal e w):CW P n c Q e w:=by
 intro a ha
 refine rD (h1 a ha) ?_
 rintro x' a' w' ⟨e',he',rfl,hI⟩
 exact ⟨e',he',h2 _ _ hI⟩
def dn (m:Nat):Value->Int->Int->Value
 | .slice ao _ cap,lo,hi=>.slice (if cap=lo.toNat then ao else ao.map (·.add (lo.toNat*m))) (hi.toNat-lo.toNat) (cap-lo.toNat)
 | v,_,_=>v
section
variable {α:Type} {R:Rep α} {E:TypeId} {w w0:World} {v:Value} {xs ys:List α} {Γ:List Asn}
theorem tF {xs ys:List α} {lo hi:Int} (h:slc xs lo hi=some ys):∃ l k:Nat,lo=(l:Int)/\hi=(k:Int)/\l<=k/\k<=xs.length/\ys=(xs.take k).drop l:=by
 unfold slc at h
 split at h
 ·rename_i h0
  exact ⟨lo.toNat,hi.toNat,oa,oa,oa,oa,(bL h).symm⟩
 ·cases h
theorem Ny {m:Nat} {lo hi:Int} (hn:R.sz=m) (hr:(aG R E).rd w [v] xs) (hq:slc xs lo hi=some ys):(aG R E).rd w [dn m v lo hi] ys:=by
 obtain ⟨l,h,rfl,rfl,hlh,hh,rfl⟩:=tF hq
 obtain ⟨ao,cap,ccs,hv,h1,h2,h3,h4,h5⟩:=hr
 obtain rfl:v=.slice ao xs.length cap:=by simpa using hv
 have hlen:((xs.take h).drop l).length=h-l:=by simp;omega
 have hrd:=(r8 l (r8 h h4).1).2
 have hccl:=kw h4
 subst hn
 refine ⟨if cap=l then ao else ao.map (·.add (l*R.sz)),cap-l,_,by simp [dn,hlen],by rw [hlen];omega,oa,?_,hrd,?_⟩
 ·intro e
  split at e
  ·omega
  ·cases ao with
   | none=>have:=h3 rfl;omega
   | some _=>simp at e
 ·by_cases hcl:cap=l
  ·left
   have:h=l:=by omega
   subst this
   apply Bx
   simp
  ·rw [aS hcl]
   rcases h5 with rfl | ⟨b,off,rfl,h5⟩
   ·left;simp
   ·right
    refine ⟨b,off+l*R.sz,by simp [jK],fun j c hj=>?_⟩
    rw [Bb,jr] at hj
    split at hj
    ·rw [tm];exact h5 _ c hj
    ·cases hj
theorem CO {w:World}:∀ (k:Nat) {xs:List α} {ccs:List Value} {f:List Nat},fO R w ccs xs f->∃ f1 f2,f=f1++f2/\fO R w (ccs.take (k*R.sz)) (xs.take k) f1/\(∀ b∈f2,b<w.heap.size)
 | 0,xs,ccs,f,h=>⟨[],f,rfl,by simp [fO],iC h⟩
 | k+1,[],ccs,f,h=>by
  obtain ⟨rfl,rfl⟩:=h
  exact ⟨[],[],rfl,⟨by simp,rfl⟩,by simp⟩
 | k+1,x :: xs,ccs,f,h=>by
  obtain ⟨ec,rest,g1,g2,rfl,rfl,h1,h2⟩:=h
  obtain ⟨f1,f2,rfl,h3,h4⟩:=CO k h2
  refine ⟨g1++f1,f2,by simp,⟨ec,rest.take (k*R.sz),g1,f1,?_,rfl,h1,h3⟩,h4⟩
  have e:(k+1)*R.sz=ec.length+k*R.sz:=by rw [R.rd_len (R.own_rd h1),ma];omega
  rw [e,ve,nE oa,pv]
theorem Sat.prefix {m:Nat} {hi:Int} (hn:R.sz=m) (hS:Sat w0 w (Own (aG R E) [v] xs :: Γ)) (hq:slc xs 0 hi=some ys):Sat w0 w (Own (aG R E) [dn m v 0 hi] ys :: Γ):=by
 obtain ⟨l,k,hl,rfl,hlk,hk,rfl⟩:=tF hq
 obtain rfl:l=0:=by omega
 subst hn
 obtain ⟨ao,hao⟩:∃ A,A=Asn.mk (fun w fp=>True/\∀ b∈fp,b<w.heap.size) (fun h he=>⟨trivial,fun b hb=>by
  have h1:=h.2 b hb
  have h2:=he b hb
  rw [nY h1] at h2
  exact (jk.1 h2).1⟩) (fun h=>h.2):=⟨_,rfl⟩
 refine Sat.tail (A:=ao) ?_
 refine hS.zO fun f hf=>?_
 subst hao
 rcases hf with ⟨hv,rfl,rfl⟩ | ⟨g,cap,cur,ccs,f2,hv,hg,h1,h2,h3,h4,h5,rfl⟩
 ·obtain rfl:v=.slice none 0 0:=by simpa using hv
  simp only [gu,Nat.le_zero] at hk
  subst hk
  exact ⟨[],[],.refl _,⟨trivial,by simp⟩,.inl ⟨by simp [dn],by simp,rfl⟩⟩
 ·obtain rfl:v=.slice (some ⟨g,0,none⟩) xs.length cap:=by simpa using hv
  obtain ⟨f1,f3,rfl,h6,h7⟩:=CO k h5
  refine ⟨f3,g :: f1,?_,⟨trivial,h7⟩,.inr ⟨g,cap,cur,_,f1,?_,hg,?_,h2,h3,?_,h6,rfl⟩⟩
  ·exact List.perm_middle.trans (.cons _ ql)
  ·have hl:(xs.take k).length=k:=by simp;omega
   simp only [gE,hl,dn,eJ]
   by_cases hc:cap=0
   ·simp [hc]
   ·simp [hc,jK]
  ·simp;omega
  ·rw [<- h4]
   simp only [gE,c5,List.take_take]
   congr 1
   rw [nu hk]
   exact (nu (me _ hk)).symm
end
theorem uK {P:Program} {e:Env} {w wA:World} {d:Option Nat} {ty:TypeId} {pos:String} {af:Array Edge} {x:Operand} {v:Value} {α:Type} {R:Rep α} {E E':TypeId} {t:TypeId} {lo hi:Option Operand} [ht:SliceT P t E'] {z:List Value} {m yO:Nat} [hz:ElemT P E' z m yO]
    (hx:ev e x=v) {xs ys:List α} (hr:(aG R E).rd wA [v] xs) {l h:Int} (hlo:(lo.map (ev e)=some (.int .i64 l))\/(lo=none/\l=0)) (hhi:(hi.map (ev e)=some (.int .i64 h))\/(hi=none/\h=xs.length)) (hq:slc xs l h=some ys) :
    PV P ⟨d,.slice t x lo hi none,ty,pos,af,none⟩ e w (dn m v l h):=fun w' _=>by
  obtain ⟨l',h',rfl,rfl,hlh,hh,_⟩:=tF hq
  obtain ⟨ao,cap,ccs,hv,h1,h2,h3,h4,h5⟩:=hr
  obtain rfl:v=.slice ao xs.length cap:=by simpa using hv
  have hz:=hz.h
  cases hq':P.info? E' with
  | none=>simp [hq'] at hz
  | some inf =>
    simp [hq'] at hz
    have hcap:h'<=cap:=by omega
    have hsz:inf.size=m:=hz.2.1
    have hb:(Instr.sliceBounds true xs.length cap (lo.map (ev e)) (hi.map (ev e)) none).run P w'=.ok (l',h',cap) w':=by
      rcases hlo with e1 | ⟨e1,e1'⟩ <;> rcases hhi with e2 | ⟨e2,e2'⟩
      all_goals
        (try rw [e1]);(try rw [e2])
        first
          | (simp [Instr.sliceBounds,Instr.sliceBound,asIntOf,hcap,hlh];done)
          | (have:l'=0:=by omega
             subst this
             simp [Instr.sliceBounds,Instr.sliceBound,asIntOf,hcap,hlh];done)
          | (have:h'=xs.length:=by omega
             subst this
             simp [Instr.sliceBounds,Instr.sliceBound,asIntOf,hcap,hlh];done)
          | (have:l'=0:=by omega
             have:h'=xs.length:=by omega
             subst_vars
             simp [Instr.sliceBounds,Instr.sliceBound,asIntOf])
    unfold execOp
    simp only [hx,Instr.sliceAt,dQ,fY ht.h,eI,Instr.slice,hb,sizeOf,typeInfo,hq',mS,fJ,Option.map_none,dn,hsz,eJ]
theorem nI {α:Type} {R:Rep α} {E:TypeId} {w:World} {cs:List Value} {xs:List α} (h:(wx R E).rd w cs xs):(aG R E).rd w cs xs:=h
theorem mu {α:Type} {xs ys:List α} {hi:Int} (h:slc xs 1 hi=some ys):0<xs.length:=by
 obtain ⟨l,k,h1,h2,h3,h4,_⟩:=tF h;omega
theorem Ax {w W:World} {b o:Nat} (h:w.heap[b]? = W.heap[b]?):w.cell? ⟨b,o,none⟩=W.cell? ⟨b,o,none⟩:=by
 unfold World.cell?;simp [h]
def Frz (W:World) (F:List Nat):Asn where
 holds w fp:=fp=F/\(∀ b∈F,w.heap[b]? = W.heap[b]?)/\∀ b∈F,b<W.heap.size
 ext h he:=by obtain ⟨rfl,h1,h2⟩:=h;exact ⟨rfl,fun b hb=>(he b hb).trans (h1 b hb),h2⟩
 lt h:=by
  obtain ⟨rfl,h1,h2⟩:=h
  intro b hb
  have:=h1 b hb
  rw [nY (h2 b hb)] at this
  exact (jk.1 this).1
section
variable {α:Type} {R:Rep α} {W w w0:World} {Γ:List Asn} {F F':List Nat} {cs:List Value} {x:α}
theorem Sat.zU (hS:Sat w0 w (Own R cs x :: Γ)):∃ F,R.own w cs x F/\Sat w0 w (Frz w F :: Γ):=by
 obtain ⟨hb,_,⟨f1,f2,rfl,h1,h2⟩,hn,h3⟩:=hS
 exact ⟨f1,h1,hb,_,⟨f1,f2,rfl,⟨rfl,fun _ _=>rfl,R.own_lt h1⟩,h2⟩,hn,h3⟩
theorem Sat.zW (i:Nat) (hS:Sat w0 w Γ) (hi:Γ[i]? = some (Frz W F)):∀ b∈F,w.heap[b]? = W.heap[b]?:=by
 obtain ⟨fp,⟨rfl,h,_⟩,_⟩:=(hS.top i hi).head
 exact h
theorem Sat.zH (i:Nat) (hS:Sat w0 w Γ) (hi:Γ[i]? = some (Frz W F)) (h:R.own W cs x F') (hs:∀ b∈F',b∈F):R.rd w cs x :=
 R.own_rd (R.own_ext h (fun b hb=>hS.zW i hi b (hs b hb)))
theorem Sat.zE (i:Nat) (hS:Sat w0 w Γ) (hi:Γ[i]? = some (Frz W F)) {b off:Nat} {ec:List Value} (hb:b∈F) (hm:∀ j c,ec[j]? = some c->W.cell? ⟨b,off+j,none⟩=some c):∀ j c,ec[j]? = some c->w.cell? ⟨b,off+j,none⟩=some c :=
 fun j c hj=>by rw [Ax (hS.zW i hi b hb)];exact hm j c hj
end
section
variable {P:Program} {n:Nat} {ops:Array Oper} {X:List Nat} {C:World->Prop} {K:Env->World->Prop} {KQ:Env->Prop} {rest:List Oper} {e:Env} {w W:World} {v:Value} {d:Nat} {ty:TypeId} {pos:String} {af:Array Edge} {x y:Operand} {α:Type} {R:Rep α} {E:TypeId} {F:List Nat} {yN:Nat} {L:Array Bool}
theorem xe {d:Option Nat} {t:TypeId} [ht:SliceT P t E] {zz:List Value} {m yO:Nat} [hz:ElemT P E zz m yO] {xs:List α} (hs:ev e x=v) (hr:(aG R E).own W [v] xs F)
  (hn:R.sz=m) {k:IntKind} {i:Int} (hi:ev e y=.int k i) {u:α} (h:ix xs i=some u) :
  ∃ b off ec F2,R.own W ec u F2/\(∀ q∈F2,q∈F)/\b∈F/\(∀ j c,ec[j]? = some c->W.cell? ⟨b,off+j,none⟩=some c)/\∀ w,PV P ⟨d,.indexAddr t x y,ty,pos,af,none⟩ e w (.pointer (some ⟨b,off,none⟩)):=by
 obtain ⟨k',rfl,hk,rfl⟩:=gq h
 rcases hr with ⟨_,h2,_⟩ | ⟨g,cap,cur,ccs,f2,hv,hg,h1,h2,h3,h4,h5,rfl⟩
 ·subst h2;simp at hk
 obtain rfl:v=.slice (some ⟨g,0,none⟩) xs.length cap:=by simpa using hv
 obtain ⟨ec,f1,f2',f3,k1,rfl,k3,_⟩:=pW h5 k' hk
 have hz:=hz.h
 cases hq:P.info? E with
 | none=>simp [hq] at hz
 | some inf =>
  simp [hq] at hz
  have hsz:inf.size=m:=hz.2.1
  refine ⟨g,k'*m,ec,f2',k1,fun q hq=>by simp [hq],by simp,fun j c hj=>?_,fun w w' _=>?_⟩
  ·have h0:=k3 j c hj
   rw [kZ W g _ cur E (0,0) hg,<- mr]
   rw [<- h4,jr] at h0
   rw [<- hn]
   split at h0
   ·exact h0
   ·cases h0
  ·unfold execOp
   simp [hs,hi,Instr.indexAt,asIntOf,fY ht.h,sizeOf,typeInfo,hq,hk,jK,hsz]
theorem rT {t:TypeId} [SliceT P t E] {zz:List Value} {m yO:Nat} [ElemT P E zz m yO] {xs:List α} (hs:ev e x=v) (hr:(aG R E).own W [v] xs F) (hn:R.sz=m) {k:IntKind} {i:Int} (hi:ev e y=.int k i) {u:α} (h:ix xs i=some u) (hd:d<n)
  (hK:∀ b off ec F2,R.own W ec u F2->(∀ q∈F2,q∈F)->b∈F->(∀ j c,ec[j]? = some c->W.cell? ⟨b,off+j,none⟩=some c)->EL P n ops K rest (upd e d (.pointer (some ⟨b,off,none⟩))) w):EL P n ops K (⟨some d,.indexAddr t x y,ty,pos,af,none⟩ :: rest) e w:=by
 obtain ⟨b,off,ec,F2,h1,h2,h3,h4,h5⟩:=xe (P:=P) (d:=some d) (ty:=ty) (pos:=pos) (af:=af) (t:=t) hs hr hn hi h
 exact qn (h5 _) hd (hK b off ec F2 h1 h2 h3 h4)
theorem Cz {t:TypeId} [SliceT P t E] {zz:List Value} {m yO:Nat} [ElemT P E zz m yO] {xs:List α} (hs:ev e x=v) (hr:(aG R E).own W [v] xs F) (hn:R.sz=m) {k:IntKind} {i:Int} (hi:ev e y=.int k i) {u:α} (h:ix xs i=some u) (hd:d<n)
  (hK:∀ b off ec F2,R.own W ec u F2->(∀ q∈F2,q∈F)->b∈F->(∀ j c,ec[j]? = some c->W.cell? ⟨b,off+j,none⟩=some c)->QL P n ops w KQ rest (upd e d (.pointer (some ⟨b,off,none⟩)))):QL P n ops w KQ (⟨some d,.indexAddr t x y,ty,pos,af,none⟩ :: rest) e:=by
 obtain ⟨b,off,ec,F2,h1,h2,h3,h4,h5⟩:=xe (P:=P) (d:=some d) (ty:=ty) (pos:=pos) (af:=af) (t:=t) hs hr hn hi h
 exact yc (h5 _) hd (hK b off ec F2 h1 h2 h3 h4)
theorem m9 (hsel:nj ops=true) (i':Nat) {t:TypeId} [SliceT P t E] {zz:List Value} {m yO:Nat} [ElemT P E zz m yO] {xs:List α} (hi':ops[i']? = some ⟨some d,.indexAddr t x y,ty,pos,af,none⟩) (hC:C w) (hf:sZ ops X L i' ⟨some d,.indexAddr t x y,ty,pos,af,none⟩=true) (hrd:(Region.ready .any ops L).contains i'=true)
  (hs:ev e x=v) (hr:(aG R E).own W [v] xs F) (hn:R.sz=m) {k:IntKind} {i:Int} (hi:ev e y=.int k i) {u:α} (h:ix xs i=some u) (hd:d<n)
  (hK:∀ b off ec F2,R.own W ec u F2->(∀ q∈F2,q∈F)->b∈F->(∀ j c,ec[j]? = some c->W.cell? ⟨b,off+j,none⟩=some c)->AL P n ops X C K yN (L.setIfInBounds i' true) (upd e d (.pointer (some ⟨b,off,none⟩))) w):AL P n ops X C K (yN+1) L e w:=by
 obtain ⟨b,off,ec,F2,h1,h2,h3,h4,h5⟩:=xe (P:=P) (d:=some d) (ty:=ty) (pos:=pos) (af:=af) (t:=t) hs hr hn hi h
 exact GR hsel i' hi' rfl hd hC hf hrd (j6 rfl fun w' _=>h5 w') (hK b off ec F2 h1 h2 h3 h4)
end
theorem Sat.zZ {α:Type} {R:Rep α} {E:TypeId} {w w0:World} {v:Value} {xs:List α} {Γ:List Asn} (hS:Sat w0 w (Own (aG R E) [v] xs :: Γ)):∃ ao c ccs,v=.slice ao xs.length c/\(ao=none->c=0)/\ry w ao ccs/\Sat w0 w (tp R ccs xs :: Γ):=by
 obtain ⟨hb,_,⟨f1,f2,rfl,h1,h2⟩,hn,h3⟩:=hS
 rcases h1 with ⟨hv,rfl,rfl⟩ | ⟨g,cap,cur,ccs,f3,hv,hg,k1,k2,k3,k4,k5,rfl⟩
 ·exact ⟨none,0,[],by simpa using hv,fun _=>rfl,.inl rfl,hb,_,⟨[],f2,rfl,⟨rfl,rfl⟩,h2⟩,hn,h3⟩
 ·refine ⟨some ⟨g,0,none⟩,cap,ccs,by simpa using hv,by simp,.inr ⟨g,0,rfl,fun j c hj=>?_⟩,hb,f3++f2,⟨f3,f2,rfl,k5,h2⟩,(jm.1 hn).2,fun b hb'=>h3 b (cD _ hb')⟩
  rw [dA,kZ _ g j cur E (0,0) hg,<- mr]
  rw [<- k4,jr] at hj
  split at hj
  ·exact hj
  ·cases hj
theorem Ds {P:Program} {fn:Func} {n:Nat} {e:Env} {w:World} {R:Ending->World->Prop} (h:fn.results=#[]) (hR:R (.returned (.tuple #[])) w):Fin P fn n R .ret e w :=
 ⟨_,fun a ha=>by simp [results,h],hR⟩
section
variable {α:Type} {R:Rep α} {w0 w:World} {Γ:List Asn} {E:TypeId} {v:Value}
def pE (R:Rep α) (E:TypeId) (v:Value) (xs:List α) (i:Nat) (ec:List Value) (g m:Nat):Asn where
 holds w fp:=(B1 R E v xs i ec).holds w fp/\g∈fp/\∀ j c,ec[j]? = some c->w.cell? ⟨g,i*m+j,none⟩=some c
 ext h he:=⟨(B1 R E v xs i ec).ext h.1 he,h.2.1,fun j c hj=>by rw [Ax (he g h.2.1)];exact h.2.2 j c hj⟩
 lt h:=(B1 R E v xs i ec).lt h.1
theorem Sat.zN {xs:List α} {m:Nat} {i:Int} {u:α} (hS:Sat w0 w (Own (aG R E) [v] xs :: Γ)) (h:ix xs i=some u) (hn:R.sz=m) :
  ∃ g cap ec,v=.slice (some ⟨g,0,none⟩) xs.length cap/\R.rd w ec u/\Sat w0 w (Own R ec u :: pE R E v xs i.toNat ec g m :: Γ):=by
 obtain ⟨k,rfl,hk,rfl⟩:=gq h
 subst hn
 obtain ⟨fp,ho,_⟩:=hS.head
 rcases ho with ⟨_,h2,_⟩ | ⟨g,cap,cur,ccs,fe,hv,hg,h1,h2,h3,h4,h5,rfl⟩
 ·subst h2;simp at hk
 obtain ⟨ec,f1,f2,f3,k1,rfl,k3,k4⟩:=pW h5 k hk
 have hv:v=.slice (some ⟨g,0,none⟩) xs.length cap:=by simpa using hv
 have hm:∀ j c,ec[j]? = some c->w.cell? ⟨g,(k:Int).toNat*R.sz+j,none⟩=some c:=fun j c hj=>by
  have e2:=k3 j c hj
  simp only [eJ]
  rw [kZ w g _ cur E (0,0) hg,<- mr]
  rw [<- h4,jr] at e2
  split at e2
  ·exact e2
  ·cases e2
 refine ⟨g,cap,ec,hv,R.own_rd k1,?_⟩
 have hrl:=R.rd_len (R.own_rd k1)
 clear k1 k3 k4 h5 h4 h3 h2 h1 hg
 subst hv
 refine hS.zO fun f hf=>?_
 rcases hf with ⟨_,h2,_⟩ | ⟨g',cap',cur,ccs,fe,hv,hg,h1,h2,h3,h4,h5,rfl⟩
 ·subst h2;simp at hk
 obtain ⟨rfl,rfl⟩:g=g'/\cap=cap':=by simpa using hv
 obtain ⟨ec',f1,f2,f3,k1,rfl,k3,k4⟩:=pW h5 k hk
 have hec:ec=ec':=by
  refine kS (by rw [hrl,R.rd_len (R.own_rd k1)]) fun j hj1 hj2=>?_
  have e1:=hm j ec[j] (px hj1)
  have e2:=k3 j ec'[j] (px hj2)
  simp only [eJ] at e1
  rw [kZ w g _ cur E (0,0) hg,<- mr] at e1
  rw [<- h4,jr] at e2
  split at e2
  ·rw [e1] at e2;exact bL e2
  ·cases e2
 subst hec
 refine ⟨f2,g :: (f1++f3),?_,k1,⟨⟨fun b hb=>?_,fun w' y f' he ho=>⟨g :: (f1++(f'++f3)),?_,.inr ⟨g,cap,cur,ccs,_,by simp,by rw [he g (by simp)];exact hg,by simpa using h1,h2,h3,by simpa using h4,by
  simp only [eJ]
  exact k4 w' y f' (fun b hb=>he b (cD _ hb)) ho,rfl⟩⟩⟩,cx,hm⟩⟩
 ·refine List.perm_middle.trans (.cons _ ?_)
  rw [<- eS,<- eS]
  exact qh _ ql
 ·rcases bX.1 hb with rfl | hb
  ·exact (jk.1 hg).1
  ·refine iC h5 b ?_
   rcases cU.1 hb with h | h <;> simp [h]
 ·refine .trans (.cons _ ?_) List.perm_middle.symm
  rw [<- eS,<- eS]
  exact qh _ ql
theorem Sat.zP {xs ys:List α} {i:Int} {y:α} {ec:List Value} {g m:Nat} (hS:Sat w0 w (Own R ec y :: pE R E v xs i.toNat ec g m :: Γ)) (h:sto xs i y=some ys):Sat w0 w (Own (aG R E) [v] ys :: Γ):=by
 have e:ys=xs.set i.toNat y:=by
  unfold sto at h;split at h
  ·exact (bL h).symm
  ·cases h
 subst e
 exact hS.yC fun f g h1 h2=>h2.1.2 w y f (fun _ _=>rfl) h1
theorem Sat.zK (a:Nat) {xs:List α} {i g m:Nat} {ec:List Value} (hS:Sat w0 w Γ) (hi:Γ[a]? = some (pE R E v xs i ec g m)):∀ j c,ec[j]? = some c->w.cell? ⟨g,i*m+j,none⟩=some c:=by
 obtain ⟨fp,ho,_⟩:=(hS.top a hi).head
 exact ho.2.2
end
theorem rR {P:Program} {e:Env} {w:World} {v:Value} {ty:TypeId} {pos:String} {af:Array Edge} {x y:Operand} {α:Type} {E:TypeId} {d:Option Nat} {t:TypeId} [ht:SliceT P t E] {zz:List Value} {m yO:Nat} [hz:ElemT P E zz m yO] {xs:List α} (hs:ev e x=v) {g cap:Nat} (hv:v=.slice (some ⟨g,0,none⟩) xs.length cap) {k:IntKind} {j:Int} (hi:ev e y=.int k j) {u:α} (h:ix xs j=some u) :
  PV P ⟨d,.indexAddr t x y,ty,pos,af,none⟩ e w (.pointer (some ⟨g,j.toNat*m,none⟩)):=fun w' _=>by
 obtain ⟨k',rfl,hk,rfl⟩:=gq h
 subst hv
 have hz:=hz.h
 cases hq:P.info? E with
 | none=>simp [hq] at hz
 | some inf =>
  simp [hq] at hz
  have hsz:inf.size=m:=hz.2.1
  unfold execOp
  simp [hs,hi,Instr.indexAt,asIntOf,fY ht.h,sizeOf,typeInfo,hq,hk,jK,hsz]
def tk {α β:Type} (R:Rep α) (S:Rep β) (j:Nat) (u:α) (z:β) (y:α):Prop :=
 ∀ w ec f cs fa,R.own w ec u f->S.own w cs z fa->j+cs.length<=ec.length/\∃ f' g',R.own w (ec.take j++cs++ec.drop (j+cs.length)) y f'/\(f'++g').Perm (f++fa)
theorem BD {α:Type} {R:Rep α} (u z:α):tk R R 0 u z z:=fun w ec f cs fa h k=>by
 have e1:=R.rd_len (R.own_rd h)
 have e2:=R.rd_len (R.own_rd k)
 refine ⟨oa,fa,f,?_,ql⟩
 rw [dA,mN oa];simpa using k
theorem Bi {α β γ:Type} {R:Rep α} {T:Rep γ} {S:Rep β} {j k':Nat} {u:α × γ} {z:β} {y:γ} (h:tk T S j u.2 z y) (hk:k'=R.sz+j):tk (rz R T) S k' u z (u.1,y):=fun w ec f cs fa hf k=>by
 obtain ⟨c1,c2,f1,f2,rfl,rfl,h1,h2⟩:=hf
 obtain ⟨k1,f',g',k2,k3⟩:=h w c2 f2 cs fa h2 k
 have hl:=R.rd_len (R.own_rd h1)
 subst hk
 refine ⟨by simp;omega,f1++f',g',⟨c1,_,f1,f',?_,rfl,h1,k2⟩,sl.2 fun a=>?_⟩
 ·rw [<- hl,ve,List.drop_append,nE oa,mN oa]
  simp [tm]
 ·have:=sl.1 k3 a
  simp only [A7] at this ⊢;omega
theorem Ak {α β:Type} {R:Rep α} {S:Rep β} {w:World} {j:Nat} {cs:List Value} {z:β} {fa:List Nat} (hz:S.own w cs z fa) {y:α}:∀ {xs:List α} {ccs:List Value} {f:List Nat},fO R w ccs xs f->∀ (k:Nat) (hk:k<xs.length),tk R S j xs[k] z y ->
  k*R.sz+j+cs.length<=ccs.length/\∃ f' g',fO R w (ccs.take (k*R.sz+j)++cs++ccs.drop (k*R.sz+j+cs.length)) (xs.set k y) f'/\(f'++g').Perm (f++fa)
 | [],_,_,_,k,hk,_=>absurd hk (by simp)
 | x :: xs,_,_,h,k,hk,hu=>by
  obtain ⟨ec,rest,f1,f2,rfl,rfl,h1,h2⟩:=h
  cases k with
  | zero =>
   obtain ⟨k1,f',g',k2,k3⟩:=hu w ec f1 cs fa h1 hz
   refine ⟨by simp;omega,f'++f2,g',⟨_,rest,f',f2,?_,rfl,k2,h2⟩,sl.2 fun a=>?_⟩
   ·rw [s5,dA,List.take_append_of_le_length oa,List.drop_append_of_le_length oa];simp
   ·have:=sl.1 k3 a
    simp only [A7] at this ⊢;omega
  | succ k =>
   have hl:=R.rd_len (R.own_rd h1)
   obtain ⟨k1,f',g',k2,k3⟩:=Ak hz h2 k (by simpa using hk) (by simpa using hu)
   have e:(k+1)*R.sz+j=ec.length+(k*R.sz+j):=by rw [tG];omega
   refine ⟨by rw [e,bZ];omega,f1++f',g',⟨ec,_,f1,f',?_,rfl,h1,k2⟩,sl.2 fun a=>?_⟩
   ·rw [e,ve,List.drop_append,nE oa,mN oa]
    simp [tm]
   ·have:=sl.1 k3 a
    simp only [A7] at this ⊢;omega
section
variable {P:Program} {n:Nat} {ops:Array Oper} {K:Env->World->Prop} {rest:List Oper} {e:Env} {w w0:World} {v:Value} {ty:TypeId} {pos:String} {af:Array Edge} {Γ:List Asn} {x y:Operand} {α β:Type} {R:Rep α} {S:Rep β} {E:TypeId}
theorem xH {t:TypeId} {z:List Value} {m' yO:Nat} [hz:ElemT P t z m' yO] {xs ys:List α} {g ln cap o j m:Nat} {u yv:α} {zv:β} {cs:List Value} (hv:v=.slice (some ⟨g,0,none⟩) ln cap)
  (hS:Sat w0 w (Own S cs zv :: Own (aG R E) [v] xs :: Γ)) {i:Int} (hix:ix xs i=some u) (h:sto xs i yv=some ys) (hn:R.sz=m) (hs:S.sz=m') (ho:o=i.toNat*m+j) (hx:ev e x=.pointer (some ⟨g,o,none⟩)) (hy:(ev e y).cells=cs.toArray)
  (hup:tk R S j u zv yv) (hK:∀ w',Sat w0 w' (Own (aG R E) [v] ys :: Γ)->EL P n ops K rest e w'):EL P n ops K (⟨none,.store t x y,ty,pos,af,none⟩ :: rest) e w:=by
 intro a ha
 refine lq rfl fun K' hK'=>?_
 obtain ⟨k,rfl,hk,rfl⟩:=gq hix
 have hys:ys=xs.set k yv:=by
  unfold sto at h;split at h
  ·simpa using (bL h).symm
  ·cases h
 subst hys hv hn ho
 simp only [eJ] at hx
 have hz:=hz.h
 cases hi:P.info? t with
 | none=>simp [hi] at hz
 | some inf =>
  simp [hi] at hz
  have hS':Sat w0 w (GX (Own S cs zv) (Own (aG R E) [.slice (some ⟨g,0,none⟩) ln cap] xs) :: Γ):=hS.join fun f g h1 h2=>⟨f,g,rfl,h1,h2⟩
  obtain ⟨fp,⟨fy,f,rfl,hyo,hv⟩,hnd,_⟩:=hS'.head
  have hel:cs.length=S.sz:=S.rd_len (S.own_rd hyo)
  obtain ⟨cur,hh,hcs⟩:∃ cur,w.heap[g]? = some (.cells cur E (0,0))/\k*R.sz+j+cs.length<=cur.size:=by
   rcases hv with ⟨_,h,_⟩ | ⟨g',cap',cur,ccs,f2,h,hg',h1,h2,h3,h4,h5,_⟩
   ·subst h;simp at hk
   ·simp at h
    obtain ⟨rfl,_⟩:=h
    have:=(Ak hyo h5 k hk hup).1
    have hcl:ccs.length=xs.length*R.sz:=kw (i4 h5)
    exact ⟨cur,hg',by rw [h3];exact Nat.le_trans oa (me _ h1)⟩
  have hh':w.heap[g]? = some (.cells cur.toList.toArray E (0,0)):=by simpa using hh
  obtain ⟨w',hr,hnew,hc⟩:=jf (P:=P) cs (k*R.sz+j) 0 cur.toList w hh' (by simp;omega) (S.rd_one (S.own_rd hyo))
  have hsz:¬ (cs.toArray.size≠inf.size):=by simp;omega
  unfold Oper.wp execOp
  simp only [ha.eval,hx,Instr.storeAt,Instr.sureAddr,storeVar,sizeOf,typeInfo,hi,hy,dQ,fJ,mS,eI,hsz,nv,sq,sa,hr,xM]
  refine hK' _ _ (hK w' ?_ _ ha)
  refine hS'.yJ ?_
  rintro _ ⟨gy,gf,rfl,hy2,hv2⟩ hnd2
  rcases hv2 with ⟨_,h,_⟩ | ⟨g',cap',cur',ccs,f2,h,hg',h1,h2,h3,h4,h5,rfl⟩
  ·subst h;simp at hk
  ·simp at h
   obtain ⟨rfl,rfl,rfl⟩:=h
   obtain ⟨rfl⟩:cur'=cur:=by rw [hh] at hg';simpa using hg'.symm
   obtain ⟨hle,f',g',h6,hp⟩:=Ak hy2 h5 k hk hup
   have hoth:∀ x,x≠g->x<w.heap.size->w'.heap[x]? = w.heap[x]?:=fun x hx hlt=>hc.block x hlt (by simpa using hx)
   have hcl:ccs.length=xs.length*R.sz:=kw (i4 h5)
   have hpp:(f'++g'++[g]).Perm (gy++g :: f2):=sl.2 fun a=>by
    have:=sl.1 hp a
    simp only [A7,List.count_cons,List.count_nil] at this ⊢;omega
   have hnd3:=hpp.nodup_iff.2 hnd2
   have hgn:g∉f':=fun hm=>by
    have:=(mF.1 hnd3).2.2 g (ie _ hm) g (by simp)
    exact this rfl
   refine ⟨g :: f',.inr ⟨g,cap,_,ccs.take (k*R.sz+j)++cs++ccs.drop (k*R.sz+j+cs.length),f',by simp,hnew,by simpa using h1,h2,?_,?_,hU h6 (fun b hb=>hoth b (fun e=>hgn (e ▸ hb)) (iC h6 b hb)),rfl⟩,?_,hc.mono (by simp),fun b hb=>.inl ?_⟩
   ·simp only [qj,bZ,c5,iH,tK,mT]
    omega
   ·rw [<- h4,gd]
    have:=uk cur.toList cs (k*R.sz+j) cs.length (xs.length*R.sz) oa (by simp;have:=me R.sz h1;omega) rfl
    simp only [mT] at this ⊢
    rw [this]
   ·exact jm.2 ⟨hgn,(mF.1 (mF.1 hnd3).1).1⟩
   ·refine hpp.mem_iff.1 ?_
    rcases bX.1 hb with rfl | hb
    ·simp
    ·simp [hb]
end
theorem vq {e:Env} {i:Nat} {x:Operand} {v:Value} {l:List (Nat × Operand)} {vs:List Value} (h:(ev e x).cells=[v].toArray) (t:l.map (fun p=>(p.1,(ev e p.2).cells))=((vs.zipIdx (i+1)).map fun p=>(p.2,[p.1].toArray))) :
  ((i,x) :: l).map (fun p=>(p.1,(ev e p.2).cells))=(((v :: vs).zipIdx i).map fun p=>(p.2,[p.1].toArray)):=by rw [gH,List.zipIdx_cons,gH,h,t]
def fzR {α:Type} (W:World) (F:List Nat) (R:Rep α):Rep α where
 sz:=R.sz
 rd _ cs x:=∃ f,R.own W cs x f/\∀ b∈f,b∈F
 own _ cs x fp:=(∃ f,R.own W cs x f/\∀ b∈f,b∈F)/\fp=[]
 rd_len h:=by obtain ⟨f,h,_⟩:=h;exact R.rd_len (R.own_rd h)
 rd_one h:=by obtain ⟨f,h,_⟩:=h;exact R.rd_one (R.own_rd h)
 rd_ext h _:=h
 own_rd h:=h.1
 own_ext h _:=h
 own_lt h:=by rw [h.2];simp
section
variable {α:Type} {R:Rep α} {W w w0:World} {Γ:List Asn} {F:List Nat} {E:TypeId} {v:Value}
theorem FM:∀ {xs:List α} {ccs:List Value} {f:List Nat},fO R W ccs xs f->(∀ b∈f,b∈F)->fO (fzR W F R) w ccs xs []
 | [],_,_,h,_=>⟨h.1,rfl⟩
 | x :: xs,_,_,h,hs=>by
  obtain ⟨ec,rest,f1,f2,rfl,rfl,h1,h2⟩:=h
  exact ⟨ec,rest,[],[],rfl,rfl,⟨⟨f1,h1,fun b hb=>hs b (ie _ hb)⟩,rfl⟩,FM h2 fun b hb=>hs b (jx _ hb)⟩
theorem CR (he:∀ b∈F,w.heap[b]? = W.heap[b]?):∀ {xs:List α} {ccs:List Value} {f':List Nat},fO (fzR W F R) w ccs xs f'->∃ f,fO R w ccs xs f/\∀ b∈f,b∈F
 | [],_,_,h=>⟨[],⟨h.1,rfl⟩,by simp⟩
 | x :: xs,_,_,h=>by
  obtain ⟨ec,rest,f1,f2,rfl,rfl,⟨⟨f,h1,hs⟩,_⟩,h2⟩:=h
  obtain ⟨f3,h3,h4⟩:=CR he h2
  refine ⟨f++f3,⟨ec,rest,f,f3,rfl,rfl,R.own_ext h1 fun b hb=>he b (hs b hb),h3⟩,fun b hb=>?_⟩
  rcases cU.1 hb with h | h
  ·exact hs b h
  ·exact h4 b h
theorem Sat.yF {xs:List α} (hS:Sat w0 w (Own (aG R E) [v] xs :: Γ)):∃ F,Sat w0 w (Own (aG (fzR w F R) E) [v] xs :: Frz w F :: Γ):=by
 obtain ⟨hb,_,⟨f1,f2,rfl,h1,h2⟩,hn,h3⟩:=hS
 rcases h1 with ⟨k1,rfl,rfl⟩ | ⟨g,cap,cur,ccs,fe,hv,hg,k1,k2,k3,k4,k5,rfl⟩
 ·exact ⟨[],hb,f2,⟨[],f2,rfl,.inl ⟨k1,rfl,rfl⟩,[],f2,rfl,⟨rfl,by simp,by simp⟩,h2⟩,hn,h3⟩
 ·exact ⟨fe,hb,_,⟨[g],fe++f2,rfl,.inr ⟨g,cap,cur,ccs,[],hv,hg,k1,k2,k3,k4,FM k5 (fun _ h=>h),rfl⟩,fe,f2,rfl,⟨rfl,fun _ _=>rfl,iC k5⟩,h2⟩,hn,h3⟩
theorem Sat.yI {xs:List α} (hS:Sat w0 w (Own (aG (fzR W F R) E) [v] xs :: Frz W F :: Γ)):∃ F1 F2,(aG R E).own w [v] xs F1/\(∀ b∈F1,b∈F2)/\Sat w0 w (Frz w F2 :: Γ):=by
 obtain ⟨hb,_,⟨f1,_,rfl,h1,fF,f2,rfl,⟨rfl,he,hlt⟩,h2⟩,hn,h3⟩:=hS
 have hl:∀ b∈fF,b<w.heap.size:=fun b hb=>by
  have:=he b hb
  rw [nY (hlt b hb)] at this
  exact (jk.1 this).1
 rcases h1 with ⟨k1,rfl,rfl⟩ | ⟨g,cap,cur,ccs,fe,hv,hg,k1,k2,k3,k4,k5,rfl⟩
 ·exact ⟨[],fF,.inl ⟨k1,rfl,rfl⟩,by simp,hb,_,⟨fF,f2,rfl,⟨rfl,fun _ _=>rfl,hl⟩,h2⟩,hn,h3⟩
 ·obtain ⟨f,k6,k7⟩:=CR he k5
  have hfe:fe=[]:=by
   clear hn h3 k4 k3 hg
   suffices ∀ (xs:List α) (ccs:List Value) (f':List Nat),fO (fzR W fF R) w ccs xs f'->f'=[] from this _ _ _ k5
   intro xs
   induction xs with
   | nil=>intro _ _ h;exact h.2
   | cons x xs ih =>
    rintro _ _ ⟨ec,rest,f1,f2,rfl,rfl,⟨_,rfl⟩,h2⟩
    rw [ih _ _ h2];rfl
  subst hfe
  refine ⟨g :: f,g :: fF,.inr ⟨g,cap,cur,ccs,f,hv,hg,k1,k2,k3,k4,k6,rfl⟩,fun b hb=>?_,hb,_,⟨g :: fF,f2,rfl,⟨rfl,fun _ _=>rfl,fun b hb=>?_⟩,h2⟩,by simpa using hn,by simpa using h3⟩
  ·rcases bX.1 hb with rfl | h
   ·simp
   ·exact cD _ (k7 b h)
  ·rcases bX.1 hb with rfl | h
   ·exact (jk.1 hg).1
   ·exact hl b h
end
section
variable {α:Type} {R:Rep α} {W w w0 w1:World} {Γ:List Asn} {F F':List Nat} {E:TypeId} {v:Value} {cs:List Value} {x:α}
theorem Sat.zL (i:Nat) (hS:Sat w0 w Γ) (hi:Γ[i]? = some (Frz W F)) (h:R.own W cs x F') (hs:∀ b∈F',b∈F):R.own w cs x F' :=
 R.own_ext h (fun b hb=>hS.zW i hi b (hs b hb))
theorem Sat.zQ (hS:Sat w0 w (Frz W F :: Γ)):Sat w0 w (Frz w F :: Γ) :=
 hS.conv fun f h=>⟨h.1,fun _ _=>rfl,fun b hb=>(Frz W F).lt h b (by rw [h.1];exact hb)⟩
theorem Sat.yA {xs:List α} {i:Int} {u:α} {g m:Nat} (hS:Sat w0 w (Own R cs u :: pE R E v xs i.toNat cs g m :: Γ)) (h:ix xs i=some u):Sat w0 w (Own (aG R E) [v] xs :: Γ):=by
 obtain ⟨k,rfl,hk,rfl⟩:=gq h
 refine hS.zP (i:=(k:Int)) ?_
 unfold sto
 rw [aK oa,eJ,List.set_getElem_self]
theorem Sat.fzOne (hS:Sat w0 w Γ) (h:(fzR W F R).rd w1 cs x):Sat w0 w (tp (fzR W F R) cs [x] :: Γ) :=
 (hS.add (A:=Own (fzR W F R) cs x) ⟨h,rfl⟩).one
end
def dy (N:Nat) (a0 a1 a2:Int):Option Bool:=(bif decide (a1<=a0) then some (decide (a0<=a2)) else some false)
def dE (N:Nat):Nat->Int->ByteArray->yP->Int->Option (Sum Bool Int)
 | 0,_,_,_,_=>none
 | k+1,OJ,OK,U,J=>(bif decide (J<(U.length:Int)) then (ix U J).bind fun OL=>(bif (OL == OJ) then some (.inl true) else (ad J 1).bind fun OM=>dE N k OJ OK U OM) else some (.inr J))
def ii (N:Nat) (a0:ByteArray) (a1:yP) (a2:Int):Option Bool:=(dE N N a2 a0 a1 0).bind fun J=>lpS J (fun q=>some q) fun U=>some false
def iL (N:Nat):Nat->ByteArray->Int->Option (Sum Bool Int)
 | 0,_,_=>none
 | k+1,U,J=>(bif decide (J<(U.size:Int)) then (bx U J).bind fun OJ=>(bif decide (OJ<97) then some (.inl false) else (bx U J).bind fun OK=>(bif decide (122<OK) then some (.inl false) else (ad J 1).bind fun OL=>iL N k U OL)) else some (.inr J))
def jM (N:Nat) (a0:ByteArray):Option Bool:=(iL N N a0 0).bind fun J=>lpS J (fun q=>some q) fun OJ=>(dy N (a0.size:Int) 1 4).bind fun U=>some U
def mD (N:Nat):Nat->yP->Int->Int->Option (Sum Int Int)
 | 0,_,_,_=>none
 | k+1,U,OJ,J=>(bif decide (J<(U.length:Int)) then (ix U J).bind fun OK=>(bif (OK == OJ) then some (.inl J) else (ad J 1).bind fun OL=>mD N k U OJ OL) else some (.inr J))
def po (N:Nat) (a0:yP) (a1:Int):Option Int:=(mD N N a0 a1 0).bind fun J=>lpS J (fun q=>some q) fun U=>some (-1)
def eY (N:Nat):Nat->Int->(List (ByteArray×yP))->yP->Int->Int->Option (Sum Bool Int)
 | 0,_,_,_,_,_=>none
 | k+1,OK,U,OL,OJ,J=>(ix U OJ).bind fun OM=>(bif decide (J<(OM.2.length:Int)) then (ix U OJ).bind fun ON=>(ix ON.2 J).bind fun OO=>(sb OK 1).bind fun OP=>(dy N OO 0 OP).bind fun OQ=>(bif OQ then (ad J 1).bind fun OR=>eY N k OK U OL OJ OR else some (.inl false)) else some (.inr J))
def eZ (N:Nat):Nat->Int->(List (ByteArray×yP))->yP->Int->Option (Sum Bool Int)
 | 0,_,_,_,_=>none
 | k+1,OJ,U,OK,J=>(bif decide (J<(U.length:Int)) then (ix U J).bind fun OL=>(jM N OL.1).bind fun OM=>(bif OM then (ix U J).bind fun ON=>(dy N (ON.2.length:Int) 1 5).bind fun OO=>(bif OO then (eY N N OJ U OK J 0).bind fun OP=>lpS OP (fun q=>some (.inl q)) fun OR=>(ad J 1).bind fun OQ=>eZ N k OJ U OK OQ else some (.inl false)) else some (.inl false)) else some (.inr J))
def eC (N:Nat):Nat->Int->(List (ByteArray×yP))->yP->Int->Bool->Int->Option (Bool×Int)
 | 0,_,_,_,_,_,_=>none
 | k+1,OK,U,OL,OJ,OM,J=>(bif decide (J<(U.length:Int)) then (bif OM then (ad J 1).bind fun OO=>eC N k OK U OL OJ true OO else (ix U J).bind fun ON=>(ii N ON.1 ON.2 OJ).bind fun OP=>(ad J 1).bind fun OQ=>eC N k OK U OL OJ OP OQ) else some (OM,J))
def e9 (N:Nat):Nat->Int->(List (ByteArray×yP))->yP->Int->Option (Sum Bool Int)
 | 0,_,_,_,_=>none
 | k+1,U,OJ,OK,J=>(bif decide (J<U) then (eC N N U OJ OK J false 0).bind fun OL=>lpB OL fun (OM,OO)=>(bif OM then (ad J 1).bind fun ON=>e9 N k U OJ OK ON else some (.inl false)) else some (.inr J))
def fb (N:Nat):Nat->Int->(List (ByteArray×yP))->yP->Int->Option (Sum Bool Int)
 | 0,_,_,_,_=>none
 | k+1,OJ,OK,U,J=>(bif decide (J<(U.length:Int)) then (ix U J).bind fun OL=>(sb OJ 1).bind fun OM=>(dy N OL 0 OM).bind fun ON=>(bif ON then (slc U 0 J).bind fun OO=>(ix U J).bind fun OP=>(po N OO OP).bind fun OQ=>(bif decide (0<=OQ) then some (.inl false) else (ad J 1).bind fun OR=>fb N k OJ OK U OR) else some (.inl false)) else some (.inr J))
def g7 (N:Nat) (a0:Int) (a1:List (ByteArray×yP)) (a2:yP):Option Bool:=(dy N a0 1 5).bind fun J=>(bif J then (dy N (a1.length:Int) 1 4).bind fun U=>(bif U then (bif decide (a0<(a2.length:Int)) then some false else (eZ N N a0 a1 a2 0).bind fun OJ=>lpS OJ (fun q=>some q) fun OM=>(e9 N N a0 a1 a2 0).bind fun OK=>lpS OK (fun q=>some q) fun ON=>(fb N N a0 a1 a2 0).bind fun OL=>lpS OL (fun q=>some q) fun OO=>some true) else some false) else some false)
def eu (N:Nat):Nat->Int->(List (ByteArray×yP))->yP->T6_->T3_->T3_->T6_->T3_->T3_->Int->T3_->Int->Option (T3_×Int)
 | 0,_,_,_,_,_,_,_,_,_,_,_,_=>none
 | k+1,OL,U,OM,ON,OO,OP,OQ,OR,OS,OJ,OK,J=>(bif decide (J<(U.length:Int)) then (ix U J).bind fun OT=>(ii N OT.1 OT.2 OJ).bind fun OU=>(bif OU then (apd 16 OK [(1,1)]).bind fun OV=>(ad J 1).bind fun OW=>eu N k OL U OM ON OO OP OQ OR OS OJ OV OW else (apd 16 OK [(0,1)]).bind fun OX=>(ad J 1).bind fun OY=>eu N k OL U OM ON OO OP OQ OR OS OJ OX OY) else some (OK,J))
def eW (N:Nat):Nat->Int->(List (ByteArray×yP))->yP->T6_->T3_->T3_->T6_->T3_->T3_->Int->Option (T6_×T3_×Int)
 | 0,_,_,_,_,_,_,_,_,_,_=>none
 | k+1,U,OL,OM,ON,OO,OP,OJ,OK,OQ,J=>(bif decide (J<U) then (eu N N U OL OM ON OO OP OJ OK OQ J [] 0).bind fun OR=>lpB OR fun (OS,OW)=>(apd 24 OJ [OS]).bind fun OT=>(apd 16 OK [(1,1)]).bind fun OU=>(ad J 1).bind fun OV=>eW N k U OL OM ON OO OP OT OU OQ OV else some (OJ,OK,J))
def fd (N:Nat):Nat->Int->(List (ByteArray×yP))->yP->T6_->T3_->T3_->T6_->T3_->T3_->Int->Option (T3_×Int)
 | 0,_,_,_,_,_,_,_,_,_,_=>none
 | k+1,OK,U,OL,OM,ON,OO,OP,OQ,OJ,J=>(bif decide (J<(U.length:Int)) then (apd 16 OJ [(1,1)]).bind fun OR=>(ad J 1).bind fun OS=>fd N k OK U OL OM ON OO OP OQ OR OS else some (OJ,J))
def my (N:Nat) (a0:Int) (a1:List (ByteArray×yP)) (a2:yP):Option ((T6_×T3_×T3_)×Bool):=(g7 N a0 a1 a2).bind fun OJ=>(bif OJ then (eW N N a0 a1 a2 [] [] [] [] [] [] 0).bind fun OK=>lpB OK fun (J,U,ON)=>(fd N N a0 a1 a2 [] [] [] J U [] 0).bind fun OL=>lpB OL fun (OM,OO)=>some ((J,U,OM),true) else some (([],[],[]),false))
def eQ (N:Nat):Nat->Int->Int->Option T1_
 | 0,_,_=>none
 | k+1,U,J=>(bif (J != 0) then (rm U J).bind fun OJ=>eQ N k J OJ else some (U,J))
def gO (N:Nat) (a0 a1:Int):Option Int:=(eQ N N a0 a1).bind fun J=>lpB J fun (U,OJ)=>some U
def aR (N:Nat) (a0 a1:Int):Option Bool:=(dy N a1 1 1000000000).bind fun J=>(bif J then (dy N a0 (-1000000000) 1000000000).bind fun U=>(bif U then (sb 0 a0).bind fun OJ=>(gO N (imx a0 OJ) a1).bind fun OK=>some (OK == 1) else some false) else some false)
def fH (N:Nat):Nat->T6_->Int->Int->Int->Int->Option (Sum Bool Int)
 | 0,_,_,_,_,_=>none
 | k+1,U,OM,OJ,OK,J=>(bif decide (J<OJ) then (ix U OK).bind fun ON=>(ix ON J).bind fun OL=>(aR N OL.1 OL.2).bind fun OO=>(bif OO then (ad J 1).bind fun OP=>fH N k U OM OJ OK OP else some (.inl false)) else some (.inr J))
def fG (N:Nat):Nat->T6_->Int->Int->Int->Option (Sum Bool Int)
 | 0,_,_,_,_=>none
 | k+1,U,OK,OJ,J=>(bif decide (J<(U.length:Int)) then (ix U J).bind fun OL=>(bif ((OL.length:Int) != OJ) then some (.inl false) else (fH N N U OK OJ J 0).bind fun OM=>lpS OM (fun q=>some (.inl q)) fun OO=>(ad J 1).bind fun ON=>fG N k U OK OJ ON) else some (.inr J))
def gr (N:Nat) (a0:T6_) (a1 a2:Int):Option Bool:=(fG N N a0 a1 a2 0).bind fun J=>lpS J (fun q=>some q) fun U=>some ((a0.length:Int) == a1)
def dY (N:Nat) (a0:T6_) (a1 a2:T3_):Option Bool:=(dy N (a2.length:Int) 1 5).bind fun J=>(bif J then (dy N (a1.length:Int) 1 5).bind fun U=>(bif U then (gr N a0 (a1.length:Int) (a2.length:Int)).bind fun OJ=>(bif OJ then (gr N ([a2]) 1 (a2.length:Int)).bind fun OK=>(bif OK then (gr N ([a1]) 1 (a1.length:Int)).bind fun OL=>some OL else some false) else some false) else some false) else some false)
def cH (N:Nat):Nat->T3_->T3_->Int->Option (Sum Bool Int)
 | 0,_,_,_=>none
 | k+1,U,OJ,J=>(bif decide (J<(U.length:Int)) then (ix U J).bind fun OK=>(ix OJ J).bind fun OL=>(bif (OK.1 == OL.1&&OK.2 == OL.2) then (ad J 1).bind fun OM=>cH N k U OJ OM else some (.inl false)) else some (.inr J))
def gh (N:Nat) (a0 a1:T3_):Option Bool:=(bif ((a0.length:Int) != (a1.length:Int)) then some false else (cH N N a0 a1 0).bind fun J=>lpS J (fun q=>some q) fun U=>some true)
def ib (rec:Int->Int->Int->Option T2_) (N:Nat):Nat->Int->Int->T2_->Int->T2_->Int->Option (T2_×Int)
 | 0,_,_,_,_,_,_=>none
 | k+1,OL,OM,OJ,OK,U,J=>(bif decide (J<(U.length:Int)) then (ix U J).bind fun ON=>(apd 8 ([OK]) ON).bind fun OO=>(apd 24 OJ [OO]).bind fun OP=>(ad J 1).bind fun OQ=>ib rec N k OL OM OP OK U OQ else some (OJ,J))
def mj (rec:Int->Int->Int->Option T2_) (N:Nat):Nat->Int->Int->T2_->Int->Option (T2_×Int)
 | 0,_,_,_,_=>none
 | k+1,U,OJ,OK,J=>(ad J OJ).bind fun OL=>(bif decide (OL<=U) then (ad J 1).bind fun OM=>(sb OJ 1).bind fun ON=>(rec OM U ON).bind fun OO=>(ib rec N N U OJ OK J OO 0).bind fun OP=>lpB OP fun (OQ,OS)=>(ad J 1).bind fun OR=>mj rec N k U OJ OQ OR else some (OK,J))
def iX:Nat->Int->Int->Int->Option T2_
 | 0,_,_,_=>none
 | N+1,a0,a1,a2=>(bif (a2 == 0) then some ([[]]) else (mj (iX N) N N a1 a2 [] a0).bind fun J=>lpB J fun (U,OJ)=>some U)
def cL (N:Nat) (a0 a1:Int):Option (T1_×Bool):=(bif (a1 == 0) then some ((0,0),false) else (sb 0 4000000000000000000).bind fun OP=>(dy N a0 OP 4000000000000000000).bind fun OQ=>(bif OQ then (sb 0 4000000000000000000).bind fun OR=>(dy N a1 OR 4000000000000000000).bind fun OS=>(bif OS then (bif decide (a1<0) then (sb 0 a0).bind fun J=>(sb 0 a1).bind fun U=>(sb 0 J).bind fun OT=>(gO N (imx J OT) U).bind fun OJ=>(qt J OJ).bind fun OK=>(qt U OJ).bind fun OL=>(aR N OK OL).bind fun OU=>(bif OU then some ((OK,OL),true) else some ((0,0),false)) else (sb 0 a0).bind fun OV=>(gO N (imx a0 OV) a1).bind fun OM=>(qt a0 OM).bind fun ON=>(qt a1 OM).bind fun OO=>(aR N ON OO).bind fun OW=>(bif OW then some ((ON,OO),true) else some ((0,0),false))) else some ((0,0),false)) else some ((0,0),false)))
def gK (N:Nat) (a0 a1 a2 a3:Int):Option (T1_×Bool):=(aR N a0 a1).bind fun U=>(bif U then (aR N a2 a3).bind fun OJ=>(bif OJ then (ml a0 a3).bind fun OK=>(ml a1 a2).bind fun OL=>(cL N OK OL).bind fun J=>some ((J.1.1,J.1.2),J.2) else some ((0,0),false)) else some ((0,0),false))
def cO (N:Nat) (a0 a1 a2 a3:Int):Option (T1_×Bool):=(aR N a0 a1).bind fun U=>(bif U then (aR N a2 a3).bind fun OJ=>(bif OJ then (ml a0 a2).bind fun OK=>(ml a1 a3).bind fun OL=>(cL N OK OL).bind fun J=>some ((J.1.1,J.1.2),J.2) else some ((0,0),false)) else some ((0,0),false))
def cM (N:Nat) (a0 a1 a2 a3:Int):Option (T1_×Bool):=(aR N a0 a1).bind fun U=>(bif U then (aR N a2 a3).bind fun OJ=>(bif OJ then (ml a0 a3).bind fun OK=>(ml a2 a1).bind fun OL=>(ad OK OL).bind fun OM=>(ml a1 a3).bind fun ON=>(cL N OM ON).bind fun J=>some ((J.1.1,J.1.2),J.2) else some ((0,0),false)) else some ((0,0),false))
def iq (N:Nat) (a0 a1 a2 a3:Int):Option (T1_×Bool):=(aR N a2 a3).bind fun U=>(bif U then (sb 0 a2).bind fun OJ=>(cM N a0 a1 OJ a3).bind fun J=>some ((J.1.1,J.1.2),J.2) else some ((0,0),false))
def dJ (N:Nat):Nat->T6_->Int->Int->Int->Int->Bool->Int->Option (T6_×Bool×Int)
 | 0,_,_,_,_,_,_,_=>none
 | k+1,U,OL,OJ,OM,ON,OO,J=>(ix U OJ).bind fun OU=>(bif decide (J<(OU.length:Int)) then (bif OO then (ix U OL).bind fun OV=>(ix OV J).bind fun OQ=>(cO N OM ON OQ.1 OQ.2).bind fun OP=>(ix U OJ).bind fun OW=>(ix OW J).bind fun OR=>(iq N OR.1 OR.2 OP.1.1 OP.1.2).bind fun OK=>(bif OP.2 then (ix U OJ).bind fun OS=>(ix OS J).bind fun O3=>(sto OS J (OK.1.1,OK.1.2)).bind fun OX=>(sto U OJ OX).bind fun OY=>(ad J 1).bind fun OZ=>dJ N k OY OL OJ OM ON OK.2 OZ else (ix U OJ).bind fun OT=>(ix OT J).bind fun O4=>(sto OT J (OK.1.1,OK.1.2)).bind fun O0=>(sto U OJ O0).bind fun O1=>(ad J 1).bind fun O2=>dJ N k O1 OL OJ OM ON false O2) else some (U,OO,J)) else some (U,OO,J))
def d5 (N:Nat):Nat->T6_->Int->Int->Option (Sum (Bool×T6_) (T6_×Int))
 | 0,_,_,_=>none
 | k+1,OJ,J,U=>(bif decide (U<(OJ.length:Int)) then (bif (U == J) then (ad U 1).bind fun OO=>d5 N k OJ J OO else (ix OJ U).bind fun OP=>(ix OP J).bind fun OQ=>(bif (OQ.1 == 0) then (ad U 1).bind fun OR=>d5 N k OJ J OR else (ix OJ U).bind fun OS=>(ix OS J).bind fun OL=>(ix OJ J).bind fun OT=>(ix OT J).bind fun OM=>(gK N OL.1 OL.2 OM.1 OM.2).bind fun OK=>(dJ N N OJ J U OK.1.1 OK.1.2 OK.2 J).bind fun OU=>lpB OU fun (ON,OV,OX)=>(bif OV then (ad U 1).bind fun OW=>d5 N k ON J OW else some (.inl (false,ON))))) else some (.inr (OJ,U)))
def lH (N:Nat) (a0:T6_) (a1:Int):Option (Bool×T6_):=(d5 N N a0 a1 0).bind fun J=>lpS J (fun q=>some q) fun (U,OJ)=>some (true,U)
def cp (N:Nat):Nat->T6_->T3_->Int->T6_->Int->Option (Sum (T3_×Bool) (T6_×Int))
 | 0,_,_,_,_,_=>none
 | k+1,OJ,U,OK,OL,J=>(bif decide (J<OK) then (ix U J).bind fun OM=>(aR N OM.1 OM.2).bind fun OO=>(bif OO then (ix OJ J).bind fun OP=>(ix U J).bind fun ON=>(apd 16 [] OP).bind fun OQ=>(apd 16 OQ [(ON.1,ON.2)]).bind fun OR=>(apd 24 OL [OR]).bind fun OS=>(ad J 1).bind fun OT=>cp N k OJ U OK OS OT else some (.inl ([],false))) else some (.inr (OL,J)))
def cQ (N:Nat):Nat->Int->T6_->Int->Int->Option Int
 | 0,_,_,_,_=>none
 | k+1,U,OJ,OK,J=>(bif decide (J<U) then (ix OJ J).bind fun OL=>(ix OL OK).bind fun OM=>(bif (OM.1 == 0) then (ad J 1).bind fun ON=>cQ N k U OJ OK ON else some J) else some J)
def cq (N:Nat):Nat->Int->T6_->Int->Option (Sum (T3_×Bool) (T6_×Int))
 | 0,_,_,_=>none
 | k+1,OJ,U,J=>(bif decide (J<OJ) then (cQ N N OJ U J J).bind fun OM=>lpB OM fun OK=>(bif (OK == OJ) then some (.inl ([],false)) else (ix U OK).bind fun ON=>(ix U J).bind fun OO=>(ix U OK).bind fun OS=>(sto U OK OO).bind fun OP=>(sto OP J ON).bind fun OQ=>(lH N OQ J).bind fun OL=>(bif OL.1 then (ad J 1).bind fun OR=>cq N k OJ OL.2 OR else some (.inl ([],false)))) else some (.inr (U,J)))
def cu (N:Nat):Nat->Int->T6_->T3_->Int->Option (Sum (T3_×Bool) (T3_×Int))
 | 0,_,_,_,_=>none
 | k+1,OJ,OK,ON,J=>(bif decide (J<OJ) then (ix OK J).bind fun OO=>(ix OO OJ).bind fun OL=>(ix OK J).bind fun OP=>(ix OP J).bind fun OM=>(gK N OL.1 OL.2 OM.1 OM.2).bind fun U=>(bif U.2 then (apd 16 ON [(U.1.1,U.1.2)]).bind fun OQ=>(ad J 1).bind fun OR=>cu N k OJ OK OQ OR else some (.inl ([],false))) else some (.inr (ON,J)))
def cG (N:Nat) (a0:T6_) (a1:T3_):Option (T3_×Bool):=(bif decide (6<(a1.length:Int)) then some ([],false) else (gr N a0 (a1.length:Int) (a1.length:Int)).bind fun OL=>(bif OL then (cp N N a0 a1 (a1.length:Int) [] 0).bind fun J=>lpS J (fun q=>some q) fun (OM,OP)=>(cq N N (a1.length:Int) OM 0).bind fun U=>lpS U (fun q=>some q) fun (ON,OQ)=>(cu N N (a1.length:Int) ON [] 0).bind fun OJ=>lpS OJ (fun q=>some q) fun (OK,OO)=>some (OK,true) else some ([],false)))
def fA (N:Nat) (a0 a1 a2 a3:Int):Option Int:=(aR N a0 a1).bind fun OJ=>(bif OJ then (aR N a2 a3).bind fun OK=>(bif OK then (ml a0 a3).bind fun J=>(ml a2 a1).bind fun U=>(bif decide (J<U) then some (-1) else (bif decide (U<J) then some 1 else some 0)) else some 0) else some 0)
def bV (N:Nat):Nat->T3_->T3_->Int->Int->Int->Int->Int->Option (Sum (T1_×Bool) (Int×Int×Int))
 | 0,_,_,_,_,_,_,_=>none
 | k+1,U,OL,OQ,OR,OM,ON,J=>(bif decide (J<(U.length:Int)) then (ix U J).bind fun OO=>(ix OL J).bind fun OP=>(cO N OO.1 OO.2 OP.1 OP.2).bind fun OJ=>(bif OJ.2 then (cM N OM ON OJ.1.1 OJ.1.2).bind fun OK=>(bif OK.2 then (ad J 1).bind fun OS=>bV N k U OL OQ OR OK.1.1 OK.1.2 OS else some (.inl ((0,0),false))) else some (.inl ((0,0),false))) else some (.inr (OM,ON,J)))
def fq (N:Nat) (a0 a1:T3_):Option (T1_×Bool):=(bif ((a0.length:Int) != (a1.length:Int)) then some ((0,0),false) else (bV N N a0 a1 0 0 0 1 0).bind fun J=>lpS J (fun q=>some q) fun (U,OJ,OK)=>some ((U,OJ),true))
def bF (N:Nat):Nat->T6_->T3_->T3_->Int->Option (Sum (T3_×Bool) (T3_×Int))
 | 0,_,_,_,_=>none
 | k+1,U,OK,OL,J=>(bif decide (J<(U.length:Int)) then (ix U J).bind fun OM=>(fq N OM OK).bind fun OJ=>(bif OJ.2 then (apd 16 OL [(OJ.1.1,OJ.1.2)]).bind fun ON=>(ad J 1).bind fun OO=>bF N k U OK ON OO else some (.inl ([],false))) else some (.inr (OL,J)))
def dj (N:Nat) (a0:T6_) (a1:T3_):Option (T3_×Bool):=(bF N N a0 a1 [] 0).bind fun J=>lpS J (fun q=>some q) fun (U,OJ)=>some (U,true)
def eN (N:Nat):Nat->T3_->Int->T6_->T3_->T3_->Int->Option (Sum Bool Int)
 | 0,_,_,_,_,_,_=>none
 | k+1,U,OK,OL,OM,ON,J=>(bif decide (J<(U.length:Int)) then (ix U J).bind fun OJ=>(aR N OJ.1 OJ.2).bind fun OO=>(bif OO then (ix U J).bind fun OP=>(bif decide (OP.1<0) then some (.inl false) else (ad J 1).bind fun OQ=>eN N k U OK OL OM ON OQ) else some (.inl false)) else some (.inr J))
def dH (N:Nat):Nat->Int->T6_->T3_->T3_->T3_->Bool->Int->Option (Sum Bool Int)
 | 0,_,_,_,_,_,_,_=>none
 | k+1,OJ,ON,OK,OO,U,OP,J=>(bif decide (J<(U.length:Int)) then (ix U J).bind fun OL=>(ix OK J).bind fun OM=>(fA N OL.1 OL.2 OM.1 OM.2).bind fun OQ=>(ml OQ OJ).bind fun OR=>(bif decide (OR<0) then some (.inl false) else (ad J 1).bind fun OS=>dH N k OJ ON OK OO U OP OS) else some (.inr J))
def gQ (N:Nat) (a0:T6_) (a1 a2 a3:T3_) (a4:Int):Option Bool:=(dY N a0 a1 a2).bind fun U=>(bif U then (bif ((a3.length:Int) != (a2.length:Int)) then some false else (eN N N a3 a4 a0 a1 a2 0).bind fun OJ=>lpS OJ (fun q=>some q) fun OL=>(dj N a0 a3).bind fun J=>(dH N N a4 a0 a1 a2 J.1 J.2 0).bind fun OK=>lpS OK (fun q=>some q) fun OM=>some J.2) else some false)
def dN (N:Nat):Nat->Int->T6_->T3_->T3_->T6_->Int->Int->T2_->Int->T6_->T3_->Int->Int->T3_->Int->Option (T3_×Int)
 | 0,_,_,_,_,_,_,_,_,_,_,_,_,_,_,_=>none
 | k+1,OK,OL,OM,ON,OO,U,OP,OQ,OR,OS,OT,OU,OV,OJ,J=>(bif decide (J<U) then (apd 16 OJ [(0,1)]).bind fun OW=>(ad J 1).bind fun OX=>dN N k OK OL OM ON OO U OP OQ OR OS OT OU OV OW OX else some (OJ,J))
def dr (N:Nat):Nat->Int->T6_->T3_->T3_->T6_->Int->Int->T2_->Int->T6_->T3_->Int->Option (T6_×T3_×Int)
 | 0,_,_,_,_,_,_,_,_,_,_,_,_=>none
 | k+1,OR,OK,OL,OS,OT,OM,U,ON,OO,OP,OQ,J=>(bif decide (J<OM) then (ix ON OO).bind fun OX=>(ix OX J).bind fun OJ=>(bif decide (OJ<U) then (ix OK OJ).bind fun OY=>(apd 24 OP [OY]).bind fun OZ=>(ix OL OJ).bind fun OU=>(apd 16 OQ [(OU.1,OU.2)]).bind fun O0=>(ad J 1).bind fun O1=>dr N k OR OK OL OS OT OM U ON OO OZ O0 O1 else (dN N N OR OK OL OS OT OM U ON OO OP OQ J OJ [] 0).bind fun O2=>lpB O2 fun (OV,O7)=>(sb OJ U).bind fun OW=>(ix OV OW).bind fun O8=>(sto OV OW (1,1)).bind fun O3=>(apd 24 OP [O3]).bind fun O4=>(apd 16 OQ [(0,1)]).bind fun O5=>(ad J 1).bind fun O6=>dr N k OR OK OL OS OT OM U ON OO O4 O5 O6) else some (OP,OQ,J))
def dp (N:Nat):Nat->Int->T6_->T3_->T3_->T6_->Int->Int->T2_->Int->T3_->Bool->Int->Option (Bool×Int)
 | 0,_,_,_,_,_,_,_,_,_,_,_,_=>none
 | k+1,OK,OL,OM,ON,U,OO,OP,OQ,OR,OJ,OS,J=>(bif decide (J<(U.length:Int)) then (bif OS then (ad J 1).bind fun OT=>dp N k OK OL OM ON U OO OP OQ OR OJ true OT else (ix U J).bind fun OU=>(gh N OU OJ).bind fun OV=>(ad J 1).bind fun OW=>dp N k OK OL OM ON U OO OP OQ OR OJ OV OW) else some (OS,J))
def cg (N:Nat):Nat->Int->T6_->T3_->T3_->T6_->Int->Int->T2_->Int->Option (T6_×Int)
 | 0,_,_,_,_,_,_,_,_,_=>none
 | k+1,U,OJ,OK,OL,OM,OO,OP,ON,J=>(bif decide (J<(ON.length:Int)) then (dr N N U OJ OK OL OM OO OP ON J [] [] 0).bind fun OR=>lpB OR fun (OX,OY,O2)=>(cG N OX OY).bind fun OQ=>(bif OQ.2 then (gQ N OJ OK OL OQ.1 U).bind fun OZ=>(bif OZ then (dp N N U OJ OK OL OM OO OP ON J OQ.1 false 0).bind fun OS=>lpB OS fun (O0,O3)=>(bif O0 then (ad J 1).bind fun O1=>cg N k U OJ OK OL OM OO OP ON O1 else (apd 24 OM [OQ.1]).bind fun OT=>(ad J 1).bind fun OU=>cg N k U OJ OK OL OT OO OP ON OU) else (ad J 1).bind fun OV=>cg N k U OJ OK OL OM OO OP ON OV) else (ad J 1).bind fun OW=>cg N k U OJ OK OL OM OO OP ON OW) else some (OM,J))
def oP (N:Nat) (a0:T6_) (a1 a2:T3_) (a3:Int):Option T6_:=(ad (a1.length:Int) (a2.length:Int)).bind fun OJ=>(iX N 0 OJ (a2.length:Int)).bind fun OK=>(cg N N a3 a0 a1 a2 [] (a2.length:Int) (a1.length:Int) OK 0).bind fun J=>lpB J fun (U,OL)=>some U
def eM (N:Nat) (a0:T6_) (a1 a2:T3_):Option T6_:=(dY N a0 a1 a2).bind fun J=>(bif J then (oP N a0 a1 a2 1).bind fun U=>some U else some [])
def c4 (N:Nat):Nat->T3_->Int->Int->Option (Sum (yP×Int) T1_)
 | 0,_,_,_=>none
 | k+1,U,OJ,J=>(bif decide (J<(U.length:Int)) then (ix U J).bind fun OK=>(aR N OK.1 OK.2).bind fun OM=>(bif OM then (ix U J).bind fun ON=>(bif decide (ON.1<0) then some (.inl ([],0)) else (ix U J).bind fun OO=>(gO N OJ OO.2).bind fun OP=>(qt OJ OP).bind fun OQ=>(ix U J).bind fun OR=>(ml OQ OR.2).bind fun OL=>(bif decide (1000<OL) then some (.inl ([],0)) else (ad J 1).bind fun OS=>c4 N k U OL OS)) else some (.inl ([],0))) else some (.inr (OJ,J)))
def dU (N:Nat):Nat->T3_->Int->yP->Int->Option (yP×Int)
 | 0,_,_,_,_=>none
 | k+1,U,OJ,OK,J=>(bif decide (J<(U.length:Int)) then (ix U J).bind fun OL=>(ix U J).bind fun OM=>(qt OJ OM.2).bind fun ON=>(ml OL.1 ON).bind fun OO=>(apd 8 OK [OO]).bind fun OP=>(ad J 1).bind fun OQ=>dU N k U OJ OP OQ else some (OK,J))
def cB (N:Nat) (a0:T3_):Option (yP×Int):=(c4 N N a0 1 0).bind fun U=>lpS U (fun q=>some q) fun (J,OL)=>(dU N N a0 J [] 0).bind fun OJ=>lpB OJ fun (OK,OM)=>some (OK,J)
def ik (N:Nat):Nat->Int->yP->yP->Option (Int×yP)
 | 0,_,_,_=>none
 | k+1,J,OJ,U=>(bif decide (0<J) then (rm J 10).bind fun OK=>(apd 8 U [OK]).bind fun OL=>(qt J 10).bind fun OM=>ik N k OM OJ OL else some (J,U))
def fX (N:Nat) (a0:Int):Option yP:=(ik N N a0 [] []).bind fun J=>lpB J fun (OJ,U)=>some U
def fC (N:Nat):Nat->yP->Int->Option (Sum Bool Int)
 | 0,_,_=>none
 | k+1,U,J=>(bif decide (J<(U.length:Int)) then (ix U J).bind fun OJ=>(dy N OJ 0 9).bind fun OK=>(bif OK then (ad J 1).bind fun OL=>fC N k U OL else some (.inl false)) else some (.inr J))
def gD (N:Nat) (a0:yP):Option Bool:=(fC N N a0 0).bind fun J=>lpS J (fun q=>some q) fun OK=>(bif decide ((a0.length:Int)<=60) then (bif ((a0.length:Int) == 0) then some true else (sb (a0.length:Int) 1).bind fun U=>(ix a0 U).bind fun OJ=>some (OJ != 0)) else some false)
def iI (N:Nat):Nat->yP->yP->yP->Int->Int->Option (yP×Int×Int)
 | 0,_,_,_,_,_=>none
 | k+1,OJ,OL,OK,J,U=>(bif decide (U<(OJ.length:Int)) then (ix OJ U).bind fun ON=>(ad J ON).bind fun OM=>(rm OM 10).bind fun OO=>(apd 8 OK [OO]).bind fun OP=>(qt OM 10).bind fun OQ=>(ad U 1).bind fun OR=>iI N k OJ OL OP OQ OR else (bif decide (0<J) then (rm J 10).bind fun OS=>(apd 8 OK [OS]).bind fun OT=>(qt J 10).bind fun OU=>(ad U 1).bind fun OV=>iI N k OJ OL OT OU OV else some (OK,J,U)))
def kx (N:Nat):Nat->yP->yP->Option yP
 | 0,_,_=>none
 | k+1,U,J=>(bif decide (0<(J.length:Int)) then (sb (J.length:Int) 1).bind fun OJ=>(ix J OJ).bind fun OK=>(bif (OK == 0) then (sb (J.length:Int) 1).bind fun OL=>(slc J 0 OL).bind fun OM=>kx N k U OM else some J) else some J)
def lD (N:Nat) (a0:yP):Option (yP×Bool):=(iI N N a0 [] [] 0 0).bind fun U=>lpB U fun (OJ,OL,OM)=>(kx N N [] OJ).bind fun OK=>lpB OK fun J=>(bif decide (60<(J.length:Int)) then some ([],false) else some (J,true))
def gl (N:Nat):Nat->yP->yP->yP->yP->Int->Int->Option (yP×Int)
 | 0,_,_,_,_,_,_=>none
 | k+1,OL,OK,ON,U,OJ,J=>(bif decide (J<(OK.length:Int)) then (ad OJ J).bind fun OM=>(ad OJ J).bind fun OO=>(ix U OO).bind fun OP=>(ix OL OJ).bind fun OQ=>(ix OK J).bind fun OR=>(ml OQ OR).bind fun OS=>(ad OP OS).bind fun OT=>(ix U OM).bind fun OW=>(sto U OM OT).bind fun OU=>(ad J 1).bind fun OV=>gl N k OL OK ON OU OJ OV else some (U,J))
def gj (N:Nat):Nat->yP->yP->yP->yP->Int->Option (yP×Int)
 | 0,_,_,_,_,_=>none
 | k+1,U,OJ,OK,OL,J=>(bif decide (J<(U.length:Int)) then (gl N N U OJ OK OL J 0).bind fun OM=>lpB OM fun (ON,OP)=>(ad J 1).bind fun OO=>gj N k U OJ OK ON OO else some (OL,J))
def i8 (N:Nat) (a0 a1:yP):Option (yP×Bool):=(gD N a0).bind fun U=>(bif U then (gD N a1).bind fun OJ=>(bif OJ then (ad (a0.length:Int) (a1.length:Int)).bind fun OK=>(mk 8 (0:Int) OK).bind fun OL=>(gj N N a0 a1 [] OL 0).bind fun OM=>lpB OM fun (ON,OO)=>(lD N ON).bind fun J=>some (J.1,J.2) else some ([],false)) else some ([],false))
def d8 (N:Nat):Nat->Int->Int->yP->yP->Int->Option (Sum (yP×Bool) (yP×Int))
 | 0,_,_,_,_,_=>none
 | k+1,U,OJ,OM,OK,J=>(bif decide (J<OJ) then (fX N U).bind fun ON=>(i8 N OK ON).bind fun OL=>(bif OL.2 then (ad J 1).bind fun OO=>d8 N k U OJ OM OL.1 OO else some (.inl ([],false))) else some (.inr (OK,J)))
def gX (N:Nat) (a0 a1:Int):Option (yP×Bool):=(bif decide (a0<0) then some ([],false) else (dy N a1 0 100).bind fun J=>(bif J then (fX N 1).bind fun U=>(d8 N N a0 a1 [] U 0).bind fun OJ=>lpS OJ (fun q=>some q) fun (OK,OL)=>some (OK,true) else some ([],false)))
def bC (N:Nat):Nat->yP->yP->yP->yP->Int->Option (Sum (yP×Bool) (yP×Int))
 | 0,_,_,_,_,_=>none
 | k+1,U,OJ,ON,OK,J=>(bif decide (J<(U.length:Int)) then (ix U J).bind fun OO=>(ix OJ J).bind fun OP=>(gX N OO OP).bind fun OL=>(i8 N OK OL.1).bind fun OM=>(bif OL.2 then (bif OM.2 then (ad J 1).bind fun OQ=>bC N k U OJ ON OM.1 OQ else some (.inl ([],false))) else some (.inl ([],false))) else some (.inr (OK,J)))
def dl (N:Nat) (a0 a1:yP):Option (yP×Bool):=(bif ((a0.length:Int) != (a1.length:Int)) then some ([],false) else (fX N 1).bind fun J=>(bC N N a0 a1 [] J 0).bind fun U=>lpS U (fun q=>some q) fun (OJ,OK)=>some (OJ,true))
def gY (N:Nat):Nat->yP->yP->Int->Option (Sum Int Int)
 | 0,_,_,_=>none
 | k+1,U,OJ,J=>(bif decide (0<=J) then (ix U J).bind fun OK=>(ix OJ J).bind fun OL=>(bif decide (OK<OL) then some (.inl (-1)) else (ix U J).bind fun OM=>(ix OJ J).bind fun ON=>(bif decide (ON<OM) then some (.inl 1) else (sb J 1).bind fun OO=>gY N k U OJ OO)) else some (.inr J))
def fx (N:Nat) (a0 a1:yP):Option Int:=(gD N a0).bind fun J=>(bif J then (gD N a1).bind fun U=>(bif U then (bif ((a0.length:Int) != (a1.length:Int)) then (bif decide ((a0.length:Int)<(a1.length:Int)) then some (-1) else some 1) else (sb (a0.length:Int) 1).bind fun OJ=>(gY N N a0 a1 OJ).bind fun OK=>lpS OK (fun q=>some q) fun OL=>some 0) else some 0) else some 0)
def di (N:Nat):Nat->yP->yP->Int->yP->Int->Int->Option (yP×yP×Int)
 | 0,_,_,_,_,_,_=>none
 | k+1,OM,U,OK,OJ,OL,J=>(bif decide (J<(U.length:Int)) then (ix U J).bind fun ON=>(ml ON OL).bind fun OO=>(ix U J).bind fun OU=>(sto U J OO).bind fun OP=>(ix OJ J).bind fun OQ=>(ml OQ OK).bind fun OR=>(ix OJ J).bind fun OV=>(sto OJ J OR).bind fun OS=>(ad J 1).bind fun OT=>di N k OM OP OK OS OL OT else some (U,OJ,J))
def i6 (N:Nat) (a0:yP) (a1 a2:T3_):Option (Int×Bool):=(cB N a1).bind fun J=>(cB N a2).bind fun U=>(bif (J.2 == 0) then some (0,false) else (bif (U.2 == 0) then some (0,false) else (bif ((J.1.length:Int) != (a0.length:Int)) then some (0,false) else (bif ((U.1.length:Int) != (a0.length:Int)) then some (0,false) else (di N N a0 J.1 J.2 U.1 U.2 0).bind fun OL=>lpB OL fun (OM,ON,OP)=>(dl N a0 OM).bind fun OJ=>(dl N a0 ON).bind fun OK=>(bif OJ.2 then (bif OK.2 then (fx N OJ.1 OK.1).bind fun OO=>some (OO,true) else some (0,false)) else some (0,false))))))
def d9 (N:Nat):Nat->yP->T6_->T3_->T3_->Int->Option (Sum (T3_×Bool) Int)
 | 0,_,_,_,_,_=>none
 | k+1,U,OJ,OK,OL,J=>(bif decide (J<(U.length:Int)) then (ix U J).bind fun OM=>(dy N OM 0 16).bind fun ON=>(bif ON then (ad J 1).bind fun OO=>d9 N k U OJ OK OL OO else some (.inl ([],false))) else some (.inr J))
def dq (N:Nat):Nat->yP->T6_->T3_->Int->Option (T3_×Int)
 | 0,_,_,_,_=>none
 | k+1,OJ,U,OK,J=>(bif decide (J<(U.length:Int)) then (ix U J).bind fun OL=>(i6 N OJ OL OK).bind fun OM=>(bif decide (OM.1<0) then (ix U J).bind fun ON=>(ad J 1).bind fun OO=>dq N k OJ U ON OO else (ad J 1).bind fun OP=>dq N k OJ U OK OP) else some (OK,J))
def mL (N:Nat) (a0:Int) (a1:List (ByteArray×yP)) (a2 a3:yP):Option (T3_×Bool):=(my N a0 a1 a2).bind fun J=>(bif J.2 then (bif ((a3.length:Int) != (a1.length:Int)) then some ([],false) else (d9 N N a3 J.1.1 J.1.2.1 J.1.2.2 0).bind fun OJ=>lpS OJ (fun q=>some q) fun ON=>(eM N J.1.1 J.1.2.1 J.1.2.2).bind fun U=>(ix U 0).bind fun OK=>(dq N N a3 U OK 1).bind fun OL=>lpB OL fun (OM,OO)=>some (OM,true)) else some ([],false))
def dv (N:Nat) (a0 a1 a2:Int):Option Bool:=(bif decide (a1<=a0) then some (decide (a0<=a2)) else some false)
def j8 (N:Nat):Nat->Int->Int->Option T1_
 | 0,_,_=>none
 | k+1,U,J=>(bif (J != 0) then (rm U J).bind fun OJ=>j8 N k J OJ else some (U,J))
def kO (N:Nat) (a0 a1:Int):Option Int:=(j8 N N a0 a1).bind fun J=>lpB J fun (U,OJ)=>some U
def nq (N:Nat) (a0:Int):Option Int:=(sb 0 a0).bind fun J=>some (imx a0 J)
def bU (N:Nat) (a0 a1:Int):Option Bool:=(dv N a1 1 1000000000).bind fun J=>(bif J then (dv N a0 (-1000000000) 1000000000).bind fun U=>(bif U then (nq N a0).bind fun OJ=>(kO N OJ a1).bind fun OK=>some (OK == 1) else some false) else some false)
def fP (N:Nat):Nat->T3_->Int->T3_->Int->Int->Option (Sum (yP×Int) Int)
 | 0,_,_,_,_,_=>none
 | k+1,OL,OM,OJ,OK,J=>(bif decide (J<OK) then (ix OJ J).bind fun U=>(bU N U.1 U.2).bind fun ON=>(bif ON then (bif decide (U.1<0) then some (.inl ([],0)) else (ad J 1).bind fun OO=>fP N k OL OM OJ OK OO) else some (.inl ([],0))) else some (.inr J))
def fN (N:Nat):Nat->T3_->Int->T3_->Int->Int->Option (Sum (yP×Int) T1_)
 | 0,_,_,_,_,_=>none
 | k+1,ON,U,OJ,OK,J=>(bif decide (J<OK) then (ix OJ J).bind fun OL=>(kO N U OL.2).bind fun OO=>(qt U OO).bind fun OP=>(ml OP OL.2).bind fun OM=>(bif decide (1000<OM) then some (.inl ([],0)) else (ad J 1).bind fun OQ=>fN N k ON OM OJ OK OQ) else some (.inr (U,J)))
def dV (N:Nat):Nat->Int->yP->T3_->Int->Int->Option (yP×Int)
 | 0,_,_,_,_,_=>none
 | k+1,U,OJ,OK,OL,J=>(bif decide (J<OL) then (ix OK J).bind fun OM=>(qt U OM.2).bind fun ON=>(ml OM.1 ON).bind fun OO=>(apd 8 OJ [OO]).bind fun OP=>(ad J 1).bind fun OQ=>dV N k U OP OK OL OQ else some (OJ,J))
def fU (N:Nat) (a0:T3_):Option (yP×Int):=(fP N N a0 1 a0 (a0.length:Int) 0).bind fun U=>lpS U (fun q=>some q) fun OM=>(fN N N a0 1 a0 (a0.length:Int) 0).bind fun OJ=>lpS OJ (fun q=>some q) fun (J,ON)=>(dV N N J [] a0 (a0.length:Int) 0).bind fun OK=>lpB OK fun (OL,OO)=>some (OL,J)
def c8 (N:Nat):Nat->Int->yP->yP->Option (Int×yP)
 | 0,_,_,_=>none
 | k+1,J,OJ,U=>(bif decide (0<J) then (rm J 10).bind fun OK=>(apd 8 U [OK]).bind fun OL=>(qt J 10).bind fun OM=>c8 N k OM OJ OL else some (J,U))
def eK (N:Nat) (a0:Int):Option yP:=(c8 N N a0 [] []).bind fun J=>lpB J fun (OJ,U)=>some U
def fD (N:Nat):Nat->yP->Int->yP->Int->Int->Option (Sum Bool Int)
 | 0,_,_,_,_,_=>none
 | k+1,OK,OL,U,OJ,J=>(bif decide (J<OJ) then (ix U J).bind fun OM=>(dv N OM 0 9).bind fun ON=>(bif ON then (ad J 1).bind fun OO=>fD N k OK OL U OJ OO else some (.inl false)) else some (.inr J))
def gG (N:Nat) (a0:yP):Option Bool:=(fD N N a0 (a0.length:Int) a0 (a0.length:Int) 0).bind fun J=>lpS J (fun q=>some q) fun OK=>(bif decide ((a0.length:Int)<=60) then (bif ((a0.length:Int) == 0) then some true else (sb (a0.length:Int) 1).bind fun U=>(ix a0 U).bind fun OJ=>some (OJ != 0)) else some false)
def cP (N:Nat):Nat->yP->yP->yP->Int->Int->Option (yP×Int×Int)
 | 0,_,_,_,_,_=>none
 | k+1,OJ,OL,OK,J,U=>(bif decide (U<(OJ.length:Int)) then (ix OJ U).bind fun ON=>(ad J ON).bind fun OM=>(rm OM 10).bind fun OO=>(apd 8 OK [OO]).bind fun OP=>(qt OM 10).bind fun OQ=>(ad U 1).bind fun OR=>cP N k OJ OL OP OQ OR else (bif decide (0<J) then (rm J 10).bind fun OS=>(apd 8 OK [OS]).bind fun OT=>(qt J 10).bind fun OU=>(ad U 1).bind fun OV=>cP N k OJ OL OT OU OV else some (OK,J,U)))
def kF (N:Nat):Nat->yP->yP->Int->Option Int
 | 0,_,_,_=>none
 | k+1,OJ,U,J=>(bif decide (0<J) then (sb J 1).bind fun OK=>(ix U OK).bind fun OL=>(bif (OL == 0) then (sb J 1).bind fun OM=>kF N k OJ U OM else some J) else some J)
def iR (N:Nat) (a0:yP):Option (yP×Bool):=(cP N N a0 [] [] 0 0).bind fun OJ=>lpB OJ fun (J,OM,ON)=>(kF N N [] J (J.length:Int)).bind fun OK=>lpB OK fun U=>(slc J 0 U).bind fun OL=>(bif decide (60<U) then some ([],false) else some (OL,true))
def dO (N:Nat):Nat->yP->yP->yP->Int->Int->yP->Int->Int->yP->Int->Int->Option (yP×Int)
 | 0,_,_,_,_,_,_,_,_,_,_,_=>none
 | k+1,OO,OP,U,OK,OL,OQ,OR,OS,OM,ON,J=>(bif decide (J<ON) then (ix OM J).bind fun OT=>(ad OK J).bind fun OJ=>(ix U OJ).bind fun OU=>(ml OL OT).bind fun OV=>(ad OU OV).bind fun OW=>(ix U OJ).bind fun OZ=>(sto U OJ OW).bind fun OX=>(ad J 1).bind fun OY=>dO N k OO OP OX OK OL OQ OR OS OM ON OY else some (U,J))
def dP (N:Nat):Nat->yP->yP->yP->yP->Int->Int->Option (yP×Int)
 | 0,_,_,_,_,_,_=>none
 | k+1,U,OL,OM,OJ,OK,J=>(bif decide (J<OK) then (ix OJ J).bind fun ON=>(dO N N U OL OM J ON OJ OK J U (U.length:Int) 0).bind fun OO=>lpB OO fun (OP,OR)=>(ad J 1).bind fun OQ=>dP N k U OL OP OJ OK OQ else some (OM,J))
def gU (N:Nat) (a0 a1:yP):Option (yP×Bool):=(gG N a0).bind fun U=>(bif U then (gG N a1).bind fun OJ=>(bif OJ then (ad (a0.length:Int) (a1.length:Int)).bind fun OK=>(mk 8 (0:Int) OK).bind fun OL=>(dP N N a1 [] OL a0 (a0.length:Int) 0).bind fun OM=>lpB OM fun (ON,OO)=>(iR N ON).bind fun J=>some (J.1,J.2) else some ([],false)) else some ([],false))
def cK (N:Nat):Nat->Int->Int->yP->yP->Int->Option (Sum (yP×Bool) (yP×Int))
 | 0,_,_,_,_,_=>none
 | k+1,U,OJ,OM,OK,J=>(bif decide (J<OJ) then (eK N U).bind fun ON=>(gU N OK ON).bind fun OL=>(bif OL.2 then (ad J 1).bind fun OO=>cK N k U OJ OM OL.1 OO else some (.inl ([],false))) else some (.inr (OK,J)))
def gW (N:Nat) (a0 a1:Int):Option (yP×Bool):=(bif decide (a0<0) then some ([],false) else (dv N a1 0 100).bind fun J=>(bif J then (eK N 1).bind fun U=>(cK N N a0 a1 [] U 0).bind fun OJ=>lpS OJ (fun q=>some q) fun (OK,OL)=>some (OK,true) else some ([],false)))
def cz (N:Nat):Nat->yP->yP->yP->yP->Int->Int->Option (Sum (yP×Bool) (yP×Int))
 | 0,_,_,_,_,_,_=>none
 | k+1,U,OJ,OO,OK,OL,J=>(bif decide (J<OL) then (ix U J).bind fun OP=>(ix OJ J).bind fun OQ=>(gW N OP OQ).bind fun OM=>(gU N OK OM.1).bind fun ON=>(bif OM.2 then (bif ON.2 then (ad J 1).bind fun OR=>cz N k U OJ OO ON.1 OL OR else some (.inl ([],false))) else some (.inl ([],false))) else some (.inr (OK,J)))
def f8 (N:Nat) (a0 a1:yP):Option (yP×Bool):=(bif ((a0.length:Int) != (a1.length:Int)) then some ([],false) else (eK N 1).bind fun J=>(cz N N a0 a1 [] J (a0.length:Int) 0).bind fun U=>lpS U (fun q=>some q) fun (OJ,OK)=>some (OJ,true))
def gZ (N:Nat):Nat->Int->yP->yP->Int->Int->Option (yP×Int)
 | 0,_,_,_,_,_=>none
 | k+1,U,OJ,OK,OL,J=>(bif decide (J<OL) then (ix OK J).bind fun OM=>(ml OM U).bind fun ON=>(apd 8 OJ [ON]).bind fun OO=>(ad J 1).bind fun OP=>gZ N k U OO OK OL OP else some (OJ,J))
def nG (N:Nat) (a0:yP) (a1:Int):Option yP:=(gZ N N a1 [] a0 (a0.length:Int) 0).bind fun J=>lpB J fun (U,OJ)=>some U
def f9 (N:Nat) (a0 a1:Int):Option Int:=(bif decide (a0<a1) then some (-1) else (bif decide (a1<a0) then some 1 else some 0))
def dD (N:Nat):Nat->yP->yP->Int->Option (Sum Int Int)
 | 0,_,_,_=>none
 | k+1,U,OJ,J=>(bif decide (0<=J) then (ix U J).bind fun OK=>(ix OJ J).bind fun OL=>(bif (OK != OL) then (ix U J).bind fun OM=>(ix OJ J).bind fun ON=>(f9 N OM ON).bind fun OO=>some (.inl OO) else (sb J 1).bind fun OP=>dD N k U OJ OP) else some (.inr J))
def eO (N:Nat) (a0 a1:yP):Option Int:=(gG N a0).bind fun J=>(bif J then (gG N a1).bind fun U=>(bif U then (bif ((a0.length:Int) != (a1.length:Int)) then (f9 N (a0.length:Int) (a1.length:Int)).bind fun OJ=>some OJ else (sb (a0.length:Int) 1).bind fun OK=>(dD N N a0 a1 OK).bind fun OL=>lpS OL (fun q=>some q) fun OM=>some 0) else some 0) else some 0)
def i7 (N:Nat) (a0:yP) (a1 a2:T3_):Option (Int×Bool):=(fU N a1).bind fun J=>(fU N a2).bind fun U=>(bif ((a1.length:Int) != (a0.length:Int)) then some (0,false) else (bif ((a2.length:Int) != (a0.length:Int)) then some (0,false) else (bif (J.2 == 0) then some (0,false) else (bif (U.2 == 0) then some (0,false) else (nG N J.1 U.2).bind fun OL=>(f8 N a0 OL).bind fun OJ=>(nG N U.1 J.2).bind fun OM=>(f8 N a0 OM).bind fun OK=>(bif OJ.2 then (bif OK.2 then (eO N OJ.1 OK.1).bind fun ON=>some (ON,true) else some (0,false)) else some (0,false))))))
def mg (N:Nat):Nat->Int->yP->Int->Int->Option (Sum Int Int)
 | 0,_,_,_,_=>none
 | k+1,U,OJ,OK,J=>(bif decide (J<OK) then (ix OJ J).bind fun OL=>(bif (OL == U) then some (.inl J) else (ad J 1).bind fun OM=>mg N k U OJ OK OM) else some (.inr J))
def mQ (N:Nat) (a0:yP) (a1:Int):Option Int:=(mg N N a1 a0 (a0.length:Int) 0).bind fun J=>lpS J (fun q=>some q) fun U=>some (-1)
def nL (N:Nat) (a0:yP) (a1:Int):Option Bool:=(mQ N a0 a1).bind fun J=>some (decide (0<=J))
end Go.Proofs.YtijmbnbnojicjaaGreatDoor
