/- Short names for facts that are used often. -/
import Derived.WalkKit
import Derived.ProofKit
import Derived.WalkLawsBesides
import Derived.Outline
import Derived.Lib.Hide
import Derived.Deep.Quiet
import Derived.Deep.LoopGhost
import Derived.IntWalk
import Derived.Test.YteemghjjopdljaaGreatRows
import Derived.OpenShut
import Derived.Lib.SmallJoins
import Derived.Laws.BytesString
namespace Go.Proofs.YteemghjjopdljaaGreat
open Go.RowKit
theorem oa {p:Prop} (h:p:=by omega):p:=h
abbrev yQ := List Int
abbrev T1_ := Int × Int
abbrev T2_ := List yQ
abbrev T3_ := List T1_
abbrev T4_ := ByteArray × List Int
abbrev T5_ := Int × List yQ
abbrev T6_ := List T3_
abbrev T7_ := ByteArray × T5_
abbrev T8_ := List T7_
abbrev T9_ := Int × List T4_ × List Int
theorem bT:type_of% @List.length_singleton:=@List.length_singleton
theorem bF:type_of% @List.getElem_mem:=@List.getElem_mem
theorem b8:type_of% @List.length_append:=@List.length_append
theorem bW:type_of% @List.length_cons:=@List.length_cons
theorem bU:type_of% @Bool.and_eq_true:=@Bool.and_eq_true
theorem gk:type_of% @List.take_succ_eq_append_getElem:=@List.take_succ_eq_append_getElem
theorem dh:type_of% @List.length_take:=@List.length_take
theorem dM:type_of% @List.mem_cons_self:=@List.mem_cons_self
theorem fJ:type_of% @List.mem_cons_of_mem:=@List.mem_cons_of_mem
theorem cD:type_of% @List.length_map:=@List.length_map
theorem cZ:type_of% @List.mem_cons:=@List.mem_cons
theorem d8:type_of% @Result.andThen_ok:=@Result.andThen_ok
theorem fC:type_of% @List.take_length:=@List.take_length
theorem dj:type_of% @List.mem_append:=@List.mem_append
theorem bN:type_of% @Nat.le_refl:=@Nat.le_refl
theorem cW:type_of% @Bool.true_and:=@Bool.true_and
theorem c8:type_of% @Option.some.inj:=@Option.some.inj
theorem dL:type_of% @List.all_eq_true:=@List.all_eq_true
theorem fD:type_of% @List.mem_singleton:=@List.mem_singleton
theorem gV:type_of% @List.mem_append_left:=@List.mem_append_left
theorem dE:type_of% @Sem.run_bind:=@Sem.run_bind
theorem gT:type_of% @List.append_assoc:=@List.append_assoc
theorem fE:type_of% @List.map_append:=@List.map_append
theorem gR:type_of% @List.getElem_of_mem:=@List.getElem_of_mem
theorem fH:type_of% @List.length_nil:=@List.length_nil
theorem j0:type_of% @Array.getElem?_eq_some_iff:=@Array.getElem?_eq_some_iff
theorem cE:type_of% @Nat.zero_le:=@Nat.zero_le
theorem i7:type_of% @List.mem_append_right:=@List.mem_append_right
theorem gP:type_of% @List.length_set:=@List.length_set
theorem ma:type_of% @List.length_eq_zero_iff:=@List.length_eq_zero_iff
theorem fG:type_of% @Sem.run_pure:=@Sem.run_pure
theorem e9:type_of% @Nat.zero_add:=@Nat.zero_add
theorem lu:type_of% @List.drop_of_length_le:=@List.drop_of_length_le
theorem gS:type_of% @List.drop_zero:=@List.drop_zero
theorem fK:type_of% @List.mem_map:=@List.mem_map
theorem fI:type_of% @List.map_cons:=@List.map_cons
theorem jU:type_of% @List.pairwise_cons:=@List.pairwise_cons
theorem iR:type_of% @Int.toNat_natCast:=@Int.toNat_natCast
theorem jq:type_of% @List.length_drop:=@List.length_drop
theorem ky:type_of% @List.getElem_map:=@List.getElem_map
theorem lm:type_of% @List.getElem?_take:=@List.getElem?_take
theorem mc:type_of% @Nat.mul_le_mul_right:=@Nat.mul_le_mul_right
theorem nK:type_of% @Array.getElem?_eq_getElem:=@Array.getElem?_eq_getElem
theorem jN:type_of% @Rat.intCast_mul:=@Rat.intCast_mul
theorem nF:type_of% @List.take_of_length_le:=@List.take_of_length_le
theorem pL:type_of% @List.getD_eq_getElem?_getD:=@List.getD_eq_getElem?_getD
theorem nR:type_of% @Nat.pow_le_pow_right:=@Nat.pow_le_pow_right
theorem oz:type_of% @Nat.add_sub_cancel_left:=@Nat.add_sub_cancel_left
theorem iP:type_of% @Nat.sub_zero:=@Nat.sub_zero
theorem nV:type_of% @Int.eq_ofNat_of_zero_le:=@Int.eq_ofNat_of_zero_le
theorem mE:type_of% @List.nodup_append:=@List.nodup_append
theorem lV:type_of% @List.nodup_cons:=@List.nodup_cons
theorem pG:type_of% @Array.getElem?_toList:=@Array.getElem?_toList
theorem mP:type_of% @List.append_nil:=@List.append_nil
theorem lW:type_of% @List.mem_filter:=@List.mem_filter
theorem jv:type_of% @Bool.false_and:=@Bool.false_and
theorem qY:type_of% @List.getElem?_eq_getElem:=@List.getElem?_eq_getElem
theorem jM:type_of% @Addr.add_lit:=@Addr.add_lit
theorem oA:type_of% @List.takeWhile_cons:=@List.takeWhile_cons
theorem jZ:type_of% @Rat.pow_succ:=@Rat.pow_succ
theorem sQ:type_of% @List.pairwise_iff_getElem:=@List.pairwise_iff_getElem
theorem s6:type_of% @List.mem_or_eq_of_mem_set:=@List.mem_or_eq_of_mem_set
theorem oD:type_of% @List.range'_concat:=@List.range'_concat
theorem qS:type_of% @List.length_filter_le:=@List.length_filter_le
theorem uk:type_of% @Array.getD_eq_getD_getElem?:=@Array.getD_eq_getD_getElem?
theorem pO:type_of% @Bool.and_false:=@Bool.and_false
theorem qV:type_of% @List.mem_of_mem_take:=@List.mem_of_mem_take
theorem mz:type_of% @Rat.mul_nonneg:=@Rat.mul_nonneg
theorem sM:type_of% @List.ext_getElem:=@List.ext_getElem
theorem lh:type_of% @Nat.add_zero:=@Nat.add_zero
theorem oK:type_of% @List.not_mem_nil:=@List.not_mem_nil
theorem uQ:type_of% @List.getElem?_append_left:=@List.getElem?_append_left
theorem s7:type_of% @Classical.byContradiction:=@Classical.byContradiction
theorem ri:type_of% @List.toList_toArray:=@List.toList_toArray
theorem qP:type_of% @List.perm_iff_count:=@List.perm_iff_count
theorem pq:type_of% @List.size_toArray:=@List.size_toArray
theorem pE:type_of% @Option.some.injEq:=@Option.some.injEq
theorem wN:type_of% @Rat.mul_le_mul_of_nonneg_left:=@Rat.mul_le_mul_of_nonneg_left
theorem sX:type_of% @List.perm_append_comm:=@List.perm_append_comm
theorem sS:type_of% @Nat.eq_of_beq_eq_true:=@Nat.eq_of_beq_eq_true
theorem qX:type_of% @Nat.add_sub_cancel:=@Nat.add_sub_cancel
theorem kL:type_of% @Int.le_refl:=@Int.le_refl
theorem wP:type_of% @List.pairwise_singleton:=@List.pairwise_singleton
theorem uM:type_of% @Rat.intCast_eq_zero_iff:=@Rat.intCast_eq_zero_iff
theorem uF:type_of% @List.Perm.append_right:=@List.Perm.append_right
theorem nS:type_of% @List.map_nil:=@List.map_nil
theorem ni:type_of% @List.map_map:=@List.map_map
theorem s9:type_of% @Array.length_toList:=@Array.length_toList
theorem lw:type_of% @Nat.one_mul:=@Nat.one_mul
theorem pI:type_of% @Nat.mod_eq_of_lt:=@Nat.mod_eq_of_lt
theorem rr:type_of% @List.filter_cons:=@List.filter_cons
theorem wZ:type_of% @List.length_erase_of_mem:=@List.length_erase_of_mem
theorem lY:type_of% @Nat.add_mul:=@Nat.add_mul
theorem Ad:type_of% @List.eq_nil_of_length_eq_zero:=@List.eq_nil_of_length_eq_zero
theorem l9:type_of% @Nat.mul_le_mul:=@Nat.mul_le_mul
theorem um:type_of% @List.pairwise_append:=@List.pairwise_append
theorem sO:type_of% @List.flatMap_cons:=@List.flatMap_cons
theorem ru:type_of% @Nat.min_eq_left:=@Nat.min_eq_left
theorem rj:type_of% @Bool.or_eq_true:=@Bool.or_eq_true
theorem ua:type_of% @List.map_congr_left:=@List.map_congr_left
theorem uK:type_of% @List.take_succ_cons:=@List.take_succ_cons
theorem uP:type_of% @Int.toNat_of_nonneg:=@Int.toNat_of_nonneg
theorem Ar:type_of% @List.length_pos_of_mem:=@List.length_pos_of_mem
theorem s8:type_of% @Rat.intCast_le_intCast:=@Rat.intCast_le_intCast
theorem uA:type_of% @List.mem_flatMap:=@List.mem_flatMap
theorem Am:type_of% @List.getElem?_append_right:=@List.getElem?_append_right
theorem tc:type_of% @Bool.not_false:=@Bool.not_false
theorem uY:type_of% @List.filter_append:=@List.filter_append
theorem tf:type_of% @Nat.eq_zero_or_pos:=@Nat.eq_zero_or_pos
theorem us:type_of% @Rat.natCast_nonneg:=@Rat.natCast_nonneg
theorem wW:type_of% @List.length_replicate:=@List.length_replicate
theorem AB:type_of% @List.getElem?_eq_some_iff:=@List.getElem?_eq_some_iff
theorem AK:type_of% @List.mem_of_find?_eq_some:=@List.mem_of_find?_eq_some
theorem sJ:type_of% @Oper.upon_value:=@Oper.upon_value
theorem sY:type_of% @List.foldl_cons:=@List.foldl_cons
theorem C8:type_of% @Array.all_eq_true_iff_forall_mem:=@Array.all_eq_true_iff_forall_mem
theorem oQ:type_of% @Nat.mul_one:=@Nat.mul_one
theorem uh:type_of% @List.getElem_take:=@List.getElem_take
theorem nO:type_of% @Rat.div_def:=@Rat.div_def
theorem w9:type_of% @List.getElem_range':=@List.getElem_range'
theorem sI:type_of% @Nat.pow_le_pow_left:=@Nat.pow_le_pow_left
theorem uS:type_of% @List.take_append:=@List.take_append
theorem y9:type_of% @Int.dvd_mul_of_dvd_left:=@Int.dvd_mul_of_dvd_left
theorem zi:type_of% @Rat.mul_le_mul_of_nonneg_right:=@Rat.mul_le_mul_of_nonneg_right
theorem xl:type_of% @Bool.false_eq_true:=@Bool.false_eq_true
theorem sV:type_of% @Int.add_zero:=@Int.add_zero
theorem pZ:type_of% @Nat.pow_succ:=@Nat.pow_succ
theorem re:type_of% @Rat.pow_zero:=@Rat.pow_zero
theorem xe:type_of% @List.length_range':=@List.length_range'
theorem uG:type_of% @Rat.natCast_add:=@Rat.natCast_add
theorem ue:type_of% @Bool.false_or:=@Bool.false_or
theorem sK:type_of% @Nat.add_assoc:=@Nat.add_assoc
theorem rq:type_of% @List.sum_cons:=@List.sum_cons
theorem ry:type_of% @Int.le_of_dvd:=@Int.le_of_dvd
theorem AQ:type_of% @List.set_append_right:=@List.set_append_right
theorem AD:type_of% @Nat.le_of_ble_eq_true:=@Nat.le_of_ble_eq_true
theorem xc:type_of% @Bool.not_eq_true':=@Bool.not_eq_true'
theorem zt:type_of% @List.foldl_append:=@List.foldl_append
theorem q8:type_of% @Sem.run_ite:=@Sem.run_ite
theorem nY:type_of% @Int.mul_nonneg:=@Int.mul_nonneg
theorem AJ:type_of% @List.mem_erase_of_ne:=@List.mem_erase_of_ne
theorem zj:type_of% @List.getElem?_set_ne:=@List.getElem?_set_ne
theorem rp:type_of% @Nat.succ_mul:=@Nat.succ_mul
theorem rk:type_of% @Int.pow_succ:=@Int.pow_succ
theorem sL:type_of% @Int.le_of_lt:=@Int.le_of_lt
theorem rc:type_of% @Rat.le_of_lt:=@Rat.le_of_lt
theorem wn:type_of% @List.length_pos_iff:=@List.length_pos_iff
theorem Ab:type_of% @List.replicate_succ:=@List.replicate_succ
theorem AP:type_of% @List.filter_sublist:=@List.filter_sublist
theorem wL:type_of% @Bool.and_true:=@Bool.and_true
theorem uv:type_of% @Bool.not_true:=@Bool.not_true
theorem wJ:type_of% @List.take_left':=@List.take_left'
theorem wO:type_of% @Rat.intCast_neg:=@Rat.intCast_neg
theorem Ap:type_of% @List.getElem?_drop:=@List.getElem?_drop
theorem uc:type_of% @Nat.zero_mul:=@Nat.zero_mul
theorem w6:type_of% @Oper.upon_skip:=@Oper.upon_skip
theorem Ao:type_of% @Array.size_append:=@Array.size_append
theorem zf:type_of% @List.count_append:=@List.count_append
theorem lB:type_of% @Int.mul_le_mul:=@Int.mul_le_mul
theorem uD:type_of% @Int.mul_zero:=@Int.mul_zero
theorem za:type_of% @List.mem_range'_1:=@List.mem_range'_1
theorem AY:type_of% @Int.mul_le_mul_of_nonneg_right:=@Int.mul_le_mul_of_nonneg_right
theorem wm:type_of% @List.take_set:=@List.take_set
theorem uj:type_of% @List.all_cons:=@List.all_cons
theorem A3:type_of% @Int.mul_le_mul_of_nonneg_left:=@Int.mul_le_mul_of_nonneg_left
theorem sw:type_of% @Int.mul_one:=@Int.mul_one
theorem xj:type_of% @Rat.intCast_pos:=@Rat.intCast_pos
theorem wR:type_of% @Int.natCast_pow:=@Int.natCast_pow
theorem rn:type_of% @Nat.mul_le_mul_left:=@Nat.mul_le_mul_left
theorem uU:type_of% @Rat.le_trans:=@Rat.le_trans
theorem xh:type_of% @List.map_set:=@List.map_set
theorem wz:type_of% @Rat.zero_mul:=@Rat.zero_mul
theorem zl:type_of% @Rat.intCast_nonneg:=@Rat.intCast_nonneg
theorem AU:type_of% @Int.lt_of_le_of_lt:=@Int.lt_of_le_of_lt
theorem wv:type_of% @List.range'_succ:=@List.range'_succ
theorem w5:type_of% @Bool.not_eq_true:=@Bool.not_eq_true
theorem qT:type_of% @Ne.symm:=@Ne.symm
theorem sx:type_of% @Int.ofNat_le:=@Int.ofNat_le
theorem rC:type_of% @Nat.zero_pow:=@Nat.zero_pow
theorem uO:type_of% @Int.one_mul:=@Int.one_mul
theorem uz:type_of% @Nat.mul_comm:=@Nat.mul_comm
theorem zx:type_of% @Int.natCast_nonneg:=@Int.natCast_nonneg
theorem ag:type_of% @cond_true:=@cond_true
theorem am:type_of% @cond_false:=@cond_false
theorem aW:type_of% @decide_eq_true:=@decide_eq_true
theorem ba:type_of% @decide_eq_false:=@decide_eq_false
theorem aZ:type_of% @congrArg:=@congrArg
theorem aX:type_of% @if_pos:=@if_pos
theorem a9:type_of% @if_neg:=@if_neg
theorem dN:type_of% @decide_eq_true_eq:=@decide_eq_true_eq
theorem gb:type_of% @run_underlying:=@run_underlying
theorem lA:type_of% @wpList_plain:=@wpList_plain
theorem pW:type_of% @bne_eq_false_iff_eq:=@bne_eq_false_iff_eq
theorem ro:type_of% @of_decide_eq_true:=@of_decide_eq_true
theorem qU:type_of% @beq_eq_false_iff_ne:=@beq_eq_false_iff_ne
theorem nf:type_of% @cell_of_row:=@cell_of_row
theorem mF:type_of% @run_program:=@run_program
theorem jg:type_of% @dif_pos:=@dif_pos
theorem AZ:type_of% @decide_eq_false_iff_not:=@decide_eq_false_iff_not
theorem nj:type_of% @if_false:=@if_false
theorem qR:type_of% @beq_iff_eq:=@beq_iff_eq
theorem ra:type_of% @or_false:=@or_false
theorem qQ:type_of% @wp_mono:=@wp_mono
abbrev Ext (w w':World):Prop:=Below w.heap.size w w'

theorem Ext.refl (w:World):Ext w w:=Below.refl _ _
theorem Ext.trans {a b c:World} (h:Ext a b) (k:Ext b c):Ext a c:=Below.trans h (k.mono h.size)
theorem Below.andExt {B:Nat} {a b c:World} (h:Below B a b) (hB:B<=b.heap.size) (k:Ext b c):Below B a c:=Below.trans h (k.mono hB)

structure Chg (fp:List Nat) (w w':World):Prop where
 os:w'.os=w.os
 tape:w'.tape=w.tape
 output:w'.output=w.output
 size:w.heap.size<=w'.heap.size
 block:∀ k,k<w.heap.size->k∉fp->w'.heap[k]? = w.heap[k]?

theorem Chg.of_ext {w w':World} (h:Ext w w') (fp:List Nat):Chg fp w w':=⟨h.os,h.tape,h.output,h.size,fun k hk _=>h.block k hk⟩
theorem Chg.trans {fp:List Nat} {a b c:World} (h:Chg fp a b) (k:Chg fp b c):Chg fp a c :=
 ⟨k.os.trans h.os,k.tape.trans h.tape,k.output.trans h.output,Nat.le_trans h.size k.size,fun i hi hn=>(k.block i (Nat.lt_of_lt_of_le hi h.size) hn).trans (h.block i hi hn)⟩
theorem Chg.mono {fp fp':List Nat} {a b:World} (h:Chg fp a b) (hs:∀ x∈fp,x∈fp'):Chg fp' a b :=
 ⟨h.os,h.tape,h.output,h.size,fun k hk hn=>h.block k hk (fun hm=>hn (hs k hm))⟩
theorem Chg.ext {a b:World} (h:Chg [] a b):Ext a b:=⟨h.os,h.tape,h.output,h.size,fun k hk=>h.block k hk (by simp)⟩
theorem Chg.refl (fp:List Nat) (w:World):Chg fp w w:=⟨rfl,rfl,rfl,bN _,fun _ _ _=>rfl⟩
theorem Chg.alloc (w:World) (o:Obj):Chg [] w (w.alloc o):=Chg.of_ext ((Below.refl _ _).alloc (bN _) o) _

theorem F8 {B:Nat} {a b c:World} {fp:List Nat} (h:Below B a b) (hB:B<=b.heap.size) (k:Chg fp b c) (hf:∀ x∈fp,B<=x):Below B a c :=
  ⟨k.os.trans h.os,k.tape.trans h.tape,k.output.trans h.output,Nat.le_trans h.size k.size,
   fun i hi=>(k.block i (Nat.lt_of_lt_of_le hi hB) (fun hm=>by have:=hf i hm;omega)).trans (h.block i hi)⟩

structure Rep (α:Type) where
 sz:Nat
 rd:World->List Value->α->Prop
 own:World->List Value->α->List Nat->Prop
 rd_len:∀ {w cs x},rd w cs x->cs.length=sz
 rd_one:∀ {w cs x},rd w cs x->∀ c∈cs,c.oneCell'=true
 rd_ext:∀ {w w' cs x},rd w cs x->Ext w w'->rd w' cs x
 own_rd:∀ {w cs x fp},own w cs x fp->rd w cs x
 own_ext:∀ {w w' cs x fp},own w cs x fp->(∀ b∈fp,w'.heap[b]? = w.heap[b]?)->own w' cs x fp
 own_lt:∀ {w cs x fp},own w cs x fp->∀ b∈fp,b<w.heap.size

def bX:Rep Int where
 sz:=1
 rd _ cs n:=cs=[.int .i64 n]
 own _ cs n fp:=cs=[.int .i64 n]/\fp=[]
 rd_len h:=by subst h;rfl
 rd_one h:=by subst h;simp [Value.oneCell']
 rd_ext h _:=h
 own_rd h:=h.1
 own_ext h _:=h
 own_lt h:=by rw [h.2];simp

def nv:Rep ByteArray where
 sz:=1
 rd _ cs s:=cs=[.string s]/\s.size<=9223372036854775807
 own _ cs s fp:=(cs=[.string s]/\s.size<=9223372036854775807)/\fp=[]
 rd_len h:=by rw [h.1];rfl
 rd_one h:=by rw [h.1];simp [Value.oneCell']
 rd_ext h _:=h
 own_rd h:=h.1
 own_ext h _:=h
 own_lt h:=by rw [h.2];simp

def rN {α β:Type} (R:Rep α) (S:Rep β):Rep (α × β) where
 sz:=R.sz+S.sz
 rd w cs x:=∃ c1 c2,cs=c1++c2/\R.rd w c1 x.1/\S.rd w c2 x.2
 own w cs x fp:=∃ c1 c2 f1 f2,cs=c1++c2/\fp=f1++f2/\R.own w c1 x.1 f1/\S.own w c2 x.2 f2
 rd_len h:=by obtain ⟨c1,c2,rfl,h1,h2⟩:=h;rw [b8,R.rd_len h1,S.rd_len h2]
 rd_one h:=by
  obtain ⟨c1,c2,rfl,h1,h2⟩:=h
  intro c hc
  rcases dj.1 hc with h | h
  ·exact R.rd_one h1 c h
  ·exact S.rd_one h2 c h
 rd_ext h he:=by obtain ⟨c1,c2,rfl,h1,h2⟩:=h;exact ⟨c1,c2,rfl,R.rd_ext h1 he,S.rd_ext h2 he⟩
 own_rd h:=by obtain ⟨c1,c2,f1,f2,rfl,rfl,h1,h2⟩:=h;exact ⟨c1,c2,rfl,R.own_rd h1,S.own_rd h2⟩
 own_ext h he:=by
  obtain ⟨c1,c2,f1,f2,rfl,rfl,h1,h2⟩:=h
  exact ⟨c1,c2,f1,f2,rfl,rfl,R.own_ext h1 (fun b hb=>he b (gV _ hb)),S.own_ext h2 (fun b hb=>he b (i7 _ hb))⟩
 own_lt h:=by
  obtain ⟨c1,c2,f1,f2,rfl,rfl,h1,h2⟩:=h
  intro b hb
  rcases dj.1 hb with h | h
  ·exact R.own_lt h1 b h
  ·exact S.own_lt h2 b h

def rT (w:World) (ao:Option Addr) (ccs:List Value):Prop :=
 ccs=[]\/∃ b off,ao=some ⟨b,off,none⟩/\∀ j c,ccs[j]? = some c->w.cell? ⟨b,off+j,none⟩=some c

section
variable {α:Type} (R:Rep α)
def rdL (w:World):List Value->List α->Prop
 | ccs,[]=>ccs=[]
 | ccs,x :: xs=>∃ ec rest,ccs=ec++rest/\R.rd w ec x/\rdL w rest xs
def fW (w:World):List Value->List α->List Nat->Prop
 | ccs,[],fp=>ccs=[]/\fp=[]
 | ccs,x :: xs,fp=>∃ ec rest f1 f2,ccs=ec++rest/\fp=f1++f2/\R.own w ec x f1/\fW w rest xs f2
variable {R}
theorem j6 {w:World}:∀ {xs:List α} {ccs:List Value},rdL R w ccs xs->ccs.length=xs.length*R.sz
 | [],_,h=>by simp only [rdL] at h;subst h;simp
 | x :: xs,_,h=>by
  obtain ⟨ec,rest,rfl,h1,h2⟩:=h
  rw [b8,R.rd_len h1,j6 h2,bW,lY,lw,Nat.add_comm]
theorem E3 {w:World}:∀ {xs:List α} {ccs:List Value},rdL R w ccs xs->∀ c∈ccs,c.oneCell'=true
 | [],_,h=>by simp only [rdL] at h;subst h;simp
 | x :: xs,_,h=>by
  obtain ⟨ec,rest,rfl,h1,h2⟩:=h
  intro c hc
  rcases dj.1 hc with h | h
  ·exact R.rd_one h1 c h
  ·exact E3 h2 c h
theorem EV {w w':World} (he:Ext w w'):∀ {xs:List α} {ccs:List Value},rdL R w ccs xs->rdL R w' ccs xs
 | [],_,h=>h
 | x :: xs,_,h=>by
  obtain ⟨ec,rest,rfl,h1,h2⟩:=h
  exact ⟨ec,rest,rfl,R.rd_ext h1 he,EV he h2⟩
theorem jb {w:World}:∀ {xs:List α} {ccs:List Value} {fp:List Nat},fW R w ccs xs fp->rdL R w ccs xs
 | [],_,_,h=>h.1
 | x :: xs,_,_,h=>by
  obtain ⟨ec,rest,f1,f2,rfl,rfl,h1,h2⟩:=h
  exact ⟨ec,rest,rfl,R.own_rd h1,jb h2⟩
theorem hQ {w w':World}:∀ {xs:List α} {ccs:List Value} {fp:List Nat},fW R w ccs xs fp->(∀ b∈fp,w'.heap[b]? = w.heap[b]?)->fW R w' ccs xs fp
 | [],_,_,h,_=>h
 | x :: xs,_,_,h,he=>by
  obtain ⟨ec,rest,f1,f2,rfl,rfl,h1,h2⟩:=h
  exact ⟨ec,rest,f1,f2,rfl,rfl,R.own_ext h1 (fun b hb=>he b (gV _ hb)),hQ h2 (fun b hb=>he b (i7 _ hb))⟩
theorem iE {w:World}:∀ {xs:List α} {ccs:List Value} {fp:List Nat},fW R w ccs xs fp->∀ b∈fp,b<w.heap.size
 | [],_,_,h=>by rw [h.2];simp
 | x :: xs,_,_,h=>by
  obtain ⟨ec,rest,f1,f2,rfl,rfl,h1,h2⟩:=h
  intro b hb
  rcases dj.1 hb with h | h
  ·exact R.own_lt h1 b h
  ·exact iE h2 b h
theorem tN {w:World} {ys:List α} {ccs':List Value} {fp':List Nat} (h':fW R w ccs' ys fp') :
  ∀ {xs:List α} {ccs:List Value} {fp:List Nat},fW R w ccs xs fp->fW R w (ccs++ccs') (xs++ys) (fp++fp')
 | [],_,_,h=>by obtain ⟨rfl,rfl⟩:=h;simpa using h'
 | x :: xs,_,_,h=>by
  obtain ⟨ec,rest,f1,f2,rfl,rfl,h1,h2⟩:=h
  exact ⟨ec,rest++ccs',f1,f2++fp',by simp,by simp,h1,tN h' h2⟩
theorem AE {w:World} {ys:List α} {ccs':List Value} (h':rdL R w ccs' ys) :
  ∀ {xs:List α} {ccs:List Value},rdL R w ccs xs->rdL R w (ccs++ccs') (xs++ys)
 | [],_,h=>by simp only [rdL] at h;subst h;simpa using h'
 | x :: xs,_,h=>by
  obtain ⟨ec,rest,rfl,h1,h2⟩:=h
  exact ⟨ec,rest++ccs',by simp,h1,AE h' h2⟩
theorem sA {w:World}:∀ {xs:List α} {ccs:List Value},rdL R w ccs xs->∀ (i:Nat) (h:i<xs.length),
  ∃ ec,R.rd w ec xs[i]/\∀ j c,ec[j]? = some c->ccs[i*R.sz+j]? = some c
 | [],_,_,i,h=>absurd h (by simp)
 | x :: xs,_,hr,i,h=>by
  obtain ⟨ec,rest,rfl,h1,h2⟩:=hr
  cases i with
  | zero =>
   refine ⟨ec,h1,fun j c hj=>?_⟩
   have hlt:j<ec.length:=(AB.1 hj).1
   rw [uc,e9,uQ hlt]
   exact hj
  | succ i =>
   obtain ⟨ec',h3,h4⟩:=sA h2 i (by simpa using h)
   refine ⟨ec',by simpa using h3,fun j c hj=>?_⟩
   have e:(i+1)*R.sz+j=ec.length+(i*R.sz+j):=by rw [R.rd_len h1,lY];omega
   rw [e,Am oa,oz]
   exact h4 j c hj
theorem rt {w:World}:∀ (k:Nat) {xs:List α} {ccs:List Value},rdL R w ccs xs->rdL R w (ccs.take (k*R.sz)) (xs.take k)/\rdL R w (ccs.drop (k*R.sz)) (xs.drop k)
 | 0,xs,ccs,h=>by simp [rdL];simpa using h
 | k+1,[],ccs,h=>by simp only [rdL] at h;subst h;simp [rdL]
 | k+1,x :: xs,ccs,h=>by
  obtain ⟨ec,rest,rfl,h1,h2⟩:=h
  obtain ⟨i1,i2⟩:=rt k h2
  have e:(k+1)*R.sz=ec.length+k*R.sz:=by rw [R.rd_len h1,lY];omega
  constructor
  ·refine ⟨ec,rest.take (k*R.sz),?_,h1,i1⟩
   rw [e,uS,nF oa,oz]
  ·rw [e,List.drop_append,lu oa,oz]
   simpa using i2
end

def aH {α:Type} (R:Rep α) (E:TypeId):Rep (List α) where
 sz:=1
 rd w cs xs:=∃ ao cap ccs,cs=[.slice ao xs.length cap]/\xs.length<=cap/\cap<=maxLen/\(ao=none->cap=0)/\rdL R w ccs xs/\rT w ao ccs
 own w cs xs fp:=(cs=[.slice none 0 0]/\xs=[]/\fp=[]) \/
  ∃ g cap cur ccs f2,cs=[.slice (some ⟨g,0,none⟩) xs.length cap]/\w.heap[g]? = some (.cells cur E (0,0))/\xs.length<=cap/\cap<=maxLen/\cur.size=cap*R.sz /\
   cur.toList.take (xs.length*R.sz)=ccs/\fW R w ccs xs f2/\fp=g :: f2
 rd_len h:=by obtain ⟨_,_,_,rfl,_⟩:=h;rfl
 rd_one h:=by obtain ⟨_,_,_,rfl,_⟩:=h;simp [Value.oneCell']
 rd_ext h he:=by
  obtain ⟨ao,cap,ccs,rfl,h1,h2,h3,h4,h5⟩:=h
  refine ⟨ao,cap,ccs,rfl,h1,h2,h3,EV he h4,?_⟩
  rcases h5 with h5 | ⟨b,off,rfl,h5⟩
  ·exact .inl h5
  ·exact .inr ⟨b,off,rfl,fun j c hj=>by have:=h5 j c hj;rw [he.cell (block_lt_of_cell this)];exact this⟩
 own_rd h:=by
  rcases h with ⟨rfl,rfl,rfl⟩ | ⟨g,cap,cur,ccs,f2,rfl,hg,h1,h2,h3,h4,h5,rfl⟩
  ·exact ⟨none,0,[],rfl,bN _,cE _,fun _=>rfl,rfl,.inl rfl⟩
  ·refine ⟨_,cap,ccs,rfl,h1,h2,by simp,jb h5,.inr ⟨g,0,rfl,fun j c hj=>?_⟩⟩
   rw [e9,nf _ g j cur E (0,0) hg,<- pG]
   rw [<- h4,lm] at hj
   split at hj
   ·exact hj
   ·cases hj
 own_ext h he:=by
  rcases h with h | ⟨g,cap,cur,ccs,f2,rfl,hg,h1,h2,h3,h4,h5,rfl⟩
  ·exact .inl h
  ·exact .inr ⟨g,cap,cur,ccs,f2,rfl,by rw [he g (by simp)];exact hg,h1,h2,h3,h4,hQ h5 (fun b hb=>he b (by simp [hb])),rfl⟩
 own_lt h:=by
  rcases h with ⟨_,_,rfl⟩ | ⟨g,cap,cur,ccs,f2,rfl,hg,h1,h2,h3,h4,h5,rfl⟩
  ·simp
  ·intro b hb
   rcases cZ.1 hb with rfl | hb
   ·exact (j0.1 hg).1
   ·exact iE h5 b hb

structure Asn where
 holds:World->List Nat->Prop
 ext:∀ {w w' fp},holds w fp->(∀ b∈fp,w'.heap[b]? = w.heap[b]?)->holds w' fp
 lt:∀ {w fp},holds w fp->∀ b∈fp,b<w.heap.size

def Own {α:Type} (R:Rep α) (cs:List Value) (x:α):Asn:=⟨fun w fp=>R.own w cs x fp,R.own_ext,R.own_lt⟩
def Box (b:Nat) (E:TypeId) (cs:List Value):Asn where
 holds w fp:=fp=[b]/\w.heap[b]? = some (.cells cs.toArray E (0,0))
 ext h he:=by obtain ⟨rfl,h⟩:=h;exact ⟨rfl,by rw [he b (by simp)];exact h⟩
 lt h:=by obtain ⟨rfl,h⟩:=h;intro b' hb;simp at hb;subst hb;exact (j0.1 h).1

def mh (w:World):List Asn->List Nat->Prop
 | [],fp=>fp=[]
 | A :: Γ,fp=>∃ f1 f2,fp=f1++f2/\A.holds w f1/\mh w Γ f2

structure Sat (w0 w:World) (Γ:List Asn):Prop where
 below:Below w0.heap.size w0 w
 sat:∃ fp,mh w Γ fp/\fp.Nodup/\∀ b∈fp,w0.heap.size<=b

theorem mh.ext {w w':World}:∀ {Γ:List Asn} {fp:List Nat},mh w Γ fp->(∀ b∈fp,w'.heap[b]? = w.heap[b]?)->mh w' Γ fp
 | [],_,h,_=>h
 | A :: Γ,_,h,he=>by
  obtain ⟨f1,f2,rfl,h1,h2⟩:=h
  exact ⟨f1,f2,rfl,A.ext h1 (fun b hb=>he b (gV _ hb)),mh.ext h2 (fun b hb=>he b (i7 _ hb))⟩
theorem mh.lt {w:World}:∀ {Γ:List Asn} {fp:List Nat},mh w Γ fp->∀ b∈fp,b<w.heap.size
 | [],_,h=>by simp only [mh] at h;subst h;simp
 | A :: Γ,_,h=>by
  obtain ⟨f1,f2,rfl,h1,h2⟩:=h
  intro b hb
  rcases dj.1 hb with h | h
  ·exact A.lt h1 b h
  ·exact mh.lt h2 b h
theorem mh.append {w:World} {Δ:List Asn} {g:List Nat} (k:mh w Δ g):∀ {Γ:List Asn} {fp:List Nat},mh w Γ fp->mh w (Γ++Δ) (fp++g)
 | [],_,h=>by simp only [mh] at h;subst h;simpa using k
 | A :: Γ,_,h=>by
  obtain ⟨f1,f2,rfl,h1,h2⟩:=h
  exact ⟨f1,f2++g,by simp,h1,mh.append k h2⟩
theorem mh.perm {w:World} {Γ Δ:List Asn} (hp:Γ.Perm Δ):∀ {fp:List Nat},mh w Γ fp->∃ fp',fp.Perm fp'/\mh w Δ fp':=by
 induction hp with
 | nil=>intro fp h;exact ⟨fp,.refl _,h⟩
 | cons A _ ih =>
  rintro _ ⟨f1,f2,rfl,h1,h2⟩
  obtain ⟨f2',p,h2'⟩:=ih h2
  exact ⟨f1++f2',List.Perm.append_left _ p,f1,f2',rfl,h1,h2'⟩
 | swap A B Γ =>
  rintro _ ⟨f1,_,rfl,h1,f2,f3,rfl,h2,h3⟩
  refine ⟨f2++(f1++f3),?_,f2,f1++f3,rfl,h2,f1,f3,rfl,h1,h3⟩
  rw [<- gT,<- gT]
  exact uF _ sX
 | trans _ _ ih1 ih2 =>
  intro fp h
  obtain ⟨f1,p1,h1⟩:=ih1 h
  obtain ⟨f2,p2,h2⟩:=ih2 h1
  exact ⟨f2,p1.trans p2,h2⟩

theorem Sat.start (w:World):Sat w w []:=⟨Below.refl _ _,[],rfl,by simp,by simp⟩
theorem Sat.le {w0 w:World} {Γ:List Asn} (h:Sat w0 w Γ):w0.heap.size<=w.heap.size:=h.below.size
theorem Sat.ext {w0 w w':World} {Γ:List Asn} (h:Sat w0 w Γ) (he:Ext w w'):Sat w0 w' Γ:=by
 obtain ⟨hb,fp,h1,h2,h3⟩:=h
 exact ⟨Below.andExt hb hb.size he,fp,h1.ext (fun b hb'=>he.block b (h1.lt b hb')),h2,h3⟩
theorem Sat.call {w0 w w':World} {Γ Δ:List Asn} (h:Sat w0 w Γ) (k:Sat w w' Δ):Sat w0 w' (Δ++Γ):=by
 obtain ⟨hb,fp,h1,h2,h3⟩:=h
 obtain ⟨kb,fk,k1,k2,k3⟩:=k
 refine ⟨Below.andExt hb hb.size kb,fk++fp,mh.append (h1.ext (fun b hb'=>kb.block b (h1.lt b hb'))) k1,?_,?_⟩
 ·rw [mE]
  exact ⟨k2,h2,fun a ha b hb' e=>by have:=k3 a ha;have:=h1.lt b hb';omega⟩
 ·intro b hb'
  rcases dj.1 hb' with h | h
  ·have:=k3 b h;have:=hb.size;omega
  ·exact h3 b h
theorem Sat.zO {w0 w w':World} {Γ:List Asn} {A:Asn} (h:Sat w0 w Γ) (k:Sat w w' [A]):Sat w0 w' (A :: Γ):=h.call k
theorem Sat.call2 {w0 w w':World} {Γ:List Asn} {A B:Asn} (h:Sat w0 w Γ) (k:Sat w w' [A,B]):Sat w0 w' (A :: B :: Γ):=h.call k
theorem Sat.call3 {w0 w w':World} {Γ:List Asn} {A B C:Asn} (h:Sat w0 w Γ) (k:Sat w w' [A,B,C]):Sat w0 w' (A :: B :: C :: Γ):=h.call k
theorem Sat.perm {w0 w:World} {Γ Δ:List Asn} (h:Sat w0 w Γ) (hp:Γ.Perm Δ):Sat w0 w Δ:=by
 obtain ⟨hb,fp,h1,h2,h3⟩:=h
 obtain ⟨fp',p,h1'⟩:=mh.perm hp h1
 exact ⟨hb,fp',h1',p.nodup_iff.1 h2,fun b hb'=>h3 b (p.mem_iff.2 hb')⟩
theorem Sat.tail {w0 w:World} {A:Asn} {Γ:List Asn} (h:Sat w0 w (A :: Γ)):Sat w0 w Γ:=by
 obtain ⟨hb,_,⟨f1,f2,rfl,_,h2⟩,hn,h3⟩:=h
 exact ⟨hb,f2,h2,(mE.1 hn).2.1,fun b hb'=>h3 b (i7 _ hb')⟩
theorem Sat.head {w0 w:World} {A:Asn} {Γ:List Asn} (h:Sat w0 w (A :: Γ)):∃ fp,A.holds w fp/\fp.Nodup/\∀ b∈fp,w0.heap.size<=b:=by
 obtain ⟨_,_,⟨f1,f2,rfl,h1,_⟩,hn,h3⟩:=h
 exact ⟨f1,h1,(mE.1 hn).1,fun b hb'=>h3 b (gV _ hb')⟩
theorem Sat.take {w0 w:World} {Γ:List Asn} (h:Sat w0 w Γ) (Δ Θ:List Asn) (hp:Γ.Perm (Δ++Θ)):Sat w0 w Δ:=by
 have h':=h.perm (hp.trans sX)
 clear h hp
 induction Θ with
 | nil=>simpa using h'
 | cons A Θ ih=>exact ih h'.tail
theorem Sat.yK {w0 w w':World} {A B:Asn} {Γ:List Asn} (h:Sat w0 w (A :: Γ))
  (k:∀ fp,A.holds w fp->fp.Nodup->∃ fp',B.holds w' fp'/\fp'.Nodup/\Chg fp w w'/\∀ b∈fp',b∈fp\/w.heap.size<=b):Sat w0 w' (B :: Γ):=by
 obtain ⟨hb,_,⟨f1,f2,rfl,h1,h2⟩,hn,h3⟩:=h
 obtain ⟨n1,n2,n3⟩:=mE.1 hn
 obtain ⟨f1',k1,k2,k3,k4⟩:=k f1 h1 n1
 refine ⟨F8 hb hb.size k3 (fun x hx=>h3 x (gV _ hx)),f1'++f2,⟨f1',f2,rfl,k1,h2.ext (fun b hb'=>k3.block b (h2.lt b hb') (fun hm=>n3 b hm b hb' rfl))⟩,?_,?_⟩
 ·rw [mE]
  refine ⟨k2,n2,fun a ha b hb' e=>?_⟩
  subst e
  rcases k4 a ha with h | h
  ·exact n3 a h a hb' rfl
  ·have:=h2.lt a hb';omega
 ·intro b hb'
  rcases dj.1 hb' with h | h
  ·rcases k4 b h with h | h
   ·exact h3 b (gV _ h)
   ·have:=hb.size;omega
  ·exact h3 b (i7 _ h)
theorem Sat.join {w0 w:World} {A B C:Asn} {Γ:List Asn} (h:Sat w0 w (A :: B :: Γ)) (k:∀ f g,A.holds w f->B.holds w g->C.holds w (f++g)):Sat w0 w (C :: Γ):=by
 obtain ⟨hb,_,⟨f1,_,rfl,h1,f2,f3,rfl,h2,h4⟩,hn,h3⟩:=h
 exact ⟨hb,(f1++f2)++f3,⟨f1++f2,f3,rfl,k _ _ h1 h2,h4⟩,by simpa using hn,by simpa using h3⟩
theorem Sat.conv {w0 w:World} {A B:Asn} {Γ:List Asn} (h:Sat w0 w (A :: Γ)) (k:∀ f,A.holds w f->B.holds w f):Sat w0 w (B :: Γ):=by
 obtain ⟨hb,_,⟨f1,f2,rfl,h1,h2⟩,hn,h3⟩:=h
 exact ⟨hb,_,⟨f1,f2,rfl,k _ h1,h2⟩,hn,h3⟩
theorem Sat.add {w0 w:World} {A:Asn} {Γ:List Asn} (h:Sat w0 w Γ) (k:A.holds w []):Sat w0 w (A :: Γ):=by
 obtain ⟨hb,fp,h1,h2,h3⟩:=h
 exact ⟨hb,fp,⟨[],fp,rfl,k,h1⟩,h2,h3⟩
theorem Sat.box {w0 w:World} {Γ:List Asn} (h:Sat w0 w Γ) (E:TypeId) (cs:List Value):Sat w0 (w.alloc (.cells cs.toArray E)) (Box w.heap.size E cs :: Γ):=by
 have k:Sat w (w.alloc (.cells cs.toArray E)) [Box w.heap.size E cs] :=
  ⟨(Below.refl _ _).alloc (bN _) _,[w.heap.size],⟨[w.heap.size],[],by simp,⟨rfl,heap_alloc_new w _⟩,rfl⟩,by simp,by simp⟩
 simpa using h.call k
theorem nP (w:World) (o:Obj):Ext w (w.alloc o):=(Below.refl _ _).alloc (bN _) _
theorem Sat.rd {α:Type} {R:Rep α} {w0 w:World} {cs:List Value} {x:α} {Γ:List Asn} (h:Sat w0 w (Own R cs x :: Γ)):R.rd w cs x:=by
 obtain ⟨fp,h,_⟩:=h.head
 exact R.own_rd h

class AtBox (Γ:List Asn) (b:Nat) (E:outParam TypeId) (cs:outParam (List Value)) (rest:outParam (List Asn)):Prop where
 perm:Γ.Perm (Box b E cs :: rest)
instance (Γ:List Asn) (b:Nat) (E:TypeId) (cs:List Value):AtBox (Box b E cs :: Γ) b E cs Γ:=⟨.refl _⟩
instance (A:Asn) (Γ:List Asn) (b:Nat) (E:TypeId) (cs:List Value) (rest:List Asn) [h:AtBox Γ b E cs rest]:AtBox (A :: Γ) b E cs (A :: rest) :=
 ⟨(List.Perm.cons A h.perm).trans (.swap _ _ _)⟩
class AtOwn (Γ:List Asn) (v:Value) (α:outParam Type) (R:outParam (Rep α)) (x:outParam α) (rest:outParam (List Asn)):Prop where
 perm:Γ.Perm (Own R [v] x :: rest)
instance {α:Type} (Γ:List Asn) (v:Value) (R:Rep α) (x:α):AtOwn (Own R [v] x :: Γ) v α R x Γ:=⟨.refl _⟩
instance {α:Type} (A:Asn) (Γ:List Asn) (v:Value) (R:Rep α) (x:α) (rest:List Asn) [h:AtOwn Γ v α R x rest]:AtOwn (A :: Γ) v α R x (A :: rest) :=
 ⟨(List.Perm.cons A h.perm).trans (.swap _ _ _)⟩
theorem Sat.own {α:Type} {R:Rep α} {w0 w:World} {v:Value} {x:α} {Γ rest:List Asn} (h:Sat w0 w Γ) [k:AtOwn Γ v α R x rest]:Sat w0 w (Own R [v] x :: rest):=h.perm k.perm
theorem Sat.read {α:Type} {R:Rep α} {w0 w:World} {v:Value} {x:α} {Γ rest:List Asn} (h:Sat w0 w Γ) [AtOwn Γ v α R x rest]:R.rd w [v] x:=h.own.rd

theorem Sat.zC {w0 w:World} {Γ:List Asn} (n:Nat) (h:Sat w0 w Γ):Sat w0 w (Γ.take n):=h.take (Γ.take n) (Γ.drop n) (by rw [List.take_append_drop])
class PlainT (P:Program) (t:TypeId):Prop where
 h:∃ d,P.underlying t=some d/\(match d with | .struct _ | .array _ _=>False | _=>True)
class AggT (P:Program) (t:TypeId) (n:outParam Nat):Prop where
 h:∃ d,P.underlying t=some d/\(match d with | .struct _ | .array _ _=>True | _=>False)
 size:(P.info? t).map (·.size)=some n
class SliceT (P:Program) (t:TypeId) (e:outParam TypeId):Prop where
 h:P.underlying t=some (.slice e)
class ElemT (P:Program) (t:TypeId) (z:outParam (List Value)) (n yP:outParam Nat):Prop where
 h:(P.info? t).map (fun i=>(i.zero.map fun v=>v.cells.toList,i.size,i.bytes))=some (some z,n,yP)

section laws
variable {P:Program} {ops:Array Oper} {rest:List Oper} {o:Oper} {a:Act} {Q:Exit->Act->World->Prop} {w w0:World} {Γ rΓ:List Asn}

theorem IE (hg:o.guard=none) {t:TypeId} {x:Operand} (ho:o.op=.box t x) (cs:List Value) (hx:(a.eval x).cells=cs.toArray) (hS:Sat w0 w Γ)
  (hK:∀ w' b,Sat w0 w' (Box b t cs :: Γ)->Ext w w'->wpList P ops Q rest (a.put o.dst (.pointer (some ⟨b,0,none⟩))) w'):wpList P ops Q (o :: rest) a w:=by
 refine lA hg fun K hK'=>?_
 unfold Oper.wp execOp
 simp only [ho,Instr.box,newVar,newRow,hx,dE,fG,run_newObj,d8,sJ]
 exact hK' _ _ (hK _ _ (hS.box t cs) (nP _ _))

theorem FX (hg:o.guard=none) {t:TypeId} (ho:o.op=.alloc t) {cs:List Value} {n yP:Nat} [hz:ElemT P t cs n yP] (hS:Sat w0 w Γ)
  (hK:∀ w' b,Sat w0 w' (Box b t cs :: Γ)->Ext w w'->wpList P ops Q rest (a.put o.dst (.pointer (some ⟨b,0,none⟩))) w'):wpList P ops Q (o :: rest) a w:=by
 refine lA hg fun K hK'=>?_
 have hz:=hz.h
 cases hi:P.info? t with
 | none=>simp [hi] at hz
 | some i =>
  cases hzz:i.zero with
  | none=>simp [hi,hzz] at hz
  | some z =>
   simp [hi,hzz] at hz
   have hzc:z.cells=cs.toArray:=by rw [<- hz.1]
   unfold Oper.wp execOp
   simp only [ho,Instr.alloc,zeroValue,typeInfo,hi,hzz,newVar,newRow,hzc,dE,fG,run_newObj,mF,d8,sJ]
   exact hK' _ _ (hK _ _ (hS.box t cs) (nP _ _))

theorem xV {t:TypeId} [hT:PlainT P t] {ad:Addr} {c:Value} (hc:w.cell? ad=some c):(loadVar t ad).run P w=.ok c w:=by
 obtain ⟨d,hd,hk⟩:=hT.h
 have hagg:(isAgg t).run P w=.ok false w:=by
  unfold isAgg
  rw [dE,gb hd w]
  cases d <;> simp_all
 simp [loadVar,dE,hagg,hc]

theorem gU {t:TypeId} {n:Nat} [hT:AggT P t n] {b off:Nat} {cs:List Value} (hn:cs.length=n) (hc:∀ j c,cs[j]? = some c->w.cell? ⟨b,off+j,none⟩=some c) :
  (loadVar t ⟨b,off,none⟩).run P w=.ok (.agg cs.toArray) w:=by
 obtain ⟨d,hd,hk⟩:=hT.h
 have hagg:(isAgg t).run P w=.ok true w:=by
  unfold isAgg
  rw [dE,gb hd w]
  cases d <;> simp_all
 have hs:=hT.size
 cases hi:P.info? t with
 | none=>simp [hi] at hs
 | some i =>
  simp [hi] at hs
  have hl:=run_loadCells_list (P:=P) w ⟨b,off,none⟩ cs (fun j c hj=>by rw [jM];exact hc j c hj)
  rw [hn,<- hs] at hl
  simp [loadVar,dE,hagg,sizeOf,typeInfo,hi,hl]

theorem Sat.yC {b:Nat} {E:TypeId} {cs:List Value} (hS:Sat w0 w Γ) [k:AtBox Γ b E cs rΓ]:∀ j c,cs[j]? = some c->w.cell? ⟨b,j,none⟩=some c:=by
 obtain ⟨fp,⟨_,hh⟩,_⟩:=(hS.perm k.perm).head
 intro j c hj
 rw [nf w b j _ E (0,0) hh]
 simpa using hj

theorem iN {b:Nat} {E:TypeId}:∀ (vs:List Value) (off i:Nat) (cur:List Value) (w:World),w.heap[b]? = some (.cells cur.toArray E (0,0))->off+i+vs.length<=cur.length->(∀ v∈vs,v.oneCell'=true) ->
  ∃ w',(storeCells ⟨b,off,none⟩ vs i).run P w=.ok () w'/\w'.heap[b]? = some (.cells (cur.take (off+i)++vs++cur.drop (off+i+vs.length)).toArray E (0,0))/\Chg [b] w w'
 | [],off,i,cur,w,hb,_,_=>by
  refine ⟨w,rfl,?_,Chg.refl _ _⟩
  rw [hb];simp
 | v :: vs,off,i,cur,w,hb,hl,h1=>by
  simp only [bW] at hl
  have hi:off+i<cur.length:=by omega
  have hcell:w.cell? ⟨b,off+i,none⟩=some cur[off+i]:=by rw [nf w b _ _ E (0,0) hb];simp [hi]
  have hfro:w.frozen? ⟨b,off+i,none⟩=false:=frozen_of_row w b _ _ E hb
  have hst:(store ((⟨b,off,none⟩:Addr).add i) v).run P w=.ok () (w.setCell ⟨b,off+i,none⟩ v):=by
   rw [jM,run_store P w _ v _ (h1 v (by simp)),hcell]
   simp [hfro]
  have hb':(w.setCell ⟨b,off+i,none⟩ v).heap[b]? = some (.cells ((cur.set (off+i) v).toArray) E (0,0)):=by
   rw [heap_setCell_same w b (off+i) _ E v hb];simp
  obtain ⟨w',h2,h3,h4⟩:=iN vs off (i+1) (cur.set (off+i) v) _ hb' (by simp;omega) (fun x hx=>h1 x (by simp [hx]))
  refine ⟨w',?_,?_,?_⟩
  ·simp only [storeCells,dE,hst,d8];exact h2
  ·rw [h3]
   congr 3
   have e1:(cur.set (off+i) v).take (off+(i+1))=cur.take (off+i)++[v]:=by
    rw [show off+(i+1)=(off+i)+1 by omega,wm,gk hi,AQ _ _ (by simp;omega)]
    simp [show min (off+i) cur.length=off+i by omega]
   have e2:(cur.set (off+i) v).drop (off+(i+1)+vs.length)=cur.drop (off+i+(v :: vs).length):=by
    rw [List.drop_set_of_lt oa]
    congr 1
    simp only [bW];omega
   rw [e1,e2];simp
  ·exact Chg.trans (show Chg [b] w (w.setCell ⟨b,off+i,none⟩ v) from ⟨rfl,rfl,rfl,by simp,fun k _ hk=>Below.heap_setCell _ _ _ _ (by simpa using hk)⟩) h4

theorem Fz {t:TypeId} {x y:Operand} (hg:o.guard=none) (ho:o.op=.store t x y) {z:List Value} {n yP:Nat} [hz:ElemT P t z n yP] (hS:Sat w0 w Γ) {b j:Nat} (hx:a.eval x=.pointer (some ⟨b,j,none⟩))
  {E:TypeId} {cs:List Value} [k:AtBox Γ b E cs rΓ] (vs:List Value) (hy:(a.eval y).cells=vs.toArray) (hn:vs.length=n) (hl:j+n<=cs.length) (h1:vs.all (·.oneCell')=true)
  (hK:∀ w',Sat w0 w' (Box b E (cs.take j++vs++cs.drop (j+n)) :: rΓ)->wpList P ops Q rest (a.put o.dst undef) w'):wpList P ops Q (o :: rest) a w:=by
 refine lA hg fun K hK'=>?_
 have hz:=hz.h
 cases hi:P.info? t with
 | none=>simp [hi] at hz
 | some i =>
  simp [hi] at hz
  obtain ⟨fp,⟨_,hh⟩,_⟩:=(hS.perm k.perm).head
  obtain ⟨w',hr,hh',hc⟩:=iN (P:=P) vs j 0 cs w hh oa (by simpa using h1)
  have hsz:¬ (vs.toArray.size≠i.size):=by simp;omega
  unfold Oper.wp execOp
  simp only [ho,hx,Instr.storeAt,Instr.sureAddr,storeVar,sizeOf,typeInfo,hi,hy,dE,fG,mF,d8,hsz,nj,q8,ri,hr,w6]
  refine hK' _ _ (hK w' ?_)
  refine Sat.yK (hS.perm k.perm) fun fp hfp hnd=>?_
  obtain ⟨rfl,_⟩:=hfp
  refine ⟨[b],⟨rfl,?_⟩,by simp,hc,fun x hx=>.inl hx⟩
  rw [hh']
  simp [hn]
theorem G3 {v:Value} (h:v.oneCell'=true):v.cells=[v].toArray:=by cases v <;> first | rfl | simp [Value.oneCell'] at h
end laws

section laws2
variable {P:Program} {ops:Array Oper} {rest:List Oper} {o:Oper} {a:Act} {Q:Exit->Act->World->Prop} {w w0 wA:World} {Γ rΓ:List Asn} {α:Type} {R:Rep α} {E:TypeId}

theorem CH {w:World} {v:Value} {xs:List α} (h:(aH R E).rd w [v] xs):∃ ao cap,v=.slice ao xs.length cap:=by
 obtain ⟨ao,cap,ccs,hv,_⟩:=h
 exact ⟨ao,cap,by simpa using hv⟩

def tW (R:Rep α) (ccs:List Value) (ys:List α):Asn:=⟨fun w fp=>fW R w ccs ys fp,fun h he=>hQ h he,fun h=>iE h⟩
def Fh (A B:Asn):Asn where
 holds w fp:=∃ f g,fp=f++g/\A.holds w f/\B.holds w g
 ext h he:=by
  obtain ⟨f,g,rfl,h1,h2⟩:=h
  exact ⟨f,g,rfl,A.ext h1 (fun b hb=>he b (gV _ hb)),B.ext h2 (fun b hb=>he b (i7 _ hb))⟩
 lt h:=by
  obtain ⟨f,g,rfl,h1,h2⟩:=h
  intro b hb
  rcases dj.1 hb with h | h
  ·exact A.lt h1 b h
  ·exact B.lt h2 b h

theorem uT (z:Value) (k:Nat):(Builtin.zeroCells z.cells k).size=k*z.cells.size:=size_zeroCells _ _

theorem EP {w:World} {cur:Array Value} {xs:List α} {ccs:List Value} {f:List Nat} {cap:Nat} (h:fW R w ccs xs f) (hcap:xs.length<=cap) (hm:cap<=maxLen) (hs:cur.size=cap*R.sz)
  (ht:cur.toList.take ccs.length=ccs):(aH R E).own (w.drew.alloc (.cells cur E)) [.slice (some ⟨w.heap.size,0,none⟩) xs.length cap] xs (w.heap.size :: f):=by
 refine .inr ⟨w.heap.size,cap,cur,ccs,f,rfl,heap_alloc_new w.drew _,hcap,hm,hs,by rw [<- j6 (jb h)];exact ht,hQ h (fun b hb=>?_),rfl⟩
 exact Below.heap_alloc w.drew _ b (iE h b hb)

theorem v8 {t ty:TypeId} [ht:SliceT P t E] {z:List Value} {n yP:Nat} [hz:ElemT P E z n yP] (hn:R.sz=n) (hpos:0<n) (hzl:z.length=n) (hb0:0<yP)
  {v:Value} {xs:List α} {f:List Nat} (hv:(aH R E).own w [v] xs f) {ccs:List Value} {ys:List α} {fy:List Nat} (hy:fW R w ccs ys fy) (hnd:(fy++f).Nodup)
  {ao:Option Addr} {c:Nat} (hnone:ao=none->c=0) (hrow:rT w ao ccs) (hby:(xs.length+ys.length)*yP<=140737488355328) :
  ∃ v' w' f',(Builtin.append_ #[t,t] ty #[v,.slice ao ys.length c]).run P w=.ok v' w'/\(aH R E).own w' [v'] (xs++ys) f'/\f'.Nodup/\Chg (fy++f) w w'/\∀ b∈f',b∈fy++f\/w.heap.size<=b:=by
 have hz:=hz.h
 have hmax:xs.length+ys.length<=140737488355328:=Nat.le_trans (Nat.le_mul_of_pos_right _ hb0) hby
 have hyl:ccs.length=ys.length*R.sz:=j6 (jb hy)
 have hy1:∀ u∈ccs,u.oneCell'=true:=E3 (jb hy)
 cases hi:P.info? E with
 | none=>simp [hi] at hz
 | some i =>
 cases hzz:i.zero with
 | none=>simp [hi,hzz] at hz
 | some zv =>
 simp [hi,hzz] at hz
 obtain ⟨hz1,hz2,hz3⟩:=hz
 have hzs:zv.cells.size=R.sz:=by rw [<- s9,hz1,hzl,hn]
 have hsz:i.size=R.sz:=by omega
 have hdrew:Chg (fy++f) w w.drew:=⟨rfl,rfl,rfl,bN _,fun _ _ _=>rfl⟩
 have hgrow:∀ cur:Array Value,Chg (fy++f) w (w.drew.alloc (.cells cur E)):=fun cur=>hdrew.trans ((Chg.alloc w.drew _).mono (by simp))
 have hlt:∀ b∈fy++f,b<w.heap.size:=fun b hb=>by
  rcases dj.1 hb with h | h
  ·exact iE hy b h
  ·exact (aH R E).own_lt hv b h
 obtain ⟨nd1,nd2,nd3⟩:=mE.1 hnd
 -- nothing is appended
 by_cases hy0:ys=[]
 ·subst hy0
  have hccs:ccs=[]:=by simp only [fW] at hy;exact hy.1
  have hfy:fy=[]:=by simp only [fW] at hy;exact hy.2
  subst hccs;subst hfy
  refine ⟨v,w,f,?_,by simpa using hv,by simpa using hnd,Chg.refl _ _,fun b hb=>.inl (by simpa using hb)⟩
  rcases hv with ⟨hv,rfl,rfl⟩ | ⟨g,cap,cur,cs,f2,hv,hg,h1,h2,h3,h4,h5,rfl⟩
  ·obtain rfl:v=.slice none 0 0:=by simpa using hv
   cases ao <;> simp [Builtin.append_,gb ht.h,sizeOf,typeInfo,hi,Builtin.lenOf,Builtin.firstCells,loadCells,loadCellsFrom]
  ·obtain rfl:v=.slice (some ⟨g,0,none⟩) xs.length cap:=by simpa using hv
   cases ao <;> simp [Builtin.append_,gb ht.h,sizeOf,typeInfo,hi,Builtin.lenOf,Builtin.firstCells,loadCells,loadCellsFrom,h1,storeCells]
 have hyp:0<ys.length:=wn.2 hy0
 obtain ⟨b,off,rfl,hcell⟩:∃ b off,ao=some ⟨b,off,none⟩/\∀ j c,ccs[j]? = some c->w.cell? ⟨b,off+j,none⟩=some c:=by
  rcases hrow with rfl | h
  ·exfalso
   have:0<ys.length*R.sz:=Nat.mul_pos hyp oa
   simp at hyl;omega
  ·exact h
 have hnews:∀ j u,ccs[j]? = some u->w.cell? ((⟨b,off,none⟩:Addr).add j)=some u:=fun j u hj=>by rw [jM];exact hcell j u hj
 rcases hv with ⟨hv,rfl,rfl⟩ | ⟨g,cap,cur,cs,f2,hv,hg,h1,h2,h3,h4,h5,rfl⟩
 ·obtain rfl:v=.slice none 0 0:=by simpa using hv
  simp only [fH,e9] at hby hmax
  have hr:=run_append_nil (P:=P) w t ty E i zv ht.h hi hzz ⟨b,off,none⟩ ys.length c ccs (by rw [hyl,hsz]) hnews hyp oa (by rw [hz3];omega)
  refine ⟨_,_,w.heap.size :: fy,hr,?_,?_,hgrow _,?_⟩
  ·have hge:=grownCap_ge w ys.length 0 E
   rw [List.nil_append]
   refine EP hy hge (grownCap_le_maxLen w ys.length 0 E (by unfold maxLen;omega)) ?_ ?_
   ·rw [Ao,uT,hzs,pq,hyl,<- lY]
    congr 1;omega
   ·rw [Array.toList_append,ri,wJ]
    rfl
  ·refine lV.2 ⟨fun hm=>?_,nd1⟩
   have:=hlt _ (gV _ hm);omega
  ·intro x hx
   rcases cZ.1 hx with rfl | hx
   ·exact .inr (bN _)
   ·exact .inl (gV _ hx)
 ·obtain rfl:v=.slice (some ⟨g,0,none⟩) xs.length cap:=by simpa using hv
  have hcl:cs.length=xs.length*R.sz:=j6 (jb h5)
  have hfit:xs.length*R.sz<=cur.size:=by rw [h3];exact mc _ h1
  obtain ⟨ng,nf2⟩:=lV.1 nd2
  by_cases hroom:xs.length+ys.length<=cap
  ·have hfit2:xs.length*i.size+ccs.length<=cur.size:=by rw [hsz,hyl,h3,<- lY];exact mc _ hroom
   have hr:=run_append_room (P:=P) w t ty E i ht.h hi g xs.length cap cur hg ⟨b,off,none⟩ ys.length c ccs (by rw [hyl,hsz]) hnews hy1 hroom hfit2
   have hoth:∀ k,k≠g->(w.setRow g (cur.toList.take (xs.length*i.size)++ccs++cur.toList.drop (xs.length*i.size+ccs.length)).toArray).heap[k]? = w.heap[k]?:=fun k hk=>setRow_other w g k _ hk
   refine ⟨_,_,g :: (f2++fy),hr,?_,?_,⟨rfl,rfl,rfl,by simp,fun k _ hk=>hoth k (fun e=>hk (by simp [e]))⟩,?_⟩
   ·rw [show xs.length+ys.length=(xs++ys).length by simp]
    refine .inr ⟨g,cap,_,cs++ccs,f2++fy,rfl,setRow_heap w g cur _ E _ hg,by simpa using hroom,h2,?_,?_,?_,rfl⟩
    ·simp only [pq,b8,dh,jq,s9]
     rw [hsz] at hfit2 ⊢
     omega
    ·rw [hsz,h4,b8,lY,<- hcl,<- hyl,<- b8]
     exact wJ rfl
    ·refine tN (hQ hy fun x hx=>hoth x fun e=>?_) (hQ h5 fun x hx=>hoth x fun e=>?_)
     ·subst e;exact nd3 x hx x (by simp) rfl
     ·subst e;exact ng hx
   ·refine lV.2 ⟨fun hm=>?_,mE.2 ⟨nf2,nd1,fun a ha b hb e=>nd3 b hb a (by simp [ha]) e.symm⟩⟩
    rcases dj.1 hm with h | h
    ·exact ng h
    ·exact nd3 g h g (by simp) rfl
   ·intro x hx
    refine .inl ?_
    simp only [cZ,dj] at hx ⊢
    rcases hx with h | h | h <;> simp [h]
  ·have hcells:∀ j u,cs[j]? = some u->w.cell? ((⟨g,0,none⟩:Addr).add j)=some u:=fun j u hj=>by
    rw [jM,e9,nf w g j cur E (0,0) hg,<- pG]
    rw [<- h4,lm] at hj
    split at hj
    ·exact hj
    ·cases hj
   have hr:=run_append_grow (P:=P) w t ty E i zv ht.h hi hzz ⟨g,0,none⟩ xs.length cap cs (by rw [hcl,hsz]) hcells ⟨b,off,none⟩ ys.length c ccs (by rw [hyl,hsz]) hnews oa oa (growslice_fits oa (by rw [hz3];exact hby))
   refine ⟨_,_,w.heap.size :: (f2++fy),hr,?_,?_,hgrow _,?_⟩
   ·have hge:=grownCap_ge w (xs.length+ys.length) cap E
    rw [show (xs.length+ys.length:Nat)=(xs++ys).length by simp] at hge ⊢
    refine EP (tN hy h5) hge (grownCap_le_maxLen w _ cap E (by unfold maxLen;simp;omega)) ?_ ?_
    ·rw [Ao,Ao,uT,hzs,pq,pq,hyl,hcl,<- lY,<- lY]
     congr 1;simp at hge ⊢;omega
    ·rw [Array.toList_append,Array.toList_append,ri,ri,wJ]
     rfl
   ·refine lV.2 ⟨fun hm=>?_,mE.2 ⟨nf2,nd1,fun a ha b hb e=>nd3 b hb a (by simp [ha]) e.symm⟩⟩
    have:=hlt w.heap.size (by
     rcases dj.1 hm with h | h
     ·exact i7 _ (by simp [h])
     ·exact gV _ h)
    omega
   ·intro x hx
    simp only [cZ,dj] at hx ⊢
    rcases hx with h | h | h
    ·exact .inr oa
    ·exact .inl (by simp [h])
    ·exact .inl (by simp [h])

theorem FA (hg:o.guard=none) {t:TypeId} {s x:Operand} (ho:o.op=.call { callee:=.builtin .append,args:=#[s,x],argTypes:=#[t,t] })
  [SliceT P t E] {z:List Value} {n yP:Nat} [ElemT P E z n yP] (hn:R.sz=n) (hpos:0<n) (hzl:z.length=n) (hb0:0<yP)
  {v:Value} {xs:List α} {ccs:List Value} {ys:List α} (hS:Sat w0 w (tW R ccs ys :: Own (aH R E) [v] xs :: Γ)) (hs:a.eval s=v)
  {ao:Option Addr} {m c:Nat} (hx:a.eval x=.slice ao m c) (hm:m=ys.length) (hnone:ao=none->c=0) (hrow:rT w ao ccs) (hby:(xs.length+ys.length)*yP<=140737488355328)
  (hK:∀ v' w',Sat w0 w' (Own (aH R E) [v'] (xs++ys) :: Γ)->wpList P ops Q rest (a.put o.dst v') w'):wpList P ops Q (o :: rest) a w:=by
 subst hm
 refine lA hg fun K hK'=>?_
 have hS':Sat w0 w (Fh (tW R ccs ys) (Own (aH R E) [v] xs) :: Γ):=hS.join fun f g h1 h2=>⟨f,g,rfl,h1,h2⟩
 obtain ⟨fp,⟨fy,f,rfl,hy,hv⟩,hnd,_⟩:=hS'.head
 obtain ⟨v',w',f',hr,k1,k2,k3,k4⟩:=v8 (P:=P) (t:=t) (ty:=o.type) hn hpos hzl hb0 hv hy hnd hnone hrow hby
 unfold Oper.wp execOp
 simp only [ho,resolve,invoke,builtin,dE,fG,d8,List.map_toArray,fI,nS,hs,hx,hr,sJ]
 refine hK' _ _ (hK v' w' ?_)
 have hex:∀ fp,(Fh (tW R ccs ys) (Own (aH R E) [v] xs)).holds w fp->fp.Nodup->∃ fp',(Own (aH R E) [v'] (xs++ys)).holds w' fp'/\fp'.Nodup/\Chg fp w w'/\∀ b∈fp',b∈fp\/w.heap.size<=b:=by
  rintro _ ⟨gy,g,rfl,hy2,hv2⟩ hnd2
  obtain ⟨v2,w2,f2,hr2,l1,l2,l3,l4⟩:=v8 (P:=P) (t:=t) (ty:=o.type) hn hpos hzl hb0 hv2 hy2 hnd2 hnone hrow hby
  rw [hr] at hr2
  obtain ⟨rfl,rfl⟩:v'=v2/\w'=w2:=by simpa using hr2
  exact ⟨f2,l1,l2,l3,l4⟩
 exact hS'.yK hex

theorem vZ (z:Array Value) (h:0<z.size):∀ k,(madeCells z (k*z.size)).toList=(List.replicate k z.toList).flatten
 | 0=>by simp [madeCells]
 | k+1=>by
  have ih:=vZ z h k
  rw [List.replicate_succ',List.flatten_append,<- ih]
  unfold madeCells
  rw [lY,lw]
  simp only [Array.toList_map,Array.toList_range,List.range_add,fE,ni,List.flatten_cons,List.flatten_nil,mP]
  congr 1
  apply sM
  ·simp
  ·intro j h1 h2
   have hj:j<z.size:=by simpa using h1
   simp only [ky,List.getElem_range,Function.comp]
   rw [Nat.mul_add_mod_self_right,pI hj]
   simp [hj]
theorem HI (hg:o.guard=none) {t:TypeId} {l c:Operand} (ho:o.op=.makeSlice t l c) [ht:SliceT P t E] {z:List Value} {n yP:Nat} [hz:ElemT P E z n yP] (hn:R.sz=n) (hpos:0<n) (hzl:z.length=n)
  {x0:α} (hx0:∀ w,R.own w z x0 []) {L C:Int} (hl:a.eval l=.int .i64 L) (hc:a.eval c=.int .i64 C) (k:Nat) (hL:L=(k:Int)) (hC:C=(k:Int)) (hby:k*yP<=281474976710656) (hk:k<=140737488355328) (hS:Sat w0 w Γ)
  (hK:∀ w' g,Sat w0 w' (Own (aH R E) [.slice (some ⟨g,0,none⟩) k k] (List.replicate k x0) :: Γ)->Ext w w'->wpList P ops Q rest (a.put o.dst (.slice (some ⟨g,0,none⟩) k k)) w'):wpList P ops Q (o :: rest) a w:=by
 refine lA hg fun K hK'=>?_
 have hz:=hz.h
 cases hi:P.info? E with
 | none=>simp [hi] at hz
 | some i =>
 cases hzz:i.zero with
 | none=>simp [hi,hzz] at hz
 | some zv =>
 simp [hi,hzz] at hz
 obtain ⟨hz1,hz2,hz3⟩:=hz
 subst hL;subst hC
 have hr:=run_make (P:=P) w t E i zv ht.h hi hzz .i64 .i64 k k oa oa (by rw [hz3];have:=hby;rw [uz] at this;omega) oa
 simp only [iR] at hr
 unfold Oper.wp execOp
 simp only [ho,hl,hc,dE,hr,fG,d8,sJ]
 have hzs:zv.cells.size=n:=by rw [<- s9,hz1,hzl]
 have hcur:(madeCells zv.cells (k*i.size)).toList=(List.replicate k z).flatten:=by
  rw [<- hz1,hz2,<- hzs]
  exact vZ _ oa k
 refine hK' _ _ (hK _ _ ?_ (nP _ _))
 have hown:∀ k',fW R (w.alloc (.cells (madeCells zv.cells (k*i.size)) E)) (List.replicate k' z).flatten (List.replicate k' x0) []:=by
  intro k'
  induction k' with
  | zero=>exact ⟨rfl,rfl⟩
  | succ k' ih=>exact ⟨z,_,[],[],by simp [Ab],rfl,hx0 _,ih⟩
 have kk:Sat w (w.alloc (.cells (madeCells zv.cells (k*i.size)) E)) [Own (aH R E) [.slice (some ⟨w.heap.size,0,none⟩) k k] (List.replicate k x0)]:=by
  refine ⟨nP _ _,[w.heap.size],⟨[w.heap.size],[],rfl,.inr ⟨w.heap.size,k,_,_,[],by simp,heap_alloc_new w _,by simp,by unfold maxLen;omega,?_,rfl,?_,rfl⟩,rfl⟩,by simp,by simp⟩
  ·rw [<- s9,hcur];simp [hzl,hn]
  ·rw [hcur,nF (by simp [hzl,hn])]
   exact hown k
 simpa using hS.call kk

theorem Gj {v:Value} {xs:List α} {fp:List Nat} (h:(aH R E).own w [v] xs fp):(v=.slice none 0 0/\xs=[])\/∃ g cap,v=.slice (some ⟨g,0,none⟩) xs.length cap:=by
 rcases h with ⟨h,h2,_⟩ | ⟨g,cap,_,_,_,h,_⟩
 ·exact .inl ⟨by simpa using h,h2⟩
 ·exact .inr ⟨g,cap,by simpa using h⟩
theorem Sat.shape {v:Value} {xs:List α} (h:Sat w0 w (Own (aH R E) [v] xs :: Γ)):(v=.slice none 0 0/\xs=[])\/∃ g cap,v=.slice (some ⟨g,0,none⟩) xs.length cap:=by
 obtain ⟨fp,h,_⟩:=h.head
 exact Gj h

theorem CC {w:World}:∀ {xs:List α} {ccs:List Value} {fp:List Nat},fW R w ccs xs fp->∀ (k:Nat) (_:k<xs.length) {ec:List Value} {y:α} {fy:List Nat},R.own w ec y fy ->
  ∃ fl fk fr,fp=fl++fk++fr/\fW R w (ccs.take (k*R.sz)++ec++ccs.drop (k*R.sz+R.sz)) (xs.set k y) (fl++fy++fr)
 | [],_,_,_,k,hk,_,_,_,_=>absurd hk (by simp)
 | x :: xs,_,_,h,0,_,ec,y,fy,hy=>by
  obtain ⟨e0,rest,f1,f2,rfl,rfl,h1,h2⟩:=h
  refine ⟨[],f1,f2,by simp,ec,rest,fy,f2,?_,by simp,hy,h2⟩
  have:=R.rd_len (R.own_rd h1)
  simp [<- this]
 | x :: xs,_,_,h,k+1,hk,ec,y,fy,hy=>by
  obtain ⟨e0,rest,f1,f2,rfl,rfl,h1,h2⟩:=h
  obtain ⟨fl,fk,fr,rfl,h3⟩:=CC h2 k (by simpa using hk) hy
  refine ⟨f1++fl,fk,fr,by simp,e0,_,f1,fl++fy++fr,?_,by simp,h1,h3⟩
  have hl:=R.rd_len (R.own_rd h1)
  have e:(k+1)*R.sz=e0.length+k*R.sz:=by rw [hl,lY];omega
  rw [e,uS,nF oa,oz,show e0.length+k*R.sz+R.sz=e0.length+(k*R.sz+R.sz) by omega,List.drop_append,lu oa,oz]
  simp

theorem tT (L ec:List Value) (p s N:Nat) (h1:p+s<=N) (h2:N<=L.length) (h3:ec.length=s):(L.take (p+0)++ec++L.drop (p+0+s)).take N=(L.take N).take p++ec++(L.take N).drop (p+s):=by
 rw [lh,uS,nF (by simp;omega),List.take_take,ru (by omega:p<=N),List.drop_take]
 congr 2
 simp;omega
theorem Fl {t:TypeId} {x y:Operand} (hg:o.guard=none) (ho:o.op=.store t x y) {z:List Value} {n yP:Nat} [hz:ElemT P t z n yP] (hn:R.sz=n) {ec:List Value} {yv:α} {xs:List α} {g m cap:Nat}
  (hS:Sat w0 w (Own R ec yv :: Own (aH R E) [.slice (some ⟨g,0,none⟩) m cap] xs :: Γ)) (k off:Nat) (hk:k<xs.length) (hoff:off=k*n) (hx:a.eval x=.pointer (some ⟨g,off,none⟩)) (hy:(a.eval y).cells=ec.toArray)
  (hK:∀ w',Sat w0 w' (Own (aH R E) [.slice (some ⟨g,0,none⟩) m cap] (xs.set k yv) :: Γ)->wpList P ops Q rest (a.put o.dst undef) w'):wpList P ops Q (o :: rest) a w:=by
 refine lA hg fun K hK'=>?_
 have hz:=hz.h
 cases hi:P.info? t with
 | none=>simp [hi] at hz
 | some i =>
  simp [hi] at hz
  have hS':Sat w0 w (Fh (Own R ec yv) (Own (aH R E) [.slice (some ⟨g,0,none⟩) m cap] xs) :: Γ):=hS.join fun f g h1 h2=>⟨f,g,rfl,h1,h2⟩
  obtain ⟨fp,⟨fy,f,rfl,hyo,hv⟩,hnd,_⟩:=hS'.head
  have hel:ec.length=R.sz:=R.rd_len (R.own_rd hyo)
  obtain ⟨cur,hh,hcs⟩:∃ cur,w.heap[g]? = some (.cells cur E (0,0))/\xs.length*R.sz<=cur.size:=by
   rcases hv with ⟨h,_⟩ | ⟨g',cap',cur,ccs,f2,h,hg',h1,h2,h3,_⟩
   ·simp at h
   ·simp at h
    obtain ⟨rfl,_⟩:=h
    exact ⟨cur,hg',by rw [h3];exact mc _ h1⟩
  have hkk:k*R.sz+R.sz<=xs.length*R.sz:=by have:=mc R.sz hk;rw [rp] at this;exact this
  have hh':w.heap[g]? = some (.cells cur.toList.toArray E (0,0)):=by simpa using hh
  obtain ⟨w',hr,hnew,hc⟩:=iN (P:=P) ec off 0 cur.toList w hh' (by rw [hoff,hel,<- hn];simp;omega) (R.rd_one (R.own_rd hyo))
  have hsz:¬ (ec.toArray.size≠i.size):=by simp;omega
  unfold Oper.wp execOp
  simp only [ho,hx,Instr.storeAt,Instr.sureAddr,storeVar,sizeOf,typeInfo,hi,hy,dE,fG,mF,d8,hsz,nj,q8,ri,hr,w6]
  refine hK' _ _ (hK w' ?_)
  refine hS'.yK ?_
  rintro _ ⟨gy,gf,rfl,hy2,hv2⟩ hnd2
  rcases hv2 with ⟨h,_⟩ | ⟨g',cap',cur',ccs,f2,h,hg',h1,h2,h3,h4,h5,rfl⟩
  ·simp at h
  ·simp at h
   obtain ⟨rfl,rfl,rfl⟩:=h
   obtain ⟨rfl⟩:cur'=cur:=by rw [hh] at hg';simpa using hg'.symm
   obtain ⟨fl,fk,fr,rfl,h6⟩:=CC h5 k hk hy2
   have hoth:∀ x,x≠g->x<w.heap.size->w'.heap[x]? = w.heap[x]?:=fun x hx hlt=>hc.block x hlt (by simpa using hx)
   have hnd3:(gy++g :: (fl++fk++fr)).Nodup:=hnd2
   simp only [mE,lV,dj,cZ] at hnd3
   have hgn:g∉fl++gy++fr:=by
    simp only [dj,not_or]
    refine ⟨⟨fun hm=>hnd3.2.1.1 (.inl (.inl hm)),fun hm=>hnd3.2.2 g hm g (.inl rfl) rfl⟩,fun hm=>hnd3.2.1.1 (.inr hm)⟩
   refine ⟨g :: (fl++gy++fr),.inr ⟨g,cap,_,ccs.take (k*R.sz)++ec++ccs.drop (k*R.sz+R.sz),fl++gy++fr,by simp,hnew,by simpa using h1,h2,?_,?_,hQ h6 (fun b hb=>hoth b (fun e=>hgn (e ▸ hb)) ?_),rfl⟩,?_,hc.mono (by simp),?_⟩
   ·simp only [pq,b8,dh,jq,s9]
    rw [hoff,<- hn]
    omega
   ·have hcl:ccs.length=xs.length*R.sz:=j6 (jb h5)
    rw [<- h4,hoff,<- hn,hel,gP]
    exact tT _ _ _ _ _ hkk (by simpa using hcs) hel
   ·exact iE h6 b hb
   ·refine lV.2 ⟨hgn,?_⟩
    have hs:(gy++(fl++fr)).Nodup:=List.Nodup.sublist (List.Sublist.append (List.Sublist.refl gy) (List.Sublist.cons g (List.Sublist.append (List.sublist_append_left fl fk) (List.Sublist.refl fr)))) hnd2
    rw [<- gT] at hs
    exact (uF fr sX).nodup_iff.1 hs
   ·intro b hb
    refine .inl ?_
    simp only [cZ,dj] at hb ⊢
    rcases hb with h | (h | h) | h <;> simp [h]

theorem Ac {t e:TypeId} [ht:SliceT P t e] {z:List Value} {n yP:Nat} [hz:ElemT P e z n yP] {v:Value} {cs:List Value} (hcs:v.cells=cs.toArray) (hl:cs.length=n) (hpos:0<n) (hzl:z.length=n) (hn:n<=16) :
  (Instr.buildSlice t 1 #[(0,v)]).run P w=.ok (.slice (some ⟨w.heap.size,0,none⟩) 1 1) (w.alloc (.cells cs.toArray e)):=by
 have hz:=hz.h
 cases hi:P.info? e with
 | none=>simp [hi] at hz
 | some i =>
 cases hzz:i.zero with
 | none=>simp [hi,hzz] at hz
 | some zv =>
 simp [hi,hzz] at hz
 obtain ⟨hz1,hz2,hz3⟩:=hz
 have h24:¬ (n > 2 ^ 24):=by omega
 have hn0:¬ (n=0):=by omega
 have hfill:Instr.fill (fun i=>some (i*n,n)) ((Array.range n).map (zv.cells[· % zv.cells.size]!)) [(0,v)]=some cs.toArray:=by
  have hsz:((Array.range n).map (zv.cells[· % zv.cells.size]!)).size=n:=by simp
  have hfold:∀ (l:List Value) (pre:List Value) (A:Array Value),A.size=pre.length+l.length->A.toList.take pre.length=pre ->
    ((l.zipIdx pre.length).foldl (fun A (c:Value × Nat)=>A.setIfInBounds c.2 c.1) A).toList=pre++l:=by
   intro l
   induction l with
   | nil=>intro pre A h1 h2;simp;rw [<- h2,nF (by simp at h1 ⊢;omega)]
   | cons x l ih =>
    intro pre A h1 h2
    simp only [List.zipIdx_cons,sY]
    have:=ih (pre++[x]) (A.setIfInBounds pre.length x) (by simp at h1 ⊢;omega) (by
     simp only [Array.toList_setIfInBounds,b8,bT]
     rw [wm,gk (by simp at h1 ⊢;omega),h2,AQ _ _ (bN _)]
     simp)
    simpa using this
  have h0:=hfold cs [] ((Array.range n).map (zv.cells[· % zv.cells.size]!)) (by simp [hl]) (by simp)
  simp only [Instr.fill,hcs,pq,hl,hsz,uc,e9,ne_eq,not_true_eq_false,decide_false,ue,gt_iff_lt,Nat.lt_irrefl,xl,nj]
  congr 1
  apply Array.ext'
  simpa using h0
 simp [Instr.buildSlice,gb ht.h,sizeOf,typeInfo,hi,hz2,h24,hn0,zeroValue,hzz,hfill,newRow]

theorem zm (hg:o.guard=none) {t e:TypeId} {x:Operand} (ho:o.op=.buildSlice t 1 #[(0,x)]) [SliceT P t e] {z:List Value} {n yP:Nat} [ElemT P e z n yP] {cs:List Value} (hcs:(a.eval x).cells=cs.toArray) (hl:cs.length=n) (hpos:0<n) (hzl:z.length=n) (hn:n<=16)
  (hS:Sat w0 w Γ) (hK:∀ w' b,Sat w0 w' (Box b e cs :: Γ)->Ext w w'->wpList P ops Q rest (a.put o.dst (.slice (some ⟨b,0,none⟩) 1 1)) w'):wpList P ops Q (o :: rest) a w:=by
 refine lA hg fun K hK'=>?_
 have hr:=Ac (P:=P) (w:=w) (t:=t) (e:=e) hcs hl hpos hzl hn
 unfold Oper.wp execOp
 simp only [ho,List.map_toArray,fI,nS,hr,dE,fG,d8,sJ]
 exact hK' _ _ (hK _ _ (hS.box e cs) (nP _ _))

theorem AV (R:Rep α) (hg:o.guard=none) {t:TypeId} (ho:o.op=.buildSlice t 0 #[]) [ht:SliceT P t E] {z:List Value} {n yP:Nat} [hz:ElemT P E z n yP]
  (hS:Sat w0 w Γ) (hK:∀ w' b,Sat w0 w' (Own (aH R E) [.slice (some ⟨b,0,none⟩) 0 0] [] :: Γ)->Ext w w'->wpList P ops Q rest (a.put o.dst (.slice (some ⟨b,0,none⟩) 0 0)) w'):wpList P ops Q (o :: rest) a w:=by
 refine lA hg fun K hK'=>?_
 have hz:=hz.h
 cases hi:P.info? E with
 | none=>simp [hi] at hz
 | some i =>
 have hr:(Instr.buildSlice t 0 #[]).run P w=.ok (.slice (some ⟨w.heap.size,0,none⟩) 0 0) (w.alloc (.cells #[] E)):=by
  simp [Instr.buildSlice,gb ht.h,sizeOf,typeInfo,hi,Instr.fill,newRow,Array.range_zero']
 unfold Oper.wp execOp
 simp only [ho,List.map_toArray,nS,hr,dE,fG,d8,sJ]
 have hB:=hS.box E []
 refine hK' _ _ (hK _ _ (hB.conv (B:=Own (aH R E) [.slice (some ⟨w.heap.size,0,none⟩) 0 0] []) fun f hf=>?_) (nP _ _))
 obtain ⟨rfl,hf⟩:=hf
 exact .inr ⟨w.heap.size,0,#[],[],[],rfl,hf,bN _,cE _,by simp,by simp,⟨rfl,rfl⟩,rfl⟩

theorem Sat.one {ec:List Value} {y:α} (h:Sat w0 w (Own R ec y :: Γ)):Sat w0 w (tW R ec [y] :: Γ) :=
 h.conv fun f hf=>⟨ec,[],f,[],by simp,by simp,hf,rfl,rfl⟩
theorem Sat.str (h:Sat w0 w Γ) (s:ByteArray) (hs:s.size<=9223372036854775807):Sat w0 w (Own nv [.string s] s :: Γ):=h.add ⟨⟨rfl,hs⟩,rfl⟩
theorem Sat.int (h:Sat w0 w Γ) (n:Int):Sat w0 w (Own bX [.int .i64 n] n :: Γ):=h.add ⟨rfl,rfl⟩
theorem Sat.pair {α β:Type} {R:Rep α} {S:Rep β} {c d:List Value} {x:α} {y:β} (h:Sat w0 w (Own R c x :: Own S d y :: Γ)):Sat w0 w (Own (rN R S) (c++d) (x,y) :: Γ) :=
 h.join fun f g h1 h2=>⟨c,d,f,g,rfl,rfl,h1,h2⟩
theorem Sat.ints {xs:yQ} (h:Sat w0 w Γ):Sat w0 w (tW bX (xs.map (Value.int .i64)) xs :: Γ):=by
 refine h.add ?_
 induction xs with
 | nil=>exact ⟨rfl,rfl⟩
 | cons x xs ih=>exact ⟨[.int .i64 x],_,[],[],rfl,rfl,⟨rfl,rfl⟩,ih⟩
end laws2
abbrev Env:=Nat->Value
def upd (e:Env) (d:Nat) (v:Value):Env:=fun t=>bif Nat.beq t d then v else e t
def ev (e:Env):Operand->Value
 | .tmp t=>e t
 | .const v=>v
 | .global g=>.pointer (some ⟨g,0,none⟩)
 | .func f=>.func (.func f) #[] #[]
theorem uE {a b:Nat} (h:¬ a=b):Nat.beq a b=false:=by
 cases hb:Nat.beq a b
 ·rfl
 ·exact absurd (sS hb) h
structure Mt (n:Nat) (e:Env) (a:Act):Prop where
 size:a.tmps.size=n
 defers:a.defers=[]
 get:∀ t,a.tmps.getD t undef=e t
theorem Mt.eval {n:Nat} {e:Env} {a:Act} (h:Mt n e a):a.eval=ev e:=by
 funext x
 cases x <;> simp only [Act.eval,ev]
 exact h.get _
theorem Mt.put {n:Nat} {e:Env} {a:Act} (h:Mt n e a) {d:Nat} (hd:d<n) (v:Value):Mt n (upd e d v) (a.put (some d) v):=by
 refine ⟨by simp [Act.put,h.size],by simpa [Act.put] using h.defers,fun t=>?_⟩
 have hg:=h.get t
 have hs:=h.size
 simp only [Act.put,upd]
 by_cases ht:t=d
 ·subst ht
  simp [Array.getD,hs,hd]
 ·have:Nat.beq t d=false:=uE ht
  rw [this]
  simp only [am,<- hg,Array.getD,Array.size_setIfInBounds]
  split
  ·rename_i hlt
   have:=Array.getElem_setIfInBounds (xs:=a.tmps) (i:=d) (a:=v) (j:=t) (by simpa using hlt)
   rw [a9 (fun e=>ht e.symm)] at this
   exact this
  ·rfl
theorem H9 {e:Env} {d:Nat} {v:Value} (h:e d=v):upd e d v=e:=by
 funext t
 unfold upd
 by_cases ht:t=d
 ·subst ht;simp [h]
 ·have:Nat.beq t d=false:=uE ht
  rw [this];rfl
theorem MP {e e':Env} {d:Nat} {v:Value} (h:e' d=v) (h2:e=e'):e=upd e' d v:=by rw [H9 h,h2]
def PV (P:Program) (o:Oper) (e:Env) (w:World) (v:Value):Prop:=∀ w',Ext w w'->(execOp (ev e) o).run P w'=.ok (.value v) w'
theorem PV.ext {P:Program} {o:Oper} {e:Env} {w w1:World} {v:Value} (h:PV P o e w v) (hx:Ext w w1):PV P o e w1 v:=fun w' h'=>h w' (hx.trans h')

def nrm (n:Nat) (K:Env->World->Prop):Exit->Act->World->Prop:=fun x a w=>x=.normal/\∃ e,Mt n e a/\K e w
def EL (P:Program) (n:Nat) (ops:Array Oper) (K:Env->World->Prop) (rest:List Oper) (e:Env) (w:World):Prop:=∀ a,Mt n e a->wpList P ops (nrm n K) rest a w
def QL (P:Program) (n:Nat) (ops:Array Oper) (w:World) (K:Env->Prop) (rest:List Oper) (e:Env):Prop:=∀ a,Mt n e a->wpQuiet P ops (fun w'=>Ext w w') (fun a'=>∃ e',Mt n e' a'/\K e') rest a

structure Goes (P:Program) (f:FuncId):Prop where
 h:∃ fn,P.funcs[f]? = some fn/\(fn.name == "runtime.NumGoroutine")=false/\fn.body.isNone=false
theorem Goes.run {P:Program} {f:FuncId} (h:Goes P f) (args:Array Value) (w:World):(callFunc f args).run P w=.ok (.enter f args) w:=by
 obtain ⟨fn,h1,h2,h3⟩:=h.h
 simp only [callFunc,dE,mF,d8,h1,h2,h3,xl,nj]
 rfl

section
variable {P:Program} {n:Nat} {ops:Array Oper} {K:Env->World->Prop} {KQ:Env->Prop} {rest:List Oper} {e:Env} {w w0:World} {v:Value} {d:Nat} {op:Op} {ty:TypeId} {pos:String} {af:Array Edge} {Γ rΓ:List Asn}

theorem aj (h:K e w):EL P n ops K [] e w:=fun _ ha=>⟨rfl,e,ha,h⟩
theorem bJ (h:KQ e):QL P n ops w KQ [] e:=fun _ ha=>⟨e,ha,h⟩
theorem qJ (hp:PV P ⟨some d,op,ty,pos,af,none⟩ e w v) (hd:d<n) (hK:EL P n ops K rest (upd e d v) w):EL P n ops K (⟨some d,op,ty,pos,af,none⟩ :: rest) e w:=by
 intro a ha
 refine lA rfl fun K' hK'=>?_
 unfold Oper.wp
 rw [ha.eval,hp w (Ext.refl w)]
 exact hK' _ _ (hK _ (ha.put hd v))
theorem xF (hp:PV P ⟨some d,op,ty,pos,af,none⟩ e w v) (hd:d<n) (hK:QL P n ops w KQ rest (upd e d v)):QL P n ops w KQ (⟨some d,op,ty,pos,af,none⟩ :: rest) e:=by
 intro a ha
 unfold wpQuiet
 rw [aX (by rfl)]
 refine ⟨v,fun w' hw'=>?_,hK _ (ha.put hd v)⟩
 unfold Oper.quietAt
 rw [ha.eval,hp w' hw']
 exact ⟨rfl,rfl⟩
theorem bu {f:FuncId} {args:Array Operand} {tys:Array TypeId} {vals:Array Value} {R:Ending->World->Prop} (hg:Goes P f) (hc:Calls P f vals w R) (hv:(args.toList.map (ev e)).toArray=vals) (hd:d<n)
  (hK:∀ x w',R x w'->∃ v,x=.returned v/\EL P n ops K rest (upd e d v) w'):EL P n ops K (⟨some d,.call ⟨.value (.func f),args,tys⟩,ty,pos,af,none⟩ :: rest) e w:=by
 intro a ha
 refine lA rfl fun K' hK'=>?_
 unfold Oper.wp execOp
 have he:args.map (ev e)=vals:=by rw [<- hv];apply Array.ext';simp
 simp only [ha.eval,resolve,ev,Deferred.ofValue,dE,fG,d8,Array.empty_append,Array.append_empty,he,invoke,hg.run,Oper.upon_enter]
 refine hc.mono fun x w' hx=>?_
 obtain ⟨v,rfl,h⟩:=hK x w' hx
 exact hK' _ _ (h _ (ha.put hd v))
theorem dP {f:FuncId} {args:Array Operand} {tys:Array TypeId} {vals:Array Value} (v:Value) (hg:Goes P f)
  (hc:∀ w',Ext w w'->Calls P f vals w' fun x w''=>x=.returned v/\Ext w' w'') (hv:(args.toList.map (ev e)).toArray=vals) (hd:d<n)
  (hK:QL P n ops w KQ rest (upd e d v)):QL P n ops w KQ (⟨some d,.call ⟨.value (.func f),args,tys⟩,ty,pos,af,none⟩ :: rest) e:=by
 intro a ha
 unfold wpQuiet
 rw [aX (by rfl)]
 refine ⟨v,fun w' hw'=>?_,hK _ (ha.put hd v)⟩
 unfold Oper.quietAt execOp
 have he:args.map (ev e)=vals:=by rw [<- hv];apply Array.ext';simp
 simp only [ha.eval,resolve,ev,Deferred.ofValue,dE,fG,d8,Array.empty_append,Array.append_empty,he,invoke,hg.run]
 exact ⟨rfl,(hc w' hw').mono fun x w'' ⟨h1,h2⟩=>⟨h1,hw'.trans h2⟩⟩
def yld (ops:Array Oper) (e:Env) (j:Nat):Option Bool :=
 match (ops[j]?).bind (·.dst) with
 | some t=>match e t with | .bool b=>some b | _=>none
 | none=>none
theorem rR {a:Act} (ha:Mt n e a) {j:Nat} {b:Bool} (h:yld ops e j=some b):yielded ops a.tmps j=some b:=by
 unfold yld at h
 unfold yielded
 cases hj:(ops[j]?).bind (·.dst) with
 | none=>simp [hj] at h
 | some t =>
  simp only [hj] at h
  have hg:=ha.get t
  simp only [Option.bind_some]
  cases hv:e t with
  | bool c =>
   rw [hv] at h hg
   simp only [pE] at h
   subst h
   unfold Array.getD at hg
   split at hg
   ·rename_i hlt
    rw [nK hlt]
    have:a.tmps[t]=.bool c:=hg
    rw [this]
   ·simp [undef] at hg
  | _=>simp [hv] at h
theorem wr {a:Act} (ha:Mt n e a) {j:Nat} (h:(match (ops[j]?).bind (·.dst) with | some t=>e t | none=>undef)=undef):yielded ops a.tmps j=none:=by
 unfold yielded
 cases hj:(ops[j]?).bind (·.dst) with
 | none=>rfl
 | some t =>
  simp only [hj] at h
  have hg:=ha.get t
  rw [h] at hg
  simp only [Option.bind_some]
  cases hv:a.tmps[t]? with
  | none=>rfl
  | some v =>
   have:a.tmps.getD t undef=v:=by
    obtain ⟨h1,h2⟩:=j0.1 hv
    simp [Array.getD,h1,h2]
   rw [this] at hg
   subst hg
   rfl
theorem Md {j:Nat} {b c:Bool} {dst:Option Nat} (h:yld ops e j=some c) (hc:c=b) (hK:EL P n ops K (⟨dst,op,ty,pos,af,none⟩ :: rest) e w):EL P n ops K (⟨dst,op,ty,pos,af,some (j,b)⟩ :: rest) e w:=by
 subst hc
 intro a ha
 have:=hK a ha
 unfold wpList at this ⊢
 rw [aX (by simp [Region.wanted])] at this
 rw [aX (by simp [Region.wanted,rR ha h])]
 exact this
theorem KO {j:Nat} {b b' c:Bool} {d:Nat} (h:yld ops e j=some c) (hc:c=b) (hb:(b == b')=false) (hd:d<n) (hK:EL P n ops K rest (upd e d undef) w):EL P n ops K (⟨some d,op,ty,pos,af,some (j,b')⟩ :: rest) e w:=by
 subst hc
 intro a ha
 unfold wpList
 rw [a9 (by simp [Region.wanted,rR ha h];simpa using hb)]
 exact hK _ (ha.put hd _)
theorem Mj {j:Nat} {b c:Bool} {dst:Option Nat} (h:yld ops e j=some c) (hc:c=b) (hK:QL P n ops w KQ (⟨dst,op,ty,pos,af,none⟩ :: rest) e):QL P n ops w KQ (⟨dst,op,ty,pos,af,some (j,b)⟩ :: rest) e:=by
 subst hc
 intro a ha
 have:=hK a ha
 unfold wpQuiet at this ⊢
 rw [aX (by simp [Region.wanted])] at this
 rw [aX (by simp [Region.wanted,rR ha h])]
 exact this
theorem Le {j:Nat} {b b' c:Bool} {d:Nat} (h:yld ops e j=some c) (hc:c=b) (hb:(b == b')=false) (hd:d<n) (hK:QL P n ops w KQ rest (upd e d undef)):QL P n ops w KQ (⟨some d,op,ty,pos,af,some (j,b')⟩ :: rest) e:=by
 subst hc
 intro a ha
 unfold wpQuiet
 rw [a9 (by simp [Region.wanted,rR ha h];simpa using hb)]
 exact hK _ (ha.put hd _)
end

def Lf (n:Nat) (Q:Exit->Env->World->Prop):Exit->Act->World->Prop:=fun x a w=>∃ e,Mt n e a/\Q x e w
def CW (P:Program) (n:Nat) (c:Code) (Q:Exit->Env->World->Prop) (e:Env) (w:World):Prop:=∀ a,Mt n e a->c.wp P (Lf n Q) a w
def thn (K:Env->World->Prop) (Q:Exit->Env->World->Prop):Exit->Env->World->Prop
 | .normal,e,w=>K e w
 | x,e,w=>Q x e w
def inb (id:Nat) (Q:Exit->Env->World->Prop):Exit->Env->World->Prop
 | .exit id',e,w=>bif Nat.beq id' id then Q .normal e w else Q (.exit id') e w
 | x,e,w=>Q x e w
section
variable {P:Program} {n:Nat} {Q:Exit->Env->World->Prop} {K:Env->World->Prop} {e:Env} {w:World} {c x y:Code}
theorem ze (h:∀ Q',(∀ x e w,Q x e w->Q' x e w)->CW P n c Q' e w):CW P n c Q e w:=h Q fun _ _ _ h=>h
theorem Mm {i:Nat} (h:Q .normal e w):inb i Q (.exit i) e w:=by
 have:Nat.beq i i=true:=by simp
 show (bif Nat.beq i i then _ else _)
 rw [this];exact h
theorem F6 (h:CW P n x (thn (fun e w=>CW P n y Q e w) Q) e w):CW P n (.seq x y) Q e w:=by
 intro a ha
 refine wp_seq (qQ (h a ha) ?_)
 rintro x' a' w' ⟨e',he',hq⟩
 cases x' with
 | normal=>exact hq a' he'
 | _=>exact ⟨e',he',hq⟩
theorem bi (h:Q .normal e w):CW P n .skip Q e w:=fun _ ha=>wp_skip ⟨e,ha,h⟩
theorem aL {i:Nat} (h:Q (.exit i) e w):CW P n (.exit i) Q e w:=fun _ ha=>wp_exit ⟨e,ha,h⟩
theorem ak (h:Q .ret e w):CW P n .ret Q e w:=fun _ ha=>wp_ret ⟨e,ha,h⟩
theorem Hn {o:Operand} {b:Bool} (hc:ev e o=.bool b) (hb:b=true) (h:CW P n x Q e w):CW P n (.cond o x y) Q e w :=
 fun a ha=>wp_cond_true (by rw [ha.eval,hc,hb]) (h a ha)
theorem Hb {o:Operand} {b:Bool} (hc:ev e o=.bool b) (hb:b=false) (h:CW P n y Q e w):CW P n (.cond o x y) Q e w :=
 fun a ha=>wp_cond_false (by rw [ha.eval,hc,hb]) (h a ha)
theorem HT {i:Nat} (h:CW P n c (inb i Q) e w):CW P n (.block i c) Q e w:=by
 intro a ha
 refine wp_block (qQ (h a ha) ?_)
 rintro x' a' w' ⟨e',he',hq⟩
 cases x' with
 | exit id' =>
  by_cases hi:id'=i
  ·subst hi
   have:Nat.beq id' id'=true:=by simp
   have hq':(bif Nat.beq id' id' then Q .normal e' w' else Q (.exit id') e' w'):=hq
   rw [this] at hq'
   simp only [Exit.inBlock,if_true]
   exact ⟨e',he',hq'⟩
  ·have:Nat.beq id' i=false:=uE hi
   have hq':(bif Nat.beq id' i then Q .normal e' w' else Q (.exit id') e' w'):=hq
   rw [this] at hq'
   simp only [Exit.inBlock,hi,nj]
   exact ⟨e',he',hq'⟩
 | _=>exact ⟨e',he',hq⟩
theorem ae {id:Nat} {l:List Oper} (h:EL P n l.toArray (fun e w=>Q .normal e w) l e w):CW P n (.region id l.toArray false) Q e w:=by
 intro a ha
 refine qQ (wp_region_lit (h a ha)) ?_
 rintro x a w ⟨rfl,e,he,hk⟩
 exact ⟨e,he,hk⟩
theorem cH {id:Nat} {l:List Oper} (hm:P.follows .mixedOrders=true) (hB:Region.lexB .any l.toArray=true) (h:QL P n l.toArray w (fun e=>∀ w',Ext w w'->Q .normal e w') l e):CW P n (.region id l.toArray true) Q e w:=by
 intro a ha
 refine wp_region_quiet (C:=fun w'=>Ext w w') hm hB ⟨rfl,rfl,rfl,bN _,fun _ _=>rfl⟩ ?_
 have:=h a ha
 have key:∀ (r:List Oper) (a:Act),wpQuiet P l.toArray (fun w'=>Ext w w') (fun a'=>∃ e',Mt n e' a'/\∀ w',Ext w w'->Q .normal e' w') r a->wpQuiet P l.toArray (fun w'=>Ext w w') (fun a'=>∀ w',Ext w w'->Lf n Q .normal a' w') r a:=by
  intro r
  induction r with
  | nil=>rintro a ⟨e',h1,h2⟩ w' hw';exact ⟨e',h1,h2 w' hw'⟩
  | cons o r ih =>
   intro a h
   unfold wpQuiet at h ⊢
   split
   ·rename_i hw
    rw [aX hw] at h
    exact Oper.quiet_mono ih h
   ·rename_i hw
    rw [a9 hw] at h
    exact ih _ h
 exact key _ _ this
theorem I3 (I:Nat->Env->World->Prop) (k0:Nat) (h0:I k0 e w)
  (hr:∀ k e w,I k e w->CW P n c (thn (fun e w=>∃ k',k'<k/\I k' e w) Q) e w):CW P n (.loop c) Q e w:=by
 intro a ha
 refine wp_loop_ghost (fun k a w=>∃ e,Mt n e a/\I k e w) k0 ⟨e,ha,h0⟩ ?_
 rintro k a w ⟨e,he,hI⟩
 refine qQ (hr k e w hI a he) ?_
 rintro x' a' w' ⟨e',he',hq⟩
 cases x' with
 | normal =>
  obtain ⟨k',hk',hI'⟩:=hq
  exact ⟨k',hk',e',he',hI'⟩
 | _=>exact ⟨e',he',hq⟩
theorem H3 (I:Nat->Env->World->Prop) (k0:Nat) (h0:I k0 e w) (hz:∀ e w,¬ I 0 e w)
  (hr:∀ k e w,I (k+1) e w->CW P n c (thn (fun e w=>I k e w) Q) e w):CW P n (.loop c) Q e w:=by
 refine I3 I k0 h0 ?_
 intro k e w hI
 cases k with
 | zero=>exact absurd hI (hz e w)
 | succ k =>
  intro a ha
  refine qQ (hr k e w hI a ha) ?_
  rintro x' a' w' ⟨e',he',hq⟩
  cases x' with
  | normal=>exact ⟨e',he',k,Nat.lt_succ_self k,hq⟩
  | _=>exact ⟨e',he',hq⟩
end

def Fin (P:Program) (fn:Func) (n:Nat) (R:Ending->World->Prop):Exit->Env->World->Prop
 | .normal,e,w=>∃ v,(∀ a,Mt n e a->(results fn a.tmps).run P w=.ok v w)/\R (.returned v) w
 | .ret,e,w=>∃ v,(∀ a,Mt n e a->(results fn a.tmps).run P w=.ok v w)/\R (.returned v) w
 | _,_,_=>False
def An:List Value->Nat->Env
 | [],_=>fun _=>undef
 | v :: l,k=>upd (An l (k+1)) k v
theorem BH:∀ (l:List Value) (k t:Nat),An l k t=if k<=t then l.getD (t-k) undef else undef
 | [],k,t=>by simp [An]
 | v :: l,k,t=>by
  unfold An upd
  by_cases h:t=k
  ·subst h;simp
  ·have hb:Nat.beq t k=false:=uE h
   rw [hb,am,BH l (k+1) t]
   by_cases hk:k+1<=t
   ·rw [aX hk,aX oa,show t-k=(t-(k+1))+1 by omega]
    simp
   ·rw [a9 hk]
    by_cases hk2:k<=t
    ·omega
    ·rw [a9 hk2]
theorem aT {P:Program} {f:FuncId} {fn:Func} {c:Code} {l:List Value} {w:World} {R:Ending->World->Prop} (hf:P.funcs[f]? = some fn) (hb:fn.body=some c) {n:Nat} (hn:fn.ntmps=n) (hl:l.length<=n)
  (h:CW P n c (Fin P fn n R) (An l 0) w):Calls P f l.toArray w R:=by
 refine calls_of_wp hf hb (qQ (h _ ?_) ?_)
 ·refine ⟨by simp;omega,rfl,fun t=>?_⟩
  rw [BH]
  simp only [cE,if_true,iP,Array.getD,Ao,pq,Array.size_replicate]
  by_cases h1:t<l.length
  ·rw [jg oa]
   simp [h1]
  ·have h2:l.getD t undef=undef:=by simp [h1]
   rw [h2]
   split
   ·rename_i h3
    have:=Array.getElem_append_right (xs:=l.toArray) (ys:=Array.replicate (fn.ntmps-l.length) undef) (i:=t) (by simpa using h1) (h:=by simpa using h3)
    simpa using this
   ·rfl
 ·rintro x a w' ⟨e,he,hq⟩
  cases x with
  | normal=>obtain ⟨v,h1,h2⟩:=hq;exact bodyPost_end (h1 a he) he.defers h2
  | ret=>obtain ⟨v,h1,h2⟩:=hq;exact bodyPost_ret (h1 a he) he.defers h2
  | _=>exact hq.elim
def rng (n:Int):Bool:=decide (-9223372036854775808<=n)&&decide (n<=9223372036854775807)
def ad (a b:Int):Option Int:=if rng (a+b) then some (a+b) else none
def sb (a b:Int):Option Int:=if rng (a-b) then some (a-b) else none
def ml (a b:Int):Option Int:=if rng (a*b) then some (a*b) else none
def qt (a b:Int):Option Int:=if b≠0/\rng (a.tdiv b) then some (a.tdiv b) else none
def rm (a b:Int):Option Int:=if b≠0 then some (a.tmod b) else none
def ix {α:Type} (xs:List α) (i:Int):Option α:=if 0<=i then xs[i.toNat]? else none
def bx (s:ByteArray) (i:Int):Option Int:=if 0<=i then (s[i.toNat]?).map (fun b=>(b.toNat:Int)) else none
def slc {α:Type} (xs:List α) (lo hi:Int):Option (List α):=if 0<=lo/\lo<=hi/\hi<=xs.length then some ((xs.take hi.toNat).drop lo.toNat) else none
def apd {α:Type} (yP:Nat) (xs ys:List α):Option (List α):=if (xs.length+ys.length)*yP<=140737488355328 then some (xs++ys) else none
def mk {α:Type} (yP:Nat) (z:α) (n:Int):Option (List α):=if 0<=n/\n.toNat*yP<=281474976710656/\n.toNat<=140737488355328 then some (List.replicate n.toNat z) else none
def sto {α:Type} (xs:List α) (i:Int) (y:α):Option (List α):=if 0<=i/\i.toNat<xs.length then some (xs.set i.toNat y) else none

theorem ob {α β:Type} {o:Option α} {f:α->Option β} {r:β} (h:o.bind f=some r):∃ x,o=some x/\f x=some r:=Option.bind_eq_some_iff.1 h
theorem oif {α:Type} {c:Bool} {x y:Option α} {r:α} (h:(bif c then x else y)=some r):(c=true/\x=some r)\/(c=false/\y=some r):=by
 cases c
 ·exact .inr ⟨rfl,h⟩
 ·exact .inl ⟨rfl,h⟩
theorem mS {n:Int} (h:rng n=true):IntKind.i64.wrap n=n:=by
 simp only [rng,bU,dN] at h
 exact IntWalk.i64_in n h
theorem Jl {a b c:Int} (h:ad a b=some c):rng (a+b)=true/\c=a+b:=by
 unfold ad at h;split at h
 ·exact ⟨by assumption,by simpa using h.symm⟩
 ·cases h
theorem EN {a b c:Int} (h:sb a b=some c):rng (a-b)=true/\c=a-b:=by
 unfold sb at h;split at h
 ·exact ⟨by assumption,by simpa using h.symm⟩
 ·cases h
theorem Jw {a b c:Int} (h:ml a b=some c):rng (a*b)=true/\c=a*b:=by
 unfold ml at h;split at h
 ·exact ⟨by assumption,by simpa using h.symm⟩
 ·cases h
theorem jD {α:Type} {xs:List α} {i:Int} {x:α} (h:ix xs i=some x):∃ k:Nat,i=(k:Int)/\∃ h:k<xs.length,xs[k]=x:=by
 unfold ix at h
 split at h
 ·rename_i h0
  obtain ⟨h1,h2⟩:=AB.1 h
  exact ⟨i.toNat,oa,h1,h2⟩
 ·cases h

section
variable {P:Program} {e:Env} {w w0:World} {d:Option Nat} {ty:TypeId} {pos:String} {af:Array Edge} {x y z:Operand} {Γ rΓ:List Asn}

theorem bm {v:Value} (hx:ev e x=v):PV P ⟨d,.move x,ty,pos,af,none⟩ e w v:=fun w' _=>by
 unfold execOp;simp only [hx];rfl
theorem bK {v:Value} (hx:ev e x=v:=by exact rfl):PV P ⟨d,.move x,ty,pos,af,none⟩ e w v:=bm hx
theorem eE {v:Value} (hx:ev e x=v):PV P ⟨d,.assign x,ty,pos,af,none⟩ e w v:=fun w' _=>by
 unfold execOp;simp only [hx];rfl
theorem BE {b:Bool} {v:Value} (hx:ev e x=.bool b) (hb:b=true) (hy:ev e y=v):PV P ⟨d,.pick x y z,ty,pos,af,none⟩ e w v:=fun w' _=>by
 unfold execOp;subst hb;simp [hx,hy,asBool]
theorem aA {b:Bool} {v:Value} (hb:b=true) (hx:ev e x=.bool b:=by exact rfl) (hy:ev e y=v:=by exact rfl):PV P ⟨d,.pick x y z,ty,pos,af,none⟩ e w v:=BE hx hb hy
theorem cN {b:Bool} {v:Value} (hx:ev e x=.bool b:=by exact rfl) (hb:b=true:=by exact rfl) (hy:ev e y=v:=by exact rfl):PV P ⟨d,.pick x y z,ty,pos,af,none⟩ e w v:=BE hx hb hy
theorem BN {b:Bool} {v:Value} (hx:ev e x=.bool b) (hb:b=false) (hz:ev e z=v):PV P ⟨d,.pick x y z,ty,pos,af,none⟩ e w v:=fun w' _=>by
 unfold execOp;subst hb;simp [hx,hz,asBool]
theorem az {b:Bool} {v:Value} (hb:b=false) (hx:ev e x=.bool b:=by exact rfl) (hz:ev e z=v:=by exact rfl):PV P ⟨d,.pick x y z,ty,pos,af,none⟩ e w v:=BN hx hb hz
theorem bB {b:Bool} {v:Value} (hx:ev e x=.bool b:=by exact rfl) (hb:b=false:=by exact rfl) (hz:ev e z=v:=by exact rfl):PV P ⟨d,.pick x y z,ty,pos,af,none⟩ e w v:=BN hx hb hz
theorem KC {t:TypeId} {b:Bool} (hx:ev e x=.bool b):PV P ⟨d,.unOp .not t x,ty,pos,af,none⟩ e w (.bool (!b)):=fun w' _=>by
 unfold execOp;simp [hx,Op.unary]
theorem aS {t:TypeId} {b:Bool} (hx:ev e x=.bool b:=by exact rfl):PV P ⟨d,.unOp .not t x,ty,pos,af,none⟩ e w (.bool (!b)):=KC hx
theorem pH {t:TypeId} {a c:Int} (hx:ev e x=.int .i64 a) (h:sb 0 a=some c):PV P ⟨d,.unOp .neg t x,ty,pos,af,none⟩ e w (.int .i64 c):=fun w' _=>by
 obtain ⟨h1,rfl⟩:=EN h
 unfold execOp;simp [hx,Op.unary,Op.intArith,mS h1];simpa using mS h1
section
variable {t u:TypeId} {a b c:Int}
theorem ci (hx:ev e x=.int .i64 a) (hy:ev e y=.int .i64 b) (h:ad a b=some c):PV P ⟨d,.binOp .add t x y u,ty,pos,af,none⟩ e w (.int .i64 c):=fun w' _=>by
 obtain ⟨h1,rfl⟩:=Jl h
 unfold execOp;simp [hx,hy,eqGuard,binOp,Op.intArith,mS h1]
theorem aK (h:ad a b=some c) (hx:ev e x=.int .i64 a:=by exact rfl) (hy:ev e y=.int .i64 b:=by exact rfl):PV P ⟨d,.binOp .add t x y u,ty,pos,af,none⟩ e w (.int .i64 c):=ci hx hy h
theorem K6 (hx:ev e x=.int .i64 a) (hy:ev e y=.int .i64 b) (h:sb a b=some c):PV P ⟨d,.binOp .sub t x y u,ty,pos,af,none⟩ e w (.int .i64 c):=fun w' _=>by
 obtain ⟨h1,rfl⟩:=EN h
 unfold execOp;simp [hx,hy,eqGuard,binOp,Op.intArith,mS h1]
theorem bV (h:sb a b=some c) (hx:ev e x=.int .i64 a:=by exact rfl) (hy:ev e y=.int .i64 b:=by exact rfl):PV P ⟨d,.binOp .sub t x y u,ty,pos,af,none⟩ e w (.int .i64 c):=K6 hx hy h
theorem Kv (hx:ev e x=.int .i64 a) (hy:ev e y=.int .i64 b) (h:ml a b=some c):PV P ⟨d,.binOp .mul t x y u,ty,pos,af,none⟩ e w (.int .i64 c):=fun w' _=>by
 obtain ⟨h1,rfl⟩:=Jw h
 unfold execOp;simp [hx,hy,eqGuard,binOp,Op.intArith,mS h1]
theorem dx (h:ml a b=some c) (hx:ev e x=.int .i64 a:=by exact rfl) (hy:ev e y=.int .i64 b:=by exact rfl):PV P ⟨d,.binOp .mul t x y u,ty,pos,af,none⟩ e w (.int .i64 c):=Kv hx hy h
theorem jO (hx:ev e x=.int .i64 a) (hy:ev e y=.int .i64 b) (h:qt a b=some c):PV P ⟨d,.binOp .quo t x y u,ty,pos,af,none⟩ e w (.int .i64 c):=fun w' _=>by
 unfold qt at h;split at h
 ·rename_i h1
  obtain rfl:=c8 h
  unfold execOp;simp [hx,hy,eqGuard,binOp,Op.intDiv,h1.1,mS h1.2]
 ·cases h
theorem nc (hx:ev e x=.int .i64 a) (hy:ev e y=.int .i64 b) (h:rm a b=some c):PV P ⟨d,.binOp .rem t x y u,ty,pos,af,none⟩ e w (.int .i64 c):=fun w' _=>by
 unfold rm at h;split at h
 ·rename_i h1
  obtain rfl:=c8 h
  unfold execOp;simp [hx,hy,eqGuard,binOp,Op.intDiv,h1]
 ·cases h
theorem Bi {k:IntKind} (hx:ev e x=.int k a) (hy:ev e y=.int k b):PV P ⟨d,.binOp .add t x y u,ty,pos,af,none⟩ e w (.int k (k.wrap (a+b))):=fun w' _=>by
 unfold execOp;simp [hx,hy,eqGuard,binOp,Op.intArith]
theorem II {k:IntKind} (hx:ev e x=.int k a) (hy:ev e y=.int k b):PV P ⟨d,.binOp .mul t x y u,ty,pos,af,none⟩ e w (.int k (k.wrap (a*b))):=fun w' _=>by
 unfold execOp;simp [hx,hy,eqGuard,binOp,Op.intArith]
theorem Ku {k:IntKind} (hx:ev e x=.int k a) (hy:ev e y=.int k b):PV P ⟨d,.binOp .eql t x y u,ty,pos,af,none⟩ e w (.bool (a == b)):=fun w' _=>by
 unfold execOp;simp [hx,hy,eqGuard,binOp,Op.intCmp]
theorem bv {k:IntKind} (hx:ev e x=.int k a:=by exact rfl) (hy:ev e y=.int k b:=by exact rfl):PV P ⟨d,.binOp .eql t x y u,ty,pos,af,none⟩ e w (.bool (a == b)):=Ku hx hy
theorem Lj {k:IntKind} (hx:ev e x=.int k a) (hy:ev e y=.int k b):PV P ⟨d,.binOp .neq t x y u,ty,pos,af,none⟩ e w (.bool (a != b)):=fun w' _=>by
 unfold execOp;simp [hx,hy,eqGuard,binOp,Op.intCmp]
theorem cj {k:IntKind} (hx:ev e x=.int k a:=by exact rfl) (hy:ev e y=.int k b:=by exact rfl):PV P ⟨d,.binOp .neq t x y u,ty,pos,af,none⟩ e w (.bool (a != b)):=Lj hx hy
theorem dC {k:IntKind} (hx:ev e x=.int k a) (hy:ev e y=.int k b):PV P ⟨d,.binOp .lss t x y u,ty,pos,af,none⟩ e w (.bool (decide (a<b))):=fun w' _=>by
 unfold execOp;simp [hx,hy,eqGuard,binOp,Op.intCmp]
theorem aV {k:IntKind} (hx:ev e x=.int k a:=by exact rfl) (hy:ev e y=.int k b:=by exact rfl):PV P ⟨d,.binOp .lss t x y u,ty,pos,af,none⟩ e w (.bool (decide (a<b))):=dC hx hy
theorem jw {k:IntKind} (hx:ev e x=.int k a) (hy:ev e y=.int k b):PV P ⟨d,.binOp .leq t x y u,ty,pos,af,none⟩ e w (.bool (decide (a<=b))):=fun w' _=>by
 unfold execOp;simp [hx,hy,eqGuard,binOp,Op.intCmp]
theorem Ly {k:IntKind} (hx:ev e x=.int k a) (hy:ev e y=.int k b):PV P ⟨d,.binOp .gtr t x y u,ty,pos,af,none⟩ e w (.bool (decide (b<a))):=fun w' _=>by
 unfold execOp;simp [hx,hy,eqGuard,binOp,Op.intCmp]
theorem bo {k:IntKind} (hx:ev e x=.int k a:=by exact rfl) (hy:ev e y=.int k b:=by exact rfl):PV P ⟨d,.binOp .gtr t x y u,ty,pos,af,none⟩ e w (.bool (decide (b<a))):=Ly hx hy
theorem gz {k:IntKind} (hx:ev e x=.int k a) (hy:ev e y=.int k b):PV P ⟨d,.binOp .geq t x y u,ty,pos,af,none⟩ e w (.bool (decide (b<=a))):=fun w' _=>by
 unfold execOp;simp [hx,hy,eqGuard,binOp,Op.intCmp]
end
def eqS (s r:ByteArray):Bool:=s.toList == r.toList
def ltS (s r:ByteArray):Bool:=Op.bytesLess s.toList r.toList
section
variable {t u:TypeId} {s r:ByteArray}
theorem sp (hx:ev e x=.string s) (hy:ev e y=.string r):PV P ⟨d,.binOp .eql t x y u,ty,pos,af,none⟩ e w (.bool (eqS s r)):=fun w' _=>by
 unfold execOp eqS;simp [hx,hy,eqGuard,binOp,Op.stringOp]
theorem Jd (hx:ev e x=.string s) (hy:ev e y=.string r):PV P ⟨d,.binOp .neq t x y u,ty,pos,af,none⟩ e w (.bool (!(eqS s r))):=fun w' _=>by
 unfold execOp eqS;simp [hx,hy,eqGuard,binOp,Op.stringOp]
theorem Et (hx:ev e x=.string s) (hy:ev e y=.string r):PV P ⟨d,.binOp .geq t x y u,ty,pos,af,none⟩ e w (.bool (!(ltS s r))):=fun w' _=>by
 unfold execOp ltS;simp [hx,hy,eqGuard,binOp,Op.stringOp]
end
theorem Ff {k:Nat} {vs:Array Value} {v:Value} (hx:ev e x=.tuple vs) (h:vs[k]? = some v):PV P ⟨d,.extract x k,ty,pos,af,none⟩ e w v:=fun w' _=>by
 unfold execOp;simp [hx,Instr.extract,h]
theorem av {k:Nat} {vs:Array Value} {v:Value} (hx:ev e x=.tuple vs:=by exact rfl) (h:vs[k]? = some v:=by exact rfl):PV P ⟨d,.extract x k,ty,pos,af,none⟩ e w v:=Ff hx h
theorem DI {s t:TypeId} {k k2:IntKind} {a:Int} {u:TypeDesc} (hs:P.underlying s=some u) (ht:P.underlying t=some (.int k2)) (hx:ev e x=.int k a):PV P ⟨d,.convert s t x,ty,pos,af,none⟩ e w (.int k2 (k2.wrap a)):=fun w' _=>by
 unfold execOp;simp [hx,convert,gb ht,gb hs,Conv.intToInt]
theorem o7 {t:TypeId} {s:ByteArray} (ht:P.underlying t=some .string) (hx:ev e x=.string s):PV P ⟨d,.call ⟨.builtin .len,#[x],#[t]⟩,ty,pos,af,none⟩ e w (.int .i64 s.size):=fun w' _=>by
 unfold execOp;simp [resolve,invoke,builtin,hx,Builtin.len_,gb ht,goInt]
def imn (a b:Int):Int:=if b<a then b else a
def imx (a b:Int):Int:=if a<b then b else a
theorem iY {p:Addr} (hx:ev e x=.pointer (some p)):PV P ⟨d,.nilCheck x,ty,pos,af,none⟩ e w (.pointer (some p)):=fun w' _=>by
 unfold execOp;simp [hx]
theorem Lr {t t2:TypeId} {a b:Int} (hx:ev e x=.int .i64 a) (hy:ev e y=.int .i64 b):PV P ⟨d,.call ⟨.builtin .min,#[x,y],#[t,t2]⟩,ty,pos,af,none⟩ e w (.int .i64 (imn a b)):=fun w' _=>by
 unfold execOp imn;simp [resolve,invoke,builtin,hx,hy,Builtin.min_,Builtin.min2]
theorem sZ {t t2:TypeId} {a b:Int} (hx:ev e x=.int .i64 a) (hy:ev e y=.int .i64 b):PV P ⟨d,.call ⟨.builtin .max,#[x,y],#[t,t2]⟩,ty,pos,af,none⟩ e w (.int .i64 (imx a b)):=fun w' _=>by
 unfold execOp imx;simp [resolve,invoke,builtin,hx,hy,Builtin.max_,Builtin.max2]
theorem AS {t:TypeId} {s:ByteArray} {i:Int} {k:IntKind} {b:Int} (ht:P.underlying t=some .string) (hx:ev e x=.string s) (hy:ev e y=.int k i) (h:bx s i=some b):PV P ⟨d,.index t x y,ty,pos,af,none⟩ e w (.int .u8 b):=fun w' _=>by
 unfold bx at h
 split at h
 ·rename_i h0
  cases hb:s[i.toNat]? with
  | none=>simp [hb] at h
  | some c =>
   simp [hb] at h;subst h
   unfold execOp;simp [hx,hy,Instr.index,asIntOf,gb ht,h0,hb]
 ·cases h
class FldT (P:Program) (t:TypeId) (k:Nat) (off:outParam Nat):Prop where
 h:∃ fs f,P.underlying t=some (.struct fs)/\fs[k]? = some f/\f.offset=off/\((P.info? f.type).map fun i=>Nat.beq i.size 0)=some false
theorem aC {t:TypeId} {k off b o:Nat} [ht:FldT P t k off] (hx:ev e x=.pointer (some ⟨b,o,none⟩)):PV P ⟨d,.fieldAddr t x k,ty,pos,af,none⟩ e w (.pointer (some ⟨b,o+off,none⟩)):=fun w' _=>by
 obtain ⟨fs,f,h1,h2,h3,h4⟩:=ht.h
 cases hi:P.info? f.type with
 | none=>simp [hi] at h4
 | some i =>
  have h5:¬ i.size=0:=by
   intro e0
   simp [hi,e0] at h4
  unfold execOp
  simp [hx,Instr.fieldAt,gb h1,h2,Instr.sureAddr,fieldPlace,sizeOf,typeInfo,hi,h5,h3,jM]
theorem ah {t:TypeId} {k off b o:Nat} [ht:FldT P t k off] (hx:ev e x=.pointer (some ⟨b,o,none⟩):=by exact rfl):PV P ⟨d,.fieldAddr t x k,ty,pos,af,none⟩ e w (.pointer (some ⟨b,o+off,none⟩)):=aC hx
theorem Co {w w':World} {p:Addr} {c:Value} (hE:Ext w w') (h:w.cell? p=some c):w'.cell? p=some c:=by rw [hE.cell (block_lt_of_cell h)];exact h
theorem aw {w w':World} {b off:Nat} {ec:List Value} (hE:Ext w w') (h:∀ j c,ec[j]? = some c->w.cell? ⟨b,off+j,none⟩=some c):∀ j c,ec[j]? = some c->w'.cell? ⟨b,off+j,none⟩=some c :=
 fun j c hj=>Co hE (h j c hj)
theorem HZ {t:TypeId} [PlainT P t] {p:Addr} {c:Value} (hx:ev e x=.pointer (some p)) (hc:w.cell? p=some c):PV P ⟨d,.load t x,ty,pos,af,none⟩ e w c:=fun w' hw'=>by
 unfold execOp
 simp only [hx,Instr.loadAt,Instr.sureAddr,dE,fG,d8,xV (Co hw' hc)]
theorem ac {t:TypeId} [PlainT P t] {p:Addr} {c:Value} (hc:w.cell? p=some c) (hx:ev e x=.pointer (some p):=by exact rfl):PV P ⟨d,.load t x,ty,pos,af,none⟩ e w c:=HZ hx hc
theorem bz {t:TypeId} {n b off:Nat} [AggT P t n] {cs:List Value} (hx:ev e x=.pointer (some ⟨b,off,none⟩)) (hn:cs.length=n) (hc:∀ j c,cs[j]? = some c->w.cell? ⟨b,off+j,none⟩=some c) :
  PV P ⟨d,.load t x,ty,pos,af,none⟩ e w (.agg cs.toArray):=fun w' hw'=>by
 unfold execOp
 simp only [hx,Instr.loadAt,Instr.sureAddr,dE,fG,d8,gU hn (aw hw' hc)]
theorem ax {t:TypeId} {n b off:Nat} [AggT P t n] {cs:List Value} (hc:∀ j c,cs[j]? = some c->w.cell? ⟨b,off+j,none⟩=some c) (hx:ev e x=.pointer (some ⟨b,off,none⟩):=by exact rfl) (hn:cs.length=n:=by exact rfl):PV P ⟨d,.load t x,ty,pos,af,none⟩ e w (.agg cs.toArray):=bz hx hn hc
theorem Lp {α:Type} {R:Rep α} {E E':TypeId} {t:TypeId} [ht:SliceT P t E'] {wA:World} {v:Value} {xs:List α} (hx:ev e x=v) (hr:(aH R E).rd wA [v] xs) :
  PV P ⟨d,.call ⟨.builtin .len,#[x],#[t]⟩,ty,pos,af,none⟩ e w (.int .i64 xs.length):=fun w' _=>by
 obtain ⟨ao,cap,rfl⟩:=CH hr
 unfold execOp;simp [resolve,invoke,builtin,hx,Builtin.len_,gb ht.h,goInt]
theorem au {α:Type} {R:Rep α} {E E':TypeId} {t:TypeId} [ht:SliceT P t E'] {wA:World} {v:Value} {xs:List α} (hr:(aH R E).rd wA [v] xs) (hx:ev e x=v:=by exact rfl):PV P ⟨d,.call ⟨.builtin .len,#[x],#[t]⟩,ty,pos,af,none⟩ e w (.int .i64 xs.length):=Lp hx hr
theorem yX {α:Type} {R:Rep α} {E E':TypeId} {t:TypeId} [ht:SliceT P t E'] {zz:List Value} {n yP:Nat} [hz:ElemT P E' zz n yP] {wA:World} {v:Value} {xs:List α} (hs:ev e x=v) (hr:(aH R E).rd wA [v] xs)
  (hn:R.sz=n) (hpos:0<n) {k:IntKind} {i:Int} (hi:ev e y=.int k i) {u:α} (h:ix xs i=some u) :
  ∃ b off ec,R.rd wA ec u/\(∀ j c,ec[j]? = some c->wA.cell? ⟨b,off+j,none⟩=some c)/\∀ w,PV P ⟨d,.indexAddr t x y,ty,pos,af,none⟩ e w (.pointer (some ⟨b,off,none⟩)):=by
 obtain ⟨k',rfl,hk,rfl⟩:=jD h
 obtain ⟨ao,cap,ccs,hv,h1,h2,h3,h4,h5⟩:=hr
 obtain rfl:v=.slice ao xs.length cap:=by simpa using hv
 obtain ⟨ec,hec,hcc⟩:=sA h4 k' hk
 have hz:=hz.h
 have hlen:=j6 h4
 cases hq:P.info? E' with
 | none=>simp [hq] at hz
 | some inf =>
  simp [hq] at hz
  obtain ⟨b,off,rfl,hc⟩:∃ b off,ao=some ⟨b,off,none⟩/\∀ j c,ccs[j]? = some c->wA.cell? ⟨b,off+j,none⟩=some c:=by
   rcases h5 with rfl | ⟨b,off,rfl,hc⟩
   ·have:0<xs.length*R.sz:=Nat.mul_pos oa oa
    simp at hlen
    omega
   ·exact ⟨b,off,rfl,hc⟩
  have hsz:inf.size=R.sz:=by rw [hn];exact hz.2.1
  refine ⟨b,off+k'*R.sz,ec,hec,fun j c hj=>by rw [sK];exact hc _ _ (hcc j c hj),fun w w' _=>?_⟩
  unfold execOp
  simp [hs,hi,Instr.indexAt,asIntOf,gb ht.h,sizeOf,typeInfo,hq,hk,jM,hsz]
end

section
variable {P:Program} {n:Nat} {ops:Array Oper} {K:Env->World->Prop} {KQ:Env->Prop} {rest:List Oper} {e:Env} {w w0 wA:World} {v:Value} {d:Nat} {ty:TypeId} {pos:String} {af:Array Edge} {Γ rΓ:List Asn} {x y:Operand} {α:Type} {R:Rep α} {E E':TypeId}
theorem cU {t:TypeId} [SliceT P t E'] {zz:List Value} {m yP:Nat} [ElemT P E' zz m yP] {xs:List α} (hs:ev e x=v) (hr:(aH R E).rd wA [v] xs)
  (hn:R.sz=m) (hpos:0<m) {k:IntKind} {i:Int} (hi:ev e y=.int k i) {u:α} (h:ix xs i=some u) (hd:d<n)
  (hK:∀ b off ec,R.rd wA ec u->(∀ j c,ec[j]? = some c->wA.cell? ⟨b,off+j,none⟩=some c)->EL P n ops K rest (upd e d (.pointer (some ⟨b,off,none⟩))) w):EL P n ops K (⟨some d,.indexAddr t x y,ty,pos,af,none⟩ :: rest) e w:=by
 obtain ⟨b,off,ec,h1,h2,h3⟩:=yX (P:=P) (d:=some d) (ty:=ty) (pos:=pos) (af:=af) (t:=t) hs hr hn hpos hi h
 exact qJ (h3 _) hd (hK b off ec h1 h2)
theorem aY {t:TypeId} [SliceT P t E'] {zz:List Value} {m yP:Nat} [ElemT P E' zz m yP] {xs:List α} (hr:(aH R E).rd wA [v] xs) {k:IntKind} {i:Int} {u:α} (h:ix xs i=some u) (hK:∀ b off ec,R.rd wA ec u->(∀ j c,ec[j]? = some c->wA.cell? ⟨b,off+j,none⟩=some c)->EL P n ops K rest (upd e d (.pointer (some ⟨b,off,none⟩))) w) (hs:ev e x=v:=by exact rfl) (hn:R.sz=m:=by exact rfl) (hpos:0<m:=by exact dt) (hi:ev e y=.int k i:=by exact rfl) (hd:d<n:=by exact dt):EL P n ops K (⟨some d,.indexAddr t x y,ty,pos,af,none⟩ :: rest) e w:=cU hs hr hn hpos hi h hd hK
theorem H8 {t:TypeId} [SliceT P t E'] {zz:List Value} {m yP:Nat} [ElemT P E' zz m yP] {xs:List α} (hs:ev e x=v) (hr:(aH R E).rd wA [v] xs)
  (hn:R.sz=m) (hpos:0<m) {k:IntKind} {i:Int} (hi:ev e y=.int k i) {u:α} (h:ix xs i=some u) (hd:d<n)
  (hK:∀ b off ec,R.rd wA ec u->(∀ j c,ec[j]? = some c->wA.cell? ⟨b,off+j,none⟩=some c)->QL P n ops w KQ rest (upd e d (.pointer (some ⟨b,off,none⟩)))):QL P n ops w KQ (⟨some d,.indexAddr t x y,ty,pos,af,none⟩ :: rest) e:=by
 obtain ⟨b,off,ec,h1,h2,h3⟩:=yX (P:=P) (d:=some d) (ty:=ty) (pos:=pos) (af:=af) (t:=t) hs hr hn hpos hi h
 exact xF (h3 _) hd (hK b off ec h1 h2)
theorem bp {t:TypeId} [SliceT P t E'] {zz:List Value} {m yP:Nat} [ElemT P E' zz m yP] {xs:List α} (hr:(aH R E).rd wA [v] xs) {k:IntKind} {i:Int} {u:α} (h:ix xs i=some u) (hK:∀ b off ec,R.rd wA ec u->(∀ j c,ec[j]? = some c->wA.cell? ⟨b,off+j,none⟩=some c)->QL P n ops w KQ rest (upd e d (.pointer (some ⟨b,off,none⟩)))) (hs:ev e x=v:=by exact rfl) (hn:R.sz=m:=by exact rfl) (hpos:0<m:=by exact dt) (hi:ev e y=.int k i:=by exact rfl) (hd:d<n:=by exact dt):QL P n ops w KQ (⟨some d,.indexAddr t x y,ty,pos,af,none⟩ :: rest) e:=H8 hs hr hn hpos hi h hd hK
theorem KT {t:TypeId} (cs:List Value) (hx:(ev e x).cells=cs.toArray) (hS:Sat w0 w Γ) (hd:d<n)
  (hK:∀ w' b,Sat w0 w' (Box b t cs :: Γ)->Ext w w'->EL P n ops K rest (upd e d (.pointer (some ⟨b,0,none⟩))) w'):EL P n ops K (⟨some d,.box t x,ty,pos,af,none⟩ :: rest) e w :=
 fun a ha=>IE rfl rfl cs (by rw [ha.eval];exact hx) hS fun w' b h1 h2=>hK w' b h1 h2 _ (ha.put hd _)
theorem bl {t:TypeId} (cs:List Value) (hS:Sat w0 w Γ) (hK:∀ w' b,Sat w0 w' (Box b t cs :: Γ)->Ext w w'->EL P n ops K rest (upd e d (.pointer (some ⟨b,0,none⟩))) w') (hx:(ev e x).cells=cs.toArray:=by exact rfl) (hd:d<n:=by exact dt):EL P n ops K (⟨some d,.box t x,ty,pos,af,none⟩ :: rest) e w:=KT cs hx hS hd hK
theorem H5 {t:TypeId} {cs:List Value} {m yP:Nat} [ElemT P t cs m yP] (hS:Sat w0 w Γ) (hd:d<n)
  (hK:∀ w' b,Sat w0 w' (Box b t cs :: Γ)->Ext w w'->EL P n ops K rest (upd e d (.pointer (some ⟨b,0,none⟩))) w'):EL P n ops K (⟨some d,.alloc t,ty,pos,af,none⟩ :: rest) e w :=
 fun _ ha=>FX rfl rfl hS fun w' b h1 h2=>hK w' b h1 h2 _ (ha.put hd _)
theorem aG {t:TypeId} {cs:List Value} {m yP:Nat} [ElemT P t cs m yP] (hS:Sat w0 w Γ) (hK:∀ w' b,Sat w0 w' (Box b t cs :: Γ)->Ext w w'->EL P n ops K rest (upd e d (.pointer (some ⟨b,0,none⟩))) w') (hd:d<n:=by exact dt):EL P n ops K (⟨some d,.alloc t,ty,pos,af,none⟩ :: rest) e w:=H5 hS hd hK
theorem dD {t:TypeId} {z:List Value} {m yP:Nat} [ElemT P t z m yP] (hS:Sat w0 w Γ) {b j:Nat} (hx:ev e x=.pointer (some ⟨b,j,none⟩))
  {E:TypeId} {cs:List Value} [AtBox Γ b E cs rΓ] (vs:List Value) (hy:(ev e y).cells=vs.toArray) (hn:vs.length=m) (hl:j+m<=cs.length) (h1:vs.all (·.oneCell')=true)
  (hK:∀ w',Sat w0 w' (Box b E (cs.take j++vs++cs.drop (j+m)) :: rΓ)->EL P n ops K rest e w'):EL P n ops K (⟨none,.store t x y,ty,pos,af,none⟩ :: rest) e w :=
 fun _ ha=>Fz rfl rfl hS (by rw [ha.eval];exact hx) vs (by rw [ha.eval];exact hy) hn hl h1 fun w' h1=>hK w' h1 _ ha
theorem ai {t:TypeId} {z:List Value} {m yP:Nat} [ElemT P t z m yP] (hS:Sat w0 w Γ) {b j:Nat} (hx:ev e x=.pointer (some ⟨b,j,none⟩)) {E:TypeId} {cs:List Value} [AtBox Γ b E cs rΓ] (vs:List Value) (h1:vs.all (·.oneCell')=true) (hK:∀ w',Sat w0 w' (Box b E (cs.take j++vs++cs.drop (j+m)) :: rΓ)->EL P n ops K rest e w') (hy:(ev e y).cells=vs.toArray:=by exact rfl) (hn:vs.length=m:=by exact rfl) (hl:j+m<=cs.length:=by exact dt):EL P n ops K (⟨none,.store t x y,ty,pos,af,none⟩ :: rest) e w:=dD hS hx vs hy hn hl h1 hK
theorem G7 {t:TypeId} {z:List Value} {m yP:Nat} [ElemT P t z m yP] (hn:R.sz=m) {ec:List Value} {yv:α} {xs ys:List α} {g ln cap:Nat}
  (hS:Sat w0 w (Own R ec yv :: Own (aH R E) [.slice (some ⟨g,0,none⟩) ln cap] xs :: Γ)) (k off:Nat) {i:Int} (hi:i=(k:Int)) (h:sto xs i yv=some ys) (hoff:off=k*m) (hx:ev e x=.pointer (some ⟨g,off,none⟩)) (hy:(ev e y).cells=ec.toArray)
  (hK:∀ w',Sat w0 w' (Own (aH R E) [.slice (some ⟨g,0,none⟩) ln cap] ys :: Γ)->EL P n ops K rest e w'):EL P n ops K (⟨none,.store t x y,ty,pos,af,none⟩ :: rest) e w:=by
 intro a ha
 subst hi
 unfold sto at h
 split at h
 ·rename_i h0
  obtain rfl:=c8 h
  simp only [iR] at h0 hK
  exact Fl rfl rfl hn hS k off h0.2 hoff (by rw [ha.eval];exact hx) (by rw [ha.eval];exact hy) fun w' h1=>hK w' h1 _ ha
 ·cases h
theorem gJ {t:TypeId} [SliceT P t E] {z:List Value} {m yP:Nat} [ElemT P E z m yP] (hn:R.sz=m) (hpos:0<m) (hzl:z.length=m) (hb0:0<yP)
  {xs:List α} {ccs:List Value} {ys zs:List α} (hS:Sat w0 w (tW R ccs ys :: Own (aH R E) [v] xs :: Γ)) (hs:ev e x=v)
  {ao:Option Addr} {ln c:Nat} (hx:ev e y=.slice ao ln c) (hm:ln=ys.length) (hnone:ao=none->c=0) (hrow:rT w ao ccs) (h:apd yP xs ys=some zs) (hd:d<n)
  (hK:∀ w' v',Sat w0 w' (Own (aH R E) [v'] zs :: Γ)->EL P n ops K rest (upd e d v') w'):EL P n ops K (⟨some d,.call ⟨.builtin .append,#[x,y],#[t,t]⟩,ty,pos,af,none⟩ :: rest) e w:=by
 intro a ha
 unfold apd at h
 split at h
 ·rename_i hby
  obtain rfl:=c8 h
  exact FA rfl rfl hn hpos hzl hb0 hS (by rw [ha.eval];exact hs) (by rw [ha.eval];exact hx) hm hnone hrow hby fun v' w' h1=>hK w' v' h1 _ (ha.put hd _)
 ·cases h
theorem aR {t:TypeId} [SliceT P t E] {z:List Value} {m yP:Nat} [ElemT P E z m yP] {xs:List α} {ccs:List Value} {ys zs:List α} (hS:Sat w0 w (tW R ccs ys :: Own (aH R E) [v] xs :: Γ)) {ao:Option Addr} {ln c:Nat} (hrow:rT w ao ccs) (h:apd yP xs ys=some zs) (hK:∀ w' v',Sat w0 w' (Own (aH R E) [v'] zs :: Γ)->EL P n ops K rest (upd e d v') w') (hn:R.sz=m:=by exact rfl) (hpos:0<m:=by exact dt) (hzl:z.length=m:=by exact rfl) (hb0:0<yP:=by exact dt) (hs:ev e x=v:=by exact rfl) (hx:ev e y=.slice ao ln c:=by exact rfl) (hm:ln=ys.length:=by exact rfl) (hnone:ao=none->c=0:=by simp) (hd:d<n:=by exact dt):EL P n ops K (⟨some d,.call ⟨.builtin .append,#[x,y],#[t,t]⟩,ty,pos,af,none⟩ :: rest) e w:=gJ hn hpos hzl hb0 hS hs hx hm hnone hrow h hd hK
theorem uy {t:TypeId} [SliceT P t E] {z:List Value} {m yP:Nat} [ElemT P E z m yP] (hn:R.sz=m) (hpos:0<m) (hzl:z.length=m) {x0:α} (hx0:∀ w,R.own w z x0 []) {i:Int} {xs:List α}
  (hl:ev e x=.int .i64 i) (hc:ev e y=.int .i64 i) (h:mk yP x0 i=some xs) (hS:Sat w0 w Γ) (hd:d<n)
  (hK:∀ w' g k,Sat w0 w' (Own (aH R E) [.slice (some ⟨g,0,none⟩) k k] xs :: Γ)->Ext w w'->xs.length=k->EL P n ops K rest (upd e d (.slice (some ⟨g,0,none⟩) k k)) w'):EL P n ops K (⟨some d,.makeSlice t x y,ty,pos,af,none⟩ :: rest) e w:=by
 intro a ha
 unfold mk at h
 split at h
 ·rename_i h0
  obtain rfl:=c8 h
  exact HI rfl rfl hn hpos hzl hx0 (by rw [ha.eval];exact hl) (by rw [ha.eval];exact hc) i.toNat oa oa h0.2.1 h0.2.2 hS fun w' g h1 h2=>hK w' g _ h1 h2 (by simp) _ (ha.put hd _)
 ·cases h
theorem un {t u:TypeId} [SliceT P t u] {z:List Value} {m yP:Nat} [ElemT P u z m yP] (cs:List Value) (hcs:(ev e x).cells=cs.toArray) (hl:cs.length=m) (hpos:0<m) (hzl:z.length=m) (hn:m<=16)
  (hS:Sat w0 w Γ) (hd:d<n) (hK:∀ w' b,Sat w0 w' (Box b u cs :: Γ)->Ext w w'->EL P n ops K rest (upd e d (.slice (some ⟨b,0,none⟩) 1 1)) w'):EL P n ops K (⟨some d,.buildSlice t 1 #[(0,x)],ty,pos,af,none⟩ :: rest) e w :=
 fun _ ha=>zm rfl rfl (by rw [ha.eval];exact hcs) hl hpos hzl hn hS fun w' b h1 h2=>hK w' b h1 h2 _ (ha.put hd _)
theorem aU {t u:TypeId} [SliceT P t u] {z:List Value} {m yP:Nat} [ElemT P u z m yP] (cs:List Value) (hcs:(ev e x).cells=cs.toArray) (hS:Sat w0 w Γ) (hK:∀ w' b,Sat w0 w' (Box b u cs :: Γ)->Ext w w'->EL P n ops K rest (upd e d (.slice (some ⟨b,0,none⟩) 1 1)) w') (hl:cs.length=m:=by rfl) (hpos:0<m:=by exact dt) (hzl:z.length=m:=by exact rfl) (hn:m<=16:=by exact dt) (hd:d<n:=by exact dt):EL P n ops K (⟨some d,.buildSlice t 1 #[(0,x)],ty,pos,af,none⟩ :: rest) e w:=un cs hcs hl hpos hzl hn hS hd hK
theorem bb {t u:TypeId} [SliceT P t u] {z:List Value} {m yP:Nat} [ElemT P u z m yP] (cs:List Value) (hS:Sat w0 w Γ) (hK:∀ w' b,Sat w0 w' (Box b u cs :: Γ)->Ext w w'->EL P n ops K rest (upd e d (.slice (some ⟨b,0,none⟩) 1 1)) w') (hcs:(ev e x).cells=cs.toArray:=by exact rfl) (hl:cs.length=m:=by rfl) (hpos:0<m:=by exact dt) (hzl:z.length=m:=by exact rfl) (hn:m<=16:=by exact dt) (hd:d<n:=by exact dt):EL P n ops K (⟨some d,.buildSlice t 1 #[(0,x)],ty,pos,af,none⟩ :: rest) e w:=un cs hcs hl hpos hzl hn hS hd hK
theorem bc (R:Rep α) {t:TypeId} [SliceT P t E] {z:List Value} {m yP:Nat} [ElemT P E z m yP] (hS:Sat w0 w Γ) (hd:d<n)
  (hK:∀ w' v,Sat w0 w' (Own (aH R E) [v] [] :: Γ)->Ext w w'->EL P n ops K rest (upd e d v) w'):EL P n ops K (⟨some d,.buildSlice t 0 #[],ty,pos,af,none⟩ :: rest) e w :=
 fun _ ha=>AV R rfl rfl hS fun w' b h1 h2=>hK w' _ h1 h2 _ (ha.put hd _)
theorem yu {t:TypeId} {lo hi:Option Operand} [ht:SliceT P t E'] {z:List Value} {m yP:Nat} [hz:ElemT P E' z m yP] (hn:R.sz=m) {d:Option Nat}
    (hx:ev e x=v) {xs ys:List α} (hr:(aH R E).rd wA [v] xs) {l h:Int} (hlo:(lo.map (ev e)=some (.int .i64 l))\/(lo=none/\l=0)) (hhi:(hi.map (ev e)=some (.int .i64 h))\/(hi=none/\h=xs.length)) (hq:slc xs l h=some ys) :
    ∃ v',(aH R E).rd wA [v'] ys/\∀ w,PV P ⟨d,.slice t x lo hi none,ty,pos,af,none⟩ e w v':=by
  unfold slc at hq
  split at hq
  case isFalse=>cases hq
  rename_i h0
  obtain rfl:=c8 hq
  obtain ⟨l',rfl⟩:=nV h0.1
  obtain ⟨h',rfl⟩:=nV (Int.le_trans h0.1 h0.2.1)
  obtain ⟨_,hlh,hh⟩:=h0
  replace hlh:l'<=h':=by omega
  replace hh:h'<=xs.length:=by omega
  simp only [iR]
  obtain ⟨ao,cap,ccs,hv,h1,h2,h3,h4,h5⟩:=hr
  obtain rfl:v=.slice ao xs.length cap:=by simpa using hv
  have hz:=hz.h
  cases hq:P.info? E' with
  | none=>simp [hq] at hz
  | some inf =>
    simp [hq] at hz
    have hcap:h'<=cap:=by omega
    have hsz:inf.size=R.sz:=by rw [hn];exact hz.2.1
    have hlen:((xs.take h').drop l').length=h' - l':=by simp;omega
    have hccl:=j6 h4
    have hrd:=(rt l' (rt h' h4).1).2
    refine ⟨.slice (if cap=l' then ao else ao.map (·.add (l'*inf.size))) (h' - l') (cap-l'),⟨_,cap-l',_,by rw [hlen],by rw [hlen];omega,oa,?_,hrd,?_⟩,fun w w' _=>?_⟩
    · intro e
      split at e
      · omega
      · cases ao with
        | none=>have:=h3 rfl;omega
        | some _=>simp at e
    · by_cases hcl:cap=l'
      · left
        have:h'=l':=by omega
        subst this
        apply Ad
        simp
      · rw [a9 hcl]
        rcases h5 with rfl | ⟨b,off,rfl,h5⟩
        · left;simp
        · right
          refine ⟨b,off+l'*R.sz,by rw [hsz];simp [jM],fun j c hj=>?_⟩
          rw [Ap,lm] at hj
          split at hj
          · rw [sK];exact h5 _ c hj
          · cases hj
    · have hb:(Instr.sliceBounds true xs.length cap (lo.map (ev e)) (hi.map (ev e)) none).run P w'=.ok (l',h',cap) w':=by
        rcases hlo with e1 | ⟨e1,e1'⟩ <;> rcases hhi with e2 | ⟨e2,e2'⟩
        all_goals
          (try rw [e1]);(try rw [e2])
          first
            | (simp [Instr.sliceBounds,Instr.sliceBound,asIntOf,hcap,hlh];done)
            | (have:l'=0:=by omega
               subst this
               simp [Instr.sliceBounds,Instr.sliceBound,asIntOf,hcap,hlh];done)
            | (have:h'=xs.length:=by omega
               subst this
               simp [Instr.sliceBounds,Instr.sliceBound,asIntOf,hcap,hlh];done)
            | (have:l'=0:=by omega
               have:h'=xs.length:=by omega
               subst_vars
               simp [Instr.sliceBounds,Instr.sliceBound,asIntOf])
      unfold execOp
      simp only [hx,Instr.sliceAt,dE,gb ht.h,d8,Instr.slice,hb,sizeOf,typeInfo,hq,mF,fG,Option.map_none]
theorem hO {t:TypeId} {lo hi:Option Operand} [SliceT P t E'] {z:List Value} {m yP:Nat} [ElemT P E' z m yP] (hn:R.sz=m)
  (hx:ev e x=v) {xs ys:List α} (hr:(aH R E).rd wA [v] xs) {l h:Int} (hlo:(lo.map (ev e)=some (.int .i64 l))\/(lo=none/\l=0)) (hhi:(hi.map (ev e)=some (.int .i64 h))\/(hi=none/\h=xs.length)) (hq:slc xs l h=some ys) (hd:d<n)
  (hK:∀ v',(aH R E).rd wA [v'] ys->EL P n ops K rest (upd e d v') w):EL P n ops K (⟨some d,.slice t x lo hi none,ty,pos,af,none⟩ :: rest) e w:=by
 obtain ⟨v',h1,h2⟩:=yu (P:=P) (d:=some d) (ty:=ty) (pos:=pos) (af:=af) (t:=t) hn hx hr hlo hhi hq
 exact qJ (h2 _) hd (hK v' h1)
theorem Cx {t:TypeId} {lo hi:Option Operand} [SliceT P t E'] {z:List Value} {m yP:Nat} [ElemT P E' z m yP] (hn:R.sz=m)
  (hx:ev e x=v) {xs ys:List α} (hr:(aH R E).rd wA [v] xs) {l h:Int} (hlo:(lo.map (ev e)=some (.int .i64 l))\/(lo=none/\l=0)) (hhi:(hi.map (ev e)=some (.int .i64 h))\/(hi=none/\h=xs.length)) (hq:slc xs l h=some ys) (hd:d<n)
  (hK:∀ v',(aH R E).rd wA [v'] ys->QL P n ops w KQ rest (upd e d v')):QL P n ops w KQ (⟨some d,.slice t x lo hi none,ty,pos,af,none⟩ :: rest) e:=by
 obtain ⟨v',h1,h2⟩:=yu (P:=P) (d:=some d) (ty:=ty) (pos:=pos) (af:=af) (t:=t) hn hx hr hlo hhi hq
 exact xF (h2 _) hd (hK v' h1)
end
section
variable {P:Program} {fn:Func} {n:Nat} {e:Env} {w:World} {R:Ending->World->Prop}
theorem MF {t:Tmp} (h:fn.results=#[.tmp t]) {v:Value} (ht:e t=v) (hR:R (.returned v) w):Fin P fn n R .ret e w :=
 ⟨v,fun a ha=>by rw [results_tmp h,ha.get,ht],hR⟩
theorem aF {t:Tmp} {v:Value} (hR:R (.returned v) w) (h:fn.results=#[.tmp t]:=by exact rfl) (ht:e t=v:=by exact rfl):Fin P fn n R .ret e w:=MF h ht hR
theorem ML {t u:Tmp} (h:fn.results=#[.tmp t,.tmp u]) {v v2:Value} (ht:e t=v) (hu:e u=v2) (hR:R (.returned (.tuple #[v,v2])) w):Fin P fn n R .ret e w :=
 ⟨_,fun a ha=>by rw [results_tmp2 h,ha.get,ha.get,ht,hu],hR⟩
theorem cJ {t u:Tmp} {v v2:Value} (hR:R (.returned (.tuple #[v,v2])) w) (h:fn.results=#[.tmp t,.tmp u]:=by exact rfl) (ht:e t=v:=by exact rfl) (hu:e u=v2:=by exact rfl):Fin P fn n R .ret e w:=ML h ht hu hR
theorem MK {t u s:Tmp} (h:fn.results=#[.tmp t,.tmp u,.tmp s]) {v v2 v3:Value} (ht:e t=v) (hu:e u=v2) (hs:e s=v3) (hR:R (.returned (.tuple #[v,v2,v3])) w):Fin P fn n R .ret e w:=by
 refine ⟨_,fun a ha=>?_,hR⟩
 have h1:=ha.get t;have h2:=ha.get u;have h3:=ha.get s
 simp only [ht,hu,hs] at h1 h2 h3
 have h1':a.tmps[t]?.getD undef=v:=by simpa using h1
 have h2':a.tmps[u]?.getD undef=v2:=by simpa using h2
 have h3':a.tmps[s]?.getD undef=v3:=by simpa using h3
 simp [results,h,h1',h2',h3']
theorem gZ {p:Tmp} {ty:TypeId} {m:Nat} [AggT P ty m] (h:fn.results=#[.cell p ty]) {b off:Nat} {cs:List Value} (hp:e p=.pointer (some ⟨b,off,none⟩)) (hm:cs.length=m) (hc:∀ j c,cs[j]? = some c->w.cell? ⟨b,off+j,none⟩=some c) (hR:R (.returned (.agg cs.toArray)) w) :
  Fin P fn n R .ret e w:=by
 refine ⟨_,fun a ha=>?_,hR⟩
 have h1:a.tmps.getD p undef=.pointer (some ⟨b,off,none⟩):=by rw [ha.get,hp]
 have h1':a.tmps[p]?.getD undef=.pointer (some ⟨b,off,none⟩):=by simpa using h1
 simp [results,h,h1',asAddr,gU (P:=P) (t:=ty) hm hc]
theorem el {p t:Tmp} {ty:TypeId} {m:Nat} [AggT P ty m] (h:fn.results=#[.cell p ty,.tmp t]) {b off:Nat} {cs:List Value} {v2:Value} (hp:e p=.pointer (some ⟨b,off,none⟩)) (hm:cs.length=m) (hc:∀ j c,cs[j]? = some c->w.cell? ⟨b,off+j,none⟩=some c) (ht:e t=v2) (hR:R (.returned (.tuple #[.agg cs.toArray,v2])) w) :
  Fin P fn n R .ret e w:=by
 refine ⟨_,fun a ha=>?_,hR⟩
 have h1:a.tmps.getD p undef=.pointer (some ⟨b,off,none⟩):=by rw [ha.get,hp]
 have h1':a.tmps[p]?.getD undef=.pointer (some ⟨b,off,none⟩):=by simpa using h1
 have h2:a.tmps.getD t undef=v2:=by rw [ha.get,ht]
 have h2':a.tmps[t]?.getD undef=v2:=by simpa using h2
 simp [results,h,h1',h2',asAddr,gU (P:=P) (t:=ty) hm hc]
theorem cQ {p t:Tmp} {ty:TypeId} {m:Nat} [AggT P ty m] (h:fn.results=#[.cell p ty,.tmp t]) {b off:Nat} {cs:List Value} {v2:Value} (hc:∀ j c,cs[j]? = some c->w.cell? ⟨b,off+j,none⟩=some c) (hR:R (.returned (.tuple #[.agg cs.toArray,v2])) w) (hp:e p=.pointer (some ⟨b,off,none⟩):=by exact rfl) (hm:cs.length=m:=by exact rfl) (ht:e t=v2:=by exact rfl):Fin P fn n R .ret e w:=el h hp hm hc ht hR
theorem AG {p t u:Tmp} {ty:TypeId} {m:Nat} [AggT P ty m] (h:fn.results=#[.cell p ty,.tmp t,.tmp u]) {b off:Nat} {cs:List Value} {v2 v3:Value} (hp:e p=.pointer (some ⟨b,off,none⟩)) (hm:cs.length=m) (hc:∀ j c,cs[j]? = some c->w.cell? ⟨b,off+j,none⟩=some c) (ht:e t=v2) (hu:e u=v3) (hR:R (.returned (.tuple #[.agg cs.toArray,v2,v3])) w) :
  Fin P fn n R .ret e w:=by
 refine ⟨_,fun a ha=>?_,hR⟩
 have h1:a.tmps.getD p undef=.pointer (some ⟨b,off,none⟩):=by rw [ha.get,hp]
 have h1':a.tmps[p]?.getD undef=.pointer (some ⟨b,off,none⟩):=by simpa using h1
 have h2:a.tmps.getD t undef=v2:=by rw [ha.get,ht]
 have h2':a.tmps[t]?.getD undef=v2:=by simpa using h2
 have h3:a.tmps.getD u undef=v3:=by rw [ha.get,hu]
 have h3':a.tmps[u]?.getD undef=v3:=by simpa using h3
 simp [results,h,h1',h2',h3',asAddr,gU (P:=P) (t:=ty) hm hc]
theorem FG {p0:Tmp} {ty0:TypeId} {m0:Nat} [AggT P ty0 m0] {b0 off0:Nat} {cs0:List Value} {p1:Tmp} {ty1:TypeId} {m1:Nat} [AggT P ty1 m1] {b1 off1:Nat} {cs1:List Value} (h:fn.results=#[.cell p0 ty0,.cell p1 ty1]) (hp0:e p0=.pointer (some ⟨b0,off0,none⟩)) (hm0:cs0.length=m0) (hc0:∀ j c,cs0[j]? = some c->w.cell? ⟨b0,off0+j,none⟩=some c) (hp1:e p1=.pointer (some ⟨b1,off1,none⟩)) (hm1:cs1.length=m1) (hc1:∀ j c,cs1[j]? = some c->w.cell? ⟨b1,off1+j,none⟩=some c) (hR:R (.returned (.tuple #[.agg cs0.toArray,.agg cs1.toArray])) w):Fin P fn n R .ret e w:=by
 refine ⟨_,fun a ha=>?_,hR⟩
 have k0:a.tmps[p0]?.getD undef=.pointer (some ⟨b0,off0,none⟩):=by simpa using (show a.tmps.getD p0 undef=.pointer (some ⟨b0,off0,none⟩) by rw [ha.get,hp0])
 have k1:a.tmps[p1]?.getD undef=.pointer (some ⟨b1,off1,none⟩):=by simpa using (show a.tmps.getD p1 undef=.pointer (some ⟨b1,off1,none⟩) by rw [ha.get,hp1])
 simp [results,h,k0,gU (P:=P) (t:=ty0) hm0 hc0,k1,gU (P:=P) (t:=ty1) hm1 hc1,asAddr]
theorem GA {p0:Tmp} {ty0:TypeId} {m0:Nat} [AggT P ty0 m0] {b0 off0:Nat} {cs0:List Value} {p1:Tmp} {ty1:TypeId} {m1:Nat} [AggT P ty1 m1] {b1 off1:Nat} {cs1:List Value} {t2:Tmp} {v2:Value} (h:fn.results=#[.cell p0 ty0,.cell p1 ty1,.tmp t2]) (hp0:e p0=.pointer (some ⟨b0,off0,none⟩)) (hm0:cs0.length=m0) (hc0:∀ j c,cs0[j]? = some c->w.cell? ⟨b0,off0+j,none⟩=some c) (hp1:e p1=.pointer (some ⟨b1,off1,none⟩)) (hm1:cs1.length=m1) (hc1:∀ j c,cs1[j]? = some c->w.cell? ⟨b1,off1+j,none⟩=some c) (ht2:e t2=v2) (hR:R (.returned (.tuple #[.agg cs0.toArray,.agg cs1.toArray,v2])) w):Fin P fn n R .ret e w:=by
 refine ⟨_,fun a ha=>?_,hR⟩
 have k0:a.tmps[p0]?.getD undef=.pointer (some ⟨b0,off0,none⟩):=by simpa using (show a.tmps.getD p0 undef=.pointer (some ⟨b0,off0,none⟩) by rw [ha.get,hp0])
 have k1:a.tmps[p1]?.getD undef=.pointer (some ⟨b1,off1,none⟩):=by simpa using (show a.tmps.getD p1 undef=.pointer (some ⟨b1,off1,none⟩) by rw [ha.get,hp1])
 have k2:a.tmps[t2]?.getD undef=v2:=by simpa using (show a.tmps.getD t2 undef=v2 by rw [ha.get,ht2])
 simp [results,h,k0,gU (P:=P) (t:=ty0) hm0 hc0,k1,gU (P:=P) (t:=ty1) hm1 hc1,k2,asAddr]
theorem uW {t0:Tmp} {v0:Value} {p1:Tmp} {ty1:TypeId} {m1:Nat} [AggT P ty1 m1] {b1 off1:Nat} {cs1:List Value} {t2:Tmp} {v2:Value} (h:fn.results=#[.tmp t0,.cell p1 ty1,.tmp t2]) (ht0:e t0=v0) (hp1:e p1=.pointer (some ⟨b1,off1,none⟩)) (hm1:cs1.length=m1) (hc1:∀ j c,cs1[j]? = some c->w.cell? ⟨b1,off1+j,none⟩=some c) (ht2:e t2=v2) (hR:R (.returned (.tuple #[v0,.agg cs1.toArray,v2])) w):Fin P fn n R .ret e w:=by
 refine ⟨_,fun a ha=>?_,hR⟩
 have k0:a.tmps[t0]?.getD undef=v0:=by simpa using (show a.tmps.getD t0 undef=v0 by rw [ha.get,ht0])
 have k1:a.tmps[p1]?.getD undef=.pointer (some ⟨b1,off1,none⟩):=by simpa using (show a.tmps.getD p1 undef=.pointer (some ⟨b1,off1,none⟩) by rw [ha.get,hp1])
 have k2:a.tmps[t2]?.getD undef=v2:=by simpa using (show a.tmps.getD t2 undef=v2 by rw [ha.get,ht2])
 simp [results,h,k0,k1,gU (P:=P) (t:=ty1) hm1 hc1,k2,asAddr]
end
def tw:Rep Bool where
 sz:=1
 rd _ cs b:=cs=[.bool b]
 own _ cs b fp:=cs=[.bool b]/\fp=[]
 rd_len h:=by subst h;rfl
 rd_one h:=by subst h;simp [Value.oneCell']
 rd_ext h _:=h
 own_rd h:=h.1
 own_ext h _:=h
 own_lt h:=by rw [h.2];simp
def u8R:Rep Int where
 sz:=1
 rd _ cs n:=cs=[.int .u8 n]
 own _ cs n fp:=cs=[.int .u8 n]/\fp=[]
 rd_len h:=by subst h;rfl
 rd_one h:=by subst h;simp [Value.oneCell']
 rd_ext h _:=h
 own_rd h:=h.1
 own_ext h _:=h
 own_lt h:=by rw [h.2];simp

def lpS {R V S:Type} (s:Sum R V) (f:R->Option S) (g:V->Option S):Option S:=match s with | .inl r=>f r | .inr v=>g v
def lpB {V S:Type} (s:V) (g:V->Option S):Option S:=g s
theorem exA {R V S:Type} {s:Sum R V} {v:V} {f:R->Option S} {g:V->Option S} {r:S} (h:some (Sum.inr v)=some s) (hK:lpS s f g=some r):g v=some r:=by cases h;exact hK
theorem exL {R V S:Type} {s:Sum R V} {q:R} {f:R->Option S} {g:V->Option S} {r:S} (h:some (Sum.inl q)=some s) (hK:lpS s f g=some r):f q=some r:=by cases h;exact hK
theorem exB {V S:Type} {s v:V} {g:V->Option S} {r:S} (h:some v=some s) (hK:lpB s g=some r):g v=some r:=by cases h;exact hK
theorem J7 {α β:Type} {f:α->β} {a:α} {b:β} {l:List α} {m:List β} (h:f a=b) (t:l.map f=m):(a :: l).map f=b :: m:=by rw [fI,h,t]
theorem aq {α β:Type} {f:α->β} {a:α} {b:β} {l:List α} {m:List β} (h:f a=b:=by exact rfl) (t:l.map f=m:=by exact rfl):(a :: l).map f=b :: m:=J7 h t
theorem ay {α β:Type} {f:α->β} {a:α} {b:β} {l:List α} {m:List β} (t:l.map f=m) (h:f a=b:=by exact rfl):(a :: l).map f=b :: m:=J7 h t
theorem an {x:Bool} (h:x=true):(!x)=false:=by rw [h];rfl
theorem ap {x:Bool} (h:x=false):(!x)=true:=by rw [h];rfl

theorem cO {P:Program} {n:Nat} {ops:Array Oper} {K:Env->World->Prop} {rest:List Oper} {e:Env} {w:World} {op:Op} {ty:TypeId} {pos:String} {af:Array Edge} {j:Nat} {b':Bool} {d:Nat} (h:(match (ops[j]?).bind (·.dst) with | some t=>e t | none=>undef)=undef) (hd:d<n) (hK:EL P n ops K rest (upd e d undef) w):EL P n ops K (⟨some d,op,ty,pos,af,some (j,b')⟩ :: rest) e w:=by
 intro a ha
 have hy:yielded ops a.tmps j=none:=wr ha h
 unfold wpList
 rw [a9 (by simp [Region.wanted,hy])]
 exact hK _ (ha.put hd _)
theorem b7 {P:Program} {n:Nat} {ops:Array Oper} {KQ:Env->Prop} {rest:List Oper} {e:Env} {w:World} {op:Op} {ty:TypeId} {pos:String} {af:Array Edge} {j:Nat} {b':Bool} {d:Nat} (h:(match (ops[j]?).bind (·.dst) with | some t=>e t | none=>undef)=undef) (hd:d<n) (hK:QL P n ops w KQ rest (upd e d undef)):QL P n ops w KQ (⟨some d,op,ty,pos,af,some (j,b')⟩ :: rest) e:=by
 intro a ha
 have hy:yielded ops a.tmps j=none:=wr ha h
 unfold wpQuiet
 rw [a9 (by simp [Region.wanted,hy])]
 exact hK _ (ha.put hd _)
theorem oc {w:World} {α:Type} {R:Rep α} {E:TypeId} {v:Value} {xs:List α} (h:(aH R E).rd w [v] xs):v.oneCell'=true:=(aH R E).rd_one h v (fD.2 rfl)
theorem H2 {e:Env} {x:Operand} {v:Value} (h:ev e x=v) (h1:v.oneCell'=true):(ev e x).cells=[v].toArray:=by rw [h];exact G3 h1
theorem aN {e:Env} {x:Operand} {v:Value} (h1:v.oneCell'=true) (h:ev e x=v:=by exact rfl):(ev e x).cells=[v].toArray:=H2 h h1
theorem all_cons {α:Type} {p:α->Bool} {a:α} {l:List α} (h:p a=true) (t:l.all p=true):(a :: l).all p=true:=by simp [h,t]
theorem aD {α:Type} {p:α->Bool} {a:α} {l:List α} (t:l.all p=true) (h:p a=true:=by exact rfl):(a :: l).all p=true:=all_cons h t
theorem aE {α:Type} {p:α->Bool} {a:α} {l:List α} (h:p a=true) (t:l.all p=true:=by exact rfl):(a :: l).all p=true:=all_cons h t
theorem aJ {α:Type} {p:α->Bool} {a:α} {l:List α} (h:p a=true:=by exact rfl) (t:l.all p=true:=by exact rfl):(a :: l).all p=true:=all_cons h t
theorem Ge {w:World} {b off:Nat} {cs:List Value} (h:∀ j c,cs[j]? = some c->w.cell? ⟨b,off+j,none⟩=some c) (k n:Nat):∀ j c,((cs.drop k).take n)[j]? = some c->w.cell? ⟨b,off+k+j,none⟩=some c:=by
 intro j c hj
 rw [lm] at hj
 split at hj
 ·rw [Ap] at hj;rw [sK];exact h _ c hj
 ·cases hj
section
variable {w w0 wA:World} {Γ rest:List Asn} {α:Type} {R:Rep α} {E:TypeId} {v:Value} {xs:List α}
theorem Sat.top (i:Nat) {A:Asn} (h:Sat w0 w Γ) (hi:Γ[i]? = some A):Sat w0 w (A :: Γ.eraseIdx i):=by
 refine h.perm ?_
 clear h
 induction Γ generalizing i with
 | nil=>simp at hi
 | cons B Γ ih =>
  cases i with
  | zero=>simp at hi;subst hi;exact .refl _
  | succ i =>
   simp at hi
   exact (List.Perm.cons B (ih i hi)).trans (.swap _ _ _)
theorem Sat.rem (i:Nat) {A:Asn} (h:Sat w0 w Γ) (hi:Γ[i]? = some A):Sat w0 w (Γ.eraseIdx i):=(h.top i hi).tail
theorem Sat.zB (i:Nat) {cs:List Value} {x:α} {R:Rep α} (h:Sat w0 w Γ) (hi:Γ[i]? = some (Own R cs x)):R.rd w cs x:=(h.top i hi).rd
theorem Sat.nil (R:Rep α) (E:TypeId) (h:Sat w0 w Γ):Sat w0 w (Own (aH R E) [.slice none 0 0] [] :: Γ):=h.add (.inl ⟨rfl,rfl,rfl⟩)
theorem Sat.bool (h:Sat w0 w Γ) (b:Bool):Sat w0 w (Own tw [.bool b] b :: Γ):=h.add ⟨rfl,rfl⟩
theorem Sat.u8 (h:Sat w0 w Γ) (n:Int):Sat w0 w (Own u8R [.int .u8 n] n :: Γ):=h.add ⟨rfl,rfl⟩
theorem aI {cs:List Value} (h:(aH R E).rd w cs xs):∃ v,cs=[v]:=List.length_eq_one_iff.1 ((aH R E).rd_len h)
theorem bQ {cs:List Value} {x:α} (h:R.rd w0 cs x) (hx:Ext w0 w):R.rd w cs x:=R.rd_ext h hx
theorem Sat.up {cs:List Value} {x:α} (hS:Sat w0 w Γ) (h:R.rd w0 cs x):R.rd w cs x:=R.rd_ext h hS.below
theorem Sat.zA (i:Nat) {b:Nat} {cs:List Value} (h:Sat w0 w Γ) (hi:Γ[i]? = some (Box b E cs)):∀ j c,cs[j]? = some c->w.cell? ⟨b,j,none⟩=some c:=by
 have h2:=h.top i hi
 exact h2.yC
theorem Dx {b:Nat} {cs:List Value} (h:∀ j c,cs[j]? = some c->w.cell? ⟨b,j,none⟩=some c) (k n:Nat):∀ j c,((cs.drop k).take n)[j]? = some c->w.cell? ⟨b,k+j,none⟩=some c:=by
 intro j c hj
 rw [lm] at hj
 split at hj
 ·rw [Ap] at hj;exact h _ c hj
 ·cases hj
theorem aB {b:Nat} {cs:List Value} (h:∀ j c,cs[j]? = some c->w.cell? ⟨b,j,none⟩=some c):∀ j c,cs[j]? = some c->w.cell? ⟨b,0+j,none⟩=some c:=by
 intro j c hj;rw [e9];exact h j c hj
theorem Sat.zD (i:Nat) {b:Nat} {cs:List Value} (h:Sat w0 w Γ) (hi:Γ[i]? = some (Box b E cs)):rT w (some ⟨b,0,none⟩) cs :=
 .inr ⟨b,0,rfl,aB (h.zA i hi)⟩
theorem Sat.zV {b:Nat} {cs:List Value} {y:α} (h:Sat w0 w (Box b E cs :: Own R cs y :: Γ)):Sat w0 w (Own (aH R E) [.slice (some ⟨b,0,none⟩) 1 1] [y] :: Γ):=by
 refine h.join ?_
 rintro f g ⟨rfl,h1⟩ h2
 have hl:=R.rd_len (R.own_rd h2)
 refine .inr ⟨b,1,cs.toArray,cs,g,rfl,h1,by simp,by unfold maxLen;omega,by simp [hl],by simp [<- hl],⟨cs,[],g,[],by simp,by simp,h2,rfl,rfl⟩,by simp⟩
theorem HX {ccs:List Value} {ys:yQ} (h:rdL bX w ccs ys):ccs=ys.map (Value.int .i64):=by
 induction ys generalizing ccs with
 | nil=>simpa [rdL] using h
 | cons y ys ih =>
  obtain ⟨ec,r,rfl,h1,h2⟩:=h
  obtain rfl:=ih h2
  have:ec=[.int .i64 y]:=h1
  rw [this];rfl
theorem vD {v:Value} {ys:yQ} (h:(aH bX E).rd w [v] ys):∃ ao c,v=.slice ao ys.length c/\(ao=none->c=0)/\rT w ao (ys.map (Value.int .i64)):=by
 obtain ⟨ao,cap,ccs,hv,h1,h2,h3,h4,h5⟩:=h
 obtain rfl:=HX h4
 exact ⟨ao,cap,by simpa using hv,h3,h5⟩
end
section
variable {P:Program} {n:Nat} {ops:Array Oper} {K:Env->World->Prop} {rest:List Oper} {e:Env} {w w0 wA:World} {v:Value} {d:Nat} {ty:TypeId} {pos:String} {af:Array Edge} {Γ rΓ:List Asn} {x y:Operand} {α:Type} {R:Rep α} {E E':TypeId}
theorem ir {t:TypeId} [ht:SliceT P t E] {zz:List Value} {m yP:Nat} [hz:ElemT P E zz m yP] {xs:List α} (hS:Sat w0 w (Own (aH R E) [v] xs :: Γ)) (hs:ev e x=v)
  (hn:R.sz=m) (hpos:0<m) {k:IntKind} {i:Int} (hi:ev e y=.int k i) {u:α} (h:ix xs i=some u) (hd:d<n)
  (hK:∀ g cap ec,v=.slice (some ⟨g,0,none⟩) xs.length cap->R.rd w ec u->(∀ j c,ec[j]? = some c->w.cell? ⟨g,i.toNat*m+j,none⟩=some c)->EL P n ops K rest (upd e d (.pointer (some ⟨g,i.toNat*m,none⟩))) w) :
  EL P n ops K (⟨some d,.indexAddr t x y,ty,pos,af,none⟩ :: rest) e w:=by
 obtain ⟨k',rfl,hk,rfl⟩:=jD h
 obtain ⟨fp,hv,_⟩:=hS.head
 rcases hv with ⟨_,h2,_⟩ | ⟨g,cap,cur,ccs,f2,hv,hg,h1,h2,h3,h4,h5,rfl⟩
 ·subst h2;simp at hk
 obtain rfl:v=.slice (some ⟨g,0,none⟩) xs.length cap:=by simpa using hv
 obtain ⟨ec,hec,hcc⟩:=sA (jb h5) k' hk
 have hz:=hz.h
 cases hq:P.info? E with
 | none=>simp [hq] at hz
 | some inf =>
  simp [hq] at hz
  have hsz:inf.size=m:=hz.2.1
  refine qJ (v:=.pointer (some ⟨g,k'*m,none⟩)) ?_ hd ?_
  ·intro w' _
   unfold execOp
   simp [hs,hi,Instr.indexAt,asIntOf,gb ht.h,sizeOf,typeInfo,hq,hk,jM,hsz]
  ·refine hK g cap ec rfl hec ?_
   intro j c hj
   have h0:=hcc j c hj
   simp only [iR]
   rw [nf w g _ cur E (0,0) hg,<- pG]
   rw [<- h4,lm] at h0
   rw [<- hn]
   split at h0
   ·exact h0
   ·cases h0
theorem hX {t:TypeId} {z:List Value} {m yP:Nat} [ElemT P t z m yP] (hn:R.sz=m) {ec:List Value} {yv:α} {xs ys:List α} {g ln cap:Nat} (hv:v=.slice (some ⟨g,0,none⟩) ln cap)
  (hS:Sat w0 w (Own R ec yv :: Own (aH R E) [v] xs :: Γ)) {i:Int} (h:sto xs i yv=some ys) (hx:ev e x=.pointer (some ⟨g,i.toNat*m,none⟩)) (hy:(ev e y).cells=ec.toArray)
  (hK:∀ w',Sat w0 w' (Own (aH R E) [v] ys :: Γ)->EL P n ops K rest e w'):EL P n ops K (⟨none,.store t x y,ty,pos,af,none⟩ :: rest) e w:=by
 subst hv
 have h0:0<=i:=by
  unfold sto at h;split at h
  ·rename_i h1;exact h1.1
  ·cases h
 exact G7 hn hS i.toNat (i.toNat*m) oa h rfl hx hy hK
end
class BldT (P:Program) (t:TypeId) (pl:outParam (Array (Nat × Nat))):Prop where
 h:∃ fs,P.underlying t=some (.struct fs)/\∀ w,(fs.mapM (fun f=>do pure (f.offset,<- sizeOf f.type)):Sem (Array (Nat × Nat))).run P w=.ok pl w
def vt (place:Nat->Option (Nat × Nat)) (cells:List Value):List (Nat × List Value)->Option (List Value)
  | []=>some cells
  | (i,v) :: rest=>match place i with
    | none=>none
    | some (off,size)=>bif Nat.beq v.length size&&Nat.ble (off+v.length) cells.length then vt place (cells.take off++v++cells.drop (off+v.length)) rest else none
theorem BI:∀ (v:List Value) (off k:Nat) (cells:List Value),off+k+v.length<=cells.length ->
  ((v.zipIdx k).foldl (fun (cs:Array Value) (c:Value × Nat)=>cs.setIfInBounds (off+c.2) c.1) cells.toArray)=(cells.take (off+k)++v++cells.drop (off+k+v.length)).toArray
 | [],off,k,cells,h=>by simp
 | x :: v,off,k,cells,h=>by
  simp only [bW] at h
  have hi:off+k<cells.length:=by omega
  simp only [List.zipIdx_cons,sY,List.setIfInBounds_toArray]
  rw [BI v off (k+1) (cells.set (off+k) x) (by simp;omega)]
  have e1:(cells.set (off+k) x).take (off+(k+1))=cells.take (off+k)++[x]:=by
   rw [show off+(k+1)=(off+k)+1 by omega,wm,gk hi,AQ _ _ (by simp;omega)]
   simp [show min (off+k) cells.length=off+k by omega]
  have e2:(cells.set (off+k) x).drop (off+(k+1)+v.length)=cells.drop (off+k+(x :: v).length):=by
   rw [List.drop_set_of_lt oa]
   congr 1
   simp only [bW];omega
  rw [e1,e2];simp
theorem Bd (place:Nat->Option (Nat × Nat)):∀ (ps:List (Nat × Value)) (qs:List (Nat × List Value)) (cells:List Value) {r:List Value},ps.map (fun p=>(p.1,p.2.cells))=qs.map (fun q=>(q.1,q.2.toArray))->vt place cells qs=some r->Instr.fill place cells.toArray ps=some r.toArray
  | [],[],cells,r,_,h=>by simp only [vt,pE] at h;subst h;rfl
  | [],_ :: _,_,_,h,_=>by simp at h
  | _ :: _,[],_,_,h,_=>by simp at h
  | (i,v) :: ps,(j,c) :: qs,cells,r,h,hf=>by
    simp only [fI,List.cons.injEq,Prod.mk.injEq] at h
    obtain ⟨⟨rfl,hc⟩,ht⟩:=h
    unfold vt at hf
    unfold Instr.fill
    cases hp:place i with
    | none=>simp [hp] at hf
    | some os =>
      obtain ⟨off,size⟩:=os
      simp only [hp] at hf ⊢
      cases hb:(Nat.beq c.length size&&Nat.ble (off+c.length) cells.length) with
      | false=>rw [hb] at hf;cases hf
      | true =>
        rw [hb] at hf
        simp only [bU] at hb
        have h1:=sS hb.1
        have h2:=AD hb.2
        rw [hc]
        have hn:(decide (c.toArray.size≠size)||decide (off+c.toArray.size > cells.toArray.size))=false:=by simp;omega
        rw [a9 (by simp only [hn];simp)]
        have:=BI c off 0 cells oa
        simp only [lh] at this
        have e:c.toArray.zipIdx.foldl (fun cs (c,j)=>cs.setIfInBounds (off+j) c) cells.toArray=(cells.take off++c++cells.drop (off+c.length)).toArray:=by
          rw [<- this]
          simp
        rw [e]
        exact Bd place ps qs _ ht hf
theorem bf {P:Program} {e:Env} {w:World} {d:Option Nat} {ty:TypeId} {pos:String} {af:Array Edge} {t:TypeId} {z:List Value} {n yP:Nat} {pl:Array (Nat × Nat)} [hz:ElemT P t z n yP] [hb:BldT P t pl] {parts:Array (Nat × Operand)} (qs:List (Nat × List Value)) (r:List Value)
  (hp:parts.toList.map (fun p=>(p.1,(ev e p.2).cells))=qs.map (fun q=>(q.1,q.2.toArray))) (hf:vt (pl[·]?) z qs=some r):PV P ⟨d,.build t parts,ty,pos,af,none⟩ e w (.agg r.toArray):=fun w' _=>by
 have hz:=hz.h
 obtain ⟨fs,h1,h2⟩:=hb.h
 cases hi:P.info? t with
 | none=>simp [hi] at hz
 | some i =>
 cases hzz:i.zero with
 | none=>simp [hi,hzz] at hz
 | some zv =>
 simp [hi,hzz] at hz
 have hzc:zv.cells=z.toArray:=by rw [<- hz.1]
 have hff:=Bd (pl[·]?) (parts.toList.map fun p=>(p.1,ev e p.2)) qs z (by rw [ni];exact hp) hf
 unfold execOp
 simp only [Instr.build,zeroValue,typeInfo,hi,hzz,dE,fG,mF,d8,gb h1,h2,hzc,Array.toList_map]
 rw [hff]
 simp
theorem cY {e:Env} {i:Nat} {x:Operand} {c:List Value} {l:List (Nat × Operand)} {m:List (Nat × List Value)} (h:(ev e x).cells=c.toArray) (t:l.map (fun p=>(p.1,(ev e p.2).cells))=m.map (fun q=>(q.1,q.2.toArray))) :
  ((i,x) :: l).map (fun p=>(p.1,(ev e p.2).cells))=((i,c) :: m).map (fun q=>(q.1,q.2.toArray)):=by
 rw [fI,fI,t,h]
-- int64
instance:PlainT Tryz.prog 2:=⟨_,Tryz.underlying2,trivial⟩
instance:ElemT Tryz.prog 2 [.int .i64 0] 1 8:=⟨by kernel_rfl⟩
-- int
instance:PlainT Tryz.prog 3:=⟨_,Tryz.underlying3,trivial⟩
instance:ElemT Tryz.prog 3 [.int .i64 0] 1 8:=⟨by kernel_rfl⟩
-- bool
instance:PlainT Tryz.prog 4:=⟨_,Tryz.underlying4,trivial⟩
instance:ElemT Tryz.prog 4 [.bool false] 1 1:=⟨by kernel_rfl⟩
-- uint8
instance:PlainT Tryz.prog 5:=⟨_,Tryz.underlying5,trivial⟩
instance:ElemT Tryz.prog 5 [.int .u8 0] 1 1:=⟨by kernel_rfl⟩
-- string
instance:PlainT Tryz.prog 9:=⟨_,Tryz.underlying9,trivial⟩
instance:ElemT Tryz.prog 9 [.string ByteArray.empty] 1 16:=⟨by kernel_rfl⟩
-- uintptr
instance:PlainT Tryz.prog 12:=⟨_,Tryz.underlying12,trivial⟩
instance:ElemT Tryz.prog 12 [.int .u64 0] 1 8:=⟨by kernel_rfl⟩
-- int32
instance:PlainT Tryz.prog 21:=⟨_,Tryz.underlying21,trivial⟩
instance:ElemT Tryz.prog 21 [.int .i32 0] 1 4:=⟨by kernel_rfl⟩
-- []uint8
instance:PlainT Tryz.prog 22:=⟨_,Tryz.underlying22,trivial⟩
instance:SliceT Tryz.prog 22 5:=⟨Tryz.underlying22⟩
instance:ElemT Tryz.prog 22 [.slice none 0 0] 1 24:=⟨by kernel_rfl⟩
-- []impl.Table
instance:PlainT Tryz.prog 24:=⟨_,Tryz.underlying24,trivial⟩
instance:SliceT Tryz.prog 24 145:=⟨Tryz.underlying24⟩
instance:ElemT Tryz.prog 24 [.slice none 0 0] 1 24:=⟨by kernel_rfl⟩
-- struct { Tables []impl.Table }
instance:AggT Tryz.prog 25 1:=⟨⟨_,Tryz.underlying25,trivial⟩,by kernel_rfl⟩
instance:FldT Tryz.prog 25 0 0:=⟨_,_,Tryz.underlying25,rfl,rfl,by kernel_rfl⟩
instance:BldT Tryz.prog 25 #[(0,1)]:=⟨_,Tryz.underlying25,fun w=>by kernel_rfl⟩
instance:ElemT Tryz.prog 25 [.slice none 0 0] 1 24:=⟨by kernel_rfl⟩
-- impl.Database
instance:AggT Tryz.prog 26 1:=⟨⟨_,Tryz.underlying26,trivial⟩,by kernel_rfl⟩
instance:FldT Tryz.prog 26 0 0:=⟨_,_,Tryz.underlying26,rfl,rfl,by kernel_rfl⟩
instance:BldT Tryz.prog 26 #[(0,1)]:=⟨_,Tryz.underlying26,fun w=>by kernel_rfl⟩
instance:ElemT Tryz.prog 26 [.slice none 0 0] 1 24:=⟨by kernel_rfl⟩
-- []impl.Atom
instance:PlainT Tryz.prog 27:=⟨_,Tryz.underlying27,trivial⟩
instance:SliceT Tryz.prog 27 64:=⟨Tryz.underlying27⟩
instance:ElemT Tryz.prog 27 [.slice none 0 0] 1 24:=⟨by kernel_rfl⟩
-- []int
instance:PlainT Tryz.prog 28:=⟨_,Tryz.underlying28,trivial⟩
instance:SliceT Tryz.prog 28 3:=⟨Tryz.underlying28⟩
instance:ElemT Tryz.prog 28 [.slice none 0 0] 1 24:=⟨by kernel_rfl⟩
-- struct { VariableCount int;Atoms []impl.Atom;Output []int }
instance:AggT Tryz.prog 29 3:=⟨⟨_,Tryz.underlying29,trivial⟩,by kernel_rfl⟩
instance:FldT Tryz.prog 29 0 0:=⟨_,_,Tryz.underlying29,rfl,rfl,by kernel_rfl⟩
instance:FldT Tryz.prog 29 1 1:=⟨_,_,Tryz.underlying29,rfl,rfl,by kernel_rfl⟩
instance:FldT Tryz.prog 29 2 2:=⟨_,_,Tryz.underlying29,rfl,rfl,by kernel_rfl⟩
instance:BldT Tryz.prog 29 #[(0,1),(1,1),(2,1)]:=⟨_,Tryz.underlying29,fun w=>by kernel_rfl⟩
instance:ElemT Tryz.prog 29 [.int .i64 0,.slice none 0 0,.slice none 0 0] 3 56:=⟨by kernel_rfl⟩
-- impl.Query
instance:AggT Tryz.prog 30 3:=⟨⟨_,Tryz.underlying30,trivial⟩,by kernel_rfl⟩
instance:FldT Tryz.prog 30 0 0:=⟨_,_,Tryz.underlying30,rfl,rfl,by kernel_rfl⟩
instance:FldT Tryz.prog 30 1 1:=⟨_,_,Tryz.underlying30,rfl,rfl,by kernel_rfl⟩
instance:FldT Tryz.prog 30 2 2:=⟨_,_,Tryz.underlying30,rfl,rfl,by kernel_rfl⟩
instance:BldT Tryz.prog 30 #[(0,1),(1,1),(2,1)]:=⟨_,Tryz.underlying30,fun w=>by kernel_rfl⟩
instance:ElemT Tryz.prog 30 [.int .i64 0,.slice none 0 0,.slice none 0 0] 3 56:=⟨by kernel_rfl⟩
-- []impl.Trie
instance:PlainT Tryz.prog 33:=⟨_,Tryz.underlying33,trivial⟩
instance:SliceT Tryz.prog 33 65:=⟨Tryz.underlying33⟩
instance:ElemT Tryz.prog 33 [.slice none 0 0] 1 24:=⟨by kernel_rfl⟩
-- [][]int
instance:PlainT Tryz.prog 37:=⟨_,Tryz.underlying37,trivial⟩
instance:SliceT Tryz.prog 37 28:=⟨Tryz.underlying37⟩
instance:ElemT Tryz.prog 37 [.slice none 0 0] 1 24:=⟨by kernel_rfl⟩
-- struct { Arity int;Rows [][]int }
instance:AggT Tryz.prog 38 2:=⟨⟨_,Tryz.underlying38,trivial⟩,by kernel_rfl⟩
instance:FldT Tryz.prog 38 0 0:=⟨_,_,Tryz.underlying38,rfl,rfl,by kernel_rfl⟩
instance:FldT Tryz.prog 38 1 1:=⟨_,_,Tryz.underlying38,rfl,rfl,by kernel_rfl⟩
instance:BldT Tryz.prog 38 #[(0,1),(1,1)]:=⟨_,Tryz.underlying38,fun w=>by kernel_rfl⟩
instance:ElemT Tryz.prog 38 [.int .i64 0,.slice none 0 0] 2 32:=⟨by kernel_rfl⟩
-- impl.Relation
instance:AggT Tryz.prog 39 2:=⟨⟨_,Tryz.underlying39,trivial⟩,by kernel_rfl⟩
instance:FldT Tryz.prog 39 0 0:=⟨_,_,Tryz.underlying39,rfl,rfl,by kernel_rfl⟩
instance:FldT Tryz.prog 39 1 1:=⟨_,_,Tryz.underlying39,rfl,rfl,by kernel_rfl⟩
instance:BldT Tryz.prog 39 #[(0,1),(1,1)]:=⟨_,Tryz.underlying39,fun w=>by kernel_rfl⟩
instance:ElemT Tryz.prog 39 [.int .i64 0,.slice none 0 0] 2 32:=⟨by kernel_rfl⟩
-- []impl.Rational
instance:PlainT Tryz.prog 44:=⟨_,Tryz.underlying44,trivial⟩
instance:SliceT Tryz.prog 44 48:=⟨Tryz.underlying44⟩
instance:ElemT Tryz.prog 44 [.slice none 0 0] 1 24:=⟨by kernel_rfl⟩
-- struct { Num int;Den int }
instance:AggT Tryz.prog 47 2:=⟨⟨_,Tryz.underlying47,trivial⟩,by kernel_rfl⟩
instance:FldT Tryz.prog 47 0 0:=⟨_,_,Tryz.underlying47,rfl,rfl,by kernel_rfl⟩
instance:FldT Tryz.prog 47 1 1:=⟨_,_,Tryz.underlying47,rfl,rfl,by kernel_rfl⟩
instance:BldT Tryz.prog 47 #[(0,1),(1,1)]:=⟨_,Tryz.underlying47,fun w=>by kernel_rfl⟩
instance:ElemT Tryz.prog 47 [.int .i64 0,.int .i64 0] 2 16:=⟨by kernel_rfl⟩
-- impl.Rational
instance:AggT Tryz.prog 48 2:=⟨⟨_,Tryz.underlying48,trivial⟩,by kernel_rfl⟩
instance:FldT Tryz.prog 48 0 0:=⟨_,_,Tryz.underlying48,rfl,rfl,by kernel_rfl⟩
instance:FldT Tryz.prog 48 1 1:=⟨_,_,Tryz.underlying48,rfl,rfl,by kernel_rfl⟩
instance:BldT Tryz.prog 48 #[(0,1),(1,1)]:=⟨_,Tryz.underlying48,fun w=>by kernel_rfl⟩
instance:ElemT Tryz.prog 48 [.int .i64 0,.int .i64 0] 2 16:=⟨by kernel_rfl⟩
-- struct { Relation string;Vars []int }
instance:AggT Tryz.prog 63 2:=⟨⟨_,Tryz.underlying63,trivial⟩,by kernel_rfl⟩
instance:FldT Tryz.prog 63 0 0:=⟨_,_,Tryz.underlying63,rfl,rfl,by kernel_rfl⟩
instance:FldT Tryz.prog 63 1 1:=⟨_,_,Tryz.underlying63,rfl,rfl,by kernel_rfl⟩
instance:BldT Tryz.prog 63 #[(0,1),(1,1)]:=⟨_,Tryz.underlying63,fun w=>by kernel_rfl⟩
instance:ElemT Tryz.prog 63 [.string ByteArray.empty,.slice none 0 0] 2 40:=⟨by kernel_rfl⟩
-- impl.Atom
instance:AggT Tryz.prog 64 2:=⟨⟨_,Tryz.underlying64,trivial⟩,by kernel_rfl⟩
instance:FldT Tryz.prog 64 0 0:=⟨_,_,Tryz.underlying64,rfl,rfl,by kernel_rfl⟩
instance:FldT Tryz.prog 64 1 1:=⟨_,_,Tryz.underlying64,rfl,rfl,by kernel_rfl⟩
instance:BldT Tryz.prog 64 #[(0,1),(1,1)]:=⟨_,Tryz.underlying64,fun w=>by kernel_rfl⟩
instance:ElemT Tryz.prog 64 [.string ByteArray.empty,.slice none 0 0] 2 40:=⟨by kernel_rfl⟩
-- impl.Trie
instance:AggT Tryz.prog 65 2:=⟨⟨_,Tryz.underlying65,trivial⟩,by kernel_rfl⟩
instance:FldT Tryz.prog 65 0 0:=⟨_,_,Tryz.underlying65,rfl,rfl,by kernel_rfl⟩
instance:FldT Tryz.prog 65 1 1:=⟨_,_,Tryz.underlying65,rfl,rfl,by kernel_rfl⟩
instance:BldT Tryz.prog 65 #[(0,1),(1,1)]:=⟨_,Tryz.underlying65,fun w=>by kernel_rfl⟩
instance:ElemT Tryz.prog 65 [.int .i64 0,.slice none 0 0] 2 32:=⟨by kernel_rfl⟩
-- [][]impl.Rational
instance:PlainT Tryz.prog 74:=⟨_,Tryz.underlying74,trivial⟩
instance:SliceT Tryz.prog 74 44:=⟨Tryz.underlying74⟩
instance:ElemT Tryz.prog 74 [.slice none 0 0] 1 24:=⟨by kernel_rfl⟩
-- struct { A [][]impl.Rational;B []impl.Rational;C []impl.Rational }
instance:AggT Tryz.prog 75 3:=⟨⟨_,Tryz.underlying75,trivial⟩,by kernel_rfl⟩
instance:FldT Tryz.prog 75 0 0:=⟨_,_,Tryz.underlying75,rfl,rfl,by kernel_rfl⟩
instance:FldT Tryz.prog 75 1 1:=⟨_,_,Tryz.underlying75,rfl,rfl,by kernel_rfl⟩
instance:FldT Tryz.prog 75 2 2:=⟨_,_,Tryz.underlying75,rfl,rfl,by kernel_rfl⟩
instance:BldT Tryz.prog 75 #[(0,1),(1,1),(2,1)]:=⟨_,Tryz.underlying75,fun w=>by kernel_rfl⟩
instance:ElemT Tryz.prog 75 [.slice none 0 0,.slice none 0 0,.slice none 0 0] 3 72:=⟨by kernel_rfl⟩
-- impl.LinearProgram
instance:AggT Tryz.prog 76 3:=⟨⟨_,Tryz.underlying76,trivial⟩,by kernel_rfl⟩
instance:FldT Tryz.prog 76 0 0:=⟨_,_,Tryz.underlying76,rfl,rfl,by kernel_rfl⟩
instance:FldT Tryz.prog 76 1 1:=⟨_,_,Tryz.underlying76,rfl,rfl,by kernel_rfl⟩
instance:FldT Tryz.prog 76 2 2:=⟨_,_,Tryz.underlying76,rfl,rfl,by kernel_rfl⟩
instance:BldT Tryz.prog 76 #[(0,1),(1,1),(2,1)]:=⟨_,Tryz.underlying76,fun w=>by kernel_rfl⟩
instance:ElemT Tryz.prog 76 [.slice none 0 0,.slice none 0 0,.slice none 0 0] 3 72:=⟨by kernel_rfl⟩
-- struct { Digits []int }
instance:AggT Tryz.prog 89 1:=⟨⟨_,Tryz.underlying89,trivial⟩,by kernel_rfl⟩
instance:FldT Tryz.prog 89 0 0:=⟨_,_,Tryz.underlying89,rfl,rfl,by kernel_rfl⟩
instance:BldT Tryz.prog 89 #[(0,1)]:=⟨_,Tryz.underlying89,fun w=>by kernel_rfl⟩
instance:ElemT Tryz.prog 89 [.slice none 0 0] 1 24:=⟨by kernel_rfl⟩
-- impl.BigInt
instance:AggT Tryz.prog 90 1:=⟨⟨_,Tryz.underlying90,trivial⟩,by kernel_rfl⟩
instance:FldT Tryz.prog 90 0 0:=⟨_,_,Tryz.underlying90,rfl,rfl,by kernel_rfl⟩
instance:BldT Tryz.prog 90 #[(0,1)]:=⟨_,Tryz.underlying90,fun w=>by kernel_rfl⟩
instance:ElemT Tryz.prog 90 [.slice none 0 0] 1 24:=⟨by kernel_rfl⟩
-- struct { b []uint8;i int;h int }
instance:AggT Tryz.prog 105 3:=⟨⟨_,Tryz.underlying105,trivial⟩,by kernel_rfl⟩
instance:FldT Tryz.prog 105 0 0:=⟨_,_,Tryz.underlying105,rfl,rfl,by kernel_rfl⟩
instance:FldT Tryz.prog 105 1 1:=⟨_,_,Tryz.underlying105,rfl,rfl,by kernel_rfl⟩
instance:FldT Tryz.prog 105 2 2:=⟨_,_,Tryz.underlying105,rfl,rfl,by kernel_rfl⟩
instance:BldT Tryz.prog 105 #[(0,1),(1,1),(2,1)]:=⟨_,Tryz.underlying105,fun w=>by kernel_rfl⟩
instance:ElemT Tryz.prog 105 [.slice none 0 0,.int .i64 0,.int .i64 0] 3 40:=⟨by kernel_rfl⟩
-- spec.l1Cur
instance:AggT Tryz.prog 106 3:=⟨⟨_,Tryz.underlying106,trivial⟩,by kernel_rfl⟩
instance:FldT Tryz.prog 106 0 0:=⟨_,_,Tryz.underlying106,rfl,rfl,by kernel_rfl⟩
instance:FldT Tryz.prog 106 1 1:=⟨_,_,Tryz.underlying106,rfl,rfl,by kernel_rfl⟩
instance:FldT Tryz.prog 106 2 2:=⟨_,_,Tryz.underlying106,rfl,rfl,by kernel_rfl⟩
instance:BldT Tryz.prog 106 #[(0,1),(1,1),(2,1)]:=⟨_,Tryz.underlying106,fun w=>by kernel_rfl⟩
instance:ElemT Tryz.prog 106 [.slice none 0 0,.int .i64 0,.int .i64 0] 3 40:=⟨by kernel_rfl⟩
-- []bool
instance:PlainT Tryz.prog 127:=⟨_,Tryz.underlying127,trivial⟩
instance:SliceT Tryz.prog 127 4:=⟨Tryz.underlying127⟩
instance:ElemT Tryz.prog 127 [.slice none 0 0] 1 24:=⟨by kernel_rfl⟩
-- struct { Name string;Relation impl.Relation }
instance:AggT Tryz.prog 144 3:=⟨⟨_,Tryz.underlying144,trivial⟩,by kernel_rfl⟩
instance:FldT Tryz.prog 144 0 0:=⟨_,_,Tryz.underlying144,rfl,rfl,by kernel_rfl⟩
instance:FldT Tryz.prog 144 1 1:=⟨_,_,Tryz.underlying144,rfl,rfl,by kernel_rfl⟩
instance:BldT Tryz.prog 144 #[(0,1),(1,2)]:=⟨_,Tryz.underlying144,fun w=>by kernel_rfl⟩
instance:ElemT Tryz.prog 144 [.string ByteArray.empty,.int .i64 0,.slice none 0 0] 3 48:=⟨by kernel_rfl⟩
-- impl.Table
instance:AggT Tryz.prog 145 3:=⟨⟨_,Tryz.underlying145,trivial⟩,by kernel_rfl⟩
instance:FldT Tryz.prog 145 0 0:=⟨_,_,Tryz.underlying145,rfl,rfl,by kernel_rfl⟩
instance:FldT Tryz.prog 145 1 1:=⟨_,_,Tryz.underlying145,rfl,rfl,by kernel_rfl⟩
instance:BldT Tryz.prog 145 #[(0,1),(1,2)]:=⟨_,Tryz.underlying145,fun w=>by kernel_rfl⟩
instance:ElemT Tryz.prog 145 [.string ByteArray.empty,.int .i64 0,.slice none 0 0] 3 48:=⟨by kernel_rfl⟩
-- uint
instance:PlainT Tryz.prog 155:=⟨_,Tryz.underlying155,trivial⟩
instance:ElemT Tryz.prog 155 [.int .u64 0] 1 8:=⟨by kernel_rfl⟩
-- []string
instance:PlainT Tryz.prog 160:=⟨_,Tryz.underlying160,trivial⟩
instance:SliceT Tryz.prog 160 9:=⟨Tryz.underlying160⟩
instance:ElemT Tryz.prog 160 [.slice none 0 0] 1 24:=⟨by kernel_rfl⟩
-- uint32
instance:PlainT Tryz.prog 186:=⟨_,Tryz.underlying186,trivial⟩
instance:ElemT Tryz.prog 186 [.int .u32 0] 1 4:=⟨by kernel_rfl⟩
def AL (P:Program) (n:Nat) (ops:Array Oper) (X:List Nat) (C:World->Prop) (K:Env->World->Prop):Nat->Array Bool->Env->World->Prop
 | 0,L,e,w=>Region.ready .any ops L=[]/\K e w
 | f+1,L,e,w=>(Region.ready .any ops L=[]->K e w) /\
  ∀ i∈Region.ready .any ops L,∃ o,ops[i]? = some o/\EL P n ops (fun e' w'=>(X.contains i=true->C w')/\AL P n ops X C K f (L.setIfInBounds i true) e' w') [o] e w

section
variable {P:Program} {n:Nat} {ops:Array Oper} {X:List Nat} {C:World->Prop} {K:Env->World->Prop}
theorem J9 {o:Oper} {a:Act} {w:World} {N N2:Act->World->Prop} {K1 K2:Env->World->Prop} (h:∀ a w,N a w->N2 a w) (hh:o.wp P a w N (nrm n K1)):o.wp P a w N2 (nrm n K2):=by
  unfold Oper.wp at *
  generalize (execOp a.eval o).run P w=r at *
  cases r with
  | ok m w' =>
    cases m <;> simp only [Oper.upon] at hh ⊢ <;>
      first
        | exact h _ _ hh
        | exact Calls.mono hh (fun e w'' he=>by
            cases e with
            | returned v=>exact h _ _ he
            | panicked ch=>exact absurd he.1 (by simp)
            | outgrown=>obtain ⟨_,_,hx,_⟩:=he;exact absurd hx (by simp))
        | exact Rows.mono hh (fun _ _ he=>h _ _ he)
  | halt x w' =>
    cases x <;> simp only [Oper.upon] at hh ⊢
    exact absurd hh.1 (by simp)
theorem Da {K:Env->World->Prop}:¬ LetsOut (nrm n K):=by
 rintro ⟨_,_,h,_⟩;exact absurd h (by simp)
theorem AL.any:∀ (f:Nat) (L:Array Bool) (e:Env) (a:Act) (w:World),Mt n e a->AL P n ops X C K f L e w->wpAny P .any ops (nrm n K) f L a w
 | 0,_,e,a,_,ha,h=>⟨h.1,rfl,e,ha,h.2⟩
 | f+1,L,e,a,w,ha,h=>by
  refine ⟨fun h0=>⟨rfl,e,ha,h.1 h0⟩,fun i hi=>?_⟩
  obtain ⟨o,ho,hE⟩:=h.2 i hi
  have:=hE a ha
  unfold wpOp
  simp only [ho]
  unfold wpList at this
  have key:∀ a w,wpList P ops (nrm n fun e' w'=>(X.contains i=true->C w')/\AL P n ops X C K f (L.setIfInBounds i true) e' w') [] a w->wpAny P .any ops (nrm n K) f (L.setIfInBounds i true) a w:=by
   rintro a w ⟨_,e',ha',_,h2⟩
   exact AL.any f _ e' a w ha' h2
  split
  ·rename_i hw
   rw [aX hw] at this
   rcases this with h1 | ⟨_,h1⟩
   ·exact .inl (J9 key h1)
   ·exact absurd h1 Da
  ·rename_i hw
   rw [a9 hw] at this
   exact key _ _ this
theorem JA {id:Nat} {l:List Oper} {Q:Exit->Env->World->Prop} {e:Env} {w:World} (X:List Nat) (C:World->Prop) (hm:P.follows .mixedOrders=true)
  (hx:∀ w',Ext w w'->AL P n l.toArray X C (fun e w=>Q .normal e w) l.length (Array.replicate l.length false) e w'):CW P n (.region id l.toArray true) Q e w:=by
 intro a ha
 have h2:=hx { w with drawn:=w.drawn+1 } ⟨rfl,rfl,rfl,bN _,fun _ _=>rfl⟩
 have:=AL.any _ _ _ a _ ha h2
 refine qQ (wp_region_any (Q:=nrm n fun e w=>Q .normal e w) hm (by simpa using this)) ?_
 rintro x a w ⟨rfl,e,he,hk⟩
 exact ⟨e,he,hk⟩

def SV (P:Program) (n:Nat) (ops:Array Oper) (C:World->Prop) (o:Oper) (e:Env) (v:Value):Prop :=
 ∀ a,Mt n e a->(Region.wanted o (yielded ops a.tmps)=true/\∀ w',C w'->(execOp a.eval o).run P w'=.ok (.value v) w')\/(Region.wanted o (yielded ops a.tmps)=false/\v=undef)
def sW (ops:Array Oper) (X:List Nat) (L:Array Bool) (i:Nat) (o:Oper):Bool :=
 (List.range ops.size).all fun j=>Nat.beq j i||L.getD j true||(match ops[j]? with
  | some oj=>oj.after.any (fun e=>Region.binds .any e&&Nat.beq e.on i)||(o.apart ops oj&&X.contains j)
  | none=>true)
theorem pd {L:Array Bool} {i:Nat}:i∈Region.ready .any ops L↔L.getD i true=false/\∃ o,ops[i]? = some o/\∀ e∈o.after,Region.binds .any e=true->L.getD e.on false=true:=by
 unfold Region.ready
 simp only [lW,List.mem_range,bU,xc]
 constructor
 ·rintro ⟨h1,h2,h3⟩
  refine ⟨h2,ops[i],nK h1,fun e he hb=>?_⟩
  rw [nK h1] at h3
  simp only [Option.map_some,Option.getD_some,C8] at h3
  have:=h3 e he
  simpa [hb] using this
 ·rintro ⟨h2,o,h1,h3⟩
  obtain ⟨hlt,rfl⟩:=j0.1 h1
  refine ⟨hlt,h2,?_⟩
  rw [h1]
  simp only [Option.map_some,Option.getD_some,C8]
  intro e he
  by_cases hb:Region.binds .any e=true
  ·simp [h3 e he hb]
  ·simp [hb]
theorem qK {L:Array Bool} {i j:Nat} {d:Bool} (h:j≠i):(L.setIfInBounds i true).getD j d=L.getD j d:=by
 simp [Array.getElem?_setIfInBounds_ne (qT h)]
theorem DM {L:Array Bool} {i j:Nat} (h:L.getD j false=true):(L.setIfInBounds i true).getD j false=true:=by
 by_cases hj:j=i
 ·subst hj
  have:j<L.size:=by
   rcases Nat.lt_or_ge j L.size with h1 | h1
   ·exact h1
   ·simp [Array.getElem?_eq_none h1] at h
  simp [this]
 ·rw [qK hj];exact h
theorem o9 {L:Array Bool} {i j:Nat} (hij:j≠i) (h:j∈Region.ready .any ops L):j∈Region.ready .any ops (L.setIfInBounds i true):=by
 obtain ⟨h1,o,h2,h3⟩:=pd.1 h
 exact pd.2 ⟨by rw [qK hij];exact h1,o,h2,fun e he hb=>DM (h3 e he hb)⟩
theorem DC (L:Array Bool) (i j:Nat):(L.setIfInBounds i true).setIfInBounds j true=(L.setIfInBounds j true).setIfInBounds i true:=by
 by_cases h:i=j
 ·subst h;rfl
 ·exact Array.setIfInBounds_comm _ _ h
theorem Hq {L:Array Bool} {i j:Nat} {o:Oper} (h:sW ops X L i o=true):sW ops X (L.setIfInBounds j true) i o=true:=by
 unfold sW at *
 rw [dL] at *
 intro k hk
 have:=h k hk
 by_cases hkj:k=j
 ·subst hkj
  have:k<ops.size:=by simpa using hk
  by_cases hkl:k<L.size
  ·simp [hkl]
  ·have hn:L[k]? = none:=Array.getElem?_eq_none oa
   simp [hkl]
 ·rw [qK hkj];exact this
def Ft (a:Act):Env:=fun t=>a.tmps.getD t undef
theorem Iy {a:Act} (h1:a.tmps.size=n) (h2:a.defers=[]):Mt n (Ft a) a:=⟨h1,h2,fun _=>rfl⟩
theorem Mt.uniq {a:Act} {e e':Env} (h:Mt n e a) (h':Mt n e' a):e=e':=by funext t;rw [<- h.get,<- h'.get]
theorem DF (a:Act) (d:Option Nat) (v:Value):(a.put d v).tmps.size=a.tmps.size:=by cases d <;> simp [Act.put]
theorem Er (a:Act) (d:Option Nat) (v:Value):(a.put d v).defers=a.defers:=by cases d <;> rfl
theorem wt {a b:Act} (h:∀ t,a.tmps.getD t undef=b.tmps.getD t undef) (hs:a.tmps.size=b.tmps.size):a.tmps=b.tmps:=by
 apply Array.ext hs
 intro i h1 h2
 have:=h i
 simpa [Array.getD,h1,h2] using this
theorem DB {o:Oper} {a a':Act} {N N2:Act->World->Prop} {K1 K2:Env->World->Prop} (h:∀ u w,N (a'.put o.dst u) w->N2 (a.put o.dst u) w) (hd:∀ d u w,¬ N (({ a' with defers:=d :: a'.defers }:Act).put o.dst u) w) {r:Result Next}
    (hh:o.upon P a' N (nrm n K1) r):o.upon P a N2 (nrm n K2) r:=by
  cases r with
  | ok m w' =>
    cases m <;> simp only [Oper.upon] at hh ⊢ <;>
      first
        | exact h _ _ hh
        | exact absurd hh (hd _ _ _)
        | exact Calls.mono hh (fun e w'' he=>by
            cases e with
            | returned v=>exact h _ _ he
            | panicked ch=>exact absurd he.1 (by simp)
            | outgrown=>obtain ⟨_,_,hx,_⟩:=he;exact absurd hx (by simp))
        | exact Rows.mono hh (fun _ _ he=>h _ _ he)
  | halt x w' =>
    cases x <;> simp only [Oper.upon] at hh ⊢
    exact absurd hh.1 (by simp)
def pU (ops:Array Oper):Bool:=ops.all fun o=>match o.op with | .select ..=>false | _=>true
theorem vA (h:pU ops=true) {i:Nat} {o:Oper} (hi:ops[i]? = some o):∀ cs b,o.op≠.select cs b:=by
 intro cs b e
 unfold pU at h
 rw [C8] at h
 have:=h o (Array.mem_of_getElem? hi)
 simp [e] at this
theorem Jo (hsel:pU ops=true) (i:Nat) {o:Oper} {d:Nat} {v:Value} (hi:ops[i]? = some o) (hdst:o.dst=some d) (hdn:d<n) :
  ∀ (f:Nat) (L:Array Bool) (e:Env) (w:World),C w->sW ops X L i o=true->i∈Region.ready .any ops L->SV P n ops C o e v->AL P n ops X C K f (L.setIfInBounds i true) (upd e d v) w->AL P n ops X C K (f+1) L e w:=by
 intro f
 induction f with
 | zero =>
  intro L e w hC hf hr hy H
  refine ⟨fun h=>(by rw [h] at hr;cases hr),fun j hj=>?_⟩
  by_cases hji:j=i
  ·subst hji
   refine ⟨o,hi,fun a ha=>?_⟩
   unfold wpList
   rcases hy a ha with ⟨hw,hv⟩ | ⟨hw,rfl⟩
   ·rw [aX hw]
    refine .inl ?_
    unfold Oper.wp
    rw [hv w hC]
    simp only [Oper.upon,hdst]
    exact ⟨rfl,_,ha.put hdn v,fun _=>hC,H⟩
   ·rw [a9 (by simp [hw])]
    rw [hdst]
    exact ⟨rfl,_,ha.put hdn _,fun _=>hC,H⟩
  ·have:=o9 (i:=i) hji hj
   rw [H.1] at this;cases this
 | succ f ih =>
  intro L e w hC hf hr hy H
  refine ⟨fun h=>(by rw [h] at hr;cases hr),fun j hj=>?_⟩
  by_cases hji:j=i
  ·subst hji
   refine ⟨o,hi,fun a ha=>?_⟩
   unfold wpList
   rcases hy a ha with ⟨hw,hv⟩ | ⟨hw,rfl⟩
   ·rw [aX hw]
    refine .inl ?_
    unfold Oper.wp
    rw [hv w hC]
    simp only [Oper.upon,hdst]
    exact ⟨rfl,_,ha.put hdn v,fun _=>hC,H⟩
   ·rw [a9 (by simp [hw])]
    rw [hdst]
    exact ⟨rfl,_,ha.put hdn _,fun _=>hC,H⟩
  ·obtain ⟨oj,hoj,hE⟩:=H.2 j (o9 hji hj)
   have hjL:=(pd.1 hj)
   have hiL:=(pd.1 hr)
   have hap:o.apart ops oj=true/\X.contains j=true:=by
    have h1:=hf
    unfold sW at h1
    rw [dL] at h1
    have h2:=h1 j (by simp [(j0.1 hoj).1])
    have hb:Nat.beq j i=false:=uE hji
    simp only [hb,hjL.1,hoj,ue,rj,bU] at h2
    rcases h2 with h2 | h2
    ·exfalso
     obtain ⟨_,h3,h4⟩:=hjL.2
     rw [hoj] at h3;obtain rfl:=c8 h3
     rw [Array.any_eq_true'] at h2
     obtain ⟨ed,hm,h5⟩:=h2
     simp only [bU] at h5
     have h6:=h4 ed hm h5.1
     have h7:ed.on=i:=sS h5.2
     rw [h7] at h6
     have:=hiL.1
     cases hx:L[i]? with
     | none=>simp [uk,hx] at this
     | some b=>simp [uk,hx] at this h6;simp [this] at h6
    ·exact h2
   obtain ⟨h1,h2,h3⟩:=Oper.apart_spec hap.1
   have hso:=vA hsel hi
   have hsj:=vA hsel hoj
   refine ⟨oj,hoj,fun a ha=>?_⟩
   have h4:=hE _ (ha.put hdn v)
   have key:∀ u w',nrm n (fun e' w'=>(X.contains j=true->C w')/\AL P n ops X C K f ((L.setIfInBounds i true).setIfInBounds j true) e' w') .normal ((a.put (some d) v).put oj.dst u) w' ->
     nrm n (fun e' w'=>(X.contains j=true->C w')/\AL P n ops X C K (f+1) (L.setIfInBounds j true) e' w') .normal (a.put oj.dst u) w':=by
    rintro u w' ⟨_,e1,he1,hc1,hA1⟩
    have hm2:Mt n (Ft (a.put oj.dst u)) (a.put oj.dst u):=Iy (by rw [DF,ha.size]) (by rw [Er,ha.defers])
    have hcm:(a.put (some d) v).put oj.dst u=(a.put oj.dst u).put (some d) v:=Act.put_comm a v u (fun x hx=>by
     have:=h2 d hdst
     simp only [pE] at hx;subst hx;exact this)
    rw [hcm] at he1
    obtain rfl:=he1.uniq (hm2.put hdn v)
    refine ⟨rfl,_,hm2,hc1,ih _ _ _ (hc1 hap.2) (Hq hf) (o9 (qT hji) hr) ?_ (by rw [<- DC];exact hA1)⟩
    intro b hb
    have hbt:b.tmps=(a.put oj.dst u).tmps:=wt (fun t=>by rw [hb.get t];rfl) (by rw [hb.size,hm2.size])
    have hbe:b.eval=(a.put oj.dst u).eval:=by rw [hb.eval,hm2.eval]
    rw [hbt,hbe,execOp_put o hso a oj.dst u h3,wanted_put o a oj.dst u h3]
    exact hy a ha
   unfold wpList at h4 ⊢
   have hwe:=wanted_put (ops:=ops) oj a (some d) v (fun x hx=>by simp only [pE] at hx;subst hx;exact h1 d hdst)
   have hxe:=execOp_put oj hsj a (some d) v (fun x hx=>by simp only [pE] at hx;subst hx;exact h1 d hdst)
   rw [hwe] at h4
   split
   ·rename_i hw
    rw [aX hw] at h4
    rcases h4 with h5 | ⟨_,h5⟩
    ·refine .inl ?_
     unfold Oper.wp at h5 ⊢
     rw [hxe] at h5
     refine DB key ?_ h5
     rintro dd u w' ⟨_,e1,he1,_⟩
     have:=he1.defers
     cases hdj:oj.dst <;> simp [Act.put,hdj] at this
    ·exact absurd h5 Da
   ·rename_i hw
    rw [a9 hw] at h4
    exact key _ _ h4
def xA (ops:Array Oper) (X T:List Nat) (L:Array Bool) (i:Nat) (o:Oper):Bool :=
 (List.range ops.size).all fun j=>Nat.beq j i||(match ops[j]? with
  | some oj=>if T.contains j then !L.getD j true&&oj.after.any (fun e=>Region.binds .any e&&Nat.blt e.on ops.size&&(Nat.beq e.on i||T.contains e.on)) else L.getD j true||(o.apart ops oj&&X.contains j)
  | none=>true)
theorem FU {T:List Nat} {L:Array Bool} {i j:Nat} {o:Oper} (hT:T.contains j=false) (h:xA ops X T L i o=true):xA ops X T (L.setIfInBounds j true) i o=true:=by
 unfold xA at *
 rw [dL] at *
 intro k hk
 have:=h k hk
 by_cases hkj:k=j
 ·subst hkj
  have hlt:k<ops.size:=by simpa using hk
  rw [nK hlt]
  dsimp only
  rw [hT,a9 (by decide),rj]
  refine .inr ?_
  by_cases hkl:k<L.size
  ·simp [hkl]
  ·have hn:L[k]? = none:=Array.getElem?_eq_none oa
   simp [hkl]
 ·rw [qK hkj];exact this
theorem Hy (T:List Nat) (hsel:pU ops=true) (i:Nat) {o:Oper} {d:Nat} {v:Value} (hi:ops[i]? = some o) (hdst:o.dst=some d) (hdn:d<n) :
  ∀ (f:Nat) (L:Array Bool) (e:Env) (w:World),C w->xA ops X T L i o=true->i∈Region.ready .any ops L->SV P n ops C o e v->AL P n ops X C K f (L.setIfInBounds i true) (upd e d v) w->AL P n ops X C K (f+1) L e w:=by
 intro f
 induction f with
 | zero =>
  intro L e w hC hf hr hy H
  refine ⟨fun h=>(by rw [h] at hr;cases hr),fun j hj=>?_⟩
  by_cases hji:j=i
  ·subst hji
   refine ⟨o,hi,fun a ha=>?_⟩
   unfold wpList
   rcases hy a ha with ⟨hw,hv⟩ | ⟨hw,rfl⟩
   ·rw [aX hw]
    refine .inl ?_
    unfold Oper.wp
    rw [hv w hC]
    simp only [Oper.upon,hdst]
    exact ⟨rfl,_,ha.put hdn v,fun _=>hC,H⟩
   ·rw [a9 (by simp [hw])]
    rw [hdst]
    exact ⟨rfl,_,ha.put hdn _,fun _=>hC,H⟩
  ·have:=o9 (i:=i) hji hj
   rw [H.1] at this;cases this
 | succ f ih =>
  intro L e w hC hf hr hy H
  refine ⟨fun h=>(by rw [h] at hr;cases hr),fun j hj=>?_⟩
  by_cases hji:j=i
  ·subst hji
   refine ⟨o,hi,fun a ha=>?_⟩
   unfold wpList
   rcases hy a ha with ⟨hw,hv⟩ | ⟨hw,rfl⟩
   ·rw [aX hw]
    refine .inl ?_
    unfold Oper.wp
    rw [hv w hC]
    simp only [Oper.upon,hdst]
    exact ⟨rfl,_,ha.put hdn v,fun _=>hC,H⟩
   ·rw [a9 (by simp [hw])]
    rw [hdst]
    exact ⟨rfl,_,ha.put hdn _,fun _=>hC,H⟩
  ·obtain ⟨oj,hoj,hE⟩:=H.2 j (o9 hji hj)
   have hjL:=(pd.1 hj)
   have hiL:=(pd.1 hr)
   have hpend:L.getD i false≠true:=fun h6=>by
    have:=hiL.1
    cases hx:L[i]? with
    | none=>simp [uk,hx] at this
    | some b=>simp [uk,hx] at this h6;simp [this] at h6
   have hap:T.contains j=false/\o.apart ops oj=true/\X.contains j=true:=by
    have h1:=hf
    unfold xA at h1
    rw [dL] at h1
    have h2:=h1 j (by simp [(j0.1 hoj).1])
    have hb:Nat.beq j i=false:=uE hji
    rw [hb,ue,hoj] at h2
    dsimp only at h2
    cases hT:T.contains j with
    | true =>
     exfalso
     rw [hT,aX rfl,bU] at h2
     obtain ⟨_,h3,h4⟩:=hjL.2
     rw [hoj] at h3;obtain rfl:=c8 h3
     have h2':=h2.2
     rw [Array.any_eq_true'] at h2'
     obtain ⟨ed,hm,h5⟩:=h2'
     rw [bU,bU,rj] at h5
     have h6:=h4 ed hm h5.1.1
     rcases h5.2 with h7 | h7
     ·rw [sS h7] at h6;exact hpend h6
     ·have hlt:ed.on<ops.size:=by simpa using h5.1.2
      have h8:=h1 ed.on (by simpa using hlt)
      rw [nK hlt] at h8
      dsimp only at h8
      rw [aX h7,rj,bU] at h8
      rcases h8 with h8 | ⟨h8,_⟩
      ·rw [sS h8] at h6;exact hpend h6
      ·cases hx:L[ed.on]? with
       | none=>simp [uk,hx] at h6
       | some b=>simp [uk,hx] at h8 h6;simp [h6] at h8
    | false =>
     rw [hT,a9 (by decide),rj,bU] at h2
     rcases h2 with h2 | h2
     ·rw [hjL.1] at h2;cases h2
     ·exact ⟨rfl,h2⟩
   obtain ⟨h1,h2,h3⟩:=Oper.apart_spec hap.2.1
   have hso:=vA hsel hi
   have hsj:=vA hsel hoj
   refine ⟨oj,hoj,fun a ha=>?_⟩
   have h4:=hE _ (ha.put hdn v)
   have key:∀ u w',nrm n (fun e' w'=>(X.contains j=true->C w')/\AL P n ops X C K f ((L.setIfInBounds i true).setIfInBounds j true) e' w') .normal ((a.put (some d) v).put oj.dst u) w' ->
     nrm n (fun e' w'=>(X.contains j=true->C w')/\AL P n ops X C K (f+1) (L.setIfInBounds j true) e' w') .normal (a.put oj.dst u) w':=by
    rintro u w' ⟨_,e1,he1,hc1,hA1⟩
    have hm2:Mt n (Ft (a.put oj.dst u)) (a.put oj.dst u):=Iy (by rw [DF,ha.size]) (by rw [Er,ha.defers])
    have hcm:(a.put (some d) v).put oj.dst u=(a.put oj.dst u).put (some d) v:=Act.put_comm a v u (fun x hx=>by
     have:=h2 d hdst
     simp only [pE] at hx;subst hx;exact this)
    rw [hcm] at he1
    obtain rfl:=he1.uniq (hm2.put hdn v)
    refine ⟨rfl,_,hm2,hc1,ih _ _ _ (hc1 hap.2.2) (FU hap.1 hf) (o9 (qT hji) hr) ?_ (by rw [<- DC];exact hA1)⟩
    intro b hb
    have hbt:b.tmps=(a.put oj.dst u).tmps:=wt (fun t=>by rw [hb.get t];rfl) (by rw [hb.size,hm2.size])
    have hbe:b.eval=(a.put oj.dst u).eval:=by rw [hb.eval,hm2.eval]
    rw [hbt,hbe,execOp_put o hso a oj.dst u h3,wanted_put o a oj.dst u h3]
    exact hy a ha
   unfold wpList at h4 ⊢
   have hwe:=wanted_put (ops:=ops) oj a (some d) v (fun x hx=>by simp only [pE] at hx;subst hx;exact h1 d hdst)
   have hxe:=execOp_put oj hsj a (some d) v (fun x hx=>by simp only [pE] at hx;subst hx;exact h1 d hdst)
   rw [hwe] at h4
   split
   ·rename_i hw
    rw [aX hw] at h4
    rcases h4 with h5 | ⟨_,h5⟩
    ·refine .inl ?_
     unfold Oper.wp at h5 ⊢
     rw [hxe] at h5
     refine DB key ?_ h5
     rintro dd u w' ⟨_,e1,he1,_⟩
     have:=he1.defers
     cases hdj:oj.dst <;> simp [Act.put,hdj] at this
    ·exact absurd h5 Da
   ·rename_i hw
    rw [a9 hw] at h4
    exact key _ _ h4
theorem Cj (T:List Nat) (hsel:pU ops=true) (i:Nat) {o:Oper} {d:Nat} {v:Value} {f:Nat} {L:Array Bool} {e:Env} {w:World} (hi:ops[i]? = some o) (hdst:o.dst=some d) (hdn:d<n) (hC:C w) (hf:xA ops X T L i o=true) (hr:(Region.ready .any ops L).contains i=true)
  (hy:SV P n ops C o e v) (hK:AL P n ops X C K f (L.setIfInBounds i true) (upd e d v) w):AL P n ops X C K (f+1) L e w :=
 Hy T hsel i hi hdst hdn f L e w hC hf (by simpa using hr) hy hK
theorem cF {f:Nat} {L:Array Bool} {e:Env} {w:World} (h:Region.ready .any ops L=[]) (hK:K e w):AL P n ops X C K f L e w:=by
 cases f with
 | zero=>exact ⟨h,hK⟩
 | succ f=>exact ⟨fun _=>hK,fun i hi=>by rw [h] at hi;cases hi⟩
theorem KR (i:Nat) {f:Nat} {L:Array Bool} {e:Env} {w:World} {o:Oper} (hr:Region.ready .any ops L=[i]) (ho:ops[i]? = some o)
  (h:EL P n ops (fun e' w'=>(X.contains i=true->C w')/\AL P n ops X C K f (L.setIfInBounds i true) e' w') [o] e w):AL P n ops X C K (f+1) L e w :=
 ⟨fun h0=>(by rw [hr] at h0;cases h0),fun j hj=>by
  rw [hr] at hj
  have e:j=i:=by simpa using hj
  rw [e]
  exact ⟨o,ho,h⟩⟩
theorem tB {o:Oper} {e:Env} {v:Value} (hg:o.guard=none) (h:∀ w',C w'->PV P o e w' v):SV P n ops C o e v:=fun a ha=>.inl ⟨by simp [Region.wanted,hg],fun w' hw'=>by rw [ha.eval];exact h w' hw' w' (Ext.refl _)⟩
theorem Fb (hsel:pU ops=true) (i:Nat) {o:Oper} {d:Nat} {v:Value} {f:Nat} {L:Array Bool} {e:Env} {w:World} (hi:ops[i]? = some o) (hdst:o.dst=some d) (hdn:d<n) (hC:C w) (hf:sW ops X L i o=true) (hr:(Region.ready .any ops L).contains i=true)
  (hy:SV P n ops C o e v) (hK:AL P n ops X C K f (L.setIfInBounds i true) (upd e d v) w):AL P n ops X C K (f+1) L e w :=
 Jo hsel i hi hdst hdn f L e w hC hf (by simpa using hr) hy hK
section
variable {wA:World} {v:Value} {d:Nat} {ty:TypeId} {pos:String} {af:Array Edge} {x y:Operand} {α:Type} {R:Rep α} {E E':TypeId} {f:Nat} {L:Array Bool} {e:Env} {w:World}
theorem kt (hsel:pU ops=true) (i:Nat) {t:TypeId} [SliceT P t E'] {zz:List Value} {m yP:Nat} [ElemT P E' zz m yP] {xs:List α} (hi':ops[i]? = some ⟨some d,.indexAddr t x y,ty,pos,af,none⟩) (hC:C w) (hf:sW ops X L i ⟨some d,.indexAddr t x y,ty,pos,af,none⟩=true) (hrd:(Region.ready .any ops L).contains i=true)
  (hs:ev e x=v) (hr:(aH R E).rd wA [v] xs) (hn:R.sz=m) (hpos:0<m) {k:IntKind} {j:Int} (hi:ev e y=.int k j) {u:α} (h:ix xs j=some u) (hd:d<n)
  (hK:∀ b off ec,R.rd wA ec u->(∀ j c,ec[j]? = some c->wA.cell? ⟨b,off+j,none⟩=some c)->AL P n ops X C K f (L.setIfInBounds i true) (upd e d (.pointer (some ⟨b,off,none⟩))) w):AL P n ops X C K (f+1) L e w:=by
 obtain ⟨b,off,ec,h1,h2,h3⟩:=yX (P:=P) (d:=some d) (ty:=ty) (pos:=pos) (af:=af) (t:=t) hs hr hn hpos hi h
 exact Fb hsel i hi' rfl hd hC hf hrd (tB rfl fun w' _=>h3 w') (hK b off ec h1 h2)
theorem C7 (hsel:pU ops=true) (i:Nat) {t:TypeId} {lo hi:Option Operand} [SliceT P t E'] {z:List Value} {m yP:Nat} [ElemT P E' z m yP] (hi':ops[i]? = some ⟨some d,.slice t x lo hi none,ty,pos,af,none⟩) (hC:C w) (hf:sW ops X L i ⟨some d,.slice t x lo hi none,ty,pos,af,none⟩=true) (hrd:(Region.ready .any ops L).contains i=true) (hn:R.sz=m)
  (hx:ev e x=v) {xs ys:List α} (hr:(aH R E).rd wA [v] xs) {l h:Int} (hlo:(lo.map (ev e)=some (.int .i64 l))\/(lo=none/\l=0)) (hhi:(hi.map (ev e)=some (.int .i64 h))\/(hi=none/\h=xs.length)) (hq:slc xs l h=some ys) (hd:d<n)
  (hK:∀ v',(aH R E).rd wA [v'] ys->AL P n ops X C K f (L.setIfInBounds i true) (upd e d v') w):AL P n ops X C K (f+1) L e w:=by
 obtain ⟨v',h1,h2⟩:=yu (P:=P) (d:=some d) (ty:=ty) (pos:=pos) (af:=af) (t:=t) hn hx hr hlo hhi hq
 exact Fb hsel i hi' rfl hd hC hf hrd (tB rfl fun w' _=>h2 w') (hK v' h1)
end
end
class FlatR {α:Type} (R:Rep α) (f:outParam (α->Value)):Prop where
 h:∀ {w:World} {cs:List Value} {x:α},R.rd w cs x->cs=[f x]
instance:FlatR bX (Value.int .i64):=⟨fun h=>h⟩
instance:FlatR u8R (Value.int .u8):=⟨fun h=>h⟩
instance:FlatR tw Value.bool:=⟨fun h=>h⟩
section
variable {P:Program} {n:Nat} {ops:Array Oper} {K:Env->World->Prop} {KQ:Env->Prop} {rest:List Oper} {e:Env} {w w0:World} {v:Value} {d:Nat} {ty:TypeId} {pos:String} {af:Array Edge} {Γ:List Asn} {x y:Operand} {α:Type} {R:Rep α} {E:TypeId} {f:α->Value}
theorem Sat.zF (i:Nat) [hf:FlatR R f] {xs:List α} (hS:Sat w0 w Γ) (hi:Γ[i]? = some (Own (aH R E) [v] xs)) {g cap ln:Nat} (hv:v=.slice (some ⟨g,0,none⟩) ln cap) {j:Int} {u:α} (h:ix xs j=some u):w.cell? ⟨g,j.toNat*1,none⟩=some (f u):=by
 obtain ⟨k,rfl,hk,rfl⟩:=jD h
 obtain ⟨fp,ho,_⟩:=(hS.top i hi).head
 rcases ho with ⟨_,h2,_⟩ | ⟨g',cap',cur,ccs,f2,hv',hg,h1,h2,h3,h4,h5,rfl⟩
 ·subst h2;simp at hk
 subst hv
 simp at hv'
 obtain ⟨rfl,rfl,rfl⟩:=hv'
 obtain ⟨ec,hec,hcc⟩:=sA (jb h5) k hk
 obtain rfl:=hf.h hec
 have hsz:R.sz=1:=by have:=R.rd_len hec;simpa using this.symm
 have h0:=hcc 0 _ rfl
 rw [nf w g _ cur E (0,0) hg,<- pG]
 rw [<- h4,lm] at h0
 simp only [iR]
 rw [hsz] at h0
 split at h0
 ·simpa using h0
 ·cases h0
theorem cT (i:Nat) {xs:List α} (hS:Sat w0 w Γ) (hi:Γ[i]? = some (Own (aH R E) [v] xs)) {j:Int} {u:α} (h:ix xs j=some u):∃ g cap,v=.slice (some ⟨g,0,none⟩) xs.length cap:=by
 obtain ⟨k,rfl,hk,rfl⟩:=jD h
 rcases (hS.top i hi).shape with ⟨_,h2⟩ | ⟨g,cap,h⟩
 ·subst h2;simp at hk
 ·exact ⟨g,cap,h⟩
theorem cl {d:Option Nat} {t:TypeId} [ht:SliceT P t E] {zz:List Value} {yP:Nat} [hz:ElemT P E zz 1 yP] {xs:List α} (hs:ev e x=v) {g cap:Nat} (hv:v=.slice (some ⟨g,0,none⟩) xs.length cap) {k:IntKind} {j:Int} (hi:ev e y=.int k j) {u:α} (h:ix xs j=some u) :
  PV P ⟨d,.indexAddr t x y,ty,pos,af,none⟩ e w (.pointer (some ⟨g,j.toNat*1,none⟩)):=fun w' _=>by
 obtain ⟨k',rfl,hk,rfl⟩:=jD h
 subst hv
 have hz:=hz.h
 cases hq:P.info? E with
 | none=>simp [hq] at hz
 | some inf =>
  simp [hq] at hz
  have hsz:inf.size=1:=hz.2.1
  unfold execOp
  simp [hs,hi,Instr.indexAt,asIntOf,gb ht.h,sizeOf,typeInfo,hq,hk,jM,hsz]
end
theorem L3:Goes Tryz.prog 5:=⟨_,Tryz.func5,by kernel_rfl,by kernel_rfl⟩
theorem L5:Goes Tryz.prog 6:=⟨_,Tryz.func6,by kernel_rfl,by kernel_rfl⟩
theorem IC:Goes Tryz.prog 7:=⟨_,Tryz.func7,by kernel_rfl,by kernel_rfl⟩
theorem Mr:Goes Tryz.prog 8:=⟨_,Tryz.func8,by kernel_rfl,by kernel_rfl⟩
theorem L8:Goes Tryz.prog 9:=⟨_,Tryz.func9,by kernel_rfl,by kernel_rfl⟩
theorem LT:Goes Tryz.prog 10:=⟨_,Tryz.func10,by kernel_rfl,by kernel_rfl⟩
theorem LA:Goes Tryz.prog 11:=⟨_,Tryz.func11,by kernel_rfl,by kernel_rfl⟩
theorem Kr:Goes Tryz.prog 12:=⟨_,Tryz.func12,by kernel_rfl,by kernel_rfl⟩
theorem Lz:Goes Tryz.prog 13:=⟨_,Tryz.func13,by kernel_rfl,by kernel_rfl⟩
theorem Kp:Goes Tryz.prog 14:=⟨_,Tryz.func14,by kernel_rfl,by kernel_rfl⟩
theorem KG:Goes Tryz.prog 21:=⟨_,Tryz.func21,by kernel_rfl,by kernel_rfl⟩
theorem Ll:Goes Tryz.prog 22:=⟨_,Tryz.func22,by kernel_rfl,by kernel_rfl⟩
theorem KE:Goes Tryz.prog 23:=⟨_,Tryz.func23,by kernel_rfl,by kernel_rfl⟩
theorem KM:Goes Tryz.prog 24:=⟨_,Tryz.func24,by kernel_rfl,by kernel_rfl⟩
theorem Ai:Goes Tryz.prog 25:=⟨_,Tryz.func25,by kernel_rfl,by kernel_rfl⟩
theorem Hl:Goes Tryz.prog 26:=⟨_,Tryz.func26,by kernel_rfl,by kernel_rfl⟩
theorem Cv:Goes Tryz.prog 27:=⟨_,Tryz.func27,by kernel_rfl,by kernel_rfl⟩
theorem FY:Goes Tryz.prog 28:=⟨_,Tryz.func28,by kernel_rfl,by kernel_rfl⟩
theorem Lg:Goes Tryz.prog 29:=⟨_,Tryz.func29,by kernel_rfl,by kernel_rfl⟩
theorem LE:Goes Tryz.prog 30:=⟨_,Tryz.func30,by kernel_rfl,by kernel_rfl⟩
theorem La:Goes Tryz.prog 31:=⟨_,Tryz.func31,by kernel_rfl,by kernel_rfl⟩
theorem KD:Goes Tryz.prog 32:=⟨_,Tryz.func32,by kernel_rfl,by kernel_rfl⟩
theorem K4:Goes Tryz.prog 33:=⟨_,Tryz.func33,by kernel_rfl,by kernel_rfl⟩
theorem G1:Goes Tryz.prog 34:=⟨_,Tryz.func34,by kernel_rfl,by kernel_rfl⟩
theorem iU:Goes Tryz.prog 35:=⟨_,Tryz.func35,by kernel_rfl,by kernel_rfl⟩
theorem LL:Goes Tryz.prog 36:=⟨_,Tryz.func36,by kernel_rfl,by kernel_rfl⟩
theorem KK:Goes Tryz.prog 37:=⟨_,Tryz.func37,by kernel_rfl,by kernel_rfl⟩
theorem KV:Goes Tryz.prog 38:=⟨_,Tryz.func38,by kernel_rfl,by kernel_rfl⟩
theorem Aq:Goes Tryz.prog 39:=⟨_,Tryz.func39,by kernel_rfl,by kernel_rfl⟩
theorem LK:Goes Tryz.prog 40:=⟨_,Tryz.func40,by kernel_rfl,by kernel_rfl⟩
theorem LB:Goes Tryz.prog 41:=⟨_,Tryz.func41,by kernel_rfl,by kernel_rfl⟩
theorem Dy:Goes Tryz.prog 42:=⟨_,Tryz.func42,by kernel_rfl,by kernel_rfl⟩
theorem CG:Goes Tryz.prog 43:=⟨_,Tryz.func43,by kernel_rfl,by kernel_rfl⟩
theorem zu:Goes Tryz.prog 44:=⟨_,Tryz.func44,by kernel_rfl,by kernel_rfl⟩
theorem Lu:Goes Tryz.prog 45:=⟨_,Tryz.func45,by kernel_rfl,by kernel_rfl⟩
theorem xd:Goes Tryz.prog 46:=⟨_,Tryz.func46,by kernel_rfl,by kernel_rfl⟩
theorem sG:Goes Tryz.prog 47:=⟨_,Tryz.func47,by kernel_rfl,by kernel_rfl⟩
theorem Hh:Goes Tryz.prog 48:=⟨_,Tryz.func48,by kernel_rfl,by kernel_rfl⟩
theorem i6:Goes Tryz.prog 49:=⟨_,Tryz.func49,by kernel_rfl,by kernel_rfl⟩
theorem mH:Goes Tryz.prog 50:=⟨_,Tryz.func50,by kernel_rfl,by kernel_rfl⟩
theorem GZ:Goes Tryz.prog 53:=⟨_,Tryz.func53,by kernel_rfl,by kernel_rfl⟩
theorem mI:Goes Tryz.prog 54:=⟨_,Tryz.func54,by kernel_rfl,by kernel_rfl⟩
theorem LO:Goes Tryz.prog 57:=⟨_,Tryz.func57,by kernel_rfl,by kernel_rfl⟩
theorem KU:Goes Tryz.prog 58:=⟨_,Tryz.func58,by kernel_rfl,by kernel_rfl⟩
theorem GF:Goes Tryz.prog 59:=⟨_,Tryz.func59,by kernel_rfl,by kernel_rfl⟩
theorem GG:Goes Tryz.prog 60:=⟨_,Tryz.func60,by kernel_rfl,by kernel_rfl⟩
theorem Dq:Goes Tryz.prog 61:=⟨_,Tryz.func61,by kernel_rfl,by kernel_rfl⟩
theorem LS:Goes Tryz.prog 62:=⟨_,Tryz.func62,by kernel_rfl,by kernel_rfl⟩
theorem Lx:Goes Tryz.prog 63:=⟨_,Tryz.func63,by kernel_rfl,by kernel_rfl⟩
theorem Gv:Goes Tryz.prog 64:=⟨_,Tryz.func64,by kernel_rfl,by kernel_rfl⟩
theorem G9:Goes Tryz.prog 65:=⟨_,Tryz.func65,by kernel_rfl,by kernel_rfl⟩
theorem CA:Goes Tryz.prog 66:=⟨_,Tryz.func66,by kernel_rfl,by kernel_rfl⟩
theorem F4:Goes Tryz.prog 67:=⟨_,Tryz.func67,by kernel_rfl,by kernel_rfl⟩
theorem A1:Goes Tryz.prog 68:=⟨_,Tryz.func68,by kernel_rfl,by kernel_rfl⟩
theorem Dv:Goes Tryz.prog 69:=⟨_,Tryz.func69,by kernel_rfl,by kernel_rfl⟩
theorem Df:Goes Tryz.prog 70:=⟨_,Tryz.func70,by kernel_rfl,by kernel_rfl⟩
theorem Ho:Goes Tryz.prog 71:=⟨_,Tryz.func71,by kernel_rfl,by kernel_rfl⟩
theorem J8:Goes Tryz.prog 72:=⟨_,Tryz.func72,by kernel_rfl,by kernel_rfl⟩
theorem Kx:Goes Tryz.prog 73:=⟨_,Tryz.func73,by kernel_rfl,by kernel_rfl⟩
theorem Hp:Goes Tryz.prog 74:=⟨_,Tryz.func74,by kernel_rfl,by kernel_rfl⟩
theorem Lw:Goes Tryz.prog 75:=⟨_,Tryz.func75,by kernel_rfl,by kernel_rfl⟩
theorem K8:Goes Tryz.prog 76:=⟨_,Tryz.func76,by kernel_rfl,by kernel_rfl⟩
theorem Kb:Goes Tryz.prog 77:=⟨_,Tryz.func77,by kernel_rfl,by kernel_rfl⟩
theorem K9:Goes Tryz.prog 78:=⟨_,Tryz.func78,by kernel_rfl,by kernel_rfl⟩
theorem wl:Goes Tryz.prog 79:=⟨_,Tryz.func79,by kernel_rfl,by kernel_rfl⟩
theorem Cw:Goes Tryz.prog 80:=⟨_,Tryz.func80,by kernel_rfl,by kernel_rfl⟩
theorem Cu:Goes Tryz.prog 81:=⟨_,Tryz.func81,by kernel_rfl,by kernel_rfl⟩
theorem GX:Goes Tryz.prog 82:=⟨_,Tryz.func82,by kernel_rfl,by kernel_rfl⟩
theorem KL:Goes Tryz.prog 83:=⟨_,Tryz.func83,by kernel_rfl,by kernel_rfl⟩
theorem Lh:Goes Tryz.prog 84:=⟨_,Tryz.func84,by kernel_rfl,by kernel_rfl⟩
theorem Gz:Goes Tryz.prog 85:=⟨_,Tryz.func85,by kernel_rfl,by kernel_rfl⟩
theorem Lv:Goes Tryz.prog 86:=⟨_,Tryz.func86,by kernel_rfl,by kernel_rfl⟩
theorem Ak:Goes Tryz.prog 87:=⟨_,Tryz.func87,by kernel_rfl,by kernel_rfl⟩
theorem Kh:Goes Tryz.prog 88:=⟨_,Tryz.func88,by kernel_rfl,by kernel_rfl⟩
theorem wF:Goes Tryz.prog 89:=⟨_,Tryz.func89,by kernel_rfl,by kernel_rfl⟩
theorem Lk:Goes Tryz.prog 90:=⟨_,Tryz.func90,by kernel_rfl,by kernel_rfl⟩
theorem ld:Goes Tryz.prog 91:=⟨_,Tryz.func91,by kernel_rfl,by kernel_rfl⟩
theorem AX:Goes Tryz.prog 92:=⟨_,Tryz.func92,by kernel_rfl,by kernel_rfl⟩
theorem AT:Goes Tryz.prog 93:=⟨_,Tryz.func93,by kernel_rfl,by kernel_rfl⟩
theorem AO:Goes Tryz.prog 94:=⟨_,Tryz.func94,by kernel_rfl,by kernel_rfl⟩
theorem Lm:Goes Tryz.prog 95:=⟨_,Tryz.func95,by kernel_rfl,by kernel_rfl⟩
theorem Gu:Goes Tryz.prog 96:=⟨_,Tryz.func96,by kernel_rfl,by kernel_rfl⟩
theorem wY:Goes Tryz.prog 97:=⟨_,Tryz.func97,by kernel_rfl,by kernel_rfl⟩
theorem Ex:Goes Tryz.prog 104:=⟨_,Tryz.func104,by kernel_rfl,by kernel_rfl⟩
theorem Ev:Goes Tryz.prog 105:=⟨_,Tryz.func105,by kernel_rfl,by kernel_rfl⟩
theorem Bo:Goes Tryz.prog 106:=⟨_,Tryz.func106,by kernel_rfl,by kernel_rfl⟩
theorem Bb:Goes Tryz.prog 107:=⟨_,Tryz.func107,by kernel_rfl,by kernel_rfl⟩
theorem Ep:Goes Tryz.prog 108:=⟨_,Tryz.func108,by kernel_rfl,by kernel_rfl⟩
theorem Es:Goes Tryz.prog 109:=⟨_,Tryz.func109,by kernel_rfl,by kernel_rfl⟩
theorem Jx:Goes Tryz.prog 110:=⟨_,Tryz.func110,by kernel_rfl,by kernel_rfl⟩
theorem Jz:Goes Tryz.prog 111:=⟨_,Tryz.func111,by kernel_rfl,by kernel_rfl⟩
theorem Jn:Goes Tryz.prog 112:=⟨_,Tryz.func112,by kernel_rfl,by kernel_rfl⟩
theorem xr:Goes Tryz.prog 113:=⟨_,Tryz.func113,by kernel_rfl,by kernel_rfl⟩
theorem ui:Goes Tryz.prog 114:=⟨_,Tryz.func114,by kernel_rfl,by kernel_rfl⟩
theorem I7:Goes Tryz.prog 115:=⟨_,Tryz.func115,by kernel_rfl,by kernel_rfl⟩
theorem JK:Goes Tryz.prog 116:=⟨_,Tryz.func116,by kernel_rfl,by kernel_rfl⟩
theorem Ba:Goes Tryz.prog 117:=⟨_,Tryz.func117,by kernel_rfl,by kernel_rfl⟩
theorem EA:Goes Tryz.prog 118:=⟨_,Tryz.func118,by kernel_rfl,by kernel_rfl⟩
theorem su:Goes Tryz.prog 119:=⟨_,Tryz.func119,by kernel_rfl,by kernel_rfl⟩
theorem J4:Goes Tryz.prog 120:=⟨_,Tryz.func120,by kernel_rfl,by kernel_rfl⟩
theorem JS:Goes Tryz.prog 121:=⟨_,Tryz.func121,by kernel_rfl,by kernel_rfl⟩
theorem xu:Goes Tryz.prog 122:=⟨_,Tryz.func122,by kernel_rfl,by kernel_rfl⟩
theorem EE:Goes Tryz.prog 123:=⟨_,Tryz.func123,by kernel_rfl,by kernel_rfl⟩
theorem J1:Goes Tryz.prog 124:=⟨_,Tryz.func124,by kernel_rfl,by kernel_rfl⟩
theorem IG:Goes Tryz.prog 125:=⟨_,Tryz.func125,by kernel_rfl,by kernel_rfl⟩
theorem Jb:Goes Tryz.prog 126:=⟨_,Tryz.func126,by kernel_rfl,by kernel_rfl⟩
theorem Bp:Goes Tryz.prog 127:=⟨_,Tryz.func127,by kernel_rfl,by kernel_rfl⟩
theorem Ed:Goes Tryz.prog 128:=⟨_,Tryz.func128,by kernel_rfl,by kernel_rfl⟩
theorem J5:Goes Tryz.prog 129:=⟨_,Tryz.func129,by kernel_rfl,by kernel_rfl⟩
theorem JG:Goes Tryz.prog 130:=⟨_,Tryz.func130,by kernel_rfl,by kernel_rfl⟩
theorem EK:Goes Tryz.prog 131:=⟨_,Tryz.func131,by kernel_rfl,by kernel_rfl⟩
theorem xy:Goes Tryz.prog 132:=⟨_,Tryz.func132,by kernel_rfl,by kernel_rfl⟩
theorem xD:Goes Tryz.prog 133:=⟨_,Tryz.func133,by kernel_rfl,by kernel_rfl⟩
theorem JI:Goes Tryz.prog 134:=⟨_,Tryz.func134,by kernel_rfl,by kernel_rfl⟩
theorem uJ:Goes Tryz.prog 135:=⟨_,Tryz.func135,by kernel_rfl,by kernel_rfl⟩
theorem sk:Goes Tryz.prog 142:=⟨_,Tryz.func142,by kernel_rfl,by kernel_rfl⟩
theorem D7:Goes Tryz.prog 143:=⟨_,Tryz.func143,by kernel_rfl,by kernel_rfl⟩
theorem I1:Goes Tryz.prog 144:=⟨_,Tryz.func144,by kernel_rfl,by kernel_rfl⟩
theorem uf:Goes Tryz.prog 145:=⟨_,Tryz.func145,by kernel_rfl,by kernel_rfl⟩
theorem IM:Goes Tryz.prog 146:=⟨_,Tryz.func146,by kernel_rfl,by kernel_rfl⟩
theorem JR:Goes Tryz.prog 147:=⟨_,Tryz.func147,by kernel_rfl,by kernel_rfl⟩
theorem EQ:Goes Tryz.prog 148:=⟨_,Tryz.func148,by kernel_rfl,by kernel_rfl⟩
theorem Ey:Goes Tryz.prog 149:=⟨_,Tryz.func149,by kernel_rfl,by kernel_rfl⟩
theorem Jj:Goes Tryz.prog 150:=⟨_,Tryz.func150,by kernel_rfl,by kernel_rfl⟩
theorem D9:Goes Tryz.prog 151:=⟨_,Tryz.func151,by kernel_rfl,by kernel_rfl⟩
theorem xo:Goes Tryz.prog 152:=⟨_,Tryz.func152,by kernel_rfl,by kernel_rfl⟩
theorem JT:Goes Tryz.prog 153:=⟨_,Tryz.func153,by kernel_rfl,by kernel_rfl⟩
theorem xz:Goes Tryz.prog 154:=⟨_,Tryz.func154,by kernel_rfl,by kernel_rfl⟩
theorem Eg:Goes Tryz.prog 155:=⟨_,Tryz.func155,by kernel_rfl,by kernel_rfl⟩
theorem IH:Goes Tryz.prog 156:=⟨_,Tryz.func156,by kernel_rfl,by kernel_rfl⟩
theorem EH:Goes Tryz.prog 160:=⟨_,Tryz.func160,by kernel_rfl,by kernel_rfl⟩
theorem Bl:Goes Tryz.prog 161:=⟨_,Tryz.func161,by kernel_rfl,by kernel_rfl⟩
theorem E5:Goes Tryz.prog 162:=⟨_,Tryz.func162,by kernel_rfl,by kernel_rfl⟩
theorem Bm:Goes Tryz.prog 163:=⟨_,Tryz.func163,by kernel_rfl,by kernel_rfl⟩
theorem I9:Goes Tryz.prog 164:=⟨_,Tryz.func164,by kernel_rfl,by kernel_rfl⟩
theorem IR:Goes Tryz.prog 165:=⟨_,Tryz.func165,by kernel_rfl,by kernel_rfl⟩
theorem Ek:Goes Tryz.prog 166:=⟨_,Tryz.func166,by kernel_rfl,by kernel_rfl⟩
theorem Br:Goes Tryz.prog 167:=⟨_,Tryz.func167,by kernel_rfl,by kernel_rfl⟩
theorem E8:Goes Tryz.prog 169:=⟨_,Tryz.func169,by kernel_rfl,by kernel_rfl⟩
section
open Go.RowKit Go.ChangeShapes Go.WideShapes Go.ChangeAt
def Ck {α:Type} (P:Program) (R:Rep α) (T:TypeId):Prop :=
 ∀ {H:Type} (enc:TypeId × Value->H) (w:World) (base:Nat) (spare:Nat->Bool) (held:Bool) (yO:Nat) (cs:List Value) (x:DataW H × List MemPlace),DataW.trod enc P w base spare held yO T cs=some x->∃ y,R.rd w cs y

theorem DR {α:Type} {P:Program} {R:Rep α} {T e E:TypeId} (ht:P.underlying T=some (.slice e)) (hs:P.cellsOf e=R.sz) (hpos:0<R.sz) (ho:Ck P R e):Ck P (aH R E) T:=by
 intro H enc w base spare held yO cs x h
 rcases DataW.trod_slice ht h with ⟨rfl,_⟩ | ⟨a,len,cap,elems,rst,n,_,rfl,_,hb,hlc,hm,hel,hev,_⟩
 ·exact ⟨[],none,0,[],rfl,bN _,cE _,fun _=>rfl,rfl,.inl rfl⟩
 ·have hone:∀ i,i<len->∃ ec y,R.rd w ec y/\∀ j c,ec[j]? = some c->w.cell? (a.add (i*R.sz) |>.add j)=some c:=by
   intro i hi
   have h1:=hev i hi
   rw [qY oa,hs] at h1
   obtain ⟨ec,h2,h3⟩:=Option.bind_eq_some_iff.1 h1
   obtain ⟨y,hy⟩:=ho enc w base spare held n ec _ h3
   obtain ⟨_,h4,h5⟩:=World.cells?_some h2
   exact ⟨ec,y,hy,fun j c hj=>by rw [h5 j (by have:=(AB.1 hj).1;omega)];exact hj⟩
  by_cases hl0:len=0
  ·subst hl0
   exact ⟨[],some a,cap,[],rfl,hlc,hm,by simp,rfl,.inl rfl⟩
  obtain ⟨b,off,spot⟩:=a
  have hspot:spot=none:=by
   obtain ⟨ec,y,hy,hc⟩:=hone 0 oa
   have hl:=R.rd_len hy
   have h0:=hc 0 ec[0] (by simp)
   simp only [uc,Addr.add,if_true] at h0
   cases spot with
   | none=>rfl
   | some s =>
    unfold World.cell? at h0
    split at h0 <;> simp at h0
  subst hspot
  have hall:∀ k,k<=len->∃ ys ccs,ys.length=k/\rdL R w ccs ys/\∀ j c,ccs[j]? = some c->w.cell? ⟨b,off+j,none⟩=some c:=by
   intro k
   induction k with
   | zero=>intro _;exact ⟨[],[],rfl,rfl,by simp⟩
   | succ k ih =>
    intro hk
    obtain ⟨ys,ccs,h1,h2,h3⟩:=ih oa
    obtain ⟨ec,y,hy,hc⟩:=hone k oa
    refine ⟨ys++[y],ccs++ec,by simp [h1],AE (ys:=[y]) ⟨ec,[],by simp,hy,rfl⟩ h2,fun j c hj=>?_⟩
    have hcl:=j6 h2
    by_cases hj1:j<ccs.length
    ·rw [uQ hj1] at hj;exact h3 j c hj
    ·rw [Am oa] at hj
     have:=hc (j-ccs.length) c hj
     rw [jM,jM] at this
     rw [show off+j=off+k*R.sz+(j-ccs.length) by rw [hcl,h1] at *;omega]
     exact this
  obtain ⟨ys,ccs,h1,h2,h3⟩:=hall len (bN _)
  exact ⟨ys,some ⟨b,off,none⟩,cap,ccs,by rw [h1],oa,hm,by simp,h2,.inr ⟨b,off,rfl,h3⟩⟩
def CI (n:Int):Prop:=0<=n/\n<=255
def u8F:Rep Int where
 sz:=1
 rd _ cs n:=cs=[.int .u8 n]/\CI n
 own _ cs n fp:=(cs=[.int .u8 n]/\CI n)/\fp=[]
 rd_len h:=by rw [h.1];rfl
 rd_one h:=by rw [h.1];simp [Value.oneCell']
 rd_ext h _:=h
 own_rd h:=h.1
 own_ext h _:=h
 own_lt h:=by rw [h.2];simp
theorem wf8 {n:Int} (h:(Lit.int .u8 n).wf=true):CI n:=by
 unfold Lit.wf at h
 simp only [bU,dN] at h
 exact ⟨h.1,h.2⟩
theorem F7 {P:Program} {T:TypeId} (ht:P.underlying T=some (.int .u8)):Ck P u8F T:=by
 intro H enc w base spare held yO cs x h
 obtain ⟨n,rfl,_,hw⟩:=DataW.trod_int ht h
 exact ⟨n,rfl,wf8 hw⟩
theorem FT {w:World}:∀ {xs:yQ} {ccs:List Value},rdL u8F w ccs xs->rdL u8R w ccs xs/\∀ v∈xs,CI v
 | [],_,h=>⟨h,by simp⟩
 | x :: xs,_,h=>by
  obtain ⟨ec,rest,rfl,h1,h2⟩:=h
  obtain ⟨g1,g2⟩:=FT h2
  refine ⟨⟨ec,rest,rfl,h1.1,g1⟩,fun v hv=>?_⟩
  rcases cZ.1 hv with rfl | hv
  ·exact h1.2
  ·exact g2 v hv
theorem H6 {E:TypeId} {w:World} {cs:List Value} {xs:yQ} (h:(aH u8F E).rd w cs xs):(aH u8R E).rd w cs xs/\∀ v∈xs,CI v:=by
 obtain ⟨ao,cap,ccs,rfl,h1,h2,h3,h4,h5⟩:=h
 obtain ⟨g1,g2⟩:=FT h4
 exact ⟨⟨ao,cap,ccs,rfl,h1,h2,h3,g1,h5⟩,g2⟩
end
theorem bs {α β:Type} (a:α) (f:α->Option β):(some a).bind f=f a:=rfl
theorem be {α:Type} {xs:List α} {i:Nat} (h:i<xs.length):ix xs (i:Int)=some xs[i]:=by
 unfold ix;rw [aX oa];simp [h]
theorem nG {α:Type} {xs:List α} {i:Int} (h0:0<=i) (h:i<xs.length):ix xs i=some (xs[i.toNat]'oa):=by
 unfold ix;rw [aX h0];simp
theorem pQ {n:Int} (h:-4611686018427387904<=n) (h2:n<=4611686018427387904):rng n=true:=by
 unfold rng;simp only [bU,dN];omega
theorem ce {a b:Int} (h:-4611686018427387904<=a+b) (h2:a+b<=4611686018427387904):ad a b=some (a+b):=by unfold ad;rw [aX (pQ h h2)]
theorem eu {a b:Int} (h:-4611686018427387904<=a-b) (h2:a-b<=4611686018427387904):sb a b=some (a-b):=by unfold sb;rw [aX (pQ h h2)]
theorem eh {a b:Int} (h:-4611686018427387904<=a*b) (h2:a*b<=4611686018427387904):ml a b=some (a*b):=by unfold ml;rw [aX (pQ h h2)]
theorem ad1 {i:Nat} (h:i<1099511627776):ad (i:Int) 1=some ((i+1:Nat):Int):=by rw [ce oa oa];simp
theorem dlt {i n:Nat} (h:i<n):decide ((i:Int)<(n:Int))=true:=by simp;omega
theorem dge {i n:Nat} (h:¬ i<n):decide ((i:Int)<(n:Int))=false:=by simp;omega
theorem lS {α:Type} {xs:List α} {i:Nat} {y:α} (h:i<xs.length):sto xs (i:Int) y=some (xs.set i y):=by
 unfold sto;rw [aX ⟨oa,by simpa using h⟩];simp
theorem Lb {α:Type} {b:Nat} {xs ys:List α} (h:(xs.length+ys.length)*b<=140737488355328):apd b xs ys=some (xs++ys):=by unfold apd;rw [aX h]
theorem bA {α:Type} {b:Nat} {xs ys:List α} (hb:b<=64) (h:xs.length+ys.length<=2199023255552):apd b xs ys=some (xs++ys):=by
 refine Lb (Nat.le_trans (l9 h hb) oa)
theorem xB {α:Type} {b:Nat} {z:α} {n:Nat} (hb:b<=64) (h:n<=2199023255552):mk b z (n:Int)=some (List.replicate n z):=by
 unfold mk;rw [aX ⟨oa,by simpa using Nat.le_trans (l9 h hb) oa,by simp;omega⟩];simp
theorem lc {α:Type} {xs:List α} {lo hi:Nat} (h1:lo<=hi) (h2:hi<=xs.length):slc xs (lo:Int) (hi:Int)=some ((xs.take hi).drop lo):=by
 unfold slc;rw [aX ⟨oa,oa,oa⟩];simp

theorem mw {R V:Type} (L:Nat->Int->Option (Sum R V)) (n:Nat) (hn:n<1099511627776) (b:R) (p:Nat->Bool) (v:V)
  (hstep:∀ k i,i<n->L (k+1) (i:Int)=bif p i then L k ((i+1:Nat):Int) else some (.inl b))
  (hend:∀ k,L (k+1) (n:Int)=some (.inr v)) :
  ∀ k i,i<=n->n-i<k->L k (i:Int)=some (bif (List.range' i (n-i)).all p then .inr v else .inl b):=by
 intro k
 induction k with
 | zero=>intro i hi hk;omega
 | succ k ih =>
  intro i hi hk
  by_cases h:i<n
  ·rw [hstep k i h,show n-i=(n-(i+1))+1 by omega,wv,uj]
   cases hp:p i with
   | true=>rw [ag,cW];exact ih (i+1) oa oa
   | false=>rfl
  ·obtain rfl:i=n:=by omega
   rw [hend k,Nat.sub_self];rfl
theorem mb {α:Type} (xs:List α) (p:α->Bool) (q:Nat->Bool) (h:∀ i (hi:i<xs.length),q i=p xs[i]):(List.range' 0 xs.length).all q=xs.all p:=by
 rw [Bool.eq_iff_iff,dL,dL]
 constructor
 ·intro hq x hx
  obtain ⟨i,hi,rfl⟩:=gR hx
  rw [<- h i hi];exact hq i (by simp;omega)
 ·intro hp i hi
  have hi':i<xs.length:=by simpa using hi
  rw [h i hi'];exact hp _ (bF hi')
section
variable {α:Type}
def td (p:α->Prop) (m:Nat) (xs:List α):Prop:=xs.length<=m/\∀ x∈xs,p x

end
theorem Hu (x y:Int):(x != y)=!decide (x=y):=by by_cases h:x=y <;> simp [h]
theorem Fj (x y:Int):(x == y)=decide (x=y):=by by_cases h:x=y <;> simp [h]
theorem Ez (s r:ByteArray):eqS s r=decide (s=r):=by
 unfold eqS
 rw [Bool.eq_iff_iff,decide_eq_true_iff]
 constructor
 ·intro h
  have h1:s.toList=r.toList:=by simpa using h
  rw [ByteArray.toList_eq,ByteArray.toList_eq] at h1
  cases s;cases r;simp_all
 ·rintro rfl;simp
section
open Go.RowKit Go.ChangeShapes Go.WideShapes Go.ChangeAt
theorem HU:ownKnob Tryz.prog.godebug=none:=by kernel_rfl
theorem Im:laidOutB Tryz.prog=true:=by kernel_rfl
theorem F5 {α:Type} {R:Rep α} {E:TypeId} {p:α->Prop} (h:∀ {w:World} {cs:List Value} {x:α},R.rd w cs x->p x) {w:World} {cs:List Value} {xs:List α} (hr:(aH R E).rd w cs xs):td p 9223372036854775807 xs:=by
 obtain ⟨ao,cap,ccs,rfl,h1,h2,h3,h4,h5⟩:=hr
 refine ⟨by unfold maxLen at h2;omega,fun x hx=>?_⟩
 obtain ⟨j,hj,rfl⟩:=gR hx
 obtain ⟨ec,h6,_⟩:=sA h4 j hj
 exact h h6
theorem H4:Ck Tryz.prog (aH u8F 5) 22:=DR Tryz.underlying22 (by kernel_rfl) (by decide) (F7 Tryz.underlying5)
theorem Mf {w:World} {cs:List Value} {x:yQ} (h:((aH u8R 5)).rd w cs x):(td (fun _=>True) 9223372036854775807) x:=F5 (fun _=>trivial) h
end
theorem Sat.zP {w0 w:World} {A B C:Asn} {Γ:List Asn} (h:Sat w0 w (A :: Γ)) (k:∀ f,A.holds w f->∃ p q,(p++q).Perm f/\B.holds w p/\C.holds w q):Sat w0 w (B :: C :: Γ):=by
 obtain ⟨hb,_,⟨f1,f2,rfl,h1,h2⟩,hn,h3⟩:=h
 obtain ⟨p,q,hp,k1,k2⟩:=k f1 h1
 have hpp:(p++(q++f2)).Perm (f1++f2):=by rw [<- gT];exact uF _ hp
 exact ⟨hb,p++(q++f2),⟨p,q++f2,rfl,k1,q,f2,rfl,k2,h2⟩,hpp.nodup_iff.2 hn,fun b hb'=>h3 b (hpp.mem_iff.1 hb')⟩
theorem Sat.yF {w0 w:World} {A B C:Asn} {Γ:List Asn} (h:Sat w0 w (A :: B :: Γ)) (k:∀ f g,A.holds w f->B.holds w g->∃ p,p.Perm (f++g)/\C.holds w p):Sat w0 w (C :: Γ):=by
 obtain ⟨hb,_,⟨f1,_,rfl,h1,f2,f3,rfl,h2,h4⟩,hn,h3⟩:=h
 obtain ⟨p,hp,k1⟩:=k f1 f2 h1 h2
 have hpp:(p++f3).Perm (f1++(f2++f3)):=by rw [<- gT];exact uF _ hp
 exact ⟨hb,p++f3,⟨p,f3,rfl,k1,h4⟩,hpp.nodup_iff.2 hn,fun b hb'=>h3 b (hpp.mem_iff.1 hb')⟩
section
variable {α β:Type} {R:Rep α} {S:Rep β} {w0 w:World} {Γ:List Asn} {E:TypeId} {v:Value}
def HN (R:Rep α) (E:TypeId) (v:Value) (xs:List α) (i:Nat) (ec:List Value):Asn where
 holds w fp:=(∀ b∈fp,b<w.heap.size)/\∀ w' y f',(∀ b∈fp,w'.heap[b]? = w.heap[b]?)->R.own w' ec y f'->∃ p,p.Perm (f'++fp)/\(aH R E).own w' [v] (xs.set i y) p
 ext h he:=by
  refine ⟨fun b hb=>?_,fun w'' y f' he' ho=>h.2 w'' y f' (fun b hb=>(he' b hb).trans (he b hb)) ho⟩
  have h1:=h.1 b hb
  have h2:=he b hb
  rw [nK h1] at h2
  exact (j0.1 h2).1
 lt h:=h.1
theorem ux {w:World}:∀ {xs:List α} {ccs:List Value} {f:List Nat},fW R w ccs xs f->∀ (k:Nat) (hk:k<xs.length),
  ∃ ec f1 f2 f3,R.own w ec xs[k] f2/\f=f1++(f2++f3)/\(∀ j c,ec[j]? = some c->ccs[k*R.sz+j]? = some c) /\
   ∀ w' y f',(∀ b∈f1++f3,w'.heap[b]? = w.heap[b]?)->R.own w' ec y f'->fW R w' ccs (xs.set k y) (f1++(f'++f3))
 | [],_,_,_,k,hk=>absurd hk (by simp)
 | x :: xs,_,_,h,k,hk=>by
  obtain ⟨ec,rest,f1,f2,rfl,rfl,h1,h2⟩:=h
  cases k with
  | zero =>
   refine ⟨ec,[],f1,f2,h1,rfl,fun j c hj=>?_,fun w' y f' he ho=>?_⟩
   ·have hlt:j<ec.length:=(AB.1 hj).1
    rw [uc,e9,uQ hlt];exact hj
   ·exact ⟨ec,rest,f',f2,rfl,rfl,ho,hQ h2 fun b hb=>he b (by simpa using hb)⟩
  | succ k =>
   obtain ⟨ec',g1,g2,g3,k1,rfl,k3,k4⟩:=ux h2 k (by simpa using hk)
   refine ⟨ec',f1++g1,g2,g3,by simpa using k1,by simp,fun j c hj=>?_,fun w' y f' he ho=>?_⟩
   ·have e:(k+1)*R.sz+j=ec.length+(k*R.sz+j):=by rw [R.rd_len (R.own_rd h1),lY];omega
    rw [e,Am oa,oz]
    exact k3 j c hj
   ·refine ⟨ec,rest,f1,g1++(f'++g3),rfl,by simp,R.own_ext h1 fun b hb=>he b (by simp [hb]),k4 w' y f' (fun b hb=>he b ?_) ho⟩
    rcases dj.1 hb with h | h
    ·simp [h]
    ·simp [h]
theorem Sat.yI {c d:List Value} {x:α × β} (hS:Sat w0 w (Own (rN R S) (c++d) x :: Γ)) (hc:c.length=R.sz):Sat w0 w (Own R c x.1 :: Own S d x.2 :: Γ):=by
 refine hS.zP fun f hf=>?_
 obtain ⟨c1,c2,f1,f2,hcs,rfl,h1,h2⟩:=hf
 have hl:=R.rd_len (R.own_rd h1)
 obtain ⟨rfl,rfl⟩:=List.append_inj hcs oa
 exact ⟨f1,f2,.refl _,h1,h2⟩
end
theorem Sat.zY {a b w:World} {Γ:List Asn} (h:Sat b w Γ) (hx:Ext a b):Sat a w Γ:=by
 obtain ⟨hb,fp,h1,h2,h3⟩:=h
 exact ⟨Ext.trans hx hb,fp,h1,h2,fun x hx'=>Nat.le_trans hx.size (h3 x hx')⟩
theorem Sat.drop {w0 w:World} {Γ Δ:List Asn} (h:Sat w0 w (Γ++Δ)):Sat w0 w Δ:=by
 induction Γ with
 | nil=>simpa using h
 | cons A Γ ih=>exact ih h.tail
def roR {α:Type} (W:World) (R:Rep α):Rep α where
 sz:=R.sz
 rd _ cs x:=R.rd W cs x
 own _ cs x fp:=R.rd W cs x/\fp=[]
 rd_len h:=R.rd_len h
 rd_one h:=R.rd_one h
 rd_ext h _:=h
 own_rd h:=h.1
 own_ext h _:=h
 own_lt h:=by rw [h.2];simp
section
variable {α:Type} {R:Rep α} {W w w0 w':World} {E:TypeId} {Γ:List Asn} {v:Value} {xs:List α}
theorem Gk (hx:Ext W w):∀ {xs:List α} {ccs:List Value},rdL (roR W R) w ccs xs->rdL R w ccs xs
 | [],_,h=>h
 | x :: xs,_,h=>by
  obtain ⟨ec,rest,rfl,h1,h2⟩:=h
  exact ⟨ec,rest,rfl,R.rd_ext h1 hx,Gk hx h2⟩
theorem FD {cs:List Value} (hx:Ext W w) (h:(aH (roR W R) E).rd w cs xs):(aH R E).rd w cs xs:=by
 obtain ⟨ao,cap,ccs,h1,h2,h3,h4,h5,h6⟩:=h
 exact ⟨ao,cap,ccs,h1,h2,h3,h4,Gk hx h5,h6⟩
theorem Sat.zG {cs:List Value} {x:α} (hS:Sat w0 w Γ) (h:R.rd W cs x):Sat w0 w (Own (roR W R) cs x :: Γ):=hS.add ⟨h,rfl⟩
theorem E0 {w2:World}:∀ {xs:List α} {ccs:List Value},rdL (roR W R) w ccs xs->fW (roR W R) w2 ccs xs []
 | [],_,h=>⟨h,rfl⟩
 | x :: xs,_,h=>by
  obtain ⟨ec,rest,rfl,h1,h2⟩:=h
  exact ⟨ec,rest,[],[],rfl,rfl,⟨h1,rfl⟩,E0 h2⟩
theorem rl (h:(aH (roR W R) E).rd w [v] xs):∃ ao c ccs,v=.slice ao xs.length c/\(ao=none->c=0)/\rT w ao ccs/\rdL (roR W R) w ccs xs:=by
 obtain ⟨ao,cap,ccs,hv,h1,h2,h3,h4,h5⟩:=h
 exact ⟨ao,cap,ccs,by simpa using hv,h3,h5,h4⟩
theorem Sat.yE {ccs:List Value} {w2:World} (hS:Sat w0 w Γ) (h:rdL (roR W R) w2 ccs xs):Sat w0 w (tW (roR W R) ccs xs :: Γ):=hS.add (E0 h)
def Ha (w:World) (E:TypeId) (ao:Option Addr) (ccs:List Value) (fp f2:List Nat):Prop :=
 (ccs=[]/\fp=f2)\/∃ g off cur,ao=some ⟨g,off,none⟩/\w.heap[g]? = some (.cells cur E (0,0))/\(∀ j c,ccs[j]? = some c->cur[off+j]? = some c)/\fp=g :: f2
def vL {α:Type} (R:Rep α) (E:TypeId):Rep (List α) where
 sz:=1
 rd w cs xs:=(aH R E).rd w cs xs
 own w cs xs fp:=∃ ao cap ccs f2,cs=[.slice ao xs.length cap]/\xs.length<=cap/\cap<=maxLen/\(ao=none->cap=0)/\fW R w ccs xs f2/\Ha w E ao ccs fp f2
 rd_len h:=(aH R E).rd_len h
 rd_one h:=(aH R E).rd_one h
 rd_ext h he:=(aH R E).rd_ext h he
 own_rd h:=by
  obtain ⟨ao,cap,ccs,f2,rfl,h1,h2,h3,h4,h5⟩:=h
  refine ⟨ao,cap,ccs,rfl,h1,h2,h3,jb h4,?_⟩
  rcases h5 with ⟨rfl,_⟩ | ⟨g,off,cur,rfl,hg,hc,_⟩
  ·exact .inl rfl
  ·refine .inr ⟨g,off,rfl,fun j c hj=>?_⟩
   rw [nf _ g _ cur E (0,0) hg];exact hc j c hj
 own_ext h he:=by
  obtain ⟨ao,cap,ccs,f2,rfl,h1,h2,h3,h4,h5⟩:=h
  rcases h5 with ⟨hc,rfl⟩ | ⟨g,off,cur,rfl,hg,hc,rfl⟩
  ·exact ⟨ao,cap,ccs,_,rfl,h1,h2,h3,hQ h4 he,.inl ⟨hc,rfl⟩⟩
  ·exact ⟨_,cap,ccs,f2,rfl,h1,h2,h3,hQ h4 (fun b hb=>he b (by simp [hb])),.inr ⟨g,off,cur,rfl,by rw [he g (by simp)];exact hg,hc,rfl⟩⟩
 own_lt h:=by
  obtain ⟨ao,cap,ccs,f2,rfl,h1,h2,h3,h4,h5⟩:=h
  rcases h5 with ⟨hc,rfl⟩ | ⟨g,off,cur,rfl,hg,hc,rfl⟩
  ·exact iE h4
  ·intro b hb
   rcases cZ.1 hb with rfl | hb
   ·exact (j0.1 hg).1
   ·exact iE h4 b hb
theorem Sat.yB (hS:Sat w0 w (Own (aH R E) [v] xs :: Γ)):Sat w0 w (Own (vL R E) [v] xs :: Γ):=by
 refine hS.conv fun f hf=>?_
 rcases hf with ⟨hv,rfl,rfl⟩ | ⟨g,cap,cur,ccs,f2,hv,hg,h1,h2,h3,h4,h5,rfl⟩
 ·exact ⟨none,0,[],[],hv,bN _,cE _,fun _=>rfl,⟨rfl,rfl⟩,.inl ⟨rfl,rfl⟩⟩
 ·refine ⟨_,cap,ccs,f2,hv,h1,h2,by simp,h5,.inr ⟨g,0,cur,rfl,hg,fun j c hj=>?_,rfl⟩⟩
  rw [e9,<- pG]
  rw [<- h4,lm] at hj
  split at hj
  ·exact hj
  ·cases hj
def yo (R:Rep α) (E:TypeId) (v:Value) (xs:List α):Asn where
 holds w fp:=∃ ao cap ec rest f2,v=.slice ao xs.length cap/\xs.length<=cap/\cap<=maxLen/\(ao=none->cap=0)/\ec.length=R.sz/\fW R w rest xs.tail f2/\Ha w E ao (ec++rest) fp f2
 ext h he:=by
  obtain ⟨ao,cap,ec,rest,f2,rfl,h1,h2,h3,hl,h4,h5⟩:=h
  rcases h5 with ⟨hc,rfl⟩ | ⟨g,off,cur,rfl,hg,hc,rfl⟩
  ·exact ⟨ao,cap,ec,rest,_,rfl,h1,h2,h3,hl,hQ h4 he,.inl ⟨hc,rfl⟩⟩
  ·exact ⟨_,cap,ec,rest,f2,rfl,h1,h2,h3,hl,hQ h4 (fun b hb=>he b (by simp [hb])),.inr ⟨g,off,cur,rfl,by rw [he g (by simp)];exact hg,hc,rfl⟩⟩
 lt h:=by
  obtain ⟨ao,cap,ec,rest,f2,rfl,h1,h2,h3,hl,h4,h5⟩:=h
  rcases h5 with ⟨hc,rfl⟩ | ⟨g,off,cur,rfl,hg,hc,rfl⟩
  ·exact iE h4
  ·intro b hb
   rcases cZ.1 hb with rfl | hb
   ·exact (j0.1 hg).1
   ·exact iE h4 b hb
theorem Sat.zI {u:α} {ec:List Value} {m b off:Nat} (hS:Sat w0 w (Own (vL R E) [v] xs :: Γ)) (h:ix xs 0=some u) (hn:R.sz=m) (hpos:0<m) (hl:ec.length=m)
  (hv:∃ ln cap,v=.slice (some ⟨b,off,none⟩) ln cap) (hm:∀ j c,ec[j]? = some c->w.cell? ⟨b,off+j,none⟩=some c):Sat w0 w (Own R ec u :: yo R E v xs :: Γ):=by
 subst hn
 refine hS.zP fun f hf=>?_
 obtain ⟨ao,cap,ccs,f2,hcs,h1,h2,h3,h4,h5⟩:=hf
 cases xs with
 | nil=>simp [ix] at h
 | cons x xs =>
  obtain rfl:x=u:=by simpa [ix] using h
  obtain ⟨ec',rest,g1,g2,rfl,rfl,k1,k2⟩:=h4
  have hl':=R.rd_len (R.own_rd k1)
  obtain ⟨ln,cap',rfl⟩:=hv
  simp only [List.cons.injEq,and_true,Value.slice.injEq] at hcs
  obtain ⟨rfl,rfl,rfl⟩:=hcs
  rcases h5 with ⟨hc,rfl⟩ | ⟨g,off',cur,hao,hg,hc,rfl⟩
  ·rw [List.append_eq_nil_iff] at hc;rw [hc.1] at hl';simp at hl';omega
  ·simp only [pE,Addr.mk.injEq,and_true] at hao
   obtain ⟨rfl,rfl⟩:=hao
   have hec:ec=ec':=by
    refine sM oa fun j hj1 hj2=>?_
    have e1:=hm j ec[j] (qY hj1)
    have e2:=hc j ec'[j] (by rw [uQ hj2];exact qY hj2)
    rw [nf w b _ cur E (0,0) hg,e2] at e1
    exact (c8 e1).symm
   subst hec
   exact ⟨g1,b :: g2,List.perm_middle,k1,_,_,ec,rest,g2,rfl,h1,h2,h3,hl,k2,.inr ⟨b,off,cur,rfl,hg,hc,rfl⟩⟩
theorem Sat.zJ (hS:Sat w0 w (Own (vL R E) [v] xs :: Γ)) (h:0<xs.length):Sat w0 w (yo R E v xs :: Γ):=by
 obtain ⟨ao,hao⟩:∃ A,A=Asn.mk (fun w fp=>True/\∀ b∈fp,b<w.heap.size) (fun h he=>⟨trivial,fun b hb=>by
  have h1:=h.2 b hb
  have h2:=he b hb
  rw [nK h1] at h2
  exact (j0.1 h2).1⟩) (fun h=>h.2):=⟨_,rfl⟩
 refine Sat.tail (A:=ao) ?_
 refine hS.zP fun f hf=>?_
 obtain ⟨ao',cap,ccs,f2,hcs,h1,h2,h3,h4,h5⟩:=hf
 cases xs with
 | nil=>simp at h
 | cons x xs =>
  obtain ⟨ec',rest,g1,g2,rfl,rfl,k1,k2⟩:=h4
  have hl':=R.rd_len (R.own_rd k1)
  have hv:v=.slice ao' (x :: xs).length cap:=by simpa using hcs
  subst hao
  rcases h5 with ⟨hc,rfl⟩ | ⟨g,off',cur,hao,hg,hc,rfl⟩
  ·exact ⟨g1,g2,.refl _,⟨trivial,R.own_lt k1⟩,ao',cap,ec',rest,g2,hv,h1,h2,h3,hl',k2,.inl ⟨hc,rfl⟩⟩
  ·exact ⟨g1,g :: g2,List.perm_middle,⟨trivial,R.own_lt k1⟩,ao',cap,ec',rest,g2,hv,h1,h2,h3,hl',k2,.inr ⟨g,off',cur,hao,hg,hc,rfl⟩⟩
end
section
variable {P:Program} {n:Nat} {ops:Array Oper} {K:Env->World->Prop} {rest:List Oper} {e:Env} {w w0:World} {v:Value} {d:Nat} {ty:TypeId} {pos:String} {af:Array Edge} {Γ:List Asn} {x y:Operand} {α:Type} {R:Rep α} {E:TypeId}
theorem fN {t:TypeId} {lo:Operand} [ht:SliceT P t E] {z:List Value} {m yP:Nat} [hz:ElemT P E z m yP] (hn:R.sz=m) (hpos:0<m) {xs ys:List α} (hS:Sat w0 w (yo R E v xs :: Γ)) (hx:ev e x=v) (hlo:ev e lo=.int .i64 1) (hq:slc xs 1 (xs.length:Int)=some ys) (hd:d<n)
  (hK:∀ v',Sat w0 w (Own (vL R E) [v'] ys :: Γ)->EL P n ops K rest (upd e d v') w):EL P n ops K (⟨some d,.slice t x (some lo) none none,ty,pos,af,none⟩ :: rest) e w:=by
 have hlen:1<=xs.length/\ys=xs.tail:=by
  unfold slc at hq
  split at hq
  ·rename_i h0
   refine ⟨oa,?_⟩
   have:=c8 hq
   rw [<- this];simp
  ·cases hq
 obtain ⟨hl1,rfl⟩:=hlen
 obtain ⟨fp,⟨ao,cap,ec,rs,f2,rfl,h1,h2,h3,hl,h4,h5⟩,_⟩:=hS.head
 have hz:=hz.h
 cases hq':P.info? E with
 | none=>simp [hq'] at hz
 | some inf =>
  simp [hq'] at hz
  have hsz:inf.size=R.sz:=by rw [hn];exact hz.2.1
  refine qJ (v:=.slice (if cap=1 then ao else ao.map (·.add (1*inf.size))) (xs.length-1) (cap-1)) ?_ hd (hK _ ?_)
  ·intro w' _
   have hb:(Instr.sliceBounds true xs.length cap (some (.int .i64 1)) none none).run P w'=.ok (1,xs.length,cap) w':=by
    have h9:xs.length<=cap:=h1
    simp [Instr.sliceBounds,Instr.sliceBound,asIntOf,h9,hl1]
    intro h;omega
   unfold execOp
   simp only [hx,Instr.sliceAt,dE,gb ht.h,d8,Instr.slice,Option.map_some,hlo,Option.map_none,hb,sizeOf,typeInfo,hq',mF,fG]
  ·refine hS.conv fun f hf=>?_
   obtain ⟨ao',cap',ec',rs',f2',hv,k1,k2,k3,kl,k4,k5⟩:=hf
   simp only [Value.slice.injEq] at hv
   obtain ⟨rfl,_,rfl⟩:=hv
   have hrl:=j6 (jb k4)
   refine ⟨(if cap=1 then ao else ao.map (·.add (1*inf.size))),cap-1,rs',f2',by simp,by simp;omega,oa,?_,k4,?_⟩
   ·intro e0
    split at e0
    ·omega
    ·cases ao with
     | none=>have:=k3 rfl;omega
     | some _=>simp at e0
   ·rcases k5 with ⟨hc,rfl⟩ | ⟨g,off,cur,rfl,hg,hc,rfl⟩
    ·rw [List.append_eq_nil_iff] at hc
     exact .inl ⟨hc.2,rfl⟩
    ·by_cases hc1:cap=1
     ·
      have:xs.tail=[]:=by apply Ad;simp;omega
      rw [aX hc1]
      have hr0:rs'=[]:=by apply Ad;rw [hrl,this];simp
      subst hr0
      exact .inr ⟨g,off,cur,rfl,hg,by simp,rfl⟩
     ·rw [a9 hc1]
      refine .inr ⟨g,off+inf.size,cur,by simp [jM],hg,fun j c hj=>?_,rfl⟩
      rw [hsz,<- kl,sK]
      exact hc _ c (by rw [Am oa,oz];exact hj)
theorem jA {t:TypeId} [ht:SliceT P t E] {zz:List Value} {m yP:Nat} [hz:ElemT P E zz m yP] {xs:List α} (hS:Sat w0 w (Own (vL R E) [v] xs :: Γ)) (hs:ev e x=v)
  (hn:R.sz=m) (hpos:0<m) {k:IntKind} (hi:ev e y=.int k 0) {u:α} (h:ix xs 0=some u) (hd:d<n)
  (hK:∀ b off ec,(∃ ln cap,v=.slice (some ⟨b,off,none⟩) ln cap)->R.rd w ec u->(∀ j c,ec[j]? = some c->w.cell? ⟨b,off+j,none⟩=some c)->EL P n ops K rest (upd e d (.pointer (some ⟨b,off,none⟩))) w) :
  EL P n ops K (⟨some d,.indexAddr t x y,ty,pos,af,none⟩ :: rest) e w:=by
 have hr:(aH R E).rd w [v] xs:=hS.rd
 obtain ⟨ao,cap,ccs,hv,h1,h2,h3,h4,h5⟩:=hr
 obtain rfl:v=.slice ao xs.length cap:=by simpa using hv
 obtain ⟨k',hk0,hk,rfl⟩:=jD h
 obtain rfl:k'=0:=by omega
 obtain ⟨ec,hec,hcc⟩:=sA h4 0 hk
 have hz:=hz.h
 have hlen:=j6 h4
 cases hq:P.info? E with
 | none=>simp [hq] at hz
 | some inf =>
  simp [hq] at hz
  obtain ⟨b,off,rfl,hc⟩:∃ b off,ao=some ⟨b,off,none⟩/\∀ j c,ccs[j]? = some c->w.cell? ⟨b,off+j,none⟩=some c:=by
   rcases h5 with rfl | ⟨b,off,rfl,hc⟩
   ·have:0<xs.length*R.sz:=Nat.mul_pos oa oa
    simp at hlen;omega
   ·exact ⟨b,off,rfl,hc⟩
  refine qJ (v:=.pointer (some ⟨b,off,none⟩)) ?_ hd (hK b off ec ⟨_,_,rfl⟩ hec fun j c hj=>hc _ _ (by have:=hcc j c hj;simpa using this))
  intro w' _
  unfold execOp
  simp [hs,hi,Instr.indexAt,asIntOf,gb ht.h,sizeOf,typeInfo,hq,hk,jM]
theorem Hw {f:FuncId} {g:Operand} {args:Array Operand} {tys:Array TypeId} {vals:Array Value} {R:Ending->World->Prop} (hf:ev e g=.func (.func f) #[] #[]) (hg:Goes P f) (hc:Calls P f vals w R) (hv:(args.toList.map (ev e)).toArray=vals) (hd:d<n)
  (hK:∀ x w',R x w'->∃ v,x=.returned v/\EL P n ops K rest (upd e d v) w'):EL P n ops K (⟨some d,.call ⟨.value g,args,tys⟩,ty,pos,af,none⟩ :: rest) e w:=by
 intro a ha
 refine lA rfl fun K' hK'=>?_
 unfold Oper.wp execOp
 have he:args.map (ev e)=vals:=by rw [<- hv];apply Array.ext';simp
 simp only [ha.eval,resolve,hf,Deferred.ofValue,dE,fG,d8,Array.empty_append,Array.append_empty,he,invoke,hg.run,Oper.upon_enter]
 refine hc.mono fun x w' hx=>?_
 obtain ⟨v,rfl,h⟩:=hK x w' hx
 exact hK' _ _ (h _ (ha.put hd v))
end

def jH (a b:Int):Int:=IntKind.i64.wrap ((BitVec.ofInt IntKind.i64.bits a &&& BitVec.ofInt IntKind.i64.bits b).toNat)
def nZ (a b:Int):Int:=IntKind.i64.wrap ((BitVec.ofInt IntKind.i64.bits a ^^^ BitVec.ofInt IntKind.i64.bits b).toNat)
def sr (a b:Int):Option Int:=if 0<=b then some (a.fdiv (2 ^ (min b.toNat IntKind.i64.bits))) else none
def rG (s r:ByteArray):Option ByteArray:=if s.size+r.size<=9223372036854775807 then some (s++r) else none
theorem tD {s r c:ByteArray} (h:rG s r=some c):c.size<=9223372036854775807:=by
 unfold rG at h
 split at h
 ·rename_i h0
  obtain rfl:=c8 h
  rw [ByteArray.size_append];exact h0
 ·cases h
section
variable {P:Program} {e:Env} {w:World} {d:Option Nat} {ty:TypeId} {pos:String} {af:Array Edge} {x y:Operand}
theorem De {t u:TypeId} {a b:Int} (hx:ev e x=.int .i64 a) (hy:ev e y=.int .i64 b):PV P ⟨d,.binOp .and t x y u,ty,pos,af,none⟩ e w (.int .i64 (jH a b)):=fun w' _=>by
 unfold execOp jH;simp [hx,hy,eqGuard,binOp,Op.intBits]
theorem K7 {t u:TypeId} {a b:Int} (hx:ev e x=.int .i64 a) (hy:ev e y=.int .i64 b):PV P ⟨d,.binOp .xor t x y u,ty,pos,af,none⟩ e w (.int .i64 (nZ a b)):=fun w' _=>by
 unfold execOp nZ;simp [hx,hy,eqGuard,binOp,Op.intBits]
theorem G2 {t u:TypeId} {k2:IntKind} {a b c:Int} (hx:ev e x=.int .i64 a) (hy:ev e y=.int k2 b) (h:sr a b=some c):PV P ⟨d,.binOp .shr t x y u,ty,pos,af,none⟩ e w (.int .i64 c):=fun w' _=>by
 unfold sr at h
 split at h
 ·rename_i h0
  obtain rfl:=c8 h
  have h1:¬ b<0:=by omega
  unfold execOp;simp [hx,hy,eqGuard,binOp,Op.shift,h1]
 ·cases h
theorem sl {t u:TypeId} {s r c:ByteArray} (hx:ev e x=.string s) (hy:ev e y=.string r) (h:rG s r=some c):PV P ⟨d,.binOp .add t x y u,ty,pos,af,none⟩ e w (.string c):=fun w' _=>by
 unfold rG at h
 split at h
 ·rename_i h0
  obtain rfl:=c8 h
  have h1:¬ (((s.size+r.size:Nat):Int) > IntKind.i64.max):=by
   have:IntKind.i64.max=9223372036854775807:=by decide
   rw [this];omega
  unfold execOp;simp only [hx,hy,eqGuard,binOp,Op.stringOp,dE,fG,d8,a9 h1]
  simp
 ·cases h
instance flat_str:FlatR nv (fun s=>.string s):=⟨fun h=>h.1⟩
theorem FV {E:TypeId} (i:Nat) {xs:List ByteArray} {v:Value} {w0 w:World} {Γ:List Asn} (hS:Sat w0 w Γ) (hi:Γ[i]? = some (Own (aH nv E) [v] xs)) {j:Int} {u:ByteArray} (h:ix xs j=some u):u.size<=9223372036854775807:=by
 obtain ⟨k,rfl,hk,rfl⟩:=jD h
 obtain ⟨ao,cap,ccs,_,_,_,_,h4,_⟩:=hS.zB (R:=aH nv E) i hi
 obtain ⟨ec,hec,_⟩:=sA h4 k hk
 exact hec.2
def ssl (s:ByteArray) (l h:Int):Option ByteArray:=if 0<=l/\l<=h/\h<=(s.size:Int) then some (s.extract l.toNat h.toNat) else none
theorem yz {s c:ByteArray} {l h:Int} (hs:s.size<=9223372036854775807) (hq:ssl s l h=some c):c.size<=9223372036854775807:=by
 unfold ssl at hq
 split at hq
 ·obtain rfl:=c8 hq
  rw [ByteArray.size_extract];omega
 ·cases hq
theorem wy {t:TypeId} {lo hi:Option Operand} {s c:ByteArray} (ht:P.underlying t=some .string) (hx:ev e x=.string s) {l h:Int} (hlo:(lo.map (ev e)=some (.int .i64 l))\/(lo=none/\l=0)) (hhi:(hi.map (ev e)=some (.int .i64 h))\/(hi=none/\h=s.size)) (hq:ssl s l h=some c):PV P ⟨d,.slice t x lo hi none,ty,pos,af,none⟩ e w (.string c):=fun w' _=>by
  unfold ssl at hq
  split at hq
  case isFalse=>cases hq
  rename_i h0
  obtain rfl:=c8 hq
  obtain ⟨l',rfl⟩:=nV h0.1
  obtain ⟨h',rfl⟩:=nV (Int.le_trans h0.1 h0.2.1)
  obtain ⟨_,hlh,hh⟩:=h0
  replace hlh:l'<=h':=by omega
  replace hh:h'<=s.size:=by omega
  simp only [iR]
  have hb:(Instr.sliceBounds false s.size s.size (lo.map (ev e)) (hi.map (ev e)) none).run P w'=.ok (l',h',s.size) w':=by
    rcases hlo with e1 | ⟨e1,e1'⟩ <;> rcases hhi with e2 | ⟨e2,e2'⟩
    all_goals
      (try rw [e1]);(try rw [e2])
      first
        | (simp [Instr.sliceBounds,Instr.sliceBound,asIntOf,hh,hlh];done)
        | (have:l'=0:=by omega
           subst this
           simp [Instr.sliceBounds,Instr.sliceBound,asIntOf,hh,hlh];done)
        | (have:h'=s.size:=by omega
           subst this
           simp [Instr.sliceBounds,Instr.sliceBound,asIntOf,hlh];done)
        | (have:l'=0:=by omega
           have:h'=s.size:=by omega
           subst_vars
           simp [Instr.sliceBounds,Instr.sliceBound,asIntOf])
  unfold execOp
  simp only [hx,Instr.sliceAt,dE,gb ht,d8,Instr.slice,hb,fG,Option.map_none,Option.isSome_none,xl,nj]
end
theorem BP:∀ (vs:List Value) (i:Nat) (cells:List Value),cells.length=i+vs.length->vt (fun i=>some (i*1,1)) cells ((vs.zipIdx i).map fun p=>(p.2,[p.1]))=some (cells.take i++vs)
 | [],i,cells,h=>by
  simp only [fH,lh] at h
  show some cells=some (cells.take i++[])
  rw [mP,nF oa]
 | v :: vs,i,cells,h=>by
  simp only [bW] at h
  have e1:i*1=i:=oQ i
  simp only [List.zipIdx_cons,fI,vt,bT,e1]
  rw [show Nat.beq 1 1=true from rfl,cW]
  have hb:Nat.ble (i+1) cells.length=true:=by rw [Nat.ble_eq];omega
  rw [hb,ag,BP vs (i+1) _ (by simp;omega)]
  congr 1
  rw [List.take_append_of_le_length (by simp;omega),nF (by simp;omega)]
  simp
section
variable {P:Program} {n:Nat} {ops:Array Oper} {K:Env->World->Prop} {rest:List Oper} {e:Env} {w w0:World} {d:Nat} {ty:TypeId} {pos:String} {af:Array Edge} {Γ:List Asn} {E:TypeId} {α:Type} {R:Rep α}
theorem fO {t:TypeId} [ht:SliceT P t E] {z:List Value} {yP:Nat} [hz:ElemT P E z 1 yP] {parts:Array (Nat × Operand)} {k:Nat} (vs:List Value) {xs:List α} (hsz:R.sz=1) (hk:vs.length=k) (hxl:xs.length=k) (hk1:Nat.ble k 16777216=true)
  (hp:parts.toList.map (fun p=>(p.1,(ev e p.2).cells))=((vs.zipIdx 0).map fun p=>(p.2,[p.1].toArray))) (hown:∀ w,fW R w vs xs []) (hS:Sat w0 w Γ) (hd:d<n)
  (hK:∀ w' v,Sat w0 w' (Own (aH R E) [v] xs :: Γ)->Ext w w'->EL P n ops K rest (upd e d v) w'):EL P n ops K (⟨some d,.buildSlice t k parts,ty,pos,af,none⟩ :: rest) e w:=by
 intro a ha
 refine lA rfl fun K' hK'=>?_
 have hz:=hz.h
 cases hi:P.info? E with
 | none=>simp [hi] at hz
 | some i =>
 cases hzz:i.zero with
 | none=>simp [hi,hzz] at hz
 | some zv =>
 simp [hi,hzz] at hz
 obtain ⟨hz1,hz2,hz3⟩:=hz
 have hk':¬ (k*1 > 2 ^ 24):=by have:=AD hk1;omega
 have hfill:∀ A:Array Value,A.size=k->Instr.fill (fun i=>some (i*1,1)) A (parts.toList.map fun p=>(p.1,ev e p.2))=some vs.toArray:=by
  intro A hA
  have:=Bd (fun i=>some (i*1,1)) (parts.toList.map fun p=>(p.1,ev e p.2)) ((vs.zipIdx 0).map fun p=>(p.2,[p.1])) A.toList (r:=vs) (by
   rw [ni,ni];exact hp) (by rw [BP vs 0 A.toList (by simp;omega)];simp)
  simpa using this
 have hr:(Instr.buildSlice t k (parts.map fun p=>(p.1,ev e p.2))).run P w=.ok (.slice (some ⟨w.heap.size,0,none⟩) k k) (w.alloc (.cells vs.toArray E)):=by
  unfold Instr.buildSlice
  simp only [gb ht.h,sizeOf,typeInfo,hi,hz2,dE,fG,mF,d8,a9 hk',q8,Array.toList_map]
  by_cases h0:k*1=0
  ·simp only [h0,if_true,fG,d8]
   have hk0:k=0:=by omega
   rw [hfill _ (by simp;omega)]
   simp [newRow,hk0]
  ·simp only [h0,nj,zeroValue,typeInfo,hi,hzz,dE,fG,mF,d8]
   rw [hfill _ (by simp)]
   simp [newRow]
 unfold Oper.wp execOp
 simp only [ha.eval,hr,dE,fG,d8,sJ]
 refine hK' _ _ (hK _ _ ?_ (nP _ _) _ (ha.put hd _))
 refine (hS.box E vs).conv fun f hf=>?_
 obtain ⟨rfl,hf⟩:=hf
 have h2:=AD hk1
 exact .inr ⟨w.heap.size,k,vs.toArray,vs,[],by rw [hxl],hf,oa,by unfold maxLen;omega,by simp [hsz,hk],by rw [hsz,hxl,oQ];exact nF (by simp;omega),hown _,by simp⟩
theorem qB (xs:yQ) (w:World):fW bX w (xs.map (Value.int .i64)) xs []:=by
 induction xs with
 | nil=>exact ⟨rfl,rfl⟩
 | cons x xs ih=>exact ⟨[.int .i64 x],_,[],[],rfl,rfl,⟨rfl,rfl⟩,ih⟩
theorem qF {xs:List ByteArray} (h:xs.all (fun s=>Nat.ble s.size 1000000)=true) (w:World):fW nv w (xs.map Value.string) xs []:=by
 induction xs with
 | nil=>exact ⟨rfl,rfl⟩
 | cons x xs ih =>
  rw [uj,bU] at h
  exact ⟨[.string x],_,[],[],rfl,rfl,⟨⟨rfl,by have:=AD h.1;omega⟩,rfl⟩,ih h.2⟩
end
def uR {α:Type} (R:Rep α) (j:Nat) (c:Value) (u y:α):Prop:=∀ w ec f,R.own w ec u f->j<ec.length/\R.own w (ec.set j c) y f
theorem K3 {s:ByteArray} (hs:s.size<=9223372036854775807) (x:ByteArray):uR nv 0 (.string s) x s:=fun w ec f h=>by obtain ⟨⟨rfl,_⟩,rfl⟩:=h;exact ⟨by simp,⟨rfl,hs⟩,rfl⟩
theorem Lq {α β:Type} {R:Rep α} {S:Rep β} {j:Nat} {c:Value} {x:α × β} {y:α} (h:uR R j c x.1 y):uR (rN R S) j c x (y,x.2):=fun w ec f hf=>by
 obtain ⟨c1,c2,f1,f2,rfl,rfl,h1,h2⟩:=hf
 obtain ⟨k1,k2⟩:=h w c1 f1 h1
 exact ⟨by simp;omega,c1.set j c,c2,f1,f2,List.set_append_left _ _ k1,rfl,k2,h2⟩
theorem C5 {α:Type} {R:Rep α} {w:World} {j:Nat} {c:Value} {y:α}:∀ {xs:List α} {ccs:List Value} {f:List Nat},fW R w ccs xs f->∀ (k:Nat) (hk:k<xs.length),uR R j c xs[k] y->fW R w (ccs.set (k*R.sz+j) c) (xs.set k y) f
 | [],_,_,_,k,hk,_=>absurd hk (by simp)
 | x :: xs,_,_,h,k,hk,hu=>by
  obtain ⟨ec,rest,f1,f2,rfl,rfl,h1,h2⟩:=h
  cases k with
  | zero =>
   obtain ⟨k1,k2⟩:=hu w ec f1 h1
   exact ⟨ec.set j c,rest,f1,f2,by rw [uc,e9,List.set_append_left _ _ k1],rfl,k2,h2⟩
  | succ k =>
   have hl:=R.rd_len (R.own_rd h1)
   refine ⟨ec,rest.set (k*R.sz+j) c,f1,f2,?_,rfl,h1,C5 h2 k (by simpa using hk) (by simpa using hu)⟩
   rw [AQ _ _ (by rw [rp];omega)]
   congr 2;rw [rp];omega
section
variable {P:Program} {n:Nat} {ops:Array Oper} {K:Env->World->Prop} {rest:List Oper} {e:Env} {w w0:World} {v:Value} {ty:TypeId} {pos:String} {af:Array Edge} {Γ:List Asn} {x y:Operand} {α:Type} {R:Rep α} {E:TypeId}
theorem GI {t:TypeId} {z:List Value} {yP:Nat} [hz:ElemT P t z 1 yP] {xs ys:List α} {g ln cap o j m:Nat} {u yv:α} {c:Value} (hv:v=.slice (some ⟨g,0,none⟩) ln cap)
  (hS:Sat w0 w (Own (aH R E) [v] xs :: Γ)) {i:Int} (hix:ix xs i=some u) (h:sto xs i yv=some ys) (hn:R.sz=m) (ho:o=i.toNat*m+j) (hx:ev e x=.pointer (some ⟨g,o,none⟩)) (hy:(ev e y).cells=[c].toArray) (h1:c.oneCell'=true)
  (hup:uR R j c u yv) (hK:∀ w',Sat w0 w' (Own (aH R E) [v] ys :: Γ)->EL P n ops K rest e w'):EL P n ops K (⟨none,.store t x y,ty,pos,af,none⟩ :: rest) e w:=by
 intro a ha
 refine lA rfl fun K' hK'=>?_
 obtain ⟨k,rfl,hk,rfl⟩:=jD hix
 have hys:ys=xs.set k yv:=by
  unfold sto at h;split at h
  ·simpa using (c8 h).symm
  ·cases h
 subst hys hv hn ho
 simp only [iR] at hx
 have hz:=hz.h
 cases hi:P.info? t with
 | none=>simp [hi] at hz
 | some inf =>
  simp [hi] at hz
  obtain ⟨fp,hv,_⟩:=hS.head
  obtain ⟨cur,hh,hcs⟩:∃ cur,w.heap[g]? = some (.cells cur E (0,0))/\xs.length*R.sz<=cur.size:=by
   rcases hv with ⟨h,_⟩ | ⟨g',cap',cur,ccs,f2,h,hg',h1,h2,h3,_⟩
   ·simp at h
   ·simp at h
    obtain ⟨rfl,_⟩:=h
    exact ⟨cur,hg',by rw [h3];exact mc _ h1⟩
  have hjm:j<R.sz:=by
   rcases hv with ⟨_,h,_⟩ | ⟨g',cap',cur,ccs,f2,_,_,_,_,_,_,h5,_⟩
   ·subst h;simp at hk
   ·obtain ⟨ec,f1,f2,f3,k1,_,_,_⟩:=ux h5 k hk
    have:=(hup w ec f2 k1).1
    rw [R.rd_len (R.own_rd k1)] at this;exact this
  have hkk:k*R.sz+R.sz<=xs.length*R.sz:=by have:=mc R.sz hk;rw [rp] at this;exact this
  have hh':w.heap[g]? = some (.cells cur.toList.toArray E (0,0)):=by simpa using hh
  obtain ⟨w',hr,hnew,hc⟩:=iN (P:=P) [c] (k*R.sz+j) 0 cur.toList w hh' (by simp;omega) (by simpa using h1)
  have hsz:¬ ([c].toArray.size≠inf.size):=by simp;omega
  unfold Oper.wp execOp
  simp only [ha.eval,hx,Instr.storeAt,Instr.sureAddr,storeVar,sizeOf,typeInfo,hi,hy,dE,fG,mF,d8,hsz,nj,q8,ri,hr,w6]
  refine hK' _ _ (hK w' ?_ _ ha)
  refine hS.yK ?_
  intro fp2 hv2 hnd2
  rcases hv2 with ⟨h,_⟩ | ⟨g',cap',cur',ccs,f2,h,hg',h1,h2,h3,h4,h5,rfl⟩
  ·simp at h
  ·simp at h
   obtain ⟨rfl,rfl,rfl⟩:=h
   obtain ⟨rfl⟩:cur'=cur:=by rw [hh] at hg';simpa using hg'.symm
   have h6:=C5 h5 k hk hup
   have hoth:∀ x,x≠g->x<w.heap.size->w'.heap[x]? = w.heap[x]?:=fun x hx hlt=>hc.block x hlt (by simpa using hx)
   have hgn:g∉f2:=(lV.1 hnd2).1
   have hcl:ccs.length=xs.length*R.sz:=j6 (jb h5)
   refine ⟨g :: f2,.inr ⟨g,cap,_,ccs.set (k*R.sz+j) c,f2,by simp,hnew,by simpa using h1,h2,?_,?_,hQ h6 (fun b hb=>hoth b (fun e=>hgn (e ▸ hb)) (iE h5 b hb)),rfl⟩,hnd2,hc.mono (by simp),fun b hb=>.inl hb⟩
   ·simp only [pq,b8,dh,jq,s9,bT,lh]
    omega
   ·rw [<- h4,gP]
    have:=tT cur.toList [c] (k*R.sz+j) 1 (xs.length*R.sz) oa (by simpa using hcs) rfl
    simp only [lh,bT] at this ⊢
    rw [this,List.set_eq_take_append_cons_drop,aX (by simp;omega)]
    simp
end
theorem gW {P:Program} {n:Nat} {ops:Array Oper} {X:List Nat} {C:World->Prop} {K:Env->World->Prop} (i j:Nat) {f:Nat} {L:Array Bool} {e:Env} {w:World} {o o':Oper} (hr:Region.ready .any ops L=[i,j]) (ho:ops[i]? = some o) (ho':ops[j]? = some o')
  (h:EL P n ops (fun e' w'=>(X.contains i=true->C w')/\AL P n ops X C K f (L.setIfInBounds i true) e' w') [o] e w) (h':EL P n ops (fun e' w'=>(X.contains j=true->C w')/\AL P n ops X C K f (L.setIfInBounds j true) e' w') [o'] e w):AL P n ops X C K (f+1) L e w :=
 ⟨fun h0=>(by rw [h0] at hr;cases hr),fun k hk=>by
  rw [hr] at hk
  rcases cZ.1 hk with rfl | hk
  ·exact ⟨o,ho,h⟩
  ·obtain rfl:k=j:=by simpa using hk
   exact ⟨o',ho',h'⟩⟩
theorem kC {P:Program} {n:Nat} {c:Code} {Q:Exit->Env->World->Prop} {e:Env} {w:World} (I:Env->World->Prop) (h1:CW P n c (fun x e w=>x=.normal/\I e w) e w) (h2:∀ e w,I e w->Q .normal e w):CW P n c Q e w:=by
 intro a ha
 refine qQ (h1 a ha) ?_
 rintro x' a' w' ⟨e',he',rfl,hI⟩
 exact ⟨e',he',h2 _ _ hI⟩
def dg (m:Nat):Value->Int->Int->Value
 | .slice ao _ cap,lo,hi=>.slice (if cap=lo.toNat then ao else ao.map (·.add (lo.toNat*m))) (hi.toNat-lo.toNat) (cap-lo.toNat)
 | v,_,_=>v
section
variable {α:Type} {R:Rep α} {E:TypeId} {w w0:World} {v:Value} {xs ys:List α} {Γ:List Asn}
theorem ve {xs ys:List α} {lo hi:Int} (h:slc xs lo hi=some ys):∃ l k:Nat,lo=(l:Int)/\hi=(k:Int)/\l<=k/\k<=xs.length/\ys=(xs.take k).drop l:=by
 unfold slc at h
 split at h
 ·rename_i h0
  exact ⟨lo.toNat,hi.toNat,oa,oa,oa,oa,(c8 h).symm⟩
 ·cases h
theorem rD {m:Nat} {lo hi:Int} (hn:R.sz=m) (hr:(aH R E).rd w [v] xs) (hq:slc xs lo hi=some ys):(aH R E).rd w [dg m v lo hi] ys:=by
 obtain ⟨l,h,rfl,rfl,hlh,hh,rfl⟩:=ve hq
 obtain ⟨ao,cap,ccs,hv,h1,h2,h3,h4,h5⟩:=hr
 obtain rfl:v=.slice ao xs.length cap:=by simpa using hv
 have hlen:((xs.take h).drop l).length=h-l:=by simp;omega
 have hrd:=(rt l (rt h h4).1).2
 have hccl:=j6 h4
 subst hn
 refine ⟨if cap=l then ao else ao.map (·.add (l*R.sz)),cap-l,_,by simp [dg,hlen],by rw [hlen];omega,oa,?_,hrd,?_⟩
 ·intro e
  split at e
  ·omega
  ·cases ao with
   | none=>have:=h3 rfl;omega
   | some _=>simp at e
 ·by_cases hcl:cap=l
  ·left
   have:h=l:=by omega
   subst this
   apply Ad
   simp
  ·rw [a9 hcl]
   rcases h5 with rfl | ⟨b,off,rfl,h5⟩
   ·left;simp
   ·right
    refine ⟨b,off+l*R.sz,by simp [jM],fun j c hj=>?_⟩
    rw [Ap,lm] at hj
    split at hj
    ·rw [sK];exact h5 _ c hj
    ·cases hj
theorem BV {w:World}:∀ (k:Nat) {xs:List α} {ccs:List Value} {f:List Nat},fW R w ccs xs f->∃ f1 f2,f=f1++f2/\fW R w (ccs.take (k*R.sz)) (xs.take k) f1/\(∀ b∈f2,b<w.heap.size)
 | 0,xs,ccs,f,h=>⟨[],f,rfl,by simp [fW],iE h⟩
 | k+1,[],ccs,f,h=>by
  obtain ⟨rfl,rfl⟩:=h
  exact ⟨[],[],rfl,⟨by simp,rfl⟩,by simp⟩
 | k+1,x :: xs,ccs,f,h=>by
  obtain ⟨ec,rest,g1,g2,rfl,rfl,h1,h2⟩:=h
  obtain ⟨f1,f2,rfl,h3,h4⟩:=BV k h2
  refine ⟨g1++f1,f2,by simp,⟨ec,rest.take (k*R.sz),g1,f1,?_,rfl,h1,h3⟩,h4⟩
  have e:(k+1)*R.sz=ec.length+k*R.sz:=by rw [R.rd_len (R.own_rd h1),lY];omega
  rw [e,uS,nF oa,oz]
theorem Sat.prefix {m:Nat} {hi:Int} (hn:R.sz=m) (hS:Sat w0 w (Own (aH R E) [v] xs :: Γ)) (hq:slc xs 0 hi=some ys):Sat w0 w (Own (aH R E) [dg m v 0 hi] ys :: Γ):=by
 obtain ⟨l,k,hl,rfl,hlk,hk,rfl⟩:=ve hq
 obtain rfl:l=0:=by omega
 subst hn
 obtain ⟨ao,hao⟩:∃ A,A=Asn.mk (fun w fp=>True/\∀ b∈fp,b<w.heap.size) (fun h he=>⟨trivial,fun b hb=>by
  have h1:=h.2 b hb
  have h2:=he b hb
  rw [nK h1] at h2
  exact (j0.1 h2).1⟩) (fun h=>h.2):=⟨_,rfl⟩
 refine Sat.tail (A:=ao) ?_
 refine hS.zP fun f hf=>?_
 subst hao
 rcases hf with ⟨hv,rfl,rfl⟩ | ⟨g,cap,cur,ccs,f2,hv,hg,h1,h2,h3,h4,h5,rfl⟩
 ·obtain rfl:v=.slice none 0 0:=by simpa using hv
  simp only [fH,Nat.le_zero] at hk
  subst hk
  exact ⟨[],[],.refl _,⟨trivial,by simp⟩,.inl ⟨by simp [dg],by simp,rfl⟩⟩
 ·obtain rfl:v=.slice (some ⟨g,0,none⟩) xs.length cap:=by simpa using hv
  obtain ⟨f1,f3,rfl,h6,h7⟩:=BV k h5
  refine ⟨f3,g :: f1,?_,⟨trivial,h7⟩,.inr ⟨g,cap,cur,_,f1,?_,hg,?_,h2,h3,?_,h6,rfl⟩⟩
  ·exact List.perm_middle.trans (.cons _ sX)
  ·have hl:(xs.take k).length=k:=by simp;omega
   simp only [gS,hl,dg,iR]
   by_cases hc:cap=0
   ·simp [hc]
   ·simp [hc,jM]
  ·simp;omega
  ·rw [<- h4]
   simp only [gS,dh,List.take_take]
   congr 1
   rw [ru hk]
   exact (ru (mc _ hk)).symm
end
theorem pi {P:Program} {e:Env} {w wA:World} {d:Option Nat} {ty:TypeId} {pos:String} {af:Array Edge} {x:Operand} {v:Value} {α:Type} {R:Rep α} {E E':TypeId} {t:TypeId} {lo hi:Option Operand} [ht:SliceT P t E'] {z:List Value} {m yP:Nat} [hz:ElemT P E' z m yP]
    (hx:ev e x=v) {xs ys:List α} (hr:(aH R E).rd wA [v] xs) {l h:Int} (hlo:(lo.map (ev e)=some (.int .i64 l))\/(lo=none/\l=0)) (hhi:(hi.map (ev e)=some (.int .i64 h))\/(hi=none/\h=xs.length)) (hq:slc xs l h=some ys) :
    PV P ⟨d,.slice t x lo hi none,ty,pos,af,none⟩ e w (dg m v l h):=fun w' _=>by
  obtain ⟨l',h',rfl,rfl,hlh,hh,_⟩:=ve hq
  obtain ⟨ao,cap,ccs,hv,h1,h2,h3,h4,h5⟩:=hr
  obtain rfl:v=.slice ao xs.length cap:=by simpa using hv
  have hz:=hz.h
  cases hq':P.info? E' with
  | none=>simp [hq'] at hz
  | some inf =>
    simp [hq'] at hz
    have hcap:h'<=cap:=by omega
    have hsz:inf.size=m:=hz.2.1
    have hb:(Instr.sliceBounds true xs.length cap (lo.map (ev e)) (hi.map (ev e)) none).run P w'=.ok (l',h',cap) w':=by
      rcases hlo with e1 | ⟨e1,e1'⟩ <;> rcases hhi with e2 | ⟨e2,e2'⟩
      all_goals
        (try rw [e1]);(try rw [e2])
        first
          | (simp [Instr.sliceBounds,Instr.sliceBound,asIntOf,hcap,hlh];done)
          | (have:l'=0:=by omega
             subst this
             simp [Instr.sliceBounds,Instr.sliceBound,asIntOf,hcap,hlh];done)
          | (have:h'=xs.length:=by omega
             subst this
             simp [Instr.sliceBounds,Instr.sliceBound,asIntOf,hcap,hlh];done)
          | (have:l'=0:=by omega
             have:h'=xs.length:=by omega
             subst_vars
             simp [Instr.sliceBounds,Instr.sliceBound,asIntOf])
    unfold execOp
    simp only [hx,Instr.sliceAt,dE,gb ht.h,d8,Instr.slice,hb,sizeOf,typeInfo,hq',mF,fG,Option.map_none,dg,hsz,iR]
theorem nr {α:Type} {R:Rep α} {E:TypeId} {w:World} {cs:List Value} {xs:List α} (h:(vL R E).rd w cs xs):(aH R E).rd w cs xs:=h
theorem mn {α:Type} {xs ys:List α} {hi:Int} (h:slc xs 1 hi=some ys):0<xs.length:=by
 obtain ⟨l,k,h1,h2,h3,h4,_⟩:=ve h;omega
theorem Aa {w W:World} {b o:Nat} (h:w.heap[b]? = W.heap[b]?):w.cell? ⟨b,o,none⟩=W.cell? ⟨b,o,none⟩:=by
 unfold World.cell?;simp [h]
def Frz (W:World) (F:List Nat):Asn where
 holds w fp:=fp=F/\(∀ b∈F,w.heap[b]? = W.heap[b]?)/\∀ b∈F,b<W.heap.size
 ext h he:=by obtain ⟨rfl,h1,h2⟩:=h;exact ⟨rfl,fun b hb=>(he b hb).trans (h1 b hb),h2⟩
 lt h:=by
  obtain ⟨rfl,h1,h2⟩:=h
  intro b hb
  have:=h1 b hb
  rw [nK (h2 b hb)] at this
  exact (j0.1 this).1
section
variable {α:Type} {R:Rep α} {W w w0:World} {Γ:List Asn} {F F':List Nat} {cs:List Value} {x:α}
theorem Sat.zU (hS:Sat w0 w (Own R cs x :: Γ)):∃ F,R.own w cs x F/\Sat w0 w (Frz w F :: Γ):=by
 obtain ⟨hb,_,⟨f1,f2,rfl,h1,h2⟩,hn,h3⟩:=hS
 exact ⟨f1,h1,hb,_,⟨f1,f2,rfl,⟨rfl,fun _ _=>rfl,R.own_lt h1⟩,h2⟩,hn,h3⟩
theorem Sat.zX (i:Nat) (hS:Sat w0 w Γ) (hi:Γ[i]? = some (Frz W F)):∀ b∈F,w.heap[b]? = W.heap[b]?:=by
 obtain ⟨fp,⟨rfl,h,_⟩,_⟩:=(hS.top i hi).head
 exact h
theorem Sat.zH (i:Nat) (hS:Sat w0 w Γ) (hi:Γ[i]? = some (Frz W F)) (h:R.own W cs x F') (hs:∀ b∈F',b∈F):R.rd w cs x :=
 R.own_rd (R.own_ext h (fun b hb=>hS.zX i hi b (hs b hb)))
theorem Sat.zE (i:Nat) (hS:Sat w0 w Γ) (hi:Γ[i]? = some (Frz W F)) {b off:Nat} {ec:List Value} (hb:b∈F) (hm:∀ j c,ec[j]? = some c->W.cell? ⟨b,off+j,none⟩=some c):∀ j c,ec[j]? = some c->w.cell? ⟨b,off+j,none⟩=some c :=
 fun j c hj=>by rw [Aa (hS.zX i hi b hb)];exact hm j c hj
end
section
variable {P:Program} {n:Nat} {ops:Array Oper} {X:List Nat} {C:World->Prop} {K:Env->World->Prop} {KQ:Env->Prop} {rest:List Oper} {e:Env} {w W:World} {v:Value} {d:Nat} {ty:TypeId} {pos:String} {af:Array Edge} {x y:Operand} {α:Type} {R:Rep α} {E:TypeId} {F:List Nat} {yO:Nat} {L:Array Bool}
theorem xb {d:Option Nat} {t:TypeId} [ht:SliceT P t E] {zz:List Value} {m yP:Nat} [hz:ElemT P E zz m yP] {xs:List α} (hs:ev e x=v) (hr:(aH R E).own W [v] xs F)
  (hn:R.sz=m) {k:IntKind} {i:Int} (hi:ev e y=.int k i) {u:α} (h:ix xs i=some u) :
  ∃ b off ec F2,R.own W ec u F2/\(∀ q∈F2,q∈F)/\b∈F/\(∀ j c,ec[j]? = some c->W.cell? ⟨b,off+j,none⟩=some c)/\∀ w,PV P ⟨d,.indexAddr t x y,ty,pos,af,none⟩ e w (.pointer (some ⟨b,off,none⟩)):=by
 obtain ⟨k',rfl,hk,rfl⟩:=jD h
 rcases hr with ⟨_,h2,_⟩ | ⟨g,cap,cur,ccs,f2,hv,hg,h1,h2,h3,h4,h5,rfl⟩
 ·subst h2;simp at hk
 obtain rfl:v=.slice (some ⟨g,0,none⟩) xs.length cap:=by simpa using hv
 obtain ⟨ec,f1,f2',f3,k1,rfl,k3,_⟩:=ux h5 k' hk
 have hz:=hz.h
 cases hq:P.info? E with
 | none=>simp [hq] at hz
 | some inf =>
  simp [hq] at hz
  have hsz:inf.size=m:=hz.2.1
  refine ⟨g,k'*m,ec,f2',k1,fun q hq=>by simp [hq],by simp,fun j c hj=>?_,fun w w' _=>?_⟩
  ·have h0:=k3 j c hj
   rw [nf W g _ cur E (0,0) hg,<- pG]
   rw [<- h4,lm] at h0
   rw [<- hn]
   split at h0
   ·exact h0
   ·cases h0
  ·unfold execOp
   simp [hs,hi,Instr.indexAt,asIntOf,gb ht.h,sizeOf,typeInfo,hq,hk,jM,hsz]
theorem kT {t:TypeId} [SliceT P t E] {zz:List Value} {m yP:Nat} [ElemT P E zz m yP] {xs:List α} (hs:ev e x=v) (hr:(aH R E).own W [v] xs F) (hn:R.sz=m) {k:IntKind} {i:Int} (hi:ev e y=.int k i) {u:α} (h:ix xs i=some u) (hd:d<n)
  (hK:∀ b off ec F2,R.own W ec u F2->(∀ q∈F2,q∈F)->b∈F->(∀ j c,ec[j]? = some c->W.cell? ⟨b,off+j,none⟩=some c)->EL P n ops K rest (upd e d (.pointer (some ⟨b,off,none⟩))) w):EL P n ops K (⟨some d,.indexAddr t x y,ty,pos,af,none⟩ :: rest) e w:=by
 obtain ⟨b,off,ec,F2,h1,h2,h3,h4,h5⟩:=xb (P:=P) (d:=some d) (ty:=ty) (pos:=pos) (af:=af) (t:=t) hs hr hn hi h
 exact qJ (h5 _) hd (hK b off ec F2 h1 h2 h3 h4)
theorem tI {t:TypeId} [SliceT P t E] {zz:List Value} {m yP:Nat} [ElemT P E zz m yP] {xs:List α} (hs:ev e x=v) (hr:(aH R E).own W [v] xs F) (hn:R.sz=m) {k:IntKind} {i:Int} (hi:ev e y=.int k i) {u:α} (h:ix xs i=some u) (hd:d<n)
  (hK:∀ b off ec F2,R.own W ec u F2->(∀ q∈F2,q∈F)->b∈F->(∀ j c,ec[j]? = some c->W.cell? ⟨b,off+j,none⟩=some c)->QL P n ops w KQ rest (upd e d (.pointer (some ⟨b,off,none⟩)))):QL P n ops w KQ (⟨some d,.indexAddr t x y,ty,pos,af,none⟩ :: rest) e:=by
 obtain ⟨b,off,ec,F2,h1,h2,h3,h4,h5⟩:=xb (P:=P) (d:=some d) (ty:=ty) (pos:=pos) (af:=af) (t:=t) hs hr hn hi h
 exact xF (h5 _) hd (hK b off ec F2 h1 h2 h3 h4)
theorem iu (hsel:pU ops=true) (i':Nat) {t:TypeId} [SliceT P t E] {zz:List Value} {m yP:Nat} [ElemT P E zz m yP] {xs:List α} (hi':ops[i']? = some ⟨some d,.indexAddr t x y,ty,pos,af,none⟩) (hC:C w) (hf:sW ops X L i' ⟨some d,.indexAddr t x y,ty,pos,af,none⟩=true) (hrd:(Region.ready .any ops L).contains i'=true)
  (hs:ev e x=v) (hr:(aH R E).own W [v] xs F) (hn:R.sz=m) {k:IntKind} {i:Int} (hi:ev e y=.int k i) {u:α} (h:ix xs i=some u) (hd:d<n)
  (hK:∀ b off ec F2,R.own W ec u F2->(∀ q∈F2,q∈F)->b∈F->(∀ j c,ec[j]? = some c->W.cell? ⟨b,off+j,none⟩=some c)->AL P n ops X C K yO (L.setIfInBounds i' true) (upd e d (.pointer (some ⟨b,off,none⟩))) w):AL P n ops X C K (yO+1) L e w:=by
 obtain ⟨b,off,ec,F2,h1,h2,h3,h4,h5⟩:=xb (P:=P) (d:=some d) (ty:=ty) (pos:=pos) (af:=af) (t:=t) hs hr hn hi h
 exact Fb hsel i' hi' rfl hd hC hf hrd (tB rfl fun w' _=>h5 w') (hK b off ec F2 h1 h2 h3 h4)
end
section
variable {α:Type} {R:Rep α} {w0 w:World} {Γ:List Asn} {E:TypeId} {v:Value}
def mt (R:Rep α) (E:TypeId) (v:Value) (xs:List α) (i:Nat) (ec:List Value) (g m:Nat):Asn where
 holds w fp:=(HN R E v xs i ec).holds w fp/\g∈fp/\∀ j c,ec[j]? = some c->w.cell? ⟨g,i*m+j,none⟩=some c
 ext h he:=⟨(HN R E v xs i ec).ext h.1 he,h.2.1,fun j c hj=>by rw [Aa (he g h.2.1)];exact h.2.2 j c hj⟩
 lt h:=(HN R E v xs i ec).lt h.1
theorem Sat.zL {xs:List α} {m:Nat} {i:Int} {u:α} (hS:Sat w0 w (Own (aH R E) [v] xs :: Γ)) (h:ix xs i=some u) (hn:R.sz=m) :
  ∃ g cap ec,v=.slice (some ⟨g,0,none⟩) xs.length cap/\R.rd w ec u/\Sat w0 w (Own R ec u :: mt R E v xs i.toNat ec g m :: Γ):=by
 obtain ⟨k,rfl,hk,rfl⟩:=jD h
 subst hn
 obtain ⟨fp,ho,_⟩:=hS.head
 rcases ho with ⟨_,h2,_⟩ | ⟨g,cap,cur,ccs,fe,hv,hg,h1,h2,h3,h4,h5,rfl⟩
 ·subst h2;simp at hk
 obtain ⟨ec,f1,f2,f3,k1,rfl,k3,k4⟩:=ux h5 k hk
 have hv:v=.slice (some ⟨g,0,none⟩) xs.length cap:=by simpa using hv
 have hm:∀ j c,ec[j]? = some c->w.cell? ⟨g,(k:Int).toNat*R.sz+j,none⟩=some c:=fun j c hj=>by
  have e2:=k3 j c hj
  simp only [iR]
  rw [nf w g _ cur E (0,0) hg,<- pG]
  rw [<- h4,lm] at e2
  split at e2
  ·exact e2
  ·cases e2
 refine ⟨g,cap,ec,hv,R.own_rd k1,?_⟩
 have hrl:=R.rd_len (R.own_rd k1)
 clear k1 k3 k4 h5 h4 h3 h2 h1 hg
 subst hv
 refine hS.zP fun f hf=>?_
 rcases hf with ⟨_,h2,_⟩ | ⟨g',cap',cur,ccs,fe,hv,hg,h1,h2,h3,h4,h5,rfl⟩
 ·subst h2;simp at hk
 obtain ⟨rfl,rfl⟩:g=g'/\cap=cap':=by simpa using hv
 obtain ⟨ec',f1,f2,f3,k1,rfl,k3,k4⟩:=ux h5 k hk
 have hec:ec=ec':=by
  refine sM (by rw [hrl,R.rd_len (R.own_rd k1)]) fun j hj1 hj2=>?_
  have e1:=hm j ec[j] (qY hj1)
  have e2:=k3 j ec'[j] (qY hj2)
  simp only [iR] at e1
  rw [nf w g _ cur E (0,0) hg,<- pG] at e1
  rw [<- h4,lm] at e2
  split at e2
  ·rw [e1] at e2;exact c8 e2
  ·cases e2
 subst hec
 refine ⟨f2,g :: (f1++f3),?_,k1,⟨⟨fun b hb=>?_,fun w' y f' he ho=>⟨g :: (f1++(f'++f3)),?_,.inr ⟨g,cap,cur,ccs,_,by simp,by rw [he g (by simp)];exact hg,by simpa using h1,h2,h3,by simpa using h4,by
  simp only [iR]
  exact k4 w' y f' (fun b hb=>he b (fJ _ hb)) ho,rfl⟩⟩⟩,dM,hm⟩⟩
 ·refine List.perm_middle.trans (.cons _ ?_)
  rw [<- gT,<- gT]
  exact uF _ sX
 ·rcases cZ.1 hb with rfl | hb
  ·exact (j0.1 hg).1
  ·refine iE h5 b ?_
   rcases dj.1 hb with h | h <;> simp [h]
 ·refine .trans (.cons _ ?_) List.perm_middle.symm
  rw [<- gT,<- gT]
  exact uF _ sX
theorem Sat.zM {xs ys:List α} {i:Int} {y:α} {ec:List Value} {g m:Nat} (hS:Sat w0 w (Own R ec y :: mt R E v xs i.toNat ec g m :: Γ)) (h:sto xs i y=some ys):Sat w0 w (Own (aH R E) [v] ys :: Γ):=by
 have e:ys=xs.set i.toNat y:=by
  unfold sto at h;split at h
  ·exact (c8 h).symm
  ·cases h
 subst e
 exact hS.yF fun f g h1 h2=>h2.1.2 w y f (fun _ _=>rfl) h1
theorem Sat.zK (a:Nat) {xs:List α} {i g m:Nat} {ec:List Value} (hS:Sat w0 w Γ) (hi:Γ[a]? = some (mt R E v xs i ec g m)):∀ j c,ec[j]? = some c->w.cell? ⟨g,i*m+j,none⟩=some c:=by
 obtain ⟨fp,ho,_⟩:=(hS.top a hi).head
 exact ho.2.2
end
theorem nM {P:Program} {e:Env} {w:World} {v:Value} {ty:TypeId} {pos:String} {af:Array Edge} {x y:Operand} {α:Type} {E:TypeId} {d:Option Nat} {t:TypeId} [ht:SliceT P t E] {zz:List Value} {m yP:Nat} [hz:ElemT P E zz m yP] {xs:List α} (hs:ev e x=v) {g cap:Nat} (hv:v=.slice (some ⟨g,0,none⟩) xs.length cap) {k:IntKind} {j:Int} (hi:ev e y=.int k j) {u:α} (h:ix xs j=some u) :
  PV P ⟨d,.indexAddr t x y,ty,pos,af,none⟩ e w (.pointer (some ⟨g,j.toNat*m,none⟩)):=fun w' _=>by
 obtain ⟨k',rfl,hk,rfl⟩:=jD h
 subst hv
 have hz:=hz.h
 cases hq:P.info? E with
 | none=>simp [hq] at hz
 | some inf =>
  simp [hq] at hz
  have hsz:inf.size=m:=hz.2.1
  unfold execOp
  simp [hs,hi,Instr.indexAt,asIntOf,gb ht.h,sizeOf,typeInfo,hq,hk,jM,hsz]
def sU {α β:Type} (R:Rep α) (S:Rep β) (j:Nat) (u:α) (z:β) (y:α):Prop :=
 ∀ w ec f cs fa,R.own w ec u f->S.own w cs z fa->j+cs.length<=ec.length/\∃ f' g',R.own w (ec.take j++cs++ec.drop (j+cs.length)) y f'/\(f'++g').Perm (f++fa)
theorem Bc {α:Type} {R:Rep α} (u z:α):sU R R 0 u z z:=fun w ec f cs fa h k=>by
 have e1:=R.rd_len (R.own_rd h)
 have e2:=R.rd_len (R.own_rd k)
 refine ⟨oa,fa,f,?_,sX⟩
 rw [e9,lu oa];simpa using k
theorem Au {α β γ:Type} {R:Rep α} {T:Rep γ} {S:Rep β} {j k':Nat} {u:α × γ} {z:β} {y:γ} (h:sU T S j u.2 z y) (hk:k'=R.sz+j):sU (rN R T) S k' u z (u.1,y):=fun w ec f cs fa hf k=>by
 obtain ⟨c1,c2,f1,f2,rfl,rfl,h1,h2⟩:=hf
 obtain ⟨k1,f',g',k2,k3⟩:=h w c2 f2 cs fa h2 k
 have hl:=R.rd_len (R.own_rd h1)
 subst hk
 refine ⟨by simp;omega,f1++f',g',⟨c1,_,f1,f',?_,rfl,h1,k2⟩,qP.2 fun a=>?_⟩
 ·rw [<- hl,uS,List.drop_append,nF oa,lu oa]
  simp [sK]
 ·have:=qP.1 k3 a
  simp only [zf] at this ⊢;omega
theorem yh {α β:Type} {R:Rep α} {S:Rep β} {w:World} {j:Nat} {cs:List Value} {z:β} {fa:List Nat} (hz:S.own w cs z fa) {y:α}:∀ {xs:List α} {ccs:List Value} {f:List Nat},fW R w ccs xs f->∀ (k:Nat) (hk:k<xs.length),sU R S j xs[k] z y ->
  k*R.sz+j+cs.length<=ccs.length/\∃ f' g',fW R w (ccs.take (k*R.sz+j)++cs++ccs.drop (k*R.sz+j+cs.length)) (xs.set k y) f'/\(f'++g').Perm (f++fa)
 | [],_,_,_,k,hk,_=>absurd hk (by simp)
 | x :: xs,_,_,h,k,hk,hu=>by
  obtain ⟨ec,rest,f1,f2,rfl,rfl,h1,h2⟩:=h
  cases k with
  | zero =>
   obtain ⟨k1,f',g',k2,k3⟩:=hu w ec f1 cs fa h1 hz
   refine ⟨by simp;omega,f'++f2,g',⟨_,rest,f',f2,?_,rfl,k2,h2⟩,qP.2 fun a=>?_⟩
   ·rw [uc,e9,List.take_append_of_le_length oa,List.drop_append_of_le_length oa];simp
   ·have:=qP.1 k3 a
    simp only [zf] at this ⊢;omega
  | succ k =>
   have hl:=R.rd_len (R.own_rd h1)
   obtain ⟨k1,f',g',k2,k3⟩:=yh hz h2 k (by simpa using hk) (by simpa using hu)
   have e:(k+1)*R.sz+j=ec.length+(k*R.sz+j):=by rw [rp];omega
   refine ⟨by rw [e,b8];omega,f1++f',g',⟨ec,_,f1,f',?_,rfl,h1,k2⟩,qP.2 fun a=>?_⟩
   ·rw [e,uS,List.drop_append,nF oa,lu oa]
    simp [sK]
   ·have:=qP.1 k3 a
    simp only [zf] at this ⊢;omega
section
variable {P:Program} {n:Nat} {ops:Array Oper} {K:Env->World->Prop} {rest:List Oper} {e:Env} {w w0:World} {v:Value} {ty:TypeId} {pos:String} {af:Array Edge} {Γ:List Asn} {x y:Operand} {α β:Type} {R:Rep α} {S:Rep β} {E:TypeId}
theorem wS {t:TypeId} {z:List Value} {m' yP:Nat} [hz:ElemT P t z m' yP] {xs ys:List α} {g ln cap o j m:Nat} {u yv:α} {zv:β} {cs:List Value} (hv:v=.slice (some ⟨g,0,none⟩) ln cap)
  (hS:Sat w0 w (Own S cs zv :: Own (aH R E) [v] xs :: Γ)) {i:Int} (hix:ix xs i=some u) (h:sto xs i yv=some ys) (hn:R.sz=m) (hs:S.sz=m') (ho:o=i.toNat*m+j) (hx:ev e x=.pointer (some ⟨g,o,none⟩)) (hy:(ev e y).cells=cs.toArray)
  (hup:sU R S j u zv yv) (hK:∀ w',Sat w0 w' (Own (aH R E) [v] ys :: Γ)->EL P n ops K rest e w'):EL P n ops K (⟨none,.store t x y,ty,pos,af,none⟩ :: rest) e w:=by
 intro a ha
 refine lA rfl fun K' hK'=>?_
 obtain ⟨k,rfl,hk,rfl⟩:=jD hix
 have hys:ys=xs.set k yv:=by
  unfold sto at h;split at h
  ·simpa using (c8 h).symm
  ·cases h
 subst hys hv hn ho
 simp only [iR] at hx
 have hz:=hz.h
 cases hi:P.info? t with
 | none=>simp [hi] at hz
 | some inf =>
  simp [hi] at hz
  have hS':Sat w0 w (Fh (Own S cs zv) (Own (aH R E) [.slice (some ⟨g,0,none⟩) ln cap] xs) :: Γ):=hS.join fun f g h1 h2=>⟨f,g,rfl,h1,h2⟩
  obtain ⟨fp,⟨fy,f,rfl,hyo,hv⟩,hnd,_⟩:=hS'.head
  have hel:cs.length=S.sz:=S.rd_len (S.own_rd hyo)
  obtain ⟨cur,hh,hcs⟩:∃ cur,w.heap[g]? = some (.cells cur E (0,0))/\k*R.sz+j+cs.length<=cur.size:=by
   rcases hv with ⟨_,h,_⟩ | ⟨g',cap',cur,ccs,f2,h,hg',h1,h2,h3,h4,h5,_⟩
   ·subst h;simp at hk
   ·simp at h
    obtain ⟨rfl,_⟩:=h
    have:=(yh hyo h5 k hk hup).1
    have hcl:ccs.length=xs.length*R.sz:=j6 (jb h5)
    exact ⟨cur,hg',by rw [h3];exact Nat.le_trans oa (mc _ h1)⟩
  have hh':w.heap[g]? = some (.cells cur.toList.toArray E (0,0)):=by simpa using hh
  obtain ⟨w',hr,hnew,hc⟩:=iN (P:=P) cs (k*R.sz+j) 0 cur.toList w hh' (by simp;omega) (S.rd_one (S.own_rd hyo))
  have hsz:¬ (cs.toArray.size≠inf.size):=by simp;omega
  unfold Oper.wp execOp
  simp only [ha.eval,hx,Instr.storeAt,Instr.sureAddr,storeVar,sizeOf,typeInfo,hi,hy,dE,fG,mF,d8,hsz,nj,q8,ri,hr,w6]
  refine hK' _ _ (hK w' ?_ _ ha)
  refine hS'.yK ?_
  rintro _ ⟨gy,gf,rfl,hy2,hv2⟩ hnd2
  rcases hv2 with ⟨_,h,_⟩ | ⟨g',cap',cur',ccs,f2,h,hg',h1,h2,h3,h4,h5,rfl⟩
  ·subst h;simp at hk
  ·simp at h
   obtain ⟨rfl,rfl,rfl⟩:=h
   obtain ⟨rfl⟩:cur'=cur:=by rw [hh] at hg';simpa using hg'.symm
   obtain ⟨hle,f',g',h6,hp⟩:=yh hy2 h5 k hk hup
   have hoth:∀ x,x≠g->x<w.heap.size->w'.heap[x]? = w.heap[x]?:=fun x hx hlt=>hc.block x hlt (by simpa using hx)
   have hcl:ccs.length=xs.length*R.sz:=j6 (jb h5)
   have hpp:(f'++g'++[g]).Perm (gy++g :: f2):=qP.2 fun a=>by
    have:=qP.1 hp a
    simp only [zf,List.count_cons,List.count_nil] at this ⊢;omega
   have hnd3:=hpp.nodup_iff.2 hnd2
   have hgn:g∉f':=fun hm=>by
    have:=(mE.1 hnd3).2.2 g (gV _ hm) g (by simp)
    exact this rfl
   refine ⟨g :: f',.inr ⟨g,cap,_,ccs.take (k*R.sz+j)++cs++ccs.drop (k*R.sz+j+cs.length),f',by simp,hnew,by simpa using h1,h2,?_,?_,hQ h6 (fun b hb=>hoth b (fun e=>hgn (e ▸ hb)) (iE h6 b hb)),rfl⟩,?_,hc.mono (by simp),fun b hb=>.inl ?_⟩
   ·simp only [pq,b8,dh,jq,s9,lh]
    omega
   ·rw [<- h4,gP]
    have:=tT cur.toList cs (k*R.sz+j) cs.length (xs.length*R.sz) oa (by simp;have:=mc R.sz h1;omega) rfl
    simp only [lh] at this ⊢
    rw [this]
   ·exact lV.2 ⟨hgn,(mE.1 (mE.1 hnd3).1).1⟩
   ·refine hpp.mem_iff.1 ?_
    rcases cZ.1 hb with rfl | hb
    ·simp
    ·simp [hb]
end
theorem uI {e:Env} {i:Nat} {x:Operand} {v:Value} {l:List (Nat × Operand)} {vs:List Value} (h:(ev e x).cells=[v].toArray) (t:l.map (fun p=>(p.1,(ev e p.2).cells))=((vs.zipIdx (i+1)).map fun p=>(p.2,[p.1].toArray))) :
  ((i,x) :: l).map (fun p=>(p.1,(ev e p.2).cells))=(((v :: vs).zipIdx i).map fun p=>(p.2,[p.1].toArray)):=by rw [fI,List.zipIdx_cons,fI,h,t]
def fzR {α:Type} (W:World) (F:List Nat) (R:Rep α):Rep α where
 sz:=R.sz
 rd _ cs x:=∃ f,R.own W cs x f/\∀ b∈f,b∈F
 own _ cs x fp:=(∃ f,R.own W cs x f/\∀ b∈f,b∈F)/\fp=[]
 rd_len h:=by obtain ⟨f,h,_⟩:=h;exact R.rd_len (R.own_rd h)
 rd_one h:=by obtain ⟨f,h,_⟩:=h;exact R.rd_one (R.own_rd h)
 rd_ext h _:=h
 own_rd h:=h.1
 own_ext h _:=h
 own_lt h:=by rw [h.2];simp
section
variable {α:Type} {R:Rep α} {W w w0:World} {Γ:List Asn} {F:List Nat} {E:TypeId} {v:Value}
theorem EX:∀ {xs:List α} {ccs:List Value} {f:List Nat},fW R W ccs xs f->(∀ b∈f,b∈F)->fW (fzR W F R) w ccs xs []
 | [],_,_,h,_=>⟨h.1,rfl⟩
 | x :: xs,_,_,h,hs=>by
  obtain ⟨ec,rest,f1,f2,rfl,rfl,h1,h2⟩:=h
  exact ⟨ec,rest,[],[],rfl,rfl,⟨⟨f1,h1,fun b hb=>hs b (gV _ hb)⟩,rfl⟩,EX h2 fun b hb=>hs b (i7 _ hb)⟩
theorem BS (he:∀ b∈F,w.heap[b]? = W.heap[b]?):∀ {xs:List α} {ccs:List Value} {f':List Nat},fW (fzR W F R) w ccs xs f'->∃ f,fW R w ccs xs f/\∀ b∈f,b∈F
 | [],_,_,h=>⟨[],⟨h.1,rfl⟩,by simp⟩
 | x :: xs,_,_,h=>by
  obtain ⟨ec,rest,f1,f2,rfl,rfl,⟨⟨f,h1,hs⟩,_⟩,h2⟩:=h
  obtain ⟨f3,h3,h4⟩:=BS he h2
  refine ⟨f++f3,⟨ec,rest,f,f3,rfl,rfl,R.own_ext h1 fun b hb=>he b (hs b hb),h3⟩,fun b hb=>?_⟩
  rcases dj.1 hb with h | h
  ·exact hs b h
  ·exact h4 b h
theorem Sat.yG {xs:List α} (hS:Sat w0 w (Own (aH R E) [v] xs :: Γ)):∃ F,Sat w0 w (Own (aH (fzR w F R) E) [v] xs :: Frz w F :: Γ):=by
 obtain ⟨hb,_,⟨f1,f2,rfl,h1,h2⟩,hn,h3⟩:=hS
 rcases h1 with ⟨k1,rfl,rfl⟩ | ⟨g,cap,cur,ccs,fe,hv,hg,k1,k2,k3,k4,k5,rfl⟩
 ·exact ⟨[],hb,f2,⟨[],f2,rfl,.inl ⟨k1,rfl,rfl⟩,[],f2,rfl,⟨rfl,by simp,by simp⟩,h2⟩,hn,h3⟩
 ·exact ⟨fe,hb,_,⟨[g],fe++f2,rfl,.inr ⟨g,cap,cur,ccs,[],hv,hg,k1,k2,k3,k4,EX k5 (fun _ h=>h),rfl⟩,fe,f2,rfl,⟨rfl,fun _ _=>rfl,iE k5⟩,h2⟩,hn,h3⟩
theorem Sat.yJ {xs:List α} (hS:Sat w0 w (Own (aH (fzR W F R) E) [v] xs :: Frz W F :: Γ)):∃ F1 F2,(aH R E).own w [v] xs F1/\(∀ b∈F1,b∈F2)/\Sat w0 w (Frz w F2 :: Γ):=by
 obtain ⟨hb,_,⟨f1,_,rfl,h1,fF,f2,rfl,⟨rfl,he,hlt⟩,h2⟩,hn,h3⟩:=hS
 have hl:∀ b∈fF,b<w.heap.size:=fun b hb=>by
  have:=he b hb
  rw [nK (hlt b hb)] at this
  exact (j0.1 this).1
 rcases h1 with ⟨k1,rfl,rfl⟩ | ⟨g,cap,cur,ccs,fe,hv,hg,k1,k2,k3,k4,k5,rfl⟩
 ·exact ⟨[],fF,.inl ⟨k1,rfl,rfl⟩,by simp,hb,_,⟨fF,f2,rfl,⟨rfl,fun _ _=>rfl,hl⟩,h2⟩,hn,h3⟩
 ·obtain ⟨f,k6,k7⟩:=BS he k5
  have hfe:fe=[]:=by
   clear hn h3 k4 k3 hg
   suffices ∀ (xs:List α) (ccs:List Value) (f':List Nat),fW (fzR W fF R) w ccs xs f'->f'=[] from this _ _ _ k5
   intro xs
   induction xs with
   | nil=>intro _ _ h;exact h.2
   | cons x xs ih =>
    rintro _ _ ⟨ec,rest,f1,f2,rfl,rfl,⟨_,rfl⟩,h2⟩
    rw [ih _ _ h2];rfl
  subst hfe
  refine ⟨g :: f,g :: fF,.inr ⟨g,cap,cur,ccs,f,hv,hg,k1,k2,k3,k4,k6,rfl⟩,fun b hb=>?_,hb,_,⟨g :: fF,f2,rfl,⟨rfl,fun _ _=>rfl,fun b hb=>?_⟩,h2⟩,by simpa using hn,by simpa using h3⟩
  ·rcases cZ.1 hb with rfl | h
   ·simp
   ·exact fJ _ (k7 b h)
  ·rcases cZ.1 hb with rfl | h
   ·exact (j0.1 hg).1
   ·exact hl b h
end
section
variable {α:Type} {R:Rep α} {W w w0 w1:World} {Γ:List Asn} {F F':List Nat} {E:TypeId} {v:Value} {cs:List Value} {x:α}
theorem Sat.zN (i:Nat) (hS:Sat w0 w Γ) (hi:Γ[i]? = some (Frz W F)) (h:R.own W cs x F') (hs:∀ b∈F',b∈F):R.own w cs x F' :=
 R.own_ext h (fun b hb=>hS.zX i hi b (hs b hb))
theorem Sat.zQ (hS:Sat w0 w (Frz W F :: Γ)):Sat w0 w (Frz w F :: Γ) :=
 hS.conv fun f h=>⟨h.1,fun _ _=>rfl,fun b hb=>(Frz W F).lt h b (by rw [h.1];exact hb)⟩
theorem Sat.yA {xs:List α} {i:Int} {u:α} {g m:Nat} (hS:Sat w0 w (Own R cs u :: mt R E v xs i.toNat cs g m :: Γ)) (h:ix xs i=some u):Sat w0 w (Own (aH R E) [v] xs :: Γ):=by
 obtain ⟨k,rfl,hk,rfl⟩:=jD h
 refine hS.zM (i:=(k:Int)) ?_
 unfold sto
 rw [aX oa,iR,List.set_getElem_self]
theorem Sat.fzOne (hS:Sat w0 w Γ) (h:(fzR W F R).rd w1 cs x):Sat w0 w (tW (fzR W F R) cs [x] :: Γ) :=
 (hS.add (A:=Own (fzR W F R) cs x) ⟨h,rfl⟩).one
end
def vn (N:Nat) (a0:yQ):Option Bool:=some (decide (1048576<(a0.length:Int)))
def jL (N:Nat) (a0:yQ) (a1 a2:Int):Option (Int×Int×Int):=(sr (IntKind.i64.wrap ((IntKind.i64.wrap (a2*6364136223846793005))+1442695040888963407)) 33).bind fun J=>(sr (IntKind.i64.wrap ((IntKind.i64.wrap (a2*6364136223846793005))+1442695040888963407)) 45).bind fun U=>(bif decide (a1<(a0.length:Int)) then (ix a0 a1).bind fun Y=>some ((jH (IntKind.i64.wrap ((jH (nZ J U) 255)+(IntKind.i64.wrap Y))) 255),(IntKind.i64.wrap (a1+1)),(IntKind.i64.wrap ((IntKind.i64.wrap (a2*6364136223846793005))+1442695040888963407))) else some ((jH (nZ J U) 255),a1,(IntKind.i64.wrap ((IntKind.i64.wrap (a2*6364136223846793005))+1442695040888963407))))
def cw (N:Nat) (a0:yQ) (a1 a2 a3:Int):Option (Int×Int×Int):=(bif decide (a3<=0) then some (0,a1,a2) else (bif decide (a3<=256) then (jL N a0 a1 a2).bind fun J=>(rm J.1 a3).bind fun MR=>some (MR,J.2.1,J.2.2) else (jL N a0 a1 a2).bind fun U=>(jL N a0 U.2.1 U.2.2).bind fun Y=>(jL N a0 Y.2.1 Y.2.2).bind fun Z=>(jL N a0 Z.2.1 Z.2.2).bind fun MQ=>(ml U.1 16777216).bind fun MS=>(ml Y.1 65536).bind fun MT=>(ad MS MT).bind fun MU=>(ml Z.1 256).bind fun MV=>(ad MU MV).bind fun MW=>(ad MW MQ.1).bind fun MX=>(rm MX a3).bind fun MY=>some (MY,MQ.2.1,MQ.2.2)))
def kS (N:Nat) (a0:yQ) (a1 a2 a3:Int):Option (Bool×Int×Int):=(cw N a0 a1 a2 a3).bind fun J=>some ((J.1 == 0),J.2.1,J.2.2)
def gc (N:Nat) (a0:yQ) (a1 a2:Int) (a3:yQ):Option (Int×Int×Int):=(cw N a0 a1 a2 (a3.length:Int)).bind fun J=>(ix a3 J.1).bind fun U=>some (U,J.2.1,J.2.2)
def dO (N:Nat) (a0 a1 a2:Int):Option Bool:=(bif decide (a1<=a0) then some (decide (a0<=a2)) else some false)
def e7 (N:Nat):Nat->yQ->Int->Option (Sum Bool Int)
 | 0,_,_=>none
 | k+1,U,J=>(bif decide (J<(U.length:Int)) then (ix U J).bind fun Y=>(dO N Y 0 99).bind fun Z=>(bif Z then (ad J 1).bind fun MQ=>e7 N k U MQ else some (.inl false)) else some (.inr J))
def iF (N:Nat) (a0:yQ):Option Bool:=(e7 N N a0 0).bind fun J=>lpS J (fun q=>some q) fun U=>some true
def ii (N:Nat):Nat->Int->T2_->Int->T2_->Int->T2_->Int->Option (T2_×Int)
 | 0,_,_,_,_,_,_,_=>none
 | k+1,Z,U,MQ,MR,MS,Y,J=>(bif decide (J<(U.length:Int)) then (ix U J).bind fun MT=>(apd 8 [] MT).bind fun MU=>(apd 24 Y [MU]).bind fun MV=>(ad J 1).bind fun MW=>ii N k Z U MQ MR MS MV MW else some (Y,J))
def np (N:Nat) (a0:Int) (a1:T2_):Option (Int×T2_):=(ii N N a0 a1 0 [] a0 [] 0).bind fun J=>lpB J fun (U,Y)=>some (a0,U)
def jr (N:Nat):Nat->yQ->yQ->Int->Option (Sum Int Int)
 | 0,_,_,_=>none
 | k+1,U,Y,J=>(bif decide (J<(U.length:Int)) then (bif decide (J<(Y.length:Int)) then (ix U J).bind fun Z=>(ix Y J).bind fun MQ=>(bif decide (Z<MQ) then some (.inl (-1)) else (ix U J).bind fun MR=>(ix Y J).bind fun MS=>(bif decide (MS<MR) then some (.inl 1) else (ad J 1).bind fun MT=>jr N k U Y MT)) else some (.inr J)) else some (.inr J))
def cn (N:Nat) (a0 a1:yQ):Option Int:=(jr N N a0 a1 0).bind fun J=>lpS J (fun q=>some q) fun U=>(bif decide ((a0.length:Int)<(a1.length:Int)) then some (-1) else (bif decide ((a1.length:Int)<(a0.length:Int)) then some 1 else some 0))
def bk (rec:T2_->Option T2_) (N:Nat):Nat->T2_->T2_->T2_->Option (T2_×T2_×T2_)
 | 0,_,_,_=>none
 | k+1,U,Y,J=>(bif decide (0<(U.length:Int)) then (bif ((U.length:Int) == 0) then (bif decide (0<(1:Int)) then (ix Y 0).bind fun Z=>(slc Y 1 (Y.length:Int)).bind fun MQ=>(bif ((J.length:Int) == 0) then (apd 24 J [Z]).bind fun Na=>bk rec N k U MQ Na else (sb (J.length:Int) 1).bind fun Nb=>(ix J Nb).bind fun Nc=>(cn N Nc Z).bind fun Nd=>(bif (Nd != 0) then (apd 24 J [Z]).bind fun Nf=>bk rec N k U MQ Nf else bk rec N k U MQ J)) else (ix U 0).bind fun MR=>(slc U 1 (U.length:Int)).bind fun MS=>(bif ((J.length:Int) == 0) then (apd 24 J [MR]).bind fun Ng=>bk rec N k MS Y Ng else (sb (J.length:Int) 1).bind fun Nh=>(ix J Nh).bind fun Ni=>(cn N Ni MR).bind fun Nj=>(bif (Nj != 0) then (apd 24 J [MR]).bind fun Nk=>bk rec N k MS Y Nk else bk rec N k MS Y J))) else (bif decide (0<(Y.length:Int)) then (ix U 0).bind fun Nl=>(ix Y 0).bind fun Nm=>(cn N Nl Nm).bind fun Nn=>(bif decide (0<Nn) then (ix Y 0).bind fun MT=>(slc Y 1 (Y.length:Int)).bind fun MU=>(bif ((J.length:Int) == 0) then (apd 24 J [MT]).bind fun No=>bk rec N k U MU No else (sb (J.length:Int) 1).bind fun Np=>(ix J Np).bind fun Nq=>(cn N Nq MT).bind fun Nr=>(bif (Nr != 0) then (apd 24 J [MT]).bind fun Ns=>bk rec N k U MU Ns else bk rec N k U MU J)) else (ix U 0).bind fun MV=>(slc U 1 (U.length:Int)).bind fun MW=>(bif ((J.length:Int) == 0) then (apd 24 J [MV]).bind fun Nt=>bk rec N k MW Y Nt else (sb (J.length:Int) 1).bind fun Nu=>(ix J Nu).bind fun Nv=>(cn N Nv MV).bind fun Nw=>(bif (Nw != 0) then (apd 24 J [MV]).bind fun Nx=>bk rec N k MW Y Nx else bk rec N k MW Y J))) else (bif decide (0<((-1):Int)) then (ix Y 0).bind fun MX=>(slc Y 1 (Y.length:Int)).bind fun MY=>(bif ((J.length:Int) == 0) then (apd 24 J [MX]).bind fun Ny=>bk rec N k U MY Ny else (sb (J.length:Int) 1).bind fun Nz=>(ix J Nz).bind fun NA=>(cn N NA MX).bind fun NB=>(bif (NB != 0) then (apd 24 J [MX]).bind fun NC=>bk rec N k U MY NC else bk rec N k U MY J)) else (ix U 0).bind fun MZ=>(slc U 1 (U.length:Int)).bind fun M1=>(bif ((J.length:Int) == 0) then (apd 24 J [MZ]).bind fun ND=>bk rec N k M1 Y ND else (sb (J.length:Int) 1).bind fun NE=>(ix J NE).bind fun NF=>(cn N NF MZ).bind fun NG=>(bif (NG != 0) then (apd 24 J [MZ]).bind fun NH=>bk rec N k M1 Y NH else bk rec N k M1 Y J))))) else (bif decide (0<(Y.length:Int)) then (bif ((U.length:Int) == 0) then (bif decide (0<(1:Int)) then (ix Y 0).bind fun M2=>(slc Y 1 (Y.length:Int)).bind fun M3=>(bif ((J.length:Int) == 0) then (apd 24 J [M2]).bind fun NI=>bk rec N k U M3 NI else (sb (J.length:Int) 1).bind fun NJ=>(ix J NJ).bind fun NK=>(cn N NK M2).bind fun NL=>(bif (NL != 0) then (apd 24 J [M2]).bind fun NM=>bk rec N k U M3 NM else bk rec N k U M3 J)) else (ix U 0).bind fun M4=>(slc U 1 (U.length:Int)).bind fun M5=>(bif ((J.length:Int) == 0) then (apd 24 J [M4]).bind fun NN=>bk rec N k M5 Y NN else (sb (J.length:Int) 1).bind fun NO=>(ix J NO).bind fun NP=>(cn N NP M4).bind fun NQ=>(bif (NQ != 0) then (apd 24 J [M4]).bind fun NR=>bk rec N k M5 Y NR else bk rec N k M5 Y J))) else (ix U 0).bind fun NS=>(ix Y 0).bind fun NT=>(cn N NS NT).bind fun NU=>(bif decide (0<NU) then (ix Y 0).bind fun M6=>(slc Y 1 (Y.length:Int)).bind fun M7=>(bif ((J.length:Int) == 0) then (apd 24 J [M6]).bind fun NV=>bk rec N k U M7 NV else (sb (J.length:Int) 1).bind fun NW=>(ix J NW).bind fun NX=>(cn N NX M6).bind fun NY=>(bif (NY != 0) then (apd 24 J [M6]).bind fun NZ=>bk rec N k U M7 NZ else bk rec N k U M7 J)) else (ix U 0).bind fun M8=>(slc U 1 (U.length:Int)).bind fun M9=>(bif ((J.length:Int) == 0) then (apd 24 J [M8]).bind fun N1=>bk rec N k M9 Y N1 else (sb (J.length:Int) 1).bind fun N3=>(ix J N3).bind fun N4=>(cn N N4 M8).bind fun N5=>(bif (N5 != 0) then (apd 24 J [M8]).bind fun N6=>bk rec N k M9 Y N6 else bk rec N k M9 Y J)))) else some (U,Y,J)))
def iZ:Nat->T2_->Option T2_
 | 0,_=>none
 | N+1,a0=>(bif decide ((a0.length:Int)<2) then some a0 else (qt (a0.length:Int) 2).bind fun J=>(slc a0 0 J).bind fun Z=>(iZ N Z).bind fun MQ=>(slc a0 J (a0.length:Int)).bind fun MR=>(iZ N MR).bind fun MS=>(bk (iZ N) N N MQ MS []).bind fun U=>lpB U fun (MT,MU,Y)=>some Y)
def dH (N:Nat):Nat->Int->T2_->Int->Option (Sum Bool Int)
 | 0,_,_,_=>none
 | k+1,Y,U,J=>(bif decide (J<(U.length:Int)) then (ix U J).bind fun Z=>(bif ((Z.length:Int) != Y) then some (.inl false) else (ix U J).bind fun MQ=>(iF N MQ).bind fun MR=>(bif MR then (bif decide (0<J) then (sb J 1).bind fun MS=>(ix U MS).bind fun MT=>(ix U J).bind fun MU=>(cn N MT MU).bind fun MV=>(bif decide (0<=MV) then some (.inl false) else (ad J 1).bind fun MW=>dH N k Y U MW) else (ad J 1).bind fun MX=>dH N k Y U MX) else some (.inl false))) else some (.inr J))
def gt (N:Nat) (a0:Int) (a1:T2_):Option Bool:=(dO N a0 0 5).bind fun J=>(bif J then (bif decide (4000<(a1.length:Int)) then some false else (dH N N a0 a1 0).bind fun U=>lpS U (fun q=>some q) fun Y=>some true) else some false)
def fq (N:Nat):Nat->Int->T2_->Int->T2_->Int->Option (Sum ((Int×T2_)×Bool) Int)
 | 0,_,_,_,_,_=>none
 | k+1,Y,U,Z,MQ,J=>(bif decide (J<(U.length:Int)) then (ix U J).bind fun MR=>(bif ((MR.length:Int) != Y) then some (.inl ((0,[]),false)) else (ix U J).bind fun MS=>(iF N MS).bind fun MT=>(bif MT then (ad J 1).bind fun MU=>fq N k Y U Z MQ MU else some (.inl ((0,[]),false)))) else some (.inr J))
def iK (N:Nat) (a0:Int) (a1:T2_):Option ((Int×T2_)×Bool):=(fq N N a0 a1 0 [] 0).bind fun U=>lpS U (fun q=>some q) fun MQ=>(iZ N a1).bind fun Y=>(np N a0 Y).bind fun J=>(gt N J.1 J.2).bind fun Z=>(bif Z then some ((J.1,J.2),true) else some ((0,[]),false))
def lR (N:Nat):Nat->yQ->Int->Int->Int->Int->yQ->Option (Int×Int×yQ)
 | 0,_,_,_,_,_,_=>none
 | k+1,Y,Z,MQ,MR,MS,J=>(bif decide ((J.length:Int)<MR) then (cw N Y Z MQ MS).bind fun U=>(apd 8 J [U.1]).bind fun MT=>lR N k Y U.2.1 U.2.2 MR MS MT else some (Z,MQ,J))
def og (N:Nat) (a0:yQ) (a1 a2 a3 a4:Int):Option (yQ×Int×Int):=(lR N N a0 a1 a2 a3 a4 []).bind fun J=>lpB J fun (U,Y,Z)=>some (Z,U,Y)
def lP (N:Nat):Nat->yQ->Int->Int->Int->Int->Int->T2_->T2_->Int->Option (Int×Int×T2_×Int)
 | 0,_,_,_,_,_,_,_,_,_=>none
 | k+1,Y,Z,MQ,MR,MS,MU,MV,MT,J=>(bif decide (0<J) then (og N Y Z MQ MR MS).bind fun U=>(apd 24 MT [U.1]).bind fun MW=>(sb J 1).bind fun MX=>lP N k Y U.2.1 U.2.2 MR MS MU MV MW MX else some (Z,MQ,MT,J))
def mV (N:Nat) (a0:yQ) (a1 a2 a3 a4 a5:Int):Option ((Int×T2_)×Int×Int):=(ad a4 1).bind fun Y=>(cw N a0 a1 a2 Y).bind fun J=>(lP N N a0 J.2.1 J.2.2 a3 a5 0 [] [] J.1).bind fun Z=>lpB Z fun (MQ,MR,MS,MT)=>(iK N a3 MS).bind fun U=>some ((U.1.1,U.1.2),MQ,MR)
def jS (N:Nat):Nat->yQ->Int->Int->(List (ByteArray×(Int×T2_)))->Int->(List (ByteArray×(Int×T2_)))->(List ByteArray)->Int->Int->Option (Int×Int×(List (ByteArray×(Int×T2_)))×Int)
 | 0,_,_,_,_,_,_,_,_,_=>none
 | k+1,J,MR,MS,MZ,Y,MT,MU,MV,U=>(bif decide (U<MV) then (ix MU U).bind fun MW=>(bif (eqS MW (⟨#[118]⟩:ByteArray)) then (gc N J MR MS ([3,6,9]:yQ)).bind fun MX=>(mV N J MX.2.1 MX.2.2 3 MX.1 Y).bind fun Z=>(apd 48 MT [(MW,(Z.1.1,Z.1.2))]).bind fun M1=>(ad U 1).bind fun M2=>jS N k J Z.2.1 Z.2.2 MZ Y M1 MU MV M2 else (gc N J MR MS ([3,6,9]:yQ)).bind fun MY=>(mV N J MY.2.1 MY.2.2 2 MY.1 Y).bind fun MQ=>(apd 48 MT [(MW,(MQ.1.1,MQ.1.2))]).bind fun M3=>(ad U 1).bind fun M4=>jS N k J MQ.2.1 MQ.2.2 MZ Y M3 MU MV M4) else some (MR,MS,MT,U))
def pn (N:Nat) (a0:yQ) (a1 a2:Int):Option ((List (ByteArray×(Int×T2_)))×Int×Int):=(gc N a0 a1 a2 ([2,3,4,6]:yQ)).bind fun Y=>(jS N N a0 Y.2.1 Y.2.2 [] Y.1 [] ([(⟨#[114]⟩:ByteArray),(⟨#[115]⟩:ByteArray),(⟨#[116]⟩:ByteArray),(⟨#[117]⟩:ByteArray),(⟨#[118]⟩:ByteArray)]:List ByteArray) (([(⟨#[114]⟩:ByteArray),(⟨#[115]⟩:ByteArray),(⟨#[116]⟩:ByteArray),(⟨#[117]⟩:ByteArray),(⟨#[118]⟩:ByteArray)]:List ByteArray).length:Int) 0).bind fun MR=>lpB MR fun (MS,MT,Z,MV)=>(kS N a0 MS MT 8).bind fun J=>(bif J.1 then (cw N a0 J.2.1 J.2.2 5).bind fun U=>(ix Z U.1).bind fun MQ=>(sto Z U.1 (MQ.1,(MQ.2.1,[]))).bind fun MU=>some (MU,U.2.1,U.2.2) else some (Z,J.2.1,J.2.2))
def mO (N:Nat):Nat->yQ->Int->Int->Option (Sum Int Int)
 | 0,_,_,_=>none
 | k+1,U,Y,J=>(bif decide (J<(U.length:Int)) then (ix U J).bind fun Z=>(bif (Z == Y) then some (.inl J) else (ad J 1).bind fun MQ=>mO N k U Y MQ) else some (.inr J))
def jK (N:Nat) (a0:yQ) (a1:Int):Option Int:=(mO N N a0 a1 0).bind fun J=>lpS J (fun q=>some q) fun U=>some (-1)
def du (N:Nat):Nat->Int->ByteArray->yQ->Int->Option (Sum Bool Int)
 | 0,_,_,_,_=>none
 | k+1,Y,Z,U,J=>(bif decide (J<(U.length:Int)) then (ix U J).bind fun MQ=>(bif (MQ == Y) then some (.inl true) else (ad J 1).bind fun MR=>du N k Y Z U MR) else some (.inr J))
def gd (N:Nat) (a0:ByteArray) (a1:yQ) (a2:Int):Option Bool:=(du N N a2 a0 a1 0).bind fun J=>lpS J (fun q=>some q) fun U=>some false
def iB (N:Nat):Nat->ByteArray->Int->Option (Sum Bool Int)
 | 0,_,_=>none
 | k+1,U,J=>(bif decide (J<(U.size:Int)) then (bx U J).bind fun Y=>(bif decide (Y<97) then some (.inl false) else (bx U J).bind fun Z=>(bif decide (122<Z) then some (.inl false) else (ad J 1).bind fun MQ=>iB N k U MQ)) else some (.inr J))
def jz (N:Nat) (a0:ByteArray):Option Bool:=(iB N N a0 0).bind fun J=>lpS J (fun q=>some q) fun Y=>(dO N (a0.size:Int) 1 4).bind fun U=>some U
def eL (N:Nat):Nat->Int->(List (ByteArray×yQ))->yQ->Int->Int->Option (Sum Bool Int)
 | 0,_,_,_,_,_=>none
 | k+1,Z,U,MQ,Y,J=>(ix U Y).bind fun MR=>(bif decide (J<(MR.2.length:Int)) then (ix U Y).bind fun MS=>(ix MS.2 J).bind fun MT=>(sb Z 1).bind fun MU=>(dO N MT 0 MU).bind fun MV=>(bif MV then (ad J 1).bind fun MW=>eL N k Z U MQ Y MW else some (.inl false)) else some (.inr J))
def eV (N:Nat):Nat->Int->(List (ByteArray×yQ))->yQ->Int->Option (Sum Bool Int)
 | 0,_,_,_,_=>none
 | k+1,Y,U,Z,J=>(bif decide (J<(U.length:Int)) then (ix U J).bind fun MQ=>(jz N MQ.1).bind fun MR=>(bif MR then (ix U J).bind fun MS=>(dO N (MS.2.length:Int) 1 5).bind fun MT=>(bif MT then (eL N N Y U Z J 0).bind fun MU=>lpS MU (fun q=>some (.inl q)) fun MW=>(ad J 1).bind fun MV=>eV N k Y U Z MV else some (.inl false)) else some (.inl false)) else some (.inr J))
def dX (N:Nat):Nat->Int->(List (ByteArray×yQ))->yQ->Int->Bool->Int->Option (Bool×Int)
 | 0,_,_,_,_,_,_=>none
 | k+1,Z,U,MQ,Y,MR,J=>(bif decide (J<(U.length:Int)) then (bif MR then (ad J 1).bind fun MT=>dX N k Z U MQ Y true MT else (ix U J).bind fun MS=>(gd N MS.1 MS.2 Y).bind fun MU=>(ad J 1).bind fun MV=>dX N k Z U MQ Y MU MV) else some (MR,J))
def eS (N:Nat):Nat->Int->(List (ByteArray×yQ))->yQ->Int->Option (Sum Bool Int)
 | 0,_,_,_,_=>none
 | k+1,U,Y,Z,J=>(bif decide (J<U) then (dX N N U Y Z J false 0).bind fun MQ=>lpB MQ fun (MR,MT)=>(bif MR then (ad J 1).bind fun MS=>eS N k U Y Z MS else some (.inl false)) else some (.inr J))
def eU (N:Nat):Nat->Int->(List (ByteArray×yQ))->yQ->Int->Option (Sum Bool Int)
 | 0,_,_,_,_=>none
 | k+1,Y,Z,U,J=>(bif decide (J<(U.length:Int)) then (ix U J).bind fun MQ=>(sb Y 1).bind fun MR=>(dO N MQ 0 MR).bind fun MS=>(bif MS then (slc U 0 J).bind fun MT=>(ix U J).bind fun MU=>(jK N MT MU).bind fun MV=>(bif decide (0<=MV) then some (.inl false) else (ad J 1).bind fun MW=>eU N k Y Z U MW) else some (.inl false)) else some (.inr J))
def eI (N:Nat) (a0:Int) (a1:List (ByteArray×yQ)) (a2:yQ):Option Bool:=(dO N a0 1 5).bind fun J=>(bif J then (dO N (a1.length:Int) 1 4).bind fun U=>(bif U then (bif decide (a0<(a2.length:Int)) then some false else (eV N N a0 a1 a2 0).bind fun Y=>lpS Y (fun q=>some q) fun MR=>(eS N N a0 a1 a2 0).bind fun Z=>lpS Z (fun q=>some q) fun MS=>(eU N N a0 a1 a2 0).bind fun MQ=>lpS MQ (fun q=>some q) fun MT=>some true) else some false) else some false)
def oU (N:Nat):Nat->ByteArray->Int->(List ByteArray)->Int->Int->Option ((List ByteArray)×Int×Int)
 | 0,_,_,_,_,_=>none
 | k+1,U,Y,Z,MQ,J=>(bif decide (J<(U.size:Int)) then (bx U J).bind fun MR=>(bif (MR == Y) then (ssl U MQ J).bind fun MS=>(apd 16 Z [MS]).bind fun MT=>(ad J 1).bind fun MU=>(ad J 1).bind fun MV=>oU N k U Y MT MU MV else (ad J 1).bind fun MW=>oU N k U Y Z MQ MW) else some (Z,MQ,J))
def pX (N:Nat) (a0:ByteArray) (a1:Int):Option (List ByteArray):=(oU N N a0 a1 [] 0 0).bind fun J=>lpB J fun (U,Y,MR)=>(ssl a0 Y (a0.size:Int)).bind fun Z=>(apd 16 U [Z]).bind fun MQ=>some MQ
def kz (N:Nat) (a0:Int):Option ByteArray:=(dO N a0 0 4).bind fun J=>(bif J then (ad a0 1).bind fun U=>(ssl (⟨#[88,89,90,85,86]⟩:ByteArray) a0 U).bind fun Y=>some Y else some ByteArray.empty)
def oe (N:Nat):Nat->ByteArray->yQ->Int->Int->Option (yQ×Int)
 | 0,_,_,_,_=>none
 | k+1,Y,Z,U,J=>(bif decide (J<5) then (kz N J).bind fun MQ=>(ad U 1).bind fun MR=>(ssl Y U MR).bind fun MS=>(bif (eqS MQ MS) then (apd 8 Z [J]).bind fun MT=>(ad J 1).bind fun MU=>oe N k Y MT U MU else (ad J 1).bind fun MV=>oe N k Y Z U MV) else some (Z,J))
def qw (N:Nat):Nat->ByteArray->yQ->Int->Option (yQ×Int)
 | 0,_,_,_=>none
 | k+1,U,Y,J=>(bif decide (J<(U.size:Int)) then (oe N N U Y J 0).bind fun Z=>lpB Z fun (MQ,MS)=>(ad J 1).bind fun MR=>qw N k U MQ MR else some (Y,J))
def qH (N:Nat) (a0:ByteArray):Option yQ:=(qw N N a0 [] 0).bind fun J=>lpB J fun (U,Y)=>some U
def qA (N:Nat):Nat->yQ->ByteArray->Int->Option (ByteArray×Int)
 | 0,_,_,_=>none
 | k+1,U,Y,J=>(bif decide (J<(U.length:Int)) then (ix U J).bind fun Z=>(kz N Z).bind fun MQ=>(rG Y MQ).bind fun MR=>(ad J 1).bind fun MS=>qA N k U MR MS else some (Y,J))
def oP (N:Nat) (a0:yQ):Option ByteArray:=(qA N N a0 (⟨#[40]⟩:ByteArray) 0).bind fun J=>lpB J fun (U,Z)=>(rG U (⟨#[41]⟩:ByteArray)).bind fun Y=>some Y
def lI (N:Nat):Nat->Int->(List (ByteArray×yQ))->yQ->ByteArray->Int->Option (ByteArray×Int)
 | 0,_,_,_,_,_=>none
 | k+1,Z,U,MQ,Y,J=>(bif decide (J<(U.length:Int)) then (bif decide (0<J) then (rG Y (⟨#[44]⟩:ByteArray)).bind fun MR=>(ix U J).bind fun MS=>(rG MR MS.1).bind fun MT=>(ix U J).bind fun MU=>(oP N MU.2).bind fun MV=>(rG MT MV).bind fun MW=>(ad J 1).bind fun MX=>lI N k Z U MQ MW MX else (ix U J).bind fun MY=>(rG Y MY.1).bind fun MZ=>(ix U J).bind fun M1=>(oP N M1.2).bind fun M2=>(rG MZ M2).bind fun M3=>(ad J 1).bind fun M4=>lI N k Z U MQ M3 M4) else some (Y,J))
def o4 (N:Nat) (a0:Int) (a1:List (ByteArray×yQ)) (a2:yQ):Option ByteArray:=(eI N a0 a1 a2).bind fun J=>(bif J then (oP N a2).bind fun U=>(rG U (⟨#[61]⟩:ByteArray)).bind fun Y=>(lI N N a0 a1 a2 Y 0).bind fun Z=>lpB Z fun (MQ,MR)=>some MQ else some ByteArray.empty)
def l8 (N:Nat):Nat->ByteArray->Int->(List (ByteArray×yQ))->yQ->Int->(List (ByteArray×yQ))->yQ->(List ByteArray)->Int->Int->Int->Option T1_
 | 0,_,_,_,_,_,_,_,_,_,_,_=>none
 | k+1,MQ,MR,MS,MT,MU,MV,MW,Y,Z,U,J=>(bif decide (J<5) then (kz N J).bind fun MX=>(ix Y Z).bind fun MY=>(ad U 1).bind fun MZ=>(ssl MY U MZ).bind fun M1=>(bif (eqS MX M1) then (ad J 1).bind fun M2=>(ad J 1).bind fun M3=>l8 N k MQ MR MS MT M2 MV MW Y Z U M3 else (ad J 1).bind fun M4=>l8 N k MQ MR MS MT MU MV MW Y Z U M4) else some (MU,J))
def nI (N:Nat):Nat->ByteArray->Int->(List (ByteArray×yQ))->yQ->Int->(List (ByteArray×yQ))->yQ->(List ByteArray)->Int->Int->Option T1_
 | 0,_,_,_,_,_,_,_,_,_,_=>none
 | k+1,MQ,MR,MS,MT,U,MU,MV,Y,Z,J=>(ix Y Z).bind fun MW=>(bif decide (J<(MW.size:Int)) then (l8 N N MQ MR MS MT U MU MV Y Z J U).bind fun MX=>lpB MX fun (MY,M1)=>(ad J 1).bind fun MZ=>nI N k MQ MR MS MT MY MU MV Y Z MZ else some (U,J))
def nN (N:Nat):Nat->ByteArray->Int->(List (ByteArray×yQ))->yQ->Int->(List (ByteArray×yQ))->yQ->(List ByteArray)->Int->Option (Int×(List (ByteArray×yQ))×Int)
 | 0,_,_,_,_,_,_,_,_,_=>none
 | k+1,Y,Z,MQ,MR,MS,MT,MU,U,J=>(bif decide (J<(U.length:Int)) then (ix U J).bind fun MW=>(pX N MW 40).bind fun MX=>(ix MX 0).bind fun MY=>(ix U J).bind fun MZ=>(qH N MZ).bind fun M1=>(apd 40 MT [(MY,M1)]).bind fun MV=>(nI N N Y Z MQ MR MS MV MU U J 0).bind fun M2=>lpB M2 fun (M3,M5)=>(ad J 1).bind fun M4=>nN N k Y Z MQ MR M3 MV MU U M4 else some (MS,MT,J))
def dn (N:Nat) (a0:ByteArray):Option ((Int×List (ByteArray×yQ)×yQ)×Bool):=(pX N a0 61).bind fun J=>(bif ((J.length:Int) != 2) then some ((0,[],[]),false) else (ix J 0).bind fun MQ=>(qH N MQ).bind fun U=>(ix J 1).bind fun MR=>(pX N MR 44).bind fun MS=>(nN N N a0 0 [] [] 0 [] U MS 0).bind fun MT=>lpB MT fun (Y,Z,MV)=>(o4 N Y Z U).bind fun MU=>(bif (eqS MU a0) then (bif (eqS a0 ByteArray.empty) then some ((0,[],[]),false) else some ((Y,Z,U),true)) else some ((0,[],[]),false)))
def mo (N:Nat) (a0:yQ) (a1 a2:Int) (a3:List ByteArray):Option (ByteArray×Int×Int):=(cw N a0 a1 a2 (a3.length:Int)).bind fun J=>(ix a3 J.1).bind fun U=>some (U,J.2.1,J.2.2)
def kd (N:Nat):Nat->yQ->Int->Int->Int->(List (ByteArray×yQ))->yQ->Int->(List (ByteArray×yQ))->yQ->Int->(List (ByteArray×yQ))->yQ->Int->ByteArray->yQ->Int->Option (Int×Int×yQ×Int)
 | 0,_,_,_,_,_,_,_,_,_,_,_,_,_,_,_,_=>none
 | k+1,Y,Z,MQ,MT,MU,MV,MW,MX,MY,MR,MZ,M1,M2,M3,MS,J=>(bif decide (0<J) then (cw N Y Z MQ MR).bind fun U=>(apd 8 MS [U.1]).bind fun M4=>(sb J 1).bind fun M5=>kd N k Y U.2.1 U.2.2 MT MU MV MW MX MY MR MZ M1 M2 M3 M4 M5 else some (Z,MQ,MS,J))
def kf (N:Nat):Nat->yQ->Int->Int->Int->(List (ByteArray×yQ))->yQ->Int->(List (ByteArray×yQ))->yQ->Int->(List (ByteArray×yQ))->yQ->Int->Option (Int×Int×(List (ByteArray×yQ))×Int)
 | 0,_,_,_,_,_,_,_,_,_,_,_,_,_=>none
 | k+1,Y,MQ,MR,MS,MT,MU,MV,MW,MX,MY,Z,MZ,J=>(bif decide (0<J) then (cw N Y MQ MR 5).bind fun U=>(ix ([(⟨#[114]⟩:ByteArray),(⟨#[115]⟩:ByteArray),(⟨#[116]⟩:ByteArray),(⟨#[117]⟩:ByteArray),(⟨#[118]⟩:ByteArray)]:List ByteArray) U.1).bind fun M1=>(qt U.1 4).bind fun M2=>(ad 2 M2).bind fun M3=>(kd N N Y U.2.1 U.2.2 MS MT MU MV MW MX MY Z MZ J M1 [] M3).bind fun M4=>lpB M4 fun (M5,M6,M7,Na)=>(apd 40 Z [(M1,M7)]).bind fun M8=>(sb J 1).bind fun M9=>kf N k Y M5 M6 MS MT MU MV MW MX MY M8 MZ M9 else some (MQ,MR,Z,J))
def ip (N:Nat):Nat->yQ->Int->Int->Int->(List (ByteArray×yQ))->yQ->Int->(List (ByteArray×yQ))->yQ->Int->(List (ByteArray×yQ))->yQ->Int->Option (Int×Int×yQ×Int)
 | 0,_,_,_,_,_,_,_,_,_,_,_,_,_=>none
 | k+1,Y,MR,MS,MT,MU,MV,MW,MX,MY,Z,MZ,MQ,J=>(bif decide (J<Z) then (kS N Y MR MS 2).bind fun U=>(bif U.1 then (apd 8 ([J]) MQ).bind fun M1=>(ad J 1).bind fun M2=>ip N k Y U.2.1 U.2.2 MT MU MV MW MX MY Z MZ M1 M2 else (ad J 1).bind fun M3=>ip N k Y U.2.1 U.2.2 MT MU MV MW MX MY Z MZ MQ M3) else some (MR,MS,MQ,J))
def mK (N:Nat) (a0:yQ) (a1 a2:Int):Option ((Int×List (ByteArray×yQ)×yQ)×Int×Int):=(mo N a0 a1 a2 ([(⟨#[40,88,89,90,41,61,114,40,88,89,41,44,115,40,89,90,41,44,116,40,90,88,41]⟩:ByteArray),(⟨#[40,88,89,90,85,41,61,114,40,88,89,41,44,115,40,89,90,41,44,116,40,90,85,41,44,117,40,85,88,41]⟩:ByteArray),(⟨#[40,88,89,90,41,61,114,40,88,89,41,44,115,40,89,90,41]⟩:ByteArray),(⟨#[40,88,41,61,114,40,88,89,41,44,115,40,89,90,41,44,116,40,90,85,41]⟩:ByteArray),(⟨#[40,88,89,90,41,61,118,40,88,89,90,41,44,114,40,88,89,41]⟩:ByteArray),(⟨#[40,88,89,41,61,114,40,88,89,41,44,114,40,89,88,41]⟩:ByteArray),(⟨#[40,88,89,90,85,41,61,118,40,88,89,90,41,44,115,40,90,85,41,44,116,40,85,88,41]⟩:ByteArray),(⟨#[40,88,41,61,114,40,88,88,41]⟩:ByteArray),(⟨#[40,88,89,41,61,114,40,88,90,41,44,115,40,90,89,41,44,114,40,88,85,41,44,115,40,85,89,41]⟩:ByteArray),(⟨#[40,41,61,114,40,88,89,41,44,115,40,89,88,41]⟩:ByteArray),(⟨#[40,88,89,90,85,86,41,61,114,40,88,89,41,44,115,40,89,90,41,44,116,40,90,85,41,44,117,40,85,86,41]⟩:ByteArray)]:List ByteArray)).bind fun Z=>(dn N Z.1).bind fun J=>(kS N a0 Z.2.1 Z.2.2 3).bind fun U=>(bif U.1 then (cw N a0 U.2.1 U.2.2 4).bind fun MQ=>(ad 1 MQ.1).bind fun Y=>(cw N a0 MQ.2.1 MQ.2.2 4).bind fun MR=>(ad 1 MR.1).bind fun MW=>(kf N N a0 MR.2.1 MR.2.2 0 [] [] J.1.1 J.1.2.1 J.1.2.2 Y [] [] MW).bind fun MX=>lpB MX fun (MY,MZ,MS,M3)=>(ip N N a0 MY MZ 0 [] [] J.1.1 J.1.2.1 J.1.2.2 Y MS [] 0).bind fun M1=>lpB M1 fun (MT,MU,MV,M4)=>(eI N Y MS MV).bind fun M2=>(bif M2 then some ((Y,MS,MV),MT,MU) else some ((J.1.1,J.1.2.1,J.1.2.2),MT,MU)) else some ((J.1.1,J.1.2.1,J.1.2.2),U.2.1,U.2.2))
def pr (N:Nat) (a0:yQ) (a1 a2:Int):Option ((Int×T2_)×Int×Int):=(cw N a0 a1 a2 4).bind fun Y=>(mV N a0 Y.2.1 Y.2.2 Y.1 6 4).bind fun J=>(cw N a0 J.2.1 J.2.2 14).bind fun U=>(bif (U.1 == 0) then (ad J.1.1 1).bind fun MT=>(gc N a0 U.2.1 U.2.2 ([(-1),6,MT]:yQ)).bind fun Z=>some ((Z.1,J.1.2),Z.2.1,Z.2.2) else (bif (U.1 == 1) then (og N a0 U.2.1 U.2.2 (imx 0 J.1.1) 4).bind fun MQ=>(apd 24 J.1.2 [MQ.1]).bind fun MU=>some ((J.1.1,MU),MQ.2.1,MQ.2.2) else (bif (U.1 == 2) then (bif decide (0<(J.1.2.length:Int)) then (bif decide (0<J.1.1) then (ix J.1.2 0).bind fun MS=>(gc N a0 U.2.1 U.2.2 ([(-1),100,99]:yQ)).bind fun MR=>(ix MS 0).bind fun MX=>(sto MS 0 MR.1).bind fun MV=>(sto J.1.2 0 MV).bind fun MW=>some ((J.1.1,MW),MR.2.1,MR.2.2) else some ((J.1.1,J.1.2),U.2.1,U.2.2)) else some ((J.1.1,J.1.2),U.2.1,U.2.2)) else some ((J.1.1,J.1.2),U.2.1,U.2.2))))
def py (N:Nat) (a0:yQ) (a1 a2:Int):Option ((List (ByteArray×(Int×T2_)))×Int×Int):=(pn N a0 a1 a2).bind fun U=>(cw N a0 U.2.1 U.2.2 5).bind fun Y=>(cw N a0 Y.2.1 Y.2.2 14).bind fun J=>(bif (J.1 == 0) then (mo N a0 J.2.1 J.2.2 ([ByteArray.empty,(⟨#[82]⟩:ByteArray),(⟨#[97,98,99,100,101]⟩:ByteArray),(⟨#[97]⟩:ByteArray),(⟨#[122]⟩:ByteArray)]:List ByteArray)).bind fun MQ=>(ix U.1 Y.1).bind fun MS=>(sto U.1 Y.1 (MQ.1,(MS.2.1,MS.2.2))).bind fun MT=>some (MT,MQ.2.1,MQ.2.2) else (bif (J.1 == 1) then (pr N a0 J.2.1 J.2.2).bind fun Z=>(ix U.1 Y.1).bind fun MU=>(sto U.1 Y.1 (MU.1,(Z.1.1,Z.1.2))).bind fun MV=>some (MV,Z.2.1,Z.2.2) else (bif (J.1 == 2) then (ix U.1 Y.1).bind fun MR=>(apd 48 U.1 [(MR.1,(MR.2.1,MR.2.2))]).bind fun MW=>some (MW,J.2.1,J.2.2) else (bif (J.1 == 3) then (slc U.1 0 Y.1).bind fun MX=>some (MX,J.2.1,J.2.2) else some (U.1,J.2.1,J.2.2)))))
def pJ (N:Nat) (a0:yQ) (a1 a2:Int):Option ((Int×List (ByteArray×yQ)×yQ)×Int×Int):=(mK N a0 a1 a2).bind fun J=>(cw N a0 J.2.1 J.2.2 14).bind fun U=>(bif (U.1 == 0) then (ad J.1.1 1).bind fun MT=>(gc N a0 U.2.1 U.2.2 ([0,6,MT]:yQ)).bind fun Y=>some ((Y.1,J.1.2.1,J.1.2.2),Y.2.1,Y.2.2) else (bif (U.1 == 1) then (mo N a0 U.2.1 U.2.2 ([ByteArray.empty,(⟨#[119]⟩:ByteArray),(⟨#[114]⟩:ByteArray)]:List ByteArray)).bind fun Z=>(apd 40 J.1.2.1 [(Z.1,[0])]).bind fun MU=>some ((J.1.1,MU,J.1.2.2),Z.2.1,Z.2.2) else (bif (U.1 == 2) then (cw N a0 U.2.1 U.2.2 6).bind fun MQ=>(sb MQ.1 1).bind fun MV=>(apd 8 J.1.2.2 [MV]).bind fun MW=>some ((J.1.1,J.1.2.1,MW),MQ.2.1,MQ.2.2) else (bif (U.1 == 3) then (ix J.1.2.1 0).bind fun MX=>(sto J.1.2.1 0 (MX.1,[])).bind fun MY=>some ((J.1.1,MY,J.1.2.2),U.2.1,U.2.2) else (bif (U.1 == 4) then (ix J.1.2.1 0).bind fun MR=>(gc N a0 U.2.1 U.2.2 ([(-1),5]:yQ)).bind fun MS=>(ix MR.2 0).bind fun M2=>(sto MR.2 0 MS.1).bind fun MZ=>(sto J.1.2.1 0 (MR.1,MZ)).bind fun M1=>some ((J.1.1,M1,J.1.2.2),MS.2.1,MS.2.2) else some ((J.1.1,J.1.2.1,J.1.2.2),U.2.1,U.2.2))))))
def oE (N:Nat) (a0:yQ) (a1 a2:Int):Option ((List (ByteArray×(Int×T2_)))×(Int×List (ByteArray×yQ)×yQ)×Int×Int):=(pn N a0 a1 a2).bind fun Z=>(mK N a0 Z.2.1 Z.2.2).bind fun J=>(cw N a0 J.2.1 J.2.2 24).bind fun U=>(bif (U.1 == 0) then (py N a0 U.2.1 U.2.2).bind fun MQ=>some (MQ.1,(J.1.1,J.1.2.1,J.1.2.2),MQ.2.1,MQ.2.2) else (bif (U.1 == 1) then (pJ N a0 U.2.1 U.2.2).bind fun Y=>some (Z.1,(Y.1.1,Y.1.2.1,Y.1.2.2),Y.2.1,Y.2.2) else some (Z.1,(J.1.1,J.1.2.1,J.1.2.2),U.2.1,U.2.2)))
def jc (N:Nat):Nat->yQ->Int->Int->Int->yQ->Int->Option Int
 | 0,_,_,_,_,_,_=>none
 | k+1,Z,MQ,MR,U,Y,J=>(jK N Y J).bind fun MS=>(bif decide (0<=MS) then (ad J 1).bind fun MT=>(rm MT U).bind fun MU=>jc N k Z MQ MR U Y MU else some J)
def kh (N:Nat):Nat->yQ->Int->Int->Int->yQ->Option (Int×Int×yQ)
 | 0,_,_,_,_,_=>none
 | k+1,Z,MQ,MR,U,Y=>(bif decide ((Y.length:Int)<U) then (cw N Z MQ MR U).bind fun J=>(jc N N Z J.2.1 J.2.2 U Y J.1).bind fun MS=>lpB MS fun MT=>(apd 8 Y [MT]).bind fun MU=>kh N k Z J.2.1 J.2.2 U MU else some (MQ,MR,Y))
def n6 (N:Nat) (a0:yQ) (a1 a2 a3:Int):Option (yQ×Int×Int):=(kh N N a0 a1 a2 a3 []).bind fun J=>lpB J fun (U,Y,Z)=>some (Z,U,Y)
def mZ (N:Nat) (a0:yQ) (a1 a2 a3:Int) (a4:List (ByteArray×yQ)) (a5:yQ):Option (yQ×Int×Int):=(n6 N a0 a1 a2 (imx 0 (imn 5 a3))).bind fun J=>(bif decide (0<(J.1.length:Int)) then (kS N a0 J.2.1 J.2.2 14).bind fun U=>(bif U.1 then (cw N a0 U.2.1 U.2.2 6).bind fun Y=>(ix J.1 0).bind fun MQ=>(sto J.1 0 Y.1).bind fun Z=>some (Z,Y.2.1,Y.2.2) else some (J.1,U.2.1,U.2.2)) else some (J.1,J.2.1,J.2.2))
def n4 (N:Nat) (a0:yQ) (a1 a2:Int):Option ((List (ByteArray×(Int×T2_)))×(Int×List (ByteArray×yQ)×yQ)×yQ×Int×Int):=(oE N a0 a1 a2).bind fun J=>(mZ N a0 J.2.2.1 J.2.2.2 J.2.1.1 J.2.1.2.1 J.2.1.2.2).bind fun U=>some (J.1,(J.2.1.1,J.2.1.2.1,J.2.1.2.2),U.1,U.2.1,U.2.2)
def kv (N:Nat):Nat->yQ->Int->Int->Option T1_
 | 0,_,_,_=>none
 | k+1,U,Y,J=>(bif decide (J<(U.length:Int)) then (bif decide (J<4000) then (ml Y 131).bind fun Z=>(ix U J).bind fun MQ=>(ad Z (IntKind.i64.wrap MQ)).bind fun MR=>(ad MR 7).bind fun MS=>(ad J 1).bind fun MT=>kv N k U (jH MS 1073741823) MT else some (Y,J)) else some (Y,J))
def pv (N:Nat) (a0:yQ):Option T1_:=(ad 10101 (a0.length:Int)).bind fun J=>(kv N N a0 J 0).bind fun U=>lpB U fun (Y,Z)=>some (0,Y)
def js (N:Nat) (a0:yQ):Option ((List (ByteArray×(Int×T2_)))×(Int×List (ByteArray×yQ)×yQ)×yQ):=(pv N a0).bind fun U=>(n4 N a0 U.1 U.2).bind fun J=>some (J.1,(J.2.1.1,J.2.1.2.1,J.2.1.2.2),J.2.2.1)
def fc (N:Nat) (a0 a1 a2:Int):Option Bool:=(bif decide (a1<=a0) then some (decide (a0<=a2)) else some false)
def l0 (N:Nat):Nat->Int->yQ->Int->Int->Option (Sum Int Int)
 | 0,_,_,_,_=>none
 | k+1,U,Y,Z,J=>(bif decide (J<Z) then (ix Y J).bind fun MQ=>(bif (MQ == U) then some (.inl J) else (ad J 1).bind fun MR=>l0 N k U Y Z MR) else some (.inr J))
def li (N:Nat) (a0:yQ) (a1:Int):Option Int:=(l0 N N a1 a0 (a0.length:Int) 0).bind fun J=>lpS J (fun q=>some q) fun U=>some (-1)
def mg (N:Nat) (a0:yQ) (a1:Int):Option Bool:=(li N a0 a1).bind fun J=>some (decide (0<=J))
def iq (N:Nat):Nat->yQ->Int->yQ->Int->Int->Option (Sum Bool Int)
 | 0,_,_,_,_,_=>none
 | k+1,U,Y,Z,MQ,J=>(bif decide (J<MQ) then (ix Z J).bind fun MR=>(sb Y 1).bind fun MS=>(fc N MR 0 MS).bind fun MT=>(bif MT then (slc U 0 J).bind fun MU=>(mg N MU MR).bind fun MV=>(bif MV then some (.inl false) else (ad J 1).bind fun MW=>iq N k U Y Z MQ MW) else some (.inl false)) else some (.inr J))
def lC (N:Nat) (a0:yQ) (a1:Int):Option Bool:=(iq N N a0 a1 a0 (a0.length:Int) 0).bind fun J=>lpS J (fun q=>some q) fun U=>some true
def jj (N:Nat):Nat->ByteArray->Int->Option (Sum Bool Int)
 | 0,_,_=>none
 | k+1,U,J=>(bif decide (J<(U.size:Int)) then (bx U J).bind fun Y=>(bif decide (Y<97) then some (.inl false) else (bx U J).bind fun Z=>(bif decide (122<Z) then some (.inl false) else (ad J 1).bind fun MQ=>jj N k U MQ)) else some (.inr J))
def oo (N:Nat) (a0:ByteArray) (a1:Int):Option Bool:=(bif decide ((a0.size:Int)<1) then some false else (bif decide (a1<(a0.size:Int)) then some false else (jj N N a0 0).bind fun J=>lpS J (fun q=>some q) fun U=>some true))
def jF (N:Nat) (a0:ByteArray):Option Bool:=(oo N a0 4).bind fun J=>some J
def d6 (N:Nat):Nat->Int->(List Bool)->(List (ByteArray×yQ))->Int->Int->yQ->Int->Int->Option (Sum Bool ((List Bool)×Int))
 | 0,_,_,_,_,_,_,_,_=>none
 | k+1,Z,U,MS,MT,MU,MQ,MR,J=>(bif decide (J<MR) then (ix MQ J).bind fun Y=>(sb Z 1).bind fun MV=>(fc N Y 0 MV).bind fun MW=>(bif MW then (ix U Y).bind fun MZ=>(sto U Y true).bind fun MX=>(ad J 1).bind fun MY=>d6 N k Z MX MS MT MU MQ MR MY else some (.inl false)) else some (.inr (U,J)))
def d7 (N:Nat):Nat->Int->(List Bool)->(List (ByteArray×yQ))->Int->Int->Option (Sum Bool ((List Bool)×Int))
 | 0,_,_,_,_,_=>none
 | k+1,MQ,MR,Y,Z,J=>(bif decide (J<Z) then (ix Y J).bind fun U=>(jF N U.1).bind fun MS=>(bif MS then (fc N (U.2.length:Int) 1 5).bind fun MT=>(bif MT then (d6 N N MQ MR Y Z J U.2 (U.2.length:Int) 0).bind fun MU=>lpS MU (fun q=>some (.inl q)) fun (MV,MX)=>(ad J 1).bind fun MW=>d7 N k MQ MV Y Z MW else some (.inl false)) else some (.inl false)) else some (.inr (MR,J)))
def eX (N:Nat):Nat->(List Bool)->Int->Int->Option (Sum Bool Int)
 | 0,_,_,_=>none
 | k+1,U,Y,J=>(bif decide (J<Y) then (ix U J).bind fun Z=>(bif Z then (ad J 1).bind fun MQ=>eX N k U Y MQ else some (.inl false)) else some (.inr J))
def gH (N:Nat) (a0:Int) (a1:List (ByteArray×yQ)) (a2:yQ):Option Bool:=(fc N a0 1 5).bind fun U=>(bif U then (fc N (a1.length:Int) 1 4).bind fun Y=>(bif Y then (lC N a2 a0).bind fun Z=>(bif Z then (mk 1 (false:Bool) a0).bind fun MQ=>(d7 N N a0 MQ a1 (a1.length:Int) 0).bind fun MR=>lpS MR (fun q=>some q) fun (J,MT)=>(eX N N J (J.length:Int) 0).bind fun MS=>lpS MS (fun q=>some q) fun MU=>some true else some false) else some false) else some false)
def gw (N:Nat) (a0 a1:Int):Option Int:=(bif decide (a0<a1) then some (-1) else (bif decide (a1<a0) then some 1 else some 0))
def jt (N:Nat):Nat->yQ->yQ->Int->Option (Sum Int Int)
 | 0,_,_,_=>none
 | k+1,U,Y,J=>(bif decide (J<(U.length:Int)) then (bif decide (J<(Y.length:Int)) then (ix U J).bind fun Z=>(ix Y J).bind fun MQ=>(bif (Z != MQ) then (ix U J).bind fun MR=>(ix Y J).bind fun MS=>(gw N MR MS).bind fun MT=>some (.inl MT) else (ad J 1).bind fun MU=>jt N k U Y MU) else some (.inr J)) else some (.inr J))
def gx (N:Nat) (a0 a1:yQ):Option Int:=(jt N N a0 a1 0).bind fun J=>lpS J (fun q=>some q) fun Y=>(gw N (a0.length:Int) (a1.length:Int)).bind fun U=>some U
def e8 (N:Nat):Nat->yQ->Int->Int->Option (Sum Bool Int)
 | 0,_,_,_=>none
 | k+1,U,Y,J=>(bif decide (J<Y) then (ix U J).bind fun Z=>(fc N Z 0 99).bind fun MQ=>(bif MQ then (ad J 1).bind fun MR=>e8 N k U Y MR else some (.inl false)) else some (.inr J))
def iA (N:Nat) (a0:yQ):Option Bool:=(e8 N N a0 (a0.length:Int) 0).bind fun J=>lpS J (fun q=>some q) fun U=>some true
def f8 (N:Nat):Nat->Int->T2_->T2_->Int->Int->Option (Sum Bool Int)
 | 0,_,_,_,_,_=>none
 | k+1,U,Y,Z,MQ,J=>(bif decide (J<MQ) then (ix Z J).bind fun MR=>(bif ((MR.length:Int) != U) then some (.inl false) else (iA N MR).bind fun MS=>(bif MS then (bif decide (0<J) then (sb J 1).bind fun MT=>(ix Y MT).bind fun MU=>(gx N MU MR).bind fun MV=>(bif decide (0<=MV) then some (.inl false) else (ad J 1).bind fun MW=>f8 N k U Y Z MQ MW) else (ad J 1).bind fun MX=>f8 N k U Y Z MQ MX) else some (.inl false))) else some (.inr J))
def mQ (N:Nat) (a0:Int) (a1:T2_):Option Bool:=(fc N a0 0 5).bind fun J=>(bif J then (bif decide (4000<(a1.length:Int)) then some false else (f8 N N a0 a1 a1 (a1.length:Int) 0).bind fun U=>lpS U (fun q=>some q) fun Y=>some true) else some false)
def dY (N:Nat) (a0:Int) (a1:T2_):Option Bool:=(mQ N a0 a1).bind fun J=>some J
def dc (N:Nat):Nat->(List (ByteArray×(Int×T2_)))->(List (ByteArray×(Int×T2_)))->Int->Int->Option (Sum Bool Int)
 | 0,_,_,_,_=>none
 | k+1,Y,Z,MQ,U=>(bif decide (U<MQ) then (ix Z U).bind fun J=>(jF N J.1).bind fun MR=>(bif MR then (bif decide (0<U) then (sb U 1).bind fun MS=>(ix Y MS).bind fun MT=>(bif (ltS MT.1 J.1) then (dY N J.2.1 J.2.2).bind fun MU=>(bif MU then (bif decide (J.2.1<1) then some (.inl false) else (bif decide (16<(J.2.2.length:Int)) then some (.inl false) else (ad U 1).bind fun MV=>dc N k Y Z MQ MV)) else some (.inl false)) else some (.inl false)) else (dY N J.2.1 J.2.2).bind fun MW=>(bif MW then (bif decide (J.2.1<1) then some (.inl false) else (bif decide (16<(J.2.2.length:Int)) then some (.inl false) else (ad U 1).bind fun MX=>dc N k Y Z MQ MX)) else some (.inl false))) else some (.inl false)) else some (.inr U))
def ia (N:Nat) (a0:List (ByteArray×(Int×T2_))):Option Bool:=(bif decide (6<(a0.length:Int)) then some false else (dc N N a0 a0 (a0.length:Int) 0).bind fun J=>lpS J (fun q=>some q) fun U=>some true)
def kw (N:Nat) (a0:yQ):Option yQ:=(apd 8 [] a0).bind fun J=>some J
def gv (N:Nat):Nat->T2_->T2_->Int->Int->Option (T2_×Int)
 | 0,_,_,_,_=>none
 | k+1,U,Y,Z,J=>(bif decide (J<Z) then (ix Y J).bind fun MQ=>(kw N MQ).bind fun MR=>(apd 24 U [MR]).bind fun MS=>(ad J 1).bind fun MT=>gv N k MS Y Z MT else some (U,J))
def lQ (N:Nat) (a0:T2_):Option T2_:=(gv N N [] a0 (a0.length:Int) 0).bind fun J=>lpB J fun (U,Y)=>some U
def kI (N:Nat) (a0:Int) (a1:T2_):Option (Int×T2_):=(lQ N a1).bind fun J=>some (a0,J)
def dW (N:Nat):Nat->ByteArray->Int->T2_->(List (ByteArray×(Int×T2_)))->Int->Int->Option (Sum ((Int×T2_)×Bool) Int)
 | 0,_,_,_,_,_,_=>none
 | k+1,Y,MS,MT,Z,MQ,J=>(bif decide (J<MQ) then (ix Z J).bind fun U=>(bif (eqS U.1 Y) then (kI N U.2.1 U.2.2).bind fun MR=>some (.inl ((MR.1,MR.2),true)) else (ad J 1).bind fun MU=>dW N k Y MS MT Z MQ MU) else some (.inr J))
def iC (N:Nat) (a0:List (ByteArray×(Int×T2_))) (a1:ByteArray):Option ((Int×T2_)×Bool):=(ia N a0).bind fun J=>(bif J then (dW N N a1 0 [] a0 (a0.length:Int) 0).bind fun U=>lpS U (fun q=>some q) fun Y=>some ((0,[]),false) else some ((0,[]),false))
def fR (N:Nat):Nat->(List (ByteArray×(Int×T2_)))->(List (ByteArray×yQ))->Int->Int->Option (Sum Bool Int)
 | 0,_,_,_,_=>none
 | k+1,U,Y,Z,J=>(bif decide (J<Z) then (ix Y J).bind fun MQ=>(iC N U MQ.1).bind fun MR=>(bif MR.2 then (bif (MR.1.1 != (MQ.2.length:Int)) then some (.inl false) else (ad J 1).bind fun MS=>fR N k U Y Z MS) else some (.inl false)) else some (.inr J))
def l7 (N:Nat) (a0:List (ByteArray×(Int×T2_))) (a1:Int) (a2:List (ByteArray×yQ)) (a3:yQ):Option Bool:=(gH N a1 a2 a3).bind fun J=>(bif J then (ia N a0).bind fun U=>(bif U then (fR N N a0 a2 (a2.length:Int) 0).bind fun Y=>lpS Y (fun q=>some q) fun Z=>some true else some false) else some false)
def kJ (N:Nat) (a0:Int) (a1:List (ByteArray×yQ)) (a2 a3:yQ):Option Bool:=(gH N a0 a1 a2).bind fun J=>(bif J then (bif ((a3.length:Int) == a0) then (lC N a3 a0).bind fun U=>some U else some false) else some false)
def jQ (N:Nat) (a0:yQ):Option Bool:=(bif decide ((a0.length:Int)<=5) then (lC N a0 (a0.length:Int)).bind fun J=>some J else some false)
def gl (N:Nat):Nat->Int->yQ->Int->Int->Option (Sum Bool Int)
 | 0,_,_,_,_=>none
 | k+1,U,Y,Z,J=>(bif decide (J<Z) then (ix Y J).bind fun MQ=>(sb U 1).bind fun MR=>(fc N MQ 0 MR).bind fun MS=>(bif MS then (ad J 1).bind fun MT=>gl N k U Y Z MT else some (.inl false)) else some (.inr J))
def kg (N:Nat) (a0:Int) (a1:yQ):Option Bool:=(bif decide (5<(a1.length:Int)) then some false else (gl N N a0 a1 (a1.length:Int) 0).bind fun J=>lpS J (fun q=>some q) fun U=>some true)
def je (N:Nat):Nat->yQ->yQ->yQ->Int->Int->Option (yQ×Int)
 | 0,_,_,_,_,_=>none
 | k+1,U,Y,Z,MQ,J=>(bif decide (J<MQ) then (ix Z J).bind fun MR=>(ix U MR).bind fun MS=>(apd 8 Y [MS]).bind fun MT=>(ad J 1).bind fun MU=>je N k U MT Z MQ MU else some (Y,J))
def pp (N:Nat) (a0 a1:yQ):Option yQ:=(je N N a0 [] a1 (a1.length:Int) 0).bind fun J=>lpB J fun (U,Y)=>some U
def bq (rec:T2_->Option T2_) (N:Nat):Nat->T2_->T2_->T2_->Option (T2_×T2_×T2_)
 | 0,_,_,_=>none
 | k+1,U,J,Y=>(bif decide (0<(U.length:Int)) then (bif ((U.length:Int) == 0) then (bif decide ((1:Int)<=0) then (ix U 0).bind fun M2=>(apd 24 Y [M2]).bind fun MR=>(slc U 1 (U.length:Int)).bind fun MS=>(bif decide (0<=(1:Int)) then (bif decide (0<(1:Int)) then (ix J 0).bind fun M3=>(apd 24 MR [M3]).bind fun M4=>(slc J 1 (J.length:Int)).bind fun M5=>bq rec N k MS M5 M4 else (slc J 1 (J.length:Int)).bind fun M6=>bq rec N k MS M6 MR) else bq rec N k MS J MR) else (bif decide (0<=(1:Int)) then (bif decide (0<(1:Int)) then (ix J 0).bind fun M7=>(apd 24 Y [M7]).bind fun M8=>(slc J 1 (J.length:Int)).bind fun M9=>bq rec N k U M9 M8 else (slc J 1 (J.length:Int)).bind fun Na=>bq rec N k U Na Y) else bq rec N k U J Y)) else (bif decide (0<(J.length:Int)) then (ix U 0).bind fun Nb=>(ix J 0).bind fun Nc=>(gx N Nb Nc).bind fun Z=>(bif decide (Z<=0) then (ix U 0).bind fun Nd=>(apd 24 Y [Nd]).bind fun MT=>(slc U 1 (U.length:Int)).bind fun MU=>(bif decide (0<=Z) then (bif decide (0<Z) then (ix J 0).bind fun Nf=>(apd 24 MT [Nf]).bind fun Ng=>(slc J 1 (J.length:Int)).bind fun Nh=>bq rec N k MU Nh Ng else (slc J 1 (J.length:Int)).bind fun Ni=>bq rec N k MU Ni MT) else bq rec N k MU J MT) else (bif decide (0<=Z) then (bif decide (0<Z) then (ix J 0).bind fun Nj=>(apd 24 Y [Nj]).bind fun Nk=>(slc J 1 (J.length:Int)).bind fun Nl=>bq rec N k U Nl Nk else (slc J 1 (J.length:Int)).bind fun Nm=>bq rec N k U Nm Y) else bq rec N k U J Y)) else (bif decide (((-1):Int)<=0) then (ix U 0).bind fun Nn=>(apd 24 Y [Nn]).bind fun MV=>(slc U 1 (U.length:Int)).bind fun MW=>(bif decide (0<=((-1):Int)) then (bif decide (0<((-1):Int)) then (ix J 0).bind fun No=>(apd 24 MV [No]).bind fun Np=>(slc J 1 (J.length:Int)).bind fun Nq=>bq rec N k MW Nq Np else (slc J 1 (J.length:Int)).bind fun Nr=>bq rec N k MW Nr MV) else bq rec N k MW J MV) else (bif decide (0<=((-1):Int)) then (bif decide (0<((-1):Int)) then (ix J 0).bind fun Ns=>(apd 24 Y [Ns]).bind fun Nt=>(slc J 1 (J.length:Int)).bind fun Nu=>bq rec N k U Nu Nt else (slc J 1 (J.length:Int)).bind fun Nv=>bq rec N k U Nv Y) else bq rec N k U J Y)))) else (bif decide (0<(J.length:Int)) then (bif ((U.length:Int) == 0) then (bif decide ((1:Int)<=0) then (ix U 0).bind fun Nw=>(apd 24 Y [Nw]).bind fun MX=>(slc U 1 (U.length:Int)).bind fun MY=>(bif decide (0<=(1:Int)) then (bif decide (0<(1:Int)) then (ix J 0).bind fun Nx=>(apd 24 MX [Nx]).bind fun Ny=>(slc J 1 (J.length:Int)).bind fun Nz=>bq rec N k MY Nz Ny else (slc J 1 (J.length:Int)).bind fun NA=>bq rec N k MY NA MX) else bq rec N k MY J MX) else (bif decide (0<=(1:Int)) then (bif decide (0<(1:Int)) then (ix J 0).bind fun NB=>(apd 24 Y [NB]).bind fun NC=>(slc J 1 (J.length:Int)).bind fun ND=>bq rec N k U ND NC else (slc J 1 (J.length:Int)).bind fun NE=>bq rec N k U NE Y) else bq rec N k U J Y)) else (ix U 0).bind fun NF=>(ix J 0).bind fun NG=>(gx N NF NG).bind fun MQ=>(bif decide (MQ<=0) then (ix U 0).bind fun NH=>(apd 24 Y [NH]).bind fun MZ=>(slc U 1 (U.length:Int)).bind fun M1=>(bif decide (0<=MQ) then (bif decide (0<MQ) then (ix J 0).bind fun NI=>(apd 24 MZ [NI]).bind fun NJ=>(slc J 1 (J.length:Int)).bind fun NK=>bq rec N k M1 NK NJ else (slc J 1 (J.length:Int)).bind fun NL=>bq rec N k M1 NL MZ) else bq rec N k M1 J MZ) else (bif decide (0<=MQ) then (bif decide (0<MQ) then (ix J 0).bind fun NM=>(apd 24 Y [NM]).bind fun NN=>(slc J 1 (J.length:Int)).bind fun NO=>bq rec N k U NO NN else (slc J 1 (J.length:Int)).bind fun NP=>bq rec N k U NP Y) else bq rec N k U J Y))) else some (U,J,Y)))
def hY:Nat->T2_->Option T2_
 | 0,_=>none
 | N+1,a0=>(bif decide ((a0.length:Int)<2) then (lQ N a0).bind fun Z=>some Z else (qt (a0.length:Int) 2).bind fun J=>(slc a0 0 J).bind fun MQ=>(slc a0 J (a0.length:Int)).bind fun MR=>(hY N MQ).bind fun MS=>(hY N MR).bind fun MT=>(bq (hY N) N N MS MT []).bind fun U=>lpB U fun (MU,MV,Y)=>some Y)
def fu (N:Nat):Nat->Int->T2_->Int->T2_->T2_->Int->Int->Option (Sum ((Int×T2_)×Bool) Int)
 | 0,_,_,_,_,_,_,_=>none
 | k+1,U,MR,MS,MT,Y,Z,J=>(bif decide (J<Z) then (ix Y J).bind fun MQ=>(bif ((MQ.length:Int) != U) then some (.inl ((0,[]),false)) else (iA N MQ).bind fun MU=>(bif MU then (ad J 1).bind fun MV=>fu N k U MR MS MT Y Z MV else some (.inl ((0,[]),false)))) else some (.inr J))
def jy (N:Nat) (a0:Int) (a1:T2_):Option ((Int×T2_)×Bool):=(fu N N a0 a1 0 [] a1 (a1.length:Int) 0).bind fun U=>lpS U (fun q=>some q) fun Z=>(hY N a1).bind fun J=>(dY N a0 J).bind fun Y=>(bif Y then some ((a0,J),true) else some ((0,[]),false))
def gO (N:Nat):Nat->yQ->Int->T2_->T2_->T2_->Int->Int->Option (T2_×Int)
 | 0,_,_,_,_,_,_,_=>none
 | k+1,U,MR,MS,Y,Z,MQ,J=>(bif decide (J<MQ) then (ix Z J).bind fun MT=>(pp N MT U).bind fun MU=>(apd 24 Y [MU]).bind fun MV=>(ad J 1).bind fun MW=>gO N k U MR MS MV Z MQ MW else some (Y,J))
def nW (N:Nat) (a0:Int) (a1:T2_) (a2:yQ):Option ((Int×T2_)×Bool):=(dY N a0 a1).bind fun U=>(bif U then (kg N a0 a2).bind fun Y=>(bif Y then (gO N N a2 0 [] [] a1 (a1.length:Int) 0).bind fun Z=>lpB Z fun (MQ,MR)=>(jy N (a2.length:Int) MQ).bind fun J=>some ((J.1.1,J.1.2),J.2) else some ((0,[]),false)) else some ((0,[]),false))
def mL (N:Nat) (a0:Int) (a1:T2_) (a2:yQ):Option ((Int×T2_)×Bool):=(jQ N a2).bind fun U=>(bif U then (bif ((a2.length:Int) != a0) then some ((0,[]),false) else (nW N a0 a1 a2).bind fun J=>(bif J.2 then some ((J.1.1,J.1.2),true) else some ((0,[]),false))) else some ((0,[]),false))
def ga (N:Nat) (a0:ByteArray) (a1:yQ) (a2:Int):Option Bool:=(mg N a1 a2).bind fun J=>some J
def dF (N:Nat):Nat->ByteArray->yQ->yQ->Int->Option (yQ×Int)
 | 0,_,_,_,_=>none
 | k+1,U,Y,Z,J=>(bif decide (J<5) then (ga N U Y J).bind fun MQ=>(bif MQ then (apd 8 Z [J]).bind fun MR=>(ad J 1).bind fun MS=>dF N k U Y MR MS else (ad J 1).bind fun MT=>dF N k U Y Z MT) else some (Z,J))
def iL (N:Nat) (a0:ByteArray) (a1:yQ):Option yQ:=(dF N N a0 a1 [] 0).bind fun J=>lpB J fun (U,Y)=>some U
def cG (N:Nat):Nat->ByteArray->yQ->Int->T2_->yQ->Int->T2_->T2_->yQ->yQ->Bool->T2_->Int->Int->yQ->Int->Int->Option (yQ×Bool×Int)
 | 0,_,_,_,_,_,_,_,_,_,_,_,_,_,_,_,_,_=>none
 | k+1,MT,MQ,MU,MV,MW,MX,MY,MZ,U,Y,M1,M2,M3,M4,MR,MS,J=>(bif decide (J<MS) then (ix MR J).bind fun Z=>(li N MQ Z).bind fun M5=>(bif M1 then (ix U M5).bind fun M6=>(ix U J).bind fun M7=>(ix U J).bind fun M8=>(ix Y Z).bind fun Nf=>(sto Y Z M8).bind fun M9=>(ad J 1).bind fun Na=>cG N k MT MQ MU MV MW MX MY MZ U M9 (M6 == M7) M2 M3 M4 MR MS Na else (ix U J).bind fun Nb=>(ix Y Z).bind fun Ng=>(sto Y Z Nb).bind fun Nc=>(ad J 1).bind fun Nd=>cG N k MT MQ MU MV MW MX MY MZ U Nc false M2 M3 M4 MR MS Nd) else some (Y,M1,J))
def d5 (N:Nat):Nat->ByteArray->yQ->Int->T2_->yQ->Int->T2_->T2_->T2_->Int->Int->Option (T2_×Int)
 | 0,_,_,_,_,_,_,_,_,_,_,_=>none
 | k+1,MS,U,MT,MU,Y,MV,MW,Z,MQ,MR,J=>(bif decide (J<MR) then (ix MQ J).bind fun MX=>(mk 8 (0:Int) 5).bind fun MY=>(cG N N MS U MT MU Y MV MW Z MX MY true MQ MR J U (U.length:Int) 0).bind fun MZ=>lpB MZ fun (M1,M2,M7)=>(bif M2 then (pp N M1 Y).bind fun M3=>(apd 24 Z [M3]).bind fun M4=>(ad J 1).bind fun M5=>d5 N k MS U MT MU Y MV MW M4 MQ MR M5 else (ad J 1).bind fun M6=>d5 N k MS U MT MU Y MV MW Z MQ MR M6) else some (Z,J))
def kM (N:Nat) (a0:List (ByteArray×(Int×T2_))) (a1:ByteArray) (a2:yQ):Option (Int×T2_):=(iL N a1 a2).bind fun J=>(iC N a0 a1).bind fun U=>(bif U.2 then (bif (U.1.1 != (a2.length:Int)) then some ((J.length:Int),[]) else (kg N 5 a2).bind fun Y=>(bif Y then (d5 N N a1 a2 0 [] J (J.length:Int) [] [] U.1.2 (U.1.2.length:Int) 0).bind fun Z=>lpB Z fun (MQ,MS)=>(hY N MQ).bind fun MR=>some ((J.length:Int),MR) else some ((J.length:Int),[]))) else some ((J.length:Int),[]))
def cL (N:Nat):Nat->yQ->yQ->yQ->Int->Int->Option (yQ×Int)
 | 0,_,_,_,_,_=>none
 | k+1,Y,U,Z,MQ,J=>(bif decide (J<MQ) then (ix Z J).bind fun MS=>(li N Y MS).bind fun MR=>(bif decide (0<=MR) then (mg N U MR).bind fun MT=>(bif MT then (ad J 1).bind fun MU=>cL N k Y U Z MQ MU else (apd 8 U [MR]).bind fun MV=>(ad J 1).bind fun MW=>cL N k Y MV Z MQ MW) else (ad J 1).bind fun MX=>cL N k Y U Z MQ MX) else some (U,J))
def i8 (N:Nat) (a0:ByteArray) (a1 a2:yQ):Option yQ:=(iL N a0 a1).bind fun J=>(cL N N J [] a2 (a2.length:Int) 0).bind fun U=>lpB U fun (Y,Z)=>some Y
def fS (N:Nat):Nat->yQ->(List (ByteArray×(Int×T2_)))->(List (Int×T2_))->(List (ByteArray×yQ))->Int->Int->Option ((List (Int×T2_))×Int)
 | 0,_,_,_,_,_,_=>none
 | k+1,Y,Z,MQ,MR,MS,J=>(bif decide (J<MS) then (ix MR J).bind fun U=>(kM N Z U.1 U.2).bind fun MT=>(i8 N U.1 U.2 Y).bind fun MV=>(mL N MT.1 MT.2 MV).bind fun MU=>(apd 32 MQ [(MU.1.1,MU.1.2)]).bind fun MW=>(ad J 1).bind fun MX=>fS N k Y Z MW MR MS MX else some (MQ,J))
def j8 (N:Nat) (a0:List (ByteArray×(Int×T2_))) (a1:Int) (a2:List (ByteArray×yQ)) (a3:yQ) (a4:yQ):Option ((List (Int×T2_))×Bool):=(l7 N a0 a1 a2 a3).bind fun J=>(bif J then (kJ N a1 a2 a3 a4).bind fun U=>(bif U then (fS N N a4 a0 [] a2 (a2.length:Int) 0).bind fun Y=>lpB Y fun (Z,MQ)=>some (Z,true) else some ([],false)) else some ([],false))
def de (N:Nat):Nat->(List (ByteArray×(Int×T2_)))->Int->Option (Sum Bool Int)
 | 0,_,_=>none
 | k+1,Y,U=>(bif decide (U<(Y.length:Int)) then (ix Y U).bind fun J=>(jz N J.1).bind fun Z=>(bif Z then (bif decide (0<U) then (sb U 1).bind fun MQ=>(ix Y MQ).bind fun MR=>(bif (ltS MR.1 J.1) then (gt N J.2.1 J.2.2).bind fun MS=>(bif MS then (bif decide (16<(J.2.2.length:Int)) then some (.inl false) else (bif decide (J.2.1<1) then some (.inl false) else (ad U 1).bind fun MT=>de N k Y MT)) else some (.inl false)) else some (.inl false)) else (gt N J.2.1 J.2.2).bind fun MU=>(bif MU then (bif decide (16<(J.2.2.length:Int)) then some (.inl false) else (bif decide (J.2.1<1) then some (.inl false) else (ad U 1).bind fun MV=>de N k Y MV)) else some (.inl false))) else some (.inl false)) else some (.inr U))
def ie (N:Nat) (a0:List (ByteArray×(Int×T2_))):Option Bool:=(de N N a0 0).bind fun J=>lpS J (fun q=>some q) fun U=>some (decide ((a0.length:Int)<=6))
def dm (N:Nat):Nat->ByteArray->(List (ByteArray×(Int×T2_)))->Int->T2_->Int->Option (Sum ((Int×T2_)×Bool) Int)
 | 0,_,_,_,_,_=>none
 | k+1,Y,U,MR,MS,J=>(bif decide (J<(U.length:Int)) then (ie N U).bind fun MT=>(bif MT then (ix U J).bind fun MU=>(bif (eqS MU.1 Y) then (ix U J).bind fun Z=>(np N Z.2.1 Z.2.2).bind fun MQ=>some (.inl ((MQ.1,MQ.2),true)) else (ad J 1).bind fun MV=>dm N k Y U MR MS MV) else some (.inr J)) else some (.inr J))
def iy (N:Nat) (a0:List (ByteArray×(Int×T2_))) (a1:ByteArray):Option ((Int×T2_)×Bool):=(dm N N a1 a0 0 [] 0).bind fun J=>lpS J (fun q=>some q) fun U=>some ((0,[]),false)
def fQ (N:Nat):Nat->(List (ByteArray×(Int×T2_)))->Int->(List (ByteArray×yQ))->yQ->Int->Option (Sum Bool Int)
 | 0,_,_,_,_,_=>none
 | k+1,Y,MQ,U,MR,J=>(bif decide (J<(U.length:Int)) then (ix U J).bind fun MS=>(iy N Y MS.1).bind fun Z=>(bif Z.2 then (ix U J).bind fun MT=>(bif (Z.1.1 != (MT.2.length:Int)) then some (.inl false) else (ad J 1).bind fun MU=>fQ N k Y MQ U MR MU) else some (.inl false)) else some (.inr J))
def j7 (N:Nat) (a0:List (ByteArray×(Int×T2_))) (a1:Int) (a2:List (ByteArray×yQ)) (a3:yQ):Option Bool:=(fQ N N a0 a1 a2 a3 0).bind fun J=>lpS J (fun q=>some q) fun Z=>(eI N a1 a2 a3).bind fun U=>(bif U then (ie N a0).bind fun Y=>some Y else some false)
def fv (N:Nat):Nat->yQ->Int->Option (Sum Bool Int)
 | 0,_,_=>none
 | k+1,J,U=>(bif decide (U<(J.length:Int)) then (ix J U).bind fun Y=>(sb (J.length:Int) 1).bind fun Z=>(dO N Y 0 Z).bind fun MQ=>(bif MQ then (slc J 0 U).bind fun MR=>(ix J U).bind fun MS=>(jK N MR MS).bind fun MT=>(bif decide (0<=MT) then some (.inl false) else (ad U 1).bind fun MU=>fv N k J MU) else some (.inl false)) else some (.inr U))
def jR (N:Nat) (a0:yQ):Option Bool:=(fv N N a0 0).bind fun J=>lpS J (fun q=>some q) fun U=>some (decide ((a0.length:Int)<=5))
def kB (N:Nat) (a0:Int) (a1:List (ByteArray×yQ)) (a2 a3:yQ):Option Bool:=(eI N a0 a1 a2).bind fun J=>(bif J then (bif ((a3.length:Int) == a0) then (jR N a3).bind fun U=>some U else some false) else some false)
end Go.Proofs.YteemghjjopdljaaGreat
