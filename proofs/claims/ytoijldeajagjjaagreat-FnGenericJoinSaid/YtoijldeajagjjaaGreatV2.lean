/- Plain laws: the search by levels (the program) and in depth (the reference) come to the same. -/
import Derived.Test.YtoijldeajagjjaaGreatV1
namespace Go.Proofs.YtoijldeajagjjaaGreat
open Go.RowKit

theorem nW {α β:Type} {xs:List α} {g:α→List β} {i:Nat} (h:i<xs.length):(xs.take (i+1)).flatMap g=(xs.take i).flatMap g++g xs[i]:=by
 rw [List.take_succ_eq_append_getElem h,List.flatMap_append];simp
theorem oX {α:Type} {xs:List α} {g:α→Int} {i:Nat} (h:i<xs.length):((xs.take (i+1)).map g).sum=((xs.take i).map g).sum+g xs[i]:=by
 rw [j4 h,List.sum_append];simp
theorem ug {f:Nxt} {rows:aG} {i:Nat} (h:i<rows.length):i7 f (rows.take (i+1))=i7 f (rows.take i)+(f rows[i]).2:=oX h
theorem tc (f:Nxt):∀ (m:Nat) (L:aG) (c:Int),jz f (m+1) L c=((jz f m L c).1.flatMap (nN f),(jz f m L c).2+i7 f (jz f m L c).1)
 | 0,_,_=>rfl
 | m+1,L,c=>by
  rw [jz,tc f m];rfl
theorem qZ:∀ {i:Nat},i≤5→jX i≤1000000000
 | 0,_=>by decide
 | 1,_=>by decide
 | 2,_=>by decide
 | 3,_=>by decide
 | 4,_=>by decide
 | 5,_=>by decide
section
variable {N:Nat}
theorem u6 {xs:List Int} (h:xs.length≤1048576):gN N xs=some xs:=by
 unfold gN
 rw [lW (by decide) (by omega),bs]
theorem uz (hN:1073741824≤N) {t1:List nH} {order out p vs:List Int} {b1 b2 b3 b4 b5 b6:Int} {atoms:List aU} {next rows:aG} (hp:p.length≤1000) (hv:vs.length≤1000) (hn:next.length≤1073741824) :
  be N N t1 order b1 b2 atoms out b3 b4 next p rows b5 b6 vs (vs.length:Int) 0=some (next++vs.map (fun v=>p++[v]),(vs.length:Int)):=by
 have h:=dr (fun k (o:aG) i=>be N k t1 order b1 b2 atoms out b3 b4 o p rows b5 b6 vs (vs.length:Int) i) vs.length (fun i=>next++(vs.take i).map (fun v=>p++[v])) (next++vs.map (fun v=>p++[v]),(vs.length:Int))
  (fun k i h=>by
   show be N (k+1) t1 order b1 b2 atoms out b3 b4 (next++(vs.take i).map (fun v=>p++[v])) p rows b5 b6 vs (vs.length:Int) (i:Int)=be N k t1 order b1 b2 atoms out b3 b4 (next++(vs.take (i+1)).map (fun v=>p++[v])) p rows b5 b6 vs (vs.length:Int) ((i+1:Nat):Int)
   rw [be,dlt h,cond_true,aN h,bs,u6 (by omega),bs,bi (by decide) (by simp;omega),bs,bi (by decide) (by rw [List.length_append,List.length_map,List.length_take,List.length_singleton];omega),bs,ad1 (by omega),bs,j4 h,List.append_assoc])
  (fun k=>by
   show be N (k+1) t1 order b1 b2 atoms out b3 b4 (next++(vs.take vs.length).map (fun v=>p++[v])) p rows b5 b6 vs (vs.length:Int) (vs.length:Int)=_
   rw [be,dge (by omega),cond_false,List.take_length]) N 0 (by omega) (by omega)
 rw [List.take_zero,List.map_nil,List.append_nil] at h
 exact h
theorem uA (hN:1073741824≤N) {ts:List a6} {n:Nat} {m b1 b4 c:Int} {atoms:List aU} {out order:List Int} (q:QFor ts n atoms order) (ha:cm atoms) {rows:aG} {lv:Nat} (hlv:lv<n) (hrow:∀ r∈rows,r.length=lv) (hl:rows.length≤1048576) (hc:0≤c∧c≤1073741824) :
  bc N N (a9 ts order atoms) order b1 m atoms out c b4 [] rows (rows.length:Int) 0=some (c+i7 (bb ts order atoms) rows,rows.flatMap (nN (bb ts order atoms)),(rows.length:Int)):=by
 have hf:=kL q
 have hn5:=q.n5
 have h4:=q.a4
 have h:=dr (fun k (s:Int × aG) i=>bc N k (a9 ts order atoms) order b1 m atoms out s.1 b4 s.2 rows (rows.length:Int) i) rows.length (fun i=>(c+i7 (bb ts order atoms) (rows.take i),(rows.take i).flatMap (nN (bb ts order atoms)))) (c+i7 (bb ts order atoms) rows,rows.flatMap (nN (bb ts order atoms)),(rows.length:Int))
  (fun k i h=>by
   have hr:=hrow _ (List.getElem_mem h)
   have hll:=ly ts order atoms rows[i]
   have hk:=hf.len rows[i];have h0:=hf.st0 rows[i];have h1:=hf.st1 rows[i]
   have hsb:=qn (g:=fun p=>((bb ts order atoms) p).2) hf.st0 hf.st1 (rows.take i)
   have hsb2:0≤i7 (bb ts order atoms) (rows.take i)∧i7 (bb ts order atoms) (rows.take i)≤(((rows.take i).length:Nat):Int)*1000:=hsb
   have hfl:=km (yq hf) (rows.take i)
   rw [List.length_take] at hsb2 hfl
   show bc N (k+1) (a9 ts order atoms) order b1 m atoms out (c+i7 (bb ts order atoms) (rows.take i)) b4 ((rows.take i).flatMap (nN (bb ts order atoms))) rows (rows.length:Int) (i:Int)=bc N k (a9 ts order atoms) order b1 m atoms out (c+i7 (bb ts order atoms) (rows.take (i+1))) b4 ((rows.take (i+1)).flatMap (nN (bb ts order atoms))) rows (rows.length:Int) ((i+1:Nat):Int)
   rw [bc,dlt h,cond_true,aN h,bs,ua hN q ha (by omega),bs,jF hN ⟨by omega,fun l hl=>⟨by have:=(gx q l hl).1;omega,fun _ _=>trivial⟩⟩,bs]
   show ((ad _ ((bb ts order atoms) rows[i]).2).bind fun x501=>(be N N (a9 ts order atoms) order b1 m atoms out x501 b4 _ rows[i] rows (rows.length:Int) (i:Int) ((bb ts order atoms) rows[i]).1 (((bb ts order atoms) rows[i]).1.length:Int) 0).bind _)=_
   rw [gE (by omega) (by omega),bs,uz hN (by omega) (by omega) (by omega),bs,lpB,nW h,ug h,← Int.add_assoc,ad1 (by omega)];rfl)
  (fun k=>by
   show bc N (k+1) (a9 ts order atoms) order b1 m atoms out (c+i7 (bb ts order atoms) (rows.take rows.length)) b4 ((rows.take rows.length).flatMap (nN (bb ts order atoms))) rows (rows.length:Int) (rows.length:Int)=_
   rw [bc,dge (by omega),cond_false,List.take_length]) N 0 (by omega) (by omega)
 have h':bc N N (a9 ts order atoms) order b1 m atoms out (c+0) b4 [] rows (rows.length:Int) 0=_:=h
 rw [Int.add_zero] at h'
 exact h'
theorem uN (hN:1073741824≤N) {ts:List a6} {n:Nat} {m:Int} {atoms:List aU} {out order:List Int} (q:QFor ts n atoms order) (ha:cm atoms) {len:Nat} (hlen:len≤n) :
  cv N m atoms out (a9 ts order atoms) order (len:Int)=some ((bp (bb ts order atoms) len []).1,(bp (bb ts order atoms) len []).2,decide (((bp (bb ts order atoms) len []).1.length:Int)≤4000)):=by
 have hf:=kL q
 have hn5:=q.n5
 have h:=dr (fun k (s:aG × Int) i=>bj N k (a9 ts order atoms) order (len:Int) m atoms out s.1 s.2 i) len (fun i=>jz (bb ts order atoms) i [[]] 0) ((jz (bb ts order atoms) len [[]] 0).1,(jz (bb ts order atoms) len [[]] 0).2,(len:Int))
  (fun k i h=>by
   have hw:=uR (bb ts order atoms) i
   have hl:=jP hf i []
   have hs:=jl hf i []
   have hp:16 ^ i≤16 ^ 5:=Nat.pow_le_pow_right (by decide) (by omega)
   have hb:=qZ (show i≤5 by omega)
   show bj N (k+1) (a9 ts order atoms) order (len:Int) m atoms out (jz (bb ts order atoms) i [[]] 0).1 (jz (bb ts order atoms) i [[]] 0).2 (i:Int)=bj N k (a9 ts order atoms) order (len:Int) m atoms out (jz (bb ts order atoms) (i+1) [[]] 0).1 (jz (bb ts order atoms) (i+1) [[]] 0).2 ((i+1:Nat):Int)
   rw [tc,hw,bj,dlt h,cond_true,uA hN q ha (show i<n by omega) (fun r hr=>by obtain ⟨s,e1,e⟩:=jS hr;rw [e1];exact e) (by omega) (by omega),bs,lpB,ad1 (by omega)];rfl)
  (fun k=>by
   show bj N (k+1) (a9 ts order atoms) order (len:Int) m atoms out (jz (bb ts order atoms) len [[]] 0).1 (jz (bb ts order atoms) len [[]] 0).2 (len:Int)=_
   rw [bj,dge (by omega),cond_false]) N 0 (by omega) (by omega)
 have h':bj N N (a9 ts order atoms) order (len:Int) m atoms out [[]] 0 0=_:=h
 unfold cv
 rw [h',uR,bs,lpB]
theorem wk {ts:List a6} {n:Nat} {atoms:List aU} {out order:List Int} (q:QFor ts n atoms order) (ha:cm atoms) (ho:okI out) (hq:dV (n:Int) atoms out=true) :
  ∀ (m:Nat) (M:Nat) (p:List Int),p.length+m=n→1073741824+m+1≤M→dj M (a9 ts order atoms) (n:Int) atoms out order p=some (bp (cd ts order atoms) m p):=by
 have hf:=np q
 have hn5:=q.n5
 have hol:=q.ol
 intro m
 induction m with
 | zero =>
  intro M p hp hM
  obtain ⟨M,rfl⟩:∃ K,M=K+1:=⟨M-1,by omega⟩
  rw [dj,show ((p.length:Int) == (order.length:Int))=true by simp;omega,cond_true,lW (by decide) (by omega),bs];rfl
 | succ m ih =>
  intro M p hp hM
  obtain ⟨M,rfl⟩:∃ K,M=K+1:=⟨M-1,by omega⟩
  have h0:=hf.st0 p;have h1:=hf.st1 p;have hk:=hf.len p
  rw [dj,show ((p.length:Int) == (order.length:Int))=false by simp;omega,cond_false,wr (by omega) q ha ho hq (by omega),bs]
  show ((dv (dj M) M M (a9 ts order atoms) order p (n:Int) atoms out [] ((cd ts order atoms) p).1 ((cd ts order atoms) p).2 0).bind _)=_
  have h:=dr (fun k (s:aG × Int) i=>dv (dj M) M k (a9 ts order atoms) order p (n:Int) atoms out s.1 ((cd ts order atoms) p).1 s.2 i) ((cd ts order atoms) p).1.length (fun i=>((((cd ts order atoms) p).1.take i).flatMap (fun v=>(bp (cd ts order atoms) m (p++[v])).1),((cd ts order atoms) p).2+((((cd ts order atoms) p).1.take i).map fun v=>(bp (cd ts order atoms) m (p++[v])).2).sum)) ((bp (cd ts order atoms) (m+1) p).1,(bp (cd ts order atoms) (m+1) p).2,(((cd ts order atoms) p).1.length:Int))
   (fun k i h=>by
    have hp16:16 ^ m≤16 ^ 5:=Nat.pow_le_pow_right (by decide) (by omega)
    have hw:=jP hf m (p++[((cd ts order atoms) p).1[i]])
    have hfl:=km (g:=fun v=>(bp (cd ts order atoms) m (p++[v])).1) (fun v=>jP hf m _) (((cd ts order atoms) p).1.take i)
    have hst:=jl hf m (p++[((cd ts order atoms) p).1[i]])
    have hsb:=qn (g:=fun v=>(bp (cd ts order atoms) m (p++[v])).2) (fun v=>(jl hf m _).1) (fun v=>(jl hf m _).2) (((cd ts order atoms) p).1.take i)
    have hb:=qZ (show m≤5 by omega)
    have hb0:=qr m
    rw [List.length_take] at hfl hsb
    have hmul:=Nat.mul_le_mul (show min i ((cd ts order atoms) p).1.length≤16 by omega) hp16
    have hmul2:((min i ((cd ts order atoms) p).1.length:Nat):Int)*jX m≤16*jX m:=Int.mul_le_mul_of_nonneg_right (by omega) hb0
    show dv (dj M) M (k+1) (a9 ts order atoms) order p (n:Int) atoms out ((((cd ts order atoms) p).1.take i).flatMap (fun v=>(bp (cd ts order atoms) m (p++[v])).1)) ((cd ts order atoms) p).1 (((cd ts order atoms) p).2+((((cd ts order atoms) p).1.take i).map fun v=>(bp (cd ts order atoms) m (p++[v])).2).sum) (i:Int)=dv (dj M) M k (a9 ts order atoms) order p (n:Int) atoms out ((((cd ts order atoms) p).1.take (i+1)).flatMap (fun v=>(bp (cd ts order atoms) m (p++[v])).1)) ((cd ts order atoms) p).1 (((cd ts order atoms) p).2+((((cd ts order atoms) p).1.take (i+1)).map fun v=>(bp (cd ts order atoms) m (p++[v])).2).sum) ((i+1:Nat):Int)
    rw [dv,dlt h,cond_true,aN h,bs,lW (by decide) (by omega),bs,bi (by decide) (by simp;omega),bs,ih M (p++[((cd ts order atoms) p).1[i]]) (by rw [List.length_append,List.length_singleton];omega) (by omega),bs,bi (by decide) (by omega),bs,gE (by omega) (by omega),bs,ad1 (by omega),bs,nW h,oX h,Int.add_assoc])
   (fun k=>by
    show dv (dj M) M (k+1) (a9 ts order atoms) order p (n:Int) atoms out ((((cd ts order atoms) p).1.take ((cd ts order atoms) p).1.length).flatMap (fun v=>(bp (cd ts order atoms) m (p++[v])).1)) ((cd ts order atoms) p).1 (((cd ts order atoms) p).2+((((cd ts order atoms) p).1.take ((cd ts order atoms) p).1.length).map fun v=>(bp (cd ts order atoms) m (p++[v])).2).sum) (((cd ts order atoms) p).1.length:Int)=_
    rw [dv,dge (by omega),cond_false,List.take_length];rfl) M 0 (by omega) (by omega)
  have h':dv (dj M) M M (a9 ts order atoms) order p (n:Int) atoms out [] ((cd ts order atoms) p).1 (((cd ts order atoms) p).2+0) 0=_:=h
  rw [Int.add_zero] at h'
  rw [h',bs,lpB]
theorem uZ (hN:1073741824≤N) {rec:List nH→Int→List aU→List Int→List Int→List Int→Option (aG × Int)} {ts:List a6} {n:Nat} {m:Int} {atoms:List aU} {out order p:List Int} {b1:aG} (q:QFor ts n atoms order) (ha:cm atoms) (hp:p.length<n) :
  dI rec N N (a9 ts order atoms) order p m atoms out b1 (cz (eg atoms (order.getD p.length 0))) [] 0=some (d9 ts order atoms p,((eg atoms (order.getD p.length 0)).length:Int)):=by
 have h4:=q.a4
 have hil:=nb atoms (order.getD p.length 0) atoms.length
 have hcl:=uu (eg atoms (order.getD p.length 0))
 have hil':(eg atoms (order.getD p.length 0)).length≤atoms.length:=hil
 exact dr (fun k (o:aG) i=>dI rec N k (a9 ts order atoms) order p m atoms out b1 (cz (eg atoms (order.getD p.length 0))) o i) (eg atoms (order.getD p.length 0)).length (fun i=>((eg atoms (order.getD p.length 0)).take i).map (atV ts order atoms p)) (d9 ts order atoms p,((eg atoms (order.getD p.length 0)).length:Int))
  (fun k i h=>by
   have hc:=rL h
   rw [vI h] at hc
   have hi:=(nl.1 (List.getElem_mem h)).1
   obtain ⟨o1,o2⟩:=xV hN q ha hp hi
   show dI rec N (k+1) (a9 ts order atoms) order p m atoms out b1 (cz (eg atoms (order.getD p.length 0))) (((eg atoms (order.getD p.length 0)).take i).map (atV ts order atoms p)) (i:Int)=dI rec N k (a9 ts order atoms) order p m atoms out b1 (cz (eg atoms (order.getD p.length 0))) (((eg atoms (order.getD p.length 0)).take (i+1)).map (atV ts order atoms p)) ((i+1:Nat):Int)
   rw [dI,hcl,dlt h,cond_true,hc,bs,pS hi,bs,bs,rp hi,bs,o1,bs,o2,bs,bi (by decide) (by rw [List.length_map,List.length_take,List.length_singleton];omega),bs,ad1 (by omega),bs,j4 h])
  (fun k=>by
   show dI rec N (k+1) (a9 ts order atoms) order p m atoms out b1 (cz (eg atoms (order.getD p.length 0))) (((eg atoms (order.getD p.length 0)).take (eg atoms (order.getD p.length 0)).length).map (atV ts order atoms p)) ((eg atoms (order.getD p.length 0)).length:Int)=_
   rw [dI,hcl,dge (by omega),cond_false,List.take_length];rfl) N 0 (by omega) (by omega)
theorem wG {ts:List a6} {n:Nat} {atoms:List aU} {out order:List Int} (q:QFor ts n atoms order) (ha:cm atoms) (ho:okI out) (hq:dV (n:Int) atoms out=true) :
  ∀ (m:Nat) (M:Nat) (p:List Int),p.length+m=n→1073741824+m+1≤M→cO M (a9 ts order atoms) (n:Int) atoms out order p=some (bp (bb ts order atoms) m p):=by
 have hf:=kL q
 have hn5:=q.n5
 have hol:=q.ol
 intro m
 induction m with
 | zero =>
  intro M p hp hM
  obtain ⟨M,rfl⟩:∃ K,M=K+1:=⟨M-1,by omega⟩
  rw [cO,show ((p.length:Int) == (order.length:Int))=true by simp;omega,cond_true,lW (by decide) (by omega),bs];rfl
 | succ m ih =>
  intro M p hp hM
  obtain ⟨M,rfl⟩:∃ K,M=K+1:=⟨M-1,by omega⟩
  have h0:=hf.st0 p;have h1:=hf.st1 p;have hk:=hf.len p
  rw [cO,show ((p.length:Int) == (order.length:Int))=false by simp;omega,cond_false,ixD (show p.length<order.length by omega),bs,lp (by omega) ha ho hq,bs,uZ (by omega) q ha (by omega),bs,lpB]
  show ((d6 M (d9 ts order atoms p)).bind _)=_
  rw [mM (by omega) ⟨by have:=ly ts order atoms p;have:=q.a4;omega,fun l hl=>⟨by have:=(gx q l hl).1;omega,fun _ _=>trivial⟩⟩,bs]
  show ((dx (cO M) M M (a9 ts order atoms) order p (n:Int) atoms out [] ((bb ts order atoms) p).1 ((bb ts order atoms) p).2 0).bind _)=_
  have h:=dr (fun k (s:aG × Int) i=>dx (cO M) M k (a9 ts order atoms) order p (n:Int) atoms out s.1 ((bb ts order atoms) p).1 s.2 i) ((bb ts order atoms) p).1.length (fun i=>((((bb ts order atoms) p).1.take i).flatMap (fun v=>(bp (bb ts order atoms) m (p++[v])).1),((bb ts order atoms) p).2+((((bb ts order atoms) p).1.take i).map fun v=>(bp (bb ts order atoms) m (p++[v])).2).sum)) ((bp (bb ts order atoms) (m+1) p).1,(bp (bb ts order atoms) (m+1) p).2,(((bb ts order atoms) p).1.length:Int))
   (fun k i h=>by
    have hp16:16 ^ m≤16 ^ 5:=Nat.pow_le_pow_right (by decide) (by omega)
    have hw:=jP hf m (p++[((bb ts order atoms) p).1[i]])
    have hfl:=km (g:=fun v=>(bp (bb ts order atoms) m (p++[v])).1) (fun v=>jP hf m _) (((bb ts order atoms) p).1.take i)
    have hst:=jl hf m (p++[((bb ts order atoms) p).1[i]])
    have hsb:=qn (g:=fun v=>(bp (bb ts order atoms) m (p++[v])).2) (fun v=>(jl hf m _).1) (fun v=>(jl hf m _).2) (((bb ts order atoms) p).1.take i)
    have hb:=qZ (show m≤5 by omega)
    have hb0:=qr m
    rw [List.length_take] at hfl hsb
    have hmul:=Nat.mul_le_mul (show min i ((bb ts order atoms) p).1.length≤16 by omega) hp16
    have hmul2:((min i ((bb ts order atoms) p).1.length:Nat):Int)*jX m≤16*jX m:=Int.mul_le_mul_of_nonneg_right (by omega) hb0
    show dx (cO M) M (k+1) (a9 ts order atoms) order p (n:Int) atoms out ((((bb ts order atoms) p).1.take i).flatMap (fun v=>(bp (bb ts order atoms) m (p++[v])).1)) ((bb ts order atoms) p).1 (((bb ts order atoms) p).2+((((bb ts order atoms) p).1.take i).map fun v=>(bp (bb ts order atoms) m (p++[v])).2).sum) (i:Int)=dx (cO M) M k (a9 ts order atoms) order p (n:Int) atoms out ((((bb ts order atoms) p).1.take (i+1)).flatMap (fun v=>(bp (bb ts order atoms) m (p++[v])).1)) ((bb ts order atoms) p).1 (((bb ts order atoms) p).2+((((bb ts order atoms) p).1.take (i+1)).map fun v=>(bp (bb ts order atoms) m (p++[v])).2).sum) ((i+1:Nat):Int)
    rw [dx,dlt h,cond_true,aN h,bs,lW (by decide) (by omega),bs,bi (by decide) (by simp;omega),bs,ih M (p++[((bb ts order atoms) p).1[i]]) (by rw [List.length_append,List.length_singleton];omega) (by omega),bs,bi (by decide) (by omega),bs,gE (by omega) (by omega),bs,ad1 (by omega),bs,nW h,oX h,Int.add_assoc])
   (fun k=>by
    show dx (cO M) M (k+1) (a9 ts order atoms) order p (n:Int) atoms out ((((bb ts order atoms) p).1.take ((bb ts order atoms) p).1.length).flatMap (fun v=>(bp (bb ts order atoms) m (p++[v])).1)) ((bb ts order atoms) p).1 (((bb ts order atoms) p).2+((((bb ts order atoms) p).1.take ((bb ts order atoms) p).1.length).map fun v=>(bp (bb ts order atoms) m (p++[v])).2).sum) (((bb ts order atoms) p).1.length:Int)=_
    rw [dx,dge (by omega),cond_false,List.take_length];rfl) M 0 (by omega) (by omega)
  have h':dx (cO M) M M (a9 ts order atoms) order p (n:Int) atoms out [] ((bb ts order atoms) p).1 (((bb ts order atoms) p).2+0) 0=_:=h
  rw [Int.add_zero] at h'
  rw [h',bs,lpB]
end
end Go.Proofs.YtoijldeajagjjaaGreat
namespace Go.Proofs.YtoijldeajagjjaaGreat
open Go.RowKit

def kB (ts:List nH):Bool:=ts.any fun t=>decide (t.2.length=0)
def okQ (ts:List a6) (n:Int) (atoms:List aU) (out order:List Int):Bool:=gM ts n atoms out&&ju n atoms out order
abbrev qy:=(Int × aG) × Int × Bool
def lH:qy:=((0,[]),0,false)
def hX (k:Int) (w:aG × Int):qy:=bif decide ((w.1.length:Int)≤4000) then ((k,w.1),w.2,true) else lH
def gc (ts:List a6) (n:Int) (atoms:List aU) (out order:List Int):qy :=
 bif okQ ts n atoms out order then (bif kB (a9 ts order atoms) then ((n,[]),0,true) else hX n (bp (cd ts order atoms) n.toNat [])) else lH
def iy (ts:List a6) (n:Int) (atoms:List aU) (out order:List Int):qy :=
 bif okQ ts n atoms out order then hX n (bp (bb ts order atoms) n.toNat []) else lH
def eE (out order:List Int):List Int:=out.map (cS order)
def mR (j:qy) (out order:List Int):(Int × aG) × Bool:=bif j.2.2 then kI j.1.1 j.1.2 (eE out order) else iE
theorem nA {f:Nxt} (hf:NxtOk f) {k:Nat} (hk:k≤5):cF (bp f k []).1∧(∀ r∈(bp f k []).1,r.length=k∧bA r=true)∧iO (bp f k []).1:=by
 have h1:=jP hf k []
 have hp:16 ^ k≤16 ^ 5:=Nat.pow_le_pow_right (by decide) (by omega)
 have h2:∀ r∈(bp f k []).1,r.length=k∧bA r=true:=fun r hr=>by
  obtain ⟨s,e1,e⟩:=jS hr
  exact ⟨by rw [e1];exact e,rY hf rfl hr⟩
 exact ⟨⟨by omega,fun r hr=>⟨by have:=(h2 r hr).1;omega,fun _ _=>trivial⟩⟩,h2,s3 hf k []⟩
theorem ur {f:Nxt} (hf:NxtOk f) {k:Nat} (hk:k≤5):hH (k:Int) (bp f k []).1=((hX k (bp f k [])).1,(hX k (bp f k [])).2.2):=by
 obtain ⟨h1,h2,h3⟩:=nA hf hk
 rw [u9 (by omega) h1.1 (fun r hr=>by have:=h2 r hr;exact ⟨by omega,this.2⟩) h3]
 unfold hX
 cases decide (((bp f k []).1.length:Int)≤4000) <;> rfl
theorem s4 {f:Nxt} (hf:NxtOk f) {k:Nat} (hk:k≤5):cF (hX k (bp f k [])).1.2:=by
 unfold hX
 cases decide (((bp f k []).1.length:Int)≤4000)
 ·exact ⟨by simp [lH],by simp [lH]⟩
 ·exact (nA hf hk).1
theorem oO {ts:List a6} {n:Int} {atoms:List aU} {out order:List Int} (h:okQ ts n atoms out order=true):∃ m:Nat,n=(m:Int)∧QFor ts m atoms order∧dV n atoms out=true:=by
 unfold okQ at h
 rw [Bool.and_eq_true] at h
 obtain ⟨m,e,q⟩:=ud h.1 h.2
 refine ⟨m,e,q,?_⟩
 have:=h.1
 unfold gM at this
 rw [Bool.and_eq_true] at this
 exact this.1
theorem rE {ts:List a6} {n:Int} {atoms:List aU} {out order:List Int}:cF (gc ts n atoms out order).1.2:=by
 unfold gc
 cases h:okQ ts n atoms out order with
 | false=>exact ⟨by simp [lH],by simp [lH]⟩
 | true =>
  obtain ⟨m,rfl,q,_⟩:=oO h
  cases kB (a9 ts order atoms)
  ·exact s4 (np q) q.n5
  ·exact ⟨by simp,by simp⟩
theorem wN {ts:List a6} {n:Int} {atoms:List aU} {out order:List Int}:cF (iy ts n atoms out order).1.2:=by
 unfold iy
 cases h:okQ ts n atoms out order with
 | false=>exact ⟨by simp [lH],by simp [lH]⟩
 | true =>
  obtain ⟨m,rfl,q,_⟩:=oO h
  exact s4 (kL q) q.n5
theorem yg {n:Int} {rows:aG} {cols:List Int} (h:cF rows) (hc:cols.length≤1048576):cF (kI n rows cols).1.2:=by
 unfold kI
 cases bf n rows&&(decide ((cols.length:Int)≤5)&&g9 n cols)
 ·exact ⟨by simp [iE],by simp [iE]⟩
 ·refine wq ⟨by rw [List.length_map];exact h.1,fun r hr=>?_⟩
  obtain ⟨x,_,rfl⟩:=List.mem_map.1 hr
  exact ⟨by rw [kR];exact hc,fun _ _=>trivial⟩
theorem x7 {j:qy} {out order:List Int} (h:cF j.1.2) (ho:okI out):cF (mR j out order).1.2:=by
 unfold mR
 cases j.2.2
 ·exact ⟨by simp [iE],by simp [iE]⟩
 ·exact yg h (by unfold eE;rw [List.length_map];exact ho.1)
theorem qP {α:Type} (p:α→Bool):∀ xs:List α,(xs.all fun x=>!p x)=!xs.any p
 | []=>rfl
 | x :: xs=>by rw [List.all_cons,List.any_cons,qP p xs,Bool.not_or]
section
variable {N:Nat}
theorem uS (hN:1073741824≤N) {ts:List nH} (hl:ts.length≤1048576):ir N ts=some (kB ts):=by
 have h:=ii (L:=fun k i=>dN N k ts i) ts.length (by omega) true (fun i=>if h:i<ts.length then !decide (ts[i].2.length=0) else true) (ts.length:Int)
  (fun k i h=>by
   show dN N (k+1) ts (i:Int)=_
   rw [dN,dlt h,cond_true,aN h,bs,show ((ts[i].2.length:Int) == 0)=decide (ts[i].2.length=0) from sN _ 0,ad1 (by omega),bs]
   simp only [dif_pos h]
   cases decide (ts[i].2.length=0) <;> rfl)
  (fun k=>by
   show dN N (k+1) ts (ts.length:Int)=_
   rw [dN,dge (by omega),cond_false]) N 0 (by omega) (by omega)
 rw [Nat.sub_zero,gZ ts (fun t=>!decide (t.2.length=0)) _ (fun i hi=>by rw [dif_pos hi]),qP] at h
 have h':dN N N ts 0=some (bif !kB ts then .inr (ts.length:Int) else .inl true):=h
 unfold ir
 rw [h',bs]
 cases kB ts <;> rfl
theorem rj (ts:List a6) (n:Int) (atoms:List aU) (out order:List Int):uo ts n atoms out order=bif okQ ts n atoms out order then (a9 ts order atoms,true) else ([],false):=rfl
theorem lC (hM:1073742848≤N) {ts:List a6} {n:Int} {atoms:List aU} {out order:List Int} (ht:iX ts) (ha:cm atoms) (ho:okI out) (hr:okI order):fO N ts n atoms out order=some (gc ts n atoms out order):=by
 unfold fO gc
 rw [mx hM ht ha ho hr,bs,rj]
 cases h:okQ ts n atoms out order with
 | false=>rfl
 | true =>
  obtain ⟨m,rfl,q,hq⟩:=oO h
  have h4:=q.a4
  have h5:=q.n5
  have hol:=q.ol
  rw [cond_true,cond_true]
  show ((ir N (a9 ts order atoms)).bind _)=_
  rw [uS (by omega) (by rw [mY];omega),bs,hol]
  cases kB (a9 ts order atoms) with
  | true=>rfl
  | false =>
   obtain ⟨w1,_,_⟩:=nA (np q) h5
   rw [cond_false,cond_false]
   show ((dj N (a9 ts order atoms) (m:Int) atoms out order []).bind _)=_
   rw [wk q ha ho hq m N [] (by simp) (by omega),bs,fU hM w1,bs,ur (np q) h5]
   unfold hX
   rw [show ((m:Nat):Int).toNat=m from rfl]
   cases decide (((bp (cd ts order atoms) m []).1.length:Int)≤4000) <;> rfl
theorem lR (hM:1073742848≤N) {ts:List a6} {n:Int} {atoms:List aU} {out order:List Int} (ht:iX ts) (ha:cm atoms) (ho:okI out) (hr:okI order):f7 N ts n atoms out order=some (iy ts n atoms out order):=by
 unfold f7 iy
 rw [pP hM ht ha ho hr,bs,rj]
 cases h:okQ ts n atoms out order with
 | false=>rfl
 | true =>
  obtain ⟨m,rfl,q,_⟩:=oO h
  rw [cond_true,cond_true]
  show ((cv N (m:Int) atoms out (a9 ts order atoms) order (m:Int)).bind _)=_
  rw [uN (by omega) q ha (Nat.le_refl _),bs]
  unfold hX
  rw [show ((m:Nat):Int).toNat=m from rfl]
  show (bif decide (((bp (bb ts order atoms) m []).1.length:Int)≤4000) then _ else _)=_
  cases decide (((bp (bb ts order atoms) m []).1.length:Int)≤4000) <;> rfl
theorem pn (hM:1073742848≤N) {ts:List a6} {n:Int} {atoms:List aU} {out order:List Int} (ht:iX ts) (ha:cm atoms) (ho:okI out) (hr:okI order):hZ N ts n atoms out order=some (iy ts n atoms out order):=by
 unfold hZ iy
 rw [mx hM ht ha ho hr,bs,rj]
 cases h:okQ ts n atoms out order with
 | false=>rfl
 | true =>
  obtain ⟨m,rfl,q,hq⟩:=oO h
  have h5:=q.n5
  have hol:=q.ol
  obtain ⟨w1,_,_⟩:=nA (kL q) h5
  rw [cond_true,cond_true,hol]
  show ((cO N (a9 ts order atoms) (m:Int) atoms out order []).bind _)=_
  rw [wG q ha ho hq m N [] (by simp) (by omega),bs,fU hM w1,bs,ur (kL q) h5]
  unfold hX
  rw [show ((m:Nat):Int).toNat=m from rfl]
  cases decide (((bp (bb ts order atoms) m []).1.length:Int)≤4000) <;> rfl
theorem wY (hN:1073741824≤N) {n:Int} {atoms:List aU} {out order:List Int} (ho:okI out) (hr:okI order):kx N n atoms out order=some (eE out order):=by
 have hol:=ho.1
 have h:=dr (fun k (o:List Int) i=>dW N k order o out (out.length:Int) i) out.length (fun i=>eE (out.take i) order) (eE out order,(out.length:Int))
  (fun k i h=>by
   show dW N (k+1) order (eE (out.take i) order) out (out.length:Int) (i:Int)=dW N k order (eE (out.take (i+1)) order) out (out.length:Int) ((i+1:Nat):Int)
   unfold eE
   rw [dW,dlt h,cond_true,aN h,bs,mX hN hr.1,bs,bi (by decide) (by rw [List.length_map,List.length_take,List.length_singleton];omega),bs,ad1 (by omega),bs,j4 h])
  (fun k=>by
   show dW N (k+1) order (eE (out.take out.length) order) out (out.length:Int) (out.length:Int)=_
   rw [dW,dge (by omega),cond_false,List.take_length]) N 0 (by omega) (by omega)
 have h':dW N N order [] out (out.length:Int) 0=_:=h
 unfold kx
 rw [h',bs,lpB]
theorem yf {k:Nat} {w:aG × Int} (h:k≤5):0≤(hX k w).1.1∧(hX k w).1.1≤5:=by
 unfold hX
 cases decide ((w.1.length:Int)≤4000)
 ·exact ⟨Int.le_refl _,by show (0:Int)≤5;decide⟩
 ·show 0≤(k:Int)∧(k:Int)≤5
  omega
theorem xT {ts:List a6} {n:Int} {atoms:List aU} {out order:List Int}:0≤(gc ts n atoms out order).1.1∧(gc ts n atoms out order).1.1≤5:=by
 unfold gc
 cases h:okQ ts n atoms out order with
 | false=>exact ⟨Int.le_refl _,by show (0:Int)≤5;decide⟩
 | true =>
  obtain ⟨m,rfl,q,_⟩:=oO h
  have:=q.n5
  cases kB (a9 ts order atoms)
  ·exact yf this
  ·show 0≤(m:Int)∧(m:Int)≤5
   omega
theorem sJ (hN:1073741824≤N) {n b1 b3:Int} {atoms:List aU} {out order:List Int} {b2 b4:aG} (ho:okI out) (hr:okI order):bQ N N order n atoms out b1 b2 b3 b4 [] 0=some (eE out order,(out.length:Int)):=by
 have hol:=ho.1
 exact dr (fun k (o:List Int) i=>bQ N k order n atoms out b1 b2 b3 b4 o i) out.length (fun i=>eE (out.take i) order) (eE out order,(out.length:Int))
  (fun k i h=>by
   show bQ N (k+1) order n atoms out b1 b2 b3 b4 (eE (out.take i) order) (i:Int)=bQ N k order n atoms out b1 b2 b3 b4 (eE (out.take (i+1)) order) ((i+1:Nat):Int)
   unfold eE
   rw [bQ,dlt h,cond_true,aN h,bs,gw hN hr.1,bs,bi (by decide) (by rw [List.length_map,List.length_take,List.length_singleton];omega),bs,ad1 (by omega),bs,j4 h])
  (fun k=>by
   show bQ N (k+1) order n atoms out b1 b2 b3 b4 (eE (out.take out.length) order) (out.length:Int)=_
   rw [bQ,dge (by omega),cond_false,List.take_length]) N 0 (by omega) (by omega)
theorem mK (hM:1073742848≤N) {ts:List a6} {n:Int} {atoms:List aU} {out order:List Int} (ht:iX ts) (ha:cm atoms) (ho:okI out) (hr:okI order):eN N ts n atoms out order=some (mR (gc ts n atoms out order) out order):=by
 have hok:=rE (ts:=ts) (n:=n) (atoms:=atoms) (out:=out) (order:=order)
 have hn:=xT (ts:=ts) (n:=n) (atoms:=atoms) (out:=out) (order:=order)
 unfold eN mR
 rw [lC hM ht ha ho hr,bs]
 cases h:(gc ts n atoms out order).2.2 with
 | false=>rfl
 | true =>
  rw [cond_true,sJ (by omega) ho hr,bs,lpB]
  show ((hY N (gc ts n atoms out order).1.1 (gc ts n atoms out order).1.2 (eE out order)).bind _)=_
  rw [nF hM hok (by unfold eE;rw [List.length_map];exact ho.1) (by omega),bs];rfl
theorem lJ (hM:1073742848≤N) {ts:List a6} {n:Int} {atoms:List aU} {out order:List Int} (ht:iX ts) (ha:cm atoms) (ho:okI out) (hr:okI order):dS N ts n atoms out order=some (mR (iy ts n atoms out order) out order):=by
 have hok:=wN (ts:=ts) (n:=n) (atoms:=atoms) (out:=out) (order:=order)
 unfold dS mR
 rw [lR hM ht ha ho hr,bs]
 cases h:(iy ts n atoms out order).2.2 with
 | false=>rfl
 | true =>
  rw [cond_true,wY (by omega) ho hr,bs,nC hM hok (by unfold eE;rw [List.length_map];exact ho.1),bs];rfl
end
end Go.Proofs.YtoijldeajagjjaaGreat
namespace Go.Proofs.YtoijldeajagjjaaGreat
open Go.RowKit

theorem sK (a:Int) {m:Nat} (hm:m≤4611686018427387904):0≤ge a (m:Int)∧ge a (m:Int)≤(m:Int):=by
 have h1:(BitVec.ofInt IntKind.i64.bits a &&& BitVec.ofInt IntKind.i64.bits (m:Int)).toNat≤m:=by
  rw [BitVec.toNat_and]
  refine Nat.le_trans Nat.and_le_right ?_
  rw [BitVec.toNat_ofInt]
  have:IntKind.i64.bits=64:=rfl
  rw [this]
  omega
 unfold ge
 rw [kO (nn (by omega) (by omega))]
 omega
theorem vK (a:Int) {b:Nat}:∃ v,sr a (b:Int)=some v:=by unfold sr;rw [if_pos (by omega)];exact ⟨_,rfl⟩
abbrev dJ (a:List Int):Prop:=a.length≤1048576∧∀ v∈a,0≤v∧v≤255
def b9 (a:List Int) (p:Int):Prop:=0≤p∧p≤(a.length:Int)
section
variable {N:Nat}
theorem zD (a:List Int) (ha:dJ a):∀ (m i k:Nat) (h:Int),i+m=4000→m<k→0≤h→h≤1073741823→∃ v,gL N k a h (i:Int)=some v:=by
 intro m
 induction m with
 | zero =>
  intro i k h hi hk _ _
  obtain ⟨k,rfl⟩:∃ g,k=g+1:=⟨k-1,by omega⟩
  rw [gL,decide_eq_false (show ¬ (i:Int)<4000 by omega)]
  cases decide ((i:Int)<(a.length:Int)) <;> exact ⟨_,rfl⟩
 | succ m ih =>
  intro i k h hi hk h0 h1
  obtain ⟨k,rfl⟩:∃ g,k=g+1:=⟨k-1,by omega⟩
  rw [gL]
  by_cases hl:i<a.length
  ·have hb:=ha.2 _ (List.getElem_mem hl)
   rw [dlt hl,cond_true,decide_eq_true (show (i:Int)<4000 by omega),cond_true,rW (by omega) (by omega),bs,aN hl,bs,kO (nn (by omega) (by omega)),gE (by omega) (by omega),bs,gE (by omega) (by omega),bs,ad1 (by omega),bs]
   have hi':=sK (h*131+a[i]+7) (m:=1073741823) (by decide)
   exact ih (i+1) k _ (by omega) (by omega) hi'.1 hi'.2
  ·rw [dge hl,cond_false];exact ⟨_,rfl⟩
theorem r3 (hN:1073741824≤N) {a:List Int} (ha:dJ a):∃ h,j9 N a=some (0,h):=by
 have hl:=ha.1
 obtain ⟨v,hv⟩:=zD (N:=N) a ha 4000 0 N (10101+(a.length:Int)) (by omega) (by omega) (by omega) (by omega)
 unfold j9
 rw [gE (by omega) (by omega),bs]
 have hv':gL N N a (10101+(a.length:Int)) 0=some v:=hv
 rw [hv',bs]
 exact ⟨_,rfl⟩
theorem ku {a:List Int} (ha:dJ a) {p h:Int} (hc:b9 a p):∃ x q g,gp N a p h=some (x,q,g)∧0≤x∧x≤255∧b9 a q:=by
 have hl:=ha.1
 have h0:=hc.1;have h1:=hc.2
 unfold gp
 obtain ⟨x1,e1⟩:=vK (IntKind.i64.wrap ((IntKind.i64.wrap (h*6364136223846793005))+1442695040888963407)) (b:=33)
 obtain ⟨x2,e2⟩:=vK (IntKind.i64.wrap ((IntKind.i64.wrap (h*6364136223846793005))+1442695040888963407)) (b:=45)
 have e1':sr (IntKind.i64.wrap ((IntKind.i64.wrap (h*6364136223846793005))+1442695040888963407)) 33=some x1:=e1
 have e2':sr (IntKind.i64.wrap ((IntKind.i64.wrap (h*6364136223846793005))+1442695040888963407)) 45=some x2:=e2
 rw [e1',bs,e2',bs]
 by_cases hp:p<(a.length:Int)
 ·rw [decide_eq_true hp,cond_true,ia h0 hp,bs]
  have hb:=sK (IntKind.i64.wrap ((ge (jQ x1 x2) 255)+(IntKind.i64.wrap a[p.toNat]))) (m:=255) (by decide)
  refine ⟨_,_,_,rfl,hb.1,hb.2,?_⟩
  rw [kO (nn (by omega) (by omega))]
  exact ⟨by omega,by omega⟩
 ·rw [decide_eq_false hp,cond_false]
  have hb:=sK (jQ x1 x2) (m:=255) (by decide)
  exact ⟨_,_,_,rfl,hb.1,hb.2,hc⟩
theorem bM {a:List Int} (ha:dJ a) {p h n:Int} (hc:b9 a p):∃ x q g,bz N a p h n=some (x,q,g)∧0≤x∧(0<n→x<n)∧(n≤0→x=0)∧b9 a q:=by
 unfold bz
 by_cases h0:n≤0
 ·rw [decide_eq_true h0,cond_true]
  exact ⟨_,_,_,rfl,Int.le_refl _,fun h=>by omega,fun _=>rfl,hc⟩
 ·rw [decide_eq_false h0,cond_false]
  by_cases h1:n≤256
  ·obtain ⟨x,q,g,e,b0,b1,hc'⟩:=ku (N:=N) ha (h:=h) hc
   rw [decide_eq_true h1,cond_true,e,bs,rC (by omega),bs]
   have:=vS b0 (show 0<n by omega)
   exact ⟨_,_,_,rfl,this.1,fun _=>this.2,fun h=>by omega,hc'⟩
  ·rw [decide_eq_false h1,cond_false]
   obtain ⟨x,q,g,e,b0,b1,hc1⟩:=ku (N:=N) ha (h:=h) hc
   rw [e,bs]
   obtain ⟨y,q2,g2,e2,c0,c1,hc2⟩:=ku (N:=N) ha (h:=g) hc1
   dsimp only
   rw [e2,bs]
   obtain ⟨z,q3,g3,e3,d0,d1,hc3⟩:=ku (N:=N) ha (h:=g2) hc2
   dsimp only
   rw [e3,bs]
   obtain ⟨w,q4,g4,e4,f0,f1,hc4⟩:=ku (N:=N) ha (h:=g3) hc3
   dsimp only
   rw [e4,bs]
   dsimp only
   rw [rW (by omega) (by omega),bs,rW (by omega) (by omega),bs,gE (by omega) (by omega),bs,rW (by omega) (by omega),bs,gE (by omega) (by omega),bs,gE (by omega) (by omega),bs,rC (by omega),bs]
   have:=vS (show 0≤x*16777216+y*65536+z*256+w by omega) (show 0<n by omega)
   exact ⟨_,_,_,rfl,this.1,fun _=>this.2,fun h=>by omega,hc4⟩
theorem hJ {a l:List Int} (ha:dJ a) {p h:Int} (hc:b9 a p) (hl:0<l.length):∃ x q g,dG N a p h l=some (x,q,g)∧x∈l∧b9 a q:=by
 obtain ⟨x,q,g,e,b0,b1,_,hc'⟩:=bM (N:=N) ha (h:=h) (n:=(l.length:Int)) hc
 have b2:=b1 (by omega)
 unfold dG
 rw [e,bs]
 dsimp only
 rw [ia b0 b2,bs]
 exact ⟨_,_,_,rfl,List.getElem_mem _,hc'⟩
end
end Go.Proofs.YtoijldeajagjjaaGreat
namespace Go.Proofs.YtoijldeajagjjaaGreat
open Go.RowKit

section
variable {N:Nat}
theorem zy {a:List Int} (ha:dJ a) {n m:Int} (hm:0<m):∀ (d k:Nat) (acc:List Int) (p h:Int),b9 a p→acc.length+d=n.toNat→d<k→n≤1048576→(∀ v∈acc,0≤v∧v<m) →
  ∃ q g row,iu N k a p h n m acc=some (q,g,row)∧b9 a q∧row.length=n.toNat∧∀ v∈row,0≤v∧v<m:=by
 intro d
 induction d with
 | zero =>
  intro k acc p h hc hd hk _ hv
  obtain ⟨k,rfl⟩:∃ g,k=g+1:=⟨k-1,by omega⟩
  rw [iu,decide_eq_false (show ¬ (acc.length:Int)<n by omega),cond_false]
  exact ⟨_,_,_,rfl,hc,by omega,hv⟩
 | succ d ih =>
  intro k acc p h hc hd hk hn hv
  obtain ⟨k,rfl⟩:∃ g,k=g+1:=⟨k-1,by omega⟩
  obtain ⟨x,q,g,e,b0,b1,_,hc'⟩:=bM (N:=N) ha (h:=h) (n:=m) hc
  rw [iu,decide_eq_true (show (acc.length:Int)<n by omega),cond_true,e,bs]
  dsimp only
  rw [bi (by decide) (by simp;omega),bs]
  refine ih k _ q g hc' (by simp;omega) (by omega) hn fun v hv'=>?_
  rcases List.mem_append.1 hv' with h | h
  ·exact hv v h
  ·rw [List.mem_singleton] at h;rw [h];exact ⟨b0,b1 hm⟩
theorem sq (hN:1073741824≤N) {a:List Int} (ha:dJ a) {p h n m:Int} (hc:b9 a p) (hm:0<m) (hn:n≤1048576) :
  ∃ row q g,j5 N a p h n m=some (row,q,g)∧b9 a q∧row.length=n.toNat∧∀ v∈row,0≤v∧v<m:=by
 obtain ⟨q,g,row,e,h1,h2,h3⟩:=zy (N:=N) ha (n:=n) hm n.toNat N [] p h hc (by simp) (by omega) hn (by simp)
 unfold j5
 rw [e]
 exact ⟨row,q,g,rfl,h1,h2,h3⟩
theorem zE (hN:1073741824≤N) {a:List Int} (ha:dJ a) {n m y:Int} {z:aG} (hm:0<m) (hn:n≤1048576):∀ (d k:Nat) (acc:aG) (p h c:Int),b9 a p→c.toNat=d→c≤1048576→d<k→acc.length+d≤1048576→(∀ r∈acc,r.length=n.toNat∧∀ v∈r,0≤v∧v<m) →
  ∃ q g rows c',iv N k a p h n m y z acc c=some (q,g,rows,c')∧b9 a q∧rows.length≤acc.length+d∧∀ r∈rows,r.length=n.toNat∧∀ v∈r,0≤v∧v<m:=by
 intro d
 induction d with
 | zero =>
  intro k acc p h c hc hd _ hk hl hv
  obtain ⟨k,rfl⟩:∃ g,k=g+1:=⟨k-1,by omega⟩
  rw [iv,decide_eq_false (show ¬ 0<c by omega),cond_false]
  exact ⟨_,_,_,_,rfl,hc,by omega,hv⟩
 | succ d ih =>
  intro k acc p h c hc hd hcc hk hl hv
  obtain ⟨k,rfl⟩:∃ g,k=g+1:=⟨k-1,by omega⟩
  obtain ⟨row,q,g,e,hc',h2,h3⟩:=sq hN ha (h:=h) (n:=n) hc hm hn
  rw [iv,decide_eq_true (show 0<c by omega),cond_true,e,bs]
  dsimp only
  rw [bi (by decide) (by simp;omega),bs,fC (by omega) (by omega),bs]
  obtain ⟨q',g',rows,c',e',k1,k2,k3⟩:=ih k (acc++[row]) q g (c-1) hc' (by omega) (by omega) (by omega) (by simp;omega) fun r hr=>by
   rcases List.mem_append.1 hr with h | h
   ·exact hv r h
   ·rw [List.mem_singleton] at h;rw [h];exact ⟨h2,h3⟩
  exact ⟨q',g',rows,c',e',k1,by simp at k2;omega,k3⟩
theorem o4 (hM:1073742848≤N) {a:List Int} (ha:dJ a) {p h n m y:Int} (hc:b9 a p) (hm:0<m∧m≤100) (hn:0≤n∧n≤5) (hy:0≤y∧y≤100) :
  ∃ rows q g,jj N a p h n y m=some ((n,rows),q,g)∧b9 a q∧(rows.length:Int)≤y∧∀ r∈rows,(r.length:Int)=n∧∀ v∈r,0≤v∧v<m:=by
 have hN:1073741824≤N:=by omega
 obtain ⟨x,q,g,e,b0,b1,_,hc'⟩:=bM (N:=N) ha (h:=h) (n:=y+1) hc
 have b1:=b1 (by omega)
 obtain ⟨q',g',rows,c',e',k1,k2,k3⟩:=zE hN ha (n:=n) (m:=m) (y:=0) (z:=[]) hm.1 (by omega) x.toNat N [] q g x hc' rfl (by omega) (by omega) (by simp;omega) (by simp)
 unfold jj
 rw [gE (by omega) (by omega),bs,e,bs]
 dsimp only
 rw [e']
 simp only [List.length_nil,Nat.zero_add] at k2
 have hf:∀ r∈rows,(r.length:Int)=n∧bA r=true:=fun r hr=>by
  have:=k3 r hr
  refine ⟨by omega,?_⟩
  unfold bA
  refine List.all_eq_true.2 fun v hv=>?_
  have:=this.2 v hv
  unfold inR
  simp only [Bool.and_eq_true,decide_eq_true_eq]
  omega
 have hok:cF rows:=⟨by omega,fun r hr=>⟨by have:=(k3 r hr).1;omega,fun _ _=>trivial⟩⟩
 rw [bs]
 unfold lpB
 dsimp only
 rw [fU hM hok,bs,jJ hn (by omega) hf]
 have hsl:=gt 20 rows
 refine ⟨cE 20 rows,q',g',rfl,k1,by omega,fun r hr=>?_⟩
 have hr':=jf 20 rows r hr
 exact ⟨(hf r hr').1,(k3 r hr').2⟩
def tO (r:Int × aG):Prop:=(-1≤r.1∧r.1≤6)∧r.2.length≤7∧∀ w∈r.2,w.length≤6∧∀ v∈w,-1≤v∧v≤100
theorem ww (hM:1073742848≤N) {a:List Int} (ha:dJ a) {p h:Int} (hc:b9 a p):∃ r q g,lD N a p h=some (r,q,g)∧b9 a q∧tO r:=by
 have hN:1073741824≤N:=by omega
 obtain ⟨n,q,g,e,b0,b1,_,hc1⟩:=bM (N:=N) ha (h:=h) (n:=4) hc
 have b1:=b1 (by decide)
 obtain ⟨rows,q2,g2,e2,hc2,hl,hr⟩:=o4 hM ha (h:=g) (n:=n) (m:=4) (y:=6) hc1 (by decide) (by omega) (by decide)
 obtain ⟨s,q3,g3,e3,_,_,_,hc3⟩:=bM (N:=N) ha (h:=g2) (n:=14) hc2
 have hsm:∀ w∈rows,w.length≤6∧∀ v∈w,-1≤v∧v≤100:=fun w hw=>by
  have:=hr w hw
  exact ⟨by omega,fun v hv=>by have:=this.2 v hv;omega⟩
 have base:tO (n,rows):=⟨⟨by show -1≤n;omega,by show n≤6;omega⟩,by show rows.length≤7;omega,hsm⟩
 unfold lD
 rw [e,bs]
 dsimp only
 rw [e2,bs]
 dsimp only
 rw [e3,bs]
 dsimp only
 cases h0:(s == 0)
 ·rw [cond_false]
  cases h1:(s == 1)
  ·rw [cond_false]
   cases h2:(s == 2)
   ·exact ⟨_,_,_,rfl,hc3,base⟩
   ·rw [cond_true]
    by_cases hp:0<rows.length
    ·rw [decide_eq_true (show (0:Int)<(rows.length:Int) by omega),cond_true]
     by_cases hn:0<n
     ·have hm0:=hr _ (List.getElem_mem hp)
      have hm1:=hsm _ (List.getElem_mem hp)
      have hp0:0<rows[0].length:=by omega
      obtain ⟨x,q4,g4,e4,hx,hc4⟩:=hJ (N:=N) ha (h:=g3) hc3 (l:=[(-1),100,99]) (by decide)
      have i0:ix rows 0=some rows[0]:=aN hp
      have i1:ix rows[0] 0=some rows[0][0]:=aN hp0
      have s1:sto rows[0] 0 x=some (rows[0].set 0 x):=ka hp0
      have s2:sto rows 0 (rows[0].set 0 x)=some (rows.set 0 (rows[0].set 0 x)):=ka hp
      have hxb:-1≤x∧x≤100:=by
       simp only [List.mem_cons,List.not_mem_nil,or_false] at hx
       omega
      rw [decide_eq_true hn,cond_true,i0,bs,e4,bs,i1,bs,s1,bs,s2,bs]
      refine ⟨_,_,_,rfl,hc4,⟨base.1,by show (rows.set 0 _).length≤7;rw [List.length_set];omega,fun w hw=>?_⟩⟩
      rcases List.mem_or_eq_of_mem_set hw with h | h
      ·exact hsm w h
      ·subst h
       refine ⟨by rw [List.length_set];exact hm1.1,fun v hv=>?_⟩
       rcases List.mem_or_eq_of_mem_set hv with h | h
       ·exact hm1.2 v h
       ·rw [h];exact hxb
     ·rw [decide_eq_false hn,cond_false]
      exact ⟨_,_,_,rfl,hc3,base⟩
    ·rw [decide_eq_false (show ¬ (0:Int)<(rows.length:Int) by omega),cond_false]
     exact ⟨_,_,_,rfl,hc3,base⟩
  ·rw [cond_true]
   have hi:imx 0 n=n:=by unfold imx;split <;> omega
   obtain ⟨w,q4,g4,e4,hc4,hw1,hw2⟩:=sq hN ha (h:=g3) (n:=n) (m:=4) hc3 (by decide) (by omega)
   rw [hi,e4,bs]
   dsimp only
   rw [bi (by decide) (by simp;omega),bs]
   refine ⟨_,_,_,rfl,hc4,base.1,by show (rows++[w]).length≤7;simp;omega,fun v hv=>?_⟩
   rcases List.mem_append.1 hv with h | h
   ·exact hsm v h
   ·rw [List.mem_singleton] at h;subst h
    exact ⟨by omega,fun v hv=>by have:=hw2 v hv;omega⟩
 ·obtain ⟨x,q4,g4,e4,hx,hc4⟩:=hJ (N:=N) ha (h:=g3) hc3 (l:=[(-1),6,n+1]) (Nat.zero_lt_succ _)
  rw [cond_true,gE (by omega) (by omega),bs,e4,bs]
  refine ⟨_,_,_,rfl,hc4,⟨?_,base.2⟩⟩
  simp only [List.mem_cons,List.not_mem_nil,or_false] at hx
  show -1≤x∧x≤6
  omega
end
end Go.Proofs.YtoijldeajagjjaaGreat
namespace Go.Proofs.YtoijldeajagjjaaGreat
open Go.RowKit

def wm (a b:List j8):Prop:=∃ t,b=a++t
theorem wm.trans {a b c:List j8} (h:wm a b) (k:wm b c):wm a c:=by
 obtain ⟨t,rfl⟩:=h;obtain ⟨u,rfl⟩:=k;exact ⟨t++u,by simp⟩
end Go.Proofs.YtoijldeajagjjaaGreat
namespace Go.Proofs.YtoijldeajagjjaaGreat
open Go.RowKit

def Ax (ns:List j8):Nat→Int→Int
 | 0,_=>0
 | f+1,nd=>if nd=0 then 0 else Ax ns f ((ns.getD nd.toNat ([],[])).2.getD 0 0)+1
def dep (ns:List j8) (nd:Int):Int:=Ax ns ns.length nd
structure NodeOk (ns:List j8) (i:Nat):Prop where
 lens:(ns.getD i ([],[])).1.length=(ns.getD i ([],[])).2.length
 vals:bA (ns.getD i ([],[])).1=true
 asc:f9 (ns.getD i ([],[])).1
 ne:(ns.getD i ([],[])).1≠[]
 chs:∀ c∈(ns.getD i ([],[])).2,dep ns c=dep ns ((ns.getD i ([],[])).2.getD 0 0)
 new:∀ j,1≤j→j<i→ns.getD j ([],[])≠ns.getD i ([],[])
end Go.Proofs.YtoijldeajagjjaaGreat
namespace Go.Proofs.YtoijldeajagjjaaGreat
open Go.RowKit

abbrev nc:=Int × List aU × List Int
def QGd (q:nc):Prop:=(1≤q.1∧q.1≤5)∧(1≤q.2.1.length∧q.2.1.length≤4)∧(∀ a∈q.2.1,a.1.size≤4∧1≤a.2.length∧a.2.length≤5)∧q.2.2.length≤5
def QSm (q:nc):Prop:=(0≤q.1∧q.1≤6)∧q.2.1.length≤5∧(∀ a∈q.2.1,a.1.size≤4∧a.2.length≤5)∧q.2.2.length≤6
theorem QGd.sm {q:nc} (h:QGd q):QSm q:=⟨⟨by have:=h.1;omega,by have:=h.1;omega⟩,by have:=h.2.1;omega,fun a ha=>⟨(h.2.2.1 a ha).1,(h.2.2.1 a ha).2.2⟩,by have:=h.2.2.2;omega⟩
theorem QSm.atoms {q:nc} (h:QSm q):cm q.2.1:=⟨by have:=h.2.1;omega,fun a ha=>⟨by have:=(h.2.2.1 a ha).1;omega,by have:=(h.2.2.1 a ha).2;omega,fun _ _=>trivial⟩⟩
theorem QSm.out {q:nc} (h:QSm q):okI q.2.2:=⟨by have:=h.2.2.2;omega,fun _ _=>trivial⟩
section
variable {N:Nat}
abbrev xr:List ByteArray:=[(⟨#[40,88,89,90,41,61,114,40,88,89,41,44,115,40,89,90,41,44,116,40,90,88,41]⟩:ByteArray),(⟨#[40,88,89,90,85,41,61,114,40,88,89,41,44,115,40,89,90,41,44,116,40,90,85,41,44,117,40,85,88,41]⟩:ByteArray),(⟨#[40,88,89,90,41,61,114,40,88,89,41,44,115,40,89,90,41]⟩:ByteArray),(⟨#[40,88,41,61,114,40,88,89,41,44,115,40,89,90,41,44,116,40,90,85,41]⟩:ByteArray),(⟨#[40,88,89,90,41,61,118,40,88,89,90,41,44,114,40,88,89,41]⟩:ByteArray),(⟨#[40,88,89,41,61,114,40,88,89,41,44,114,40,89,88,41]⟩:ByteArray),(⟨#[40,88,89,90,85,41,61,118,40,88,89,90,41,44,115,40,90,85,41,44,116,40,85,88,41]⟩:ByteArray),(⟨#[40,88,41,61,114,40,88,88,41]⟩:ByteArray),(⟨#[40,88,89,41,61,114,40,88,90,41,44,115,40,90,89,41,44,114,40,88,85,41,44,115,40,85,89,41]⟩:ByteArray),(⟨#[40,41,61,114,40,88,89,41,44,115,40,89,88,41]⟩:ByteArray),(⟨#[40,88,89,90,85,86,41,61,114,40,88,89,41,44,115,40,89,90,41,44,116,40,90,85,41,44,117,40,85,86,41]⟩:ByteArray)]
theorem zO (M:Nat):cq (M+100) (⟨#[40,88,89,90,41,61,114,40,88,89,41,44,115,40,89,90,41,44,116,40,90,88,41]⟩:ByteArray)=some ((3,[((⟨#[114]⟩:ByteArray),[0,1]),((⟨#[115]⟩:ByteArray),[1,2]),((⟨#[116]⟩:ByteArray),[2,0])],[0,1,2]),true):=by kernel_rfl
theorem zf (M:Nat):cq (M+100) (⟨#[40,88,89,90,85,41,61,114,40,88,89,41,44,115,40,89,90,41,44,116,40,90,85,41,44,117,40,85,88,41]⟩:ByteArray)=some ((4,[((⟨#[114]⟩:ByteArray),[0,1]),((⟨#[115]⟩:ByteArray),[1,2]),((⟨#[116]⟩:ByteArray),[2,3]),((⟨#[117]⟩:ByteArray),[3,0])],[0,1,2,3]),true):=by kernel_rfl
theorem yQ (M:Nat):cq (M+100) (⟨#[40,88,89,90,41,61,114,40,88,89,41,44,115,40,89,90,41]⟩:ByteArray)=some ((3,[((⟨#[114]⟩:ByteArray),[0,1]),((⟨#[115]⟩:ByteArray),[1,2])],[0,1,2]),true):=by kernel_rfl
theorem yV (M:Nat):cq (M+100) (⟨#[40,88,41,61,114,40,88,89,41,44,115,40,89,90,41,44,116,40,90,85,41]⟩:ByteArray)=some ((4,[((⟨#[114]⟩:ByteArray),[0,1]),((⟨#[115]⟩:ByteArray),[1,2]),((⟨#[116]⟩:ByteArray),[2,3])],[0]),true):=by kernel_rfl
theorem zF (M:Nat):cq (M+100) (⟨#[40,88,89,90,41,61,118,40,88,89,90,41,44,114,40,88,89,41]⟩:ByteArray)=some ((3,[((⟨#[118]⟩:ByteArray),[0,1,2]),((⟨#[114]⟩:ByteArray),[0,1])],[0,1,2]),true):=by kernel_rfl
theorem zp (M:Nat):cq (M+100) (⟨#[40,88,89,41,61,114,40,88,89,41,44,114,40,89,88,41]⟩:ByteArray)=some ((2,[((⟨#[114]⟩:ByteArray),[0,1]),((⟨#[114]⟩:ByteArray),[1,0])],[0,1]),true):=by kernel_rfl
theorem zr (M:Nat):cq (M+100) (⟨#[40,88,89,90,85,41,61,118,40,88,89,90,41,44,115,40,90,85,41,44,116,40,85,88,41]⟩:ByteArray)=some ((4,[((⟨#[118]⟩:ByteArray),[0,1,2]),((⟨#[115]⟩:ByteArray),[2,3]),((⟨#[116]⟩:ByteArray),[3,0])],[0,1,2,3]),true):=by kernel_rfl
theorem zw (M:Nat):cq (M+100) (⟨#[40,88,41,61,114,40,88,88,41]⟩:ByteArray)=some ((1,[((⟨#[114]⟩:ByteArray),[0,0])],[0]),true):=by kernel_rfl
theorem yL (M:Nat):cq (M+100) (⟨#[40,88,89,41,61,114,40,88,90,41,44,115,40,90,89,41,44,114,40,88,85,41,44,115,40,85,89,41]⟩:ByteArray)=some ((4,[((⟨#[114]⟩:ByteArray),[0,2]),((⟨#[115]⟩:ByteArray),[2,1]),((⟨#[114]⟩:ByteArray),[0,3]),((⟨#[115]⟩:ByteArray),[3,1])],[0,1]),true):=by kernel_rfl
theorem zx (M:Nat):cq (M+100) (⟨#[40,41,61,114,40,88,89,41,44,115,40,89,88,41]⟩:ByteArray)=some ((2,[((⟨#[114]⟩:ByteArray),[0,1]),((⟨#[115]⟩:ByteArray),[1,0])],[]),true):=by kernel_rfl
theorem yE (M:Nat):cq (M+100) (⟨#[40,88,89,90,85,86,41,61,114,40,88,89,41,44,115,40,89,90,41,44,116,40,90,85,41,44,117,40,85,86,41]⟩:ByteArray)=some ((5,[((⟨#[114]⟩:ByteArray),[0,1]),((⟨#[115]⟩:ByteArray),[1,2]),((⟨#[116]⟩:ByteArray),[2,3]),((⟨#[117]⟩:ByteArray),[3,4])],[0,1,2,3,4]),true):=by kernel_rfl
theorem vh (hN:1073741824≤N):∀ s∈xr,∃ q,cq N s=some (q,true)∧QGd q:=by
 obtain ⟨M,rfl⟩:∃ M,N=M+100:=⟨N-100,by omega⟩
 intro s hs
 simp only [List.mem_cons,List.not_mem_nil,or_false] at hs
 rcases hs with rfl | rfl | rfl | rfl | rfl | rfl | rfl | rfl | rfl | rfl | rfl
 ·exact ⟨_,zO M,by unfold QGd;decide⟩
 ·exact ⟨_,zf M,by unfold QGd;decide⟩
 ·exact ⟨_,yQ M,by unfold QGd;decide⟩
 ·exact ⟨_,yV M,by unfold QGd;decide⟩
 ·exact ⟨_,zF M,by unfold QGd;decide⟩
 ·exact ⟨_,zp M,by unfold QGd;decide⟩
 ·exact ⟨_,zr M,by unfold QGd;decide⟩
 ·exact ⟨_,zw M,by unfold QGd;decide⟩
 ·exact ⟨_,yL M,by unfold QGd;decide⟩
 ·exact ⟨_,zx M,by unfold QGd;decide⟩
 ·exact ⟨_,yE M,by unfold QGd;decide⟩
theorem nS {a:List Int} {l:List ByteArray} (ha:dJ a) {p h:Int} (hc:b9 a p) (hl:0<l.length):∃ x q g,iP N a p h l=some (x,q,g)∧x∈l∧b9 a q:=by
 obtain ⟨x,q,g,e,b0,b1,_,hc'⟩:=bM (N:=N) ha (h:=h) (n:=(l.length:Int)) hc
 have b2:=b1 (by omega)
 unfold iP
 rw [e,bs]
 dsimp only
 rw [ia b0 b2,bs]
 exact ⟨_,_,_,rfl,List.getElem_mem _,hc'⟩
theorem kt {a:List Int} (ha:dJ a) {p h n:Int} (hc:b9 a p):∃ b q g,gm N a p h n=some (b,q,g)∧b9 a q:=by
 obtain ⟨x,q,g,e,_,_,_,hc'⟩:=bM (N:=N) ha (h:=h) (n:=n) hc
 unfold gm
 rw [e,bs]
 exact ⟨_,_,_,rfl,hc'⟩
theorem wu {a:List Int} (ha:dJ a) {z1 z7 z9 n:Int} {z2 z5 z8:List aU} {z3 z6 z10:List Int} {s:ByteArray}:∀ (d k:Nat) (acc:List Int) (p h m:Int),b9 a p→m.toNat=d→m≤10→d<k→acc.length+d≤100 →
  ∃ q g vs m',gJ N k a p h z1 z2 z3 z7 z5 z6 n z8 z10 z9 s acc m=some (q,g,vs,m')∧b9 a q∧vs.length=acc.length+d:=by
 intro d
 induction d with
 | zero =>
  intro k acc p h m hc hd _ hk _
  obtain ⟨k,rfl⟩:∃ g,k=g+1:=⟨k-1,by omega⟩
  rw [gJ,decide_eq_false (show ¬ 0<m by omega),cond_false]
  exact ⟨_,_,_,_,rfl,hc,by omega⟩
 | succ d ih =>
  intro k acc p h m hc hd hm hk hl
  obtain ⟨k,rfl⟩:∃ g,k=g+1:=⟨k-1,by omega⟩
  obtain ⟨x,q,g,e,_,_,_,hc'⟩:=bM (N:=N) ha (h:=h) (n:=n) hc
  rw [gJ,decide_eq_true (show 0<m by omega),cond_true,e,bs]
  dsimp only
  rw [bi (by decide) (by simp;omega),bs,fC (by omega) (by omega),bs]
  obtain ⟨q',g',vs,m',e',k1,k2⟩:=ih k (acc++[x]) q g (m-1) hc' (by omega) (by omega) (by omega) (by simp;omega)
  exact ⟨q',g',vs,m',e',k1,by simp at k2;omega⟩
theorem wz (hN:1073741824≤N) {a:List Int} (ha:dJ a) {z1 z4 n:Int} {z2 z5:List aU} {z3 z6 z7:List Int}:∀ (d k:Nat) (acc:List aU) (p h m:Int),b9 a p→m.toNat=d→m≤10→d<k→acc.length+d≤100→(∀ x∈acc,x.1.size≤4∧1≤x.2.length∧x.2.length≤5) →
  ∃ q g ats m',gK N k a p h z1 z2 z3 z4 z5 z6 n acc z7 m=some (q,g,ats,m')∧b9 a q∧ats.length=acc.length+d∧∀ x∈ats,x.1.size≤4∧1≤x.2.length∧x.2.length≤5:=by
 intro d
 induction d with
 | zero =>
  intro k acc p h m hc hd _ hk _ hx
  obtain ⟨k,rfl⟩:∃ g,k=g+1:=⟨k-1,by omega⟩
  rw [gK,decide_eq_false (show ¬ 0<m by omega),cond_false]
  exact ⟨_,_,_,_,rfl,hc,by omega,hx⟩
 | succ d ih =>
  intro k acc p h m hc hd hm hk hl hx
  obtain ⟨k,rfl⟩:∃ g,k=g+1:=⟨k-1,by omega⟩
  obtain ⟨x,q,g,e,b0,b1,_,hc'⟩:=bM (N:=N) ha (h:=h) (n:=5) hc
  have b1:=b1 (by decide)
  rw [gK,decide_eq_true (show 0<m by omega),cond_true,e,bs]
  dsimp only
  have hi:x<(([(⟨#[114]⟩:ByteArray),(⟨#[115]⟩:ByteArray),(⟨#[116]⟩:ByteArray),(⟨#[117]⟩:ByteArray),(⟨#[118]⟩:ByteArray)]:List ByteArray).length:Int):=b1
  rw [ia b0 hi,bs,A5 b0 (by decide) (by omega),bs]
  have ht:0≤x.tdiv 4∧x.tdiv 4≤1:=by
   rw [Int.tdiv_eq_ediv_of_nonneg b0];omega
  rw [gE (by omega) (by omega),bs]
  have hs:∀ s∈([(⟨#[114]⟩:ByteArray),(⟨#[115]⟩:ByteArray),(⟨#[116]⟩:ByteArray),(⟨#[117]⟩:ByteArray),(⟨#[118]⟩:ByteArray)]:List ByteArray),s.size≤4:=by decide
  have hs':=hs _ (List.getElem_mem (l:=([(⟨#[114]⟩:ByteArray),(⟨#[115]⟩:ByteArray),(⟨#[116]⟩:ByteArray),(⟨#[117]⟩:ByteArray),(⟨#[118]⟩:ByteArray)]:List ByteArray)) (n:=x.toNat) (by omega))
  obtain ⟨q',g',vs,m',e',k1,k2⟩:=wu (N:=N) ha (z1:=z1) (z2:=z2) (z3:=z3) (z7:=z4) (z5:=z5) (z6:=z6) (n:=n) (z8:=acc) (z10:=z7) (z9:=m) (s:=([(⟨#[114]⟩:ByteArray),(⟨#[115]⟩:ByteArray),(⟨#[116]⟩:ByteArray),(⟨#[117]⟩:ByteArray),(⟨#[118]⟩:ByteArray)]:List ByteArray)[x.toNat]) (2+x.tdiv 4).toNat N [] q g (2+x.tdiv 4) hc' rfl (by omega) (by omega) (by simp;omega)
  rw [e',bs]
  unfold lpB
  dsimp only
  rw [bi (by decide) (by simp;omega),bs,fC (by omega) (by omega),bs]
  simp only [List.length_nil,Nat.zero_add] at k2
  obtain ⟨q2,g2,ats,m2,e2,j1,j2,j3⟩:=ih k (acc++[(_,vs)]) q' g' (m-1) k1 (by omega) (by omega) (by omega) (by simp;omega) (fun y hy=>by
   rcases List.mem_append.1 hy with h | h
   ·exact hx y h
   ·rw [List.mem_singleton] at h;rw [h]
    exact ⟨hs',by show 1≤vs.length;omega,by show vs.length≤5;omega⟩)
  exact ⟨q2,g2,ats,m2,e2,j1,by simp at j2;omega,j3⟩
theorem wM {a:List Int} (ha:dJ a) {z1 z4:Int} {n:Nat} {z2 z5 z8:List aU} {z3 z6:List Int} (hn:n≤10):∀ (d k:Nat) (acc:List Int) (p h:Int) (i:Nat),b9 a p→i+d=n→d<k→acc.length≤i →
  ∃ q g out v,eV N k a p h z1 z2 z3 z4 z5 z6 (n:Int) z8 acc (i:Int)=some (q,g,out,v)∧b9 a q∧out.length≤n:=by
 intro d
 induction d with
 | zero =>
  intro k acc p h i hc hd hk hl
  obtain ⟨k,rfl⟩:∃ g,k=g+1:=⟨k-1,by omega⟩
  rw [eV,decide_eq_false (show ¬ (i:Int)<(n:Int) by omega),cond_false]
  exact ⟨_,_,_,_,rfl,hc,by omega⟩
 | succ d ih =>
  intro k acc p h i hc hd hk hl
  obtain ⟨k,rfl⟩:∃ g,k=g+1:=⟨k-1,by omega⟩
  obtain ⟨b,q,g,e,hc'⟩:=kt (N:=N) ha (h:=h) (n:=2) hc
  rw [eV,decide_eq_true (show (i:Int)<(n:Int) by omega),cond_true,e,bs]
  dsimp only
  cases b with
  | true =>
   rw [cond_true,bi (by decide) (by simp;omega),bs,ad1 (by omega),bs]
   exact ih k _ q g (i+1) hc' (by omega) (by omega) (by simp;omega)
  | false =>
   rw [cond_false,ad1 (by omega),bs]
   exact ih k _ q g (i+1) hc' (by omega) (by omega) (by omega)
theorem pC (hN:1073741824≤N) {a:List Int} (ha:dJ a) {p h:Int} (hc:b9 a p):∃ r q g,iW N a p h=some (r,q,g)∧b9 a q∧QGd r:=by
 unfold iW
 obtain ⟨s,q,g,e,hs,hc1⟩:=nS (N:=N) ha (h:=h) (l:=xr) hc (by decide)
 obtain ⟨r,er,hr⟩:=vh hN s hs
 rw [e,bs]
 dsimp only
 rw [er,bs]
 obtain ⟨b,q2,g2,e2,hc2⟩:=kt (N:=N) ha (h:=g) (n:=3) hc1
 rw [e2,bs]
 dsimp only
 cases b with
 | false=>rw [cond_false];exact ⟨_,_,_,rfl,hc2,hr⟩
 | true =>
  obtain ⟨x,q3,g3,e3,b0,b1,_,hc3⟩:=bM (N:=N) ha (h:=g2) (n:=4) hc2
  have b1:=b1 (by decide)
  rw [cond_true,e3,bs]
  dsimp only
  obtain ⟨y,q4,g4,e4,c0,c1,_,hc4⟩:=bM (N:=N) ha (h:=g3) (n:=4) hc3
  have c1:=c1 (by decide)
  rw [gE (by omega) (by omega),bs,e4,bs]
  dsimp only
  rw [gE (by omega) (by omega),bs]
  obtain ⟨q5,g5,ats,m5,e5,hc5,l5,a5⟩:=wz hN ha (z1:=0) (z2:=[]) (z3:=[]) (z4:=r.1) (z5:=r.2.1) (z6:=r.2.2) (n:=1+x) (z7:=[]) (1+y).toNat N [] q4 g4 (1+y) hc4 rfl (by omega) (by omega) (by simp;omega) (by simp)
  rw [e5,bs]
  unfold lpB
  dsimp only
  have hx:((x.toNat+1:Nat):Int)=1+x:=by omega
  obtain ⟨q6,g6,out,v6,e6,hc6,l6⟩:=wM (N:=N) ha (z1:=0) (z2:=[]) (z3:=[]) (z4:=r.1) (z5:=r.2.1) (z6:=r.2.2) (n:=x.toNat+1) (z8:=ats) (by omega) (x.toNat+1) N [] q5 g5 0 hc5 (by omega) (by omega) (by simp)
  rw [hx] at e6
  have e6':eV N N a q5 g5 0 [] [] r.1 r.2.1 r.2.2 (1+x) ats [] 0=some (q6,g6,out,v6):=e6
  simp only [List.length_nil,Nat.zero_add] at l5
  have hq:QGd (1+x,ats,out):=⟨⟨by show 1≤1+x;omega,by show 1+x≤5;omega⟩,⟨by show 1≤ats.length;omega,by show ats.length≤4;omega⟩,a5,by show out.length≤5;omega⟩
  rw [e6',bs]
  dsimp only
  rw [gX hN (QSm.atoms hq.sm) (QSm.out hq.sm),bs]
  cases dV (1+x) ats out with
  | true=>rw [cond_true];exact ⟨_,_,_,rfl,hc6,hq⟩
  | false=>rw [cond_false];exact ⟨_,_,_,rfl,hc6,hr⟩
theorem wy (hN:1073741824≤N) {a:List Int} (ha:dJ a) {p h:Int} (hc:b9 a p):∃ r q g,lj N a p h=some (r,q,g)∧b9 a q∧QSm r:=by
 obtain ⟨⟨n,ats,out⟩,q,g,e,hc1,hr⟩:=pC hN ha (h:=h) hc
 obtain ⟨x,q2,g2,e2,_,_,_,hc2⟩:=bM (N:=N) ha (h:=g) (n:=14) hc1
 unfold lj
 rw [e,bs]
 dsimp only
 rw [e2,bs]
 dsimp only
 have hn:=hr.1;have ha1:=hr.2.1;have ha2:=hr.2.2.1;have ho:=hr.2.2.2
 dsimp only at hn ha1 ha2 ho
 have hsm:=hr.sm
 cases h0:(x == 0) with
 | true =>
  rw [cond_true,gE (by omega) (by omega),bs]
  obtain ⟨y,q3,g3,e3,hy,hc3⟩:=hJ (N:=N) ha (h:=g2) (l:=[0,6,n+1]) hc2 (Nat.zero_lt_succ _)
  rw [e3,bs]
  refine ⟨_,_,_,rfl,hc3,⟨?_,hsm.2⟩⟩
  simp only [List.mem_cons,List.not_mem_nil,or_false] at hy
  show 0≤y∧y≤6
  omega
 | false =>
 rw [cond_false]
 cases h1:(x == 1) with
 | true =>
  rw [cond_true]
  obtain ⟨y,q3,g3,e3,hy,hc3⟩:=nS (N:=N) ha (h:=g2) (l:=[ByteArray.empty,(⟨#[119]⟩:ByteArray),(⟨#[114]⟩:ByteArray)]) hc2 (by decide)
  have hys:∀ s∈[ByteArray.empty,(⟨#[119]⟩:ByteArray),(⟨#[114]⟩:ByteArray)],s.size≤4:=by decide
  rw [e3,bs,bi (by decide) (by simp;omega),bs]
  refine ⟨_,_,_,rfl,hc3,hsm.1,by show (ats++[_]).length≤5;simp;omega,fun b hb=>?_,hsm.2.2.2⟩
  rcases List.mem_append.1 hb with h | h
  ·exact hsm.2.2.1 b h
  ·rw [List.mem_singleton] at h;rw [h];exact ⟨hys y hy,by show ([0]:List Int).length≤5;decide⟩
 | false =>
 rw [cond_false]
 cases h2:(x == 2) with
 | true =>
  rw [cond_true]
  obtain ⟨y,q3,g3,e3,b0,b1,_,hc3⟩:=bM (N:=N) ha (h:=g2) (n:=6) hc2
  have b1:=b1 (by decide)
  rw [e3,bs]
  dsimp only
  rw [fC (by omega) (by omega),bs,bi (by decide) (by simp;omega),bs]
  exact ⟨_,_,_,rfl,hc3,hsm.1,hsm.2.1,hsm.2.2.1,by show (out++[_]).length≤6;simp;omega⟩
 | false =>
 rw [cond_false]
 have hl:0<ats.length:=by omega
 have i0:ix ats 0=some ats[0]:=aN hl
 have hm0:=ha2 _ (List.getElem_mem hl)
 cases h3:(x == 3) with
 | true =>
  have s0:sto ats 0 (ats[0].1,[])=some (ats.set 0 (ats[0].1,[])):=ka hl
  rw [cond_true,i0,bs,s0,bs]
  refine ⟨_,_,_,rfl,hc2,hsm.1,by show (ats.set 0 _).length≤5;rw [List.length_set];omega,fun b hb=>?_,hsm.2.2.2⟩
  rcases List.mem_or_eq_of_mem_set hb with h | h
  ·exact hsm.2.2.1 b h
  ·rw [h];exact ⟨hm0.1,Nat.zero_le _⟩
 | false =>
 rw [cond_false]
 cases h4:(x == 4) with
 | true =>
  obtain ⟨y,q3,g3,e3,hy,hc3⟩:=hJ (N:=N) ha (h:=g2) (l:=[(-1),5]) hc2 (by decide)
  have hl1:0<ats[0].2.length:=by omega
  have i1:ix ats[0].2 0=some ats[0].2[0]:=aN hl1
  have s1:sto ats[0].2 0 y=some (ats[0].2.set 0 y):=ka hl1
  have s0:sto ats 0 (ats[0].1,ats[0].2.set 0 y)=some (ats.set 0 (ats[0].1,ats[0].2.set 0 y)):=ka hl
  rw [cond_true,i0,bs,e3,bs,i1,bs,s1,bs,s0,bs]
  refine ⟨_,_,_,rfl,hc3,hsm.1,by show (ats.set 0 _).length≤5;rw [List.length_set];omega,fun b hb=>?_,hsm.2.2.2⟩
  rcases List.mem_or_eq_of_mem_set hb with h | h
  ·exact hsm.2.2.1 b h
  ·rw [h];exact ⟨hm0.1,by show (ats[0].2.set 0 y).length≤5;rw [List.length_set];exact hm0.2.2⟩
 | false =>
 rw [cond_false]
 exact ⟨_,_,_,rfl,hc2,hsm⟩
end
end Go.Proofs.YtoijldeajagjjaaGreat
namespace Go.Proofs.YtoijldeajagjjaaGreat
open Go.RowKit

def TSm (t:a6):Prop:=t.1.size≤5∧t.2.2.length≤10∧∀ r∈t.2.2,r.length≤6
def DSm (ts:List a6):Prop:=ts.length≤6∧∀ t∈ts,TSm t
theorem DSm.ok {ts:List a6} (h:DSm ts):iX ts:=⟨by have:=h.1;omega,fun t ht=>by
 obtain ⟨h1,h2,h3⟩:=h.2 t ht
 exact ⟨by omega,by omega,fun r hr=>⟨by have:=h3 r hr;omega,fun _ _=>trivial⟩⟩⟩
theorem yu:∀ (n:Nat) (l:List Int),l.length<n→∃ v:Nat,v<n∧(v:Int)∉l:=by
 intro n
 induction n with
 | zero=>intro l h;omega
 | succ n ih =>
  intro l h
  by_cases hm:(n:Int)∈l
  ·have hl:=List.length_erase_of_mem hm
   have hp:=List.length_pos_of_mem hm
   obtain ⟨v,h1,h2⟩:=ih (l.erase (n:Int)) (by omega)
   exact ⟨v,by omega,fun hv=>h2 ((List.mem_erase_of_ne (by omega)).2 hv)⟩
  ·exact ⟨n,by omega,hm⟩
section
variable {N:Nat}
abbrev lG:List ByteArray:=[(⟨#[114]⟩:ByteArray),(⟨#[115]⟩:ByteArray),(⟨#[116]⟩:ByteArray),(⟨#[117]⟩:ByteArray),(⟨#[118]⟩:ByteArray)]
theorem xw {n m y:Int} {rows:aG} {s:ByteArray} (hs:s.size≤5) (hn:n≤5) (hy:y≤10) (hl:(rows.length:Int)≤y) (hr:∀ r∈rows,(r.length:Int)=n∧∀ v∈r,0≤v∧v<m):TSm (s,(n,rows)) :=
 ⟨hs,by show rows.length≤10;omega,fun r h=>by have:=(hr r h).1;omega⟩
theorem AD (hM:1073742848≤N) {a:List Int} (ha:dJ a) {z:List a6} {m:Int} (hm:0<m∧m≤100):∀ (d k:Nat) (acc:List a6) (p h:Int) (i:Nat),b9 a p→i+d=5→d<k→acc.length=i→(∀ t∈acc,TSm t) →
  ∃ q g ts v,gr N k a p h z m acc lG (lG.length:Int) (i:Int)=some (q,g,ts,v)∧b9 a q∧ts.length=5∧∀ t∈ts,TSm t:=by
 intro d
 induction d with
 | zero =>
  intro k acc p h i hc hd hk hl ht
  obtain ⟨k,rfl⟩:∃ g,k=g+1:=⟨k-1,by omega⟩
  rw [gr,decide_eq_false (show ¬ (i:Int)<(lG.length:Int) by show ¬ (i:Int)<5;omega),cond_false]
  exact ⟨_,_,_,_,rfl,hc,by omega,ht⟩
 | succ d ih =>
  intro k acc p h i hc hd hk hl ht
  obtain ⟨k,rfl⟩:∃ g,k=g+1:=⟨k-1,by omega⟩
  have hi:i<lG.length:=by show i<5;omega
  have hs:∀ s∈lG,s.size≤5:=by decide
  have hs':=hs _ (List.getElem_mem hi)
  rw [gr,decide_eq_true (show (i:Int)<(lG.length:Int) by omega),cond_true,aN hi,bs]
  obtain ⟨y,q,g,e,hy,hc1⟩:=hJ (N:=N) ha (h:=h) (l:=[3,6,9]) hc (by decide)
  have hyb:0≤y∧y≤10:=by
   simp only [List.mem_cons,List.not_mem_nil,or_false] at hy
   omega
  cases eqS lG[i] (⟨#[118]⟩:ByteArray) with
  | true =>
   obtain ⟨rows,q2,g2,e2,hc2,r1,r2⟩:=o4 hM ha (h:=g) (n:=3) (m:=m) (y:=y) hc1 hm (by decide) (by omega)
   rw [cond_true,e,bs]
   dsimp only
   rw [e2,bs]
   dsimp only
   rw [bi (by decide) (by simp;omega),bs,ad1 (by omega),bs]
   refine ih k _ q2 g2 (i+1) hc2 (by omega) (by omega) (by simp;omega) fun t h=>?_
   rcases List.mem_append.1 h with h | h
   ·exact ht t h
   ·rw [List.mem_singleton] at h;rw [h];exact xw hs' (by decide) hyb.2 r1 r2
  | false =>
   obtain ⟨rows,q2,g2,e2,hc2,r1,r2⟩:=o4 hM ha (h:=g) (n:=2) (m:=m) (y:=y) hc1 hm (by decide) (by omega)
   rw [cond_false,e,bs]
   dsimp only
   rw [e2,bs]
   dsimp only
   rw [bi (by decide) (by simp;omega),bs,ad1 (by omega),bs]
   refine ih k _ q2 g2 (i+1) hc2 (by omega) (by omega) (by simp;omega) fun t h=>?_
   rcases List.mem_append.1 h with h | h
   ·exact ht t h
   ·rw [List.mem_singleton] at h;rw [h];exact xw hs' (by decide) hyb.2 r1 r2
theorem sD {ts:List a6} {i:Nat} {t:a6} (h:∀ t∈ts,TSm t) (ht:TSm t):∀ u∈ts.set i t,TSm u:=fun u hu=>by
 rcases List.mem_or_eq_of_mem_set hu with h' | h'
 ·exact h u h'
 ·rw [h'];exact ht
theorem oy {α:Type} {xs:List α} {i:Int} {y:α} (h0:0≤i) (h:i<xs.length):sto xs i y=some (xs.set i.toNat y):=by
 obtain ⟨k,rfl⟩:=Int.eq_ofNat_of_zero_le h0
 exact ka (by omega)
theorem tA (hM:1073742848≤N) {a:List Int} (ha:dJ a) {p h:Int} (hc:b9 a p):∃ ts q g,kY N a p h=some (ts,q,g)∧b9 a q∧ts.length=5∧∀ t∈ts,TSm t:=by
 unfold kY
 obtain ⟨m,q,g,e,hm,hc1⟩:=hJ (N:=N) ha (h:=h) (l:=[2,3,4,6]) hc (by decide)
 have hmb:0<m∧m≤100:=by
  simp only [List.mem_cons,List.not_mem_nil,or_false] at hm
  omega
 rw [e,bs]
 dsimp only
 obtain ⟨q2,g2,ts,v,e2,hc2,hl,ht⟩:=AD hM ha (z:=[]) hmb 5 N [] q g 0 hc1 rfl (by omega) rfl (by simp)
 have e2':gr N N a q g [] m [] lG (lG.length:Int) 0=some (q2,g2,ts,v):=e2
 rw [e2',bs]
 unfold lpB
 dsimp only
 obtain ⟨b,q3,g3,e3,hc3⟩:=kt (N:=N) ha (h:=g2) (n:=8) hc2
 rw [e3,bs]
 dsimp only
 cases b with
 | false=>rw [cond_false];exact ⟨_,_,_,rfl,hc3,hl,ht⟩
 | true =>
  obtain ⟨x,q4,g4,e4,b0,b1,_,hc4⟩:=bM (N:=N) ha (h:=g3) (n:=5) hc3
  have b1:=b1 (by decide)
  have hx:x<(ts.length:Int):=by omega
  have hm:=ht _ (List.getElem_mem (show x.toNat<ts.length by omega))
  rw [cond_true,e4,bs]
  dsimp only
  rw [ia b0 hx,bs,oy b0 hx,bs]
  exact ⟨_,_,_,rfl,hc4,by rw [List.length_set];exact hl,sD ht ⟨hm.1,Nat.zero_le _,fun r hr=>by cases hr⟩⟩
theorem tO.t {r:Int × aG} {s:ByteArray} (hs:s.size≤5) (k:tO r):TSm (s,r):=⟨hs,by show r.2.length≤10;have:=k.2.1;omega,fun w hw=>(k.2.2 w hw).1⟩
theorem wQ (hM:1073742848≤N) {a:List Int} (ha:dJ a) {p h:Int} (hc:b9 a p):∃ ts q g,lm N a p h=some (ts,q,g)∧b9 a q∧DSm ts:=by
 have hN:1073741824≤N:=by omega
 obtain ⟨ts,q,g,e,hc1,hl,ht⟩:=tA hM ha (h:=h) hc
 obtain ⟨x,q2,g2,e2,b0,b1,_,hc2⟩:=bM (N:=N) ha (h:=g) (n:=5) hc1
 have b1:=b1 (by decide)
 obtain ⟨y,q3,g3,e3,_,_,_,hc3⟩:=bM (N:=N) ha (h:=g2) (n:=14) hc2
 have hx:x<(ts.length:Int):=by omega
 have hm:=ht _ (List.getElem_mem (show x.toNat<ts.length by omega))
 unfold lm
 rw [e,bs]
 dsimp only
 rw [e2,bs]
 dsimp only
 rw [e3,bs]
 dsimp only
 cases h0:(y == 0) with
 | true =>
  obtain ⟨s,q4,g4,e4,hs,hc4⟩:=nS (N:=N) ha (h:=g3) (l:=[ByteArray.empty,(⟨#[82]⟩:ByteArray),(⟨#[97,98,99,100,101]⟩:ByteArray),(⟨#[97]⟩:ByteArray),(⟨#[122]⟩:ByteArray)]) hc3 (by decide)
  have hss:∀ s∈[ByteArray.empty,(⟨#[82]⟩:ByteArray),(⟨#[97,98,99,100,101]⟩:ByteArray),(⟨#[97]⟩:ByteArray),(⟨#[122]⟩:ByteArray)],s.size≤5:=by decide
  rw [cond_true,e4,bs,ia b0 hx,bs,oy b0 hx,bs]
  exact ⟨_,_,_,rfl,hc4,by rw [List.length_set];omega,sD ht ⟨hss s hs,hm.2⟩⟩
 | false =>
 rw [cond_false]
 cases h1:(y == 1) with
 | true =>
  obtain ⟨r,q4,g4,e4,hc4,hr⟩:=ww hM ha (h:=g3) hc3
  rw [cond_true,e4,bs,ia b0 hx,bs,oy b0 hx,bs]
  exact ⟨_,_,_,rfl,hc4,by rw [List.length_set];omega,sD ht (hr.t hm.1)⟩
 | false =>
 rw [cond_false]
 cases h2:(y == 2) with
 | true =>
  rw [cond_true,ia b0 hx,bs,bi (by decide) (by simp;omega),bs]
  refine ⟨_,_,_,rfl,hc3,by simp;omega,fun t h=>?_⟩
  rcases List.mem_append.1 h with h | h
  ·exact ht t h
  ·rw [List.mem_singleton] at h;rw [h];exact hm
 | false =>
 rw [cond_false]
 cases h3:(y == 3) with
 | true =>
  have es:slc ts 0 x=some ((ts.take x.toNat).drop 0):=by
   have:=jq (xs:=ts) (lo:=0) (hi:=x.toNat) (by omega) (by omega)
   rwa [show ((x.toNat:Nat):Int)=x by omega] at this
  rw [cond_true,es,bs]
  refine ⟨_,_,_,rfl,hc3,by rw [List.drop_zero,List.length_take];omega,fun t h=>ht t (List.mem_of_mem_take (by simpa using h))⟩
 | false =>
 rw [cond_false]
 exact ⟨_,_,_,rfl,hc3,by omega,ht⟩
theorem uX (hM:1073742848≤N) {a:List Int} (ha:dJ a) {p h:Int} (hc:b9 a p):∃ ts r q g,kr N a p h=some (ts,r,q,g)∧b9 a q∧DSm ts∧QSm r:=by
 have hN:1073741824≤N:=by omega
 obtain ⟨ts,q,g,e,hc1,hl,ht⟩:=tA hM ha (h:=h) hc
 obtain ⟨r,q2,g2,e2,hc2,hr⟩:=pC hN ha (h:=g) hc1
 obtain ⟨y,q3,g3,e3,_,_,_,hc3⟩:=bM (N:=N) ha (h:=g2) (n:=24) hc2
 unfold kr
 rw [e,bs]
 dsimp only
 rw [e2,bs]
 dsimp only
 rw [e3,bs]
 dsimp only
 cases h0:(y == 0) with
 | true =>
  obtain ⟨ts2,q4,g4,e4,hc4,ht4⟩:=wQ hM ha (h:=g3) hc3
  rw [cond_true,e4,bs]
  exact ⟨_,_,_,_,rfl,hc4,ht4,hr.sm⟩
 | false =>
 rw [cond_false]
 cases h1:(y == 1) with
 | true =>
  obtain ⟨r2,q4,g4,e4,hc4,hr4⟩:=wy hN ha (h:=g3) hc3
  rw [cond_true,e4,bs]
  exact ⟨_,_,_,_,rfl,hc4,⟨by omega,ht⟩,hr4⟩
 | false =>
 rw [cond_false]
 exact ⟨_,_,_,_,rfl,hc3,⟨by omega,ht⟩,hr.sm⟩
theorem wD (hN:1073741824≤N) {a acc:List Int} {p h:Int} {n v:Nat} (hn:n≤5) (hacc:acc.length≤5) (hv:v<n) (hf:(v:Int)∉acc):∀ (d k r:Nat),r<n→(r+d=v∨r+d=v+n)→d≤n→d<k→∃ x:Int,fD N k a p h (n:Int) acc (r:Int)=some x∧0≤x∧x<n:=by
 intro d
 induction d with
 | zero =>
  intro k r hr hd _ hk
  obtain ⟨k,rfl⟩:∃ g,k=g+1:=⟨k-1,by omega⟩
  have:r=v:=by omega
  subst this
  have hneg:¬ 0≤cS acc (r:Int):=fun h=>hf (oF.1 h)
  rw [fD,gw hN (by omega),bs,decide_eq_false hneg,cond_false]
  exact ⟨_,rfl,by omega,by omega⟩
 | succ d ih =>
  intro k r hr hd hdn hk
  obtain ⟨k,rfl⟩:∃ g,k=g+1:=⟨k-1,by omega⟩
  rw [fD,gw hN (by omega),bs]
  by_cases hq:0≤cS acc (r:Int)
  ·rw [decide_eq_true hq,cond_true,ad1 (by omega),bs,rC (by omega),bs]
   by_cases hw:r+1=n
   ·have e:(((r+1:Nat):Int)).tmod (n:Int)=((0:Nat):Int):=by rw [hw,Int.tmod_self];rfl
    rw [e]
    exact ih k 0 (by omega) (by omega) (by omega) (by omega)
   ·have e:(((r+1:Nat):Int)).tmod (n:Int)=((r+1:Nat):Int):=Int.tmod_eq_of_lt (by omega) (by omega)
    rw [e]
    exact ih k (r+1) (by omega) (by omega) (by omega) (by omega)
  ·rw [decide_eq_false hq,cond_false]
   exact ⟨_,rfl,by omega,by omega⟩
theorem wF (hN:1073741824≤N) {a:List Int} (ha:dJ a) {n:Nat} (hn:n≤5):∀ (d k:Nat) (acc:List Int) (p h:Int),b9 a p→acc.length+d=n→d<k→(∀ v∈acc,0≤v∧v<n) →
  ∃ q g out,gI N k a p h (n:Int) acc=some (q,g,out)∧b9 a q∧out.length=n∧∀ v∈out,0≤v∧v<n:=by
 intro d
 induction d with
 | zero =>
  intro k acc p h hc hd hk hv
  obtain ⟨k,rfl⟩:∃ g,k=g+1:=⟨k-1,by omega⟩
  rw [gI,decide_eq_false (by omega),cond_false]
  exact ⟨_,_,_,rfl,hc,by omega,hv⟩
 | succ d ih =>
  intro k acc p h hc hd hk hv
  obtain ⟨k,rfl⟩:∃ g,k=g+1:=⟨k-1,by omega⟩
  obtain ⟨x,q,g,e,b0,b1,_,hc1⟩:=bM (N:=N) ha (h:=h) (n:=(n:Int)) hc
  have b1:=b1 (by omega)
  obtain ⟨v,hv1,hv2⟩:=yu n acc (by omega)
  obtain ⟨r,rfl⟩:=Int.eq_ofNat_of_zero_le b0
  obtain ⟨y,e2,y0,y1⟩:=wD hN (a:=a) (p:=q) (h:=g) hn (by omega) hv1 hv2 (if r≤v then v-r else v+n-r) N r (by omega) (by split <;> omega) (by split <;> omega) (by split <;> omega)
  rw [gI,decide_eq_true (by omega),cond_true,e,bs]
  dsimp only
  have e2':fD N N a q g (n:Int) acc ((r:Nat):Int)=some y:=e2
  rw [e2',bs]
  unfold lpB
  dsimp only
  rw [bi (by decide) (by simp;omega),bs]
  refine ih k _ q g hc1 (by simp;omega) (by omega) fun w hw=>?_
  rcases List.mem_append.1 hw with h | h
  ·exact hv w h
  ·rw [List.mem_singleton] at h;rw [h];exact ⟨y0,y1⟩
theorem uE (hN:1073741824≤N) {a:List Int} (ha:dJ a) {p h:Int} {n:Nat} (hn:n≤5) (hc:b9 a p):∃ out q g,jV N a p h (n:Int)=some (out,q,g)∧b9 a q∧out.length=n:=by
 obtain ⟨q,g,out,e,h1,h2,_⟩:=wF hN ha hn n N [] p h hc (by simp) (by omega) (by simp)
 unfold jV
 rw [e,bs]
 exact ⟨_,_,_,rfl,h1,h2⟩
theorem tI (hN:1073741824≤N) {a:List Int} (ha:dJ a) {p h n:Int} {ats:List aU} {o:List Int} (hc:b9 a p):∃ out q g,jm N a p h n ats o=some (out,q,g)∧b9 a q∧out.length≤5:=by
 unfold jm
 have hi:∃ m:Nat,imx 0 (imn 5 n)=(m:Int)∧m≤5:=by
  have h1:0≤imx 0 (imn 5 n)∧imx 0 (imn 5 n)≤5:=by
   unfold imx imn
   split <;> split at*<;> omega
  exact ⟨(imx 0 (imn 5 n)).toNat,by omega,by omega⟩
 obtain ⟨m,em,hm⟩:=hi
 obtain ⟨out,q,g,e,hc1,hl⟩:=uE hN ha (h:=h) hm hc
 rw [em,e,bs]
 dsimp only
 by_cases h0:(0:Int)<(out.length:Int)
 ·obtain ⟨b,q2,g2,e2,hc2⟩:=kt (N:=N) ha (h:=g) (n:=14) hc1
  rw [decide_eq_true h0,cond_true,e2,bs]
  dsimp only
  cases b with
  | false=>rw [cond_false];exact ⟨_,_,_,rfl,hc2,by omega⟩
  | true =>
   obtain ⟨x,q3,g3,e3,_,_,_,hc3⟩:=bM (N:=N) ha (h:=g2) (n:=6) hc2
   rw [cond_true,e3,bs,ia (by decide) h0,bs,oy (by decide) h0,bs]
   exact ⟨_,_,_,rfl,hc3,by rw [List.length_set];omega⟩
 ·rw [decide_eq_false h0,cond_false];exact ⟨_,_,_,rfl,hc1,by rw [hl];exact hm⟩
def JSm (ts:List a6) (r:nc) (o:List Int):Prop:=DSm ts∧QSm r∧o.length≤5
theorem JSm.o {ts:List a6} {r:nc} {o:List Int} (h:JSm ts r o):okI o:=⟨by have:=h.2.2;omega,fun _ _=>trivial⟩
theorem ux (hM:1073742848≤N) {a:List Int} (ha:dJ a) {p h:Int} (hc:b9 a p):∃ ts r o q g,jR N a p h=some (ts,r,o,q,g)∧b9 a q∧JSm ts r o:=by
 obtain ⟨ts,r,q,g,e,hc1,ht,hr⟩:=uX hM ha (h:=h) hc
 unfold jR
 rw [e,bs]
 dsimp only
 obtain ⟨o,q2,g2,e2,hc2,hl⟩:=tI (N:=N) (by omega) ha (h:=g) (n:=r.1) (ats:=r.2.1) (o:=r.2.2) hc1
 rw [e2,bs]
 exact ⟨_,_,_,_,_,rfl,hc2,ht,hr,hl⟩
theorem Aj {a:List Int}:b9 a 0:=⟨Int.le_refl _,by omega⟩
theorem pk (hM:1073742848≤N) {a:List Int} (ha:dJ a):∃ ts r o,f4 N a=some (ts,r,o)∧JSm ts r o:=by
 obtain ⟨h,e⟩:=r3 (N:=N) (by omega) ha
 obtain ⟨ts,r,o,q,g,e2,_,hj⟩:=ux hM ha (h:=h) Aj
 unfold f4
 rw [e,bs]
 dsimp only
 rw [e2,bs]
 exact ⟨_,_,_,rfl,hj⟩
end
end Go.Proofs.YtoijldeajagjjaaGreat
namespace Go.Proofs.YtoijldeajagjjaaGreat
open Go.RowKit

theorem s8 {f:Nxt}:∀ {m:Nat} {p0 s r:List Int},r∈(bp f m p0).1→s.length<m→r.take (p0++s).length=p0++s→∃ h:(p0++s).length<r.length,r[(p0++s).length]∈(f (p0++s)).1
 | 0,_,_,_,_,hs,_=>absurd hs (Nat.not_lt_zero _)
 | m+1,p0,s,r,hr,hs,ht=>by
  obtain ⟨v,hv,hr⟩:=List.mem_flatMap.1 hr
  obtain ⟨s',e,hl⟩:=jS hr
  cases s with
  | nil =>
   subst e
   simp only [List.append_nil]
   refine ⟨by simp,?_⟩
   have:(p0++[v]++s')[p0.length]'(by simp)=v:=by simp
   rw [this];exact hv
  | cons w s =>
   have hw:w=v:=by
    subst e
    have h1:=congrArg (fun l:List Int=>l[p0.length]?) ht
    simp only [List.length_append,List.length_cons,List.append_assoc] at h1
    rw [List.getElem?_take_of_lt (by omega)] at h1
    simpa using h1.symm
   subst hw
   have e2:p0++w :: s=p0++[w]++s:=by simp
   rw [e2] at ht ⊢
   exact s8 hr (by simp at hs;omega) ht
theorem tk {f g:Nxt} {n:Nat} (h:∀ p:List Int,p.length<n→(f p).1=(g p).1):∀ (m:Nat) (p:List Int),p.length+m≤n→(bp f m p).1=(bp g m p).1
 | 0,_,_=>rfl
 | m+1,p,hp=>by
  show (f p).1.flatMap (fun v=>(bp f m (p++[v])).1)=(g p).1.flatMap fun v=>(bp g m (p++[v])).1
  rw [h p (by omega)]
  congr 1
  funext v
  exact tk h m _ (by simp;omega)
theorem ss {ts:List a6} {n:Nat} {atoms:List aU} {order:List Int} (q:QFor ts n atoms order):(bp (cd ts order atoms) n []).1=(bp (bb ts order atoms) n []).1 :=
 tk (n:=n) (fun p hp=>rg ((np q).asc p) ((kL q).asc p) (A1 q hp)) n [] (by simp)
section
variable {N:Nat}
theorem uB (hN:1073741824≤N) {xs ys:List Int} (hx:xs.length≤1048576):jo N xs ys=some (decide (xs=ys)):=by
 unfold jo
 by_cases hl:xs.length=ys.length
 ·rw [yG hl,cond_false]
  refine xJ (L:=fun k i=>ep N k xs ys i) hl hx hN (fun k i h h'=>?_) (fun k=>?_)
  ·show ep N (k+1) xs ys (i:Int)=_
   rw [ep,dlt h,cond_true,aN h,bs,aN h',bs,sM,ad1 (by omega),bs]
   cases decide (xs[i]=ys[i]) <;> rfl
  ·show ep N (k+1) xs ys (xs.length:Int)=_
   rw [ep,dge (by omega),cond_false]
 ·rw [yI hl,cond_true];exact AK hl
end
end Go.Proofs.YtoijldeajagjjaaGreat
namespace Go.Proofs.YtoijldeajagjjaaGreat
open Go.RowKit

theorem sZ (ls:aG):∀ i:Nat,i<ls.length→shT ls (i+1)=((ls.getD ((List.range' 1 i).foldl (fun s i=>gj ls i s) 0).toNat []).length:Int)
 | 0,_=>by rw [l9];rfl
 | i+1,h=>by
  rw [l9,sZ ls i (by omega),List.range'_concat,List.foldl_append]
  simp only [List.foldl_cons,List.foldl_nil]
  have e:1+1*i=i+1:=by omega
  rw [e]
  generalize (List.range' 1 i).foldl (fun s i=>gj ls i s) 0=s
  unfold shS gj
  rw [show Nat.beq (i+1) 0=false from rfl,Bool.false_or]
  by_cases hc:(ls.getD (i+1) []).length<(ls.getD s.toNat []).length
  ·rw [decide_eq_true hc,decide_eq_true (show ((ls.getD (i+1) []).length:Int)<((ls.getD s.toNat []).length:Int) by omega),cond_true,cond_true];rfl
  ·rw [decide_eq_false hc,decide_eq_false (show ¬ ((ls.getD (i+1) []).length:Int)<((ls.getD s.toNat []).length:Int) by omega),cond_false,cond_false]
theorem wd {ls:aG} (h:0<ls.length):shT ls ls.length=((ls.getD (ea ls).toNat []).length:Int):=by
 have:=sZ ls (ls.length-1) (by omega)
 rwa [show ls.length-1+1=ls.length by omega] at this
theorem we {ls:aG}:(fA ls).2≤(ls.length:Int)*shT ls ls.length:=by
 have h0:=(r7 ls ls.length).1
 unfold fA
 cases ha:cl ls with
 | false=>rw [cond_false];exact Int.mul_nonneg (by omega) h0
 | true =>
  unfold cl at ha
  rw [Bool.and_eq_true,List.all_eq_true,decide_eq_true_eq] at ha
  obtain ⟨_,_,h3⟩:=v5 (ls:=ls) (sh:=ea ls) (vs:=ls.getD (ea ls).toNat []) (ls.getD (ea ls).toNat []).length (Nat.le_refl _)
  rw [cond_true,wd ha.2,Int.mul_comm]
  refine Int.le_trans h3 (Int.le_of_eq ?_)
  push_cast
  rfl
def iQ (ls:aG) (v:Int):Bool:=(List.range' 1 (ls.length-1)).all fun k=>decide (v∈ls.getD k [])
def oi (ls:aG):List Int:=bif cl ls then (ls.getD 0 []).filter (iQ ls) else []
theorem r5:∀ {ls:aG} {l:List Int},l∈ls→l.length≤(ls.map List.length).sum
 | [],_,h=>absurd h (by simp)
 | x :: ls,l,h=>by
  rw [List.map_cons,List.sum_cons]
  rcases List.mem_cons.1 h with rfl | h
  ·omega
  ·have:=r5 h;omega
theorem uG (ls:aG):oi ls=(fA ls).1:=by
 have hB:∀ l∈ls,l.length≤(ls.map List.length).sum:=fun l hl=>r5 hl
 have k:=mi (ls:=ls) hB
 unfold oi
 cases ha:cl ls with
 | false=>unfold fA;rw [ha];rfl
 | true =>
  have ha':=ha
  unfold cl at ha'
  rw [Bool.and_eq_true,List.all_eq_true,decide_eq_true_eq] at ha'
  have hp:=ha'.2
  rw [cond_true]
  refine rg (List.Pairwise.filter _ (ni (ha'.1 _ (ez hp)))) k.1 fun x=>?_
  rw [List.mem_filter]
  unfold iQ
  rw [List.all_eq_true]
  constructor
  ·rintro ⟨h1,h2⟩
   refine k.2.2.2.2 ha x fun l hl=>?_
   obtain ⟨i,hi,rfl⟩:=List.getElem_of_mem hl
   rw [← cW hi]
   cases i with
   | zero=>exact h1
   | succ i =>
    have:=h2 (i+1) (by simp;omega)
    rwa [decide_eq_true_eq] at this
  ·intro hx
   have h:=k.2.1 x hx
   exact ⟨h _ (ez hp),fun i hi=>by
    have hi:1≤i∧i<ls.length:=by simp at hi;omega
    rw [decide_eq_true_eq];exact h _ (ez hi.2)⟩
section
variable {N:Nat}
theorem tC (hN:1073741824≤N) {ls:aG} (h:cF ls) {out:List Int} {i:Nat} (hp:0<ls.length) (hi:i<ls[0].length):∀ (m j k:Nat) (b:Bool),j+m=ls.length→1≤j→m<k →
  dc N k ls out (i:Int) b (j:Int)=some (b&&(List.range' j m).all (fun k=>decide (ls[0][i]∈ls.getD k [])),(ls.length:Int)):=by
 intro m
 induction m with
 | zero =>
  intro j k b hj _ hk
  obtain ⟨k,rfl⟩:∃ g,k=g+1:=⟨k-1,by omega⟩
  rw [dc,dge (by omega),cond_false]
  simp;omega
 | succ m ih =>
  intro j k b hj h1 hk
  obtain ⟨k,rfl⟩:∃ g,k=g+1:=⟨k-1,by omega⟩
  have hjl:j<ls.length:=by omega
  have hl:=h.1
  rw [dc,dlt hjl,cond_true]
  cases b with
  | false =>
   rw [cond_false,ad1 (by omega),bs,ih (j+1) k false (by omega) (by omega) (by omega)]
   simp
  | true =>
   have i0:ix ls 0=some ls[0]:=aN hp
   rw [cond_true,aN hjl,bs,i0,bs,aN hi,bs,gw hN (i6 h hjl),bs,ad1 (by omega),bs,ih (j+1) k _ (by omega) (by omega) (by omega),ie,List.range'_succ,List.all_cons,cW hjl,Bool.true_and]
theorem qJ (hN:1073741824≤N) {ls:aG} (h:cF ls):fS N ls=some (oi ls):=by
 have hl:=h.1
 unfold fS
 by_cases hp:0<ls.length
 ·have i0:ix ls 0=some ls[0]:=aN hp
  have hl0:=i6 h hp
  have hL:=dr (fun k (s:List Int) i=>cb N k ls s i) ls[0].length (fun i=>bif cl ls then (ls[0].take i).filter (iQ ls) else []) (oi ls,(ls[0].length:Int))
   (fun k i hi=>by
    show cb N (k+1) ls (bif cl ls then (ls[0].take i).filter (iQ ls) else []) (i:Int)=_
    have e2:dc N N ls (bif cl ls then (ls[0].take i).filter (iQ ls) else []) (i:Int) (cl ls) 1=_:=tC hN h hp hi (ls.length-1) 1 N (cl ls) (by omega) (by omega) (by omega)
    rw [cb,decide_eq_true (show (0:Int)<(ls.length:Int) by omega),cond_true,i0,bs,dlt hi,cond_true,qj hN h,bs,e2,bs]
    unfold lpB
    dsimp only
    have hsz:((bif cl ls then (ls[0].take i).filter (iQ ls) else []):List Int).length≤1048576:=by
     cases cl ls
     ·simp
     ·rw [cond_true]
      have:=List.length_filter_le (iQ ls) (ls[0].take i)
      rw [List.length_take] at this;omega
    rw [bs,aN hi,bs,bi (by decide) (by simp;omega),bs,ad1 (by omega),bs,bs]
    rw [List.take_succ_eq_append_getElem hi,List.filter_append]
    cases ha:cl ls with
    | false=>rfl
    | true =>
     rw [Bool.true_and,cond_true,cond_true]
     show (bif iQ ls ls[0][i] then _ else _)=_
     cases hb:iQ ls ls[0][i] <;> simp [hb])
   (fun k=>by
    show cb N (k+1) ls (bif cl ls then (ls[0].take ls[0].length).filter (iQ ls) else []) (ls[0].length:Int)=_
    rw [cb,decide_eq_true (show (0:Int)<(ls.length:Int) by omega),cond_true,i0,bs,dge (by omega),cond_false,List.take_length]
    unfold oi
    rw [cW hp]) N 0 (by omega) (by omega)
  have hL':cb N N ls (bif cl ls then [] else []) 0=some (oi ls,(ls[0].length:Int)):=hL
  rw [show (bif cl ls then ([]:List Int) else [])=[] by cases cl ls <;> rfl] at hL'
  rw [hL',bs];rfl
 ·obtain ⟨k,rfl⟩:∃ k,N=k+1:=⟨N-1,by omega⟩
  have:ls=[]:=List.length_eq_zero_iff.1 (by omega)
  subst this
  rw [cb];rfl
theorem xL {a:List Int} (ha:dJ a):∀ (d k:Nat) (acc:List Int) (p h v c:Int),b9 a p→c.toNat=d→c≤10→d<k→acc.length+d≤100→0≤v→v+4*d≤1000 →
  ∃ q g l v' c',gF N k a p h acc v c=some (q,g,l,v',c')∧b9 a q∧l.length=acc.length+d:=by
 intro d
 induction d with
 | zero =>
  intro k acc p h v c hc hd _ hk _ _ _
  obtain ⟨k,rfl⟩:∃ g,k=g+1:=⟨k-1,by omega⟩
  rw [gF,decide_eq_false (show ¬ 0<c by omega),cond_false]
  exact ⟨_,_,_,_,_,rfl,hc,by omega⟩
 | succ d ih =>
  intro k acc p h v c hc hd hcc hk hl hv0 hv1
  obtain ⟨k,rfl⟩:∃ g,k=g+1:=⟨k-1,by omega⟩
  obtain ⟨x,q,g,e,b0,b1,_,hc'⟩:=bM (N:=N) ha (h:=h) (n:=3) hc
  have b1:=b1 (by decide)
  rw [gF,decide_eq_true (show 0<c by omega),cond_true,bi (by decide) (by simp;omega),bs,gE (by omega) (by omega),bs,e,bs]
  dsimp only
  rw [gE (by omega) (by omega),bs,fC (by omega) (by omega),bs]
  obtain ⟨q',g',l,v',c',e',k1,k2⟩:=ih k (acc++[v]) q g (v+1+x) (c-1) hc' (by omega) (by omega) (by omega) (by simp;omega) (by omega) (by omega)
  exact ⟨q',g',l,v',c',e',k1,by simp at k2;omega⟩
theorem uF (hN:1073741824≤N) {a:List Int} (ha:dJ a) {p h:Int} (hc:b9 a p):∃ l q g,jW N a p h=some (l,q,g)∧b9 a q∧l.length≤10:=by
 unfold jW
 obtain ⟨x,q,g,e,b0,b1,_,hc1⟩:=bM (N:=N) ha (h:=h) (n:=3) hc
 have b1:=b1 (by decide)
 obtain ⟨y,q2,g2,e2,c0,c1,_,hc2⟩:=bM (N:=N) ha (h:=g) (n:=8) hc1
 have c1:=c1 (by decide)
 obtain ⟨q3,g3,l,v',c',e3,hc3,hl⟩:=xL (N:=N) ha y.toNat N [] q2 g2 x y hc2 rfl (by omega) (by omega) (by simp;omega) b0 (by omega)
 rw [e,bs]
 dsimp only
 rw [e2,bs]
 dsimp only
 rw [e3,bs]
 unfold lpB
 dsimp only
 simp only [List.length_nil,Nat.zero_add] at hl
 by_cases h1:(1:Int)<(l.length:Int)
 ·obtain ⟨b,q4,g4,e4,hc4⟩:=kt (N:=N) ha (h:=g3) (n:=20) hc3
  rw [decide_eq_true h1,cond_true,e4,bs]
  dsimp only
  cases b with
  | false=>rw [cond_false];exact ⟨_,_,_,rfl,hc4,by omega⟩
  | true =>
   rw [cond_true,ia (by decide) (by omega),bs,ia (by decide) h1,bs,oy (by decide) h1,bs]
   exact ⟨_,_,_,rfl,hc4,by rw [List.length_set];omega⟩
 ·rw [decide_eq_false h1,cond_false];exact ⟨_,_,_,rfl,hc3,by omega⟩
theorem wt (hN:1073741824≤N) {a:List Int} (ha:dJ a):∀ (d k:Nat) (acc:aG) (p h c:Int),b9 a p→c.toNat=d→c≤10→d<k→acc.length+d≤100→(∀ l∈acc,l.length≤10) →
  ∃ q g ls c',gd N k a p h acc c=some (q,g,ls,c')∧b9 a q∧ls.length=acc.length+d∧∀ l∈ls,l.length≤10:=by
 intro d
 induction d with
 | zero =>
  intro k acc p h c hc hd _ hk _ hv
  obtain ⟨k,rfl⟩:∃ g,k=g+1:=⟨k-1,by omega⟩
  rw [gd,decide_eq_false (show ¬ 0<c by omega),cond_false]
  exact ⟨_,_,_,_,rfl,hc,by omega,hv⟩
 | succ d ih =>
  intro k acc p h c hc hd hcc hk hl hv
  obtain ⟨k,rfl⟩:∃ g,k=g+1:=⟨k-1,by omega⟩
  obtain ⟨l,q,g,e,hc',hll⟩:=uF hN ha (h:=h) hc
  rw [gd,decide_eq_true (show 0<c by omega),cond_true,e,bs]
  dsimp only
  rw [bi (by decide) (by simp;omega),bs,fC (by omega) (by omega),bs]
  obtain ⟨q',g',ls,c',e',k1,k2,k3⟩:=ih k (acc++[l]) q g (c-1) hc' (by omega) (by omega) (by omega) (by simp;omega) fun r hr=>by
   rcases List.mem_append.1 hr with h | h
   ·exact hv r h
   ·rw [List.mem_singleton] at h;rw [h];exact hll
  exact ⟨q',g',ls,c',e',k1,by simp at k2;omega,k3⟩
theorem mE (hN:1073741824≤N) {a:List Int} (ha:dJ a):∃ ls,dQ N a=some ls∧ls.length≤5∧∀ l∈ls,l.length≤10:=by
 obtain ⟨h,e⟩:=r3 (N:=N) (by omega) ha
 obtain ⟨x,q,g,e1,b0,b1,_,hc1⟩:=bM (N:=N) ha (h:=h) (n:=5) Aj
 have b1:=b1 (by decide)
 obtain ⟨q2,g2,ls,c',e2,hc2,hl,hk⟩:=wt hN ha x.toNat N [] q g x hc1 rfl (by omega) (by omega) (by simp;omega) (by simp)
 have e3:jn N a 0 h=some (ls,q2,g2):=by
  unfold jn
  rw [e1,bs]
  dsimp only
  rw [e2,bs];rfl
 unfold dQ
 rw [e,bs]
 dsimp only
 rw [e3,bs]
 simp only [List.length_nil,Nat.zero_add] at hl
 exact ⟨_,rfl,by show ls.length≤5;omega,hk⟩
theorem oK (hM:1073742848≤N) {a:List Int} (ha:dJ a):∃ ts r o,fJ N a=some (ts,r,o)∧JSm ts r o:=by
 obtain ⟨ts,r,o,e,hj⟩:=pk hM ha
 unfold fJ
 rw [e,bs]
 exact ⟨_,_,_,rfl,hj⟩
end
theorem xO {ts:List a6} {n:Nat} {atoms:List aU} {order:List Int} (q:QFor ts n atoms order) {v:Int} (h0:0≤v) (h1:v<n):v∈order:=by
 apply Classical.byContradiction
 intro hn
 obtain ⟨h2,h3⟩:=kA q.os
 have:=kv n (v :: order) (List.nodup_cons.2 ⟨hn,h2⟩) (fun x hx=>by
  rcases List.mem_cons.1 hx with rfl | h
  ·exact ⟨h0,h1⟩
  ·have:=h3 x h;omega)
 rw [List.length_cons,q.ol] at this
 omega
theorem wj {ts:List a6} {n:Nat} {atoms:List aU} {order:List Int} (q:QFor ts n atoms order) (he:kB (a9 ts order atoms)=true):(bp (bb ts order atoms) n []).1=[]:=by
 refine List.eq_nil_iff_forall_not_mem.2 fun r hr=>?_
 unfold kB a9 at he
 rw [List.any_eq_true] at he
 obtain ⟨t,ht,h0⟩:=he
 rw [decide_eq_true_eq] at h0
 obtain ⟨a,ha,rfl⟩:=List.mem_map.1 ht
 obtain ⟨i,hi,rfl⟩:=List.getElem_of_mem ha
 obtain ⟨h1,h2,h3⟩:=q.al _ ha
 have hv:=h3 _ (List.getElem_mem (show 0<atoms[i].2.length by omega))
 obtain ⟨l,hl,el⟩:=List.getElem_of_mem (xO q hv.1 hv.2)
 have hol:=q.ol
 obtain ⟨s,e,hs⟩:=jS hr
 have hrl:r.length=n:=by rw [e];exact hs
 have hpl:(r.take l).length=l:=by rw [List.length_take];omega
 obtain ⟨w1,w2⟩:=s8 (p0:=[]) (s:=r.take l) hr (by omega) (by rw [List.nil_append,hpl])
 obtain ⟨x,w2⟩:∃ x,x∈(bb ts order atoms (r.take l)).1:=⟨_,by simpa using w2⟩
 have k:=mi (ls:=d9 ts order atoms (r.take l)) (B:=16) fun l hl=>(gx q l hl).1
 have hin:atV ts order atoms (r.take l) i∈d9 ts order atoms (r.take l):=by
  unfold d9
  rw [hpl]
  refine List.mem_map.2 ⟨i,nl.2 ⟨hi,?_⟩,rfl⟩
  rw [bF hl,el,iH hi]
  exact List.getElem_mem _
 have hx:=k.2.1 _ w2 _ hin
 unfold atV at hx
 rw [iH hi] at hx
 have hlen:=s5 (jY ts order atoms[i]).1 (jY ts order atoms[i]).2 (qf atoms[i].2 order (r.take l))
 have:=List.length_pos_of_mem hx
 omega
theorem tM {ts:List a6} {n:Int} {atoms:List aU} {out order:List Int}:(iy ts n atoms out order).1=(gc ts n atoms out order).1∧(iy ts n atoms out order).2.2=(gc ts n atoms out order).2.2:=by
 unfold iy gc
 cases h:okQ ts n atoms out order with
 | false=>exact ⟨rfl,rfl⟩
 | true =>
  obtain ⟨m,rfl,q,_⟩:=oO h
  rw [cond_true,cond_true]
  have e:=ss q
  have e':(bp (cd ts order atoms) (m:Int).toNat []).1=(bp (bb ts order atoms) (m:Int).toNat []).1:=e
  cases he:kB (a9 ts order atoms) with
  | false =>
   rw [cond_false]
   unfold hX
   rw [e']
   cases decide (((bp (bb ts order atoms) (m:Int).toNat []).1.length:Int)≤4000) <;> exact ⟨rfl,rfl⟩
  | true =>
   have e2:(bp (bb ts order atoms) (m:Int).toNat []).1=[]:=wj q he
   rw [cond_true]
   unfold hX
   rw [e2]
   exact ⟨rfl,rfl⟩
end Go.Proofs.YtoijldeajagjjaaGreat
namespace Go.Proofs.YtoijldeajagjjaaGreat
open Go.RowKit
theorem yB {ts:List a6} {n:Int} {atoms:List aU} {out order:List Int}:mR (iy ts n atoms out order) out order=mR (gc ts n atoms out order) out order:=by
 unfold mR
 rw [tM.1,tM.2]
theorem qK {N:Nat} (hM:1073742848≤N) {x0:List Int} (_:(m7 (fun _=>True) 9223372036854775807) x0) (g0:∀ v∈x0,0≤v∧v≤255):iD N x0=some true:=by
 have hN:1073741824≤N:=by omega
 unfold iD oV
 rw [bs]
 by_cases hb:(1048576:Int)<(x0.length:Int)
 ·rw [decide_eq_true hb];rfl
 ·rw [decide_eq_false hb,cond_false]
  have hc:dJ x0:=⟨by omega,fun v hv=>g0 v hv⟩
  obtain ⟨ts,⟨n,ats,out⟩,o,e1,hj⟩:=oK hM hc
  obtain ⟨ls,e2,hl,hk⟩:=mE hN hc
  have hok:cF ls:=⟨by omega,fun l h=>⟨by have:=hk l h;omega,fun _ _=>trivial⟩⟩
  have d1:=hj.1.ok;have d2:=hj.2.1.atoms;have d3:=hj.2.1.out;have d4:=hj.o
  rw [e1,bs]
  dsimp only at d2 d3 ⊢
  rw [lR hM d1 d2 d3 d4,bs,pn hM d1 d2 d3 d4,bs,lC hM d1 d2 d3 d4,bs,e2,bs,jF hN hok,bs,bne_self_eq_false,cond_false,bne_self_eq_false,cond_false,tM.2,bne_self_eq_false,cond_false]
  have hr:=rE (ts:=ts) (n:=n) (atoms:=ats) (out:=out) (order:=o)
  rw [tM.1,kn hN hr hr,bs,decide_eq_true rfl,cond_true,bs,cond_true,qJ hN hok,bs,uG,uB hN (xD hok).1,bs,decide_eq_true rfl,cond_true,nT hN hok.1,bs]
  have hs:=r7 ls ls.length
  have hs2:shT ls ls.length≤10:=by
   by_cases h0:0<ls.length
   ·have:=hs.2 0 h0
    have:=hk _ (ez h0)
    omega
   ·have:ls=[]:=List.length_eq_zero_iff.1 (by omega)
    subst this
    decide
  have hm1:0≤(ls.length:Int)*shT ls ls.length:=Int.mul_nonneg (by omega) hs.1
  have hm2:(ls.length:Int)*shT ls ls.length≤5*10:=Int.mul_le_mul (by omega) hs2 hs.1 (by decide)
  have hcnt:=we (ls:=ls)
  rw [rW (by omega) (by omega),bs,decide_eq_false (by omega),cond_false,lJ hM d1 d2 d3 d4,bs,mK hM d1 d2 d3 d4,bs,yB,beq_self_eq_true,cond_true]
  have he:=x7 (order:=o) hr d3
  rw [kn hN he he,bs,decide_eq_true rfl]
end Go.Proofs.YtoijldeajagjjaaGreat
namespace Go.Proofs.YtoijldeajagjjaaGreat
open Go.RowKit
section
variable {P:Program} {n:Nat} {Q Q':Exit→Env→World→Prop} {K:Env→World→Prop} {KQ:Env→Prop} {e:Env} {w w0:World} {c y:Code} {x:Exit} {ops:Array Oper} {rest:List Oper}
variable {d:Nat} {op:Op} {ty:TypeId} {pos:String} {af:Array Edge} {o z1 z2 z3:Operand} {v:Value} {q1:Oper}
theorem dt {p:Prop} [Decidable p] (h:decide p=true):p:=of_decide_eq_true h
theorem sg (h:∀ Q':Exit→Env→World→Prop,(∀ x e w,thn (fun e w=>CW P n y Q e w) Q x e w→Q' x e w)→CW P n c Q' e w):CW P n (.seq c y) Q e w:=xn (sj h)
theorem sR {id:Nat} {l:List Oper} (h:∀ Q':Exit→Env→World→Prop,(∀ x e w,thn (fun e w=>CW P n y Q e w) Q x e w→Q' x e w)→EL P n l.toArray (fun e w=>Q' .normal e w) l e w):CW P n (.seq (.region id l.toArray false) y) Q e w:=xn (sj fun Q' q=>ag (h Q' q))
theorem gn (h:∀ Q':Exit→Env→World→Prop,(∀ x e w,Q x e w→Q' x e w)→CW P n c Q' e w):CW P n c Q e w:=sj h
theorem bg {i:Nat} (h:∀ Q':Exit→Env→World→Prop,(∀ x e w,inb i Q x e w→Q' x e w)→CW P n c Q' e w):CW P n (.block i c) Q e w:=yi (sj h)
theorem hq {f:Exit→Env→World→Prop} (h:∀ x e w,f x e w→Q' x e w) (k:f x e w):Q' x e w:=h _ _ _ k
theorem tn (h:∀ x e w,thn K Q x e w→Q' x e w) (k:K e w):Q' .normal e w:=h _ _ _ k
theorem tr (h:∀ x e w,thn K Q x e w→Q' x e w) (k:Q .ret e w):Q' .ret e w:=h _ _ _ k
theorem tx {i:Nat} (h:∀ x e w,thn K Q x e w→Q' x e w) (k:Q (.exit i) e w):Q' (.exit i) e w:=h _ _ _ k
theorem bn {i:Nat} (h:∀ x e w,inb i Q x e w→Q' x e w) (k:Q .normal e w):Q' .normal e w:=h _ _ _ k
theorem br {i:Nat} (h:∀ x e w,inb i Q x e w→Q' x e w) (k:Q .ret e w):Q' .ret e w:=h _ _ _ k
theorem bS {i:Nat} (h:∀ x e w,inb i Q x e w→Q' x e w) (k:Q .normal e w):Q' (.exit i) e w:=h _ _ _ (A6 k)
theorem en (h:∀ x e w,thn K Q x e w→Q' x e w) (k:K e w):EL P n ops (fun e w=>Q' .normal e w) [] e w:=ah (h _ _ _ k)
theorem sn (h:∀ x e w,thn K Q x e w→Q' x e w) (k:K e w):CW P n .skip Q' e w:=aT (h _ _ _ k)
theorem pa (v:Value) (hK:EL P n ops K rest (upd e d v) w) (hx:ev e o=v:=by exact rfl) (hd:d<n:=by decide):EL P n ops K (⟨some d,.assign o,ty,pos,af,none⟩ :: rest) e w:=mf (de hx) hd hK
theorem pm (v:Value) (hK:EL P n ops K rest (upd e d v) w) (hx:ev e o=v:=by exact rfl) (hd:d<n:=by decide):EL P n ops K (⟨some d,.move o,ty,pos,af,none⟩ :: rest) e w:=mf (aZ hx) hd hK
theorem pM (v:Value) (hx:ev e o=v) (hK:EL P n ops K rest (upd e d v) w) (hd:d<n:=by decide):EL P n ops K (⟨some d,.move o,ty,pos,af,none⟩ :: rest) e w:=mf (aZ hx) hd hK
theorem pe (v:Value) (hp:PV P ⟨some d,op,ty,pos,af,none⟩ e w v) (hK:EL P n ops K rest (upd e d v) w) (hd:d<n:=by decide):EL P n ops K (⟨some d,op,ty,pos,af,none⟩ :: rest) e w:=mf hp hd hK
theorem qe (v:Value) (hp:PV P ⟨some d,op,ty,pos,af,none⟩ e w v) (hK:QL P n ops w KQ rest (upd e d v)) (hd:d<n:=by decide):QL P n ops w KQ (⟨some d,op,ty,pos,af,none⟩ :: rest) e:=qq hp hd hK
theorem qm (v:Value) (hK:QL P n ops w KQ rest (upd e d v)) (hx:ev e o=v:=by exact rfl) (hd:d<n:=by decide):QL P n ops w KQ (⟨some d,.move o,ty,pos,af,none⟩ :: rest) e:=qq (aZ hx) hd hK
theorem qM (v:Value) (hx:ev e o=v) (hK:QL P n ops w KQ rest (upd e d v)) (hd:d<n:=by decide):QL P n ops w KQ (⟨some d,.move o,ty,pos,af,none⟩ :: rest) e:=qq (aZ hx) hd hK
theorem eo {j:Nat} {b b' c:Bool} (hc:c=b) (hK:EL P n ops K rest (upd e d undef) w) (h:yld ops e j=some c:=by exact rfl) (hb:(b == b')=false:=by exact rfl) (hd:d<n:=by decide):EL P n ops K (⟨some d,op,ty,pos,af,some (j,b')⟩ :: rest) e w:=AZ h hc hb hd hK
theorem qo {j:Nat} {b b' c:Bool} (hc:c=b) (hK:QL P n ops w KQ rest (upd e d undef)) (h:yld ops e j=some c:=by exact rfl) (hb:(b == b')=false:=by exact rfl) (hd:d<n:=by decide):QL P n ops w KQ (⟨some d,op,ty,pos,af,some (j,b')⟩ :: rest) e:=An h hc hb hd hK
theorem ei {j:Nat} {b c:Bool} {dst:Option Nat} (hc:c=b) (hK:EL P n ops K (⟨dst,op,ty,pos,af,none⟩ :: rest) e w) (h:yld ops e j=some c:=by exact rfl):EL P n ops K (⟨dst,op,ty,pos,af,some (j,b)⟩ :: rest) e w:=A4 h hc hK
theorem qi {j:Nat} {b c:Bool} {dst:Option Nat} (hc:c=b) (hK:QL P n ops w KQ (⟨dst,op,ty,pos,af,none⟩ :: rest) e) (h:yld ops e j=some c:=by exact rfl):QL P n ops w KQ (⟨dst,op,ty,pos,af,some (j,b)⟩ :: rest) e:=A7 h hc hK
theorem ct {b:Bool} (hb:b=true) (h:CW P n c Q e w) (hc:ev e o=.bool b:=by exact rfl):CW P n (.cond o c y) Q e w:=xS hc hb h
theorem cf {b:Bool} (hb:b=false) (h:CW P n y Q e w) (hc:ev e o=.bool b:=by exact rfl):CW P n (.cond o c y) Q e w:=xU hc hb h
theorem rB {a b:Bool} {Γ:List Asn} (h:some a=some b) (hS:Sat w0 w Γ):Ending.returned (.bool a)=.returned (.bool b)∧Ext w0 w:=⟨by rw [Option.some.inj h],hS.below⟩
theorem rI {a b:Int} {Γ:List Asn} (h:some a=some b) (hS:Sat w0 w Γ):Ending.returned (.int .i64 a)=.returned (.int .i64 b)∧Ext w0 w:=⟨by rw [Option.some.inj h],hS.below⟩
abbrev i_ (x:Int):Value:=.int .i64 x
abbrev n_:Value:=.slice none 0 0
theorem ec0 {f:FuncId} {args:Array Operand} {tys:Array TypeId} {vals:Array Value} {Γ:List Asn} (hg:Goes P f) (hc:Calls P f vals w fun x w'=>x=.returned v∧Ext w w') (hv:(args.toList.map (ev e)).toArray=vals) (S:Sat w0 w Γ)
  (hK:∀ w',Ext w w'→Sat w0 w' Γ→EL P n ops K rest (upd e d v) w') (hd:d<n:=by decide):EL P n ops K (⟨some d,.call ⟨.value (.func f),args,tys⟩,ty,pos,af,none⟩ :: rest) e w :=
 aW hg hc hv hd (by rintro _ w' ⟨rfl,hx⟩;exact ⟨_,rfl,hK w' hx (S.ext hx)⟩)
theorem ec1 {f:FuncId} {args:Array Operand} {tys:Array TypeId} {vals:Array Value} {Γ:List Asn} {G:Value→Value} {A:Value→Asn} (hg:Goes P f) (hc:Calls P f vals w fun x w'=>∃ v,x=.returned (G v)∧Sat w w' [A v]) (hv:(args.toList.map (ev e)).toArray=vals) (S:Sat w0 w Γ)
  (hK:∀ w' v,Ext w w'→Sat w0 w' (A v :: Γ)→EL P n ops K rest (upd e d (G v)) w') (hd:d<n:=by decide):EL P n ops K (⟨some d,.call ⟨.value (.func f),args,tys⟩,ty,pos,af,none⟩ :: rest) e w :=
 aW hg hc hv hd (by rintro _ w' ⟨v,rfl,S'⟩;exact ⟨_,rfl,hK w' v S'.below (S.call1 S')⟩)
theorem aO {X:List Nat} {C:World→Prop} (i:Nat) {f:Nat} {L:Array Bool} (ho:ops[i]? = some q1)
  (h:EL P n ops (fun e' w'=>(X.contains i=true→C w')∧AL P n ops X C K f (L.setIfInBounds i true) e' w') [q1] e w) (hr:Region.ready .any ops L=[i]:=by kernel_rfl):AL P n ops X C K (f+1) L e w:=As i hr ho h
theorem aP {X:List Nat} {C:World→Prop} (v:Value) (i:Nat) {f:Nat} {L:Array Bool} (hi:ops[i]? = some q1) (hdst:q1.dst=some d) (hC:C w)
  (hy:SV P n ops C q1 e v) (hK:AL P n ops X C K f (L.setIfInBounds i true) (upd e d v) w) (hsel:mh ops=true:=by kernel_rfl) (hdn:d<n:=by decide) (hf:n4 ops X L i q1=true:=by kernel_rfl) (hr:(Region.ready .any ops L).contains i=true:=by kernel_rfl):AL P n ops X C K (f+1) L e w:=wi hsel i hi hdst hdn hC hf hr hy hK
theorem ca {α β:Type} {f:α→β} {l:List α} {m:List β} (h:l.map f=m):(l.map f).toArray=m.toArray:=congrArg List.toArray h
end
end Go.Proofs.YtoijldeajagjjaaGreat
namespace Go.Proofs.YtoijldeajagjjaaGreat
open Go.RowKit
abbrev R0_:=aA bR 3
abbrev R1_:=aA gu 9
abbrev R2_:=oH R0_ 28
abbrev R3_:=aA R0_ 28
abbrev R4_:=oZ gu R0_
abbrev R6_:=oZ bR R3_
abbrev R7_:=aA R4_ 113
abbrev R9_:=oZ gu R6_
abbrev bk:=aA R6_ 114
abbrev aV:=aA R9_ 147
abbrev T0_:=List Int
abbrev T1_:=List T0_
abbrev T3_:=ByteArray × List Int
abbrev T4_:=Int × List T0_
abbrev T6_:=List T4_
abbrev T7_:=ByteArray × T4_
abbrev T9_:=List T7_
abbrev cw:=Int × List T3_ × List Int
end Go.Proofs.YtoijldeajagjjaaGreat
namespace Go.Proofs.YtoijldeajagjjaaGreat
open Go.RowKit
set_option maxRecDepth 100000
set_option maxHeartbeats 4000000
theorem vb {w0:World} {u0:Value} {a0:List Int} (ha0:(aA u8R 5).rd w0 [u0] a0) {N:Nat} {r:Bool} (F:oV N a0=some r): Calls Tryz.prog 8 #[u0] w0 fun e w'=>e=.returned (.bool r)∧Ext w0 w' := by
 unfold oV at F;refine aJ Tryz.func8 rfl rfl (dt rfl) ?_;have S:=Sat.start w0;refine sR fun _ D=>?_;refine pa (.bool false) (en D ?_);refine sR fun _ J=>?_;refine pm u0 (pe (i_ (a0.length:Int)) (au rfl ha0) (pe (.bool (decide (1048576 < (a0.length:Int)))) (bo rfl rfl) (pa (.bool (decide (1048576 < (a0.length:Int)))) (en J (aj (aK rfl rfl ?_))))));exact rB F S
theorem ox {w0:World} {a0:Int} {u1:Value} {a1:List T0_} (ha1:R3_.rd w0 [u1] a1) {N:Nat} {r:Int × List T0_} (F:jt N a0 a1=some r): Calls Tryz.prog 107 #[.agg #[i_ a0,u1]] w0 fun e w'=>∃ (q0:Value),e=.returned (.agg #[i_ r.1,q0])∧Sat w0 w' [Own R3_ [q0] r.2] := by
 unfold jt at F;refine aJ Tryz.func107 rfl rfl (dt rfl) ?_;have S:=Sat.start w0;refine sR fun _ BI=>?_;refine bl [i_ a0,u1] rfl S (dt rfl) ?_;intro B6 U S BZ;refine aM S (dt rfl) ?_;intro B7 Y S B0;refine en BI ?_;refine sR fun _ BJ=>?_;refine pe (.pointer (some ⟨U,0 + 0,none⟩)) (ae rfl) (pe (i_ a0) (ac rfl ((S.boxAt 1 rfl) 0 _ rfl)) (pe (.agg #[i_ a0,n_]) (ba [(0,[i_ a0])] [i_ a0,n_] (c8 rfl rfl) rfl) ?_));refine aM S (dt rfl) ?_;intro B8 J S B1;refine ap (S.top 0 rfl) rfl [i_ a0,n_] rfl rfl (dt rfl) (all_cons rfl (all_cons rfl rfl)) ?_;intro BK S;replace S:Sat w0 BK [Box J 39 [i_ a0,n_],Box Y 39 [i_ 0,n_],Box U 39 [i_ a0,u1]]:=S;refine en BJ ?_;refine sg fun _ BL=>?_;refine sR fun _ BM=>?_;refine pa (i_ 0) (en BM ?_);refine bg fun _ BN=>?_;replace S:=S.nil R0_ 28;obtain ⟨BO,hL,Bz⟩:=ob F;refine aH (fun k e w=>∃ (D:Value),∃ (Z:List T0_),∃ (Bf:Int),e 1=.pointer (some ⟨U,0,none⟩)∧e 2=.pointer (some ⟨Y,0,none⟩)∧e 3=.pointer (some ⟨J,0,none⟩)∧e 4=i_ Bf∧Sat w0 w [Own R3_ [D] Z,Box J 39 [i_ a0,D],Box Y 39 [i_ 0,n_],Box U 39 [i_ a0,u1]]∧eH N k a0 a1 0 [] a0 Z Bf=some BO) N ?_ ?_ ?_
 ·exact ⟨n_,[],0,rfl,rfl,rfl,rfl,S,hL⟩
 ·rintro e w ⟨_,_,_,_,_,_,_,_,hz⟩; exact nomatch (show none=some _ from hz)
 rintro k B9 BP ⟨D,Z,Bf,Bj,Bk,Bg,Bl,S,F⟩;refine gn fun _ Bv=>?_;refine sg fun _ Bw=>?_;refine sR fun _ BQ=>?_;refine pM (i_ Bf) Bl (pe (.pointer (some ⟨U,0 + 1,none⟩)) (ae Bj) (pe u1 (ac rfl ((S.boxAt 3 rfl) 1 _ rfl)) (pe (i_ (a1.length:Int)) (au rfl ha1) (pe (.bool (decide (Bf < (a1.length:Int)))) (aL rfl rfl) (en BQ ?_)))));rcases oif F with ⟨Bm,F⟩|⟨Bm,F⟩
 ·refine ct Bm (sn Bw ?_);refine sg fun _ BR=>?_;refine bg fun _ BS=>?_;obtain ⟨C,hCd⟩:∃ C:World → Prop,∀ w,C w ↔ ∃ G,Sat w0 w ([Box J 39 [i_ a0,D],Box U 39 [i_ a0,u1]] ++ G):=⟨_,fun _=>Iff.rfl⟩;refine cu [0,1,2,3,4,5,6,7,8,9,10,11] C (by kernel_rfl) ?_;intro BT BA;replace S:=S.ext BA;replace S:Sat w0 BT [Box J 39 [i_ a0,D],Box U 39 [i_ a0,u1],Own R3_ [D] Z,Box Y 39 [i_ 0,n_]]:=S.tops 4 [1,3] rfl;have hC:=(hCd _).2 ⟨_,S⟩;refine aP (.pointer (some ⟨J,0 + 1,none⟩)) 0 rfl rfl hC (aE rfl (fun w' hw'=>by obtain ⟨_,S⟩:=(hCd _).1 hw'; exact (ae Bg))) ?_;refine aP D 1 rfl rfl hC (aE rfl (fun w' hw'=>by obtain ⟨_,S⟩:=(hCd _).1 hw'; exact (ac rfl ((S.boxAt 0 rfl) 1 _ rfl)))) ?_;refine aP (.pointer (some ⟨U,0 + 1,none⟩)) 3 rfl rfl hC (aE rfl (fun w' hw'=>by obtain ⟨_,S⟩:=(hCd _).1 hw'; exact (ae Bj))) ?_;refine aP u1 4 rfl rfl hC (aE rfl (fun w' hw'=>by obtain ⟨_,S⟩:=(hCd _).1 hw'; exact (ac rfl ((S.boxAt 1 rfl) 1 _ rfl)))) ?_;refine aP (i_ Bf) 5 rfl rfl hC (aE rfl (fun w' hw'=>by obtain ⟨_,S⟩:=(hCd _).1 hw'; exact (aZ Bl))) ?_;obtain ⟨BU,BB,F⟩:=ob F;refine jk (wA:=w0) (by kernel_rfl) 6 rfl hC (by kernel_rfl) (by kernel_rfl) rfl ha1 rfl (dt rfl) rfl BB (dt rfl) ?_;intro Ca B2 Cb Bs BC;obtain ⟨BV,rfl⟩:=ax Bs;refine aP BV 7 rfl rfl hC (aE rfl (fun w' hw'=>by obtain ⟨_,S⟩:=(hCd _).1 hw'; exact (ac rfl ((ak S.below BC) 0 _ rfl)))) ?_;refine aO 2 rfl ?_;refine aQ bR S (dt rfl) ?_;intro Bx By S B3;refine ah ?_;replace S:Sat w0 Bx [Box J 39 [i_ a0,D],Box U 39 [i_ a0,u1],Own R0_ [By] [],Own R3_ [D] Z,Box Y 39 [i_ 0,n_]]:=S.tops 5 [1,2] rfl;have hC:=(hCd _).2 ⟨_,S⟩;refine ⟨fun _=>hC,?_⟩;refine aO 8 rfl ?_;obtain ⟨Bn,BD,F⟩:=ob F;obtain ⟨B4,Cc,BE,BF,Bt⟩:=dk (S.up Bs);replace S:Sat w0 Bx [Own R0_ [By] [],Box J 39 [i_ a0,D],Box U 39 [i_ a0,u1],Own R3_ [D] Z,Box Y 39 [i_ 0,n_]]:=S.top 2 rfl;replace S:=S.ints (xs:=BU);refine aB rfl (dt rfl) rfl (dt rfl) S rfl (rfl.trans BE) rfl BF Bt BD (dt rfl) ?_;intro BW Bd S;refine ah ?_;replace S:Sat w0 BW [Box J 39 [i_ a0,D],Box U 39 [i_ a0,u1],Own R0_ [Bd] Bn,Own R3_ [D] Z,Box Y 39 [i_ 0,n_]]:=S.tops 5 [1,2] rfl;have hC:=(hCd _).2 ⟨_,S⟩;refine ⟨fun _=>hC,?_⟩;refine aO 9 rfl ?_;refine aq [Bd] (aS rfl (oc (S.rdAt (R:=R0_) 2 rfl))) (by rfl) (dt rfl) rfl (dt rfl) S (dt rfl) ?_;intro Bo Bh S B5;refine ah ?_;replace S:Sat w0 Bo [Box J 39 [i_ a0,D],Box U 39 [i_ a0,u1],Box Bh 28 [Bd],Own R0_ [Bd] Bn,Own R3_ [D] Z,Box Y 39 [i_ 0,n_]]:=S.tops 6 [1,2] rfl;have hC:=(hCd _).2 ⟨_,S⟩;refine ⟨fun _=>hC,?_⟩;refine aO 10 rfl ?_;obtain ⟨Bi,BG,F⟩:=ob F;have Bu:=S.boxRow 2 rfl;replace S:Sat w0 Bo [Own R3_ [D] Z,Box J 39 [i_ a0,D],Box U 39 [i_ a0,u1],Box Bh 28 [Bd],Own R0_ [Bd] Bn,Box Y 39 [i_ 0,n_]]:=S.top 4 rfl;replace S:Sat w0 Bo [Own R0_ [Bd] Bn,Own R3_ [D] Z,Box J 39 [i_ a0,D],Box U 39 [i_ a0,u1],Box Bh 28 [Bd],Box Y 39 [i_ 0,n_]]:=S.top 4 rfl;replace S:=S.one;refine aB rfl (dt rfl) rfl (dt rfl) S rfl rfl rfl (by simp) Bu BG (dt rfl) ?_;intro BX Be S;refine ah ?_;replace S:Sat w0 BX [Box J 39 [i_ a0,D],Box U 39 [i_ a0,u1],Own R3_ [Be] Bi,Box Bh 28 [Bd],Box Y 39 [i_ 0,n_]]:=S.tops 5 [1,2] rfl;have hC:=(hCd _).2 ⟨_,S⟩;refine ⟨fun _=>hC,?_⟩;refine aO 11 rfl ?_;refine pe (.pointer (some ⟨J,0 + 1,none⟩)) (ae Bg) (ah ?_);refine ⟨fun _=>hC,?_⟩;refine aO 12 rfl ?_;refine ap (S.top 0 rfl) rfl [Be] (aS rfl (oc (S.rdAt (R:=R3_) 2 rfl))) rfl (dt rfl) (all_cons (oc (S.rdAt (R:=R3_) 2 rfl)) rfl) ?_;intro Bp S;replace S:Sat w0 Bp [Box J 39 [i_ a0,Be],Box U 39 [i_ a0,u1],Own R3_ [Be] Bi,Box Bh 28 [Bd],Box Y 39 [i_ 0,n_]]:=S;refine ah ?_;refine ⟨fun h=>(nomatch (show false=true from h)),?_⟩;refine bI (by kernel_rfl) ?_;refine bn BS (tn BR ?_);replace S:Sat w0 Bp [Box J 39 [i_ a0,Be],Box U 39 [i_ a0,u1],Own R3_ [Be] Bi,Box Y 39 [i_ 0,n_]]:=S.rems 5 [3] rfl;refine ag (pM (i_ Bf) Bl ?_);obtain ⟨Bq,BH,F⟩:=ob F;refine pe (i_ Bq) (aD rfl rfl BH) (pa (i_ Bq) (en Bv ?_));replace S:Sat w0 Bp [Own R3_ [Be] Bi,Box J 39 [i_ a0,Be],Box Y 39 [i_ 0,n_],Box U 39 [i_ a0,u1]]:=S.tops 4 [2,0,3,1] rfl;replace S:=S.keep 4;exact ⟨Be,Bi,Bq,Bj,Bk,Bg,rfl,S,F⟩
 refine cf Bm (aF (tx Bw (tx Bv ?_)));replace F:=exB F Bz;refine bS BN (tn BL ?_);refine sg fun _ BY=>?_;replace S:Sat w0 BP [Own R3_ [D] Z,Box J 39 [i_ a0,D],Box Y 39 [i_ 0,n_]]:=S.rems 4 [3] rfl;refine ag (pe (.agg #[i_ a0,D]) (aw (cs:=[i_ a0,D]) Bg rfl (az (S.boxAt 1 rfl))) ?_);refine ap (S.top 2 rfl) Bk [i_ a0,D] rfl rfl (dt rfl) (all_cons rfl (all_cons (oc (S.rdAt (R:=R3_) 0 rfl)) rfl)) ?_;intro Br S;replace S:Sat w0 Br [Box Y 39 [i_ a0,D],Own R3_ [D] Z,Box J 39 [i_ a0,D]]:=S;refine en BY (aj ?_);refine ew (cs:=[i_ a0,D]) rfl Bk rfl (az (S.boxAt 0 rfl))  ?_;replace S:Sat w0 Br [Own R3_ [D] Z,Box Y 39 [i_ a0,D],Box J 39 [i_ a0,D]]:=S.tops 3 [1] rfl;have hr:=Option.some.inj F;exact ⟨D,congrArg (fun (r:Int × List T0_)=>Ending.returned (.agg #[i_ r.1,D])) hr,Eq.mp (congrArg (fun (r:Int × List T0_)=>Sat w0 Br [Own R3_ [D] r.2]) hr) (S.keep 1)⟩
theorem bw {w0:World} {u0:Value} {a0:List Int} {u1:Value} {a1:List Int} (ha0:R0_.rd w0 [u0] a0) (ha1:R0_.rd w0 [u1] a1) {N:Nat} {r:Int} (F:bv N a0 a1=some r): Calls Tryz.prog 64 #[u0,u1] w0 fun e w'=>e=.returned (i_ r)∧Ext w0 w' := by
 unfold bv at F;refine aJ Tryz.func64 rfl rfl (dt rfl) ?_;have S:=Sat.start w0;refine sR fun _ BR=>?_;refine pa (i_ 0) (en BR ?_);refine sg fun _ Bf=>?_;refine sR fun _ BS=>?_;refine pa (i_ 0) (en BS ?_);refine bg fun _ Bg=>?_;obtain ⟨BT,hL,Bd⟩:=ob F;refine aH (fun k e w=>∃ (D:Int),e 0=u0∧e 1=u1∧e 5=i_ D∧Sat w0 w []∧fT N k a0 a1 D=some BT) N ?_ ?_ ?_
 ·exact ⟨0,rfl,rfl,rfl,S,hL⟩
 ·rintro e w ⟨_,_,_,_,_,hz⟩; exact nomatch (show none=some _ from hz)
 rintro k Cc Cd ⟨D,U,Y,Z,S,F⟩;refine gn fun _ Be=>?_;refine sg fun _ Bo=>?_;refine sR fun _ Bs=>?_;refine pM (i_ D) Z (pM u0 U (pe (i_ (a0.length:Int)) (au rfl ha0) (pe (.bool (decide (D < (a0.length:Int)))) (aL rfl rfl) (pm (.bool (decide (D < (a0.length:Int)))) ?_))));rcases oif F with ⟨J,F⟩|⟨J,F⟩
 ·refine ei J (pM (i_ D) Z (ei J (pM u1 Y (ei J (pe (i_ (a1.length:Int)) (au rfl ha1) (ei J (pe (.bool (decide (D < (a1.length:Int)))) (aL rfl rfl) (pe (.bool (decide (D < (a1.length:Int)))) (av rfl J rfl) (en Bs ?_)))))))));rcases oif F with ⟨Bh,F⟩|⟨Bh,F⟩
  ·refine ct Bh (sn Bo ?_);refine sg fun _ Bp=>?_;refine bg fun _ Bq=>?_;refine sg fun _ Bt=>?_;refine sg fun _ BU=>?_;refine bJ (by kernel_rfl) (by kernel_rfl) ?_;refine qM u0 U (qM (i_ D) Z ?_);obtain ⟨Bu,BC,F⟩:=ob F;refine aY (wA:=w0) rfl ha0 rfl (dt rfl) rfl BC (dt rfl) ?_;intro Ce B8 Cf BD BE;obtain rfl:=BD;refine qe (i_ Bu) (ac rfl ((ak S.below BE) 0 _ rfl)) (qM u1 Y (qM (i_ D) Z ?_));obtain ⟨Bv,BF,F⟩:=ob F;refine aY (wA:=w0) rfl ha1 rfl (dt rfl) rfl BF (dt rfl) ?_;intro Cg B9 Ch BG BH;obtain rfl:=BG;refine qe (i_ Bv) (ac rfl ((ak S.below BH) 0 _ rfl)) (qe (.bool (decide (Bu < Bv))) (aL rfl rfl) (bh ?_));intro Ci BI;replace S:=S.ext BI;refine tn BU ?_;rcases oif F with ⟨Bi,F⟩|⟨Bi,F⟩
   ·refine ct Bi ?_;refine sR fun _ BV=>?_;refine pa (i_ (-1)) (en BV (aj (tr Bt (br Bq (tr Bp (tr Be (br Bg (tr Bf ?_))))))));replace F:=exL F Bd;refine aK rfl rfl ?_;exact rI F S
   refine cf Bi (sn Bt ?_);refine sg fun _ BW=>?_;refine bJ (by kernel_rfl) (by kernel_rfl) ?_;refine qM u0 U (qM (i_ D) Z ?_);obtain ⟨Bw,BJ,F⟩:=ob F;refine aY (wA:=w0) rfl ha0 rfl (dt rfl) rfl BJ (dt rfl) ?_;intro Cj Ca Ck BK BL;obtain rfl:=BK;refine qe (i_ Bw) (ac rfl ((ak S.below BL) 0 _ rfl)) (qM u1 Y (qM (i_ D) Z ?_));obtain ⟨Bx,BM,F⟩:=ob F;refine aY (wA:=w0) rfl ha1 rfl (dt rfl) rfl BM (dt rfl) ?_;intro Cl Cb Cm BN BO;obtain rfl:=BN;refine qe (i_ Bx) (ac rfl ((ak S.below BO) 0 _ rfl)) (qe (.bool (decide (Bx < Bw))) (bo rfl rfl) (bh ?_));intro Cn BP;replace S:=S.ext BP;refine tn BW ?_;rcases oif F with ⟨Bj,F⟩|⟨Bj,F⟩
   ·refine ct Bj ?_;refine sR fun _ BX=>?_;refine pa (i_ 1) (en BX (aj (br Bq (tr Bp (tr Be (br Bg (tr Bf ?_)))))));replace F:=exL F Bd;refine aK rfl rfl ?_;exact rI F S
   refine cf Bj (aT (bn Bq (tn Bp (ag (pM (i_ D) Z ?_)))));obtain ⟨Br,BQ,F⟩:=ob F;refine pe (i_ Br) (aD rfl rfl BQ) (pa (i_ Br) (en Be ?_));replace S:=S.keep 0;exact ⟨Br,U,Y,rfl,S,F⟩
  refine cf Bh (aF (tx Bo (tx Be ?_)));replace F:=exA F Bd;refine bS Bg (tn Bf ?_);refine sg fun _ By=>?_;refine sR fun _ BY=>?_;refine pM u0 U (pe (i_ (a0.length:Int)) (au rfl ha0) (pM u1 Y (pe (i_ (a1.length:Int)) (au rfl ha1) (pe (.bool (decide ((a0.length:Int) < (a1.length:Int)))) (aL rfl rfl) (en BY ?_)))));rcases oif F with ⟨Bk,F⟩|⟨Bk,F⟩
  ·refine ct Bk ?_;refine sR fun _ BZ=>?_;refine pa (i_ (-1)) (en BZ (aj (tr By (aK rfl rfl ?_))));exact rI F S
  refine cf Bk (sn By ?_);refine sg fun _ Bz=>?_;refine sR fun _ B0=>?_;refine pM u0 U (pe (i_ (a0.length:Int)) (au rfl ha0) (pM u1 Y (pe (i_ (a1.length:Int)) (au rfl ha1) (pe (.bool (decide ((a1.length:Int) < (a0.length:Int)))) (bo rfl rfl) (en B0 ?_)))));rcases oif F with ⟨Bl,F⟩|⟨Bl,F⟩
  ·refine ct Bl ?_;refine sR fun _ B1=>?_;refine pa (i_ 1) (en B1 (aj (tr Bz (aK rfl rfl ?_))));exact rI F S
  refine cf Bl (sn Bz ?_);refine sR fun _ B2=>?_;refine pa (i_ 0) (en B2 (aj (aK rfl rfl ?_)));exact rI F S
 refine eo J (eo J (eo J (eo J (pe (.bool false) (aC rfl J rfl) (en Bs (cf rfl (aF (tx Bo (tx Be ?_)))))))));replace F:=exA F Bd;refine bS Bg (tn Bf ?_);refine sg fun _ BA=>?_;refine sR fun _ B3=>?_;refine pM u0 U (pe (i_ (a0.length:Int)) (au rfl ha0) (pM u1 Y (pe (i_ (a1.length:Int)) (au rfl ha1) (pe (.bool (decide ((a0.length:Int) < (a1.length:Int)))) (aL rfl rfl) (en B3 ?_)))));rcases oif F with ⟨Bm,F⟩|⟨Bm,F⟩
 ·refine ct Bm ?_;refine sR fun _ B4=>?_;refine pa (i_ (-1)) (en B4 (aj (tr BA (aK rfl rfl ?_))));exact rI F S
 refine cf Bm (sn BA ?_);refine sg fun _ BB=>?_;refine sR fun _ B5=>?_;refine pM u0 U (pe (i_ (a0.length:Int)) (au rfl ha0) (pM u1 Y (pe (i_ (a1.length:Int)) (au rfl ha1) (pe (.bool (decide ((a1.length:Int) < (a0.length:Int)))) (bo rfl rfl) (en B5 ?_)))));rcases oif F with ⟨Bn,F⟩|⟨Bn,F⟩
 ·refine ct Bn ?_;refine sR fun _ B6=>?_;refine pa (i_ 1) (en B6 (aj (tr BB (aK rfl rfl ?_))));exact rI F S
 refine cf Bn (sn BB ?_);refine sR fun _ B7=>?_;refine pa (i_ 0) (en B7 (aj (aK rfl rfl ?_)));exact rI F S
theorem ek {w0:World} {a0:Int} {a1:Int} {a2:Int}  {N:Nat} {r:Bool} (F:eu N a0 a1 a2=some r): Calls Tryz.prog 86 #[i_ a0,i_ a1,i_ a2] w0 fun e w'=>e=.returned (.bool r)∧Ext w0 w' := by
 unfold eu at F;refine aJ Tryz.func86 rfl rfl (dt rfl) ?_;have S:=Sat.start w0;refine sR fun _ U=>?_;refine pa (.bool false) (en U ?_);refine sR fun _ J=>?_;refine pm (i_ a0) (pm (i_ a1) (pe (.bool (decide (a1 ≤ a0))) (dR rfl rfl) (pm (.bool (decide (a1 ≤ a0))) ?_)));rcases oif F with ⟨D,F⟩|⟨D,F⟩
 ·refine ei D (pm (i_ a0) (ei D (pm (i_ a2) (ei D (pe (.bool (decide (a0 ≤ a2))) (iG rfl rfl) (pe (.bool (decide (a0 ≤ a2))) (av rfl D rfl) (pa (.bool (decide (a0 ≤ a2))) (en J (aj (aK rfl rfl ?_))))))))));exact rB F S
 refine eo D (eo D (eo D (pe (.bool false) (aC rfl D rfl) (pa (.bool false) (en J (aj (aK rfl rfl ?_)))))));exact rB F S
theorem kj {w0:World} {u0:Value} {a0:List Int} (ha0:R0_.rd w0 [u0] a0) {N:Nat} {r:Bool} (F:eW N a0=some r): Calls Tryz.prog 85 #[u0] w0 fun e w'=>e=.returned (.bool r)∧Ext w0 w' := by
 unfold eW at F;refine aJ Tryz.func85 rfl rfl (dt rfl) ?_;have S:=Sat.start w0;refine sR fun _ Bq=>?_;refine pa (.bool false) (en Bq ?_);refine sg fun _ Bg=>?_;refine sR fun _ Br=>?_;refine pa (i_ 0) (en Br ?_);refine bg fun _ Bh=>?_;obtain ⟨Bs,hL,Bf⟩:=ob F;refine aH (fun k e w=>∃ (D:Int),e 0=u0∧e 3=i_ D∧Sat w0 w []∧dg N k a0 D=some Bs) N ?_ ?_ ?_
 ·exact ⟨0,rfl,rfl,S,hL⟩
 ·rintro e w ⟨_,_,_,_,hz⟩; exact nomatch (show none=some _ from hz)
 rintro k BB BC ⟨D,J,U,S,F⟩;refine gn fun _ Bd=>?_;refine sg fun _ Bi=>?_;refine sR fun _ Bt=>?_;refine pM (i_ D) U (pM u0 J (pe (i_ (a0.length:Int)) (au rfl ha0) (pe (.bool (decide (D < (a0.length:Int)))) (aL rfl rfl) (en Bt ?_))));rcases oif F with ⟨Y,F⟩|⟨Y,F⟩
 ·refine ct Y (sn Bi ?_);refine sg fun _ Bj=>?_;refine bg fun _ Bk=>?_;refine sR fun _ Bu=>?_;refine pM u0 J (pM (i_ D) U ?_);obtain ⟨Bv,Bl,F⟩:=ob F;refine aI (wA:=w0) rfl ha0 rfl (dt rfl) rfl Bl (dt rfl) ?_;intro BD Bz BE Bm Bn;obtain rfl:=Bm;refine pe (i_ Bv) (ac rfl ((ak S.below Bn) 0 _ rfl)) ?_;obtain ⟨Bw,Bo,F⟩:=ob F;refine ec0 jK (ek Bo) (ca (ai rfl (ai rfl (ai rfl rfl)))) S fun BF BA S=>?_;refine pe (.bool (!Bw)) (a7 rfl) (en Bu ?_);rcases oif F with ⟨Z,F⟩|⟨Z,F⟩
  ·refine cf (am Z) (aT (bn Bk (tn Bj (ag (pM (i_ D) U ?_)))));obtain ⟨Be,Bp,F⟩:=ob F;refine pe (i_ Be) (aD rfl rfl Bp) (pa (i_ Be) (en Bd ?_));replace S:=S.keep 0;exact ⟨Be,J,rfl,S,F⟩
  refine ct (an Z) ?_;refine sR fun _ Bx=>?_;refine pa (.bool false) (en Bx (aj (br Bk (tr Bj (tr Bd (br Bh (tr Bg ?_)))))));replace F:=exL F Bf;refine aK rfl rfl ?_;exact rB F S
 refine cf Y (aF (tx Bi (tx Bd ?_)));replace F:=exA F Bf;refine bS Bh (tn Bg ?_);refine sR fun _ By=>?_;refine pa (.bool true) (en By (aj (aK rfl rfl ?_)));exact rB F S
theorem eQ {w0:World} {a0:Int} {u1:Value} {a1:List T0_} (ha1:R3_.rd w0 [u1] a1) {N:Nat} {r:Bool} (F:cK N a0 a1=some r): Calls Tryz.prog 67 #[.agg #[i_ a0,u1]] w0 fun e w'=>e=.returned (.bool r)∧Ext w0 w' := by
 unfold cK at F;refine aJ Tryz.func67 rfl rfl (dt rfl) ?_;have S:=Sat.start w0;refine sR fun _ BW=>?_;refine bl [i_ a0,u1] rfl S (dt rfl) ?_;intro Cl Bf S Cf;refine pa (.bool false) (en BW ?_);refine sg fun _ Bs=>?_;refine sR fun _ BA=>?_;refine pe (.pointer (some ⟨Bf,0 + 0,none⟩)) (ae rfl) (pe (i_ a0) (ac rfl ((S.boxAt 0 rfl) 0 _ rfl)) ?_);obtain ⟨BB,BE,F⟩:=ob F;refine ec0 jK (ek BE) (ca (ai rfl (ai rfl (ai rfl rfl)))) S fun BC Cg S=>?_;refine pe (.bool (!BB)) (a7 rfl) (pm (.bool (!BB)) ?_);rcases oif F with ⟨Y,F⟩|⟨Y,F⟩
 ·refine ei (am Y) (pe (.pointer (some ⟨Bf,0 + 1,none⟩)) (ae rfl) (ei (am Y) (pe u1 (ac rfl ((S.boxAt 0 rfl) 1 _ rfl)) (ei (am Y) (pe (i_ (a1.length:Int)) (au rfl ha1) (ei (am Y) (pe (.bool (decide (4000 < (a1.length:Int)))) (bo rfl rfl) (pe (.bool (decide (4000 < (a1.length:Int)))) (aC rfl (am Y) rfl) (en BA ?_)))))))));rcases oif F with ⟨Bk,F⟩|⟨Bk,F⟩
  ·refine ct Bk ?_;refine sg fun _ BX=>?_;replace S:Sat w0 BC []:=S.rems 1 [0] rfl;refine ag (pa (.bool false) (en BX (aj (tr Bs (aK rfl rfl ?_)))));exact rB F S
  refine cf Bk (sn Bs ?_);refine sg fun _ Bl=>?_;refine sR fun _ BY=>?_;refine pa (i_ 0) (en BY ?_);refine bg fun _ Bm=>?_;obtain ⟨BZ,hL,Bh⟩:=ob F;refine aH (fun k e w=>∃ (Z:Int),e 1=.pointer (some ⟨Bf,0,none⟩)∧e 3=i_ Z∧Sat w0 w [Box Bf 39 [i_ a0,u1]]∧cA N k a0 a1 Z=some BZ) N ?_ ?_ ?_
  ·exact ⟨0,rfl,rfl,S,hL⟩
  ·rintro e w ⟨_,_,_,_,hz⟩; exact nomatch (show none=some _ from hz)
  rintro k Cm B0 ⟨Z,Bd,Be,S,F⟩;refine gn fun _ Bg=>?_;refine sg fun _ BD=>?_;refine sR fun _ B1=>?_;refine pM (i_ Z) Be (pe (.pointer (some ⟨Bf,0 + 1,none⟩)) (ae Bd) (pe u1 (ac rfl ((S.boxAt 0 rfl) 1 _ rfl)) (pe (i_ (a1.length:Int)) (au rfl ha1) (pe (.bool (decide (Z < (a1.length:Int)))) (aL rfl rfl) (en B1 ?_)))));rcases oif F with ⟨Bn,F⟩|⟨Bn,F⟩
  ·refine ct Bn (sn BD ?_);refine sg fun _ Bi=>?_;refine bg fun _ Bj=>?_;refine sg fun _ Bo=>?_;refine bJ (by kernel_rfl) (by kernel_rfl) ?_;refine qe (.pointer (some ⟨Bf,0 + 1,none⟩)) (ae Bd) (qe u1 (ac rfl ((S.boxAt 0 rfl) 1 _ rfl)) (qM (i_ Z) Be ?_));obtain ⟨Bt,BF,F⟩:=ob F;refine aY (wA:=w0) rfl ha1 rfl (dt rfl) rfl BF (dt rfl) ?_;intro Cn Ch Co Bw BG;obtain ⟨B2,rfl⟩:=ax Bw;refine qe B2 (ac rfl ((ak S.below BG) 0 _ rfl)) (qe (i_ (Bt.length:Int)) (au rfl Bw) (qe (.pointer (some ⟨Bf,0 + 0,none⟩)) (ae Bd) (qe (i_ a0) (ac rfl ((S.boxAt 0 rfl) 0 _ rfl)) (qe (.bool ((Bt.length:Int) != a0)) (da rfl rfl) (qm (.bool ((Bt.length:Int) != a0)) ?_)))));rcases oif F with ⟨J,F⟩|⟨J,F⟩
   ·refine qo J (qo J (qo J (qo J (qo J (qo J (qo J (qe (.bool true) (av rfl J rfl) (qm (.bool true) (qo rfl (qo rfl (qo rfl ?_)))))))))));refine bB rfl (dt rfl) ?_;refine bB rfl (dt rfl) ?_;refine bB rfl (dt rfl) ?_;refine bB rfl (dt rfl) ?_;refine bB rfl (dt rfl) ?_;refine bB rfl (dt rfl) ?_;refine bB rfl (dt rfl) ?_;refine bB rfl (dt rfl) ?_;refine bB rfl (dt rfl) ?_;refine bB rfl (dt rfl) ?_;refine bB rfl (dt rfl) ?_;refine bB rfl (dt rfl) ?_;refine bB rfl (dt rfl) ?_;refine qo rfl (qe (.bool true) (av rfl rfl rfl) (bh ?_));intro B3 BH;replace S:=S.ext BH;refine tn Bo (ct rfl ?_);refine sg fun _ B4=>?_;replace S:Sat w0 B3 []:=S.rems 1 [0] rfl;refine ag (pa (.bool false) (en B4 (aj (br Bj (tr Bi (tr Bg (br Bm (tr Bl ?_))))))));replace F:=exL F Bh;refine aK rfl rfl ?_;exact rB F S
   refine qi J (qe (.pointer (some ⟨Bf,0 + 1,none⟩)) (ae Bd) (qi J (qe u1 (ac rfl ((S.boxAt 0 rfl) 1 _ rfl)) (qi J (qM (i_ Z) Be (qi J ?_))))));obtain ⟨Cp,BI,F⟩:=ob F;refine aY (wA:=w0) rfl ha1 rfl (dt rfl) rfl BI (dt rfl) ?_;intro Cq Ci Cr Bx BJ;obtain ⟨B5,rfl⟩:=ax Bx;refine qi J (qe B5 (ac rfl ((ak S.below BJ) 0 _ rfl)) (qi J ?_));obtain ⟨Bp,BK,F⟩:=ob F;refine cR (.bool Bp) w8 (fun w' hw'=>kj (bE (S.up Bx) hw') BK) (ca (ai rfl rfl)) (dt rfl) ?_;refine qi J (qe (.bool (!Bp)) (a7 rfl) (qe (.bool (!Bp)) (aC rfl J rfl) (qm (.bool (!Bp)) ?_)));rcases oif F with ⟨U,F⟩|⟨U,F⟩
   ·refine qi (am U) (qM (i_ Z) Be (qi (am U) (qe (.bool (decide (0 < Z))) (bo rfl rfl) (qi (am U) (qm (.bool (decide (0 < Z))) ?_)))));rcases oif F with ⟨D,F⟩|⟨D,F⟩
    ·refine qi D (qe (.pointer (some ⟨Bf,0 + 1,none⟩)) (ae Bd) (qi D (qe u1 (ac rfl ((S.boxAt 0 rfl) 1 _ rfl)) (qi D (qM (i_ Z) Be (qi D ?_))))));obtain ⟨B6,BL,F⟩:=ob F;refine qe (i_ B6) (cQ rfl rfl BL) (qi D ?_);obtain ⟨Cs,BM,F⟩:=ob F;refine aY (wA:=w0) rfl ha1 rfl (dt rfl) rfl BM (dt rfl) ?_;intro Ct Cj Cu By BN;obtain ⟨B7,rfl⟩:=ax By;refine qi D (qe B7 (ac rfl ((ak S.below BN) 0 _ rfl)) (qi D (qe (.pointer (some ⟨Bf,0 + 1,none⟩)) (ae Bd) (qi D (qe u1 (ac rfl ((S.boxAt 0 rfl) 1 _ rfl)) (qi D (qM (i_ Z) Be (qi D ?_))))))));obtain ⟨Cv,BO,F⟩:=ob F;refine aY (wA:=w0) rfl ha1 rfl (dt rfl) rfl BO (dt rfl) ?_;intro Cw Ck Cx Bz BP;obtain ⟨B8,rfl⟩:=ax Bz;refine qi D (qe B8 (ac rfl ((ak S.below BP) 0 _ rfl)) (qi D ?_));obtain ⟨Bq,BQ,F⟩:=ob F;refine cR (i_ Bq) gz (fun w' hw'=>bw (bE (S.up By) hw') (bE (S.up Bz) hw') BQ) (ca (ai rfl (ai rfl rfl))) (dt rfl) ?_;refine qi D (qe (.bool (decide (0 ≤ Bq))) (dR rfl rfl) (qi (am U) (qe (.bool (decide (0 ≤ Bq))) (av rfl D rfl) (qe (.bool (decide (0 ≤ Bq))) (aC rfl (am U) rfl) (bh ?_)))));intro B9 BR;replace S:=S.ext BR;refine tn Bo ?_;rcases oif F with ⟨Br,F⟩|⟨Br,F⟩
     ·refine ct Br ?_;refine sg fun _ Ca=>?_;replace S:Sat w0 B9 []:=S.rems 1 [0] rfl;refine ag (pa (.bool false) (en Ca (aj (br Bj (tr Bi (tr Bg (br Bm (tr Bl ?_))))))));replace F:=exL F Bh;refine aK rfl rfl ?_;exact rB F S
     refine cf Br (aT (bn Bj (tn Bi (ag (pM (i_ Z) Be ?_)))));obtain ⟨Bu,BS,F⟩:=ob F;refine pe (i_ Bu) (aD rfl rfl BS) (pa (i_ Bu) (en Bg ?_));replace S:=S.keep 1;exact ⟨Bu,Bd,rfl,S,F⟩
    refine qo D (qo D (qo D (qo D (qo D (qo D (qo D (qo D (qo D (qo D (qo D (qo D (qo D (qi (am U) (qe (.bool false) (aC rfl D rfl) (qe (.bool false) (aC rfl (am U) rfl) (bh ?_))))))))))))))));intro Cy BT;replace S:=S.ext BT;refine tn Bo (cf rfl (aT (bn Bj (tn Bi (ag (pM (i_ Z) Be ?_))))));obtain ⟨Bv,BU,F⟩:=ob F;refine pe (i_ Bv) (aD rfl rfl BU) (pa (i_ Bv) (en Bg ?_));replace S:=S.keep 1;exact ⟨Bv,Bd,rfl,S,F⟩
   refine qo (an U) (qo (an U) (qo (an U) ?_));refine bB rfl (dt rfl) ?_;refine bB rfl (dt rfl) ?_;refine bB rfl (dt rfl) ?_;refine bB rfl (dt rfl) ?_;refine bB rfl (dt rfl) ?_;refine bB rfl (dt rfl) ?_;refine bB rfl (dt rfl) ?_;refine bB rfl (dt rfl) ?_;refine bB rfl (dt rfl) ?_;refine bB rfl (dt rfl) ?_;refine bB rfl (dt rfl) ?_;refine bB rfl (dt rfl) ?_;refine bB rfl (dt rfl) ?_;refine qo (an U) (qe (.bool true) (av rfl (an U) rfl) (bh ?_));intro Cb BV;replace S:=S.ext BV;refine tn Bo (ct rfl ?_);refine sg fun _ Cc=>?_;replace S:Sat w0 Cb []:=S.rems 1 [0] rfl;refine ag (pa (.bool false) (en Cc (aj (br Bj (tr Bi (tr Bg (br Bm (tr Bl ?_))))))));replace F:=exL F Bh;refine aK rfl rfl ?_;exact rB F S
  refine cf Bn (aF (tx BD (tx Bg ?_)));replace F:=exA F Bh;refine bS Bm (tn Bl ?_);refine sg fun _ Cd=>?_;replace S:Sat w0 B0 []:=S.rems 1 [0] rfl;refine ag (pa (.bool true) (en Cd (aj (aK rfl rfl ?_))));exact rB F S
 refine eo (an Y) (eo (an Y) (eo (an Y) (eo (an Y) (pe (.bool true) (av rfl (an Y) rfl) (en BA (ct rfl ?_))))));refine sg fun _ Ce=>?_;replace S:Sat w0 BC []:=S.rems 1 [0] rfl;refine ag (pa (.bool false) (en Ce (aj (tr Bs (aK rfl rfl ?_)))));exact rB F S
theorem lN {w0:World} {a0:ByteArray} (_:a0.size ≤ 9223372036854775807) {N:Nat} {r:Bool} (F:gb N a0=some r): Calls Tryz.prog 144 #[.string a0] w0 fun e w'=>e=.returned (.bool r)∧Ext w0 w' := by
 unfold gb at F;refine aJ Tryz.func144 rfl rfl (dt rfl) ?_;have S:=Sat.start w0;refine sR fun _ Bt=>?_;refine pa (.bool false) (en Bt ?_);refine sg fun _ Bg=>?_;refine sR fun _ Bu=>?_;refine pa (i_ 0) (en Bu ?_);refine bg fun _ Bh=>?_;obtain ⟨Bv,hL,Z⟩:=ob F;refine aH (fun k e w=>∃ (J:Int),e 0=.string a0∧e 3=i_ J∧Sat w0 w []∧e9 N k a0 J=some Bv) N ?_ ?_ ?_
 ·exact ⟨0,rfl,rfl,S,hL⟩
 ·rintro e w ⟨_,_,_,_,hz⟩; exact nomatch (show none=some _ from hz)
 rintro k BC BD ⟨J,U,Y,S,F⟩;refine gn fun _ Bd=>?_;refine sg fun _ Bn=>?_;refine sR fun _ Bw=>?_;refine pM (i_ J) Y (pM (.string a0) U (pe (i_ (a0.size:Int)) (kU Tryz.underlying9 rfl) (pe (.bool (decide (J < (a0.size:Int)))) (aL rfl rfl) (en Bw ?_))));rcases oif F with ⟨Be,F⟩|⟨Be,F⟩
 ·refine ct Be (sn Bn ?_);refine sg fun _ Bi=>?_;refine bg fun _ Bj=>?_;refine sR fun _ Bo=>?_;refine pM (.string a0) U (pM (i_ J) Y ?_);obtain ⟨Bk,Bp,F⟩:=ob F;refine pe (.int .u8 Bk) (rT Tryz.underlying9 rfl rfl Bp) (pe (.bool (decide (Bk < 97))) (aL rfl rfl) (pm (.bool (decide (Bk < 97))) ?_));rcases oif F with ⟨D,F⟩|⟨D,F⟩
  ·refine eo D (eo D (eo D (eo D (pe (.bool true) (av rfl D rfl) (en Bo (ct rfl ?_))))));refine sR fun _ Bx=>?_;refine pa (.bool false) (en Bx (aj (br Bj (tr Bi (tr Bd (br Bh (tr Bg ?_)))))));replace F:=exL F Z;refine aK rfl rfl ?_;exact rB F S
  refine ei D (pM (.string a0) U (ei D (pM (i_ J) Y (ei D ?_))));obtain ⟨Bl,Bq,F⟩:=ob F;refine pe (.int .u8 Bl) (rT Tryz.underlying9 rfl rfl Bq) (ei D (pe (.bool (decide (122 < Bl))) (bo rfl rfl) (pe (.bool (decide (122 < Bl))) (aC rfl D rfl) (en Bo ?_))));rcases oif F with ⟨Bf,F⟩|⟨Bf,F⟩
  ·refine ct Bf ?_;refine sR fun _ By=>?_;refine pa (.bool false) (en By (aj (br Bj (tr Bi (tr Bd (br Bh (tr Bg ?_)))))));replace F:=exL F Z;refine aK rfl rfl ?_;exact rB F S
  refine cf Bf (aT (bn Bj (tn Bi (ag (pM (i_ J) Y ?_)))));obtain ⟨Bm,Br,F⟩:=ob F;refine pe (i_ Bm) (aD rfl rfl Br) (pa (i_ Bm) (en Bd ?_));replace S:=S.keep 0;exact ⟨Bm,U,rfl,S,F⟩
 refine cf Be (aF (tx Bn (tx Bd ?_)));replace F:=exA F Z;refine bS Bh (tn Bg ?_);refine sR fun _ Bz=>?_;refine pM (.string a0) U (pe (i_ (a0.size:Int)) (kU Tryz.underlying9 rfl) ?_);obtain ⟨BA,Bs,F⟩:=ob F;refine ec0 jK (ek Bs) (ca (ai rfl (ai rfl (ai rfl rfl)))) S fun BE BB S=>?_;refine pa (.bool BA) (en Bz (aj (aK rfl rfl ?_)));exact rB F S
theorem kd {w0:World} {u0:Value} {a0:List T7_} (ha0:aV.rd w0 [u0] a0) {N:Nat} {r:Bool} (F:eJ N a0=some r): Calls Tryz.prog 113 #[.agg #[u0]] w0 fun e w'=>e=.returned (.bool r)∧Ext w0 w' := by
 unfold eJ at F;refine aJ Tryz.func113 rfl rfl (dt rfl) ?_;have S:=Sat.start w0;refine sR fun _ B9=>?_;refine bl [u0] rfl S (dt rfl) ?_;intro CA Bn S Cw;refine pa (.bool false) (en B9 ?_);refine sg fun _ Bo=>?_;refine sR fun _ Ca=>?_;refine pa (i_ 0) (en Ca ?_);refine bg fun _ Bp=>?_;obtain ⟨Cb,hL,Bi⟩:=ob F;refine aH (fun k e w=>∃ (Bh:Int),e 1=.pointer (some ⟨Bn,0,none⟩)∧e 3=i_ Bh∧Sat w0 w [Box Bn 26 [u0]]∧ck N k a0 Bh=some Cb) N ?_ ?_ ?_
 ·exact ⟨0,rfl,rfl,S,hL⟩
 ·rintro e w ⟨_,_,_,_,hz⟩; exact nomatch (show none=some _ from hz)
 rintro k CB CC ⟨Bh,Br,Bs,S,F⟩;refine gn fun _ Bj=>?_;refine sg fun _ BD=>?_;refine sR fun _ Cc=>?_;refine pM (i_ Bh) Bs (pe (.pointer (some ⟨Bn,0 + 0,none⟩)) (ae Br) (pe u0 (ac rfl ((S.boxAt 0 rfl) 0 _ rfl)) (pe (i_ (a0.length:Int)) (au rfl ha0) (pe (.bool (decide (Bh < (a0.length:Int)))) (aL rfl rfl) (en Cc ?_)))));rcases oif F with ⟨Bv,F⟩|⟨Bv,F⟩
 ·refine ct Bv (sn BD ?_);refine sg fun _ Bk=>?_;refine bg fun _ Bl=>?_;refine sR fun _ Cd=>?_;refine pe (.pointer (some ⟨Bn,0 + 0,none⟩)) (ae Br) (pe u0 (ac rfl ((S.boxAt 0 rfl) 0 _ rfl)) (pM (i_ Bh) Bs ?_));obtain ⟨D,BG,F⟩:=ob F;refine aI (wA:=w0) rfl ha0 rfl (dt rfl) rfl BG (dt rfl) ?_;intro CD Cx CE BH BI;obtain ⟨_,_,rfl,BJ,BK⟩:=BH;obtain ⟨rfl,BL⟩:=BJ;obtain ⟨_,_,rfl,BM,Bt⟩:=BK;obtain rfl:=BM;obtain ⟨Bm,rfl⟩:=ax Bt;refine pe (.agg #[.string D.1,i_ D.2.1,Bm]) (aw (cs:=[.string D.1,i_ D.2.1,Bm]) rfl rfl (ak S.below BI)) ?_;refine aM S (dt rfl) ?_;intro CF Bg S Cy;refine ap (S.top 0 rfl) rfl [.string D.1,i_ D.2.1,Bm] rfl rfl (dt rfl) (all_cons rfl (all_cons rfl (all_cons (oc Bt) rfl))) ?_;intro Ce S;replace S:Sat w0 Ce [Box Bg 147 [.string D.1,i_ D.2.1,Bm],Box Bn 26 [u0]]:=S;refine en Cd ?_;refine sg fun _ Bq=>?_;refine bJ (by kernel_rfl) (by kernel_rfl) ?_;refine qe (.pointer (some ⟨Bg,0 + 0,none⟩)) (ae rfl) (qe (.string D.1) (ac rfl ((S.boxAt 0 rfl) 0 _ rfl)) ?_);obtain ⟨BA,BN,F⟩:=ob F;refine cR (.bool BA) vW (fun w' hw'=>lN BL BN) (ca (ai rfl rfl)) (dt rfl) ?_;refine qe (.bool (!BA)) (a7 rfl) (qm (.bool (!BA)) ?_);rcases oif F with ⟨U,F⟩|⟨U,F⟩
  ·refine qi (am U) (qM (i_ Bh) Bs (qi (am U) (qe (.bool (decide (0 < Bh))) (bo rfl rfl) (qi (am U) (qm (.bool (decide (0 < Bh))) ?_)))));rcases oif F with ⟨J,F⟩|⟨J,F⟩
   ·refine qi J (qe (.pointer (some ⟨Bn,0 + 0,none⟩)) (ae Br) (qi J (qe u0 (ac rfl ((S.boxAt 1 rfl) 0 _ rfl)) (qi J (qM (i_ Bh) Bs (qi J ?_))))));obtain ⟨Cf,BO,F⟩:=ob F;refine qe (i_ Cf) (cQ rfl rfl BO) (qi J ?_);obtain ⟨Bu,BP,F⟩:=ob F;refine aY (wA:=w0) rfl ha0 rfl (dt rfl) rfl BP (dt rfl) ?_;intro Cg BQ CG BR BS;obtain ⟨_,_,rfl,BT,BU⟩:=BR;obtain ⟨rfl,Cz⟩:=BT;obtain ⟨_,_,rfl,BV,BW⟩:=BU;obtain rfl:=BV;obtain ⟨CH,rfl⟩:=ax BW;refine qi J (qe (.pointer (some ⟨Cg,BQ + 0,none⟩)) (ae rfl) (qi J (qe (.string Bu.1) (ac rfl ((ak S.below BS) 0 _ rfl)) (qi J (qe (.pointer (some ⟨Bg,0 + 0,none⟩)) (ae rfl) (qi J (qe (.string D.1) (ac rfl ((S.boxAt 0 rfl) 0 _ rfl)) (qi J (qe (.bool (!(ltS Bu.1 D.1))) (wa rfl rfl) (qi (am U) (qe (.bool (!(ltS Bu.1 D.1))) (av rfl J rfl) (qe (.bool (!(ltS Bu.1 D.1))) (aC rfl (am U) rfl) (qm (.bool (!(ltS Bu.1 D.1))) ?_)))))))))))));rcases oif F with ⟨Bd,F⟩|⟨Bd,F⟩
    ·refine qi (am Bd) (qe (.pointer (some ⟨Bg,0 + 1,none⟩)) (ae rfl) (qi (am Bd) (qe (.agg #[i_ D.2.1,Bm]) (aw (cs:=[i_ D.2.1,Bm]) rfl rfl (t3 (S.boxAt 0 rfl) 1 2)) (qi (am Bd) ?_))));obtain ⟨Bw,BX,F⟩:=ob F;refine cR (.bool Bw) pX (fun w' hw'=>eQ (bE (S.up Bt) hw') BX) (ca (ai rfl rfl)) (dt rfl) ?_;refine qi (am Bd) (qe (.bool (!Bw)) (a7 rfl) (qe (.bool (!Bw)) (aC rfl (am Bd) rfl) (qm (.bool (!Bw)) ?_)));rcases oif F with ⟨Y,F⟩|⟨Y,F⟩
     ·refine qi (am Y) (qe (.pointer (some ⟨Bg,0 + 1,none⟩)) (ae rfl) (qi (am Y) (qe (.pointer (some ⟨Bg,0 + 1 + 1,none⟩)) (ae rfl) (qi (am Y) (qe Bm (ac rfl ((S.boxAt 0 rfl) 2 _ rfl)) (qi (am Y) (qe (i_ (D.2.2.length:Int)) (au rfl Bt) (qi (am Y) (qe (.bool (decide (16 < (D.2.2.length:Int)))) (bo rfl rfl) (qe (.bool (decide (16 < (D.2.2.length:Int)))) (aC rfl (am Y) rfl) (qm (.bool (decide (16 < (D.2.2.length:Int)))) ?_)))))))))));rcases oif F with ⟨Be,F⟩|⟨Be,F⟩
      ·refine qo Be (qo Be (qo Be (qo Be (qe (.bool true) (av rfl Be rfl) (bh ?_)))));intro Ch BY;replace S:=S.ext BY;refine tn Bq (ct rfl ?_);refine sg fun _ Ci=>?_;replace S:Sat w0 Ch []:=S.rems 2 [0,1] rfl;refine ag (pa (.bool false) (en Ci (aj (br Bl (tr Bk (tr Bj (br Bp (tr Bo ?_))))))));replace F:=exL F Bi;refine aK rfl rfl ?_;exact rB F S
      refine qi Be (qe (.pointer (some ⟨Bg,0 + 1,none⟩)) (ae rfl) (qi Be (qe (.pointer (some ⟨Bg,0 + 1 + 0,none⟩)) (ae rfl) (qi Be (qe (i_ D.2.1) (ac rfl ((S.boxAt 0 rfl) 1 _ rfl)) (qi Be (qe (.bool (decide (D.2.1 < 1))) (aL rfl rfl) (qe (.bool (decide (D.2.1 < 1))) (aC rfl Be rfl) (bh ?_)))))))));intro BE BZ;replace S:=S.ext BZ;refine tn Bq ?_;rcases oif F with ⟨Bx,F⟩|⟨Bx,F⟩
      ·refine ct Bx ?_;refine sg fun _ Cj=>?_;replace S:Sat w0 BE []:=S.rems 2 [0,1] rfl;refine ag (pa (.bool false) (en Cj (aj (br Bl (tr Bk (tr Bj (br Bp (tr Bo ?_))))))));replace F:=exL F Bi;refine aK rfl rfl ?_;exact rB F S
      refine cf Bx (aT (bn Bl (tn Bk ?_)));replace S:Sat w0 BE [Box Bn 26 [u0]]:=S.rems 2 [0] rfl;refine ag (pM (i_ Bh) Bs ?_);obtain ⟨BB,B0,F⟩:=ob F;refine pe (i_ BB) (aD rfl rfl B0) (pa (i_ BB) (en Bj ?_));replace S:=S.keep 1;exact ⟨BB,Br,rfl,S,F⟩
     refine qo (an Y) (qo (an Y) (qo (an Y) (qo (an Y) (qo (an Y) (qe (.bool true) (av rfl (an Y) rfl) (qm (.bool true) (qo rfl (qo rfl (qo rfl (qo rfl (qe (.bool true) (av rfl rfl rfl) (bh ?_))))))))))));intro Ck B1;replace S:=S.ext B1;refine tn Bq (ct rfl ?_);refine sg fun _ Cl=>?_;replace S:Sat w0 Ck []:=S.rems 2 [0,1] rfl;refine ag (pa (.bool false) (en Cl (aj (br Bl (tr Bk (tr Bj (br Bp (tr Bo ?_))))))));replace F:=exL F Bi;refine aK rfl rfl ?_;exact rB F S
    refine qo (an Bd) (qo (an Bd) (qo (an Bd) (qo (an Bd) (qe (.bool true) (av rfl (an Bd) rfl) (qm (.bool true) (qo rfl (qo rfl (qo rfl (qo rfl (qo rfl (qe (.bool true) (av rfl rfl rfl) (qm (.bool true) (qo rfl (qo rfl (qo rfl (qo rfl (qe (.bool true) (av rfl rfl rfl) (bh ?_))))))))))))))))));intro Cm B2;replace S:=S.ext B2;refine tn Bq (ct rfl ?_);refine sg fun _ Cn=>?_;replace S:Sat w0 Cm []:=S.rems 2 [0,1] rfl;refine ag (pa (.bool false) (en Cn (aj (br Bl (tr Bk (tr Bj (br Bp (tr Bo ?_))))))));replace F:=exL F Bi;refine aK rfl rfl ?_;exact rB F S
   refine qo J (qo J (qo J (qo J (qo J (qo J (qo J (qo J (qo J (qo J (qi (am U) (qe (.bool false) (aC rfl J rfl) (qe (.bool false) (aC rfl (am U) rfl) (qm (.bool false) (qi rfl (qe (.pointer (some ⟨Bg,0 + 1,none⟩)) (ae rfl) (qi rfl (qe (.agg #[i_ D.2.1,Bm]) (aw (cs:=[i_ D.2.1,Bm]) rfl rfl (t3 (S.boxAt 0 rfl) 1 2)) (qi rfl ?_))))))))))))))))));obtain ⟨By,B3,F⟩:=ob F;refine cR (.bool By) pX (fun w' hw'=>eQ (bE (S.up Bt) hw') B3) (ca (ai rfl rfl)) (dt rfl) ?_;refine qi rfl (qe (.bool (!By)) (a7 rfl) (qe (.bool (!By)) (aC rfl rfl rfl) (qm (.bool (!By)) ?_)));rcases oif F with ⟨Z,F⟩|⟨Z,F⟩
   ·refine qi (am Z) (qe (.pointer (some ⟨Bg,0 + 1,none⟩)) (ae rfl) (qi (am Z) (qe (.pointer (some ⟨Bg,0 + 1 + 1,none⟩)) (ae rfl) (qi (am Z) (qe Bm (ac rfl ((S.boxAt 0 rfl) 2 _ rfl)) (qi (am Z) (qe (i_ (D.2.2.length:Int)) (au rfl Bt) (qi (am Z) (qe (.bool (decide (16 < (D.2.2.length:Int)))) (bo rfl rfl) (qe (.bool (decide (16 < (D.2.2.length:Int)))) (aC rfl (am Z) rfl) (qm (.bool (decide (16 < (D.2.2.length:Int)))) ?_)))))))))));rcases oif F with ⟨Bf,F⟩|⟨Bf,F⟩
    ·refine qo Bf (qo Bf (qo Bf (qo Bf (qe (.bool true) (av rfl Bf rfl) (bh ?_)))));intro Co B4;replace S:=S.ext B4;refine tn Bq (ct rfl ?_);refine sg fun _ Cp=>?_;replace S:Sat w0 Co []:=S.rems 2 [0,1] rfl;refine ag (pa (.bool false) (en Cp (aj (br Bl (tr Bk (tr Bj (br Bp (tr Bo ?_))))))));replace F:=exL F Bi;refine aK rfl rfl ?_;exact rB F S
    refine qi Bf (qe (.pointer (some ⟨Bg,0 + 1,none⟩)) (ae rfl) (qi Bf (qe (.pointer (some ⟨Bg,0 + 1 + 0,none⟩)) (ae rfl) (qi Bf (qe (i_ D.2.1) (ac rfl ((S.boxAt 0 rfl) 1 _ rfl)) (qi Bf (qe (.bool (decide (D.2.1 < 1))) (aL rfl rfl) (qe (.bool (decide (D.2.1 < 1))) (aC rfl Bf rfl) (bh ?_)))))))));intro BF B5;replace S:=S.ext B5;refine tn Bq ?_;rcases oif F with ⟨Bz,F⟩|⟨Bz,F⟩
    ·refine ct Bz ?_;refine sg fun _ Cq=>?_;replace S:Sat w0 BF []:=S.rems 2 [0,1] rfl;refine ag (pa (.bool false) (en Cq (aj (br Bl (tr Bk (tr Bj (br Bp (tr Bo ?_))))))));replace F:=exL F Bi;refine aK rfl rfl ?_;exact rB F S
    refine cf Bz (aT (bn Bl (tn Bk ?_)));replace S:Sat w0 BF [Box Bn 26 [u0]]:=S.rems 2 [0] rfl;refine ag (pM (i_ Bh) Bs ?_);obtain ⟨BC,B6,F⟩:=ob F;refine pe (i_ BC) (aD rfl rfl B6) (pa (i_ BC) (en Bj ?_));replace S:=S.keep 1;exact ⟨BC,Br,rfl,S,F⟩
   refine qo (an Z) (qo (an Z) (qo (an Z) (qo (an Z) (qo (an Z) (qe (.bool true) (av rfl (an Z) rfl) (qm (.bool true) (qo rfl (qo rfl (qo rfl (qo rfl (qe (.bool true) (av rfl rfl rfl) (bh ?_))))))))))));intro Cr B7;replace S:=S.ext B7;refine tn Bq (ct rfl ?_);refine sg fun _ Cs=>?_;replace S:Sat w0 Cr []:=S.rems 2 [0,1] rfl;refine ag (pa (.bool false) (en Cs (aj (br Bl (tr Bk (tr Bj (br Bp (tr Bo ?_))))))));replace F:=exL F Bi;refine aK rfl rfl ?_;exact rB F S
  refine qo (an U) (qo (an U) (qo (an U) ?_));refine bB rfl (dt rfl) ?_;refine bB rfl (dt rfl) ?_;refine bB rfl (dt rfl) ?_;refine bB rfl (dt rfl) ?_;refine bB rfl (dt rfl) ?_;refine bB rfl (dt rfl) ?_;refine bB rfl (dt rfl) ?_;refine bB rfl (dt rfl) ?_;refine bB rfl (dt rfl) ?_;refine bB rfl (dt rfl) ?_;refine qo (an U) (qe (.bool true) (av rfl (an U) rfl) (qm (.bool true) (qo rfl (qo rfl (qo rfl (qo rfl (qe (.bool true) (av rfl rfl rfl) (qm (.bool true) (qo rfl (qo rfl (qo rfl (qo rfl (qo rfl (qe (.bool true) (av rfl rfl rfl) (qm (.bool true) (qo rfl (qo rfl (qo rfl (qo rfl (qe (.bool true) (av rfl rfl rfl) (bh ?_)))))))))))))))))))));intro Ct B8;replace S:=S.ext B8;refine tn Bq (ct rfl ?_);refine sg fun _ Cu=>?_;replace S:Sat w0 Ct []:=S.rems 2 [0,1] rfl;refine ag (pa (.bool false) (en Cu (aj (br Bl (tr Bk (tr Bj (br Bp (tr Bo ?_))))))));replace F:=exL F Bi;refine aK rfl rfl ?_;exact rB F S
 refine cf Bv (aF (tx BD (tx Bj ?_)));replace F:=exA F Bi;refine bS Bp (tn Bo ?_);refine sR fun _ Cv=>?_;refine pe (.pointer (some ⟨Bn,0 + 0,none⟩)) (ae Br) (pe u0 (ac rfl ((S.boxAt 0 rfl) 0 _ rfl)) (pe (i_ (a0.length:Int)) (au rfl ha0) (pe (.bool (decide ((a0.length:Int) ≤ 6))) (iG rfl rfl) (pa (.bool (decide ((a0.length:Int) ≤ 6))) (en Cv (aj (aK rfl rfl ?_)))))));exact rB F S
theorem iR {w0:World} {u0:Value} {a0:List T7_} {a1:ByteArray} (ha0:aV.rd w0 [u0] a0) (_:a1.size ≤ 9223372036854775807) {N:Nat} {r:T4_ × Bool} (F:e8 N a0 a1=some r): Calls Tryz.prog 111 #[.agg #[u0],.string a1] w0 fun e w'=>∃ (q0:Value),e=.returned (.tuple #[.agg #[i_ r.1.1,q0],.bool r.2])∧Sat w0 w' [Own R3_ [q0] r.1.2] := by
 unfold e8 at F;refine aJ Tryz.func111 rfl rfl (dt rfl) ?_;have S:=Sat.start w0;refine sR fun _ BS=>?_;refine bl [u0] rfl S (dt rfl) ?_;intro Ca Bd S B4;refine aM S (dt rfl) ?_;intro Cb Z S B5;refine pa (.bool false) (en BS ?_);refine sg fun _ Bl=>?_;refine sR fun _ BT=>?_;refine pa (i_ 0) (en BT ?_);refine bg fun _ Bm=>?_;obtain ⟨BU,hL,Bh⟩:=ob F;refine aH (fun k e w=>∃ (D:Int),e 1=.string a1∧e 2=.pointer (some ⟨Bd,0,none⟩)∧e 4=.pointer (some ⟨Z,0,none⟩)∧e 6=i_ D∧Sat w0 w [Box Z 39 [i_ 0,n_],Box Bd 26 [u0]]∧cp N k a1 a0 0 [] D=some BU) N ?_ ?_ ?_
 ·exact ⟨0,rfl,rfl,rfl,rfl,S,hL⟩
 ·rintro e w ⟨_,_,_,_,_,_,hz⟩; exact nomatch (show none=some _ from hz)
 rintro k Cc BV ⟨D,Bq,Be,J,Bg,S,F⟩;refine gn fun _ Bi=>?_;refine sg fun _ Bn=>?_;refine sR fun _ Bs=>?_;refine pM (i_ D) Bg (pe (.pointer (some ⟨Bd,0 + 0,none⟩)) (ae Be) (pe u0 (ac rfl ((S.boxAt 1 rfl) 0 _ rfl)) (pe (i_ (a0.length:Int)) (au rfl ha0) (pe (.bool (decide (D < (a0.length:Int)))) (aL rfl rfl) (pm (.bool (decide (D < (a0.length:Int)))) ?_)))));rcases oif F with ⟨U,F⟩|⟨U,F⟩
 ·refine ei U (pe (.agg #[u0]) (aw (cs:=[u0]) Be rfl (az (S.boxAt 1 rfl))) (ei U ?_));obtain ⟨BW,BA,F⟩:=ob F;refine ec0 vr (kd (S.up ha0) BA) (ca (ai rfl rfl)) S fun BX B6 S=>?_;refine pe (.bool BW) (av rfl U rfl) (en Bs ?_);rcases oif F with ⟨Bj,F⟩|⟨Bj,F⟩
  ·refine ct Bj (sn Bn ?_);refine sg fun _ Bt=>?_;refine bg fun _ Bu=>?_;refine sR fun _ BY=>?_;refine pe (.pointer (some ⟨Bd,0 + 0,none⟩)) (ae Be) (pe u0 (ac rfl ((S.boxAt 1 rfl) 0 _ rfl)) (pM (i_ D) Bg ?_));obtain ⟨Bv,BB,F⟩:=ob F;refine aI (wA:=w0) rfl ha0 rfl (dt rfl) rfl BB (dt rfl) ?_;intro BZ BC Cd BD BE;obtain ⟨_,_,rfl,BF,BG⟩:=BD;obtain ⟨rfl,B7⟩:=BF;obtain ⟨_,_,rfl,BH,BI⟩:=BG;obtain rfl:=BH;obtain ⟨Ce,rfl⟩:=ax BI;refine pe (.pointer (some ⟨BZ,BC + 0,none⟩)) (ae rfl) (pe (.string Bv.1) (ac rfl ((ak S.below BE) 0 _ rfl)) (pM (.string a1) Bq (pe (.bool (eqS Bv.1 a1)) (mZ rfl rfl) (en BY ?_))));rcases oif F with ⟨Bk,F⟩|⟨Bk,F⟩
   ·refine ct Bk ?_;refine sR fun _ B0=>?_;refine pe (.pointer (some ⟨Bd,0 + 0,none⟩)) (ae Be) (pe u0 (ac rfl ((S.boxAt 1 rfl) 0 _ rfl)) (pM (i_ D) Bg ?_));obtain ⟨Bw,BJ,F⟩:=ob F;refine aI (wA:=w0) rfl ha0 rfl (dt rfl) rfl BJ (dt rfl) ?_;intro B1 BK Cf BL BM;obtain ⟨_,_,rfl,BN,BO⟩:=BL;obtain ⟨rfl,B8⟩:=BN;obtain ⟨_,_,rfl,BP,Br⟩:=BO;obtain rfl:=BP;obtain ⟨Bx,rfl⟩:=ax Br;refine pe (.pointer (some ⟨B1,BK + 1,none⟩)) (ae rfl) (pe (.agg #[i_ Bw.2.1,Bx]) (aw (cs:=[i_ Bw.2.1,Bx]) rfl rfl (xc (ak S.below BM) 1 2)) ?_);obtain ⟨Bf,BQ,F⟩:=ob F;refine ec1 vo (ox (S.up Br) BQ) (ca (ai rfl rfl)) S fun Cg Y B9 S=>?_;refine ap (S.top 1 rfl) J [i_ Bf.1,Y] rfl rfl (dt rfl) (all_cons rfl (all_cons (oc (S.rdAt (R:=R3_) 0 rfl)) rfl)) ?_;intro Bo S;replace S:Sat w0 Bo [Box Z 39 [i_ Bf.1,Y],Own R3_ [Y] Bf.2,Box Bd 26 [u0]]:=S;refine pa (.bool true) (en B0 (aj (br Bu (tr Bt (tr Bi (br Bm (tr Bl ?_)))))));replace F:=exL F Bh;refine dm (cs:=[i_ Bf.1,Y]) rfl J rfl (az (S.boxAt 0 rfl)) rfl ?_;replace S:Sat w0 Bo [Own R3_ [Y] Bf.2,Box Z 39 [i_ Bf.1,Y],Box Bd 26 [u0]]:=S.tops 3 [1] rfl;have hr:=Option.some.inj F;exact ⟨Y,congrArg (fun (r:T4_ × Bool)=>Ending.returned (.tuple #[.agg #[i_ r.1.1,Y],.bool r.2])) hr,Eq.mp (congrArg (fun (r:T4_ × Bool)=>Sat w0 Bo [Own R3_ [Y] r.1.2]) hr) (S.keep 1)⟩
   refine cf Bk (aT (bn Bu (tn Bt (ag (pM (i_ D) Bg ?_)))));obtain ⟨Bp,BR,F⟩:=ob F;refine pe (i_ Bp) (aD rfl rfl BR) (pa (i_ Bp) (en Bi ?_));replace S:=S.keep 2;exact ⟨Bp,Bq,Be,J,rfl,S,F⟩
  refine cf Bj (aF (tx Bn (tx Bi ?_)));replace F:=exA F Bh;refine bS Bm (tn Bl ?_);refine sg fun _ B2=>?_;replace S:Sat w0 BX [Box Z 39 [i_ 0,n_]]:=S.rems 2 [1] rfl;refine ag (pe (.agg #[i_ 0,n_]) (ba [] [i_ 0,n_] rfl rfl) ?_);refine ap (S.top 0 rfl) J [i_ 0,n_] rfl rfl (dt rfl) (all_cons rfl (all_cons rfl rfl)) ?_;intro By S;replace S:Sat w0 By [Box Z 39 [i_ 0,n_]]:=S;refine pa (.bool false) (en B2 (aj ?_));replace S:=S.nil R0_ 28;refine dm (cs:=[i_ 0,n_]) rfl J rfl (az (S.boxAt 1 rfl)) rfl ?_;have hr:=Option.some.inj F;exact ⟨n_,congrArg (fun (r:T4_ × Bool)=>Ending.returned (.tuple #[.agg #[i_ r.1.1,n_],.bool r.2])) hr,Eq.mp (congrArg (fun (r:T4_ × Bool)=>Sat w0 By [Own R3_ [n_] r.1.2]) hr) (S.keep 1)⟩
 refine eo U (eo U (pe (.bool false) (aC rfl U rfl) (en Bs (cf rfl (aF (tx Bn (tx Bi ?_)))))));replace F:=exA F Bh;refine bS Bm (tn Bl ?_);refine sg fun _ B3=>?_;replace S:Sat w0 BV [Box Z 39 [i_ 0,n_]]:=S.rems 2 [1] rfl;refine ag (pe (.agg #[i_ 0,n_]) (ba [] [i_ 0,n_] rfl rfl) ?_);refine ap (S.top 0 rfl) J [i_ 0,n_] rfl rfl (dt rfl) (all_cons rfl (all_cons rfl rfl)) ?_;intro Bz S;replace S:Sat w0 Bz [Box Z 39 [i_ 0,n_]]:=S;refine pa (.bool false) (en B3 (aj ?_));replace S:=S.nil R0_ 28;refine dm (cs:=[i_ 0,n_]) rfl J rfl (az (S.boxAt 1 rfl)) rfl ?_;have hr:=Option.some.inj F;exact ⟨n_,congrArg (fun (r:T4_ × Bool)=>Ending.returned (.tuple #[.agg #[i_ r.1.1,n_],.bool r.2])) hr,Eq.mp (congrArg (fun (r:T4_ × Bool)=>Sat w0 Bz [Own R3_ [n_] r.1.2]) hr) (S.keep 1)⟩
theorem dZ {w0:World} {u0:Value} {a0:List Int} {a1:Int} (ha0:R0_.rd w0 [u0] a0) {N:Nat} {r:Int} (F:dL N a0 a1=some r): Calls Tryz.prog 77 #[u0,i_ a1] w0 fun e w'=>e=.returned (i_ r)∧Ext w0 w' := by
 unfold dL at F;refine aJ Tryz.func77 rfl rfl (dt rfl) ?_;have S:=Sat.start w0;refine sR fun _ Br=>?_;refine pa (i_ 0) (en Br ?_);refine sg fun _ Bh=>?_;refine sR fun _ Bs=>?_;refine pa (i_ 0) (en Bs ?_);refine bg fun _ Bi=>?_;obtain ⟨Bt,hL,Bf⟩:=ob F;refine aH (fun k e w=>∃ (D:Int),e 0=u0∧e 1=i_ a1∧e 5=i_ D∧Sat w0 w []∧jc N k a0 a1 D=some Bt) N ?_ ?_ ?_
 ·exact ⟨0,rfl,rfl,rfl,S,hL⟩
 ·rintro e w ⟨_,_,_,_,_,hz⟩; exact nomatch (show none=some _ from hz)
 rintro k Bz BA ⟨D,U,Bg,J,S,F⟩;refine gn fun _ Bd=>?_;refine sg fun _ Bj=>?_;refine sR fun _ Bu=>?_;refine pM (i_ D) J (pM u0 U (pe (i_ (a0.length:Int)) (au rfl ha0) (pe (.bool (decide (D < (a0.length:Int)))) (aL rfl rfl) (en Bu ?_))));rcases oif F with ⟨Y,F⟩|⟨Y,F⟩
 ·refine ct Y (sn Bj ?_);refine sg fun _ Bk=>?_;refine bg fun _ Bl=>?_;refine sR fun _ Bv=>?_;refine pM u0 U (pM (i_ D) J ?_);obtain ⟨Bm,Bn,F⟩:=ob F;refine aI (wA:=w0) rfl ha0 rfl (dt rfl) rfl Bn (dt rfl) ?_;intro BB By BC Bo Bp;obtain rfl:=Bo;refine pe (i_ Bm) (ac rfl ((ak S.below Bp) 0 _ rfl)) (pM (i_ a1) Bg (pe (.bool (Bm == a1)) (bD rfl rfl) (en Bv ?_)));rcases oif F with ⟨Z,F⟩|⟨Z,F⟩
  ·refine ct Z ?_;refine sR fun _ Bw=>?_;refine pM (i_ D) J (pa (i_ D) (en Bw (aj (br Bl (tr Bk (tr Bd (br Bi (tr Bh ?_))))))));replace F:=exL F Bf;refine aK rfl rfl ?_;exact rI F S
  refine cf Z (aT (bn Bl (tn Bk (ag (pM (i_ D) J ?_)))));obtain ⟨Be,Bq,F⟩:=ob F;refine pe (i_ Be) (aD rfl rfl Bq) (pa (i_ Be) (en Bd ?_));replace S:=S.keep 0;exact ⟨Be,U,Bg,rfl,S,F⟩
 refine cf Y (aF (tx Bj (tx Bd ?_)));replace F:=exA F Bf;refine bS Bi (tn Bh ?_);refine sR fun _ Bx=>?_;refine pa (i_ (-1)) (en Bx (aj (aK rfl rfl ?_)));exact rI F S
theorem fH {w0:World} {a0:ByteArray} {u1:Value} {a1:List Int} {a2:Int} (_:a0.size ≤ 9223372036854775807) (ha1:R0_.rd w0 [u1] a1) {N:Nat} {r:Bool} (F:dp N a0 a1 a2=some r): Calls Tryz.prog 139 #[.agg #[.string a0,u1],i_ a2] w0 fun e w'=>e=.returned (.bool r)∧Ext w0 w' := by
 unfold dp at F;refine aJ Tryz.func139 rfl rfl (dt rfl) ?_;have S:=Sat.start w0;refine sR fun _ Bt=>?_;refine bl [.string a0,u1] rfl S (dt rfl) ?_;intro BC J S BA;refine pa (.bool false) (en Bt ?_);refine sg fun _ Bi=>?_;refine sR fun _ Bu=>?_;refine pa (i_ 0) (en Bu ?_);refine bg fun _ Bj=>?_;obtain ⟨Bv,hL,Bg⟩:=ob F;refine aH (fun k e w=>∃ (D:Int),e 1=i_ a2∧e 2=.pointer (some ⟨J,0,none⟩)∧e 5=i_ D∧Sat w0 w [Box J 113 [.string a0,u1]]∧cr N k a2 a0 a1 D=some Bv) N ?_ ?_ ?_
 ·exact ⟨0,rfl,rfl,rfl,S,hL⟩
 ·rintro e w ⟨_,_,_,_,_,hz⟩; exact nomatch (show none=some _ from hz)
 rintro k BD Bk ⟨D,Bh,U,Y,S,F⟩;refine gn fun _ Be=>?_;refine sg fun _ Bl=>?_;refine sR fun _ Bw=>?_;refine pM (i_ D) Y (pe (.pointer (some ⟨J,0 + 1,none⟩)) (ae U) (pe u1 (ac rfl ((S.boxAt 0 rfl) 1 _ rfl)) (pe (i_ (a1.length:Int)) (au rfl ha1) (pe (.bool (decide (D < (a1.length:Int)))) (aL rfl rfl) (en Bw ?_)))));rcases oif F with ⟨Z,F⟩|⟨Z,F⟩
 ·refine ct Z (sn Bl ?_);refine sg fun _ Bm=>?_;refine bg fun _ Bn=>?_;refine sR fun _ Bx=>?_;refine pe (.pointer (some ⟨J,0 + 1,none⟩)) (ae U) (pe u1 (ac rfl ((S.boxAt 0 rfl) 1 _ rfl)) (pM (i_ D) Y ?_));obtain ⟨Bo,Bp,F⟩:=ob F;refine aI (wA:=w0) rfl ha1 rfl (dt rfl) rfl Bp (dt rfl) ?_;intro BE BB BF Bq Br;obtain rfl:=Bq;refine pe (i_ Bo) (ac rfl ((ak S.below Br) 0 _ rfl)) (pM (i_ a2) Bh (pe (.bool (Bo == a2)) (bD rfl rfl) (en Bx ?_)));rcases oif F with ⟨Bd,F⟩|⟨Bd,F⟩
  ·refine ct Bd ?_;refine sg fun _ By=>?_;replace S:Sat w0 Bk []:=S.rems 1 [0] rfl;refine ag (pa (.bool true) (en By (aj (br Bn (tr Bm (tr Be (br Bj (tr Bi ?_))))))));replace F:=exL F Bg;refine aK rfl rfl ?_;exact rB F S
  refine cf Bd (aT (bn Bn (tn Bm (ag (pM (i_ D) Y ?_)))));obtain ⟨Bf,Bs,F⟩:=ob F;refine pe (i_ Bf) (aD rfl rfl Bs) (pa (i_ Bf) (en Be ?_));replace S:=S.keep 1;exact ⟨Bf,Bh,U,rfl,S,F⟩
 refine cf Z (aF (tx Bl (tx Be ?_)));replace F:=exA F Bg;refine bS Bj (tn Bi ?_);refine sg fun _ Bz=>?_;replace S:Sat w0 Bk []:=S.rems 1 [0] rfl;refine ag (pa (.bool false) (en Bz (aj (aK rfl rfl ?_))));exact rB F S
theorem fE {w0:World} {a0:Int} {u1:Value} {a1:List T3_} {u2:Value} {a2:List Int} (ha1:R7_.rd w0 [u1] a1) (ha2:R0_.rd w0 [u2] a2) {N:Nat} {r:Bool} (F:dE N a0 a1 a2=some r): Calls Tryz.prog 112 #[.agg #[i_ a0,u1,u2]] w0 fun e w'=>e=.returned (.bool r)∧Ext w0 w' := by
 unfold dE at F;refine aJ Tryz.func112 rfl rfl (dt rfl) ?_;have S:=Sat.start w0;refine sR fun _ DA=>?_;refine bl [i_ a0,u1,u2] rfl S (dt rfl) ?_;intro EF J S Es;refine pa (.bool false) (en DA ?_);refine sg fun _ Bv=>?_;refine sR fun _ BO=>?_;refine pe (.pointer (some ⟨J,0 + 0,none⟩)) (ae rfl) (pe (i_ a0) (ac rfl ((S.boxAt 0 rfl) 0 _ rfl)) ?_);obtain ⟨Cf,CD,F⟩:=ob F;refine ec0 jK (ek CD) (ca (ai rfl (ai rfl (ai rfl rfl)))) S fun DB Et S=>?_;refine pe (.bool (!Cf)) (a7 rfl) (pm (.bool (!Cf)) ?_);rcases oif F with ⟨Bd,F⟩|⟨Bd,F⟩
 ·refine ei (am Bd) (pe (.pointer (some ⟨J,0 + 1,none⟩)) (ae rfl) (ei (am Bd) (pe u1 (ac rfl ((S.boxAt 0 rfl) 1 _ rfl)) (ei (am Bd) (pe (i_ (a1.length:Int)) (au rfl ha1) (ei (am Bd) ?_))))));obtain ⟨BP,CE,F⟩:=ob F;refine ec0 jK (ek CE) (ca (ai rfl (ai rfl (ai rfl rfl)))) S fun Cg Eu S=>?_;refine ei (am Bd) (pe (.bool (!BP)) (a7 rfl) (pe (.bool (!BP)) (aC rfl (am Bd) rfl) (pm (.bool (!BP)) ?_)));rcases oif F with ⟨Z,F⟩|⟨Z,F⟩
  ·refine ei (am Z) (pe (.pointer (some ⟨J,0 + 2,none⟩)) (ae rfl) (ei (am Z) (pe u2 (ac rfl ((S.boxAt 0 rfl) 2 _ rfl)) (ei (am Z) (pe (i_ (a2.length:Int)) (au rfl ha2) (ei (am Z) (pe (.pointer (some ⟨J,0 + 0,none⟩)) (ae rfl) (ei (am Z) (pe (i_ a0) (ac rfl ((S.boxAt 0 rfl) 0 _ rfl)) (ei (am Z) (pe (.bool (decide (a0 < (a2.length:Int)))) (bo rfl rfl) (pe (.bool (decide (a0 < (a2.length:Int)))) (aC rfl (am Z) rfl) (en BO ?_)))))))))))));rcases oif F with ⟨Bw,F⟩|⟨Bw,F⟩
   ·refine ct Bw ?_;refine sg fun _ DC=>?_;replace S:Sat w0 Cg []:=S.rems 1 [0] rfl;refine ag (pa (.bool false) (en DC (aj (tr Bv (aK rfl rfl ?_)))));exact rB F S
   refine cf Bw (sn Bv ?_);refine sg fun _ Bx=>?_;refine sR fun _ DD=>?_;refine pa (i_ 0) (en DD ?_);refine bg fun _ By=>?_;obtain ⟨DE,hL,Bp⟩:=ob F;refine aH (fun k e w=>∃ (Be:Int),e 1=.pointer (some ⟨J,0,none⟩)∧e 3=i_ Be∧Sat w0 w [Box J 30 [i_ a0,u1,u2]]∧c4 N k a0 a1 a2 Be=some DE) N ?_ ?_ ?_
   ·exact ⟨0,rfl,rfl,S,hL⟩
   ·rintro e w ⟨_,_,_,_,hz⟩; exact nomatch (show none=some _ from hz)
   rintro k EG EH ⟨Be,Bl,Bq,S,F⟩;refine gn fun _ Bu=>?_;refine sg fun _ Ch=>?_;refine sR fun _ DF=>?_;refine pM (i_ Be) Bq (pe (.pointer (some ⟨J,0 + 1,none⟩)) (ae Bl) (pe u1 (ac rfl ((S.boxAt 0 rfl) 1 _ rfl)) (pe (i_ (a1.length:Int)) (au rfl ha1) (pe (.bool (decide (Be < (a1.length:Int)))) (aL rfl rfl) (en DF ?_)))));rcases oif F with ⟨Bz,F⟩|⟨Bz,F⟩
   ·refine ct Bz (sn Ch ?_);refine sg fun _ BA=>?_;refine bg fun _ BB=>?_;refine sg fun _ BQ=>?_;refine sR fun _ Ci=>?_;refine pe (.pointer (some ⟨J,0 + 1,none⟩)) (ae Bl) (pe u1 (ac rfl ((S.boxAt 0 rfl) 1 _ rfl)) (pM (i_ Be) Bq ?_));obtain ⟨DG,CF,F⟩:=ob F;refine aI (wA:=w0) rfl ha1 rfl (dt rfl) rfl CF (dt rfl) ?_;intro DH CG EI CH CI;obtain ⟨_,_,rfl,CJ,CK⟩:=CH;obtain ⟨rfl,CL⟩:=CJ;obtain ⟨EJ,rfl⟩:=ax CK;refine pe (.pointer (some ⟨DH,CG + 0,none⟩)) (ae rfl) (pe (.string DG.1) (ac rfl ((ak S.below CI) 0 _ rfl)) ?_);obtain ⟨Cj,CM,F⟩:=ob F;refine ec0 vW (lN CL CM) (ca (ai rfl rfl)) S fun DI Ev S=>?_;refine pe (.bool (!Cj)) (a7 rfl) (pm (.bool (!Cj)) ?_);rcases oif F with ⟨U,F⟩|⟨U,F⟩
    ·refine ei (am U) (pe (.pointer (some ⟨J,0 + 1,none⟩)) (ae Bl) (ei (am U) (pe u1 (ac rfl ((S.boxAt 0 rfl) 1 _ rfl)) (ei (am U) (pM (i_ Be) Bq (ei (am U) ?_))))));obtain ⟨DJ,CN,F⟩:=ob F;refine aI (wA:=w0) rfl ha1 rfl (dt rfl) rfl CN (dt rfl) ?_;intro DK CO EK CP CQ;obtain ⟨_,_,rfl,CR,B7⟩:=CP;obtain ⟨rfl,Ew⟩:=CR;obtain ⟨DL,rfl⟩:=ax B7;refine ei (am U) (pe (.pointer (some ⟨DK,CO + 1,none⟩)) (ae rfl) (ei (am U) (pe DL (ac rfl ((ak S.below CQ) 1 _ rfl)) (ei (am U) (pe (i_ (DJ.2.length:Int)) (au rfl B7) (ei (am U) ?_))))));obtain ⟨Ck,CS,F⟩:=ob F;refine ec0 jK (ek CS) (ca (ai rfl (ai rfl (ai rfl rfl)))) S fun DM Ex S=>?_;refine ei (am U) (pe (.bool (!Ck)) (a7 rfl) (pe (.bool (!Ck)) (aC rfl (am U) rfl) (en Ci ?_)));rcases oif F with ⟨BC,F⟩|⟨BC,F⟩
     ·refine cf (am BC) (sn BQ ?_);refine sR fun _ DN=>?_;refine pa (i_ 0) (en DN ?_);refine bg fun _ Cl=>?_;obtain ⟨DO,hL,B8⟩:=ob F;refine aH (fun k e w=>∃ (Bj:Int),e 1=.pointer (some ⟨J,0,none⟩)∧e 3=i_ Be∧e 4=i_ Bj∧Sat w0 w [Box J 30 [i_ a0,u1,u2]]∧c6 N k a0 a1 a2 Be Bj=some DO) N ?_ ?_ ?_
      ·exact ⟨0,Bl,Bq,rfl,S,hL⟩
      ·rintro e w ⟨_,_,_,_,_,hz⟩; exact nomatch (show none=some _ from hz)
      rintro k EM EN ⟨Bj,Bm,Br,BD,S,F⟩;refine gn fun _ BR=>?_;refine sg fun _ Cm=>?_;refine sR fun _ DP=>?_;refine pM (i_ Bj) BD (pe (.pointer (some ⟨J,0 + 1,none⟩)) (ae Bm) (pe u1 (ac rfl ((S.boxAt 0 rfl) 1 _ rfl)) (pM (i_ Be) Br ?_)));obtain ⟨Cn,CT,F⟩:=ob F;refine aI (wA:=w0) rfl ha1 rfl (dt rfl) rfl CT (dt rfl) ?_;intro DQ CU EO CV CX;obtain ⟨_,_,rfl,CY,B9⟩:=CV;obtain ⟨rfl,Ey⟩:=CY;obtain ⟨DR,rfl⟩:=ax B9;refine pe (.pointer (some ⟨DQ,CU + 1,none⟩)) (ae rfl) (pe DR (ac rfl ((ak S.below CX) 1 _ rfl)) (pe (i_ (Cn.2.length:Int)) (au rfl B9) (pe (.bool (decide (Bj < (Cn.2.length:Int)))) (aL rfl rfl) (en DP ?_))));rcases oif F with ⟨BE,F⟩|⟨BE,F⟩
      ·refine ct BE (sn Cm ?_);refine sg fun _ Co=>?_;refine bg fun _ Cp=>?_;refine sg fun _ DS=>?_;refine bJ (by kernel_rfl) (by kernel_rfl) ?_;refine qe (.pointer (some ⟨J,0 + 1,none⟩)) (ae Bm) (qe u1 (ac rfl ((S.boxAt 0 rfl) 1 _ rfl)) (qM (i_ Be) Br ?_));obtain ⟨EP,CZ,F⟩:=ob F;refine aY (wA:=w0) rfl ha1 rfl (dt rfl) rfl CZ (dt rfl) ?_;intro DT C0 EQ C1 C2;obtain ⟨_,_,rfl,C3,Ca⟩:=C1;obtain ⟨rfl,Ez⟩:=C3;obtain ⟨DU,rfl⟩:=ax Ca;refine qe (.pointer (some ⟨DT,C0 + 1,none⟩)) (ae rfl) (qe DU (ac rfl ((ak S.below C2) 1 _ rfl)) (qM (i_ Bj) BD ?_));obtain ⟨DV,C4,F⟩:=ob F;refine aY (wA:=w0) rfl Ca rfl (dt rfl) rfl C4 (dt rfl) ?_;intro ER EA ES C5 C6;obtain rfl:=C5;refine qe (i_ DV) (ac rfl ((ak S.below C6) 0 _ rfl)) (qe (.pointer (some ⟨J,0 + 0,none⟩)) (ae Bm) (qe (i_ a0) (ac rfl ((S.boxAt 0 rfl) 0 _ rfl)) ?_));obtain ⟨DW,C7,F⟩:=ob F;refine qe (i_ DW) (cQ rfl rfl C7) ?_;obtain ⟨Cq,C8,F⟩:=ob F;refine cR (.bool Cq) jK (fun w' hw'=>ek C8) (ca (ai rfl (ai rfl (ai rfl rfl)))) (dt rfl) ?_;refine qe (.bool (!Cq)) (a7 rfl) (bh ?_);intro DX C9;replace S:=S.ext C9;refine tn DS ?_;rcases oif F with ⟨BF,F⟩|⟨BF,F⟩
       ·refine cf (am BF) (aT (bn Cp (tn Co (ag (pM (i_ Bj) BD ?_)))));obtain ⟨BS,Da,F⟩:=ob F;refine pe (i_ BS) (aD rfl rfl Da) (pa (i_ BS) (en BR ?_));replace S:=S.keep 1;exact ⟨BS,Bm,Br,rfl,S,F⟩
       refine ct (an BF) ?_;refine sg fun _ DY=>?_;replace S:Sat w0 DX []:=S.rems 1 [0] rfl;refine ag (pa (.bool false) (en DY (aj (br Cp (tr Co (tr BR (br Cl (br BB (tr BA (tr Bu (br By (tr Bx ?_))))))))))));replace F:=exL F B8;replace F:=exL F Bp;refine aK rfl rfl ?_;exact rB F S
      refine cf BE (aF (tx Cm (tx BR ?_)));replace F:=exA F B8;refine bS Cl (bn BB (tn BA (ag (pM (i_ Be) Br ?_))));obtain ⟨BT,Db,F⟩:=ob F;refine pe (i_ BT) (aD rfl rfl Db) (pa (i_ BT) (en Bu ?_));replace S:=S.keep 1;exact ⟨BT,Bm,rfl,S,F⟩
     refine ct (an BC) ?_;refine sg fun _ DZ=>?_;replace S:Sat w0 DM []:=S.rems 1 [0] rfl;refine ag (pa (.bool false) (en DZ (aj (tr BQ (br BB (tr BA (tr Bu (br By (tr Bx ?_)))))))));replace F:=exL F Bp;refine aK rfl rfl ?_;exact rB F S
    refine eo (an U) (eo (an U) (eo (an U) (eo (an U) (eo (an U) (eo (an U) (eo (an U) (eo (an U) (eo (an U) (pe (.bool true) (av rfl (an U) rfl) (en Ci (ct rfl ?_)))))))))));refine sg fun _ D0=>?_;replace S:Sat w0 DI []:=S.rems 1 [0] rfl;refine ag (pa (.bool false) (en D0 (aj (tr BQ (br BB (tr BA (tr Bu (br By (tr Bx ?_)))))))));replace F:=exL F Bp;refine aK rfl rfl ?_;exact rB F S
   refine cf Bz (aF (tx Ch (tx Bu ?_)));replace F:=exA F Bp;refine bS By (tn Bx ?_);refine sg fun _ Cr=>?_;refine sR fun _ D1=>?_;refine pa (i_ 0) (en D1 ?_);refine bg fun _ Cs=>?_;obtain ⟨D2,hL,Cb⟩:=ob F;refine aH (fun k e w=>∃ (Bf:Int),e 1=.pointer (some ⟨J,0,none⟩)∧e 5=i_ Bf∧Sat w0 w [Box J 30 [i_ a0,u1,u2]]∧c7 N k a0 a1 a2 Bf=some D2) N ?_ ?_ ?_
   ·exact ⟨0,Bl,rfl,S,hL⟩
   ·rintro e w ⟨_,_,_,_,hz⟩; exact nomatch (show none=some _ from hz)
   rintro k ET EU ⟨Bf,BG,Cc,S,F⟩;refine gn fun _ BU=>?_;refine sg fun _ Ct=>?_;refine sR fun _ D3=>?_;refine pM (i_ Bf) Cc (pe (.pointer (some ⟨J,0 + 0,none⟩)) (ae BG) (pe (i_ a0) (ac rfl ((S.boxAt 0 rfl) 0 _ rfl)) (pe (.bool (decide (Bf < a0))) (aL rfl rfl) (en D3 ?_))));rcases oif F with ⟨BH,F⟩|⟨BH,F⟩
   ·refine ct BH (sn Ct ?_);refine sg fun _ Cu=>?_;refine bg fun _ Cv=>?_;refine sR fun _ D4=>?_;refine pa (.bool false) (en D4 ?_);refine sg fun _ D5=>?_;refine sR fun _ D6=>?_;refine pa (i_ 0) (en D6 ?_);refine bg fun _ D7=>?_;obtain ⟨D8,hL,Dc⟩:=ob F;refine aH (fun k e w=>∃ (Bk:Bool),∃ (Bh:Int),e 1=.pointer (some ⟨J,0,none⟩)∧e 5=i_ Bf∧e 6=.bool Bk∧e 7=i_ Bh∧Sat w0 w [Box J 30 [i_ a0,u1,u2]]∧cH N k a0 a1 a2 Bf Bk Bh=some D8) N ?_ ?_ ?_
    ·exact ⟨false,0,BG,Cc,rfl,rfl,S,hL⟩
    ·rintro e w ⟨_,_,_,_,_,_,_,hz⟩; exact nomatch (show none=some _ from hz)
    rintro k EV D9 ⟨Bk,Bh,Bn,Bs,Cd,Bt,S,F⟩;refine gn fun _ BV=>?_;refine sg fun _ Cw=>?_;refine sR fun _ Ea=>?_;refine pM (i_ Bh) Bt (pe (.pointer (some ⟨J,0 + 1,none⟩)) (ae Bn) (pe u1 (ac rfl ((S.boxAt 0 rfl) 1 _ rfl)) (pe (i_ (a1.length:Int)) (au rfl ha1) (pe (.bool (decide (Bh < (a1.length:Int)))) (aL rfl rfl) (en Ea ?_)))));rcases oif F with ⟨BI,F⟩|⟨BI,F⟩
    ·refine ct BI (sn Cw ?_);refine sg fun _ Cx=>?_;refine bg fun _ Cy=>?_;refine ag (pM (.bool Bk) Cd (pm (.bool Bk) ?_));rcases oif F with ⟨Y,F⟩|⟨Y,F⟩
     ·refine eo Y (eo Y (eo Y (eo Y (eo Y (eo Y (eo Y (pe (.bool true) (av rfl Y rfl) (pa (.bool true) (ah (bn Cy (tn Cx (ag (pM (i_ Bh) Bt ?_)))))))))))));obtain ⟨BW,Dd,F⟩:=ob F;refine pe (i_ BW) (aD rfl rfl Dd) (pa (i_ BW) (en BV ?_));replace S:=S.keep 1;exact ⟨true,BW,Bn,Bs,rfl,rfl,S,F⟩
     refine ei Y (pe (.pointer (some ⟨J,0 + 1,none⟩)) (ae Bn) (ei Y (pe u1 (ac rfl ((S.boxAt 0 rfl) 1 _ rfl)) (ei Y (pM (i_ Bh) Bt (ei Y ?_))))));obtain ⟨Cz,De,F⟩:=ob F;refine aI (wA:=w0) rfl ha1 rfl (dt rfl) rfl De (dt rfl) ?_;intro EW EB EX Df Dg;obtain ⟨_,_,rfl,Dh,Ce⟩:=Df;obtain ⟨rfl,Di⟩:=Dh;obtain ⟨CA,rfl⟩:=ax Ce;refine ei Y (pe (.agg #[.string Cz.1,CA]) (aw (cs:=[.string Cz.1,CA]) rfl rfl (ak S.below Dg)) (ei Y (pM (i_ Bf) Bs (ei Y ?_))));obtain ⟨BX,Dj,F⟩:=ob F;refine ec0 qz (fH Di (S.up Ce) Dj) (ca (ai rfl (ai rfl rfl))) S fun EY EC S=>?_;refine pe (.bool BX) (aC rfl Y rfl) (pa (.bool BX) (ah (bn Cy (tn Cx (ag (pM (i_ Bh) Bt ?_))))));obtain ⟨BY,Dk,F⟩:=ob F;refine pe (i_ BY) (aD rfl rfl Dk) (pa (i_ BY) (en BV ?_));replace S:=S.keep 1;exact ⟨BX,BY,Bn,Bs,rfl,rfl,S,F⟩
    refine cf BI (aF (tx Cw (tx BV ?_)));replace F:=exB F Dc;refine bS D7 (tn D5 ?_);refine sR fun _ Eb=>?_;refine pM (.bool Bk) Cd (pe (.bool (!Bk)) (a7 rfl) (en Eb ?_));rcases oif F with ⟨BJ,F⟩|⟨BJ,F⟩
    ·refine cf (am BJ) (aT (bn Cv (tn Cu (ag (pM (i_ Bf) Bs ?_)))));obtain ⟨BZ,Dl,F⟩:=ob F;refine pe (i_ BZ) (aD rfl rfl Dl) (pa (i_ BZ) (en BU ?_));replace S:=S.keep 1;exact ⟨BZ,Bn,rfl,S,F⟩
    refine ct (an BJ) ?_;refine sg fun _ Ec=>?_;replace S:Sat w0 D9 []:=S.rems 1 [0] rfl;refine ag (pa (.bool false) (en Ec (aj (br Cv (tr Cu (tr BU (br Cs (tr Cr ?_))))))));replace F:=exL F Cb;refine aK rfl rfl ?_;exact rB F S
   refine cf BH (aF (tx Ct (tx BU ?_)));replace F:=exA F Cb;refine bS Cs (tn Cr ?_);refine sg fun _ B0=>?_;refine sR fun _ Ed=>?_;refine pa (i_ 0) (en Ed ?_);refine bg fun _ B1=>?_;obtain ⟨Ee,hL,BK⟩:=ob F;refine aH (fun k e w=>∃ (Bg:Int),e 1=.pointer (some ⟨J,0,none⟩)∧e 8=i_ Bg∧Sat w0 w [Box J 30 [i_ a0,u1,u2]]∧cY N k a0 a1 a2 Bg=some Ee) N ?_ ?_ ?_
   ·exact ⟨0,BG,rfl,S,hL⟩
   ·rintro e w ⟨_,_,_,_,hz⟩; exact nomatch (show none=some _ from hz)
   rintro k EZ Ef ⟨Bg,Bi,Bo,S,F⟩;refine gn fun _ BL=>?_;refine sg fun _ CB=>?_;refine sR fun _ Eg=>?_;refine pM (i_ Bg) Bo (pe (.pointer (some ⟨J,0 + 2,none⟩)) (ae Bi) (pe u2 (ac rfl ((S.boxAt 0 rfl) 2 _ rfl)) (pe (i_ (a2.length:Int)) (au rfl ha2) (pe (.bool (decide (Bg < (a2.length:Int)))) (aL rfl rfl) (en Eg ?_)))));rcases oif F with ⟨BM,F⟩|⟨BM,F⟩
   ·refine ct BM (sn CB ?_);refine sg fun _ B2=>?_;refine bg fun _ B3=>?_;refine sg fun _ CC=>?_;refine bJ (by kernel_rfl) (by kernel_rfl) ?_;refine qe (.pointer (some ⟨J,0 + 2,none⟩)) (ae Bi) (qe u2 (ac rfl ((S.boxAt 0 rfl) 2 _ rfl)) (qM (i_ Bg) Bo ?_));obtain ⟨Eh,Dm,F⟩:=ob F;refine aY (wA:=w0) rfl ha2 rfl (dt rfl) rfl Dm (dt rfl) ?_;intro E0 ED E1 Dn Do;obtain rfl:=Dn;refine qe (i_ Eh) (ac rfl ((ak S.below Do) 0 _ rfl)) (qe (.pointer (some ⟨J,0 + 0,none⟩)) (ae Bi) (qe (i_ a0) (ac rfl ((S.boxAt 0 rfl) 0 _ rfl)) ?_));obtain ⟨Ei,Dp,F⟩:=ob F;refine qe (i_ Ei) (cQ rfl rfl Dp) ?_;obtain ⟨B4,Dq,F⟩:=ob F;refine cR (.bool B4) jK (fun w' hw'=>ek Dq) (ca (ai rfl (ai rfl (ai rfl rfl)))) (dt rfl) ?_;refine qe (.bool (!B4)) (a7 rfl) (qm (.bool (!B4)) ?_);rcases oif F with ⟨D,F⟩|⟨D,F⟩
    ·refine qi (am D) (qe (.pointer (some ⟨J,0 + 2,none⟩)) (ae Bi) (qi (am D) (qe u2 (ac rfl ((S.boxAt 0 rfl) 2 _ rfl)) (qi (am D) (qM (i_ Bg) Bo (qi (am D) ?_))))));obtain ⟨E2,Dr,F⟩:=ob F;refine uD (wA:=w0) rfl rfl ha2 (.inr ⟨rfl,rfl⟩) (.inl (congrArg some rfl)) Dr (dt rfl) ?_;intro E3 Ds;refine qi (am D) (qe (.pointer (some ⟨J,0 + 2,none⟩)) (ae Bi) (qi (am D) (qe u2 (ac rfl ((S.boxAt 0 rfl) 2 _ rfl)) (qi (am D) (qM (i_ Bg) Bo (qi (am D) ?_))))));obtain ⟨Ej,Dt,F⟩:=ob F;refine aY (wA:=w0) rfl ha2 rfl (dt rfl) rfl Dt (dt rfl) ?_;intro E4 EE E5 Du Dv;obtain rfl:=Du;refine qi (am D) (qe (i_ Ej) (ac rfl ((ak S.below Dv) 0 _ rfl)) (qi (am D) ?_));obtain ⟨B5,Dw,F⟩:=ob F;refine cR (i_ B5) kD (fun w' hw'=>dZ (bE (S.up Ds) hw') Dw) (ca (ai rfl (ai rfl rfl))) (dt rfl) ?_;refine qi (am D) (qe (.bool (decide (0 ≤ B5))) (dR rfl rfl) (qe (.bool (decide (0 ≤ B5))) (aC rfl (am D) rfl) (bh ?_)));intro Ek Dx;replace S:=S.ext Dx;refine tn CC ?_;rcases oif F with ⟨BN,F⟩|⟨BN,F⟩
     ·refine ct BN ?_;refine sg fun _ El=>?_;replace S:Sat w0 Ek []:=S.rems 1 [0] rfl;refine ag (pa (.bool false) (en El (aj (br B3 (tr B2 (tr BL (br B1 (tr B0 ?_))))))));replace F:=exL F BK;refine aK rfl rfl ?_;exact rB F S
     refine cf BN (aT (bn B3 (tn B2 (ag (pM (i_ Bg) Bo ?_)))));obtain ⟨B6,Dy,F⟩:=ob F;refine pe (i_ B6) (aD rfl rfl Dy) (pa (i_ B6) (en BL ?_));replace S:=S.keep 1;exact ⟨B6,Bi,rfl,S,F⟩
    refine qo (an D) (qo (an D) (qo (an D) (qo (an D) (qo (an D) (qo (an D) (qo (an D) (qo (an D) (qo (an D) (qo (an D) (qo (an D) (qe (.bool true) (av rfl (an D) rfl) (bh ?_))))))))))));intro Em Dz;replace S:=S.ext Dz;refine tn CC (ct rfl ?_);refine sg fun _ En=>?_;replace S:Sat w0 Em []:=S.rems 1 [0] rfl;refine ag (pa (.bool false) (en En (aj (br B3 (tr B2 (tr BL (br B1 (tr B0 ?_))))))));replace F:=exL F BK;refine aK rfl rfl ?_;exact rB F S
   refine cf BM (aF (tx CB (tx BL ?_)));replace F:=exA F BK;refine bS B1 (tn B0 ?_);refine sg fun _ Eo=>?_;replace S:Sat w0 Ef []:=S.rems 1 [0] rfl;refine ag (pa (.bool true) (en Eo (aj (aK rfl rfl ?_))));exact rB F S
  refine eo (an Z) (eo (an Z) (eo (an Z) (eo (an Z) (eo (an Z) (eo (an Z) (pe (.bool true) (av rfl (an Z) rfl) (en BO (ct rfl ?_))))))));refine sg fun _ Ep=>?_;replace S:Sat w0 Cg []:=S.rems 1 [0] rfl;refine ag (pa (.bool false) (en Ep (aj (tr Bv (aK rfl rfl ?_)))));exact rB F S
 refine eo (an Bd) (eo (an Bd) (eo (an Bd) (eo (an Bd) (eo (an Bd) (pe (.bool true) (av rfl (an Bd) rfl) (pm (.bool true) (eo rfl (eo rfl (eo rfl (eo rfl (eo rfl (eo rfl (pe (.bool true) (av rfl rfl rfl) (en BO (ct rfl ?_)))))))))))))));refine sg fun _ Er=>?_;replace S:Sat w0 DB []:=S.rems 1 [0] rfl;refine ag (pa (.bool false) (en Er (aj (tr Bv (aK rfl rfl ?_)))));exact rB F S

end Go.Proofs.YtoijldeajagjjaaGreat
namespace Go.Proofs.YtoijldeajagjjaaGreat
open Go.RowKit
set_option maxRecDepth 100000
set_option maxHeartbeats 4000000
theorem pE {w0:World} {u0:Value} {a0:List T7_} {a1:Int} {u2:Value} {a2:List T3_} {u3:Value} {a3:List Int} (ha0:aV.rd w0 [u0] a0) (ha2:R7_.rd w0 [u2] a2) (ha3:R0_.rd w0 [u3] a3) {N:Nat} {r:Bool} (F:iA N a0 a1 a2 a3=some r): Calls Tryz.prog 65 #[.agg #[u0],.agg #[i_ a1,u2,u3]] w0 fun e w'=>e=.returned (.bool r)∧Ext w0 w' := by
 unfold iA at F;refine aJ Tryz.func65 rfl rfl (dt rfl) ?_;have S:=Sat.start w0;refine sR fun _ B2=>?_;refine bl [u0] rfl S (dt rfl) ?_;intro Ck Bd S Cf;refine bl [i_ a1,u2,u3] rfl S (dt rfl) ?_;intro Cl Y S Cg;refine pa (.bool false) (en B2 ?_);refine sg fun _ Bo=>?_;refine sR fun _ B3=>?_;refine pa (i_ 0) (en B3 ?_);refine bg fun _ Bp=>?_;obtain ⟨B4,hL,Bk⟩:=ob F;refine aH (fun k e w=>∃ (Be:Int),e 2=.pointer (some ⟨Bd,0,none⟩)∧e 3=.pointer (some ⟨Y,0,none⟩)∧e 5=i_ Be∧Sat w0 w [Box Y 30 [i_ a1,u2,u3],Box Bd 26 [u0]]∧dw N k a0 a1 a2 a3 Be=some B4) N ?_ ?_ ?_
 ·exact ⟨0,rfl,rfl,rfl,S,hL⟩
 ·rintro e w ⟨_,_,_,_,_,hz⟩; exact nomatch (show none=some _ from hz)
 rintro k Cm Cn ⟨Be,Bh,Bg,Bi,S,F⟩;refine gn fun _ Bl=>?_;refine sg fun _ BB=>?_;refine sR fun _ B5=>?_;refine pM (i_ Be) Bi (pe (.pointer (some ⟨Y,0 + 1,none⟩)) (ae Bg) (pe u2 (ac rfl ((S.boxAt 0 rfl) 1 _ rfl)) (pe (i_ (a2.length:Int)) (au rfl ha2) (pe (.bool (decide (Be < (a2.length:Int)))) (aL rfl rfl) (en B5 ?_)))));rcases oif F with ⟨Bm,F⟩|⟨Bm,F⟩
 ·refine ct Bm (sn BB ?_);refine sg fun _ Bq=>?_;refine bg fun _ Br=>?_;refine sg fun _ B6=>?_;obtain ⟨B7,BG,F⟩:=ob F;obtain ⟨D,Bw,F⟩:=ob F;refine mo (fun e w=>∃ (Z:Nat),∃ (U:Value),e 2=.pointer (some ⟨Bd,0,none⟩)∧e 3=.pointer (some ⟨Y,0,none⟩)∧e 5=i_ Be∧e 6=.pointer (some ⟨Z,0,none⟩)∧e 7=.bool D.2∧Sat w0 w [Box Y 30 [i_ a1,u2,u3],Box Bd 26 [u0],Box Z 39 [i_ D.1.1,U],Own R3_ [U] D.1.2]) ?_ ?_
  ·obtain ⟨C,hCd⟩:∃ C:World → Prop,∀ w,C w ↔ ∃ G,Sat w0 w ([Box Y 30 [i_ a1,u2,u3],Box Bd 26 [u0]] ++ G):=⟨_,fun _=>Iff.rfl⟩;refine cu [0,1,2,3,4,5,6,7,8,9,10,11,12,13] C (by kernel_rfl) ?_;intro Co BH;replace S:=S.ext BH;have hC:=(hCd _).2 ⟨_,S⟩;refine aP (.agg #[u0]) 0 rfl rfl hC (aE rfl (fun w' hw'=>by obtain ⟨_,S⟩:=(hCd _).1 hw'; exact (aw (cs:=[u0]) Bh rfl (az (S.boxAt 1 rfl))))) ?_;refine aP (.pointer (some ⟨Y,0 + 1,none⟩)) 1 rfl rfl hC (aE rfl (fun w' hw'=>by obtain ⟨_,S⟩:=(hCd _).1 hw'; exact (ae Bg))) ?_;refine aP u2 2 rfl rfl hC (aE rfl (fun w' hw'=>by obtain ⟨_,S⟩:=(hCd _).1 hw'; exact (ac rfl ((S.boxAt 0 rfl) 1 _ rfl)))) ?_;refine aP (i_ Be) 3 rfl rfl hC (aE rfl (fun w' hw'=>by obtain ⟨_,S⟩:=(hCd _).1 hw'; exact (aZ Bi))) ?_;refine jk (wA:=w0) (by kernel_rfl) 4 rfl hC (by kernel_rfl) (by kernel_rfl) rfl ha2 rfl (dt rfl) rfl BG (dt rfl) ?_;intro B8 BI Cp BJ BK;obtain ⟨_,_,rfl,BL,BM⟩:=BJ;obtain ⟨rfl,Bx⟩:=BL;obtain ⟨Cq,rfl⟩:=ax BM;refine aP (.pointer (some ⟨B8,BI + 0,none⟩)) 5 rfl rfl hC (aE rfl (fun w' hw'=>by obtain ⟨_,S⟩:=(hCd _).1 hw'; exact (ae rfl))) ?_;refine aP (.string B7.1) 6 rfl rfl hC (aE rfl (fun w' hw'=>by obtain ⟨_,S⟩:=(hCd _).1 hw'; exact (ac rfl ((ak S.below BK) 0 _ rfl)))) ?_;refine gA 7 11 (by kernel_rfl) rfl rfl ?_ ?_
   ·refine ec1 sA (iR (S.up ha0) Bx Bw) (ca (ai rfl (ai rfl rfl))) S fun Bs U BN S=>?_;refine ah ?_;replace S:Sat w0 Bs [Box Y 30 [i_ a1,u2,u3],Box Bd 26 [u0],Own R3_ [U] D.1.2]:=S.tops 3 [1,2] rfl;have hC:=(hCd _).2 ⟨_,S⟩;refine ⟨fun _=>hC,?_⟩;refine aP (.tuple #[.agg #[i_ D.1.1,U],.bool D.2]) 8 rfl rfl hC (aE rfl (fun w' hw'=>by obtain ⟨_,S⟩:=(hCd _).1 hw'; exact (aZ rfl))) ?_;refine aP (.agg #[i_ D.1.1,U]) 9 rfl rfl hC (aE rfl (fun w' hw'=>by obtain ⟨_,S⟩:=(hCd _).1 hw'; exact (ay rfl rfl))) ?_;refine aP (.bool D.2) 10 rfl rfl hC (aE rfl (fun w' hw'=>by obtain ⟨_,S⟩:=(hCd _).1 hw'; exact (ay rfl rfl))) ?_;refine aO 11 rfl ?_;refine aM S (dt rfl) ?_;intro Bt Z S BO;refine ah ?_;replace S:Sat w0 Bt [Box Y 30 [i_ a1,u2,u3],Box Bd 26 [u0],Box Z 39 [i_ 0,n_],Own R3_ [U] D.1.2]:=S.tops 4 [1,2] rfl;have hC:=(hCd _).2 ⟨_,S⟩;refine ⟨fun _=>hC,?_⟩;refine aO 12 rfl ?_;refine ap (S.top 2 rfl) rfl [i_ D.1.1,U] rfl rfl (dt rfl) (all_cons rfl (all_cons (oc (S.rdAt (R:=R3_) 3 rfl)) rfl)) ?_;intro Bj S;replace S:Sat w0 Bj [Box Z 39 [i_ D.1.1,U],Box Y 30 [i_ a1,u2,u3],Box Bd 26 [u0],Own R3_ [U] D.1.2]:=S;refine ah ?_;replace S:Sat w0 Bj [Box Y 30 [i_ a1,u2,u3],Box Bd 26 [u0],Box Z 39 [i_ D.1.1,U],Own R3_ [U] D.1.2]:=S.tops 4 [1,2] rfl;have hC:=(hCd _).2 ⟨_,S⟩;refine ⟨fun _=>hC,?_⟩;refine aO 13 rfl ?_;refine pa (.bool D.2) (ah ?_);refine ⟨fun _=>hC,?_⟩;refine bI (by kernel_rfl) ?_;exact ⟨rfl,Z,U,Bh,Bg,Bi,rfl,rfl,S⟩
   refine aM S (dt rfl) ?_;intro Bt Z S BO;refine ah ?_;replace S:Sat w0 Bt [Box Y 30 [i_ a1,u2,u3],Box Bd 26 [u0],Box Z 39 [i_ 0,n_]]:=S.tops 3 [1,2] rfl;have hC:=(hCd _).2 ⟨_,S⟩;refine ⟨fun _=>hC,?_⟩;refine aO 7 rfl ?_;refine ec1 sA (iR (S.up ha0) Bx Bw) (ca (ai rfl (ai rfl rfl))) S fun Bs U BN S=>?_;refine ah ?_;replace S:Sat w0 Bs [Box Y 30 [i_ a1,u2,u3],Box Bd 26 [u0],Own R3_ [U] D.1.2,Box Z 39 [i_ 0,n_]]:=S.tops 4 [1,2] rfl;have hC:=(hCd _).2 ⟨_,S⟩;refine ⟨fun _=>hC,?_⟩;refine aO 8 rfl ?_;refine pm (.tuple #[.agg #[i_ D.1.1,U],.bool D.2]) (ah ?_);refine ⟨fun _=>hC,?_⟩;refine aP (.agg #[i_ D.1.1,U]) 9 rfl rfl hC (aE rfl (fun w' hw'=>by obtain ⟨_,S⟩:=(hCd _).1 hw'; exact (ay rfl rfl))) ?_;refine aP (.bool D.2) 10 rfl rfl hC (aE rfl (fun w' hw'=>by obtain ⟨_,S⟩:=(hCd _).1 hw'; exact (ay rfl rfl))) ?_;refine aO 12 rfl ?_;refine ap (S.top 3 rfl) rfl [i_ D.1.1,U] rfl rfl (dt rfl) (all_cons rfl (all_cons (oc (S.rdAt (R:=R3_) 2 rfl)) rfl)) ?_;intro Bj S;replace S:Sat w0 Bj [Box Z 39 [i_ D.1.1,U],Box Y 30 [i_ a1,u2,u3],Box Bd 26 [u0],Own R3_ [U] D.1.2]:=S;refine ah ?_;replace S:Sat w0 Bj [Box Y 30 [i_ a1,u2,u3],Box Bd 26 [u0],Box Z 39 [i_ D.1.1,U],Own R3_ [U] D.1.2]:=S.tops 4 [1,2] rfl;have hC:=(hCd _).2 ⟨_,S⟩;refine ⟨fun _=>hC,?_⟩;refine aO 13 rfl ?_;refine pa (.bool D.2) (ah ?_);refine ⟨fun _=>hC,?_⟩;refine bI (by kernel_rfl) ?_;exact ⟨rfl,Z,U,Bh,Bg,Bi,rfl,rfl,S⟩
  rintro Cr Cs ⟨Z,U,BP,By,Bz,BQ,BR,S⟩;refine tn B6 ?_;refine sg fun _ BC=>?_;refine bJ (by kernel_rfl) (by kernel_rfl) ?_;refine qM (.bool D.2) BR (qe (.bool (!D.2)) (a7 rfl) (qm (.bool (!D.2)) ?_));rcases oif F with ⟨J,F⟩|⟨J,F⟩
  ·refine qi (am J) (qe (.pointer (some ⟨Z,0 + 0,none⟩)) (ae BQ) (qi (am J) (qe (i_ D.1.1) (ac rfl ((S.boxAt 2 rfl) 0 _ rfl)) (qi (am J) (qe (.pointer (some ⟨Y,0 + 1,none⟩)) (ae By) (qi (am J) (qe u2 (ac rfl ((S.boxAt 0 rfl) 1 _ rfl)) (qi (am J) (qM (i_ Be) Bz (qi (am J) ?_))))))))));obtain ⟨Bu,BS,F⟩:=ob F;refine aY (wA:=w0) rfl ha2 rfl (dt rfl) rfl BS (dt rfl) ?_;intro B9 BT Ct BU BV;obtain ⟨_,_,rfl,BW,BA⟩:=BU;obtain ⟨rfl,Ch⟩:=BW;obtain ⟨Ca,rfl⟩:=ax BA;refine qi (am J) (qe (.pointer (some ⟨B9,BT + 1,none⟩)) (ae rfl) (qi (am J) (qe Ca (ac rfl ((ak S.below BV) 1 _ rfl)) (qi (am J) (qe (i_ (Bu.2.length:Int)) (au rfl BA) (qi (am J) (qe (.bool (D.1.1 != (Bu.2.length:Int))) (da rfl rfl) (qe (.bool (D.1.1 != (Bu.2.length:Int))) (aC rfl (am J) rfl) (bh ?_)))))))));intro BD BX;replace S:=S.ext BX;refine tn BC ?_;rcases oif F with ⟨Bn,F⟩|⟨Bn,F⟩
   ·refine ct Bn ?_;refine sg fun _ Cb=>?_;replace S:Sat w0 BD []:=S.rems 4 [0,1,2,3] rfl;refine ag (pa (.bool false) (en Cb (aj (br Br (tr Bq (tr Bl (br Bp (tr Bo ?_))))))));replace F:=exL F Bk;refine aK rfl rfl ?_;exact rB F S
   refine cf Bn (aT (bn Br (tn Bq ?_)));replace S:Sat w0 BD [Box Y 30 [i_ a1,u2,u3],Box Bd 26 [u0]]:=S.rems 4 [2,3] rfl;refine ag (pM (i_ Be) Bz ?_);obtain ⟨Bv,BY,F⟩:=ob F;refine pe (i_ Bv) (aD rfl rfl BY) (pa (i_ Bv) (en Bl ?_));replace S:=S.keep 2;exact ⟨Bv,BP,By,rfl,S,F⟩
  refine qo (an J) (qo (an J) (qo (an J) (qo (an J) (qo (an J) (qo (an J) (qo (an J) (qo (an J) (qo (an J) (qo (an J) (qe (.bool true) (av rfl (an J) rfl) (bh ?_)))))))))));intro Cc BZ;replace S:=S.ext BZ;refine tn BC (ct rfl ?_);refine sg fun _ Cd=>?_;replace S:Sat w0 Cc []:=S.rems 4 [0,1,2,3] rfl;refine ag (pa (.bool false) (en Cd (aj (br Br (tr Bq (tr Bl (br Bp (tr Bo ?_))))))));replace F:=exL F Bk;refine aK rfl rfl ?_;exact rB F S
 refine cf Bm (aF (tx BB (tx Bl ?_)));replace F:=exA F Bk;refine bS Bp (tn Bo ?_);refine sR fun _ BE=>?_;refine pe (.agg #[i_ a1,u2,u3]) (aw (cs:=[i_ a1,u2,u3]) Bg rfl (az (S.boxAt 0 rfl))) ?_;obtain ⟨Ce,B0,F⟩:=ob F;refine ec0 oo (fE (S.up ha2) (S.up ha3) B0) (ca (ai rfl rfl)) S fun Cu Ci S=>?_;refine pm (.bool Ce) ?_;rcases oif F with ⟨Bf,F⟩|⟨Bf,F⟩
 ·refine ei Bf (pe (.agg #[u0]) (aw (cs:=[u0]) Bh rfl (az (S.boxAt 1 rfl))) (ei Bf ?_));obtain ⟨BF,B1,F⟩:=ob F;refine ec0 vr (kd (S.up ha0) B1) (ca (ai rfl rfl)) S fun Cv Cj S=>?_;refine pe (.bool BF) (av rfl Bf rfl) (pa (.bool BF) (en BE (aj (aK rfl rfl ?_))));exact rB F S
 refine eo Bf (eo Bf (pe (.bool false) (aC rfl Bf rfl) (pa (.bool false) (en BE (aj (aK rfl rfl ?_))))));exact rB F S
theorem lc {w0:World} {u0:Value} {a0:List Int} (ha0:R0_.rd w0 [u0] a0) {N:Nat} {r:Bool} (F:fh N a0=some r): Calls Tryz.prog 83 #[u0] w0 fun e w'=>e=.returned (.bool r)∧Ext w0 w' := by
 unfold fh at F;refine aJ Tryz.func83 rfl rfl (dt rfl) ?_;have S:=Sat.start w0;refine sR fun _ BD=>?_;refine pa (.bool false) (en BD ?_);refine sg fun _ Bg=>?_;refine sR fun _ BE=>?_;refine pa (i_ 0) (en BE ?_);refine bg fun _ Bh=>?_;obtain ⟨BF,hL,Z⟩:=ob F;refine aH (fun k e w=>∃ (J:Int),e 0=u0∧e 3=i_ J∧Sat w0 w []∧dq N k a0 J=some BF) N ?_ ?_ ?_
 ·exact ⟨0,rfl,rfl,S,hL⟩
 ·rintro e w ⟨_,_,_,_,hz⟩; exact nomatch (show none=some _ from hz)
 rintro k BP BQ ⟨J,U,Y,S,F⟩;refine gn fun _ Bd=>?_;refine sg fun _ Bn=>?_;refine sR fun _ BG=>?_;refine pM (i_ J) Y (pM u0 U (pe (i_ (a0.length:Int)) (au rfl ha0) (pe (.bool (decide (J < (a0.length:Int)))) (aL rfl rfl) (en BG ?_))));rcases oif F with ⟨Be,F⟩|⟨Be,F⟩
 ·refine ct Be (sn Bn ?_);refine sg fun _ Bi=>?_;refine bg fun _ Bj=>?_;refine sg fun _ Bo=>?_;refine bJ (by kernel_rfl) (by kernel_rfl) ?_;refine qM u0 U (qM (i_ J) Y ?_);obtain ⟨BH,Bp,F⟩:=ob F;refine aY (wA:=w0) rfl ha0 rfl (dt rfl) rfl Bp (dt rfl) ?_;intro BR BN BS Bq Br;obtain rfl:=Bq;refine qe (i_ BH) (ac rfl ((ak S.below Br) 0 _ rfl)) (qM u0 U (qe (i_ (a0.length:Int)) (au rfl ha0) ?_));obtain ⟨BI,Bs,F⟩:=ob F;refine qe (i_ BI) (cQ rfl rfl Bs) ?_;obtain ⟨Bk,Bt,F⟩:=ob F;refine cR (.bool Bk) jK (fun w' hw'=>ek Bt) (ca (ai rfl (ai rfl (ai rfl rfl)))) (dt rfl) ?_;refine qe (.bool (!Bk)) (a7 rfl) (qm (.bool (!Bk)) ?_);rcases oif F with ⟨D,F⟩|⟨D,F⟩
  ·refine qi (am D) (qM u0 U (qi (am D) (qM (i_ J) Y (qi (am D) ?_))));obtain ⟨BT,Bu,F⟩:=ob F;refine uD (wA:=w0) rfl rfl ha0 (.inr ⟨rfl,rfl⟩) (.inl (congrArg some rfl)) Bu (dt rfl) ?_;intro BU Bv;refine qi (am D) (qM u0 U (qi (am D) (qM (i_ J) Y (qi (am D) ?_))));obtain ⟨BJ,Bw,F⟩:=ob F;refine aY (wA:=w0) rfl ha0 rfl (dt rfl) rfl Bw (dt rfl) ?_;intro BV BO BW Bx By;obtain rfl:=Bx;refine qi (am D) (qe (i_ BJ) (ac rfl ((ak S.below By) 0 _ rfl)) (qi (am D) ?_));obtain ⟨Bl,Bz,F⟩:=ob F;refine cR (i_ Bl) kD (fun w' hw'=>dZ (bE (S.up Bv) hw') Bz) (ca (ai rfl (ai rfl rfl))) (dt rfl) ?_;refine qi (am D) (qe (.bool (decide (0 ≤ Bl))) (dR rfl rfl) (qe (.bool (decide (0 ≤ Bl))) (aC rfl (am D) rfl) (bh ?_)));intro BX BA;replace S:=S.ext BA;refine tn Bo ?_;rcases oif F with ⟨Bf,F⟩|⟨Bf,F⟩
   ·refine ct Bf ?_;refine sR fun _ BK=>?_;refine pa (.bool false) (en BK (aj (br Bj (tr Bi (tr Bd (br Bh (tr Bg ?_)))))));replace F:=exL F Z;refine aK rfl rfl ?_;exact rB F S
   refine cf Bf (aT (bn Bj (tn Bi (ag (pM (i_ J) Y ?_)))));obtain ⟨Bm,BB,F⟩:=ob F;refine pe (i_ Bm) (aD rfl rfl BB) (pa (i_ Bm) (en Bd ?_));replace S:=S.keep 0;exact ⟨Bm,U,rfl,S,F⟩
  refine qo (an D) (qo (an D) (qo (an D) (qo (an D) (qo (an D) (qo (an D) (qo (an D) (qo (an D) (qo (an D) (qe (.bool true) (av rfl (an D) rfl) (bh ?_))))))))));intro BY BC;replace S:=S.ext BC;refine tn Bo (ct rfl ?_);refine sR fun _ BL=>?_;refine pa (.bool false) (en BL (aj (br Bj (tr Bi (tr Bd (br Bh (tr Bg ?_)))))));replace F:=exL F Z;refine aK rfl rfl ?_;exact rB F S
 refine cf Be (aF (tx Bn (tx Bd ?_)));replace F:=exA F Z;refine bS Bh (tn Bg ?_);refine sR fun _ BM=>?_;refine pM u0 U (pe (i_ (a0.length:Int)) (au rfl ha0) (pe (.bool (decide ((a0.length:Int) ≤ 5))) (iG rfl rfl) (pa (.bool (decide ((a0.length:Int) ≤ 5))) (en BM (aj (aK rfl rfl ?_))))));exact rB F S
theorem oY {w0:World} {a0:Int} {u1:Value} {a1:List T3_} {u2:Value} {a2:List Int} {u3:Value} {a3:List Int} (ha1:R7_.rd w0 [u1] a1) (ha2:R0_.rd w0 [u2] a2) (ha3:R0_.rd w0 [u3] a3) {N:Nat} {r:Bool} (F:gT N a0 a1 a2 a3=some r): Calls Tryz.prog 99 #[.agg #[i_ a0,u1,u2],u3] w0 fun e w'=>e=.returned (.bool r)∧Ext w0 w' := by
 unfold gT at F;refine aJ Tryz.func99 rfl rfl (dt rfl) ?_;have S:=Sat.start w0;refine sR fun _ Be=>?_;refine bl [i_ a0,u1,u2] rfl S (dt rfl) ?_;intro Bk Bf S Bh;refine pa (.bool false) (en Be ?_);refine sR fun _ U=>?_;refine pe (.agg #[i_ a0,u1,u2]) (aw (cs:=[i_ a0,u1,u2]) rfl rfl (az (S.boxAt 0 rfl))) ?_;obtain ⟨Bg,Z,F⟩:=ob F;refine ec0 oo (fE (S.up ha1) (S.up ha2) Z) (ca (ai rfl rfl)) S fun Bl Bi S=>?_;refine pm (.bool Bg) ?_;rcases oif F with ⟨D,F⟩|⟨D,F⟩
 ·refine ei D (pm u3 (ei D (pe (i_ (a3.length:Int)) (au rfl ha3) (ei D (pe (.pointer (some ⟨Bf,0 + 0,none⟩)) (ae rfl) (ei D (pe (i_ a0) (ac rfl ((S.boxAt 0 rfl) 0 _ rfl)) (ei D (pe (.bool ((a3.length:Int) == a0)) (bD rfl rfl) (pe (.bool ((a3.length:Int) == a0)) (av rfl D rfl) (pm (.bool ((a3.length:Int) == a0)) ?_)))))))))));rcases oif F with ⟨J,F⟩|⟨J,F⟩
  ·refine ei J (pm u3 (ei J ?_));obtain ⟨Y,Bd,F⟩:=ob F;refine ec0 xW (lc (S.up ha3) Bd) (ca (ai rfl rfl)) S fun Bm Bj S=>?_;refine pe (.bool Y) (av rfl J rfl) (pa (.bool Y) (en U (aj (aK rfl rfl ?_))));exact rB F S
  refine eo J (eo J (pe (.bool false) (aC rfl J rfl) (pa (.bool false) (en U (aj (aK rfl rfl ?_))))));exact rB F S
 refine eo D (eo D (eo D (eo D (eo D (pe (.bool false) (aC rfl D rfl) (pm (.bool false) (eo rfl (eo rfl (pe (.bool false) (aC rfl rfl rfl) (pa (.bool false) (en U (aj (aK rfl rfl ?_)))))))))))));exact rB F S
theorem r4 (N:Nat):∀ {w0:World} {u0:Value} {a0:List T0_} (_:R3_.rd w0 [u0] a0) {r:T1_} (_:fv N a0=some r), Calls Tryz.prog 108 #[u0] w0 fun e w'=>∃ (q0:Value),e=.returned (q0)∧Ext w0 w'∧R3_.rd w' [q0] r := by
 induction N with
 | zero=>intros; exact nomatch (show none=some _ by assumption)
 | succ N ih=>
  intro w0 u0 a0 ha0 r F;refine aJ Tryz.func108 rfl rfl (dt rfl) ?_;have S:=Sat.start w0;refine sR fun _ GA=>?_;refine pa n_ (en GA ?_);refine sg fun _ DE=>?_;refine sR fun _ GB=>?_;refine pm u0 (pe (i_ (a0.length:Int)) (au rfl ha0) (pe (.bool (decide ((a0.length:Int) < 2))) (aL rfl rfl) (en GB ?_)));rcases oif F with ⟨Cd,F⟩|⟨Cd,F⟩
  ·refine ct Cd ?_;refine sR fun _ GC=>?_;refine pm u0 (pa u0 (en GC (aj (tr DE (aK rfl rfl ?_)))));have hr:=Option.some.inj F;exact ⟨u0,congrArg (fun (r:T1_)=>Ending.returned (u0)) hr,S.below,Eq.mp (congrArg (fun (r:T1_)=>R3_.rd w0 [u0] r) hr :) (S.up ha0)⟩
  refine cf Cd (sn DE ?_);refine sR fun _ GD=>?_;refine pm u0 (pe (i_ (a0.length:Int)) (au rfl ha0) ?_);obtain ⟨Ce,Ev,F⟩:=ob F;refine pe (i_ Ce) (uj rfl rfl Ev) (pa (i_ Ce) (en GD ?_));refine sR fun _ GE=>?_;refine pm u0 (pm (i_ Ce) ?_);obtain ⟨Jq,Ew,F⟩:=ob F;refine dH (wA:=w0) rfl rfl ha0 (.inr ⟨rfl,rfl⟩) (.inl (congrArg some rfl)) Ew (dt rfl) ?_;intro Jr De;obtain ⟨GF,Ex,F⟩:=ob F;refine aW sW (ih (S.up De) Ex) (ca (ai rfl rfl)) (dt rfl) ?_;rintro _ CU ⟨DF,rfl,Ey,Ez⟩;refine ⟨_,rfl,?_⟩;replace S:=S.ext Ey;have EA:Ext w0 CU:=S.below;have Cf:=S.up ha0;have IG:=S.up ha0;have IH:=S.up De;replace S:=Sat.start CU;refine pa DF (en GE ?_);refine sR fun _ GG=>?_;refine pm u0 (pm (i_ Ce) ?_);obtain ⟨Js,EB,F⟩:=ob F;refine dH (wA:=CU) rfl rfl Cf (.inl (congrArg some rfl)) (.inr ⟨rfl,rfl⟩) EB (dt rfl) ?_;intro Jt Df;obtain ⟨GH,EC,F⟩:=ob F;refine aW sW (ih (S.up Df) EC) (ca (ai rfl rfl)) (dt rfl) ?_;rintro _ D ⟨DG,rfl,ED,EE⟩;refine ⟨_,rfl,?_⟩;replace S:=S.ext ED;have EF:Ext w0 D:=(S.rebase EA).below;have II:=S.up Cf;have EG:=S.up Ez;have IJ:=S.up Cf;have IK:=S.up Df;replace S:=Sat.start D;refine pa DG (en GG ?_);refine sR fun _ GI=>?_;refine aQ (roR D R0_) S (dt rfl) ?_;intro Ju DH S IL;refine pa DH (en GI ?_);refine sg fun _ GJ=>?_;refine bg fun _ GK=>?_;obtain ⟨GL,hL,EH⟩:=ob F;refine aH (fun k e w=>∃ (Bg:Value),∃ (Bj:List T0_),∃ (Bh:Value),∃ (Bk:List T0_),∃ (J:Value),∃ (U:List T0_),e 4=Bg∧e 5=Bh∧e 6=J∧Sat D w [Own (aA (roR D R0_) 28) [J] U]∧R3_.rd D [Bg] Bj∧R3_.rd D [Bh] Bk∧aR (fv N) N k Bj Bk U=some GL) N ?_ ?_ ?_
  ·exact ⟨DF,GF,DG,GH,DH,[],rfl,rfl,rfl,S,EG,EE,hL⟩
  ·rintro e w ⟨_,_,_,_,_,_,_,_,_,_,_,_,hz⟩; exact nomatch (show none=some _ from hz)
  rintro k Jv GM ⟨Bg,Bj,Bh,Bk,J,U,Z,Bd,Y,S,Be,Bf,F⟩;refine gn fun _ Bi=>?_;refine sg fun _ CV=>?_;refine sR fun _ DI=>?_;refine pM Bg Z (pe (i_ (Bj.length:Int)) (au rfl Be) (pe (.bool (decide (0 < (Bj.length:Int)))) (bo rfl rfl) (pm (.bool (decide (0 < (Bj.length:Int)))) ?_)));rcases oif F with ⟨Bx,F⟩|⟨Bx,F⟩
  ·refine eo Bx (eo Bx (eo Bx (pe (.bool true) (av rfl Bx rfl) (en DI (ct rfl (sn CV ?_))))));refine bg fun _ Bv=>?_;refine sR fun _ GN=>?_;refine pa (i_ 0) (en GN ?_);refine sg fun _ CX=>?_;refine bg fun _ CY=>?_;refine sR fun _ GO=>?_;refine pM Bg Z (pe (i_ (Bj.length:Int)) (au rfl Be) (pe (.bool ((Bj.length:Int) == 0)) (bD rfl rfl) (pa (.bool ((Bj.length:Int) == 0)) (en GO ?_))));rcases oif F with ⟨Cg,F⟩|⟨Cg,F⟩
   ·refine ct Cg (ag (pa (i_ 1) (ah (bn CY (tn CX ?_)))));refine sR fun _ GP=>?_;refine aQ bR S (dt rfl) ?_;intro CZ GQ S IM;refine pa GQ (en GP ?_);refine sg fun _ DJ=>?_;refine sg fun _ GR=>?_;replace S:Sat D CZ [Own (aA (roR D R0_) 28) [J] U]:=S.rems 2 [0] rfl;refine ag (pm (i_ 1) (pe (.bool (decide (0 < (1:Int)))) (bo rfl rfl) (en GR ?_)));rcases oif F with ⟨Ch,F⟩|⟨Ch,F⟩
    ·refine ct Ch ?_;refine sR fun _ GS=>?_;refine pM Bh Bd ?_;obtain ⟨Jw,EI,F⟩:=ob F;refine aI (wA:=D) rfl Bf rfl (dt rfl) rfl EI (dt rfl) ?_;intro Jx IN Jy BI EJ;obtain ⟨By,rfl⟩:=ax BI;refine pe By (ac rfl ((ak S.below EJ) 0 _ rfl)) (pa By (en GS (ag (pM Bh Bd ?_))));obtain ⟨C0,EK,F⟩:=ob F;refine dH (wA:=D) rfl rfl Bf (.inl (congrArg some rfl)) (.inr ⟨rfl,rfl⟩) EK (dt rfl) ?_;intro Ci Cj;refine pa Ci (en DJ ?_);refine sR fun _ DK=>?_;refine pM J Y (pe (i_ (U.length:Int)) (au rfl (S.rdAt (R:=(aA (roR D R0_) 28)) 0 rfl)) (pe (.bool ((U.length:Int) == 0)) (bD rfl rfl) (pm (.bool ((U.length:Int) == 0)) ?_)));rcases oif F with ⟨Bl,F⟩|⟨Bl,F⟩
     ·refine eo Bl (eo Bl (eo Bl (eo Bl (eo Bl (eo Bl (eo Bl (eo Bl (eo Bl (pe (.bool true) (av rfl Bl rfl) (en DK (ct rfl (ag (pM J Y (pm By ?_))))))))))))));refine aq [By] (aS rfl (oc BI)) (by rfl) (dt rfl) rfl (dt rfl) S (dt rfl) ?_;intro GT GU S IP;obtain ⟨GV,EM,F⟩:=ob F;have Dk:=S.boxRow 0 rfl;replace S:Sat D GT [Own (aA (roR D R0_) 28) [J] U,Box GU 28 [By]]:=S.top 1 rfl;replace S:=S.roOne (R:=R0_) (W:=D) BI;replace S:=S.one;refine aB rfl (dt rfl) rfl (dt rfl) S rfl rfl rfl (by simp) Dk EM (dt rfl) ?_;intro Jz DL S;refine pa DL (ah (bn Bv (tn Bi ?_)));replace S:=S.keep 1;exact ⟨Bg,Bj,Ci,C0,DL,GV,Z,rfl,rfl,S,Be,Cj,F⟩
     refine ei Bl (pM J Y (ei Bl (pM J Y (ei Bl (pe (i_ (U.length:Int)) (au rfl (S.rdAt (R:=(aA (roR D R0_) 28)) 0 rfl)) (ei Bl ?_))))));obtain ⟨GW,EN,F⟩:=ob F;refine pe (i_ GW) (cQ rfl rfl EN) (ei Bl ?_);obtain ⟨JA,EO,F⟩:=ob F;refine aI (wA:=CZ) rfl (S.rdAt (R:=(aA (roR D R0_) 28)) 0 rfl) rfl (dt rfl) rfl EO (dt rfl) ?_;intro JB IQ JC B2 BS;replace B2:R0_.rd D _ _:=B2;obtain ⟨GX,rfl⟩:=ax B2;refine ei Bl (pe GX (ac rfl (BS 0 _ rfl)) (ei Bl (pm By (ei Bl ?_))));obtain ⟨DM,EP,F⟩:=ob F;refine ec0 gz (bw (S.up B2) (S.up BI) EP) (ca (ai rfl (ai rfl rfl))) S fun JD EQ S=>?_;have BS:=ak EQ BS;refine ei Bl (pe (.bool (DM != 0)) (da rfl rfl) (pe (.bool (DM != 0)) (aC rfl Bl rfl) (en DK ?_)));rcases oif F with ⟨Ck,F⟩|⟨Ck,F⟩
     ·refine ct Ck (ag (pM J Y (pm By ?_)));refine aq [By] (aS rfl (oc BI)) (by rfl) (dt rfl) rfl (dt rfl) S (dt rfl) ?_;intro GY GZ S ER;have BS:=ak ER BS;obtain ⟨G1,ES,F⟩:=ob F;have Dl:=S.boxRow 0 rfl;replace S:Sat D GY [Own (aA (roR D R0_) 28) [J] U,Box GZ 28 [By]]:=S.top 1 rfl;replace S:=S.roOne (R:=R0_) (W:=D) BI;replace S:=S.one;refine aB rfl (dt rfl) rfl (dt rfl) S rfl rfl rfl (by simp) Dl ES (dt rfl) ?_;intro JE DN S;refine pa DN (ah (bn Bv (tn Bi ?_)));replace S:=S.keep 1;exact ⟨Bg,Bj,Ci,C0,DN,G1,Z,rfl,rfl,S,Be,Cj,F⟩
     refine cf Ck (aT (bn Bv (tn Bi ?_)));replace S:=S.keep 1;exact ⟨Bg,Bj,Ci,C0,J,U,Z,rfl,Y,S,Be,Cj,F⟩
    refine cf Ch ?_;refine sR fun _ G2=>?_;refine pM Bg Z ?_;obtain ⟨JF,ET,F⟩:=ob F;refine aI (wA:=D) rfl Be rfl (dt rfl) rfl ET (dt rfl) ?_;intro JG IR JH BJ EU;obtain ⟨Bz,rfl⟩:=ax BJ;refine pe Bz (ac rfl ((ak S.below EU) 0 _ rfl)) (pa Bz (en G2 (ag (pM Bg Z ?_))));obtain ⟨C1,EV,F⟩:=ob F;refine dH (wA:=D) rfl rfl Be (.inl (congrArg some rfl)) (.inr ⟨rfl,rfl⟩) EV (dt rfl) ?_;intro Cl Cm;refine pa Cl (en DJ ?_);refine sR fun _ DO=>?_;refine pM J Y (pe (i_ (U.length:Int)) (au rfl (S.rdAt (R:=(aA (roR D R0_) 28)) 0 rfl)) (pe (.bool ((U.length:Int) == 0)) (bD rfl rfl) (pm (.bool ((U.length:Int) == 0)) ?_)));rcases oif F with ⟨Bm,F⟩|⟨Bm,F⟩
    ·refine eo Bm (eo Bm (eo Bm (eo Bm (eo Bm (eo Bm (eo Bm (eo Bm (eo Bm (pe (.bool true) (av rfl Bm rfl) (en DO (ct rfl (ag (pM J Y (pm Bz ?_))))))))))))));refine aq [Bz] (aS rfl (oc BJ)) (by rfl) (dt rfl) rfl (dt rfl) S (dt rfl) ?_;intro G3 G4 S IS;obtain ⟨G5,EW,F⟩:=ob F;have Dm:=S.boxRow 0 rfl;replace S:Sat D G3 [Own (aA (roR D R0_) 28) [J] U,Box G4 28 [Bz]]:=S.top 1 rfl;replace S:=S.roOne (R:=R0_) (W:=D) BJ;replace S:=S.one;refine aB rfl (dt rfl) rfl (dt rfl) S rfl rfl rfl (by simp) Dm EW (dt rfl) ?_;intro JI DP S;refine pa DP (ah (bn Bv (tn Bi ?_)));replace S:=S.keep 1;exact ⟨Cl,C1,Bh,Bk,DP,G5,rfl,Bd,rfl,S,Cm,Bf,F⟩
    refine ei Bm (pM J Y (ei Bm (pM J Y (ei Bm (pe (i_ (U.length:Int)) (au rfl (S.rdAt (R:=(aA (roR D R0_) 28)) 0 rfl)) (ei Bm ?_))))));obtain ⟨G6,EX,F⟩:=ob F;refine pe (i_ G6) (cQ rfl rfl EX) (ei Bm ?_);obtain ⟨JJ,EY,F⟩:=ob F;refine aI (wA:=CZ) rfl (S.rdAt (R:=(aA (roR D R0_) 28)) 0 rfl) rfl (dt rfl) rfl EY (dt rfl) ?_;intro JK IT JL B3 BT;replace B3:R0_.rd D _ _:=B3;obtain ⟨G7,rfl⟩:=ax B3;refine ei Bm (pe G7 (ac rfl (BT 0 _ rfl)) (ei Bm (pm Bz (ei Bm ?_))));obtain ⟨DQ,EZ,F⟩:=ob F;refine ec0 gz (bw (S.up B3) (S.up BJ) EZ) (ca (ai rfl (ai rfl rfl))) S fun JM E0 S=>?_;have BT:=ak E0 BT;refine ei Bm (pe (.bool (DQ != 0)) (da rfl rfl) (pe (.bool (DQ != 0)) (aC rfl Bm rfl) (en DO ?_)));rcases oif F with ⟨Cn,F⟩|⟨Cn,F⟩
    ·refine ct Cn (ag (pM J Y (pm Bz ?_)));refine aq [Bz] (aS rfl (oc BJ)) (by rfl) (dt rfl) rfl (dt rfl) S (dt rfl) ?_;intro G8 G9 S E1;have BT:=ak E1 BT;obtain ⟨Ha,E2,F⟩:=ob F;have Dn:=S.boxRow 0 rfl;replace S:Sat D G8 [Own (aA (roR D R0_) 28) [J] U,Box G9 28 [Bz]]:=S.top 1 rfl;replace S:=S.roOne (R:=R0_) (W:=D) BJ;replace S:=S.one;refine aB rfl (dt rfl) rfl (dt rfl) S rfl rfl rfl (by simp) Dn E2 (dt rfl) ?_;intro JN DR S;refine pa DR (ah (bn Bv (tn Bi ?_)));replace S:=S.keep 1;exact ⟨Cl,C1,Bh,Bk,DR,Ha,rfl,Bd,rfl,S,Cm,Bf,F⟩
    refine cf Cn (aT (bn Bv (tn Bi ?_)));replace S:=S.keep 1;exact ⟨Cl,C1,Bh,Bk,J,U,rfl,Bd,Y,S,Cm,Bf,F⟩
   refine cf Cg ?_;refine sR fun _ Hb=>?_;refine pM Bh Bd (pe (i_ (Bk.length:Int)) (au rfl Bf) (pe (.bool (decide (0 < (Bk.length:Int)))) (bo rfl rfl) (pa (.bool (decide (0 < (Bk.length:Int)))) (en Hb ?_))));rcases oif F with ⟨Co,F⟩|⟨Co,F⟩
   ·refine ct Co ?_;refine bJ (by kernel_rfl) (by kernel_rfl) ?_;refine qM Bg Z ?_;obtain ⟨JO,E3,F⟩:=ob F;refine aY (wA:=D) rfl Be rfl (dt rfl) rfl E3 (dt rfl) ?_;intro JP IU JQ Dg E4;obtain ⟨Hc,rfl⟩:=ax Dg;refine qe Hc (ac rfl ((ak S.below E4) 0 _ rfl)) (qM Bh Bd ?_);obtain ⟨JR,E5,F⟩:=ob F;refine aY (wA:=D) rfl Bf rfl (dt rfl) rfl E5 (dt rfl) ?_;intro JS IV JT Dh E6;obtain ⟨Hd,rfl⟩:=ax Dh;refine qe Hd (ac rfl ((ak S.below E6) 0 _ rfl)) ?_;obtain ⟨Cp,E7,F⟩:=ob F;refine cR (i_ Cp) gz (fun w' hw'=>bw (bE (S.up Dg) hw') (bE (S.up Dh) hw') E7) (ca (ai rfl (ai rfl rfl))) (dt rfl) ?_;refine qe (i_ Cp) (de rfl) (bh ?_);intro JU E8;replace S:=S.ext E8;refine bn CY (tn CX ?_);refine sR fun _ He=>?_;refine aQ bR S (dt rfl) ?_;intro C2 Hf S IW;refine pa Hf (en He ?_);refine sg fun _ DS=>?_;refine sg fun _ Hg=>?_;replace S:Sat D C2 [Own (aA (roR D R0_) 28) [J] U]:=S.rems 2 [0] rfl;refine ag (pm (i_ Cp) (pe (.bool (decide (0 < Cp))) (bo rfl rfl) (en Hg ?_)));rcases oif F with ⟨Cq,F⟩|⟨Cq,F⟩
    ·refine ct Cq ?_;refine sR fun _ Hh=>?_;refine pM Bh Bd ?_;obtain ⟨JV,E9,F⟩:=ob F;refine aI (wA:=D) rfl Bf rfl (dt rfl) rfl E9 (dt rfl) ?_;intro JW IX JX BK Fa;obtain ⟨BA,rfl⟩:=ax BK;refine pe BA (ac rfl ((ak S.below Fa) 0 _ rfl)) (pa BA (en Hh (ag (pM Bh Bd ?_))));obtain ⟨C3,Fb,F⟩:=ob F;refine dH (wA:=D) rfl rfl Bf (.inl (congrArg some rfl)) (.inr ⟨rfl,rfl⟩) Fb (dt rfl) ?_;intro Cr Cs;refine pa Cr (en DS ?_);refine sR fun _ DT=>?_;refine pM J Y (pe (i_ (U.length:Int)) (au rfl (S.rdAt (R:=(aA (roR D R0_) 28)) 0 rfl)) (pe (.bool ((U.length:Int) == 0)) (bD rfl rfl) (pm (.bool ((U.length:Int) == 0)) ?_)));rcases oif F with ⟨Bn,F⟩|⟨Bn,F⟩
     ·refine eo Bn (eo Bn (eo Bn (eo Bn (eo Bn (eo Bn (eo Bn (eo Bn (eo Bn (pe (.bool true) (av rfl Bn rfl) (en DT (ct rfl (ag (pM J Y (pm BA ?_))))))))))))));refine aq [BA] (aS rfl (oc BK)) (by rfl) (dt rfl) rfl (dt rfl) S (dt rfl) ?_;intro Hi Hj S IY;obtain ⟨Hk,Fc,F⟩:=ob F;have Do:=S.boxRow 0 rfl;replace S:Sat D Hi [Own (aA (roR D R0_) 28) [J] U,Box Hj 28 [BA]]:=S.top 1 rfl;replace S:=S.roOne (R:=R0_) (W:=D) BK;replace S:=S.one;refine aB rfl (dt rfl) rfl (dt rfl) S rfl rfl rfl (by simp) Do Fc (dt rfl) ?_;intro JY DU S;refine pa DU (ah (bn Bv (tn Bi ?_)));replace S:=S.keep 1;exact ⟨Bg,Bj,Cr,C3,DU,Hk,Z,rfl,rfl,S,Be,Cs,F⟩
     refine ei Bn (pM J Y (ei Bn (pM J Y (ei Bn (pe (i_ (U.length:Int)) (au rfl (S.rdAt (R:=(aA (roR D R0_) 28)) 0 rfl)) (ei Bn ?_))))));obtain ⟨Hl,Fd,F⟩:=ob F;refine pe (i_ Hl) (cQ rfl rfl Fd) (ei Bn ?_);obtain ⟨JZ,Fe,F⟩:=ob F;refine aI (wA:=C2) rfl (S.rdAt (R:=(aA (roR D R0_) 28)) 0 rfl) rfl (dt rfl) rfl Fe (dt rfl) ?_;intro J0 IZ J1 B4 BU;replace B4:R0_.rd D _ _:=B4;obtain ⟨Hm,rfl⟩:=ax B4;refine ei Bn (pe Hm (ac rfl (BU 0 _ rfl)) (ei Bn (pm BA (ei Bn ?_))));obtain ⟨DV,Ff,F⟩:=ob F;refine ec0 gz (bw (S.up B4) (S.up BK) Ff) (ca (ai rfl (ai rfl rfl))) S fun J2 Fg S=>?_;have BU:=ak Fg BU;refine ei Bn (pe (.bool (DV != 0)) (da rfl rfl) (pe (.bool (DV != 0)) (aC rfl Bn rfl) (en DT ?_)));rcases oif F with ⟨Ct,F⟩|⟨Ct,F⟩
     ·refine ct Ct (ag (pM J Y (pm BA ?_)));refine aq [BA] (aS rfl (oc BK)) (by rfl) (dt rfl) rfl (dt rfl) S (dt rfl) ?_;intro Hn Ho S Fh;have BU:=ak Fh BU;obtain ⟨Hp,Fi,F⟩:=ob F;have Dp:=S.boxRow 0 rfl;replace S:Sat D Hn [Own (aA (roR D R0_) 28) [J] U,Box Ho 28 [BA]]:=S.top 1 rfl;replace S:=S.roOne (R:=R0_) (W:=D) BK;replace S:=S.one;refine aB rfl (dt rfl) rfl (dt rfl) S rfl rfl rfl (by simp) Dp Fi (dt rfl) ?_;intro J3 DW S;refine pa DW (ah (bn Bv (tn Bi ?_)));replace S:=S.keep 1;exact ⟨Bg,Bj,Cr,C3,DW,Hp,Z,rfl,rfl,S,Be,Cs,F⟩
     refine cf Ct (aT (bn Bv (tn Bi ?_)));replace S:=S.keep 1;exact ⟨Bg,Bj,Cr,C3,J,U,Z,rfl,Y,S,Be,Cs,F⟩
    refine cf Cq ?_;refine sR fun _ Hq=>?_;refine pM Bg Z ?_;obtain ⟨J4,Fj,F⟩:=ob F;refine aI (wA:=D) rfl Be rfl (dt rfl) rfl Fj (dt rfl) ?_;intro J5 I0 J6 BL Fk;obtain ⟨BB,rfl⟩:=ax BL;refine pe BB (ac rfl ((ak S.below Fk) 0 _ rfl)) (pa BB (en Hq (ag (pM Bg Z ?_))));obtain ⟨C4,Fl,F⟩:=ob F;refine dH (wA:=D) rfl rfl Be (.inl (congrArg some rfl)) (.inr ⟨rfl,rfl⟩) Fl (dt rfl) ?_;intro Cu Cv;refine pa Cu (en DS ?_);refine sR fun _ DX=>?_;refine pM J Y (pe (i_ (U.length:Int)) (au rfl (S.rdAt (R:=(aA (roR D R0_) 28)) 0 rfl)) (pe (.bool ((U.length:Int) == 0)) (bD rfl rfl) (pm (.bool ((U.length:Int) == 0)) ?_)));rcases oif F with ⟨Bo,F⟩|⟨Bo,F⟩
    ·refine eo Bo (eo Bo (eo Bo (eo Bo (eo Bo (eo Bo (eo Bo (eo Bo (eo Bo (pe (.bool true) (av rfl Bo rfl) (en DX (ct rfl (ag (pM J Y (pm BB ?_))))))))))))));refine aq [BB] (aS rfl (oc BL)) (by rfl) (dt rfl) rfl (dt rfl) S (dt rfl) ?_;intro Hr Hs S I1;obtain ⟨Ht,Fm,F⟩:=ob F;have Dq:=S.boxRow 0 rfl;replace S:Sat D Hr [Own (aA (roR D R0_) 28) [J] U,Box Hs 28 [BB]]:=S.top 1 rfl;replace S:=S.roOne (R:=R0_) (W:=D) BL;replace S:=S.one;refine aB rfl (dt rfl) rfl (dt rfl) S rfl rfl rfl (by simp) Dq Fm (dt rfl) ?_;intro J7 DY S;refine pa DY (ah (bn Bv (tn Bi ?_)));replace S:=S.keep 1;exact ⟨Cu,C4,Bh,Bk,DY,Ht,rfl,Bd,rfl,S,Cv,Bf,F⟩
    refine ei Bo (pM J Y (ei Bo (pM J Y (ei Bo (pe (i_ (U.length:Int)) (au rfl (S.rdAt (R:=(aA (roR D R0_) 28)) 0 rfl)) (ei Bo ?_))))));obtain ⟨Hu,Fn,F⟩:=ob F;refine pe (i_ Hu) (cQ rfl rfl Fn) (ei Bo ?_);obtain ⟨J8,Fo,F⟩:=ob F;refine aI (wA:=C2) rfl (S.rdAt (R:=(aA (roR D R0_) 28)) 0 rfl) rfl (dt rfl) rfl Fo (dt rfl) ?_;intro J9 I2 Ka B5 BV;replace B5:R0_.rd D _ _:=B5;obtain ⟨Hv,rfl⟩:=ax B5;refine ei Bo (pe Hv (ac rfl (BV 0 _ rfl)) (ei Bo (pm BB (ei Bo ?_))));obtain ⟨DZ,Fp,F⟩:=ob F;refine ec0 gz (bw (S.up B5) (S.up BL) Fp) (ca (ai rfl (ai rfl rfl))) S fun Kb Fq S=>?_;have BV:=ak Fq BV;refine ei Bo (pe (.bool (DZ != 0)) (da rfl rfl) (pe (.bool (DZ != 0)) (aC rfl Bo rfl) (en DX ?_)));rcases oif F with ⟨Cw,F⟩|⟨Cw,F⟩
    ·refine ct Cw (ag (pM J Y (pm BB ?_)));refine aq [BB] (aS rfl (oc BL)) (by rfl) (dt rfl) rfl (dt rfl) S (dt rfl) ?_;intro Hw Hx S Fr;have BV:=ak Fr BV;obtain ⟨Hy,Fs,F⟩:=ob F;have Dr:=S.boxRow 0 rfl;replace S:Sat D Hw [Own (aA (roR D R0_) 28) [J] U,Box Hx 28 [BB]]:=S.top 1 rfl;replace S:=S.roOne (R:=R0_) (W:=D) BL;replace S:=S.one;refine aB rfl (dt rfl) rfl (dt rfl) S rfl rfl rfl (by simp) Dr Fs (dt rfl) ?_;intro Kc D0 S;refine pa D0 (ah (bn Bv (tn Bi ?_)));replace S:=S.keep 1;exact ⟨Cu,C4,Bh,Bk,D0,Hy,rfl,Bd,rfl,S,Cv,Bf,F⟩
    refine cf Cw (aT (bn Bv (tn Bi ?_)));replace S:=S.keep 1;exact ⟨Cu,C4,Bh,Bk,J,U,rfl,Bd,Y,S,Cv,Bf,F⟩
   refine cf Co (ag (pa (i_ (-1)) (ah (bn CY (tn CX ?_)))));refine sR fun _ Hz=>?_;refine aQ bR S (dt rfl) ?_;intro C5 HA S I3;refine pa HA (en Hz ?_);refine sg fun _ D1=>?_;refine sg fun _ HB=>?_;replace S:Sat D C5 [Own (aA (roR D R0_) 28) [J] U]:=S.rems 2 [0] rfl;refine ag (pm (i_ (-1)) (pe (.bool (decide (0 < ((-1):Int)))) (bo rfl rfl) (en HB ?_)));rcases oif F with ⟨Cx,F⟩|⟨Cx,F⟩
   ·refine ct Cx ?_;refine sR fun _ HC=>?_;refine pM Bh Bd ?_;obtain ⟨Kd,Ft,F⟩:=ob F;refine aI (wA:=D) rfl Bf rfl (dt rfl) rfl Ft (dt rfl) ?_;intro Ke I4 Kf BM Fu;obtain ⟨BC,rfl⟩:=ax BM;refine pe BC (ac rfl ((ak S.below Fu) 0 _ rfl)) (pa BC (en HC (ag (pM Bh Bd ?_))));obtain ⟨C6,Fv,F⟩:=ob F;refine dH (wA:=D) rfl rfl Bf (.inl (congrArg some rfl)) (.inr ⟨rfl,rfl⟩) Fv (dt rfl) ?_;intro Cy Cz;refine pa Cy (en D1 ?_);refine sR fun _ D2=>?_;refine pM J Y (pe (i_ (U.length:Int)) (au rfl (S.rdAt (R:=(aA (roR D R0_) 28)) 0 rfl)) (pe (.bool ((U.length:Int) == 0)) (bD rfl rfl) (pm (.bool ((U.length:Int) == 0)) ?_)));rcases oif F with ⟨Bp,F⟩|⟨Bp,F⟩
    ·refine eo Bp (eo Bp (eo Bp (eo Bp (eo Bp (eo Bp (eo Bp (eo Bp (eo Bp (pe (.bool true) (av rfl Bp rfl) (en D2 (ct rfl (ag (pM J Y (pm BC ?_))))))))))))));refine aq [BC] (aS rfl (oc BM)) (by rfl) (dt rfl) rfl (dt rfl) S (dt rfl) ?_;intro HD HE S I5;obtain ⟨HF,Fw,F⟩:=ob F;have Ds:=S.boxRow 0 rfl;replace S:Sat D HD [Own (aA (roR D R0_) 28) [J] U,Box HE 28 [BC]]:=S.top 1 rfl;replace S:=S.roOne (R:=R0_) (W:=D) BM;replace S:=S.one;refine aB rfl (dt rfl) rfl (dt rfl) S rfl rfl rfl (by simp) Ds Fw (dt rfl) ?_;intro Kg D3 S;refine pa D3 (ah (bn Bv (tn Bi ?_)));replace S:=S.keep 1;exact ⟨Bg,Bj,Cy,C6,D3,HF,Z,rfl,rfl,S,Be,Cz,F⟩
    refine ei Bp (pM J Y (ei Bp (pM J Y (ei Bp (pe (i_ (U.length:Int)) (au rfl (S.rdAt (R:=(aA (roR D R0_) 28)) 0 rfl)) (ei Bp ?_))))));obtain ⟨HG,Fx,F⟩:=ob F;refine pe (i_ HG) (cQ rfl rfl Fx) (ei Bp ?_);obtain ⟨Kh,Fy,F⟩:=ob F;refine aI (wA:=C5) rfl (S.rdAt (R:=(aA (roR D R0_) 28)) 0 rfl) rfl (dt rfl) rfl Fy (dt rfl) ?_;intro Ki I6 Kj B6 BW;replace B6:R0_.rd D _ _:=B6;obtain ⟨HH,rfl⟩:=ax B6;refine ei Bp (pe HH (ac rfl (BW 0 _ rfl)) (ei Bp (pm BC (ei Bp ?_))));obtain ⟨D4,Fz,F⟩:=ob F;refine ec0 gz (bw (S.up B6) (S.up BM) Fz) (ca (ai rfl (ai rfl rfl))) S fun Kk FA S=>?_;have BW:=ak FA BW;refine ei Bp (pe (.bool (D4 != 0)) (da rfl rfl) (pe (.bool (D4 != 0)) (aC rfl Bp rfl) (en D2 ?_)));rcases oif F with ⟨CA,F⟩|⟨CA,F⟩
    ·refine ct CA (ag (pM J Y (pm BC ?_)));refine aq [BC] (aS rfl (oc BM)) (by rfl) (dt rfl) rfl (dt rfl) S (dt rfl) ?_;intro HI HJ S FB;have BW:=ak FB BW;obtain ⟨HK,FC,F⟩:=ob F;have Dt:=S.boxRow 0 rfl;replace S:Sat D HI [Own (aA (roR D R0_) 28) [J] U,Box HJ 28 [BC]]:=S.top 1 rfl;replace S:=S.roOne (R:=R0_) (W:=D) BM;replace S:=S.one;refine aB rfl (dt rfl) rfl (dt rfl) S rfl rfl rfl (by simp) Dt FC (dt rfl) ?_;intro Kl D5 S;refine pa D5 (ah (bn Bv (tn Bi ?_)));replace S:=S.keep 1;exact ⟨Bg,Bj,Cy,C6,D5,HK,Z,rfl,rfl,S,Be,Cz,F⟩
    refine cf CA (aT (bn Bv (tn Bi ?_)));replace S:=S.keep 1;exact ⟨Bg,Bj,Cy,C6,J,U,Z,rfl,Y,S,Be,Cz,F⟩
   refine cf Cx ?_;refine sR fun _ HL=>?_;refine pM Bg Z ?_;obtain ⟨Km,FD,F⟩:=ob F;refine aI (wA:=D) rfl Be rfl (dt rfl) rfl FD (dt rfl) ?_;intro Kn I7 Ko BN FE;obtain ⟨BD,rfl⟩:=ax BN;refine pe BD (ac rfl ((ak S.below FE) 0 _ rfl)) (pa BD (en HL (ag (pM Bg Z ?_))));obtain ⟨C7,FF,F⟩:=ob F;refine dH (wA:=D) rfl rfl Be (.inl (congrArg some rfl)) (.inr ⟨rfl,rfl⟩) FF (dt rfl) ?_;intro CB CC;refine pa CB (en D1 ?_);refine sR fun _ D6=>?_;refine pM J Y (pe (i_ (U.length:Int)) (au rfl (S.rdAt (R:=(aA (roR D R0_) 28)) 0 rfl)) (pe (.bool ((U.length:Int) == 0)) (bD rfl rfl) (pm (.bool ((U.length:Int) == 0)) ?_)));rcases oif F with ⟨Bq,F⟩|⟨Bq,F⟩
   ·refine eo Bq (eo Bq (eo Bq (eo Bq (eo Bq (eo Bq (eo Bq (eo Bq (eo Bq (pe (.bool true) (av rfl Bq rfl) (en D6 (ct rfl (ag (pM J Y (pm BD ?_))))))))))))));refine aq [BD] (aS rfl (oc BN)) (by rfl) (dt rfl) rfl (dt rfl) S (dt rfl) ?_;intro HM HN S I8;obtain ⟨HO,FG,F⟩:=ob F;have Du:=S.boxRow 0 rfl;replace S:Sat D HM [Own (aA (roR D R0_) 28) [J] U,Box HN 28 [BD]]:=S.top 1 rfl;replace S:=S.roOne (R:=R0_) (W:=D) BN;replace S:=S.one;refine aB rfl (dt rfl) rfl (dt rfl) S rfl rfl rfl (by simp) Du FG (dt rfl) ?_;intro Kp D7 S;refine pa D7 (ah (bn Bv (tn Bi ?_)));replace S:=S.keep 1;exact ⟨CB,C7,Bh,Bk,D7,HO,rfl,Bd,rfl,S,CC,Bf,F⟩
   refine ei Bq (pM J Y (ei Bq (pM J Y (ei Bq (pe (i_ (U.length:Int)) (au rfl (S.rdAt (R:=(aA (roR D R0_) 28)) 0 rfl)) (ei Bq ?_))))));obtain ⟨HP,FH,F⟩:=ob F;refine pe (i_ HP) (cQ rfl rfl FH) (ei Bq ?_);obtain ⟨Kq,FI,F⟩:=ob F;refine aI (wA:=C5) rfl (S.rdAt (R:=(aA (roR D R0_) 28)) 0 rfl) rfl (dt rfl) rfl FI (dt rfl) ?_;intro Kr I9 Ks B7 BX;replace B7:R0_.rd D _ _:=B7;obtain ⟨HQ,rfl⟩:=ax B7;refine ei Bq (pe HQ (ac rfl (BX 0 _ rfl)) (ei Bq (pm BD (ei Bq ?_))));obtain ⟨D8,FJ,F⟩:=ob F;refine ec0 gz (bw (S.up B7) (S.up BN) FJ) (ca (ai rfl (ai rfl rfl))) S fun Kt FK S=>?_;have BX:=ak FK BX;refine ei Bq (pe (.bool (D8 != 0)) (da rfl rfl) (pe (.bool (D8 != 0)) (aC rfl Bq rfl) (en D6 ?_)));rcases oif F with ⟨CD,F⟩|⟨CD,F⟩
   ·refine ct CD (ag (pM J Y (pm BD ?_)));refine aq [BD] (aS rfl (oc BN)) (by rfl) (dt rfl) rfl (dt rfl) S (dt rfl) ?_;intro HR HS S FL;have BX:=ak FL BX;obtain ⟨HT,FM,F⟩:=ob F;have Dv:=S.boxRow 0 rfl;replace S:Sat D HR [Own (aA (roR D R0_) 28) [J] U,Box HS 28 [BD]]:=S.top 1 rfl;replace S:=S.roOne (R:=R0_) (W:=D) BN;replace S:=S.one;refine aB rfl (dt rfl) rfl (dt rfl) S rfl rfl rfl (by simp) Dv FM (dt rfl) ?_;intro Ku D9 S;refine pa D9 (ah (bn Bv (tn Bi ?_)));replace S:=S.keep 1;exact ⟨CB,C7,Bh,Bk,D9,HT,rfl,Bd,rfl,S,CC,Bf,F⟩
   refine cf CD (aT (bn Bv (tn Bi ?_)));replace S:=S.keep 1;exact ⟨CB,C7,Bh,Bk,J,U,rfl,Bd,Y,S,CC,Bf,F⟩
  refine ei Bx (pM Bh Bd (ei Bx (pe (i_ (Bk.length:Int)) (au rfl Bf) (ei Bx (pe (.bool (decide (0 < (Bk.length:Int)))) (bo rfl rfl) (pe (.bool (decide (0 < (Bk.length:Int)))) (aC rfl Bx rfl) (en DI ?_)))))));rcases oif F with ⟨B8,F⟩|⟨B8,F⟩
  ·refine ct B8 (sn CV ?_);refine bg fun _ Bw=>?_;refine sR fun _ HU=>?_;refine pa (i_ 0) (en HU ?_);refine sg fun _ Ea=>?_;refine bg fun _ Eb=>?_;refine sR fun _ HV=>?_;refine pM Bg Z (pe (i_ (Bj.length:Int)) (au rfl Be) (pe (.bool ((Bj.length:Int) == 0)) (bD rfl rfl) (pa (.bool ((Bj.length:Int) == 0)) (en HV ?_))));rcases oif F with ⟨CE,F⟩|⟨CE,F⟩
   ·refine ct CE (ag (pa (i_ 1) (ah (bn Eb (tn Ea ?_)))));refine sR fun _ HW=>?_;refine aQ bR S (dt rfl) ?_;intro C8 HX S Ja;refine pa HX (en HW ?_);refine sg fun _ Ec=>?_;refine sg fun _ HY=>?_;replace S:Sat D C8 [Own (aA (roR D R0_) 28) [J] U]:=S.rems 2 [0] rfl;refine ag (pm (i_ 1) (pe (.bool (decide (0 < (1:Int)))) (bo rfl rfl) (en HY ?_)));rcases oif F with ⟨CF,F⟩|⟨CF,F⟩
    ·refine ct CF ?_;refine sR fun _ HZ=>?_;refine pM Bh Bd ?_;obtain ⟨Kv,FN,F⟩:=ob F;refine aI (wA:=D) rfl Bf rfl (dt rfl) rfl FN (dt rfl) ?_;intro Kw Jb Kx BO FO;obtain ⟨BE,rfl⟩:=ax BO;refine pe BE (ac rfl ((ak S.below FO) 0 _ rfl)) (pa BE (en HZ (ag (pM Bh Bd ?_))));obtain ⟨C9,FP,F⟩:=ob F;refine dH (wA:=D) rfl rfl Bf (.inl (congrArg some rfl)) (.inr ⟨rfl,rfl⟩) FP (dt rfl) ?_;intro CG CH;refine pa CG (en Ec ?_);refine sR fun _ Ed=>?_;refine pM J Y (pe (i_ (U.length:Int)) (au rfl (S.rdAt (R:=(aA (roR D R0_) 28)) 0 rfl)) (pe (.bool ((U.length:Int) == 0)) (bD rfl rfl) (pm (.bool ((U.length:Int) == 0)) ?_)));rcases oif F with ⟨Br,F⟩|⟨Br,F⟩
     ·refine eo Br (eo Br (eo Br (eo Br (eo Br (eo Br (eo Br (eo Br (eo Br (pe (.bool true) (av rfl Br rfl) (en Ed (ct rfl (ag (pM J Y (pm BE ?_))))))))))))));refine aq [BE] (aS rfl (oc BO)) (by rfl) (dt rfl) rfl (dt rfl) S (dt rfl) ?_;intro H0 H1 S Jc;obtain ⟨H2,FQ,F⟩:=ob F;have Dw:=S.boxRow 0 rfl;replace S:Sat D H0 [Own (aA (roR D R0_) 28) [J] U,Box H1 28 [BE]]:=S.top 1 rfl;replace S:=S.roOne (R:=R0_) (W:=D) BO;replace S:=S.one;refine aB rfl (dt rfl) rfl (dt rfl) S rfl rfl rfl (by simp) Dw FQ (dt rfl) ?_;intro Ky Ee S;refine pa Ee (ah (bn Bw (tn Bi ?_)));replace S:=S.keep 1;exact ⟨Bg,Bj,CG,C9,Ee,H2,Z,rfl,rfl,S,Be,CH,F⟩
     refine ei Br (pM J Y (ei Br (pM J Y (ei Br (pe (i_ (U.length:Int)) (au rfl (S.rdAt (R:=(aA (roR D R0_) 28)) 0 rfl)) (ei Br ?_))))));obtain ⟨H3,FR,F⟩:=ob F;refine pe (i_ H3) (cQ rfl rfl FR) (ei Br ?_);obtain ⟨Kz,FS,F⟩:=ob F;refine aI (wA:=C8) rfl (S.rdAt (R:=(aA (roR D R0_) 28)) 0 rfl) rfl (dt rfl) rfl FS (dt rfl) ?_;intro KA Jd KB B9 BY;replace B9:R0_.rd D _ _:=B9;obtain ⟨H4,rfl⟩:=ax B9;refine ei Br (pe H4 (ac rfl (BY 0 _ rfl)) (ei Br (pm BE (ei Br ?_))));obtain ⟨Ef,FT,F⟩:=ob F;refine ec0 gz (bw (S.up B9) (S.up BO) FT) (ca (ai rfl (ai rfl rfl))) S fun KC FU S=>?_;have BY:=ak FU BY;refine ei Br (pe (.bool (Ef != 0)) (da rfl rfl) (pe (.bool (Ef != 0)) (aC rfl Br rfl) (en Ed ?_)));rcases oif F with ⟨CI,F⟩|⟨CI,F⟩
     ·refine ct CI (ag (pM J Y (pm BE ?_)));refine aq [BE] (aS rfl (oc BO)) (by rfl) (dt rfl) rfl (dt rfl) S (dt rfl) ?_;intro H5 H6 S FV;have BY:=ak FV BY;obtain ⟨H7,FW,F⟩:=ob F;have Dx:=S.boxRow 0 rfl;replace S:Sat D H5 [Own (aA (roR D R0_) 28) [J] U,Box H6 28 [BE]]:=S.top 1 rfl;replace S:=S.roOne (R:=R0_) (W:=D) BO;replace S:=S.one;refine aB rfl (dt rfl) rfl (dt rfl) S rfl rfl rfl (by simp) Dx FW (dt rfl) ?_;intro KD Eg S;refine pa Eg (ah (bn Bw (tn Bi ?_)));replace S:=S.keep 1;exact ⟨Bg,Bj,CG,C9,Eg,H7,Z,rfl,rfl,S,Be,CH,F⟩
     refine cf CI (aT (bn Bw (tn Bi ?_)));replace S:=S.keep 1;exact ⟨Bg,Bj,CG,C9,J,U,Z,rfl,Y,S,Be,CH,F⟩
    refine cf CF ?_;refine sR fun _ H8=>?_;refine pM Bg Z ?_;obtain ⟨KE,FX,F⟩:=ob F;refine aI (wA:=D) rfl Be rfl (dt rfl) rfl FX (dt rfl) ?_;intro KF Je KG BP FY;obtain ⟨BF,rfl⟩:=ax BP;refine pe BF (ac rfl ((ak S.below FY) 0 _ rfl)) (pa BF (en H8 (ag (pM Bg Z ?_))));obtain ⟨Da,FZ,F⟩:=ob F;refine dH (wA:=D) rfl rfl Be (.inl (congrArg some rfl)) (.inr ⟨rfl,rfl⟩) FZ (dt rfl) ?_;intro CJ CK;refine pa CJ (en Ec ?_);refine sR fun _ Eh=>?_;refine pM J Y (pe (i_ (U.length:Int)) (au rfl (S.rdAt (R:=(aA (roR D R0_) 28)) 0 rfl)) (pe (.bool ((U.length:Int) == 0)) (bD rfl rfl) (pm (.bool ((U.length:Int) == 0)) ?_)));rcases oif F with ⟨Bs,F⟩|⟨Bs,F⟩
    ·refine eo Bs (eo Bs (eo Bs (eo Bs (eo Bs (eo Bs (eo Bs (eo Bs (eo Bs (pe (.bool true) (av rfl Bs rfl) (en Eh (ct rfl (ag (pM J Y (pm BF ?_))))))))))))));refine aq [BF] (aS rfl (oc BP)) (by rfl) (dt rfl) rfl (dt rfl) S (dt rfl) ?_;intro H9 Ia S Jf;obtain ⟨Ib,F0,F⟩:=ob F;have Dy:=S.boxRow 0 rfl;replace S:Sat D H9 [Own (aA (roR D R0_) 28) [J] U,Box Ia 28 [BF]]:=S.top 1 rfl;replace S:=S.roOne (R:=R0_) (W:=D) BP;replace S:=S.one;refine aB rfl (dt rfl) rfl (dt rfl) S rfl rfl rfl (by simp) Dy F0 (dt rfl) ?_;intro KH Ei S;refine pa Ei (ah (bn Bw (tn Bi ?_)));replace S:=S.keep 1;exact ⟨CJ,Da,Bh,Bk,Ei,Ib,rfl,Bd,rfl,S,CK,Bf,F⟩
    refine ei Bs (pM J Y (ei Bs (pM J Y (ei Bs (pe (i_ (U.length:Int)) (au rfl (S.rdAt (R:=(aA (roR D R0_) 28)) 0 rfl)) (ei Bs ?_))))));obtain ⟨Ic,F3,F⟩:=ob F;refine pe (i_ Ic) (cQ rfl rfl F3) (ei Bs ?_);obtain ⟨KI,F4,F⟩:=ob F;refine aI (wA:=C8) rfl (S.rdAt (R:=(aA (roR D R0_) 28)) 0 rfl) rfl (dt rfl) rfl F4 (dt rfl) ?_;intro KJ Jg KK Ca BZ;replace Ca:R0_.rd D _ _:=Ca;obtain ⟨Id,rfl⟩:=ax Ca;refine ei Bs (pe Id (ac rfl (BZ 0 _ rfl)) (ei Bs (pm BF (ei Bs ?_))));obtain ⟨Ej,F5,F⟩:=ob F;refine ec0 gz (bw (S.up Ca) (S.up BP) F5) (ca (ai rfl (ai rfl rfl))) S fun KL F6 S=>?_;have BZ:=ak F6 BZ;refine ei Bs (pe (.bool (Ej != 0)) (da rfl rfl) (pe (.bool (Ej != 0)) (aC rfl Bs rfl) (en Eh ?_)));rcases oif F with ⟨CL,F⟩|⟨CL,F⟩
    ·refine ct CL (ag (pM J Y (pm BF ?_)));refine aq [BF] (aS rfl (oc BP)) (by rfl) (dt rfl) rfl (dt rfl) S (dt rfl) ?_;intro Ie If S F7;have BZ:=ak F7 BZ;obtain ⟨Ig,F8,F⟩:=ob F;have Dz:=S.boxRow 0 rfl;replace S:Sat D Ie [Own (aA (roR D R0_) 28) [J] U,Box If 28 [BF]]:=S.top 1 rfl;replace S:=S.roOne (R:=R0_) (W:=D) BP;replace S:=S.one;refine aB rfl (dt rfl) rfl (dt rfl) S rfl rfl rfl (by simp) Dz F8 (dt rfl) ?_;intro KM Ek S;refine pa Ek (ah (bn Bw (tn Bi ?_)));replace S:=S.keep 1;exact ⟨CJ,Da,Bh,Bk,Ek,Ig,rfl,Bd,rfl,S,CK,Bf,F⟩
    refine cf CL (aT (bn Bw (tn Bi ?_)));replace S:=S.keep 1;exact ⟨CJ,Da,Bh,Bk,J,U,rfl,Bd,Y,S,CK,Bf,F⟩
   refine cf CE ?_;refine sR fun _ Ih=>?_;refine pM Bh Bd (pe (i_ (Bk.length:Int)) (au rfl Bf) (pe (.bool (decide (0 < (Bk.length:Int)))) (bo rfl rfl) (pa (.bool (decide (0 < (Bk.length:Int)))) (en Ih (ct B8 ?_)))));refine bJ (by kernel_rfl) (by kernel_rfl) ?_;refine qM Bg Z ?_;obtain ⟨KN,F9,F⟩:=ob F;refine aY (wA:=D) rfl Be rfl (dt rfl) rfl F9 (dt rfl) ?_;intro KO Jh KP Di Ga;obtain ⟨Ii,rfl⟩:=ax Di;refine qe Ii (ac rfl ((ak S.below Ga) 0 _ rfl)) (qM Bh Bd ?_);obtain ⟨KR,Gb,F⟩:=ob F;refine aY (wA:=D) rfl Bf rfl (dt rfl) rfl Gb (dt rfl) ?_;intro KS Ji KT Dj Gc;obtain ⟨Ij,rfl⟩:=ax Dj;refine qe Ij (ac rfl ((ak S.below Gc) 0 _ rfl)) ?_;obtain ⟨CM,Gd,F⟩:=ob F;refine cR (i_ CM) gz (fun w' hw'=>bw (bE (S.up Di) hw') (bE (S.up Dj) hw') Gd) (ca (ai rfl (ai rfl rfl))) (dt rfl) ?_;refine qe (i_ CM) (de rfl) (bh ?_);intro KU Ge;replace S:=S.ext Ge;refine bn Eb (tn Ea ?_);refine sR fun _ Ik=>?_;refine aQ bR S (dt rfl) ?_;intro Db Il S Jj;refine pa Il (en Ik ?_);refine sg fun _ El=>?_;refine sg fun _ Im=>?_;replace S:Sat D Db [Own (aA (roR D R0_) 28) [J] U]:=S.rems 2 [0] rfl;refine ag (pm (i_ CM) (pe (.bool (decide (0 < CM))) (bo rfl rfl) (en Im ?_)));rcases oif F with ⟨CN,F⟩|⟨CN,F⟩
   ·refine ct CN ?_;refine sR fun _ In=>?_;refine pM Bh Bd ?_;obtain ⟨KV,Gf,F⟩:=ob F;refine aI (wA:=D) rfl Bf rfl (dt rfl) rfl Gf (dt rfl) ?_;intro KW Jk KX BQ Gg;obtain ⟨BG,rfl⟩:=ax BQ;refine pe BG (ac rfl ((ak S.below Gg) 0 _ rfl)) (pa BG (en In (ag (pM Bh Bd ?_))));obtain ⟨Dc,Gh,F⟩:=ob F;refine dH (wA:=D) rfl rfl Bf (.inl (congrArg some rfl)) (.inr ⟨rfl,rfl⟩) Gh (dt rfl) ?_;intro CO CP;refine pa CO (en El ?_);refine sR fun _ Em=>?_;refine pM J Y (pe (i_ (U.length:Int)) (au rfl (S.rdAt (R:=(aA (roR D R0_) 28)) 0 rfl)) (pe (.bool ((U.length:Int) == 0)) (bD rfl rfl) (pm (.bool ((U.length:Int) == 0)) ?_)));rcases oif F with ⟨Bt,F⟩|⟨Bt,F⟩
    ·refine eo Bt (eo Bt (eo Bt (eo Bt (eo Bt (eo Bt (eo Bt (eo Bt (eo Bt (pe (.bool true) (av rfl Bt rfl) (en Em (ct rfl (ag (pM J Y (pm BG ?_))))))))))))));refine aq [BG] (aS rfl (oc BQ)) (by rfl) (dt rfl) rfl (dt rfl) S (dt rfl) ?_;intro Io Ip S Jl;obtain ⟨Iq,Gi,F⟩:=ob F;have DA:=S.boxRow 0 rfl;replace S:Sat D Io [Own (aA (roR D R0_) 28) [J] U,Box Ip 28 [BG]]:=S.top 1 rfl;replace S:=S.roOne (R:=R0_) (W:=D) BQ;replace S:=S.one;refine aB rfl (dt rfl) rfl (dt rfl) S rfl rfl rfl (by simp) DA Gi (dt rfl) ?_;intro KY En S;refine pa En (ah (bn Bw (tn Bi ?_)));replace S:=S.keep 1;exact ⟨Bg,Bj,CO,Dc,En,Iq,Z,rfl,rfl,S,Be,CP,F⟩
    refine ei Bt (pM J Y (ei Bt (pM J Y (ei Bt (pe (i_ (U.length:Int)) (au rfl (S.rdAt (R:=(aA (roR D R0_) 28)) 0 rfl)) (ei Bt ?_))))));obtain ⟨Ir,Gj,F⟩:=ob F;refine pe (i_ Ir) (cQ rfl rfl Gj) (ei Bt ?_);obtain ⟨KZ,Gk,F⟩:=ob F;refine aI (wA:=Db) rfl (S.rdAt (R:=(aA (roR D R0_) 28)) 0 rfl) rfl (dt rfl) rfl Gk (dt rfl) ?_;intro K0 Jm K3 Cb B0;replace Cb:R0_.rd D _ _:=Cb;obtain ⟨Is,rfl⟩:=ax Cb;refine ei Bt (pe Is (ac rfl (B0 0 _ rfl)) (ei Bt (pm BG (ei Bt ?_))));obtain ⟨Eo,Gl,F⟩:=ob F;refine ec0 gz (bw (S.up Cb) (S.up BQ) Gl) (ca (ai rfl (ai rfl rfl))) S fun K4 Gm S=>?_;have B0:=ak Gm B0;refine ei Bt (pe (.bool (Eo != 0)) (da rfl rfl) (pe (.bool (Eo != 0)) (aC rfl Bt rfl) (en Em ?_)));rcases oif F with ⟨CQ,F⟩|⟨CQ,F⟩
    ·refine ct CQ (ag (pM J Y (pm BG ?_)));refine aq [BG] (aS rfl (oc BQ)) (by rfl) (dt rfl) rfl (dt rfl) S (dt rfl) ?_;intro It Iu S Gn;have B0:=ak Gn B0;obtain ⟨Iv,Gp,F⟩:=ob F;have DB:=S.boxRow 0 rfl;replace S:Sat D It [Own (aA (roR D R0_) 28) [J] U,Box Iu 28 [BG]]:=S.top 1 rfl;replace S:=S.roOne (R:=R0_) (W:=D) BQ;replace S:=S.one;refine aB rfl (dt rfl) rfl (dt rfl) S rfl rfl rfl (by simp) DB Gp (dt rfl) ?_;intro K5 Ep S;refine pa Ep (ah (bn Bw (tn Bi ?_)));replace S:=S.keep 1;exact ⟨Bg,Bj,CO,Dc,Ep,Iv,Z,rfl,rfl,S,Be,CP,F⟩
    refine cf CQ (aT (bn Bw (tn Bi ?_)));replace S:=S.keep 1;exact ⟨Bg,Bj,CO,Dc,J,U,Z,rfl,Y,S,Be,CP,F⟩
   refine cf CN ?_;refine sR fun _ Iw=>?_;refine pM Bg Z ?_;obtain ⟨K6,Gq,F⟩:=ob F;refine aI (wA:=D) rfl Be rfl (dt rfl) rfl Gq (dt rfl) ?_;intro K7 Jn K8 BR Gr;obtain ⟨BH,rfl⟩:=ax BR;refine pe BH (ac rfl ((ak S.below Gr) 0 _ rfl)) (pa BH (en Iw (ag (pM Bg Z ?_))));obtain ⟨Dd,Gs,F⟩:=ob F;refine dH (wA:=D) rfl rfl Be (.inl (congrArg some rfl)) (.inr ⟨rfl,rfl⟩) Gs (dt rfl) ?_;intro CR CS;refine pa CR (en El ?_);refine sR fun _ Er=>?_;refine pM J Y (pe (i_ (U.length:Int)) (au rfl (S.rdAt (R:=(aA (roR D R0_) 28)) 0 rfl)) (pe (.bool ((U.length:Int) == 0)) (bD rfl rfl) (pm (.bool ((U.length:Int) == 0)) ?_)));rcases oif F with ⟨Bu,F⟩|⟨Bu,F⟩
   ·refine eo Bu (eo Bu (eo Bu (eo Bu (eo Bu (eo Bu (eo Bu (eo Bu (eo Bu (pe (.bool true) (av rfl Bu rfl) (en Er (ct rfl (ag (pM J Y (pm BH ?_))))))))))))));refine aq [BH] (aS rfl (oc BR)) (by rfl) (dt rfl) rfl (dt rfl) S (dt rfl) ?_;intro Ix Iy S Jo;obtain ⟨Iz,Gt,F⟩:=ob F;have DC:=S.boxRow 0 rfl;replace S:Sat D Ix [Own (aA (roR D R0_) 28) [J] U,Box Iy 28 [BH]]:=S.top 1 rfl;replace S:=S.roOne (R:=R0_) (W:=D) BR;replace S:=S.one;refine aB rfl (dt rfl) rfl (dt rfl) S rfl rfl rfl (by simp) DC Gt (dt rfl) ?_;intro K9 Es S;refine pa Es (ah (bn Bw (tn Bi ?_)));replace S:=S.keep 1;exact ⟨CR,Dd,Bh,Bk,Es,Iz,rfl,Bd,rfl,S,CS,Bf,F⟩
   refine ei Bu (pM J Y (ei Bu (pM J Y (ei Bu (pe (i_ (U.length:Int)) (au rfl (S.rdAt (R:=(aA (roR D R0_) 28)) 0 rfl)) (ei Bu ?_))))));obtain ⟨IA,Gu,F⟩:=ob F;refine pe (i_ IA) (cQ rfl rfl Gu) (ei Bu ?_);obtain ⟨La,Gv,F⟩:=ob F;refine aI (wA:=Db) rfl (S.rdAt (R:=(aA (roR D R0_) 28)) 0 rfl) rfl (dt rfl) rfl Gv (dt rfl) ?_;intro Lb Jp Lc Cc B1;replace Cc:R0_.rd D _ _:=Cc;obtain ⟨IB,rfl⟩:=ax Cc;refine ei Bu (pe IB (ac rfl (B1 0 _ rfl)) (ei Bu (pm BH (ei Bu ?_))));obtain ⟨Et,Gw,F⟩:=ob F;refine ec0 gz (bw (S.up Cc) (S.up BR) Gw) (ca (ai rfl (ai rfl rfl))) S fun Ld Gx S=>?_;have B1:=ak Gx B1;refine ei Bu (pe (.bool (Et != 0)) (da rfl rfl) (pe (.bool (Et != 0)) (aC rfl Bu rfl) (en Er ?_)));rcases oif F with ⟨CT,F⟩|⟨CT,F⟩
   ·refine ct CT (ag (pM J Y (pm BH ?_)));refine aq [BH] (aS rfl (oc BR)) (by rfl) (dt rfl) rfl (dt rfl) S (dt rfl) ?_;intro IC ID S Gy;have B1:=ak Gy B1;obtain ⟨IE,Gz,F⟩:=ob F;have DD:=S.boxRow 0 rfl;replace S:Sat D IC [Own (aA (roR D R0_) 28) [J] U,Box ID 28 [BH]]:=S.top 1 rfl;replace S:=S.roOne (R:=R0_) (W:=D) BR;replace S:=S.one;refine aB rfl (dt rfl) rfl (dt rfl) S rfl rfl rfl (by simp) DD Gz (dt rfl) ?_;intro Le Eu S;refine pa Eu (ah (bn Bw (tn Bi ?_)));replace S:=S.keep 1;exact ⟨CR,Dd,Bh,Bk,Eu,IE,rfl,Bd,rfl,S,CS,Bf,F⟩
   refine cf CT (aT (bn Bw (tn Bi ?_)));replace S:=S.keep 1;exact ⟨CR,Dd,Bh,Bk,J,U,rfl,Bd,Y,S,CS,Bf,F⟩
  refine cf B8 (aF (tx CV (tx Bi ?_)));replace F:=exB F EH;refine bS GK (tn GJ ?_);refine sR fun _ IF=>?_;refine pM J Y (pa J (en IF (aj (aK rfl rfl ?_))));have hr:=Option.some.inj F;exact ⟨J,congrArg (fun (r:T1_)=>Ending.returned (J)) hr,(S.rebase EF).below,Eq.mp (congrArg (fun (r:T1_)=>R3_.rd GM [J] r) hr :) (A2 S.below (S.rdAt (R:=(aA (roR D R0_) 28)) 0 rfl))⟩
theorem sE {w0 : World} {u0 : Value} {a0 : List T0_} (ha0 : R3_.rd w0 [u0] a0) {N : Nat} {r : T1_} (hF : fv N a0 = some r) :
    Calls Tryz.prog 108 #[u0] w0 fun e w' => ∃ (q0 : Value), e = .returned (q0) ∧ Ext w0 w' ∧ R3_.rd w' [q0] r := r4 N ha0 hF
theorem fR {w0:World} {a0:Int} {u1:Value} {a1:List T0_} (ha1:R3_.rd w0 [u1] a1) {N:Nat} {r:T4_ × Bool} (F:di N a0 a1=some r): Calls Tryz.prog 58 #[i_ a0,u1] w0 fun e w'=>∃ (q0:Value),e=.returned (.tuple #[.agg #[i_ r.1.1,q0],.bool r.2])∧Sat w0 w' [Own R3_ [q0] r.1.2] := by
 unfold di at F;refine aJ Tryz.func58 rfl rfl (dt rfl) ?_;have S:=Sat.start w0;refine sR fun _ BR=>?_;refine aM S (dt rfl) ?_;intro Cb Z S B6;refine pa (.bool false) (en BR ?_);refine sg fun _ Bn=>?_;refine sR fun _ BS=>?_;refine pa (i_ 0) (en BS ?_);refine bg fun _ Bo=>?_;obtain ⟨BT,hL,Bh⟩:=ob F;refine aH (fun k e w=>∃ (Bd:Int),e 0=i_ a0∧e 1=u1∧e 4=.pointer (some ⟨Z,0,none⟩)∧e 6=i_ Bd∧Sat w0 w [Box Z 39 [i_ 0,n_]]∧dn N k a0 a1 0 [] Bd=some BT) N ?_ ?_ ?_
 ·exact ⟨0,rfl,rfl,rfl,rfl,S,hL⟩
 ·rintro e w ⟨_,_,_,_,_,_,hz⟩; exact nomatch (show none=some _ from hz)
 rintro k Cc Cd ⟨Bd,Bi,Bf,Y,Bg,S,F⟩;refine gn fun _ Bj=>?_;refine sg fun _ By=>?_;refine sR fun _ BU=>?_;refine pM (i_ Bd) Bg (pM u1 Bf (pe (i_ (a1.length:Int)) (au rfl ha1) (pe (.bool (decide (Bd < (a1.length:Int)))) (aL rfl rfl) (en BU ?_))));rcases oif F with ⟨Bk,F⟩|⟨Bk,F⟩
 ·refine ct Bk (sn By ?_);refine sg fun _ Bp=>?_;refine bg fun _ Bq=>?_;refine sR fun _ Bz=>?_;refine pM u1 Bf (pM (i_ Bd) Bg ?_);obtain ⟨Br,BF,F⟩:=ob F;refine aI (wA:=w0) rfl ha1 rfl (dt rfl) rfl BF (dt rfl) ?_;intro Ce B7 Cf Bw BG;obtain ⟨BV,rfl⟩:=ax Bw;refine pe BV (ac rfl ((ak S.below BG) 0 _ rfl)) (pe (i_ (Br.length:Int)) (au rfl Bw) (pM (i_ a0) Bi (pe (.bool ((Br.length:Int) != a0)) (da rfl rfl) (pm (.bool ((Br.length:Int) != a0)) ?_))));rcases oif F with ⟨D,F⟩|⟨D,F⟩
  ·refine eo D (eo D (eo D (eo D (eo D (eo D (pe (.bool true) (av rfl D rfl) (en Bz (ct rfl ?_))))))));refine sR fun _ BW=>?_;refine pe (.agg #[i_ 0,n_]) (ba [] [i_ 0,n_] rfl rfl) ?_;refine ap (S.top 0 rfl) Y [i_ 0,n_] rfl rfl (dt rfl) (all_cons rfl (all_cons rfl rfl)) ?_;intro BA S;replace S:Sat w0 BA [Box Z 39 [i_ 0,n_]]:=S;refine pa (.bool false) (en BW (aj (br Bq (tr Bp (tr Bj (br Bo (tr Bn ?_)))))));replace F:=exL F Bh;replace S:=S.nil R0_ 28;refine dm (cs:=[i_ 0,n_]) rfl Y rfl (az (S.boxAt 1 rfl)) rfl ?_;have hr:=Option.some.inj F;exact ⟨n_,congrArg (fun (r:T4_ × Bool)=>Ending.returned (.tuple #[.agg #[i_ r.1.1,n_],.bool r.2])) hr,Eq.mp (congrArg (fun (r:T4_ × Bool)=>Sat w0 BA [Own R3_ [n_] r.1.2]) hr) (S.keep 1)⟩
  refine ei D (pM u1 Bf (ei D (pM (i_ Bd) Bg (ei D ?_))));obtain ⟨Cg,BH,F⟩:=ob F;refine aI (wA:=w0) rfl ha1 rfl (dt rfl) rfl BH (dt rfl) ?_;intro Ch B8 Ci Bx BI;obtain ⟨BX,rfl⟩:=ax Bx;refine ei D (pe BX (ac rfl ((ak S.below BI) 0 _ rfl)) (ei D ?_));obtain ⟨BB,BJ,F⟩:=ob F;refine ec0 w8 (kj (S.up Bx) BJ) (ca (ai rfl rfl)) S fun Cj B9 S=>?_;refine ei D (pe (.bool (!BB)) (a7 rfl) (pe (.bool (!BB)) (aC rfl D rfl) (en Bz ?_)));rcases oif F with ⟨Bl,F⟩|⟨Bl,F⟩
  ·refine cf (am Bl) (aT (bn Bq (tn Bp (ag (pM (i_ Bd) Bg ?_)))));obtain ⟨Bs,BK,F⟩:=ob F;refine pe (i_ Bs) (aD rfl rfl BK) (pa (i_ Bs) (en Bj ?_));replace S:=S.keep 1;exact ⟨Bs,Bi,Bf,Y,rfl,S,F⟩
  refine ct (an Bl) ?_;refine sR fun _ BY=>?_;refine pe (.agg #[i_ 0,n_]) (ba [] [i_ 0,n_] rfl rfl) ?_;refine ap (S.top 0 rfl) Y [i_ 0,n_] rfl rfl (dt rfl) (all_cons rfl (all_cons rfl rfl)) ?_;intro BC S;replace S:Sat w0 BC [Box Z 39 [i_ 0,n_]]:=S;refine pa (.bool false) (en BY (aj (br Bq (tr Bp (tr Bj (br Bo (tr Bn ?_)))))));replace F:=exL F Bh;replace S:=S.nil R0_ 28;refine dm (cs:=[i_ 0,n_]) rfl Y rfl (az (S.boxAt 1 rfl)) rfl ?_;have hr:=Option.some.inj F;exact ⟨n_,congrArg (fun (r:T4_ × Bool)=>Ending.returned (.tuple #[.agg #[i_ r.1.1,n_],.bool r.2])) hr,Eq.mp (congrArg (fun (r:T4_ × Bool)=>Sat w0 BC [Own R3_ [n_] r.1.2]) hr) (S.keep 1)⟩
 refine cf Bk (aF (tx By (tx Bj ?_)));replace F:=exA F Bh;refine bS Bo (tn Bn ?_);refine sR fun _ BZ=>?_;refine pM (i_ a0) Bi (pM u1 Bf ?_);obtain ⟨Ck,BL,F⟩:=ob F;refine aW sW (sE (S.up ha1) BL) (ca (ai rfl rfl)) (dt rfl) ?_;rintro _ Cl ⟨Bt,rfl,BM,Be⟩;refine ⟨_,rfl,?_⟩;replace S:=S.ext BM;refine pe (.agg #[i_ a0,Bt]) (ba [(0,[i_ a0]),(1,[Bt])] [i_ a0,Bt] (c8 rfl (c8 (aS rfl (oc Be)) rfl)) rfl) ?_;obtain ⟨U,BN,F⟩:=ob F;refine ec1 vo (ox Be BN) (ca (ai rfl rfl)) S fun Cm J BO S=>?_;have Be:=bE Be BO;refine aM S (dt rfl) ?_;intro Cn Bu S BP;have Be:=bE Be BP;refine ap (S.top 0 rfl) rfl [i_ U.1,J] rfl rfl (dt rfl) (all_cons rfl (all_cons (oc (S.rdAt (R:=R3_) 1 rfl)) rfl)) ?_;intro B0 S;replace S:Sat w0 B0 [Box Bu 39 [i_ U.1,J],Own R3_ [J] U.2,Box Z 39 [i_ 0,n_]]:=S;refine en BZ ?_;refine sg fun _ BD=>?_;refine sR fun _ B1=>?_;refine pe (.agg #[i_ U.1,J]) (aw (cs:=[i_ U.1,J]) rfl rfl (az (S.boxAt 0 rfl))) ?_;obtain ⟨B2,BQ,F⟩:=ob F;refine ec0 pX (eQ (S.rdAt (R:=R3_) 1 rfl) BQ) (ca (ai rfl rfl)) S fun B3 Ca S=>?_;refine pe (.bool (!B2)) (a7 rfl) (en B1 ?_);rcases oif F with ⟨Bm,F⟩|⟨Bm,F⟩
 ·refine cf (am Bm) (sn BD ?_);refine sR fun _ B4=>?_;refine pe (.agg #[i_ U.1,J]) (aw (cs:=[i_ U.1,J]) rfl rfl (az (S.boxAt 0 rfl))) ?_;refine ap (S.top 2 rfl) Y [i_ U.1,J] rfl rfl (dt rfl) (all_cons rfl (all_cons (oc (S.rdAt (R:=R3_) 1 rfl)) rfl)) ?_;intro Bv S;replace S:Sat w0 Bv [Box Z 39 [i_ U.1,J],Box Bu 39 [i_ U.1,J],Own R3_ [J] U.2]:=S;refine pa (.bool true) (en B4 (aj ?_));refine dm (cs:=[i_ U.1,J]) rfl Y rfl (az (S.boxAt 0 rfl)) rfl ?_;replace S:Sat w0 Bv [Own R3_ [J] U.2,Box Z 39 [i_ U.1,J],Box Bu 39 [i_ U.1,J]]:=S.tops 3 [2] rfl;have hr:=Option.some.inj F;exact ⟨J,congrArg (fun (r:T4_ × Bool)=>Ending.returned (.tuple #[.agg #[i_ r.1.1,J],.bool r.2])) hr,Eq.mp (congrArg (fun (r:T4_ × Bool)=>Sat w0 Bv [Own R3_ [J] r.1.2]) hr) (S.keep 1)⟩
 refine ct (an Bm) ?_;refine sg fun _ B5=>?_;replace S:Sat w0 B3 [Box Z 39 [i_ 0,n_]]:=S.rems 3 [0,1] rfl;refine ag (pe (.agg #[i_ 0,n_]) (ba [] [i_ 0,n_] rfl rfl) ?_);refine ap (S.top 0 rfl) Y [i_ 0,n_] rfl rfl (dt rfl) (all_cons rfl (all_cons rfl rfl)) ?_;intro BE S;replace S:Sat w0 BE [Box Z 39 [i_ 0,n_]]:=S;refine pa (.bool false) (en B5 (aj (tr BD ?_)));replace S:=S.nil R0_ 28;refine dm (cs:=[i_ 0,n_]) rfl Y rfl (az (S.boxAt 1 rfl)) rfl ?_;have hr:=Option.some.inj F;exact ⟨n_,congrArg (fun (r:T4_ × Bool)=>Ending.returned (.tuple #[.agg #[i_ r.1.1,n_],.bool r.2])) hr,Eq.mp (congrArg (fun (r:T4_ × Bool)=>Sat w0 BE [Own R3_ [n_] r.1.2]) hr) (S.keep 1)⟩
theorem sB {w0:World} {u0:Value} {a0:List Int} {u1:Value} {a1:List Int} (ha0:R0_.rd w0 [u0] a0) (ha1:R0_.rd w0 [u1] a1) {N:Nat} {r:T0_} (F:kE N a0 a1=some r): Calls Tryz.prog 119 #[u0,u1] w0 fun e w'=>∃ (q0:Value),e=.returned (q0)∧Sat w0 w' [Own R0_ [q0] r] := by
 unfold kE at F;refine aJ Tryz.func119 rfl rfl (dt rfl) ?_;have S:=Sat.start w0;refine sR fun _ Bx=>?_;refine pa n_ (en Bx ?_);refine sR fun _ By=>?_;refine aQ bR S (dt rfl) ?_;intro BQ Bk S BM;refine pa Bk (en By ?_);refine sg fun _ Bz=>?_;refine sR fun _ BA=>?_;refine pa (i_ 0) (en BA ?_);refine bg fun _ BB=>?_;obtain ⟨BC,hL,Bo⟩:=ob F;refine aH (fun k e w=>∃ (D:Value),∃ (U:List Int),∃ (J:Int),e 0=u0∧e 1=u1∧e 5=D∧e 6=i_ J∧Sat w0 w [Own R0_ [D] U]∧eG N k a0 a1 U J=some BC) N ?_ ?_ ?_
 ·exact ⟨Bk,[],0,rfl,rfl,rfl,rfl,S,hL⟩
 ·rintro e w ⟨_,_,_,_,_,_,_,_,hz⟩; exact nomatch (show none=some _ from hz)
 rintro k BR BD ⟨D,U,J,Bh,Y,Bi,Z,S,F⟩;refine gn fun _ Bl=>?_;refine sg fun _ Bm=>?_;refine sR fun _ BE=>?_;refine pM (i_ J) Z (pM u1 Y (pe (i_ (a1.length:Int)) (au rfl ha1) (pe (.bool (decide (J < (a1.length:Int)))) (aL rfl rfl) (en BE ?_))));rcases oif F with ⟨Bd,F⟩|⟨Bd,F⟩
 ·refine ct Bd (sn Bm ?_);refine sg fun _ BF=>?_;refine bg fun _ BG=>?_;refine ag (pM D Bi (pM u0 Bh (pM u1 Y (pM (i_ J) Z ?_))));obtain ⟨BH,Bp,F⟩:=ob F;refine aI (wA:=w0) rfl ha1 rfl (dt rfl) rfl Bp (dt rfl) ?_;intro BS BN BT Bq Br;obtain rfl:=Bq;refine pe (i_ BH) (ac rfl ((ak S.below Br) 0 _ rfl)) ?_;obtain ⟨Be,Bs,F⟩:=ob F;refine aI (wA:=w0) rfl ha0 rfl (dt rfl) rfl Bs (dt rfl) ?_;intro BU BO BV Bt Bu;obtain rfl:=Bt;refine pe (i_ Be) (ac rfl ((ak S.below Bu) 0 _ rfl)) ?_;refine aq [i_ Be] rfl (by rfl) (dt rfl) rfl (dt rfl) S (dt rfl) ?_;intro BI BJ S BP;obtain ⟨Bn,Bv,F⟩:=ob F;have Bj:=S.boxRow 0 rfl;replace S:Sat w0 BI [Own R0_ [D] U,Box BJ 3 [i_ Be]]:=S.top 1 rfl;replace S:=S.int Be;replace S:=S.one;refine aB rfl (dt rfl) rfl (dt rfl) S rfl rfl rfl (by simp) Bj Bv (dt rfl) ?_;intro BK Bf S;refine pa Bf (ah (bn BG (tn BF ?_)));replace S:Sat w0 BK [Own R0_ [Bf] Bn]:=S.rems 2 [1] rfl;refine ag (pM (i_ J) Z ?_);obtain ⟨Bg,Bw,F⟩:=ob F;refine pe (i_ Bg) (aD rfl rfl Bw) (pa (i_ Bg) (en Bl ?_));replace S:=S.keep 1;exact ⟨Bf,Bn,Bg,Bh,Y,rfl,rfl,S,F⟩
 refine cf Bd (aF (tx Bm (tx Bl ?_)));replace F:=exB F Bo;refine bS BB (tn Bz ?_);refine sR fun _ BL=>?_;refine pM D Bi (pa D (en BL (aj (aK rfl rfl ?_))));have hr:=Option.some.inj F;exact ⟨D,congrArg (fun (r:T0_)=>Ending.returned (D)) hr,Eq.mp (congrArg (fun (r:T0_)=>Sat w0 BD [Own R0_ [D] r]) hr) (S.keep 1)⟩
theorem nz {w0:World} {a0:Int} {u1:Value} {a1:List T0_} {u2:Value} {a2:List Int} (ha1:R3_.rd w0 [u1] a1) (ha2:R0_.rd w0 [u2] a2) {N:Nat} {r:T4_ × Bool} (F:hY N a0 a1 a2=some r): Calls Tryz.prog 71 #[.agg #[i_ a0,u1],u2] w0 fun e w'=>∃ (q0:Value),e=.returned (.tuple #[.agg #[i_ r.1.1,q0],.bool r.2])∧Sat w0 w' [Own R3_ [q0] r.1.2] := by
 unfold hY at F;refine aJ Tryz.func71 rfl rfl (dt rfl) ?_;have S:=Sat.start w0;refine sR fun _ Ce=>?_;refine bl [i_ a0,u1] rfl S (dt rfl) ?_;intro CM Bd S CC;refine aM S (dt rfl) ?_;intro CN U S CD;refine pa (.bool false) (en Ce ?_);refine sg fun _ BF=>?_;refine sR fun _ Cf=>?_;refine pa (i_ 0) (en Cf ?_);refine bg fun _ BG=>?_;obtain ⟨Cg,hL,BB⟩:=ob F;refine aH (fun k e w=>∃ (Bf:Int),e 1=u2∧e 2=.pointer (some ⟨Bd,0,none⟩)∧e 4=.pointer (some ⟨U,0,none⟩)∧e 6=i_ Bf∧Sat w0 w [Box U 39 [i_ 0,n_],Box Bd 39 [i_ a0,u1]]∧ee N k a2 a0 a1 0 [] Bf=some Cg) N ?_ ?_ ?_
 ·exact ⟨0,rfl,rfl,rfl,rfl,S,hL⟩
 ·rintro e w ⟨_,_,_,_,_,_,hz⟩; exact nomatch (show none=some _ from hz)
 rintro k CO CP ⟨Bf,Bi,Bj,Z,Bl,S,F⟩;refine gn fun _ Bv=>?_;refine sg fun _ BH=>?_;refine sR fun _ Ch=>?_;refine pM (i_ Bf) Bl (pM u2 Bi (pe (i_ (a2.length:Int)) (au rfl ha2) (pe (.bool (decide (Bf < (a2.length:Int)))) (aL rfl rfl) (en Ch ?_))));rcases oif F with ⟨Bm,F⟩|⟨Bm,F⟩
 ·refine ct Bm (sn BH ?_);refine sg fun _ BI=>?_;refine bg fun _ BJ=>?_;refine sg fun _ Ci=>?_;refine bJ (by kernel_rfl) (by kernel_rfl) ?_;refine qM u2 Bi (qM (i_ Bf) Bl ?_);obtain ⟨Cj,BZ,F⟩:=ob F;refine aY (wA:=w0) rfl ha2 rfl (dt rfl) rfl BZ (dt rfl) ?_;intro CQ CE CR B0 B1;obtain rfl:=B0;refine qe (i_ Cj) (ac rfl ((ak S.below B1) 0 _ rfl)) (qe (.pointer (some ⟨Bd,0 + 0,none⟩)) (ae Bj) (qe (i_ a0) (ac rfl ((S.boxAt 1 rfl) 0 _ rfl)) ?_));obtain ⟨Ck,B2,F⟩:=ob F;refine qe (i_ Ck) (cQ rfl rfl B2) ?_;obtain ⟨BK,B3,F⟩:=ob F;refine cR (.bool BK) jK (fun w' hw'=>ek B3) (ca (ai rfl (ai rfl (ai rfl rfl)))) (dt rfl) ?_;refine qe (.bool (!BK)) (a7 rfl) (bh ?_);intro Cl B4;replace S:=S.ext B4;refine tn Ci ?_;rcases oif F with ⟨Bn,F⟩|⟨Bn,F⟩
  ·refine cf (am Bn) (aT (bn BJ (tn BI (ag (pM (i_ Bf) Bl ?_)))));obtain ⟨Bw,B5,F⟩:=ob F;refine pe (i_ Bw) (aD rfl rfl B5) (pa (i_ Bw) (en Bv ?_));replace S:=S.keep 2;exact ⟨Bw,Bi,Bj,Z,rfl,S,F⟩
  refine ct (an Bn) ?_;refine sg fun _ Cm=>?_;replace S:Sat w0 Cl [Box U 39 [i_ 0,n_]]:=S.rems 2 [1] rfl;refine ag (pe (.agg #[i_ 0,n_]) (ba [] [i_ 0,n_] rfl rfl) ?_);refine ap (S.top 0 rfl) Z [i_ 0,n_] rfl rfl (dt rfl) (all_cons rfl (all_cons rfl rfl)) ?_;intro BL S;replace S:Sat w0 BL [Box U 39 [i_ 0,n_]]:=S;refine pa (.bool false) (en Cm (aj (br BJ (tr BI (tr Bv (br BG (tr BF ?_)))))));replace F:=exL F BB;replace S:=S.nil R0_ 28;refine dm (cs:=[i_ 0,n_]) rfl Z rfl (az (S.boxAt 1 rfl)) rfl ?_;have hr:=Option.some.inj F;exact ⟨n_,congrArg (fun (r:T4_ × Bool)=>Ending.returned (.tuple #[.agg #[i_ r.1.1,n_],.bool r.2])) hr,Eq.mp (congrArg (fun (r:T4_ × Bool)=>Sat w0 BL [Own R3_ [n_] r.1.2]) hr) (S.keep 1)⟩
 refine cf Bm (aF (tx BH (tx Bv ?_)));replace F:=exA F BB;refine bS BG (tn BF ?_);refine sg fun _ Bx=>?_;refine sR fun _ BM=>?_;refine pe (.agg #[i_ a0,u1]) (aw (cs:=[i_ a0,u1]) Bj rfl (az (S.boxAt 1 rfl))) ?_;obtain ⟨BN,B6,F⟩:=ob F;refine ec0 pX (eQ (S.up ha1) B6) (ca (ai rfl rfl)) S fun BO CF S=>?_;refine pe (.bool (!BN)) (a7 rfl) (pm (.bool (!BN)) ?_);rcases oif F with ⟨Y,F⟩|⟨Y,F⟩
 ·refine ei (am Y) (pM u2 Bi (ei (am Y) (pe (i_ (a2.length:Int)) (au rfl ha2) (ei (am Y) (pe (.bool (decide (5 < (a2.length:Int)))) (bo rfl rfl) (pe (.bool (decide (5 < (a2.length:Int)))) (aC rfl (am Y) rfl) (en BM ?_)))))));rcases oif F with ⟨Bo,F⟩|⟨Bo,F⟩
  ·refine ct Bo ?_;refine sg fun _ Cn=>?_;replace S:Sat w0 BO [Box U 39 [i_ 0,n_]]:=S.rems 2 [1] rfl;refine ag (pe (.agg #[i_ 0,n_]) (ba [] [i_ 0,n_] rfl rfl) ?_);refine ap (S.top 0 rfl) Z [i_ 0,n_] rfl rfl (dt rfl) (all_cons rfl (all_cons rfl rfl)) ?_;intro BP S;replace S:Sat w0 BP [Box U 39 [i_ 0,n_]]:=S;refine pa (.bool false) (en Cn (aj (tr Bx ?_)));replace S:=S.nil R0_ 28;refine dm (cs:=[i_ 0,n_]) rfl Z rfl (az (S.boxAt 1 rfl)) rfl ?_;have hr:=Option.some.inj F;exact ⟨n_,congrArg (fun (r:T4_ × Bool)=>Ending.returned (.tuple #[.agg #[i_ r.1.1,n_],.bool r.2])) hr,Eq.mp (congrArg (fun (r:T4_ × Bool)=>Sat w0 BP [Own R3_ [n_] r.1.2]) hr) (S.keep 1)⟩
  refine cf Bo (sn Bx ?_);refine sR fun _ Co=>?_;refine aQ R0_ S (dt rfl) ?_;intro CS BQ S CG;refine pa BQ (en Co ?_);refine sg fun _ Cp=>?_;refine sR fun _ Cq=>?_;refine pa (i_ 0) (en Cq ?_);refine bg fun _ Cr=>?_;obtain ⟨Cs,hL,B7⟩:=ob F;refine aH (fun k e w=>∃ (Be:Value),∃ (Bg:List T0_),∃ (Bh:Int),e 1=u2∧e 2=.pointer (some ⟨Bd,0,none⟩)∧e 4=.pointer (some ⟨U,0,none⟩)∧e 7=Be∧e 8=i_ Bh∧Sat w0 w [Own R3_ [Be] Bg,Box U 39 [i_ 0,n_],Box Bd 39 [i_ a0,u1]]∧ef N k a2 a0 a1 0 [] Bg Bh=some Cs) N ?_ ?_ ?_
  ·exact ⟨BQ,[],0,Bi,Bj,Z,rfl,rfl,S,hL⟩
  ·rintro e w ⟨_,_,_,_,_,_,_,_,_,hz⟩; exact nomatch (show none=some _ from hz)
  rintro k CT Ct ⟨Be,Bg,Bh,Bp,Bq,Br,BC,Bs,S,F⟩;refine gn fun _ BR=>?_;refine sg fun _ BS=>?_;refine sR fun _ Cu=>?_;refine pM (i_ Bh) Bs (pe (.pointer (some ⟨Bd,0 + 1,none⟩)) (ae Bq) (pe u1 (ac rfl ((S.boxAt 2 rfl) 1 _ rfl)) (pe (i_ (a1.length:Int)) (au rfl ha1) (pe (.bool (decide (Bh < (a1.length:Int)))) (aL rfl rfl) (en Cu ?_)))));rcases oif F with ⟨Bt,F⟩|⟨Bt,F⟩
  ·refine ct Bt (sn BS ?_);refine sg fun _ Cv=>?_;refine bg fun _ Cw=>?_;refine ag (pM Be BC (pe (.pointer (some ⟨Bd,0 + 1,none⟩)) (ae Bq) (pe u1 (ac rfl ((S.boxAt 2 rfl) 1 _ rfl)) (pM (i_ Bh) Bs ?_))));obtain ⟨CU,B8,F⟩:=ob F;refine aI (wA:=w0) rfl ha1 rfl (dt rfl) rfl B8 (dt rfl) ?_;intro CV CH CX BD B9;obtain ⟨Cx,rfl⟩:=ax BD;refine pe Cx (ac rfl ((ak S.below B9) 0 _ rfl)) (pM u2 Bp ?_);obtain ⟨BT,Ca,F⟩:=ob F;refine ec1 y5 (sB (S.up BD) (S.up ha2) Ca) (ca (ai rfl (ai rfl rfl))) S fun CY Bk CI S=>?_;refine aq [Bk] (aS rfl (oc (S.rdAt (R:=R0_) 0 rfl))) (by rfl) (dt rfl) rfl (dt rfl) S (dt rfl) ?_;intro BU BV S CJ;obtain ⟨BW,Cb,F⟩:=ob F;have BE:=S.boxRow 0 rfl;replace S:Sat w0 BU [Own R3_ [Be] Bg,Box BV 28 [Bk],Own R0_ [Bk] BT,Box U 39 [i_ 0,n_],Box Bd 39 [i_ a0,u1]]:=S.top 2 rfl;replace S:Sat w0 BU [Own R0_ [Bk] BT,Own R3_ [Be] Bg,Box BV 28 [Bk],Box U 39 [i_ 0,n_],Box Bd 39 [i_ a0,u1]]:=S.top 2 rfl;replace S:=S.one;refine aB rfl (dt rfl) rfl (dt rfl) S rfl rfl rfl (by simp) BE Cb (dt rfl) ?_;intro Cy By S;refine pa By (ah (bn Cw (tn Cv ?_)));replace S:Sat w0 Cy [Own R3_ [By] BW,Box U 39 [i_ 0,n_],Box Bd 39 [i_ a0,u1]]:=S.rems 4 [1] rfl;refine ag (pM (i_ Bh) Bs ?_);obtain ⟨Bz,Cc,F⟩:=ob F;refine pe (i_ Bz) (aD rfl rfl Cc) (pa (i_ Bz) (en BR ?_));replace S:=S.keep 3;exact ⟨By,BW,Bz,Bp,Bq,Br,rfl,rfl,S,F⟩
  refine cf Bt (aF (tx BS (tx BR ?_)));replace F:=exB F B7;refine bS Cr (tn Cp ?_);refine sg fun _ Cz=>?_;replace S:Sat w0 Ct [Own R3_ [Be] Bg,Box U 39 [i_ 0,n_]]:=S.rems 3 [2] rfl;refine ag (pM u2 Bp (pe (i_ (a2.length:Int)) (au rfl ha2) (pM Be BC ?_)));obtain ⟨D,Cd,F⟩:=ob F;refine ec1 qb (fR (S.rdAt (R:=R3_) 0 rfl) Cd) (ca (ai rfl (ai rfl rfl))) S fun CZ J CK S=>?_;refine pm (.tuple #[.agg #[i_ D.1.1,J],.bool D.2]) (pe (.agg #[i_ D.1.1,J]) (ay rfl rfl) (pe (.bool D.2) (ay rfl rfl) ?_));refine aM S (dt rfl) ?_;intro C0 Bu S CL;refine ap (S.top 0 rfl) rfl [i_ D.1.1,J] rfl rfl (dt rfl) (all_cons rfl (all_cons (oc (S.rdAt (R:=R3_) 1 rfl)) rfl)) ?_;intro BX S;replace S:Sat w0 BX [Box Bu 39 [i_ D.1.1,J],Own R3_ [J] D.1.2,Own R3_ [Be] Bg,Box U 39 [i_ 0,n_]]:=S;refine pa (.bool D.2) (en Cz ?_);refine sg fun _ CA=>?_;replace S:Sat w0 BX [Box Bu 39 [i_ D.1.1,J],Own R3_ [J] D.1.2,Box U 39 [i_ 0,n_]]:=S.rems 4 [2] rfl;refine ag (pe (.agg #[i_ D.1.1,J]) (aw (cs:=[i_ D.1.1,J]) rfl rfl (az (S.boxAt 0 rfl))) (pm (.bool D.2) ?_));refine ap (S.top 2 rfl) Br [i_ D.1.1,J] rfl rfl (dt rfl) (all_cons rfl (all_cons (oc (S.rdAt (R:=R3_) 1 rfl)) rfl)) ?_;intro BA S;replace S:Sat w0 BA [Box U 39 [i_ D.1.1,J],Box Bu 39 [i_ D.1.1,J],Own R3_ [J] D.1.2]:=S;refine pa (.bool D.2) (en CA (aj ?_));refine dm (cs:=[i_ D.1.1,J]) rfl Br rfl (az (S.boxAt 0 rfl)) rfl ?_;replace S:Sat w0 BA [Own R3_ [J] D.1.2,Box U 39 [i_ D.1.1,J],Box Bu 39 [i_ D.1.1,J]]:=S.tops 3 [2] rfl;have hr:=Option.some.inj F;exact ⟨J,congrArg (fun (r:T4_ × Bool)=>Ending.returned (.tuple #[.agg #[i_ r.1.1,J],.bool r.2])) hr,Eq.mp (congrArg (fun (r:T4_ × Bool)=>Sat w0 BA [Own R3_ [J] r.1.2]) hr) (S.keep 1)⟩
 refine eo (an Y) (eo (an Y) (eo (an Y) (pe (.bool true) (av rfl (an Y) rfl) (en BM (ct rfl ?_)))));refine sg fun _ CB=>?_;replace S:Sat w0 BO [Box U 39 [i_ 0,n_]]:=S.rems 2 [1] rfl;refine ag (pe (.agg #[i_ 0,n_]) (ba [] [i_ 0,n_] rfl rfl) ?_);refine ap (S.top 0 rfl) Z [i_ 0,n_] rfl rfl (dt rfl) (all_cons rfl (all_cons rfl rfl)) ?_;intro BY S;replace S:Sat w0 BY [Box U 39 [i_ 0,n_]]:=S;refine pa (.bool false) (en CB (aj (tr Bx ?_)));replace S:=S.nil R0_ 28;refine dm (cs:=[i_ 0,n_]) rfl Z rfl (az (S.boxAt 1 rfl)) rfl ?_;have hr:=Option.some.inj F;exact ⟨n_,congrArg (fun (r:T4_ × Bool)=>Ending.returned (.tuple #[.agg #[i_ r.1.1,n_],.bool r.2])) hr,Eq.mp (congrArg (fun (r:T4_ × Bool)=>Sat w0 BY [Own R3_ [n_] r.1.2]) hr) (S.keep 1)⟩
theorem iT {w0:World} {a0:Int} {u1:Value} {a1:List T0_} {u2:Value} {a2:List Int} (ha1:R3_.rd w0 [u1] a1) (ha2:R0_.rd w0 [u2] a2) {N:Nat} {r:T4_ × Bool} (F:jd N a0 a1 a2=some r): Calls Tryz.prog 100 #[.agg #[i_ a0,u1],u2] w0 fun e w'=>∃ (q0:Value),e=.returned (.tuple #[.agg #[i_ r.1.1,q0],.bool r.2])∧Sat w0 w' [Own R3_ [q0] r.1.2] := by
 unfold jd at F;refine aJ Tryz.func100 rfl rfl (dt rfl) ?_;have S:=Sat.start w0;refine sR fun _ Bs=>?_;refine bl [i_ a0,u1] rfl S (dt rfl) ?_;intro BE Bi S Bz;refine aM S (dt rfl) ?_;intro BF Y S BA;refine pa (.bool false) (en Bs ?_);refine sg fun _ Bf=>?_;refine sR fun _ Bj=>?_;refine pm u2 ?_;obtain ⟨Bk,Bq,F⟩:=ob F;refine ec0 xW (lc (S.up ha2) Bq) (ca (ai rfl rfl)) S fun Bl BB S=>?_;refine pe (.bool (!Bk)) (a7 rfl) (pm (.bool (!Bk)) ?_);rcases oif F with ⟨U,F⟩|⟨U,F⟩
 ·refine ei (am U) (pm u2 (ei (am U) (pe (i_ (a2.length:Int)) (au rfl ha2) (ei (am U) (pe (.pointer (some ⟨Bi,0 + 0,none⟩)) (ae rfl) (ei (am U) (pe (i_ a0) (ac rfl ((S.boxAt 1 rfl) 0 _ rfl)) (ei (am U) (pe (.bool ((a2.length:Int) != a0)) (da rfl rfl) (pe (.bool ((a2.length:Int) != a0)) (aC rfl (am U) rfl) (en Bj ?_)))))))))));rcases oif F with ⟨Bd,F⟩|⟨Bd,F⟩
  ·refine ct Bd ?_;refine sg fun _ Bt=>?_;replace S:Sat w0 Bl [Box Y 114 [i_ 0,n_]]:=S.rems 2 [1] rfl;refine ag (pe (.agg #[i_ 0,n_]) (ba [] [i_ 0,n_] rfl rfl) ?_);refine ap (S.top 0 rfl) rfl [i_ 0,n_] rfl rfl (dt rfl) (all_cons rfl (all_cons rfl rfl)) ?_;intro Bm S;replace S:Sat w0 Bm [Box Y 114 [i_ 0,n_]]:=S;refine pa (.bool false) (en Bt (aj (tr Bf ?_)));replace S:=S.nil R0_ 28;refine dm (cs:=[i_ 0,n_]) rfl rfl rfl (az (S.boxAt 1 rfl)) rfl ?_;have hr:=Option.some.inj F;exact ⟨n_,congrArg (fun (r:T4_ × Bool)=>Ending.returned (.tuple #[.agg #[i_ r.1.1,n_],.bool r.2])) hr,Eq.mp (congrArg (fun (r:T4_ × Bool)=>Sat w0 Bm [Own R3_ [n_] r.1.2]) hr) (S.keep 1)⟩
  refine cf Bd (sn Bf ?_);refine sR fun _ Bu=>?_;refine pe (.agg #[i_ a0,u1]) (aw (cs:=[i_ a0,u1]) rfl rfl (az (S.boxAt 1 rfl))) (pm u2 ?_);obtain ⟨D,Br,F⟩:=ob F;refine ec1 xC (nz (S.up ha1) (S.up ha2) Br) (ca (ai rfl (ai rfl rfl))) S fun BG J BC S=>?_;refine pm (.tuple #[.agg #[i_ D.1.1,J],.bool D.2]) (pe (.agg #[i_ D.1.1,J]) (ay rfl rfl) (pe (.bool D.2) (ay rfl rfl) ?_));refine aM S (dt rfl) ?_;intro BH Z S BD;refine ap (S.top 0 rfl) rfl [i_ D.1.1,J] rfl rfl (dt rfl) (all_cons rfl (all_cons (oc (S.rdAt (R:=R3_) 1 rfl)) rfl)) ?_;intro Bg S;replace S:Sat w0 Bg [Box Z 39 [i_ D.1.1,J],Own R3_ [J] D.1.2,Box Y 114 [i_ 0,n_],Box Bi 39 [i_ a0,u1]]:=S;refine pa (.bool D.2) (en Bu ?_);refine sg fun _ Bn=>?_;refine sg fun _ Bv=>?_;replace S:Sat w0 Bg [Box Z 39 [i_ D.1.1,J],Own R3_ [J] D.1.2,Box Y 114 [i_ 0,n_]]:=S.rems 4 [3] rfl;refine ag (pm (.bool D.2) (pe (.bool (!D.2)) (a7 rfl) (en Bv ?_)));rcases oif F with ⟨Be,F⟩|⟨Be,F⟩
  ·refine cf (am Be) (sn Bn ?_);refine sR fun _ Bw=>?_;refine pe (.pointer (some ⟨Z,0 + 0,none⟩)) (ae rfl) (pe (i_ D.1.1) (ac rfl ((S.boxAt 0 rfl) 0 _ rfl)) (pe (.pointer (some ⟨Z,0 + 1,none⟩)) (ae rfl) (pe J (ac rfl ((S.boxAt 0 rfl) 1 _ rfl)) (pe (.agg #[i_ D.1.1,J]) (ba [(0,[i_ D.1.1]),(1,[J])] [i_ D.1.1,J] (c8 rfl (c8 (aS rfl (oc (S.rdAt (R:=R3_) 1 rfl))) rfl)) rfl) ?_))));refine ap (S.top 2 rfl) rfl [i_ D.1.1,J] rfl rfl (dt rfl) (all_cons rfl (all_cons (oc (S.rdAt (R:=R3_) 1 rfl)) rfl)) ?_;intro Bh S;replace S:Sat w0 Bh [Box Y 114 [i_ D.1.1,J],Box Z 39 [i_ D.1.1,J],Own R3_ [J] D.1.2]:=S;refine pa (.bool true) (en Bw (aj ?_));refine dm (cs:=[i_ D.1.1,J]) rfl rfl rfl (az (S.boxAt 0 rfl)) rfl ?_;replace S:Sat w0 Bh [Own R3_ [J] D.1.2,Box Y 114 [i_ D.1.1,J],Box Z 39 [i_ D.1.1,J]]:=S.tops 3 [2] rfl;have hr:=Option.some.inj F;exact ⟨J,congrArg (fun (r:T4_ × Bool)=>Ending.returned (.tuple #[.agg #[i_ r.1.1,J],.bool r.2])) hr,Eq.mp (congrArg (fun (r:T4_ × Bool)=>Sat w0 Bh [Own R3_ [J] r.1.2]) hr) (S.keep 1)⟩
  refine ct (an Be) ?_;refine sg fun _ Bx=>?_;replace S:Sat w0 Bg [Box Y 114 [i_ 0,n_]]:=S.rems 3 [0,1] rfl;refine ag (pe (.agg #[i_ 0,n_]) (ba [] [i_ 0,n_] rfl rfl) ?_);refine ap (S.top 0 rfl) rfl [i_ 0,n_] rfl rfl (dt rfl) (all_cons rfl (all_cons rfl rfl)) ?_;intro Bo S;replace S:Sat w0 Bo [Box Y 114 [i_ 0,n_]]:=S;refine pa (.bool false) (en Bx (aj (tr Bn ?_)));replace S:=S.nil R0_ 28;refine dm (cs:=[i_ 0,n_]) rfl rfl rfl (az (S.boxAt 1 rfl)) rfl ?_;have hr:=Option.some.inj F;exact ⟨n_,congrArg (fun (r:T4_ × Bool)=>Ending.returned (.tuple #[.agg #[i_ r.1.1,n_],.bool r.2])) hr,Eq.mp (congrArg (fun (r:T4_ × Bool)=>Sat w0 Bo [Own R3_ [n_] r.1.2]) hr) (S.keep 1)⟩
 refine eo (an U) (eo (an U) (eo (an U) (eo (an U) (eo (an U) (pe (.bool true) (av rfl (an U) rfl) (en Bj (ct rfl ?_)))))));refine sg fun _ By=>?_;replace S:Sat w0 Bl [Box Y 114 [i_ 0,n_]]:=S.rems 2 [1] rfl;refine ag (pe (.agg #[i_ 0,n_]) (ba [] [i_ 0,n_] rfl rfl) ?_);refine ap (S.top 0 rfl) rfl [i_ 0,n_] rfl rfl (dt rfl) (all_cons rfl (all_cons rfl rfl)) ?_;intro Bp S;replace S:Sat w0 Bp [Box Y 114 [i_ 0,n_]]:=S;refine pa (.bool false) (en By (aj (tr Bf ?_)));replace S:=S.nil R0_ 28;refine dm (cs:=[i_ 0,n_]) rfl rfl rfl (az (S.boxAt 1 rfl)) rfl ?_;have hr:=Option.some.inj F;exact ⟨n_,congrArg (fun (r:T4_ × Bool)=>Ending.returned (.tuple #[.agg #[i_ r.1.1,n_],.bool r.2])) hr,Eq.mp (congrArg (fun (r:T4_ × Bool)=>Sat w0 Bp [Own R3_ [n_] r.1.2]) hr) (S.keep 1)⟩
theorem kX {w0:World} {a0:ByteArray} {u1:Value} {a1:List Int} (ha0:a0.size ≤ 9223372036854775807) (ha1:R0_.rd w0 [u1] a1) {N:Nat} {r:T0_} (F:fm N a0 a1=some r): Calls Tryz.prog 138 #[.agg #[.string a0,u1]] w0 fun e w'=>∃ (q0:Value),e=.returned (q0)∧Sat w0 w' [Own R0_ [q0] r] := by
 unfold fm at F;refine aJ Tryz.func138 rfl rfl (dt rfl) ?_;have S:=Sat.start w0;refine sR fun _ Bx=>?_;refine bl [.string a0,u1] rfl S (dt rfl) ?_;intro BN Z S BJ;refine pa n_ (en Bx ?_);refine sR fun _ By=>?_;refine aQ bR S (dt rfl) ?_;intro BO Bm S BK;refine pa Bm (en By ?_);refine sg fun _ Bz=>?_;refine sR fun _ BA=>?_;refine pa (i_ 0) (en BA ?_);refine bg fun _ BB=>?_;obtain ⟨BC,hL,Bs⟩:=ob F;refine aH (fun k e w=>∃ (D:Value),∃ (Y:List Int),∃ (J:Int),e 1=.pointer (some ⟨Z,0,none⟩)∧e 3=D∧e 4=i_ J∧Sat w0 w [Own R0_ [D] Y,Box Z 113 [.string a0,u1]]∧cy N k a0 a1 Y J=some BC) N ?_ ?_ ?_
 ·exact ⟨Bm,[],0,rfl,rfl,rfl,S,hL⟩
 ·rintro e w ⟨_,_,_,_,_,_,_,hz⟩; exact nomatch (show none=some _ from hz)
 rintro k BP Bn ⟨D,Y,J,Bd,Be,U,S,F⟩;refine gn fun _ Bh=>?_;refine sg fun _ Bo=>?_;refine sR fun _ BD=>?_;refine pM (i_ J) U (pe (.bool (decide (J < 5))) (aL rfl rfl) (en BD ?_));rcases oif F with ⟨Bf,F⟩|⟨Bf,F⟩
 ·refine ct Bf (sn Bo ?_);refine sg fun _ Bp=>?_;refine bg fun _ Bq=>?_;refine sR fun _ BE=>?_;refine pe (.agg #[.string a0,u1]) (aw (cs:=[.string a0,u1]) Bd rfl (az (S.boxAt 1 rfl))) (pM (i_ J) U ?_);obtain ⟨BQ,Bt,F⟩:=ob F;refine ec0 qz (fH ha0 (S.up ha1) Bt) (ca (ai rfl (ai rfl rfl))) S fun BR BL S=>?_;refine en BE ?_;rcases oif F with ⟨Bg,F⟩|⟨Bg,F⟩
  ·refine ct Bg (ag (pM D Be (pM (i_ J) U ?_)));refine aq [i_ J] rfl (by rfl) (dt rfl) rfl (dt rfl) S (dt rfl) ?_;intro BF BG S BM;obtain ⟨Br,Bu,F⟩:=ob F;have Bl:=S.boxRow 0 rfl;replace S:Sat w0 BF [Own R0_ [D] Y,Box BG 3 [i_ J],Box Z 113 [.string a0,u1]]:=S.top 1 rfl;replace S:=S.int J;replace S:=S.one;refine aB rfl (dt rfl) rfl (dt rfl) S rfl rfl rfl (by simp) Bl Bu (dt rfl) ?_;intro BH Bi S;refine pa Bi (ah (bn Bq (tn Bp ?_)));replace S:Sat w0 BH [Own R0_ [Bi] Br,Box Z 113 [.string a0,u1]]:=S.rems 3 [1] rfl;refine ag (pM (i_ J) U ?_);obtain ⟨Bj,Bv,F⟩:=ob F;refine pe (i_ Bj) (aD rfl rfl Bv) (pa (i_ Bj) (en Bh ?_));replace S:=S.keep 2;exact ⟨Bi,Br,Bj,Bd,rfl,rfl,S,F⟩
  refine cf Bg (aT (bn Bq (tn Bp (ag (pM (i_ J) U ?_)))));obtain ⟨Bk,Bw,F⟩:=ob F;refine pe (i_ Bk) (aD rfl rfl Bw) (pa (i_ Bk) (en Bh ?_));replace S:=S.keep 2;exact ⟨D,Y,Bk,Bd,Be,rfl,S,F⟩
 refine cf Bf (aF (tx Bo (tx Bh ?_)));replace F:=exB F Bs;refine bS BB (tn Bz ?_);refine sg fun _ BI=>?_;replace S:Sat w0 Bn [Own R0_ [D] Y]:=S.rems 2 [1] rfl;refine ag (pM D Be (pa D (en BI (aj (aK rfl rfl ?_)))));have hr:=Option.some.inj F;exact ⟨D,congrArg (fun (r:T0_)=>Ending.returned (D)) hr,Eq.mp (congrArg (fun (r:T0_)=>Sat w0 Bn [Own R0_ [D] r]) hr) (S.keep 1)⟩
theorem lE {w0:World} {u0:Value} {a0:List T7_} {a1:ByteArray} {u2:Value} {a2:List Int} (ha0:aV.rd w0 [u0] a0) (ha1:a1.size ≤ 9223372036854775807) (ha2:R0_.rd w0 [u2] a2) {N:Nat} {r:Int × List T0_} (F:gU N a0 a1 a2=some r): Calls Tryz.prog 101 #[.agg #[u0],.agg #[.string a1,u2]] w0 fun e w'=>∃ (q0:Value),e=.returned (.agg #[i_ r.1,q0])∧Sat w0 w' [Own R3_ [q0] r.2] := by
 unfold gU at F;refine aJ Tryz.func101 rfl rfl (dt rfl) ?_;have S:=Sat.start w0;refine sR fun _ Dw=>?_;refine bl [u0] rfl S (dt rfl) ?_;intro Ez CF S Ee;refine bl [.string a1,u2] rfl S (dt rfl) ?_;intro EA Bd S Ef;refine aM S (dt rfl) ?_;intro EB Y S Eg;refine en Dw ?_;refine sR fun _ Dx=>?_;refine pe (.agg #[.string a1,u2]) (aw (cs:=[.string a1,u2]) rfl rfl (az (S.boxAt 1 rfl))) ?_;obtain ⟨D,CY,F⟩:=ob F;refine ec1 vz (kX ha1 (S.up ha2) CY) (ca (ai rfl rfl)) S fun EC Z Eh S=>?_;refine pa Z (en Dx ?_);refine sR fun _ Dy=>?_;refine pe (.agg #[u0]) (aw (cs:=[u0]) rfl rfl (az (S.boxAt 3 rfl))) (pe (.pointer (some ⟨Bd,0 + 0,none⟩)) (ae rfl) (pe (.string a1) (ac rfl ((S.boxAt 2 rfl) 0 _ rfl)) ?_));obtain ⟨J,CZ,F⟩:=ob F;refine ec1 sA (iR (S.up ha0) ha1 CZ) (ca (ai rfl (ai rfl rfl))) S fun ED Be Ei S=>?_;refine pm (.tuple #[.agg #[i_ J.1.1,Be],.bool J.2]) (pe (.agg #[i_ J.1.1,Be]) (ay rfl rfl) (pe (.bool J.2) (ay rfl rfl) ?_));refine aM S (dt rfl) ?_;intro EE Bg S Ej;refine ap (S.top 0 rfl) rfl [i_ J.1.1,Be] rfl rfl (dt rfl) (all_cons rfl (all_cons (oc (S.rdAt (R:=R3_) 1 rfl)) rfl)) ?_;intro Bk S;replace S:Sat w0 Bk [Box Bg 39 [i_ J.1.1,Be],Own R3_ [Be] J.1.2,Own R0_ [Z] D,Box Y 39 [i_ 0,n_],Box Bd 113 [.string a1,u2],Box CF 26 [u0]]:=S;refine pa (.bool J.2) (ah ?_);replace S:Sat w0 Bk [Own R3_ [Be] J.1.2,Box Bg 39 [i_ J.1.1,Be],Own R0_ [Z] D,Box Y 39 [i_ 0,n_],Box Bd 113 [.string a1,u2],Box CF 26 [u0]]:=S.top 1 rfl;obtain ⟨Bo,BS,S⟩:=S.frz;refine tn Dy ?_;refine sg fun _ Dz=>?_;replace S:Sat w0 Bk [Frz Bk Bo,Box Bg 39 [i_ J.1.1,Be],Own R0_ [Z] D,Box Y 39 [i_ 0,n_],Box Bd 113 [.string a1,u2]]:=S.rems 6 [5] rfl;refine ag (pm Z (pe (i_ (D.length:Int)) (au rfl (S.rdAt (R:=R0_) 2 rfl)) (pe (.agg #[i_ (D.length:Int),n_]) (ba [(0,[i_ (D.length:Int)])] [i_ (D.length:Int),n_] (c8 rfl rfl) rfl) ?_)));refine aM S (dt rfl) ?_;intro EF Bf S Ek;refine ap (S.top 0 rfl) rfl [i_ (D.length:Int),n_] rfl rfl (dt rfl) (all_cons rfl (all_cons rfl rfl)) ?_;intro Ca S;replace S:Sat w0 Ca [Box Bf 39 [i_ (D.length:Int),n_],Frz Bk Bo,Box Bg 39 [i_ J.1.1,Be],Own R0_ [Z] D,Box Y 39 [i_ 0,n_],Box Bd 113 [.string a1,u2]]:=S;refine en Dz ?_;refine sg fun _ Cb=>?_;refine sR fun _ CG=>?_;refine pm (.bool J.2) (pe (.bool (!J.2)) (a7 rfl) (pm (.bool (!J.2)) ?_));rcases oif F with ⟨Bl,F⟩|⟨Bl,F⟩
 ·refine ei (am Bl) (pe (.pointer (some ⟨Bg,0 + 0,none⟩)) (ae rfl) (ei (am Bl) (pe (i_ J.1.1) (ac rfl ((S.boxAt 2 rfl) 0 _ rfl)) (ei (am Bl) (pe (.pointer (some ⟨Bd,0 + 1,none⟩)) (ae rfl) (ei (am Bl) (pe u2 (ac rfl ((S.boxAt 5 rfl) 1 _ rfl)) (ei (am Bl) (pe (i_ (a2.length:Int)) (au rfl ha2) (ei (am Bl) (pe (.bool (J.1.1 != (a2.length:Int))) (da rfl rfl) (pe (.bool (J.1.1 != (a2.length:Int))) (aC rfl (am Bl) rfl) (en CG ?_)))))))))))));rcases oif F with ⟨BT,F⟩|⟨BT,F⟩
  ·refine ct BT ?_;refine sg fun _ DA=>?_;replace S:Sat w0 Ca [Box Bf 39 [i_ (D.length:Int),n_],Box Y 39 [i_ 0,n_]]:=S.rems 6 [1,2,3,5] rfl;refine ag (pe (.agg #[i_ (D.length:Int),n_]) (aw (cs:=[i_ (D.length:Int),n_]) rfl rfl (az (S.boxAt 0 rfl))) ?_);refine ap (S.top 1 rfl) rfl [i_ (D.length:Int),n_] rfl rfl (dt rfl) (all_cons rfl (all_cons rfl rfl)) ?_;intro CH S;replace S:Sat w0 CH [Box Y 39 [i_ (D.length:Int),n_],Box Bf 39 [i_ (D.length:Int),n_]]:=S;refine en DA (aj (tr Cb ?_));replace S:=S.nil R0_ 28;refine ew (cs:=[i_ (D.length:Int),n_]) rfl rfl rfl (az (S.boxAt 1 rfl))  ?_;have hr:=Option.some.inj F;exact ⟨n_,congrArg (fun (r:Int × List T0_)=>Ending.returned (.agg #[i_ r.1,n_])) hr,Eq.mp (congrArg (fun (r:Int × List T0_)=>Sat w0 CH [Own R3_ [n_] r.2]) hr) (S.keep 1)⟩
  refine cf BT (sn Cb ?_);refine sR fun _ DB=>?_;refine aQ R0_ S (dt rfl) ?_;intro EG CI S El;refine pa CI (en DB ?_);refine sg fun _ DC=>?_;refine sR fun _ DD=>?_;refine pa (i_ 0) (en DD ?_);refine bg fun _ DE=>?_;obtain ⟨DF,hL,C0⟩:=ob F;refine aH (fun k e w=>∃ (Bj:Value),∃ (Bm:List T0_),∃ (Bp:Int),e 3=.pointer (some ⟨Bd,0,none⟩)∧e 4=.pointer (some ⟨Y,0,none⟩)∧e 5=Z∧e 6=.pointer (some ⟨Bg,0,none⟩)∧e 8=.pointer (some ⟨Bf,0,none⟩)∧e 9=Bj∧e 10=i_ Bp∧Sat w0 w [Own R3_ [Bj] Bm,Box Bf 39 [i_ (D.length:Int),n_],Frz Bk Bo,Box Bg 39 [i_ J.1.1,Be],Own R0_ [Z] D,Box Y 39 [i_ 0,n_],Box Bd 113 [.string a1,u2]]∧cN N k a1 a2 0 [] D J.1.1 J.1.2 (D.length:Int) [] Bm Bp=some DF) N ?_ ?_ ?_
  ·exact ⟨CI,[],0,rfl,rfl,rfl,rfl,rfl,rfl,rfl,S,hL⟩
  ·rintro e w ⟨_,_,_,_,_,_,_,_,_,_,_,hz⟩; exact nomatch (show none=some _ from hz)
  rintro k EH DG ⟨Bj,Bm,Bp,C1,BA,Cp,Cq,Cr,Cs,Ct,S,F⟩;refine gn fun _ Cc=>?_;refine sg fun _ CJ=>?_;refine sR fun _ DH=>?_;refine pM (i_ Bp) Ct (pe (.pointer (some ⟨Bg,0 + 1,none⟩)) (ae Cq) (pe Be (ac rfl ((S.boxAt 3 rfl) 1 _ rfl)) (pe (i_ (J.1.2.length:Int)) (au rfl (S.frzRd 2 rfl BS (fun _ hq=>hq))) (pe (.bool (decide (Bp < (J.1.2.length:Int)))) (aL rfl rfl) (en DH ?_)))));rcases oif F with ⟨BU,F⟩|⟨BU,F⟩
  ·refine ct BU (sn CJ ?_);refine sg fun _ CK=>?_;refine bg fun _ CL=>?_;refine sR fun _ DI=>?_;refine aQ bR S (dt rfl) ?_;intro EI CM S Em;refine pa CM (en DI ?_);refine sg fun _ DJ=>?_;refine sR fun _ DK=>?_;refine pa (i_ 0) (en DK ?_);refine bg fun _ DL=>?_;obtain ⟨DM,hL,C2⟩:=ob F;refine aH (fun k e w=>∃ (Bn:Value),∃ (Bq:List Int),∃ (Bu:Int),e 3=.pointer (some ⟨Bd,0,none⟩)∧e 4=.pointer (some ⟨Y,0,none⟩)∧e 5=Z∧e 6=.pointer (some ⟨Bg,0,none⟩)∧e 8=.pointer (some ⟨Bf,0,none⟩)∧e 9=Bj∧e 10=i_ Bp∧e 11=Bn∧e 12=i_ Bu∧Sat w0 w [Own R0_ [Bn] Bq,Own R3_ [Bj] Bm,Box Bf 39 [i_ (D.length:Int),n_],Frz Bk Bo,Box Bg 39 [i_ J.1.1,Be],Own R0_ [Z] D,Box Y 39 [i_ 0,n_],Box Bd 113 [.string a1,u2]]∧c5 N k a1 a2 0 [] D J.1.1 J.1.2 (D.length:Int) [] Bm Bp Bq Bu=some DM) N ?_ ?_ ?_
   ·exact ⟨CM,[],0,C1,BA,Cp,Cq,Cr,Cs,Ct,rfl,rfl,S,hL⟩
   ·rintro e w ⟨_,_,_,_,_,_,_,_,_,_,_,_,_,hz⟩; exact nomatch (show none=some _ from hz)
   rintro k EJ EK ⟨Bn,Bq,Bu,BV,Cu,BJ,BW,Cv,Cw,BX,Cx,BY,S,F⟩;refine gn fun _ CN=>?_;refine sg fun _ CO=>?_;refine sR fun _ DN=>?_;refine pM (i_ Bu) BY (pM Z BJ (pe (i_ (D.length:Int)) (au rfl (S.rdAt (R:=R0_) 5 rfl)) (pe (.bool (decide (Bu < (D.length:Int)))) (aL rfl rfl) (en DN ?_))));rcases oif F with ⟨BZ,F⟩|⟨BZ,F⟩
   ·refine ct BZ (sn CO ?_);refine sg fun _ DO=>?_;refine bg fun _ DP=>?_;obtain ⟨C,hCd⟩:∃ C:World → Prop,∀ w,C w ↔ ∃ G,Sat w0 w ([Box Bg 39 [i_ J.1.1,Be],Box Bd 113 [.string a1,u2],Frz Bk Bo,Own R0_ [Z] D] ++ G):=⟨_,fun _=>Iff.rfl⟩;refine cu [0,1,2,3,4,5,6,7,8,9,10,11,12,13,14,15,16,17] C (by kernel_rfl) ?_;intro DQ C3;replace S:=S.ext C3;replace S:Sat w0 DQ [Box Bg 39 [i_ J.1.1,Be],Box Bd 113 [.string a1,u2],Frz Bk Bo,Own R0_ [Z] D,Own R0_ [Bn] Bq,Own R3_ [Bj] Bm,Box Bf 39 [i_ (D.length:Int),n_],Box Y 39 [i_ 0,n_]]:=S.tops 8 [4,7,3,5] rfl;have hC:=(hCd _).2 ⟨_,S⟩;refine aP Bn 0 rfl rfl hC (aE rfl (fun w' hw'=>by obtain ⟨_,S⟩:=(hCd _).1 hw'; exact (aZ Cx))) ?_;refine aP (.pointer (some ⟨Bg,0 + 1,none⟩)) 1 rfl rfl hC (aE rfl (fun w' hw'=>by obtain ⟨_,S⟩:=(hCd _).1 hw'; exact (ae BW))) ?_;refine aP Be 2 rfl rfl hC (aE rfl (fun w' hw'=>by obtain ⟨_,S⟩:=(hCd _).1 hw'; exact (ac rfl ((S.boxAt 0 rfl) 1 _ rfl)))) ?_;refine aP (i_ Bp) 3 rfl rfl hC (aE rfl (fun w' hw'=>by obtain ⟨_,S⟩:=(hCd _).1 hw'; exact (aZ BX))) ?_;obtain ⟨EM,C4,F⟩:=ob F;refine xe (by kernel_rfl) 4 rfl hC (by kernel_rfl) (by kernel_rfl) rfl BS rfl rfl C4 (dt rfl) ?_;intro EN En EO EP Cy BB BK C5;replace BB:=fun q hq=>(fun _ hq=>hq) q (BB q hq);replace BK:=(fun _ hq=>hq) _ BK;obtain ⟨DR,rfl⟩:=ax (Rep.own_rd _ Cy);refine aP DR 5 rfl rfl hC (aE rfl (fun w' hw'=>by obtain ⟨_,S⟩:=(hCd _).1 hw'; exact (ac rfl ((S.frzCells 2 rfl BK C5) 0 _ rfl)))) ?_;refine aP (.pointer (some ⟨Bd,0 + 1,none⟩)) 6 rfl rfl hC (aE rfl (fun w' hw'=>by obtain ⟨_,S⟩:=(hCd _).1 hw'; exact (ae BV))) ?_;refine aP u2 7 rfl rfl hC (aE rfl (fun w' hw'=>by obtain ⟨_,S⟩:=(hCd _).1 hw'; exact (ac rfl ((S.boxAt 1 rfl) 1 _ rfl)))) ?_;refine aP Z 8 rfl rfl hC (aE rfl (fun w' hw'=>by obtain ⟨_,S⟩:=(hCd _).1 hw'; exact (aZ BJ))) ?_;refine aO 9 rfl ?_;refine pM (i_ Bu) BY (ah ?_);refine ⟨fun _=>hC,?_⟩;refine aO 10 rfl ?_;obtain ⟨DS,B0,F⟩:=ob F;obtain ⟨DT,Ec,Cz⟩:=bN 3 S rfl B0;refine pe (.pointer (some ⟨DT,Bu.toNat * 1,none⟩)) (bC (v:=Z) rfl Cz rfl B0) (ah ?_);refine ⟨fun _=>hC,?_⟩;refine aO 11 rfl ?_;refine pe (i_ DS) (ac rfl (S.ownCell 3 rfl Cz B0)) (ah ?_);refine ⟨fun _=>hC,?_⟩;refine aO 12 rfl ?_;obtain ⟨EQ,C6,F⟩:=ob F;refine ec0 kD (dZ (S.up ha2) C6) (ca (ai rfl (ai rfl rfl))) S fun ER Eo S=>?_;refine ah ?_;have hC:=(hCd _).2 ⟨_,S⟩;refine ⟨fun _=>hC,?_⟩;refine aO 13 rfl ?_;obtain ⟨BH,C7,F⟩:=ob F;refine mw rfl Cy rfl rfl C7 (dt rfl) ?_;intro ES Ep ET EU C8 B8 BL C9;replace B8:=fun q hq=>BB q (B8 q hq);replace BL:=BB _ BL;obtain ⟨rfl,_⟩:=C8;refine ah ?_;refine ⟨fun _=>hC,?_⟩;refine aO 14 rfl ?_;refine pe (i_ BH) (ac rfl ((S.frzCells 2 rfl BL C9) 0 _ rfl)) (ah ?_);refine ⟨fun _=>hC,?_⟩;refine aO 15 rfl ?_;refine aq [i_ BH] rfl (by rfl) (dt rfl) rfl (dt rfl) S (dt rfl) ?_;intro CP Cd S Er;refine ah ?_;replace S:Sat w0 CP [Box Bg 39 [i_ J.1.1,Be],Box Bd 113 [.string a1,u2],Frz Bk Bo,Own R0_ [Z] D,Box Cd 3 [i_ BH],Own R0_ [Bn] Bq,Own R3_ [Bj] Bm,Box Bf 39 [i_ (D.length:Int),n_],Box Y 39 [i_ 0,n_]]:=S.tops 9 [1,2,3,4] rfl;have hC:=(hCd _).2 ⟨_,S⟩;refine ⟨fun _=>hC,?_⟩;refine aO 16 rfl ?_;obtain ⟨B1,Da,F⟩:=ob F;have CD:=S.boxRow 4 rfl;replace S:Sat w0 CP [Own R0_ [Bn] Bq,Box Bg 39 [i_ J.1.1,Be],Box Bd 113 [.string a1,u2],Frz Bk Bo,Own R0_ [Z] D,Box Cd 3 [i_ BH],Own R3_ [Bj] Bm,Box Bf 39 [i_ (D.length:Int),n_],Box Y 39 [i_ 0,n_]]:=S.top 5 rfl;replace S:=S.int BH;replace S:=S.one;refine aB rfl (dt rfl) rfl (dt rfl) S rfl rfl rfl (by simp) CD Da (dt rfl) ?_;intro Ce BM S;refine ah ?_;replace S:Sat w0 Ce [Box Bg 39 [i_ J.1.1,Be],Box Bd 113 [.string a1,u2],Frz Bk Bo,Own R0_ [Z] D,Own R0_ [BM] B1,Box Cd 3 [i_ BH],Own R3_ [Bj] Bm,Box Bf 39 [i_ (D.length:Int),n_],Box Y 39 [i_ 0,n_]]:=S.tops 9 [1,2,3,4] rfl;have hC:=(hCd _).2 ⟨_,S⟩;refine ⟨fun _=>hC,?_⟩;refine aO 17 rfl ?_;refine pa BM (ah ?_);refine ⟨fun _=>hC,?_⟩;refine bI (by kernel_rfl) ?_;refine bn DP (tn DO ?_);replace S:Sat w0 Ce [Box Bg 39 [i_ J.1.1,Be],Box Bd 113 [.string a1,u2],Frz Bk Bo,Own R0_ [Z] D,Own R0_ [BM] B1,Own R3_ [Bj] Bm,Box Bf 39 [i_ (D.length:Int),n_],Box Y 39 [i_ 0,n_]]:=S.rems 9 [5] rfl;refine ag (pM (i_ Bu) BY ?_);obtain ⟨Cf,Db,F⟩:=ob F;refine pe (i_ Cf) (aD rfl rfl Db) (pa (i_ Cf) (en CN ?_));replace S:Sat w0 Ce [Own R0_ [BM] B1,Own R3_ [Bj] Bm,Box Bf 39 [i_ (D.length:Int),n_],Frz Bk Bo,Box Bg 39 [i_ J.1.1,Be],Own R0_ [Z] D,Box Y 39 [i_ 0,n_],Box Bd 113 [.string a1,u2]]:=S.tops 8 [4,5,6,2,0,3,7,1] rfl;replace S:=S.keep 8;exact ⟨BM,B1,Cf,BV,Cu,BJ,BW,Cv,Cw,BX,rfl,rfl,S,F⟩
   refine cf BZ (aF (tx CO (tx CN ?_)));replace F:=exB F C2;refine bS DL (tn DJ ?_);refine sR fun _ DU=>?_;refine pa (.bool true) (en DU ?_);refine sg fun _ DV=>?_;refine sR fun _ DW=>?_;refine pa (i_ 0) (en DW ?_);refine bg fun _ DX=>?_;obtain ⟨DY,hL,Dc⟩:=ob F;refine aH (fun k e w=>∃ (BI:Bool),∃ (Br:Int),e 3=.pointer (some ⟨Bd,0,none⟩)∧e 4=.pointer (some ⟨Y,0,none⟩)∧e 5=Z∧e 6=.pointer (some ⟨Bg,0,none⟩)∧e 8=.pointer (some ⟨Bf,0,none⟩)∧e 9=Bj∧e 10=i_ Bp∧e 11=Bn∧e 13=.bool BI∧e 14=i_ Br∧Sat w0 w [Own R0_ [Bn] Bq,Own R3_ [Bj] Bm,Box Bf 39 [i_ (D.length:Int),n_],Frz Bk Bo,Box Bg 39 [i_ J.1.1,Be],Own R0_ [Z] D,Box Y 39 [i_ 0,n_],Box Bd 113 [.string a1,u2]]∧cc N k a1 a2 0 [] D J.1.1 J.1.2 (D.length:Int) [] Bm Bp Bq BI Br=some DY) N ?_ ?_ ?_
   ·exact ⟨true,0,BV,Cu,BJ,BW,Cv,Cw,BX,Cx,rfl,rfl,S,hL⟩
   ·rintro e w ⟨_,_,_,_,_,_,_,_,_,_,_,_,_,hz⟩; exact nomatch (show none=some _ from hz)
   rintro k EV DZ ⟨BI,Br,Bs,BC,Bv,Bw,BD,BE,Bx,BF,CA,By,S,F⟩;refine gn fun _ B2=>?_;refine sg fun _ CQ=>?_;refine sR fun _ D0=>?_;refine pM (i_ Br) By (pe (.pointer (some ⟨Bd,0 + 1,none⟩)) (ae Bs) (pe u2 (ac rfl ((S.boxAt 7 rfl) 1 _ rfl)) (pe (i_ (a2.length:Int)) (au rfl ha2) (pe (.bool (decide (Br < (a2.length:Int)))) (aL rfl rfl) (en D0 ?_)))));rcases oif F with ⟨B3,F⟩|⟨B3,F⟩
   ·refine ct B3 (sn CQ ?_);refine sg fun _ Cg=>?_;refine bg fun _ Ch=>?_;refine sR fun _ D1=>?_;refine pM Z Bv (pe (.pointer (some ⟨Bd,0 + 1,none⟩)) (ae Bs) (pe u2 (ac rfl ((S.boxAt 7 rfl) 1 _ rfl)) (pM (i_ Br) By ?_)));obtain ⟨D2,Dd,F⟩:=ob F;refine aI (wA:=w0) rfl ha2 rfl (dt rfl) rfl Dd (dt rfl) ?_;intro EW Es EX De Df;obtain rfl:=De;refine pe (i_ D2) (ac rfl ((ak S.below Df) 0 _ rfl)) ?_;obtain ⟨Bz,Dg,F⟩:=ob F;refine ec0 kD (dZ (S.rdAt (R:=R0_) 5 rfl) Dg) (ca (ai rfl (ai rfl rfl))) S fun EY Et S=>?_;refine pa (i_ Bz) (en D1 ?_);refine bJ (by kernel_rfl) (by kernel_rfl) ?_;refine qM (.bool BI) CA (qm (.bool BI) ?_);rcases oif F with ⟨Bt,F⟩|⟨Bt,F⟩
    ·refine qi Bt (qm (i_ Bz) (qi Bt (qe (.bool (decide (0 ≤ Bz))) (dR rfl rfl) (qe (.bool (decide (0 ≤ Bz))) (av rfl Bt rfl) (qm (.bool (decide (0 ≤ Bz))) ?_)))));rcases oif F with ⟨U,F⟩|⟨U,F⟩
     ·refine qi U (qM Bn BF (qi U (qm (i_ Bz) (qi U ?_))));obtain ⟨BN,B4,F⟩:=ob F;obtain ⟨D3,Ed,CB⟩:=bN 0 S rfl B4;refine qe (.pointer (some ⟨D3,Bz.toNat * 1,none⟩)) (bC (v:=Bn) rfl CB rfl B4) (qi U (qe (i_ BN) (ac rfl (S.ownCell 0 rfl CB B4)) (qi U (qe (.pointer (some ⟨Bg,0 + 1,none⟩)) (ae Bw) (qi U (qe Be (ac rfl ((S.boxAt 4 rfl) 1 _ rfl)) (qi U (qM (i_ Bp) Bx (qi U ?_)))))))));obtain ⟨EZ,Dh,F⟩:=ob F;refine ny rfl BS rfl rfl Dh (dt rfl) ?_;intro E0 Eu E1 E2 CC BG BO Di;replace BG:=fun q hq=>(fun _ hq=>hq) q (BG q hq);replace BO:=(fun _ hq=>hq) _ BO;obtain ⟨D4,rfl⟩:=ax (Rep.own_rd _ CC);refine qi U (qe D4 (ac rfl ((S.frzCells 3 rfl BO Di) 0 _ rfl)) (qi U (qM (i_ Br) By (qi U ?_))));obtain ⟨BP,Dj,F⟩:=ob F;refine ny rfl CC rfl rfl Dj (dt rfl) ?_;intro E3 Ev E4 E5 Dk B9 BQ Dl;replace B9:=fun q hq=>BG q (B9 q hq);replace BQ:=BG _ BQ;obtain ⟨rfl,_⟩:=Dk;refine qi U (qe (i_ BP) (ac rfl ((S.frzCells 3 rfl BQ Dl) 0 _ rfl)) (qi U (qe (.bool (BN == BP)) (bD rfl rfl) (qe (.bool (BN == BP)) (av rfl U rfl) (qe (.bool (BN == BP)) (de rfl) (bh ?_))))));intro E6 Dm;replace S:=S.ext Dm;refine bn Ch (tn Cg (ag (pM (i_ Br) By ?_)));obtain ⟨Ci,Dn,F⟩:=ob F;refine pe (i_ Ci) (aD rfl rfl Dn) (pa (i_ Ci) (en B2 ?_));replace S:=S.keep 8;exact ⟨(BN == BP),Ci,Bs,BC,Bv,Bw,BD,BE,Bx,BF,rfl,rfl,S,F⟩
     refine qo U (qo U (qo U (qo U (qo U (qo U (qo U (qo U (qo U (qo U (qo U (qo U (qo U (qe (.bool false) (aC rfl U rfl) (qe (.bool false) (de rfl) (bh ?_)))))))))))))));intro E7 Do;replace S:=S.ext Do;refine bn Ch (tn Cg (ag (pM (i_ Br) By ?_)));obtain ⟨Cj,Dp,F⟩:=ob F;refine pe (i_ Cj) (aD rfl rfl Dp) (pa (i_ Cj) (en B2 ?_));replace S:=S.keep 8;exact ⟨false,Cj,Bs,BC,Bv,Bw,BD,BE,Bx,BF,rfl,rfl,S,F⟩
    refine qo Bt (qo Bt (qe (.bool false) (aC rfl Bt rfl) (qm (.bool false) (qo rfl (qo rfl (qo rfl (qo rfl (qo rfl (qo rfl (qo rfl (qo rfl (qo rfl (qo rfl (qo rfl (qo rfl (qo rfl (qe (.bool false) (aC rfl rfl rfl) (qe (.bool false) (de rfl) (bh ?_)))))))))))))))))));intro E8 Dq;replace S:=S.ext Dq;refine bn Ch (tn Cg (ag (pM (i_ Br) By ?_)));obtain ⟨Ck,Dr,F⟩:=ob F;refine pe (i_ Ck) (aD rfl rfl Dr) (pa (i_ Ck) (en B2 ?_));replace S:=S.keep 8;exact ⟨false,Ck,Bs,BC,Bv,Bw,BD,BE,Bx,BF,rfl,rfl,S,F⟩
   refine cf B3 (aF (tx CQ (tx B2 ?_)));replace F:=exB F Dc;refine bS DX (tn DV ?_);refine sR fun _ D5=>?_;refine pM (.bool BI) CA (en D5 ?_);rcases oif F with ⟨B5,F⟩|⟨B5,F⟩
   ·refine ct B5 (ag (pM Bj BE (pM Bn BF ?_)));refine aq [Bn] (aS rfl (oc (S.rdAt (R:=R0_) 0 rfl))) (by rfl) (dt rfl) rfl (dt rfl) S (dt rfl) ?_;intro CR CS S Ew;obtain ⟨CT,Ds,F⟩:=ob F;have CE:=S.boxRow 0 rfl;replace S:Sat w0 CR [Own R3_ [Bj] Bm,Box CS 28 [Bn],Own R0_ [Bn] Bq,Box Bf 39 [i_ (D.length:Int),n_],Frz Bk Bo,Box Bg 39 [i_ J.1.1,Be],Own R0_ [Z] D,Box Y 39 [i_ 0,n_],Box Bd 113 [.string a1,u2]]:=S.top 2 rfl;replace S:Sat w0 CR [Own R0_ [Bn] Bq,Own R3_ [Bj] Bm,Box CS 28 [Bn],Box Bf 39 [i_ (D.length:Int),n_],Frz Bk Bo,Box Bg 39 [i_ J.1.1,Be],Own R0_ [Z] D,Box Y 39 [i_ 0,n_],Box Bd 113 [.string a1,u2]]:=S.top 2 rfl;replace S:=S.one;refine aB rfl (dt rfl) rfl (dt rfl) S rfl rfl rfl (by simp) CE Ds (dt rfl) ?_;intro D6 Cl S;refine pa Cl (ah (bn CL (tn CK ?_)));replace S:Sat w0 D6 [Own R3_ [Cl] CT,Box Bf 39 [i_ (D.length:Int),n_],Frz Bk Bo,Box Bg 39 [i_ J.1.1,Be],Own R0_ [Z] D,Box Y 39 [i_ 0,n_],Box Bd 113 [.string a1,u2]]:=S.rems 8 [1] rfl;refine ag (pM (i_ Bp) Bx ?_);obtain ⟨Cm,Dt,F⟩:=ob F;refine pe (i_ Cm) (aD rfl rfl Dt) (pa (i_ Cm) (en Cc ?_));replace S:=S.keep 7;exact ⟨Cl,CT,Cm,Bs,BC,Bv,Bw,BD,rfl,rfl,S,F⟩
   refine cf B5 (aT (bn CL (tn CK ?_)));replace S:Sat w0 DZ [Own R3_ [Bj] Bm,Box Bf 39 [i_ (D.length:Int),n_],Frz Bk Bo,Box Bg 39 [i_ J.1.1,Be],Own R0_ [Z] D,Box Y 39 [i_ 0,n_],Box Bd 113 [.string a1,u2]]:=S.rems 8 [0] rfl;refine ag (pM (i_ Bp) Bx ?_);obtain ⟨Cn,Du,F⟩:=ob F;refine pe (i_ Cn) (aD rfl rfl Du) (pa (i_ Cn) (en Cc ?_));replace S:=S.keep 7;exact ⟨Bj,Bm,Cn,Bs,BC,Bv,Bw,BD,BE,rfl,S,F⟩
  refine cf BU (aF (tx CJ (tx Cc ?_)));replace F:=exB F C0;refine bS DE (tn DC ?_);refine sg fun _ D7=>?_;replace S:Sat w0 DG [Own R3_ [Bj] Bm,Box Bf 39 [i_ (D.length:Int),n_],Own R0_ [Z] D,Box Y 39 [i_ 0,n_]]:=S.rems 7 [2,3,6] rfl;refine ag (pM Z Cp (pe (i_ (D.length:Int)) (au rfl (S.rdAt (R:=R0_) 2 rfl)) (pM Bj Cs ?_)));obtain ⟨Bh,Dv,F⟩:=ob F;refine ec1 qb (fR (S.rdAt (R:=R3_) 0 rfl) Dv) (ca (ai rfl (ai rfl rfl))) S fun E9 Bi Ex S=>?_;refine pm (.tuple #[.agg #[i_ Bh.1.1,Bi],.bool Bh.2]) (pe (.agg #[i_ Bh.1.1,Bi]) (ay rfl rfl) (pe (.bool Bh.2) (ay rfl rfl) ?_));refine aM S (dt rfl) ?_;intro Fa BR S Ey;refine ap (S.top 0 rfl) rfl [i_ Bh.1.1,Bi] rfl rfl (dt rfl) (all_cons rfl (all_cons (oc (S.rdAt (R:=R3_) 1 rfl)) rfl)) ?_;intro B6 S;replace S:Sat w0 B6 [Box BR 39 [i_ Bh.1.1,Bi],Own R3_ [Bi] Bh.1.2,Own R3_ [Bj] Bm,Box Bf 39 [i_ (D.length:Int),n_],Own R0_ [Z] D,Box Y 39 [i_ 0,n_]]:=S;refine pa (.bool Bh.2) (en D7 ?_);refine sg fun _ CU=>?_;refine sg fun _ D8=>?_;replace S:Sat w0 B6 [Box BR 39 [i_ Bh.1.1,Bi],Own R3_ [Bi] Bh.1.2,Box Bf 39 [i_ (D.length:Int),n_],Box Y 39 [i_ 0,n_]]:=S.rems 6 [2,4] rfl;refine ag (pm (.bool Bh.2) (pe (.bool (!Bh.2)) (a7 rfl) (en D8 ?_)));rcases oif F with ⟨B7,F⟩|⟨B7,F⟩
  ·refine cf (am B7) (sn CU ?_);refine sg fun _ D9=>?_;replace S:Sat w0 B6 [Box BR 39 [i_ Bh.1.1,Bi],Own R3_ [Bi] Bh.1.2,Box Y 39 [i_ 0,n_]]:=S.rems 4 [2] rfl;refine ag (pe (.agg #[i_ Bh.1.1,Bi]) (aw (cs:=[i_ Bh.1.1,Bi]) rfl rfl (az (S.boxAt 0 rfl))) ?_);refine ap (S.top 2 rfl) BA [i_ Bh.1.1,Bi] rfl rfl (dt rfl) (all_cons rfl (all_cons (oc (S.rdAt (R:=R3_) 1 rfl)) rfl)) ?_;intro Co S;replace S:Sat w0 Co [Box Y 39 [i_ Bh.1.1,Bi],Box BR 39 [i_ Bh.1.1,Bi],Own R3_ [Bi] Bh.1.2]:=S;refine en D9 (aj ?_);refine ew (cs:=[i_ Bh.1.1,Bi]) rfl BA rfl (az (S.boxAt 0 rfl))  ?_;replace S:Sat w0 Co [Own R3_ [Bi] Bh.1.2,Box Y 39 [i_ Bh.1.1,Bi],Box BR 39 [i_ Bh.1.1,Bi]]:=S.tops 3 [2] rfl;have hr:=Option.some.inj F;exact ⟨Bi,congrArg (fun (r:Int × List T0_)=>Ending.returned (.agg #[i_ r.1,Bi])) hr,Eq.mp (congrArg (fun (r:Int × List T0_)=>Sat w0 Co [Own R3_ [Bi] r.2]) hr) (S.keep 1)⟩
  refine ct (an B7) ?_;refine sg fun _ Ea=>?_;replace S:Sat w0 B6 [Box Bf 39 [i_ (D.length:Int),n_],Box Y 39 [i_ 0,n_]]:=S.rems 4 [0,1] rfl;refine ag (pe (.agg #[i_ (D.length:Int),n_]) (aw (cs:=[i_ (D.length:Int),n_]) Cr rfl (az (S.boxAt 0 rfl))) ?_);refine ap (S.top 1 rfl) BA [i_ (D.length:Int),n_] rfl rfl (dt rfl) (all_cons rfl (all_cons rfl rfl)) ?_;intro CV S;replace S:Sat w0 CV [Box Y 39 [i_ (D.length:Int),n_],Box Bf 39 [i_ (D.length:Int),n_]]:=S;refine en Ea (aj (tr CU ?_));replace S:=S.nil R0_ 28;refine ew (cs:=[i_ (D.length:Int),n_]) rfl BA rfl (az (S.boxAt 1 rfl))  ?_;have hr:=Option.some.inj F;exact ⟨n_,congrArg (fun (r:Int × List T0_)=>Ending.returned (.agg #[i_ r.1,n_])) hr,Eq.mp (congrArg (fun (r:Int × List T0_)=>Sat w0 CV [Own R3_ [n_] r.2]) hr) (S.keep 1)⟩
 refine eo (an Bl) (eo (an Bl) (eo (an Bl) (eo (an Bl) (eo (an Bl) (eo (an Bl) (pe (.bool true) (av rfl (an Bl) rfl) (en CG (ct rfl ?_))))))));refine sg fun _ Eb=>?_;replace S:Sat w0 Ca [Box Bf 39 [i_ (D.length:Int),n_],Box Y 39 [i_ 0,n_]]:=S.rems 6 [1,2,3,5] rfl;refine ag (pe (.agg #[i_ (D.length:Int),n_]) (aw (cs:=[i_ (D.length:Int),n_]) rfl rfl (az (S.boxAt 0 rfl))) ?_);refine ap (S.top 1 rfl) rfl [i_ (D.length:Int),n_] rfl rfl (dt rfl) (all_cons rfl (all_cons rfl rfl)) ?_;intro CX S;replace S:Sat w0 CX [Box Y 39 [i_ (D.length:Int),n_],Box Bf 39 [i_ (D.length:Int),n_]]:=S;refine en Eb (aj (tr Cb ?_));replace S:=S.nil R0_ 28;refine ew (cs:=[i_ (D.length:Int),n_]) rfl rfl rfl (az (S.boxAt 1 rfl))  ?_;have hr:=Option.some.inj F;exact ⟨n_,congrArg (fun (r:Int × List T0_)=>Ending.returned (.agg #[i_ r.1,n_])) hr,Eq.mp (congrArg (fun (r:Int × List T0_)=>Sat w0 CX [Own R3_ [n_] r.2]) hr) (S.keep 1)⟩
theorem io {w0:World} {a0:ByteArray} {u1:Value} {a1:List Int} {u2:Value} {a2:List Int} (ha0:a0.size ≤ 9223372036854775807) (ha1:R0_.rd w0 [u1] a1) (ha2:R0_.rd w0 [u2] a2) {N:Nat} {r:T0_} (F:fK N a0 a1 a2=some r): Calls Tryz.prog 102 #[.agg #[.string a0,u1],u2] w0 fun e w'=>∃ (q0:Value),e=.returned (q0)∧Sat w0 w' [Own R0_ [q0] r] := by
 unfold fK at F;refine aJ Tryz.func102 rfl rfl (dt rfl) ?_;have S:=Sat.start w0;refine sR fun _ BK=>?_;refine bl [.string a0,u1] rfl S (dt rfl) ?_;intro B6 B7 S BZ;refine pa n_ (en BK ?_);refine sR fun _ BL=>?_;refine pe (.agg #[.string a0,u1]) (aw (cs:=[.string a0,u1]) rfl rfl (az (S.boxAt 0 rfl))) ?_;obtain ⟨Bi,Bz,F⟩:=ob F;refine ec1 vz (kX ha0 (S.up ha1) Bz) (ca (ai rfl rfl)) S fun BM Z B0 S=>?_;refine pa Z (en BL ?_);refine sg fun _ BN=>?_;replace S:Sat w0 BM [Own R0_ [Z] Bi]:=S.rems 2 [1] rfl;refine ag ?_;refine aQ bR S (dt rfl) ?_;intro B8 Bt S B1;refine pa Bt (en BN ?_);refine sg fun _ BO=>?_;refine sR fun _ BP=>?_;refine pa (i_ 0) (en BP ?_);refine bg fun _ BQ=>?_;obtain ⟨BR,hL,BA⟩:=ob F;refine aH (fun k e w=>∃ (D:Value),∃ (Bd:List Int),∃ (U:Int),e 1=u2∧e 5=Z∧e 6=D∧e 7=i_ U∧Sat w0 w [Own R0_ [D] Bd,Own R0_ [Z] Bi]∧bV N k a2 Bi Bd U=some BR) N ?_ ?_ ?_
 ·exact ⟨Bt,[],0,rfl,rfl,rfl,rfl,S,hL⟩
 ·rintro e w ⟨_,_,_,_,_,_,_,_,hz⟩; exact nomatch (show none=some _ from hz)
 rintro k B9 Bu ⟨D,Bd,U,Be,Bh,Bf,Bg,S,F⟩;refine gn fun _ Bj=>?_;refine sg fun _ Bv=>?_;refine sR fun _ BS=>?_;refine pM (i_ U) Bg (pM u2 Be (pe (i_ (a2.length:Int)) (au rfl ha2) (pe (.bool (decide (U < (a2.length:Int)))) (aL rfl rfl) (en BS ?_))));rcases oif F with ⟨Bk,F⟩|⟨Bk,F⟩
 ·refine ct Bk (sn Bv ?_);refine sg fun _ Bm=>?_;refine bg fun _ Bn=>?_;refine sR fun _ BT=>?_;refine pM Z Bh (pM u2 Be (pM (i_ U) Bg ?_));obtain ⟨BU,BB,F⟩:=ob F;refine aI (wA:=w0) rfl ha2 rfl (dt rfl) rfl BB (dt rfl) ?_;intro Ca B2 Cb BC BD;obtain rfl:=BC;refine pe (i_ BU) (ac rfl ((ak S.below BD) 0 _ rfl)) ?_;obtain ⟨Y,BE,F⟩:=ob F;refine ec0 kD (dZ (S.rdAt (R:=R0_) 1 rfl) BE) (ca (ai rfl (ai rfl rfl))) S fun Cc B3 S=>?_;refine pa (i_ Y) (en BT ?_);refine sR fun _ Bw=>?_;refine pm (i_ Y) (pe (.bool (decide (0 ≤ Y))) (dR rfl rfl) (pm (.bool (decide (0 ≤ Y))) ?_));rcases oif F with ⟨J,F⟩|⟨J,F⟩
  ·refine ei J (pM D Bf (ei J (pm (i_ Y) (ei J ?_))));obtain ⟨Bx,BF,F⟩:=ob F;refine ec0 kD (dZ (S.rdAt (R:=R0_) 0 rfl) BF) (ca (ai rfl (ai rfl rfl))) S fun Cd B4 S=>?_;refine ei J (pe (.bool (decide (Bx < 0))) (aL rfl rfl) (pe (.bool (decide (Bx < 0))) (av rfl J rfl) (en Bw ?_)));rcases oif F with ⟨Bl,F⟩|⟨Bl,F⟩
   ·refine ct Bl (ag (pM D Bf (pm (i_ Y) ?_)));refine aq [i_ Y] rfl (by rfl) (dt rfl) rfl (dt rfl) S (dt rfl) ?_;intro BV BW S B5;obtain ⟨By,BG,F⟩:=ob F;have Bs:=S.boxRow 0 rfl;replace S:Sat w0 BV [Own R0_ [D] Bd,Box BW 3 [i_ Y],Own R0_ [Z] Bi]:=S.top 1 rfl;replace S:=S.int Y;replace S:=S.one;refine aB rfl (dt rfl) rfl (dt rfl) S rfl rfl rfl (by simp) Bs BG (dt rfl) ?_;intro BX Bo S;refine pa Bo (ah (bn Bn (tn Bm ?_)));replace S:Sat w0 BX [Own R0_ [Bo] By,Own R0_ [Z] Bi]:=S.rems 3 [1] rfl;refine ag (pM (i_ U) Bg ?_);obtain ⟨Bp,BH,F⟩:=ob F;refine pe (i_ Bp) (aD rfl rfl BH) (pa (i_ Bp) (en Bj ?_));replace S:=S.keep 2;exact ⟨Bo,By,Bp,Be,Bh,rfl,rfl,S,F⟩
   refine cf Bl (aT (bn Bn (tn Bm (ag (pM (i_ U) Bg ?_)))));obtain ⟨Bq,BI,F⟩:=ob F;refine pe (i_ Bq) (aD rfl rfl BI) (pa (i_ Bq) (en Bj ?_));replace S:=S.keep 2;exact ⟨D,Bd,Bq,Be,Bh,Bf,rfl,S,F⟩
  refine eo J (eo J (eo J (eo J (pe (.bool false) (aC rfl J rfl) (en Bw (cf rfl (aT (bn Bn (tn Bm (ag (pM (i_ U) Bg ?_)))))))))));obtain ⟨Br,BJ,F⟩:=ob F;refine pe (i_ Br) (aD rfl rfl BJ) (pa (i_ Br) (en Bj ?_));replace S:=S.keep 2;exact ⟨D,Bd,Br,Be,Bh,Bf,rfl,S,F⟩
 refine cf Bk (aF (tx Bv (tx Bj ?_)));replace F:=exB F BA;refine bS BQ (tn BO ?_);refine sg fun _ BY=>?_;replace S:Sat w0 Bu [Own R0_ [D] Bd]:=S.rems 2 [1] rfl;refine ag (pM D Bf (pa D (en BY (aj (aK rfl rfl ?_)))));have hr:=Option.some.inj F;exact ⟨D,congrArg (fun (r:T0_)=>Ending.returned (D)) hr,Eq.mp (congrArg (fun (r:T0_)=>Sat w0 Bu [Own R0_ [D] r]) hr) (S.keep 1)⟩
theorem mz {w0:World} {u0:Value} {a0:List T7_} {a1:Int} {u2:Value} {a2:List T3_} {u3:Value} {a3:List Int} {u4:Value} {a4:List Int} (ha0:aV.rd w0 [u0] a0) (ha2:R7_.rd w0 [u2] a2) (ha3:R0_.rd w0 [u3] a3) (ha4:R0_.rd w0 [u4] a4) {N:Nat} {r:T6_ × Bool} (F:gG N a0 a1 a2 a3 a4=some r): Calls Tryz.prog 54 #[.agg #[u0],.agg #[i_ a1,u2,u3],u4] w0 fun e w'=>∃ (q0:Value),e=.returned (.tuple #[q0,.bool r.2])∧Sat w0 w' [Own bk [q0] r.1] := by
 unfold gG at F;refine aJ Tryz.func54 rfl rfl (dt rfl) ?_;have S:=Sat.start w0;refine sR fun _ Cu=>?_;refine bl [u0] rfl S (dt rfl) ?_;intro CS Bd S CJ;refine bl [i_ a1,u2,u3] rfl S (dt rfl) ?_;intro CT Y S CK;refine pa n_ (pa (.bool false) (en Cu ?_));refine sR fun _ Cv=>?_;refine aQ R6_ S (dt rfl) ?_;intro CU Bk S CL;refine pa Bk (en Cv ?_);refine sg fun _ BG=>?_;refine sR fun _ BQ=>?_;refine pe (.agg #[u0]) (aw (cs:=[u0]) rfl rfl (az (S.boxAt 2 rfl))) (pe (.agg #[i_ a1,u2,u3]) (aw (cs:=[i_ a1,u2,u3]) rfl rfl (az (S.boxAt 1 rfl))) ?_);obtain ⟨BR,B9,F⟩:=ob F;refine ec0 Ak (pE (S.up ha0) (S.up ha2) (S.up ha3) B9) (ca (ai rfl (ai rfl rfl))) S fun BS CM S=>?_;refine pe (.bool (!BR)) (a7 rfl) (pm (.bool (!BR)) ?_);rcases oif F with ⟨Bl,F⟩|⟨Bl,F⟩
 ·refine ei (am Bl) (pe (.agg #[i_ a1,u2,u3]) (aw (cs:=[i_ a1,u2,u3]) rfl rfl (az (S.boxAt 1 rfl))) (ei (am Bl) (pm u4 (ei (am Bl) ?_))));obtain ⟨BT,Ca,F⟩:=ob F;refine ec0 Am (oY (S.up ha2) (S.up ha3) (S.up ha4) Ca) (ca (ai rfl (ai rfl rfl))) S fun BU CN S=>?_;refine ei (am Bl) (pe (.bool (!BT)) (a7 rfl) (pe (.bool (!BT)) (aC rfl (am Bl) rfl) (en BQ ?_)));rcases oif F with ⟨Bx,F⟩|⟨Bx,F⟩
  ·refine cf (am Bx) (sn BG ?_);refine sg fun _ BV=>?_;refine sR fun _ Cw=>?_;refine pa (i_ 0) (en Cw ?_);refine bg fun _ BW=>?_;obtain ⟨Cx,hL,BL⟩:=ob F;refine aH (fun k e w=>∃ (U:Value),∃ (Be:List T4_),∃ (Bm:Int),e 2=u4∧e 3=.pointer (some ⟨Bd,0,none⟩)∧e 4=.pointer (some ⟨Y,0,none⟩)∧e 8=U∧e 9=i_ Bm∧Sat w0 w [Own bk [U] Be,Box Y 30 [i_ a1,u2,u3],Box Bd 26 [u0]]∧dz N k a4 a0 a1 a2 a3 Be Bm=some Cx) N ?_ ?_ ?_
   ·exact ⟨Bk,[],0,rfl,rfl,rfl,rfl,rfl,S,hL⟩
   ·rintro e w ⟨_,_,_,_,_,_,_,_,_,hz⟩; exact nomatch (show none=some _ from hz)
   rintro k CV BX ⟨U,Be,Bm,Br,Bs,Bn,Bt,Bo,S,F⟩;refine gn fun _ BH=>?_;refine sg fun _ BY=>?_;refine sR fun _ Cy=>?_;refine pM (i_ Bm) Bo (pe (.pointer (some ⟨Y,0 + 1,none⟩)) (ae Bn) (pe u2 (ac rfl ((S.boxAt 1 rfl) 1 _ rfl)) (pe (i_ (a2.length:Int)) (au rfl ha2) (pe (.bool (decide (Bm < (a2.length:Int)))) (aL rfl rfl) (en Cy ?_)))));rcases oif F with ⟨By,F⟩|⟨By,F⟩
   ·refine ct By (sn BY ?_);refine sg fun _ BZ=>?_;refine bg fun _ B0=>?_;refine sg fun _ Cz=>?_;obtain ⟨B1,Cb,F⟩:=ob F;obtain ⟨B2,Cc,F⟩:=ob F;obtain ⟨Bg,BM,F⟩:=ob F;obtain ⟨Bi,Bz,F⟩:=ob F;obtain ⟨D,Bu,F⟩:=ob F;refine mo (fun e w=>∃ (Z:Nat),∃ (J:Value),e 2=u4∧e 3=.pointer (some ⟨Bd,0,none⟩)∧e 4=.pointer (some ⟨Y,0,none⟩)∧e 8=U∧e 9=i_ Bm∧e 10=.pointer (some ⟨Z,0,none⟩)∧e 11=.bool D.2∧Sat w0 w [Box Y 30 [i_ a1,u2,u3],Box Bd 26 [u0],Own bk [U] Be,Box Z 114 [i_ D.1.1,J],Own R3_ [J] D.1.2]) ?_ ?_
    ·obtain ⟨C,hCd⟩:∃ C:World → Prop,∀ w,C w ↔ ∃ G,Sat w0 w ([Box Y 30 [i_ a1,u2,u3],Box Bd 26 [u0]] ++ G):=⟨_,fun _=>Iff.rfl⟩;refine cu [0,1,2,3,4,5,6,7,8,9,10,11,12,13,14,15,16,17,18,19,20] C (by kernel_rfl) ?_;intro CA Cd;replace S:=S.ext Cd;replace S:Sat w0 CA [Box Y 30 [i_ a1,u2,u3],Box Bd 26 [u0],Own bk [U] Be]:=S.tops 3 [1,2] rfl;have hC:=(hCd _).2 ⟨_,S⟩;refine aP (.agg #[u0]) 0 rfl rfl hC (aE rfl (fun w' hw'=>by obtain ⟨_,S⟩:=(hCd _).1 hw'; exact (aw (cs:=[u0]) Bs rfl (az (S.boxAt 1 rfl))))) ?_;refine aP (.pointer (some ⟨Y,0 + 1,none⟩)) 1 rfl rfl hC (aE rfl (fun w' hw'=>by obtain ⟨_,S⟩:=(hCd _).1 hw'; exact (ae Bn))) ?_;refine aP u2 2 rfl rfl hC (aE rfl (fun w' hw'=>by obtain ⟨_,S⟩:=(hCd _).1 hw'; exact (ac rfl ((S.boxAt 0 rfl) 1 _ rfl)))) ?_;refine aP (i_ Bm) 3 rfl rfl hC (aE rfl (fun w' hw'=>by obtain ⟨_,S⟩:=(hCd _).1 hw'; exact (aZ Bo))) ?_;refine jk (wA:=w0) (by kernel_rfl) 4 rfl hC (by kernel_rfl) (by kernel_rfl) rfl ha2 rfl (dt rfl) rfl Cb (dt rfl) ?_;intro CX CO CY Ce Cf;obtain ⟨_,_,rfl,Cg,BA⟩:=Ce;obtain ⟨rfl,BN⟩:=Cg;obtain ⟨B3,rfl⟩:=ax BA;refine aP (.agg #[.string B1.1,B3]) 5 rfl rfl hC (aE rfl (fun w' hw'=>by obtain ⟨_,S⟩:=(hCd _).1 hw'; exact (aw (cs:=[.string B1.1,B3]) rfl rfl (ak S.below Cf)))) ?_;refine aP (.pointer (some ⟨Y,0 + 1,none⟩)) 7 rfl rfl hC (aE rfl (fun w' hw'=>by obtain ⟨_,S⟩:=(hCd _).1 hw'; exact (ae Bn))) ?_;refine aP u2 8 rfl rfl hC (aE rfl (fun w' hw'=>by obtain ⟨_,S⟩:=(hCd _).1 hw'; exact (ac rfl ((S.boxAt 0 rfl) 1 _ rfl)))) ?_;refine aP (i_ Bm) 9 rfl rfl hC (aE rfl (fun w' hw'=>by obtain ⟨_,S⟩:=(hCd _).1 hw'; exact (aZ Bo))) ?_;refine jk (wA:=w0) (by kernel_rfl) 10 rfl hC (by kernel_rfl) (by kernel_rfl) rfl ha2 rfl (dt rfl) rfl Cc (dt rfl) ?_;intro CZ CP C0 Ch Ci;obtain ⟨_,_,rfl,Cj,Bv⟩:=Ch;obtain ⟨rfl,BB⟩:=Cj;obtain ⟨B4,rfl⟩:=ax Bv;refine aP (.agg #[.string B2.1,B4]) 11 rfl rfl hC (aE rfl (fun w' hw'=>by obtain ⟨_,S⟩:=(hCd _).1 hw'; exact (aw (cs:=[.string B2.1,B4]) rfl rfl (ak S.below Ci)))) ?_;refine aP u4 12 rfl rfl hC (aE rfl (fun w' hw'=>by obtain ⟨_,S⟩:=(hCd _).1 hw'; exact (aZ Br))) ?_;refine gA 6 18 (by kernel_rfl) rfl rfl ?_ ?_
     ·refine ec1 vy (lE (S.up ha0) BN (S.up BA) BM) (ca (ai rfl (ai rfl rfl))) S fun BI Bf Ck S=>?_;refine ah ?_;replace S:Sat w0 BI [Box Y 30 [i_ a1,u2,u3],Box Bd 26 [u0],Own R3_ [Bf] Bg.2,Own bk [U] Be]:=S.tops 4 [1,2] rfl;have hC:=(hCd _).2 ⟨_,S⟩;refine ⟨fun _=>hC,?_⟩;refine gA 13 18 (by kernel_rfl) rfl rfl ?_ ?_
      ·refine ec1 sI (io BB (S.up Bv) (S.up ha4) Bz) (ca (ai rfl (ai rfl rfl))) S fun Bw Bh BO S=>?_;refine ah ?_;replace S:Sat w0 Bw [Box Y 30 [i_ a1,u2,u3],Box Bd 26 [u0],Own R0_ [Bh] Bi,Own R3_ [Bf] Bg.2,Own bk [U] Be]:=S.tops 5 [1,2] rfl;have hC:=(hCd _).2 ⟨_,S⟩;refine ⟨fun _=>hC,?_⟩;refine gA 14 18 (by kernel_rfl) rfl rfl ?_ ?_
       ·refine ec1 qx (iT (S.rdAt (R:=R3_) 3 rfl) (S.rdAt (R:=R0_) 2 rfl) Bu) (ca (ai rfl (ai rfl rfl))) S fun Bp J BC S=>?_;refine ah ?_;replace S:Sat w0 Bp [Box Y 30 [i_ a1,u2,u3],Box Bd 26 [u0],Own R3_ [J] D.1.2,Own R0_ [Bh] Bi,Own R3_ [Bf] Bg.2,Own bk [U] Be]:=S.tops 6 [1,2] rfl;have hC:=(hCd _).2 ⟨_,S⟩;refine ⟨fun _=>hC,?_⟩;refine aP (.tuple #[.agg #[i_ D.1.1,J],.bool D.2]) 15 rfl rfl hC (aE rfl (fun w' hw'=>by obtain ⟨_,S⟩:=(hCd _).1 hw'; exact (aZ rfl))) ?_;refine aP (.agg #[i_ D.1.1,J]) 16 rfl rfl hC (aE rfl (fun w' hw'=>by obtain ⟨_,S⟩:=(hCd _).1 hw'; exact (ay rfl rfl))) ?_;refine aP (.bool D.2) 17 rfl rfl hC (aE rfl (fun w' hw'=>by obtain ⟨_,S⟩:=(hCd _).1 hw'; exact (ay rfl rfl))) ?_;refine aO 18 rfl ?_;refine aM S (dt rfl) ?_;intro Bq Z S BD;refine ah ?_;replace S:Sat w0 Bq [Box Y 30 [i_ a1,u2,u3],Box Bd 26 [u0],Box Z 114 [i_ 0,n_],Own R3_ [J] D.1.2,Own R0_ [Bh] Bi,Own R3_ [Bf] Bg.2,Own bk [U] Be]:=S.tops 7 [1,2] rfl;have hC:=(hCd _).2 ⟨_,S⟩;refine ⟨fun _=>hC,?_⟩;refine aO 19 rfl ?_;refine ap (S.top 2 rfl) rfl [i_ D.1.1,J] rfl rfl (dt rfl) (all_cons rfl (all_cons (oc (S.rdAt (R:=R3_) 3 rfl)) rfl)) ?_;intro Bj S;replace S:Sat w0 Bj [Box Z 114 [i_ D.1.1,J],Box Y 30 [i_ a1,u2,u3],Box Bd 26 [u0],Own R3_ [J] D.1.2,Own R0_ [Bh] Bi,Own R3_ [Bf] Bg.2,Own bk [U] Be]:=S;refine ah ?_;replace S:Sat w0 Bj [Box Y 30 [i_ a1,u2,u3],Box Bd 26 [u0],Box Z 114 [i_ D.1.1,J],Own R3_ [J] D.1.2,Own R0_ [Bh] Bi,Own R3_ [Bf] Bg.2,Own bk [U] Be]:=S.tops 7 [1,2] rfl;have hC:=(hCd _).2 ⟨_,S⟩;refine ⟨fun _=>hC,?_⟩;refine aO 20 rfl ?_;refine pa (.bool D.2) (ah ?_);refine ⟨fun _=>hC,?_⟩;refine bI (by kernel_rfl) ?_;replace S:Sat w0 Bj [Box Y 30 [i_ a1,u2,u3],Box Bd 26 [u0],Own bk [U] Be,Box Z 114 [i_ D.1.1,J],Own R3_ [J] D.1.2,Own R0_ [Bh] Bi,Own R3_ [Bf] Bg.2]:=S.tops 7 [0,1,6,2,3] rfl;replace S:Sat w0 Bj [Box Y 30 [i_ a1,u2,u3],Box Bd 26 [u0],Own bk [U] Be,Box Z 114 [i_ D.1.1,J],Own R3_ [J] D.1.2]:=S.rems 7 [5,6] rfl;exact ⟨rfl,Z,J,Br,Bs,Bn,Bt,Bo,rfl,rfl,S⟩
       refine aM S (dt rfl) ?_;intro Bq Z S BD;refine ah ?_;replace S:Sat w0 Bq [Box Y 30 [i_ a1,u2,u3],Box Bd 26 [u0],Box Z 114 [i_ 0,n_],Own R0_ [Bh] Bi,Own R3_ [Bf] Bg.2,Own bk [U] Be]:=S.tops 6 [1,2] rfl;have hC:=(hCd _).2 ⟨_,S⟩;refine ⟨fun _=>hC,?_⟩;refine aO 14 rfl ?_;refine ec1 qx (iT (S.rdAt (R:=R3_) 4 rfl) (S.rdAt (R:=R0_) 3 rfl) Bu) (ca (ai rfl (ai rfl rfl))) S fun Bp J BC S=>?_;refine ah ?_;replace S:Sat w0 Bp [Box Y 30 [i_ a1,u2,u3],Box Bd 26 [u0],Own R3_ [J] D.1.2,Box Z 114 [i_ 0,n_],Own R0_ [Bh] Bi,Own R3_ [Bf] Bg.2,Own bk [U] Be]:=S.tops 7 [1,2] rfl;have hC:=(hCd _).2 ⟨_,S⟩;refine ⟨fun _=>hC,?_⟩;refine aO 15 rfl ?_;refine pm (.tuple #[.agg #[i_ D.1.1,J],.bool D.2]) (ah ?_);refine ⟨fun _=>hC,?_⟩;refine aP (.agg #[i_ D.1.1,J]) 16 rfl rfl hC (aE rfl (fun w' hw'=>by obtain ⟨_,S⟩:=(hCd _).1 hw'; exact (ay rfl rfl))) ?_;refine aP (.bool D.2) 17 rfl rfl hC (aE rfl (fun w' hw'=>by obtain ⟨_,S⟩:=(hCd _).1 hw'; exact (ay rfl rfl))) ?_;refine aO 19 rfl ?_;refine ap (S.top 3 rfl) rfl [i_ D.1.1,J] rfl rfl (dt rfl) (all_cons rfl (all_cons (oc (S.rdAt (R:=R3_) 2 rfl)) rfl)) ?_;intro Bj S;replace S:Sat w0 Bj [Box Z 114 [i_ D.1.1,J],Box Y 30 [i_ a1,u2,u3],Box Bd 26 [u0],Own R3_ [J] D.1.2,Own R0_ [Bh] Bi,Own R3_ [Bf] Bg.2,Own bk [U] Be]:=S;refine ah ?_;replace S:Sat w0 Bj [Box Y 30 [i_ a1,u2,u3],Box Bd 26 [u0],Box Z 114 [i_ D.1.1,J],Own R3_ [J] D.1.2,Own R0_ [Bh] Bi,Own R3_ [Bf] Bg.2,Own bk [U] Be]:=S.tops 7 [1,2] rfl;have hC:=(hCd _).2 ⟨_,S⟩;refine ⟨fun _=>hC,?_⟩;refine aO 20 rfl ?_;refine pa (.bool D.2) (ah ?_);refine ⟨fun _=>hC,?_⟩;refine bI (by kernel_rfl) ?_;replace S:Sat w0 Bj [Box Y 30 [i_ a1,u2,u3],Box Bd 26 [u0],Own bk [U] Be,Box Z 114 [i_ D.1.1,J],Own R3_ [J] D.1.2,Own R0_ [Bh] Bi,Own R3_ [Bf] Bg.2]:=S.tops 7 [0,1,6,2,3] rfl;replace S:Sat w0 Bj [Box Y 30 [i_ a1,u2,u3],Box Bd 26 [u0],Own bk [U] Be,Box Z 114 [i_ D.1.1,J],Own R3_ [J] D.1.2]:=S.rems 7 [5,6] rfl;exact ⟨rfl,Z,J,Br,Bs,Bn,Bt,Bo,rfl,rfl,S⟩
      refine aM S (dt rfl) ?_;intro Bq Z S BD;refine ah ?_;replace S:Sat w0 Bq [Box Y 30 [i_ a1,u2,u3],Box Bd 26 [u0],Box Z 114 [i_ 0,n_],Own R3_ [Bf] Bg.2,Own bk [U] Be]:=S.tops 5 [1,2] rfl;have hC:=(hCd _).2 ⟨_,S⟩;refine ⟨fun _=>hC,?_⟩;refine aO 13 rfl ?_;refine ec1 sI (io BB (S.up Bv) (S.up ha4) Bz) (ca (ai rfl (ai rfl rfl))) S fun Bw Bh BO S=>?_;refine ah ?_;replace S:Sat w0 Bw [Box Y 30 [i_ a1,u2,u3],Box Bd 26 [u0],Own R0_ [Bh] Bi,Box Z 114 [i_ 0,n_],Own R3_ [Bf] Bg.2,Own bk [U] Be]:=S.tops 6 [1,2] rfl;have hC:=(hCd _).2 ⟨_,S⟩;refine ⟨fun _=>hC,?_⟩;refine aO 14 rfl ?_;refine ec1 qx (iT (S.rdAt (R:=R3_) 4 rfl) (S.rdAt (R:=R0_) 2 rfl) Bu) (ca (ai rfl (ai rfl rfl))) S fun Bp J BC S=>?_;refine ah ?_;replace S:Sat w0 Bp [Box Y 30 [i_ a1,u2,u3],Box Bd 26 [u0],Own R3_ [J] D.1.2,Own R0_ [Bh] Bi,Box Z 114 [i_ 0,n_],Own R3_ [Bf] Bg.2,Own bk [U] Be]:=S.tops 7 [1,2] rfl;have hC:=(hCd _).2 ⟨_,S⟩;refine ⟨fun _=>hC,?_⟩;refine aO 15 rfl ?_;refine pm (.tuple #[.agg #[i_ D.1.1,J],.bool D.2]) (ah ?_);refine ⟨fun _=>hC,?_⟩;refine aP (.agg #[i_ D.1.1,J]) 16 rfl rfl hC (aE rfl (fun w' hw'=>by obtain ⟨_,S⟩:=(hCd _).1 hw'; exact (ay rfl rfl))) ?_;refine aP (.bool D.2) 17 rfl rfl hC (aE rfl (fun w' hw'=>by obtain ⟨_,S⟩:=(hCd _).1 hw'; exact (ay rfl rfl))) ?_;refine aO 19 rfl ?_;refine ap (S.top 4 rfl) rfl [i_ D.1.1,J] rfl rfl (dt rfl) (all_cons rfl (all_cons (oc (S.rdAt (R:=R3_) 2 rfl)) rfl)) ?_;intro Bj S;replace S:Sat w0 Bj [Box Z 114 [i_ D.1.1,J],Box Y 30 [i_ a1,u2,u3],Box Bd 26 [u0],Own R3_ [J] D.1.2,Own R0_ [Bh] Bi,Own R3_ [Bf] Bg.2,Own bk [U] Be]:=S;refine ah ?_;replace S:Sat w0 Bj [Box Y 30 [i_ a1,u2,u3],Box Bd 26 [u0],Box Z 114 [i_ D.1.1,J],Own R3_ [J] D.1.2,Own R0_ [Bh] Bi,Own R3_ [Bf] Bg.2,Own bk [U] Be]:=S.tops 7 [1,2] rfl;have hC:=(hCd _).2 ⟨_,S⟩;refine ⟨fun _=>hC,?_⟩;refine aO 20 rfl ?_;refine pa (.bool D.2) (ah ?_);refine ⟨fun _=>hC,?_⟩;refine bI (by kernel_rfl) ?_;replace S:Sat w0 Bj [Box Y 30 [i_ a1,u2,u3],Box Bd 26 [u0],Own bk [U] Be,Box Z 114 [i_ D.1.1,J],Own R3_ [J] D.1.2,Own R0_ [Bh] Bi,Own R3_ [Bf] Bg.2]:=S.tops 7 [0,1,6,2,3] rfl;replace S:Sat w0 Bj [Box Y 30 [i_ a1,u2,u3],Box Bd 26 [u0],Own bk [U] Be,Box Z 114 [i_ D.1.1,J],Own R3_ [J] D.1.2]:=S.rems 7 [5,6] rfl;exact ⟨rfl,Z,J,Br,Bs,Bn,Bt,Bo,rfl,rfl,S⟩
     refine aM S (dt rfl) ?_;intro Bq Z S BD;refine ah ?_;replace S:Sat w0 Bq [Box Y 30 [i_ a1,u2,u3],Box Bd 26 [u0],Box Z 114 [i_ 0,n_],Own bk [U] Be]:=S.tops 4 [1,2] rfl;have hC:=(hCd _).2 ⟨_,S⟩;refine ⟨fun _=>hC,?_⟩;refine aO 6 rfl ?_;refine ec1 vy (lE (S.up ha0) BN (S.up BA) BM) (ca (ai rfl (ai rfl rfl))) S fun BI Bf Ck S=>?_;refine ah ?_;replace S:Sat w0 BI [Box Y 30 [i_ a1,u2,u3],Box Bd 26 [u0],Own R3_ [Bf] Bg.2,Box Z 114 [i_ 0,n_],Own bk [U] Be]:=S.tops 5 [1,2] rfl;have hC:=(hCd _).2 ⟨_,S⟩;refine ⟨fun _=>hC,?_⟩;refine aO 13 rfl ?_;refine ec1 sI (io BB (S.up Bv) (S.up ha4) Bz) (ca (ai rfl (ai rfl rfl))) S fun Bw Bh BO S=>?_;refine ah ?_;replace S:Sat w0 Bw [Box Y 30 [i_ a1,u2,u3],Box Bd 26 [u0],Own R0_ [Bh] Bi,Own R3_ [Bf] Bg.2,Box Z 114 [i_ 0,n_],Own bk [U] Be]:=S.tops 6 [1,2] rfl;have hC:=(hCd _).2 ⟨_,S⟩;refine ⟨fun _=>hC,?_⟩;refine aO 14 rfl ?_;refine ec1 qx (iT (S.rdAt (R:=R3_) 3 rfl) (S.rdAt (R:=R0_) 2 rfl) Bu) (ca (ai rfl (ai rfl rfl))) S fun Bp J BC S=>?_;refine ah ?_;replace S:Sat w0 Bp [Box Y 30 [i_ a1,u2,u3],Box Bd 26 [u0],Own R3_ [J] D.1.2,Own R0_ [Bh] Bi,Own R3_ [Bf] Bg.2,Box Z 114 [i_ 0,n_],Own bk [U] Be]:=S.tops 7 [1,2] rfl;have hC:=(hCd _).2 ⟨_,S⟩;refine ⟨fun _=>hC,?_⟩;refine aO 15 rfl ?_;refine pm (.tuple #[.agg #[i_ D.1.1,J],.bool D.2]) (ah ?_);refine ⟨fun _=>hC,?_⟩;refine aP (.agg #[i_ D.1.1,J]) 16 rfl rfl hC (aE rfl (fun w' hw'=>by obtain ⟨_,S⟩:=(hCd _).1 hw'; exact (ay rfl rfl))) ?_;refine aP (.bool D.2) 17 rfl rfl hC (aE rfl (fun w' hw'=>by obtain ⟨_,S⟩:=(hCd _).1 hw'; exact (ay rfl rfl))) ?_;refine aO 19 rfl ?_;refine ap (S.top 5 rfl) rfl [i_ D.1.1,J] rfl rfl (dt rfl) (all_cons rfl (all_cons (oc (S.rdAt (R:=R3_) 2 rfl)) rfl)) ?_;intro Bj S;replace S:Sat w0 Bj [Box Z 114 [i_ D.1.1,J],Box Y 30 [i_ a1,u2,u3],Box Bd 26 [u0],Own R3_ [J] D.1.2,Own R0_ [Bh] Bi,Own R3_ [Bf] Bg.2,Own bk [U] Be]:=S;refine ah ?_;replace S:Sat w0 Bj [Box Y 30 [i_ a1,u2,u3],Box Bd 26 [u0],Box Z 114 [i_ D.1.1,J],Own R3_ [J] D.1.2,Own R0_ [Bh] Bi,Own R3_ [Bf] Bg.2,Own bk [U] Be]:=S.tops 7 [1,2] rfl;have hC:=(hCd _).2 ⟨_,S⟩;refine ⟨fun _=>hC,?_⟩;refine aO 20 rfl ?_;refine pa (.bool D.2) (ah ?_);refine ⟨fun _=>hC,?_⟩;refine bI (by kernel_rfl) ?_;replace S:Sat w0 Bj [Box Y 30 [i_ a1,u2,u3],Box Bd 26 [u0],Own bk [U] Be,Box Z 114 [i_ D.1.1,J],Own R3_ [J] D.1.2,Own R0_ [Bh] Bi,Own R3_ [Bf] Bg.2]:=S.tops 7 [0,1,6,2,3] rfl;replace S:Sat w0 Bj [Box Y 30 [i_ a1,u2,u3],Box Bd 26 [u0],Own bk [U] Be,Box Z 114 [i_ D.1.1,J],Own R3_ [J] D.1.2]:=S.rems 7 [5,6] rfl;exact ⟨rfl,Z,J,Br,Bs,Bn,Bt,Bo,rfl,rfl,S⟩
    rintro C1 CB ⟨Z,J,Cl,Cm,Cn,Co,Cp,Cq,Cr,S⟩;refine tn Cz ?_;refine sg fun _ B5=>?_;refine sR fun _ CC=>?_;refine pM (.bool D.2) Cr (pe (.bool (!D.2)) (a7 rfl) (en CC ?_));rcases oif F with ⟨BE,F⟩|⟨BE,F⟩
    ·refine cf (am BE) (sn B5 (ag (pM U Co (pe (.agg #[i_ D.1.1,J]) (aw (cs:=[i_ D.1.1,J]) Cq rfl (az (S.boxAt 3 rfl))) ?_))));refine aq [i_ D.1.1,J] rfl (by rfl) (dt rfl) rfl (dt rfl) S (dt rfl) ?_;intro B6 B7 S CQ;obtain ⟨B8,Cs,F⟩:=ob F;have BP:=S.boxRow 0 rfl;replace S:Sat w0 B6 [Own bk [U] Be,Box B7 114 [i_ D.1.1,J],Box Y 30 [i_ a1,u2,u3],Box Bd 26 [u0],Box Z 114 [i_ D.1.1,J],Own R3_ [J] D.1.2]:=S.top 3 rfl;replace S:Sat w0 B6 [Own R3_ [J] D.1.2,Own bk [U] Be,Box B7 114 [i_ D.1.1,J],Box Y 30 [i_ a1,u2,u3],Box Bd 26 [u0],Box Z 114 [i_ D.1.1,J]]:=S.top 5 rfl;replace S:=S.int D.1.1;replace S:=S.pair;replace S:=S.one;refine aB rfl (dt rfl) rfl (dt rfl) S rfl rfl rfl (by simp) BP Cs (dt rfl) ?_;intro CD BJ S;refine pa BJ (ah (bn B0 (tn BZ ?_)));replace S:Sat w0 CD [Own bk [BJ] B8,Box Y 30 [i_ a1,u2,u3],Box Bd 26 [u0]]:=S.rems 5 [1,4] rfl;refine ag (pM (i_ Bm) Cp ?_);obtain ⟨BK,Ct,F⟩:=ob F;refine pe (i_ BK) (aD rfl rfl Ct) (pa (i_ BK) (en BH ?_));replace S:=S.keep 3;exact ⟨BJ,B8,BK,Cl,Cm,Cn,rfl,rfl,S,F⟩
    refine ct (an BE) ?_;refine sg fun _ CE=>?_;replace S:Sat w0 CB []:=S.rems 5 [0,1,2,3,4] rfl;refine ag ?_;refine aQ R6_ S (dt rfl) ?_;intro CF BF S CR;refine pa BF (pa (.bool false) (en CE (aj (tr B5 (br B0 (tr BZ (tr BH (br BW (tr BV ?_)))))))));replace F:=exL F BL;refine fb rfl rfl rfl ?_;have hr:=Option.some.inj F;exact ⟨BF,congrArg (fun (r:T6_ × Bool)=>Ending.returned (.tuple #[BF,.bool r.2])) hr,Eq.mp (congrArg (fun (r:T6_ × Bool)=>Sat w0 CF [Own bk [BF] r.1]) hr) (S.keep 1)⟩
   refine cf By (aF (tx BY (tx BH ?_)));replace F:=exA F BL;refine bS BW (tn BV ?_);refine sg fun _ CG=>?_;replace S:Sat w0 BX [Own bk [U] Be]:=S.rems 3 [1,2] rfl;refine ag (pM U Bt (pa U (pa (.bool true) (en CG (aj (fb rfl rfl rfl ?_))))));have hr:=Option.some.inj F;exact ⟨U,congrArg (fun (r:T6_ × Bool)=>Ending.returned (.tuple #[U,.bool r.2])) hr,Eq.mp (congrArg (fun (r:T6_ × Bool)=>Sat w0 BX [Own bk [U] r.1]) hr) (S.keep 1)⟩
  refine ct (an Bx) ?_;refine sg fun _ CH=>?_;replace S:Sat w0 BU [Own bk [Bk] []]:=S.rems 3 [1,2] rfl;refine ag (pm Bk (pa Bk (pa (.bool false) (en CH (aj (tr BG (fb rfl rfl rfl ?_)))))));have hr:=Option.some.inj F;exact ⟨Bk,congrArg (fun (r:T6_ × Bool)=>Ending.returned (.tuple #[Bk,.bool r.2])) hr,Eq.mp (congrArg (fun (r:T6_ × Bool)=>Sat w0 BU [Own bk [Bk] r.1]) hr) (S.keep 1)⟩
 refine eo (an Bl) (eo (an Bl) (eo (an Bl) (eo (an Bl) (pe (.bool true) (av rfl (an Bl) rfl) (en BQ (ct rfl ?_))))));refine sg fun _ CI=>?_;replace S:Sat w0 BS [Own bk [Bk] []]:=S.rems 3 [1,2] rfl;refine ag (pm Bk (pa Bk (pa (.bool false) (en CI (aj (tr BG (fb rfl rfl rfl ?_)))))));have hr:=Option.some.inj F;exact ⟨Bk,congrArg (fun (r:T6_ × Bool)=>Ending.returned (.tuple #[Bk,.bool r.2])) hr,Eq.mp (congrArg (fun (r:T6_ × Bool)=>Sat w0 BS [Own bk [Bk] r.1]) hr) (S.keep 1)⟩

end Go.Proofs.YtoijldeajagjjaaGreat
