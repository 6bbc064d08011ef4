/- What functions of the program come to, written out by a program: none where a bound is passed. -/
import Derived.Test.YtnipkopfefkojaaV0
namespace Go.Proofs.Ytnipkopfefkojaa
open Go.RowKit
def cn (N:Nat):Nat→(List Int)→Int→(List (List Int))→(List Int)→Int→(List (List Int))→(List Int)→(List Int)→Int→Option ((List Int) × (List Int) × Int)
 | 0,_,_,_,_,_,_,_,_,_=>none
 | k+1,J,yi,yj,U,yk,yl,Y,Z,D =>
  (bif decide (D<(J.length:Int)) then
  (ix J D).bind fun yn =>
  (dD N U yn).bind fun ym =>
  (bif decide (0≤ym) then
  (apd 8 Y [D]).bind fun yo =>
  (apd 8 Z [ym]).bind fun yp =>
  (ad D 1).bind fun yq =>
  cn N k J yi yj U yk yl yo yp yq
  else
  (ad D 1).bind fun yr =>
  cn N k J yi yj U yk yl Y Z yr)
  else
  some (Y,Z,D))
def iw (N:Nat) (a0:List Int) (a1:Int) (a2:List (List Int)) (a3:List Int) (a4:Int) (a5:List (List Int)):Option ((List Int) × (List Int)) :=
  (cn N N a0 a1 a2 a3 a4 a5 [] [] 0).bind fun D =>
  lpB D fun (J,U,Y) =>
  some (J,U)
def cM (N:Nat):Nat→(List Int)→(List Int)→(List Int)→Int→Option ((List Int) × Int)
 | 0,_,_,_,_=>none
 | k+1,J,U,Y,D =>
  (bif decide (D<5) then
  (dD N J D).bind fun Z =>
  (bif decide (0≤Z) then
  (apd 8 Y [D]).bind fun yi =>
  (ad D 1).bind fun yj =>
  cM N k J U yi yj
  else
  (dD N U D).bind fun yk =>
  (bif decide (0≤yk) then
  (apd 8 Y [D]).bind fun yl =>
  (ad D 1).bind fun ym =>
  cM N k J U yl ym
  else
  (ad D 1).bind fun yn =>
  cM N k J U Y yn))
  else
  some (Y,D))
def iC (N:Nat) (a0:List Int) (a1:List Int):Option (List Int) :=
  (cM N N a0 a1 [] 0).bind fun D =>
  lpB D fun (J,U) =>
  some J
def dE (N:Nat):Nat→(List Int)→(List Int)→(List Int)→Int→Option ((List Int) × Int)
 | 0,_,_,_,_=>none
 | k+1,U,J,Y,D =>
  (bif decide (D<(J.length:Int)) then
  (ix J D).bind fun Z =>
  (ix U Z).bind fun yi =>
  (apd 8 Y [yi]).bind fun yj =>
  (ad D 1).bind fun yk =>
  dE N k U J yj yk
  else
  some (Y,D))
def gq (N:Nat) (a0:List Int) (a1:List Int):Option (List Int) :=
  (dE N N a0 a1 [] 0).bind fun D =>
  lpB D fun (J,U) =>
  some J
def cb (N:Nat):Nat→(List Int)→Int→(List (List Int))→(List Int)→Int→(List (List Int))→(List Int)→Int→(List (List Int))→(List Int)→(List Int)→(List Int)→(List (List Int))→Int→Int→(List Int)→Int→Option ((List Int) × Int)
 | 0,_,_,_,_,_,_,_,_,_,_,_,_,_,_,_,_,_=>none
 | k+1,U,ym,Y,Z,yn,yi,yo,yp,yq,yr,yt,J,yu,yj,yk,yl,D =>
  (bif decide (D<(J.length:Int)) then
  (ix J D).bind fun yx =>
  (dD N U yx).bind fun yw =>
  (bif decide (0≤yw) then
  (ix Y yj).bind fun yy =>
  (ix yy yw).bind fun yz =>
  (apd 8 yl [yz]).bind fun yA =>
  (ad D 1).bind fun yB =>
  cb N k U ym Y Z yn yi yo yp yq yr yt J yu yj yk yA yB
  else
  (ix yi yk).bind fun yC =>
  (ix J D).bind fun yD =>
  (dD N Z yD).bind fun yE =>
  (ix yC yE).bind fun yF =>
  (apd 8 yl [yF]).bind fun yG =>
  (ad D 1).bind fun yH =>
  cb N k U ym Y Z yn yi yo yp yq yr yt J yu yj yk yG yH)
  else
  some (yl,D))
def bP (N:Nat):Nat→(List Int)→Int→(List (List Int))→(List Int)→Int→(List (List Int))→(List Int)→Int→(List (List Int))→(List Int)→(List Int)→(List Int)→(List (List Int))→Int→Int→Option ((List (List Int)) × Int)
 | 0,_,_,_,_,_,_,_,_,_,_,_,_,_,_,_=>none
 | k+1,yk,yl,U,ym,yn,J,yo,yp,yq,Y,Z,yr,yi,yj,D =>
  (bif decide (D<(J.length:Int)) then
  (ix U yj).bind fun yt =>
  (ix J D).bind fun yu =>
  (gq N yt Y).bind fun yw =>
  (gq N yu Z).bind fun yx =>
  (bo N yw yx).bind fun yy =>
  (bif (yy != 0) then
  (ad D 1).bind fun yz =>
  bP N k yk yl U ym yn J yo yp yq Y Z yr yi yj yz
  else
  (cb N N yk yl U ym yn J yo yp yq Y Z yr yi yj D [] 0).bind fun yA =>
  lpB yA fun (yB,yE) =>
  (apd 24 yi [yB]).bind fun yC =>
  (ad D 1).bind fun yD =>
  bP N k yk yl U ym yn J yo yp yq Y Z yr yC yj yD)
  else
  some (yi,D))
def co (N:Nat):Nat→(List Int)→Int→(List (List Int))→(List Int)→Int→(List (List Int))→(List Int)→Int→(List (List Int))→(List Int)→(List Int)→(List Int)→(List (List Int))→Int→Option ((List (List Int)) × Int)
 | 0,_,_,_,_,_,_,_,_,_,_,_,_,_,_=>none
 | k+1,U,Y,J,Z,yi,yj,yk,yl,ym,yn,yo,yp,yq,D =>
  (bif decide (D<(J.length:Int)) then
  (bP N N U Y J Z yi yj yk yl ym yn yo yp yq D 0).bind fun yr =>
  lpB yr fun (yt,yw) =>
  (ad D 1).bind fun yu =>
  co N k U Y J Z yi yj yk yl ym yn yo yp yt yu
  else
  some (yq,D))
def fR (N:Nat) (a0:List Int) (a1:Int) (a2:List (List Int)) (a3:List Int) (a4:Int) (a5:List (List Int)):Option ((List Int × (Int × List (List Int))) × Bool) :=
  (db N a0 a1 a2).bind fun Y =>
  (bif Y then
  (db N a3 a4 a5).bind fun Z =>
  (bif Z then
  (iw N a0 a1 a2 a3 a4 a5).bind fun U =>
  (iC N a0 a3).bind fun D =>
  (co N N a0 a1 a2 a3 a4 a5 [] 0 [] U.1 U.2 D [] 0).bind fun yi =>
  lpB yi fun (yj,yk) =>
  (cq N (D.length:Int) yj).bind fun J =>
  (bif J.2 then
  some ((D,(J.1.1,J.1.2)),true)
  else
  some (([],(0,[])),false))
  else
  some (([],(0,[])),false))
  else
  some (([],(0,[])),false))
def dn (N:Nat):Nat→(List Int)→Int→(List (List Int))→Int→(List (List Int))→Int→Option (Sum ((Int × List (List Int)) × Bool) Int)
 | 0,_,_,_,_,_,_=>none
 | k+1,J,U,Y,Z,yi,D =>
  (bif decide (D<(J.length:Int)) then
  (ix J D).bind fun yj =>
  (sb U 1).bind fun yk =>
  (dy N yj 0 yk).bind fun yl =>
  (bif yl then
  (ad D 1).bind fun ym =>
  dn N k J U Y Z yi ym
  else
  some (.inl ((0,[]),false)))
  else
  some (.inr D))
def dp (N:Nat):Nat→(List Int)→Int→(List (List Int))→Int→(List (List Int))→(List (List Int))→Int→Option ((List (List Int)) × Int)
 | 0,_,_,_,_,_,_,_=>none
 | k+1,U,Z,J,yi,yj,Y,D =>
  (bif decide (D<(J.length:Int)) then
  (ix J D).bind fun yk =>
  (gq N yk U).bind fun yl =>
  (apd 24 Y [yl]).bind fun ym =>
  (ad D 1).bind fun yn =>
  dp N k U Z J yi yj ym yn
  else
  some (Y,D))
def fT (N:Nat) (a0:Int) (a1:List (List Int)) (a2:List Int):Option ((Int × List (List Int)) × Bool) :=
  (dn N N a2 a0 a1 0 [] 0).bind fun J =>
  lpS J (fun q=>some q) fun yi =>
  (cB N a0 a1).bind fun U =>
  (bif U then
  (bif decide (5<(a2.length:Int)) then
  some ((0,[]),false)
  else
  (dp N N a2 a0 a1 0 [] [] 0).bind fun Y =>
  lpB Y fun (Z,yj) =>
  (cq N (a2.length:Int) Z).bind fun D =>
  some ((D.1.1,D.1.2),D.2))
  else
  some ((0,[]),false))
def cA (N:Nat):Nat→(List (ByteArray × (Int × List (List Int))))→Int→(List (ByteArray × List Int))→(List Int)→Int→(List (List Int))→(List Int)→Int→(List (List Int))→Int→Int→Option (Sum ((Int × List (List Int)) × Int × Bool) ((List Int) × Int × (List (List Int)) × Int × Int))
 | 0,_,_,_,_,_,_,_,_,_,_,_=>none
 | k+1,Z,yn,U,yo,yp,yq,yi,yj,yk,yl,J =>
  (bif decide (J<(U.length:Int)) then
  (ix U J).bind fun ym =>
  (eD N Z ym.1 ym.2).bind fun Y =>
  (fR N yi yj yk Y.1 Y.2.1 Y.2.2).bind fun D =>
  (bif D.2 then
  (ad yl (D.1.2.2.length:Int)).bind fun yr =>
  (ad J 1).bind fun yt =>
  cA N k Z yn U yo yp yq D.1.1 D.1.2.1 D.1.2.2 yr yt
  else
  some (.inl ((0,[]),0,false)))
  else
  some (.inr (yi,yj,yk,yl,J)))
def fH (N:Nat) (a0:List (ByteArray × (Int × List (List Int)))) (a1:Int) (a2:List (ByteArray × List Int)) (a3:List Int):Option ((Int × List (List Int)) × Int × Bool) :=
  (ez N a0 a1 a2 a3).bind fun Y =>
  (bif Y then
  (ix a2 0).bind fun U =>
  (eD N a0 U.1 U.2).bind fun D =>
  (cA N N a0 a1 a2 a3 0 [] D.1 D.2.1 D.2.2 (D.2.2.length:Int) 1).bind fun Z =>
  lpS Z (fun q=>some q) fun (yl,yi,yj,yk,ym) =>
  (fT N yi yj a3).bind fun J =>
  some ((J.1.1,J.1.2),yk,J.2)
  else
  some ((0,[]),0,false))
def dF (rec:(List (ByteArray × (Int × List (List Int))))→Int→(List (ByteArray × List Int))→(List Int)→Int→(List Int)→Option (List (List Int))) (N:Nat):Nat→Int→(List Int)→(List (ByteArray × (Int × List (List Int))))→Int→(List (ByteArray × List Int))→(List Int)→(List (List Int))→Int→(List (List Int))→Int→(List Int)→Bool→Int→Option ((List Int) × Bool × Int)
 | 0,_,_,_,_,_,_,_,_,_,_,_,_,_=>none
 | k+1,yi,ym,yn,yo,yj,yp,yq,yk,Y,Z,J,yl,D =>
  (bif decide (D<yk) then
  (bif yl then
  (ix yj yi).bind fun yr =>
  (ix yr.2 D).bind fun U =>
  (ix J U).bind fun yt =>
  (bif (yt == (-1)) then
  (ix Y Z).bind fun yu =>
  (ix yu D).bind fun yw =>
  (ix J U).bind fun yG =>
  (sto J U yw).bind fun yx =>
  (ad D 1).bind fun yy =>
  dF rec N k yi ym yn yo yj yp yq yk Y Z yx true yy
  else
  (ix J U).bind fun yz =>
  (ix Y Z).bind fun yA =>
  (ix yA D).bind fun yB =>
  (ix Y Z).bind fun yC =>
  (ix yC D).bind fun yD =>
  (ix J U).bind fun yH =>
  (sto J U yD).bind fun yE =>
  (ad D 1).bind fun yF =>
  dF rec N k yi ym yn yo yj yp yq yk Y Z yE (yz == yB) yF)
  else
  some (J,yl,D))
  else
  some (J,yl,D))
def eR (rec:(List (ByteArray × (Int × List (List Int))))→Int→(List (ByteArray × List Int))→(List Int)→Int→(List Int)→Option (List (List Int))) (N:Nat):Nat→Int→(List Int)→(List (ByteArray × (Int × List (List Int))))→Int→(List (ByteArray × List Int))→(List Int)→(List (List Int))→Int→(List (List Int))→Int→Option ((List (List Int)) × Int)
 | 0,_,_,_,_,_,_,_,_,_,_=>none
 | k+1,J,U,Y,Z,yi,yj,yk,ym,yl,D =>
  (bif decide (D<(yl.length:Int)) then
  (apd 8 [] U).bind fun yn =>
  (dF rec N N J U Y Z yi yj yk ym yl D yn true 0).bind fun yo =>
  lpB yo fun (yp,yq,yy) =>
  (bif yq then
  (ad J 1).bind fun yr =>
  (rec Y Z yi yj yr yp).bind fun yt =>
  (apd 24 yk yt).bind fun yu =>
  (ad D 1).bind fun yw =>
  eR rec N k J U Y Z yi yj yu ym yl yw
  else
  (ad D 1).bind fun yx =>
  eR rec N k J U Y Z yi yj yk ym yl yx)
  else
  some (yk,D))
def dY:Nat→(List (ByteArray × (Int × List (List Int))))→Int→(List (ByteArray × List Int))→(List Int)→Int→(List Int)→Option (List (List Int))
 | 0,_,_,_,_,_,_=>none
 | N+1,a0,a1,a2,a3,a4,a5 =>
  (bif (a4 == (a2.length:Int)) then
  (apd 8 [] a5).bind fun J =>
  some ([J])
  else
  (ix a2 a4).bind fun U =>
  (dk N a0 U.1).bind fun D =>
  (eR (dY N) N N a4 a5 a0 a1 a2 a3 [] D.1.1 D.1.2 0).bind fun Y =>
  lpB Y fun (Z,yi) =>
  some Z)
def dl (N:Nat):Nat→(List (ByteArray × (Int × List (List Int))))→Int→(List (ByteArray × List Int))→(List Int)→Int→(List (List Int))→(List Int)→Option (List Int)
 | 0,_,_,_,_,_,_,_=>none
 | k+1,U,J,Y,Z,yi,yj,D =>
  (bif decide ((D.length:Int)<J) then
  (apd 8 D [(-1)]).bind fun yk =>
  dl N k U J Y Z yi yj yk
  else
  some D)
def eQ (N:Nat) (a0:List (ByteArray × (Int × List (List Int)))) (a1:Int) (a2:List (ByteArray × List Int)) (a3:List Int):Option (Int × List (List Int)) :=
  (ez N a0 a1 a2 a3).bind fun J =>
  (bif J then
  (dl N N a0 a1 a2 a3 0 [] []).bind fun U =>
  lpB U fun Y =>
  (dY N a0 a1 a2 a3 0 Y).bind fun Z =>
  (cq N a1 Z).bind fun D =>
  (bif D.2 then
  some (D.1.1,D.1.2)
  else
  some (0,[]))
  else
  some (0,[]))
def ff (N:Nat) (a0:List (ByteArray × (Int × List (List Int)))) (a1:Int) (a2:List (ByteArray × List Int)) (a3:List Int):Option ((Int × List (List Int)) × Bool) :=
  (eQ N a0 a1 a2 a3).bind fun D =>
  (ez N a0 a1 a2 a3).bind fun U =>
  (bif U then
  (bif (D.1 != a1) then
  some ((0,[]),false)
  else
  (fT N D.1 D.2 a3).bind fun J =>
  some ((J.1.1,J.1.2),J.2))
  else
  some ((0,[]),false))
def cH (N:Nat):Nat→Int→(List (List Int))→Int→(List (List Int))→Int→Option (Sum Bool Int)
 | 0,_,_,_,_,_=>none
 | k+1,Y,J,Z,U,D =>
  (bif decide (D<(J.length:Int)) then
  (ix J D).bind fun yi =>
  (ix U D).bind fun yj =>
  (bo N yi yj).bind fun yk =>
  (bif (yk != 0) then
  some (.inl false)
  else
  (ad D 1).bind fun yl =>
  cH N k Y J Z U yl)
  else
  some (.inr D))
def eL (N:Nat) (a0:Int) (a1:List (List Int)) (a2:Int) (a3:List (List Int)):Option Bool :=
  (bif (a0 != a2) then
  some false
  else
  (bif ((a1.length:Int) != (a3.length:Int)) then
  some false
  else
  (cH N N a0 a1 a2 a3 0).bind fun D =>
  lpS D (fun q=>some q) fun J =>
  some true))
def fY (N:Nat) (a0:List Int):Option Bool :=
  (mE N a0).bind fun Z =>
  (bif Z then
  some true
  else
  (d8 N a0).bind fun D =>
  (fA N D.1 D.2.1 D.2.2.1 D.2.2.2).bind fun J =>
  (fH N D.1 D.2.1 D.2.2.1 D.2.2.2).bind fun U =>
  (bif (J.2.2 != U.2.2) then
  some false
  else
  (bif (J.2.1 != U.2.1) then
  some false
  else
  (ff N D.1 D.2.1 D.2.2.1 D.2.2.2).bind fun Y =>
  (bif J.2.2 then
  (eL N J.1.1 J.1.2 Y.1.1 Y.1.2).bind fun yi =>
  (bif yi then
  (eQ N D.1 D.2.1 D.2.2.1 D.2.2.2).bind fun yj =>
  some (decide ((yj.2.length:Int)≤J.2.1))
  else
  some false)
  else
  (bif (J.2.1 == 0) then
  some true
  else
  some false)))))
end Go.Proofs.Ytnipkopfefkojaa
namespace Go.Proofs.Ytnipkopfefkojaa
open Go.RowKit

def inR (n lo hi:Int):Bool:=decide (lo≤n)&&decide (n≤hi)
theorem gh (N:Nat) (n lo hi:Int):dh N n lo hi=some (inR n lo hi):=by
 unfold dh inR;cases decide (lo≤n) <;> rfl
theorem hU (N:Nat) (n lo hi:Int):dy N n lo hi=some (inR n lo hi):=by
 unfold dy inR;cases decide (lo≤n) <;> rfl
theorem cJ {n lo hi:Int}:inR n lo hi=true↔lo≤n∧n≤hi:=by unfold inR;simp
def ji (a b:Int):Int:=if a<b then -1 else if b<a then 1 else 0
def bq:List Int→List Int→Int
 | [],[]=>0
 | [],_ :: _=>-1
 | _ :: _,[]=>1
 | a :: xs,b :: ys=>if a<b then -1 else if b<a then 1 else bq xs ys
theorem iA:∀ {xs ys:List Int},bq xs ys=0↔xs=ys
 | [],[]=>by simp [bq]
 | [],_ :: _=>by simp [bq]
 | _ :: _,[]=>by simp [bq]
 | a :: xs,b :: ys=>by
  unfold bq
  by_cases h1:a<b
  ·rw [if_pos h1];simp;omega
  ·rw [if_neg h1]
   by_cases h2:b<a
   ·rw [if_pos h2];simp;omega
   ·rw [if_neg h2,iA,List.cons.injEq]
    constructor
    ·rintro rfl;exact ⟨by omega,rfl⟩
    ·exact fun h=>h.2
theorem rQ (xs:List Int):bq xs []=if xs.length=0 then 0 else 1:=by cases xs <;> simp [bq]
theorem rU (xs:List Int):bq [] xs=if xs.length=0 then 0 else -1:=by cases xs <;> simp [bq]
theorem lM (N:Nat) (a b:Int):d5 N a b=some (ji a b):=by
 unfold d5 ji
 by_cases h1:a<b
 ·rw [decide_eq_true h1,if_pos h1];rfl
 ·rw [decide_eq_false h1,if_neg h1]
  by_cases h2:b<a
  ·rw [decide_eq_true h2,if_pos h2];rfl
  ·rw [decide_eq_false h2,if_neg h2];rfl
theorem fg {α:Type} {xs:List α} {i:Nat} (h:i<xs.length):xs.drop i=xs[i] :: xs.drop (i+1):=List.drop_eq_getElem_cons h
section
variable {N:Nat} {xs ys:List Int}
theorem vz (hx:xs.length≤1048576) (hy:ys.length≤9223372036854775807):∀ k i,i≤xs.length→i≤ys.length→xs.length-i<k →
  ∃ s,eM N k xs ys (i:Int)=some s∧(match s with | .inl r=>bq (xs.drop i) (ys.drop i)=r | .inr _=>bq (xs.drop i) (ys.drop i)=ji xs.length ys.length):=by
 intro k
 induction k with
 | zero=>intro i h1 h2 h3;omega
 | succ k ih =>
  intro i h1 h2 h3
  rw [eM]
  by_cases h:i<xs.length
  ·by_cases h':i<ys.length
   ·rw [dlt h,cond_true,dlt h',cond_true,aT h,bs,aT h',bs,fg h,fg h',bq]
    by_cases he:xs[i]=ys[i]
    ·rw [show (xs[i] != ys[i])=false by simpa using he,cond_false,ad1 (by omega),bs,if_neg (by omega),if_neg (by omega)]
     exact ih (i+1) (by omega) (by omega) (by omega)
    ·rw [show (xs[i] != ys[i])=true by simpa using he,cond_true,bs,bs,lM,bs]
     refine ⟨_,rfl,?_⟩
     show _=ji xs[i] ys[i]
     unfold ji
     by_cases h1:xs[i]<ys[i]
     ·rw [if_pos h1,if_pos h1]
     ·rw [if_neg h1,if_neg h1,if_pos (by omega),if_pos (by omega)]
   ·rw [dlt h,cond_true,dge h',cond_false]
    refine ⟨_,rfl,?_⟩
    show _=ji _ _
    rw [List.drop_of_length_le (l:=ys) (by omega),rQ,if_neg (by simp;omega)]
    unfold ji;rw [if_neg (by omega),if_pos (by omega)]
  ·rw [dge h,cond_false]
   refine ⟨_,rfl,?_⟩
   show _=ji _ _
   rw [List.drop_of_length_le (l:=xs) (by omega),rU]
   unfold ji
   by_cases h':i<ys.length
   ·rw [if_neg (by simp;omega),if_pos (by omega)]
   ·rw [if_pos (by simp;omega),if_neg (by omega),if_neg (by omega)]
theorem jZ (hN:1073741824≤N) (hx:xs.length≤1048576) (hy:ys.length≤9223372036854775807):d6 N xs ys=some (bq xs ys):=by
 obtain ⟨s,h1,h2⟩:=vz (N:=N) hx hy N 0 (by omega) (by omega) (by omega)
 unfold d6
 rw [show ((0:Int))=((0:Nat):Int) from rfl,h1,bs]
 simp only [List.drop_zero] at h2
 cases s with
 | inl r=>rw [h2];rfl
 | inr v=>show (d5 N _ _).bind _=_;rw [lM,bs,h2]
theorem vy (hx:xs.length≤1048576) (hy:ys.length≤9223372036854775807):∀ k i,i≤xs.length→i≤ys.length→xs.length-i<k →
  ∃ s,eK N k xs ys (i:Int)=some s∧(match s with | .inl r=>bq (xs.drop i) (ys.drop i)=r | .inr _=>bq (xs.drop i) (ys.drop i)=ji xs.length ys.length):=by
 intro k
 induction k with
 | zero=>intro i h1 h2 h3;omega
 | succ k ih =>
  intro i h1 h2 h3
  rw [eK]
  by_cases h:i<xs.length
  ·by_cases h':i<ys.length
   ·rw [dlt h,cond_true,dlt h',cond_true,aT h,bs,aT h',bs,fg h,fg h',bq]
    by_cases he:xs[i]<ys[i]
    ·rw [decide_eq_true he,cond_true,if_pos he];exact ⟨_,rfl,rfl⟩
    ·rw [decide_eq_false he,cond_false,if_neg he,bs,bs]
     by_cases he2:ys[i]<xs[i]
     ·rw [decide_eq_true he2,cond_true,if_pos he2];exact ⟨_,rfl,rfl⟩
     ·rw [decide_eq_false he2,cond_false,if_neg he2,ad1 (by omega),bs]
      exact ih (i+1) (by omega) (by omega) (by omega)
   ·rw [dlt h,cond_true,dge h',cond_false]
    refine ⟨_,rfl,?_⟩
    show _=ji _ _
    rw [List.drop_of_length_le (l:=ys) (by omega),rQ,if_neg (by simp;omega)]
    unfold ji;rw [if_neg (by omega),if_pos (by omega)]
  ·rw [dge h,cond_false]
   refine ⟨_,rfl,?_⟩
   show _=ji _ _
   rw [List.drop_of_length_le (l:=xs) (by omega),rU]
   unfold ji
   by_cases h':i<ys.length
   ·rw [if_neg (by simp;omega),if_pos (by omega)]
   ·rw [if_pos (by simp;omega),if_neg (by omega),if_neg (by omega)]
theorem eN (hN:1073741824≤N) (hx:xs.length≤1048576) (hy:ys.length≤9223372036854775807):bo N xs ys=some (bq xs ys):=by
 obtain ⟨s,h1,h2⟩:=vy (N:=N) hx hy N 0 (by omega) (by omega) (by omega)
 unfold bo
 rw [show ((0:Int))=((0:Nat):Int) from rfl,h1,bs]
 simp only [List.drop_zero] at h2
 cases s with
 | inl r=>rw [h2];rfl
 | inr v =>
  rw [h2]
  show (bif decide ((xs.length:Int)<(ys.length:Int)) then _ else _)=_
  unfold ji
  by_cases h1:(xs.length:Int)<ys.length
  ·rw [decide_eq_true h1,if_pos h1];rfl
  ·rw [decide_eq_false h1,if_neg h1,cond_false]
   by_cases h2:(ys.length:Int)<xs.length
   ·rw [decide_eq_true h2,if_pos h2];rfl
   ·rw [decide_eq_false h2,if_neg h2];rfl
def fnd (v:Int):List Int→Int→Int
 | [],_=>-1
 | x :: xs,i=>if x=v then i else fnd v xs (i+1)
def aY (xs:List Int) (v:Int):Int:=fnd v xs 0
theorem re (v:Int):∀ (xs:List Int) (i:Nat),(v∉xs∧fnd v xs i=-1)∨∃ j,∃ h:j<xs.length,xs[j]=v∧fnd v xs i=((i+j:Nat):Int)∧v∉xs.take j
 | [],i=>.inl ⟨by simp,rfl⟩
 | x :: xs,i=>by
  unfold fnd
  by_cases h:x=v
  ·rw [if_pos h];exact .inr ⟨0,by simp,by simpa using h,by simp,by simp⟩
  ·rw [if_neg h]
   rcases re v xs (i+1) with ⟨h1,h2⟩ | ⟨j,hj,h1,h2,h3⟩
   ·exact .inl ⟨by simp [h1,Ne.symm h],by simpa using h2⟩
   ·exact .inr ⟨j+1,by simpa using hj,by simpa using h1,by rw [show ((i:Int)+1)=((i+1:Nat):Int) by simp,h2];congr 1;omega,by simp [h3,Ne.symm h]⟩
theorem iJ (xs:List Int) (v:Int):(v∉xs∧aY xs v=-1)∨∃ j,∃ h:j<xs.length,xs[j]=v∧aY xs v=(j:Int)∧v∉xs.take j:=by
 have:=re v xs 0
 simpa [aY] using this
theorem el (xs:List Int) (v:Int):decide (0≤aY xs v)=decide (v∈xs):=by
 rcases iJ xs v with ⟨h1,h2⟩ | ⟨j,hj,h1,h2,_⟩
 ·rw [h2,decide_eq_false (by omega),decide_eq_false h1]
 ·rw [h2,decide_eq_true (by omega),decide_eq_true (h1 ▸ List.getElem_mem hj)]
theorem kH (hN:1073741824≤N) (hx:xs.length≤1048576) (v:Int):fc N xs v=some (aY xs v):=by
 have key:∀ k i,i≤xs.length→xs.length-i<k→∃ s,gi N k v xs (xs.length:Int) (i:Int)=some s∧(match s with | .inl r=>fnd v (xs.drop i) i=r | .inr _=>fnd v (xs.drop i) i=-1):=by
  intro k
  induction k with
  | zero=>intro i h1 h2;omega
  | succ k ih =>
   intro i h1 h2
   rw [gi]
   by_cases h:i<xs.length
   ·rw [dlt h,cond_true,aT h,bs,fg h,fnd]
    by_cases he:xs[i]=v
    ·rw [show (xs[i] == v)=true by simpa using he,cond_true,if_pos he];exact ⟨_,rfl,rfl⟩
    ·rw [show (xs[i] == v)=false by simpa using he,cond_false,if_neg he,ad1 (by omega),bs]
     have:=ih (i+1) (by omega) (by omega)
     simpa using this
   ·rw [dge h,cond_false,List.drop_of_length_le (by omega)];exact ⟨_,rfl,rfl⟩
 obtain ⟨s,h1,h2⟩:=key N 0 (by omega) (by omega)
 unfold fc aY
 rw [show ((0:Int))=((0:Nat):Int) from rfl,h1,bs]
 simp only [List.drop_zero] at h2
 cases s with
 | inl r=>rw [h2];rfl
 | inr r=>rw [h2];rfl
theorem gM (hN:1073741824≤N) (hx:xs.length≤1048576) (v:Int):dD N xs v=some (aY xs v):=by
 have key:∀ k i,i≤xs.length→xs.length-i<k→∃ s,gz N k xs v (i:Int)=some s∧(match s with | .inl r=>fnd v (xs.drop i) i=r | .inr _=>fnd v (xs.drop i) i=-1):=by
  intro k
  induction k with
  | zero=>intro i h1 h2;omega
  | succ k ih =>
   intro i h1 h2
   rw [gz]
   by_cases h:i<xs.length
   ·rw [dlt h,cond_true,aT h,bs,fg h,fnd]
    by_cases he:xs[i]=v
    ·rw [show (xs[i] == v)=true by simpa using he,cond_true,if_pos he];exact ⟨_,rfl,rfl⟩
    ·rw [show (xs[i] == v)=false by simpa using he,cond_false,if_neg he,ad1 (by omega),bs]
     have:=ih (i+1) (by omega) (by omega)
     simpa using this
   ·rw [dge h,cond_false,List.drop_of_length_le (by omega)];exact ⟨_,rfl,rfl⟩
 obtain ⟨s,h1,h2⟩:=key N 0 (by omega) (by omega)
 unfold dD aY
 rw [show ((0:Int))=((0:Nat):Int) from rfl,h1,bs]
 simp only [List.drop_zero] at h2
 cases s with
 | inl r=>rw [h2];rfl
 | inr r=>rw [h2];rfl
theorem ql (hN:1073741824≤N) (hx:xs.length≤1048576) (v:Int):hO N xs v=some (decide (v∈xs)):=by
 unfold hO;rw [kH hN hx,bs,el]
def aZ (xs:List Int):Bool:=xs.all fun x=>inR x 0 99
theorem jb (hN:1073741824≤N) (hx:xs.length≤1048576):dU N xs=some (aZ xs):=by
 have:=ge (L:=fun k i=>cI N k xs (xs.length:Int) i) xs.length (by omega) false (fun i=>if h:i<xs.length then inR xs[i] 0 99 else true) (xs.length:Int)
  (fun k i h=>by
   show cI N (k+1) xs _ (i:Int)=_
   rw [cI,dlt h,cond_true,aT h,bs,gh,bs,ad1 (by omega),bs]
   simp only [dif_pos h])
  (fun k=>by
   show cI N (k+1) xs _ (xs.length:Int)=_
   rw [cI,dge (by omega),cond_false]) N 0 (by omega) (by omega)
 unfold dU aZ
 rw [show ((0:Int))=((0:Nat):Int) from rfl,this,bs,Nat.sub_zero,gk xs (fun x=>inR x 0 99) _ (fun i hi=>by rw [dif_pos hi])]
 cases xs.all fun x=>inR x 0 99 <;> rfl
theorem iZ (hN:1073741824≤N) (hx:xs.length≤1048576):dV N xs=some (aZ xs):=by
 have:=ge (L:=fun k i=>cG N k xs i) xs.length (by omega) false (fun i=>if h:i<xs.length then inR xs[i] 0 99 else true) (xs.length:Int)
  (fun k i h=>by
   show cG N (k+1) xs (i:Int)=_
   rw [cG,dlt h,cond_true,aT h,bs,hU,bs,ad1 (by omega),bs]
   simp only [dif_pos h])
  (fun k=>by
   show cG N (k+1) xs (xs.length:Int)=_
   rw [cG,dge (by omega),cond_false]) N 0 (by omega) (by omega)
 unfold dV aZ
 rw [show ((0:Int))=((0:Nat):Int) from rfl,this,bs,Nat.sub_zero,gk xs (fun x=>inR x 0 99) _ (fun i hi=>by rw [dif_pos hi])]
 cases xs.all fun x=>inR x 0 99 <;> rfl
def asc:List Int→Bool
 | []=>true
 | [_]=>true
 | x :: y :: t=>decide (x<y)&&asc (y :: t)
def fd (xs:List Int) (n:Int):Bool:=(List.range' 0 xs.length).all fun i=>inR (xs.getD i 0) 0 (n-1)&&!decide (xs.getD i 0∈xs.take i)
theorem bb {xs:List Int} {i:Nat} (h:i<xs.length):xs.getD i 0=xs[i]:=by simp [h]
theorem tk (hN:1073741824≤N) (hx:xs.length≤1048576) {n:Int} (hn:-1099511627776≤n∧n≤1099511627776):iB N xs n=some (fd xs n):=by
 have:=ge (L:=fun k i=>dR N k xs n xs (xs.length:Int) i) xs.length (by omega) false (fun i=>inR (xs.getD i 0) 0 (n-1)&&!decide (xs.getD i 0∈xs.take i)) (xs.length:Int)
  (fun k i h=>by
   show dR N (k+1) xs n xs _ (i:Int)=_
   rw [dR,dlt h,cond_true,aT h,bs,gm (by omega) (by omega),bs,gh,bs,show ((0:Int))=((0:Nat):Int) from rfl,iG (Nat.zero_le _) (by omega),bs,List.drop_zero,ql hN (by simp;omega),bs,ad1 (by omega),bs]
   simp only [show ((0:Nat):Int)=0 from rfl,bb h]
   cases inR xs[i] 0 (n-1)
   ·rfl
   ·cases decide (xs[i]∈xs.take i) <;> rfl)
  (fun k=>by
   show dR N (k+1) xs n xs _ (xs.length:Int)=_
   rw [dR,dge (by omega),cond_false]) N 0 (by omega) (by omega)
 unfold iB fd
 rw [show ((0:Int))=((0:Nat):Int) from rfl,this,bs,Nat.sub_zero]
 simp only [show ((0:Nat):Int)=0 from rfl]
 cases (List.range' 0 xs.length).all fun i=>inR (xs.getD i 0) 0 (n-1)&&!decide (xs.getD i 0∈xs.take i) <;> rfl
def l8 (xs:List Int):Bool:=decide ((xs.length:Int)≤5)&&fd xs xs.length
end
end Go.Proofs.Ytnipkopfefkojaa
namespace Go.Proofs.Ytnipkopfefkojaa
open Go.RowKit

abbrev okI (xs:List Int):Prop:=lc (fun _=>True) 1048576 xs
abbrev dB (xs:List (List Int)):Prop:=lc (lc (fun _=>True) 1048576) 1048576 xs
theorem xi {α:Type} [DecidableEq α] {L:Nat→Int→Option (Sum Bool Int)} {xs ys:List α} (hl:xs.length=ys.length) (hx:xs.length≤1048576) {N:Nat} (hN:1073741824≤N)
  (hs:∀ k i (h:i<xs.length) (h':i<ys.length),L (k+1) (i:Int)=bif decide (xs[i]=ys[i]) then L k ((i+1:Nat):Int) else some (.inl false)) (he:∀ k,L (k+1) (xs.length:Int)=some (.inr (xs.length:Int))) :
  ((L N 0).bind fun s=>lpS s (fun q=>some q) fun _=>some true)=some (decide (xs=ys)):=by
 have:=ge L xs.length (by omega) false (fun i=>if h:i<xs.length then decide (xs[i]=ys[i]'(by omega)) else true) (xs.length:Int)
  (fun k i h=>by rw [hs k i h (by omega)];simp only [dif_pos h]) he N 0 (by omega) (by omega)
 rw [show ((0:Int))=((0:Nat):Int) from rfl,this,bs,Nat.sub_zero,vY hl _ (fun i hi=>by rw [dif_pos hi])]
 cases decide (xs=ys) <;> rfl
theorem x9 {α:Type} {xs ys:List α} (h:¬ xs.length=ys.length):((xs.length:Int) != (ys.length:Int))=true:=by simp;omega
theorem x8 {α:Type} {xs ys:List α} (h:xs.length=ys.length):((xs.length:Int) != (ys.length:Int))=false:=by simp [h]
section
variable {N:Nat}
theorem ox (xs ys:List Int):(bq xs ys != 0)=!decide (xs=ys):=by
 rw [rT];congr 1;rw [decide_eq_decide];exact iA
theorem lC (hN:1073741824≤N) {a b:Int} {xs ys:List (List Int)} (hx:dB xs) (hy:dB ys):eL N a xs b ys=some (decide ((a,xs)=(b,ys))):=by
 unfold eL
 by_cases hl:xs.length=ys.length
 ·rw [x8 hl,cond_false,xi (L:=fun k i=>cH N k a xs b ys i) hl hx.1 hN (fun k i h h'=>?_) (fun k=>?_),rT]
  ·by_cases h1:a=b <;> by_cases h2:xs=ys <;> simp [h1,h2]
  ·have:=hx.1
   have:=(hy.2 _ (List.getElem_mem h')).1
   show cH N (k+1) a xs b ys (i:Int)=_
   rw [cH,dlt h,cond_true,aT h,bs,aT h',bs,eN hN (hx.2 _ (List.getElem_mem h)).1 (by omega),bs,ox,ad1 (by omega),bs]
   cases decide (xs[i]=ys[i]) <;> rfl
  ·show cH N (k+1) a xs b ys (xs.length:Int)=_
   rw [cH,dge (by omega),cond_false]
 ·rw [x9 hl,cond_true,rT]
  have:¬ xs=ys:=fun e=>hl (by rw [e])
  by_cases h1:a=b <;> simp [h1,this]
end
end Go.Proofs.Ytnipkopfefkojaa
namespace Go.Proofs.Ytnipkopfefkojaa
open Go.RowKit

def kE (n:Int) (rows:List (List Int)) (i:Nat):Bool :=
 decide (((rows.getD i []).length:Int)=n)&&aZ (rows.getD i [])&&(Nat.beq i 0||decide (bq (rows.getD (i-1) []) (rows.getD i [])<0))
def bj (n:Int) (rows:List (List Int)):Bool:=inR n 0 5&&decide ((rows.length:Int)≤4000)&&(List.range' 0 rows.length).all (kE n rows)
theorem ga {rows:List (List Int)} {i:Nat} (h:i<rows.length):rows.getD i []=rows[i]:=by simp [h]
section
variable {N:Nat}
theorem pX (a:Int):decide (0≤a)=!decide (a<0):=by by_cases h:a<0 <;> simp [h];omega
theorem rV (hN:1073741824≤N) {n:Int} {rows:List (List Int)} (hx:dB rows):gB N n rows=some (bj n rows):=by
 have hl:=hx.1
 have:=ge (L:=fun k i=>c4 N k n rows rows (rows.length:Int) i) rows.length (by omega) false (kE n rows) (rows.length:Int)
  (fun k i h=>by
   have h1:=(hx.2 _ (List.getElem_mem h)).1
   show c4 N (k+1) n rows rows _ (i:Int)=_
   rw [c4,dlt h,cond_true,aT h,bs,rT,jb hN h1,bs]
   unfold kE
   rw [ga h]
   cases decide ((rows[i].length:Int)=n)
   ·rfl
   cases aZ rows[i]
   ·rfl
   cases i with
   | zero=>rw [ad1 (by omega)];rfl
   | succ j =>
    rw [show decide (0<((j+1:Nat):Int))=true from decide_eq_true (by omega),gm (by omega) (by omega),bs,show (((j+1:Nat):Int)-1)=(j:Int) by omega,aT (by omega),bs,jZ hN (hx.2 _ (List.getElem_mem (by omega))).1 (by omega),bs,ad1 (by omega),bs,pX,Nat.add_sub_cancel,ga (by omega)]
    cases decide (bq rows[j] rows[j+1]<0) <;> rfl)
  (fun k=>by
   show c4 N (k+1) n rows rows _ (rows.length:Int)=_
   rw [c4,dge (by omega),cond_false]) N 0 (by omega) (by omega)
 unfold gB bj
 rw [gh,bs,show ((0:Int))=((0:Nat):Int) from rfl,this,bs,Nat.sub_zero]
 by_cases h4:(rows.length:Int)≤4000
 ·rw [decide_eq_true h4,decide_eq_false (by omega:¬ (4000:Int)<rows.length)]
  simp only [show ((0:Nat):Int)=0 from rfl]
  cases inR n 0 5 <;> cases (List.range' 0 rows.length).all (kE n rows) <;> rfl
 ·rw [decide_eq_false h4,decide_eq_true (by omega:(4000:Int)<rows.length)]
  simp only [show ((0:Nat):Int)=0 from rfl]
  cases inR n 0 5 <;> rfl
theorem eI (hN:1073741824≤N) {n:Int} {rows:List (List Int)} (hx:dB rows):cu N n rows=some (bj n rows):=by
 unfold cu;rw [rV hN hx,bs]
theorem eG (hN:1073741824≤N) {n:Int} {rows:List (List Int)} (hx:dB rows):cB N n rows=some (bj n rows):=by
 have hl:=hx.1
 have:=ge (L:=fun k i=>b9 N k n rows i) rows.length (by omega) false (kE n rows) (rows.length:Int)
  (fun k i h=>by
   have h1:=(hx.2 _ (List.getElem_mem h)).1
   show b9 N (k+1) n rows (i:Int)=_
   rw [b9,dlt h,cond_true,aT h,bs,rT,bs,iZ hN h1,bs]
   unfold kE
   rw [ga h]
   cases decide ((rows[i].length:Int)=n)
   ·rfl
   cases aZ rows[i]
   ·rfl
   cases i with
   | zero=>rw [ad1 (by omega)];rfl
   | succ j =>
    rw [show decide (0<((j+1:Nat):Int))=true from decide_eq_true (by omega),gm (by omega) (by omega),bs,show (((j+1:Nat):Int)-1)=(j:Int) by omega,aT (by omega),bs,bs,eN hN (hx.2 _ (List.getElem_mem (by omega))).1 (by omega),bs,ad1 (by omega),bs,pX,Nat.add_sub_cancel,ga (by omega)]
    cases decide (bq rows[j] rows[j+1]<0) <;> rfl)
  (fun k=>by
   show b9 N (k+1) n rows (rows.length:Int)=_
   rw [b9,dge (by omega),cond_false]) N 0 (by omega) (by omega)
 unfold cB bj
 rw [hU,bs,show ((0:Int))=((0:Nat):Int) from rfl,this,bs,Nat.sub_zero]
 by_cases h4:(rows.length:Int)≤4000
 ·rw [decide_eq_true h4,decide_eq_false (by omega:¬ (4000:Int)<rows.length)]
  simp only [show ((0:Nat):Int)=0 from rfl]
  cases inR n 0 5 <;> cases (List.range' 0 rows.length).all (kE n rows) <;> rfl
 ·rw [decide_eq_false h4,decide_eq_true (by omega:(4000:Int)<rows.length)]
  simp only [show ((0:Nat):Int)=0 from rfl]
  cases inR n 0 5 <;> rfl
theorem bu {n:Int} {rows:List (List Int)} (h:bj n rows=true):0≤n∧n≤5∧rows.length≤4000∧∀ i (hi:i<rows.length),(rows[i].length:Int)=n∧aZ rows[i]=true∧(∀ j (hj:j+1=i),bq (rows[j]'(by omega)) rows[i]<0):=by
 unfold bj at h
 simp only [Bool.and_eq_true,cJ,decide_eq_true_eq,List.all_eq_true] at h
 refine ⟨h.1.1.1,h.1.1.2,by omega,fun i hi=>?_⟩
 have:=h.2 i (by simp;omega)
 unfold kE at this
 rw [ga hi] at this
 simp only [Bool.and_eq_true,decide_eq_true_eq,Bool.or_eq_true] at this
 refine ⟨this.1.1,this.1.2,?_⟩
 rintro j rfl
 rcases this.2 with h2 | h2
 ·exact absurd (Nat.eq_of_beq_eq_true h2) (by omega)
 ·rw [Nat.add_sub_cancel,ga (by omega)] at h2;exact h2

theorem wd {a b:Int} (h:b≠0):rm a b=some (a.tmod b):=by unfold rm;rw [if_pos h]
theorem su {a b:Int} (ha:0≤a) (hb:0<b):0≤a.tmod b∧a.tmod b<b:=⟨Int.tmod_nonneg _ ha,Int.tmod_lt_of_pos _ hb⟩
end
end Go.Proofs.Ytnipkopfefkojaa
namespace Go.Proofs.Ytnipkopfefkojaa
open Go.RowKit

abbrev iQ:=List Int × List Int
def vT (far:List Int) (i:Nat) (ch:List Int) (j:Nat):Bool:=inR (ch.getD j 0) 0 ((i:Int)-1)&&decide (far.getD (ch.getD j 0).toNat 0=far.getD (ch.getD 0 0).toNat 0)
def sP (nodes:List iQ) (i:Nat) (x:iQ):Bool:=((nodes.take i).drop 1).all fun m=>!decide (m=x)
def v8 (nodes:List iQ) (olen:Nat) (far:List Int) (i:Nat) (x:iQ):Option Int :=
 bif decide (x.1.length=x.2.length)&&aZ x.1&&asc x.1 then
  bif decide (x.1.length=0) then (bif decide (i+1=nodes.length) then some (olen:Int) else none)
  else bif (List.range' 0 x.2.length).all (vT far i x.2)&&sP nodes i x then some (far.getD (x.2.getD 0 0).toNat 0+1) else none
 else none
end Go.Proofs.Ytnipkopfefkojaa
namespace Go.Proofs.Ytnipkopfefkojaa
open Go.RowKit

structure VF (olen:Nat) (nodes:List iQ) (far:List Int):Prop where
 pos:1≤nodes.length
 le:nodes.length≤4000
 z1:(nodes.getD 0 ([],[])).1=[]
 z2:(nodes.getD 0 ([],[])).2=[]
 len:far.length=nodes.length
 f0:far.getD 0 0=0
 last:far.getD (nodes.length-1) 0=(olen:Int)
 nd:∀ i,1≤i→i<nodes.length→v8 nodes olen (far.take i) i (nodes.getD i ([],[]))=some (far.getD i 0)
theorem uE {xs:List Int} {i j:Nat} (h:j<i):(xs.take i).getD j 0=xs.getD j 0:=by
 rw [List.getD_eq_getElem?_getD,List.getD_eq_getElem?_getD,List.getElem?_take,if_pos h]
theorem VF.node {olen:Nat} {nodes:List iQ} {far:List Int} (V:VF olen nodes far) {i:Nat} (h1:1≤i) (h2:i<nodes.length) :
    (nodes.getD i ([],[])).1.length=(nodes.getD i ([],[])).2.length∧asc (nodes.getD i ([],[])).1=true ∧
    ((nodes.getD i ([],[])).1=[]∧i+1=nodes.length∧far.getD i 0=olen ∨
     (nodes.getD i ([],[])).1≠[]∧∀ j,j<(nodes.getD i ([],[])).2.length→0≤(nodes.getD i ([],[])).2.getD j 0∧(nodes.getD i ([],[])).2.getD j 0<i∧far.getD ((nodes.getD i ([],[])).2.getD j 0).toNat 0+1=far.getD i 0):=by
  have h:=V.nd i h1 h2
  generalize nodes.getD i ([],[])=x at *
  unfold v8 at h
  cases e1:(decide (x.1.length=x.2.length)&&aZ x.1&&asc x.1) with
  | false=>rw [e1] at h;cases h
  | true =>
    rw [e1,cond_true] at h
    simp only [Bool.and_eq_true,decide_eq_true_eq] at e1
    refine ⟨e1.1.1,e1.2,?_⟩
    by_cases hz:x.1.length=0
    · rw [decide_eq_true hz,cond_true] at h
      by_cases hi:i+1=nodes.length
      · rw [decide_eq_true hi,cond_true] at h
        exact .inl ⟨List.length_eq_zero_iff.1 hz,hi,(Option.some.inj h).symm⟩
      · rw [decide_eq_false hi] at h;cases h
    · rw [decide_eq_false hz,cond_false] at h
      cases ha:(List.range' 0 x.2.length).all (vT (far.take i) i x.2) with
      | false=>rw [ha] at h;cases h
      | true =>
        rw [ha,Bool.true_and] at h
        cases hb:sP nodes i x with
        | false=>rw [hb] at h;cases h
        | true =>
          rw [hb,cond_true] at h
          refine .inr ⟨fun e=>hz (by simp [e]),fun j hj=>?_⟩
          have hc:∀ j,j<x.2.length→0≤x.2.getD j 0∧x.2.getD j 0<i∧far.getD (x.2.getD j 0).toNat 0=(far.take i).getD (x.2.getD 0 0).toNat 0:=by
            intro j hj
            have:=(List.all_eq_true.1 ha) j (by simp;omega)
            unfold vT at this
            simp only [Bool.and_eq_true,decide_eq_true_eq] at this
            have g:=cJ.1 this.1
            refine ⟨g.1,by omega,?_⟩
            rw [← this.2,uE (by omega)]
          obtain ⟨q1,q2,q3⟩:=hc j hj
          exact ⟨q1,q2,by rw [q3];exact Option.some.inj h⟩
end Go.Proofs.Ytnipkopfefkojaa
namespace Go.Proofs.Ytnipkopfefkojaa
open Go.RowKit

theorem fm {σ V:Type} (L:Nat→σ→Int→Option V) (n:Nat) (A:Nat→σ) (v:V)
  (hstep:∀ k i,i<n→L (k+1) (A i) (i:Int)=L k (A (i+1)) ((i+1:Nat):Int)) (hend:∀ k,L (k+1) (A n) (n:Int)=some v) :
  ∀ k i,i≤n→n-i<k→L k (A i) (i:Int)=some v:=by
 intro k
 induction k with
 | zero=>intro i hi hk;omega
 | succ k ih =>
  intro i hi hk
  by_cases h:i<n
  ·rw [hstep k i h];exact ih (i+1) (by omega) (by omega)
  ·obtain rfl:i=n:=by omega
   exact hend k
end Go.Proofs.Ytnipkopfefkojaa
namespace Go.Proofs.Ytnipkopfefkojaa
open Go.RowKit

theorem VF.lens {olen:Nat} {nodes:List iQ} {far:List Int} (V:VF olen nodes far) {i:Nat} (h2:i<nodes.length):(nodes.getD i ([],[])).1.length=(nodes.getD i ([],[])).2.length:=by
 by_cases h1:1≤i
 ·exact (V.node h1 h2).1
 ·obtain rfl:i=0:=by omega
  rw [V.z1,V.z2]
theorem VF.asc {olen:Nat} {nodes:List iQ} {far:List Int} (V:VF olen nodes far) {i:Nat} (h2:i<nodes.length):Go.Proofs.Ytnipkopfefkojaa.asc (nodes.getD i ([],[])).1=true:=by
 by_cases h1:1≤i
 ·exact (V.node h1 h2).2.1
 ·obtain rfl:i=0:=by omega
  rw [V.z1];rfl
end Go.Proofs.Ytnipkopfefkojaa
namespace Go.Proofs.Ytnipkopfefkojaa
open Go.RowKit

section
variable {N:Nat}
theorem py {b:Nat} {α:Type} {xs:List α} (hb:b≤64) (h:xs.length≤1048576):apd b [] xs=some xs:=by
 rw [bt hb (by simp;omega)];rfl
theorem qY {b:Nat} {α:Type} {xs:List α} {i:Nat} (hb:b≤64) (h:i<xs.length) (hl:xs.length≤1048576):apd b (xs.take i) [xs[i]]=some (xs.take (i+1)):=by
 rw [bt hb (by simp;omega),List.take_succ_eq_append_getElem h]
theorem sD {rows:List (List Int)} (h:dB rows) {i:Nat} (hi:i<rows.length):rows[i].length≤1048576:=(h.2 _ (List.getElem_mem hi)).1
theorem qg (hN:1073741824≤N) {a:Int} {rows:List (List Int)} (h:dB rows):hD N a rows=some (a,rows):=by
 have hl:=h.1
 unfold hD
 have hL:=fm (fun k (s:List (List Int)) i=>dI N k a rows 0 [] a s i) rows.length (fun i=>rows.take i) (rows,(rows.length:Int))
  (fun k i hi=>by
   show dI N (k+1) a rows 0 [] a (rows.take i) (i:Int)=_
   rw [dI,dlt hi,cond_true,aT hi,bs,py (by decide) (sD h hi),bs,qY (by decide) hi hl,bs,ad1 (by omega),bs])
  (fun k=>by
   show dI N (k+1) a rows 0 [] a (rows.take rows.length) (rows.length:Int)=_
   rw [dI,dge (by omega),cond_false,List.take_length]) N 0 (by omega) (by omega)
 have hL':dI N N a rows 0 [] a [] 0=_:=hL
 rw [hL',bs,lpB]
theorem lK (hN:1073741824≤N) {rows:List (List Int)} (h:dB rows):f8 N rows=some rows:=by
 have hl:=h.1
 unfold f8
 have hL:=fm (fun k (s:List (List Int)) i=>de N k s rows (rows.length:Int) i) rows.length (fun i=>rows.take i) (rows,(rows.length:Int))
  (fun k i hi=>by
   show de N (k+1) (rows.take i) rows (rows.length:Int) (i:Int)=_
   rw [de,dlt hi,cond_true,aT hi,bs,dC,py (by decide) (sD h hi),bs,bs,qY (by decide) hi hl,bs,ad1 (by omega),bs])
  (fun k=>by
   show de N (k+1) (rows.take rows.length) rows (rows.length:Int) (rows.length:Int)=_
   rw [de,dge (by omega),cond_false,List.take_length]) N 0 (by omega) (by omega)
 have hL':de N N [] rows (rows.length:Int) 0=_:=hL
 rw [hL',bs,lpB]
theorem o7 (hN:1073741824≤N) {a:Int} {rows:List (List Int)} (h:dB rows):fz N a rows=some (a,rows):=by
 unfold fz
 rw [lK hN h,bs]
end
end Go.Proofs.Ytnipkopfefkojaa
namespace Go.Proofs.Ytnipkopfefkojaa
open Go.RowKit

def ks (ls:List (List Int)):Bool:=ls.all asc&&decide (0<ls.length)
end Go.Proofs.Ytnipkopfefkojaa
namespace Go.Proofs.Ytnipkopfefkojaa
open Go.RowKit

theorem oo {α R V:Type} (L:Nat→Int→Option (Sum R V)) (xs:List α) (q:α→Bool) (g:α→R) (v:V) (hl:xs.length<1099511627776)
  (hstep:∀ k i (h:i<xs.length),L (k+1) (i:Int)=bif q xs[i] then some (.inl (g xs[i])) else L k ((i+1:Nat):Int)) (hend:∀ k,L (k+1) (xs.length:Int)=some (.inr v)) :
  ∀ k i,i≤xs.length→xs.length-i<k→L k (i:Int)=some (match (xs.drop i).find? q with | some x=>.inl (g x) | none=>.inr v):=by
 intro k
 induction k with
 | zero=>intro i h1 h2;omega
 | succ k ih =>
  intro i h1 h2
  by_cases h:i<xs.length
  ·rw [hstep k i h,fg h,List.find?_cons]
   cases hq:q xs[i]
   ·rw [cond_false];exact ih (i+1) (by omega) (by omega)
   ·rfl
  ·obtain rfl:i=xs.length:=by omega
   rw [hend,List.drop_length];rfl
abbrev ba:=ByteArray × (Int × List (List Int))
abbrev gK (ts:List ba):Prop:=lc (fun x=>x.1.size≤1048576∧lc (lc (fun _=>True) 1048576) 1048576 x.2.2) 1048576 ts
def lR (s:ByteArray) (i:Nat):Int:=match s[i]? with | some b=>(b.toNat:Int) | none=>0
theorem xo {s:ByteArray} {i:Nat} (h:i<s.size):bx s (i:Int)=some (lR s i):=by
 unfold bx lR
 rw [if_pos (by omega),Int.toNat_natCast,getElem?_pos s i h];rfl
def ka (s:ByteArray) (i:Nat):Bool:=!decide (lR s i<97)&&!decide (122<lR s i)
def i4 (s:ByteArray):Bool:=inR s.size 1 4&&(List.range' 0 s.size).all (ka s)
def kG (ts:List ba) (i:Nat):Bool :=
 let t:=ts.getD i (ByteArray.empty,0,[])
 i4 t.1&&(Nat.beq i 0||ltS (ts.getD (i-1) (ByteArray.empty,0,[])).1 t.1)&&bj t.2.1 t.2.2&&!decide (t.2.1<1)&&!decide (16<(t.2.2.length:Int))
def jJ (ts:List ba):Bool:=decide ((ts.length:Int)≤6)&&(List.range' 0 ts.length).all (kG ts)
def bC (ts:List ba) (s:ByteArray):(Int × List (List Int)) × Bool :=
 bif jJ ts then (match ts.find? (fun t=>decide (t.1=s)) with | some t=>(t.2,true) | none=>((0,[]),false)) else ((0,[]),false)
theorem kN {ts:List ba} {i:Nat} (h:i<ts.length):ts.getD i (ByteArray.empty,0,[])=ts[i]:=by simp [h]
section
variable {N:Nat}
theorem xQ {L:Nat→Int→Option (Sum Bool Int)} {s:ByteArray} (hs:s.size≤1048576) (hN:1073741824≤N)
  (hstep:∀ k i,L (k+1) i=(bif decide (i<(s.size:Int)) then (bx s i).bind fun a=>(bif decide (a<97) then some (.inl false) else (bx s i).bind fun b=>(bif decide (122<b) then some (.inl false) else (ad i 1).bind fun j=>L k j)) else some (.inr i))) :
  L N 0=some (bif (List.range' 0 s.size).all (ka s) then .inr (s.size:Int) else .inl false):=by
 have:=ge L s.size (by omega) false (ka s) (s.size:Int)
  (fun k i h=>by
   rw [hstep,dlt h,cond_true,xo h,bs,bs,ad1 (by omega),bs]
   unfold ka
   cases decide (lR s i<97)
   ·cases decide (122<lR s i) <;> rfl
   ·rfl)
  (fun k=>by rw [hstep,dge (by omega),cond_false]) N 0 (by omega) (by omega)
 rw [Nat.sub_zero] at this
 exact this
theorem jV (hN:1073741824≤N) {s:ByteArray} (hs:s.size≤1048576):eU N s=some (i4 s):=by
 unfold eU iN i4
 by_cases h1:(s.size:Int)<1
 ·rw [decide_eq_true h1,show inR (s.size:Int) 1 4=false by rw [← Bool.not_eq_true,cJ];omega];rfl
 by_cases h4:(4:Int)<s.size
 ·rw [decide_eq_false h1,decide_eq_true h4,show inR (s.size:Int) 1 4=false by rw [← Bool.not_eq_true,cJ];omega];rfl
 rw [decide_eq_false h1,decide_eq_false h4,show inR (s.size:Int) 1 4=true by rw [cJ];omega,cond_false,cond_false,xQ (L:=fun k i=>eE N k s i) hs hN (fun k i=>by
  show eE N (k+1) s i=_
  rw [eE]),bs]
 cases (List.range' 0 s.size).all (ka s) <;> rfl
theorem jY (hN:1073741824≤N) {s:ByteArray} (hs:s.size≤1048576):eX N s=some (i4 s):=by
 unfold eX i4
 rw [xQ (L:=fun k i=>dW N k s i) hs hN (fun k i=>by
  show dW N (k+1) s i=_
  rw [dW]),bs]
 cases (List.range' 0 s.size).all (ka s)
 ·cases inR (s.size:Int) 1 4 <;> rfl
 ·simp only [cond_true,lpS,hU,bs,Bool.and_true]
theorem iR (hN:1073741824≤N) {ts:List ba} (hx:gK ts):dK N ts=some (jJ ts):=by
 have hl:=hx.1
 have:=ge (L:=fun k i=>bN N k ts ts (ts.length:Int) i) ts.length (by omega) false (kG ts) (ts.length:Int)
  (fun k i h=>by
   obtain ⟨g1,g2⟩:=hx.2 _ (List.getElem_mem h)
   show bN N (k+1) ts ts (ts.length:Int) (i:Int)=_
   rw [bN,dlt h,cond_true,aT h,bs,jV hN g1,bs]
   unfold kG
   rw [kN h]
   simp only []
   cases i4 ts[i].1
   ·rfl
   rw [eI hN g2,bs]
   cases i with
   | zero =>
    rw [ad1 (by omega)]
    simp only [bs]
    cases bj ts[0].2.1 ts[0].2.2
    ·rfl
    ·show (bif decide _ then _ else _)=_
     cases decide (ts[0].2.1<1)
     ·cases decide (16<(ts[0].2.2.length:Int)) <;> rfl
     ·cases decide (16<(ts[0].2.2.length:Int)) <;> rfl
   | succ j =>
    rw [show decide (0<((j+1:Nat):Int))=true from decide_eq_true (by omega),gm (by omega) (by omega),bs,show (((j+1:Nat):Int)-1)=(j:Int) by omega,aT (by omega),bs,ad1 (by omega),Nat.add_sub_cancel,kN (by omega)]
    simp only [bs]
    cases ltS ts[j].1 ts[j+1].1
    ·rfl
    cases bj ts[j+1].2.1 ts[j+1].2.2
    ·rfl
    ·show (bif decide _ then _ else _)=_
     cases decide (ts[j+1].2.1<1)
     ·cases decide (16<(ts[j+1].2.2.length:Int)) <;> rfl
     ·cases decide (16<(ts[j+1].2.2.length:Int)) <;> rfl)
  (fun k=>by
   show bN N (k+1) ts ts (ts.length:Int) (ts.length:Int)=_
   rw [bN,dge (by omega),cond_false]) N 0 (by omega) (by omega)
 rw [Nat.sub_zero] at this
 unfold dK jJ
 by_cases h6:(6:Int)<ts.length
 ·rw [decide_eq_true h6,decide_eq_false (by omega:¬ (ts.length:Int)≤6)];rfl
 rw [decide_eq_false h6,decide_eq_true (by omega:(ts.length:Int)≤6),cond_false,Bool.true_and]
 have this':bN N N ts ts (ts.length:Int) 0=_:=this
 rw [this',bs]
 cases (List.range' 0 ts.length).all (kG ts) <;> rfl
theorem f4 (hN:1073741824≤N) {ts:List ba} (hx:gK ts):dL N ts=some (jJ ts):=by
 have hl:=hx.1
 have:=ge (L:=fun k i=>bO N k ts i) ts.length (by omega) false (kG ts) (ts.length:Int)
  (fun k i h=>by
   obtain ⟨g1,g2⟩:=hx.2 _ (List.getElem_mem h)
   show bO N (k+1) ts (i:Int)=_
   rw [bO,dlt h,cond_true,aT h,bs,jY hN g1,bs]
   unfold kG
   rw [kN h]
   simp only []
   cases i4 ts[i].1
   ·rfl
   rw [eG hN g2,bs]
   cases i with
   | zero =>
    rw [ad1 (by omega)]
    simp only [bs]
    cases bj ts[0].2.1 ts[0].2.2
    ·rfl
    ·show (bif decide _ then _ else _)=_
     cases decide (ts[0].2.1<1)
     ·cases decide (16<(ts[0].2.2.length:Int)) <;> rfl
     ·cases decide (16<(ts[0].2.2.length:Int)) <;> rfl
   | succ j =>
    rw [show decide (0<((j+1:Nat):Int))=true from decide_eq_true (by omega),gm (by omega) (by omega),bs,show (((j+1:Nat):Int)-1)=(j:Int) by omega,aT (by omega),bs,ad1 (by omega),Nat.add_sub_cancel,kN (by omega)]
    simp only [bs]
    cases ltS ts[j].1 ts[j+1].1
    ·rfl
    cases bj ts[j+1].2.1 ts[j+1].2.2
    ·rfl
    ·show (bif decide _ then _ else _)=_
     cases decide (ts[j+1].2.1<1)
     ·cases decide (16<(ts[j+1].2.2.length:Int)) <;> rfl
     ·cases decide (16<(ts[j+1].2.2.length:Int)) <;> rfl)
  (fun k=>by
   show bO N (k+1) ts (ts.length:Int)=_
   rw [bO,dge (by omega),cond_false]) N 0 (by omega) (by omega)
 rw [Nat.sub_zero] at this
 unfold dL jJ
 have this':bO N N ts 0=_:=this
 rw [this',bs]
 cases (List.range' 0 ts.length).all (kG ts)
 ·simp only [cond_false,lpS,Bool.and_false]
 ·simp only [cond_true,lpS,Bool.and_true]
theorem i9 (hN:1073741824≤N) {ts:List ba} {s:ByteArray} (hx:gK ts):dX N ts s=some (bC ts s):=by
 have hl:=hx.1
 unfold dX bC
 rw [iR hN hx,bs]
 cases jJ ts
 ·rfl
 rw [cond_true,cond_true]
 have:=oo (fun k i=>cj N k s 0 [] ts (ts.length:Int) i) ts (fun t=>decide (t.1=s)) (fun t=>(t.2,true)) (ts.length:Int) (by omega)
  (fun k i h=>by
   obtain ⟨g1,g2⟩:=hx.2 _ (List.getElem_mem h)
   show cj N (k+1) s 0 [] ts _ (i:Int)=_
   rw [cj,dlt h,cond_true,aT h,bs,o7 hN g2,bs,ad1 (by omega),bs,sT])
  (fun k=>by
   show cj N (k+1) s 0 [] ts _ (ts.length:Int)=_
   rw [cj,dge (by omega),cond_false]) N 0 (by omega) (by omega)
 rw [List.drop_zero] at this
 have this':cj N N s 0 [] ts (ts.length:Int) 0=_:=this
 rw [this',bs]
 cases ts.find? (fun t=>decide (t.1=s)) <;> rfl
theorem gp (hN:1073741824≤N) {ts:List ba} {s:ByteArray} (hx:gK ts):dk N ts s=some (bC ts s):=by
 have hl:=hx.1
 unfold dk bC
 cases hv:jJ ts
 ·obtain ⟨M,rfl⟩:∃ M,N=M+1:=⟨N-1,by omega⟩
  rw [bU,f4 hN hx,bs,hv]
  cases decide ((0:Int)<(ts.length:Int)) <;> rfl
 rw [cond_true]
 have:=oo (fun k i=>bU N k s ts 0 [] i) ts (fun t=>decide (t.1=s)) (fun t=>(t.2,true)) (ts.length:Int) (by omega)
  (fun k i h=>by
   obtain ⟨g1,g2⟩:=hx.2 _ (List.getElem_mem h)
   show bU N (k+1) s ts 0 [] (i:Int)=_
   rw [bU,dlt h,cond_true,f4 hN hx,bs,hv,cond_true,aT h,bs,bs,qg hN g2,bs,ad1 (by omega),bs,sT])
  (fun k=>by
   show bU N (k+1) s ts 0 [] (ts.length:Int)=_
   rw [bU,dge (by omega),cond_false]) N 0 (by omega) (by omega)
 rw [List.drop_zero] at this
 have this':bU N N s ts 0 [] 0=_:=this
 rw [this',bs]
 cases ts.find? (fun t=>decide (t.1=s)) <;> rfl
end
theorem mD:∀ (a b:List Int),bq b a=- bq a b
 | [],[]=>by simp [bq]
 | [],_ :: _=>by simp [bq]
 | _ :: _,[]=>by simp [bq]
 | x :: a,y :: b=>by
  unfold bq
  have:=mD a b
  (repeat' split) <;> omega
theorem gO:∀ {a b c:List Int},bq a b<0→bq b c<0→bq a c<0
 | [],[],_,h,_=>by simp [bq] at h
 | [],_ :: _,[],_,h=>by simp [bq] at h
 | [],_ :: _,_ :: _,_,_=>by simp [bq]
 | _ :: _,[],_,h,_=>by simp [bq] at h
 | _ :: _,_ :: _,[],_,h=>by simp [bq] at h
 | x :: a,y :: b,z :: c,h1,h2=>by
  unfold bq at h1 h2 ⊢
  have:=@gO a b c
  split at h1
  ·split at h2
   ·rw [if_pos (by omega)];omega
   ·split at h2
    ·omega
    ·rw [if_pos (by omega)];omega
  ·split at h1
   ·omega
   ·split at h2
    ·rw [if_pos (by omega)];omega
    ·split at h2
     ·omega
     ·rw [if_neg (by omega),if_neg (by omega)];exact this h1 h2
def xJ (rows:List (List Int)):Prop:=∀ i j (_:i<j) (hj:j<rows.length),bq (rows[i]'(by omega)) rows[j]<0
theorem wr {rows:List (List Int)} (h:∀ i (hi:i<rows.length) j (hj:j+1=i),bq (rows[j]'(by omega)) rows[i]<0):xJ rows:=by
 intro i j hij hj
 induction j with
 | zero=>omega
 | succ j ih =>
  have h1:=h (j+1) hj j rfl
  by_cases e:i=j
  ·subst e;exact h1
  ·exact gO (ih (by omega) (by omega)) h1
theorem qA {n:Int} {rows:List (List Int)} (h:bj n rows=true):xJ rows:=by
 obtain ⟨_,_,_,h4⟩:=bu h
 exact wr fun i hi j hj=>(h4 i hi).2.2 j hj
section
variable {N:Nat}
theorem px {α:Type} {N:Nat} (L:Nat→Int→Option (Sum Bool Int)) (xs:List α) (q:α→Bool) (hN:1073741824≤N) (hl:xs.length≤1048576)
  (hstep:∀ k i (h:i<xs.length),L (k+1) (i:Int)=bif q xs[i] then L k ((i+1:Nat):Int) else some (.inl false)) (hend:∀ k,L (k+1) (xs.length:Int)=some (.inr (xs.length:Int))) :
  L N 0=some (bif xs.all q then .inr (xs.length:Int) else .inl false):=by
 have:=ge L xs.length (by omega) false (fun i=>if h:i<xs.length then q xs[i] else true) (xs.length:Int) (fun k i h=>by rw [hstep k i h];simp only [dif_pos h]) hend N 0 (by omega) (by omega)
 rw [Nat.sub_zero,gk xs q _ (fun i hi=>by rw [dif_pos hi])] at this
 exact this
end
end Go.Proofs.Ytnipkopfefkojaa
namespace Go.Proofs.Ytnipkopfefkojaa
open Go.RowKit

theorem pp {σ R V:Type} (L:Nat→σ→Int→Option (Sum R V)) (n:Nat) (b:R) (p:Nat→Bool) (A:Nat→σ) (v:V)
  (hstep:∀ k i,i<n→L (k+1) (A i) (i:Int)=bif p i then L k (A (i+1)) ((i+1:Nat):Int) else some (.inl b)) (hend:∀ k,L (k+1) (A n) (n:Int)=some (.inr v)) :
  ∀ k i,i≤n→n-i<k→L k (A i) (i:Int)=some (bif (List.range' i (n-i)).all p then .inr v else .inl b):=by
 intro k
 induction k with
 | zero=>intro i hi hk;omega
 | succ k ih =>
  intro i hi hk
  by_cases h:i<n
  ·rw [hstep k i h,show n-i=(n-(i+1))+1 by omega,List.range'_succ,List.all_cons]
   cases hp:p i with
   | true=>rw [cond_true,Bool.true_and];exact ih (i+1) (by omega) (by omega)
   | false=>rfl
  ·obtain rfl:i=n:=by omega
   rw [hend k,Nat.sub_self];rfl
theorem nI {R V S:Type} {v:V} {f:R→Option S} {g:V→Option S}:lpS (.inr v) f g=g v:=rfl
theorem vL {R V S:Type} {v:R} {f:R→Option S} {g:V→Option S}:lpS (.inl v) f g=f v:=rfl
abbrev aQ:=ByteArray × List Int
abbrev du (xs:List aQ):Prop:=lc (fun x=>x.1.size≤1048576∧(lc (fun _=>True) 1048576) x.2) 1048576 xs
def gW (n:Int) (a:aQ):Bool:=i4 a.1&&inR a.2.length 1 5&&a.2.all fun v=>inR v 0 (n-1)
def jC (n:Int) (atoms:List aQ):Bool:=(List.range' 0 n.toNat).all fun v=>atoms.any fun a=>decide ((v:Int)∈a.2)
def fu (n:Int) (atoms:List aQ) (out:List Int):Bool:=inR n 1 5&&inR atoms.length 1 4&&fd out n&&atoms.all (gW n)&&jC n atoms
theorem g9:∀ (n:Nat) (xs:List Int),xs.Nodup→(∀ x∈xs,0≤x∧x<n)→xs.length≤n:=by
 intro n
 induction n with
 | zero =>
  intro xs _ h
  cases xs with
  | nil=>simp
  | cons x xs=>have:=h x (by simp);omega
 | succ n ih =>
  intro xs hn h
  by_cases hm:(n:Int)∈xs
  ·have h1:=ih (xs.erase (n:Int)) (hn.erase _) (fun x hx=>by
    have h2:=h x (List.mem_of_mem_erase hx)
    have h3:x≠n:=by rintro rfl;exact (hn.mem_erase_iff.1 hx).1 rfl
    omega)
   rw [List.length_erase_of_mem hm] at h1
   omega
  ·have:=ih xs hn (fun x hx=>by
    have h2:=h x hx
    have h3:x≠n:=by rintro rfl;exact hm hx
    omega)
   omega
theorem eZ {xs:List Int} {n:Int} (h:fd xs n=true):xs.Nodup∧∀ x∈xs,0≤x∧x≤n-1:=by
 unfold fd at h
 rw [List.all_eq_true] at h
 have hk:∀ i (hi:i<xs.length),(0≤xs[i]∧xs[i]≤n-1)∧xs[i]∉xs.take i:=by
  intro i hi
  have:=h i (by simp;omega)
  simp only [bb hi,Bool.and_eq_true,cJ,Bool.not_eq_true',decide_eq_false_iff_not] at this
  exact this
 refine ⟨?_,fun x hx=>?_⟩
 ·rw [List.nodup_iff_pairwise_ne,List.pairwise_iff_getElem]
  intro i j hi hj hij e
  refine (hk j hj).2 ?_
  rw [← e]
  have:(xs.take j)[i]'(by simp;omega)=xs[i]:=List.getElem_take
  rw [← this];exact List.getElem_mem _
 ·obtain ⟨i,hi,rfl⟩:=List.getElem_of_mem hx
  exact (hk i hi).1
theorem tc {xs:List Int} {n:Int} (h0:0≤n) (h:fd xs n=true):(xs.length:Int)≤n:=by
 obtain ⟨h1,h2⟩:=eZ h
 have:=g9 n.toNat xs h1 (fun x hx=>by have:=h2 x hx;omega)
 omega
def iU (m:Nat) (g:Nat→Bool):List Bool:=(List.range' 0 m).map g
theorem oB (m:Nat) (g:Nat→Bool):(iU m g).length=m:=by simp [iU]
theorem wh {m:Nat} {g:Nat→Bool} {i:Nat} (h:i<m):ix (iU m g) (i:Int)=some (g i):=by
 rw [aT (by rw [oB];exact h)];simp [iU]
theorem vo {m:Nat} {g:Nat→Bool} {c:Nat} (h:c<m):sto (iU m g) (c:Int) true=some (iU m fun v=>g v||decide (v=c)):=by
 rw [jv (by rw [oB];exact h)]
 congr 1
 refine List.ext_getElem (by simp [iU]) fun i h1 h2=>?_
 simp only [iU,List.getElem_set,List.getElem_map,List.getElem_range']
 simp only [Nat.zero_add,Nat.one_mul]
 by_cases e:c=i
 ·subst e;simp
 ·have e2:¬ i=c:=fun h=>e h.symm
  rw [if_neg e,decide_eq_false e2,Bool.or_false]
theorem oC {m:Nat} {f g:Nat→Bool} (h:∀ v,f v=g v):iU m f=iU m g:=by rw [show f=g from funext h]
theorem vO (m:Nat) (g:Nat→Bool):(iU m g).all id=(List.range' 0 m).all g:=by simp [iU,List.all_map]
theorem m4 {α:Type} {p:α→Bool} {xs:List α} {i:Nat} (h:i<xs.length):(xs.take (i+1)).any p=((xs.take i).any p||p xs[i]):=by
 rw [List.take_succ_eq_append_getElem h,List.any_append];simp
theorem qz {xs:List Int} {i:Nat} (h:i<xs.length) (v:Int):decide (v∈xs.take (i+1))=(decide (v∈xs.take i)||decide (v=xs[i])):=by
 have e:v∈xs.take (i+1)↔v∈xs.take i∨v=xs[i]:=by
  rw [List.take_succ_eq_append_getElem h,List.mem_append,List.mem_singleton]
 rw [Bool.eq_iff_iff];simp only [decide_eq_true_eq,Bool.or_eq_true];exact e
section
variable {N:Nat}
def ie (m:Nat) (atoms:List aQ) (i:Nat):List Bool:=iU m fun v=>(atoms.take i).any fun a=>decide ((v:Int)∈a.2)
def jD (m:Nat) (atoms:List aQ) (i:Nat) (xs:List Int) (j:Nat):List Bool:=iU m fun v=>(atoms.take i).any (fun a=>decide ((v:Int)∈a.2))||decide ((v:Int)∈xs.take j)
theorem wy (m:Nat) (atoms:List aQ) (i:Nat) (xs:List Int):jD m atoms i xs 0=ie m atoms i:=oC fun v=>by simp
theorem uh (m:Nat) (atoms:List aQ) {i:Nat} (h:i<atoms.length):jD m atoms i atoms[i].2 atoms[i].2.length=ie m atoms (i+1):=oC fun v=>by rw [List.take_length,m4 h]
theorem tv {m:Nat} {atoms:List aQ} {i:Nat} {xs:List Int} {j c:Nat} (hj:j<xs.length) (hc:xs[j]=(c:Int)) (hm:c<m):sto (jD m atoms i xs j) (c:Int) true=some (jD m atoms i xs (j+1)):=by
 unfold jD
 rw [vo hm]
 congr 1
 refine oC fun v=>?_
 rw [qz hj,hc,Bool.or_assoc]
 congr 2
 rw [decide_eq_decide];omega
theorem vq {m:Nat} {atoms:List aQ} {i:Nat} {xs:List Int} {j c:Nat} (hm:c<m):∃ b,ix (jD m atoms i xs j) (c:Int)=some b:=⟨_,wh hm⟩
theorem wu (m:Nat) (atoms:List aQ):List.replicate m false=ie m atoms 0:=by
 refine List.ext_getElem (by simp [ie,iU]) fun i h1 h2=>?_
 simp [ie,iU]
theorem rZ {m:Nat} {atoms:List aQ} {i:Nat} {xs:List Int} {t:List aQ} {tl ti:Int} (hx:xs.length≤1048576) (hm:m≤5) (k j:Nat) (hj:j<xs.length) :
  cg N (k+1) (m:Int) (jD m atoms i xs j) t tl ti xs (xs.length:Int) (j:Int)=bif (if h:j<xs.length then inR xs[j] 0 ((m:Int)-1) else true) then cg N k (m:Int) (jD m atoms i xs (j+1)) t tl ti xs (xs.length:Int) ((j+1:Nat):Int) else some (.inl false):=by
 rw [cg,dlt hj,cond_true,aT hj,bs,gm (by omega) (by omega),bs,gh,bs,dif_pos hj]
 cases hc:inR xs[j] 0 ((m:Int)-1) with
 | false=>rw [cond_false,cond_false]
 | true =>
  have hc':=cJ.1 hc
  obtain ⟨c,hcc⟩:=Int.eq_ofNat_of_zero_le hc'.1
  obtain ⟨b,hb⟩:=vq (m:=m) (atoms:=atoms) (i:=i) (xs:=xs) (j:=j) (c:=c) (by omega)
  rw [cond_true,cond_true,hcc,hb,bs,tv hj hcc (by omega),bs,ad1 (by omega),bs]
theorem w7 (hN:1073741824≤N) {m:Nat} {atoms:List aQ} {i:Nat} {xs:List Int} {t:List aQ} {tl ti:Int} (hx:xs.length≤1048576) (hm:m≤5) :
  cg N N (m:Int) (ie m atoms i) t tl ti xs (xs.length:Int) 0=some (bif xs.all (fun v=>inR v 0 ((m:Int)-1)) then .inr (jD m atoms i xs xs.length,(xs.length:Int)) else .inl false):=by
 have h:=pp (fun k (s:List Bool) j=>cg N k (m:Int) s t tl ti xs (xs.length:Int) j) xs.length false (fun j=>if h:j<xs.length then inR xs[j] 0 ((m:Int)-1) else true) (jD m atoms i xs) (jD m atoms i xs xs.length,(xs.length:Int))
  (fun k j hj=>rZ hx hm k j hj)
  (fun k=>by
   show cg N (k+1) (m:Int) _ t tl ti xs _ (xs.length:Int)=_
   rw [cg,dge (by omega),cond_false]) N 0 (by omega) (by omega)
 rw [Nat.sub_zero,gk xs (fun v=>inR v 0 ((m:Int)-1)) _ (fun j hj=>by rw [dif_pos hj]),wy] at h
 exact h
theorem sj (hN:1073741824≤N) {m:Nat} {atoms:List aQ} (ha:du atoms) (hm:m≤5) (k i:Nat) (h:i<atoms.length) :
  cc N (k+1) (m:Int) (ie m atoms i) atoms (atoms.length:Int) (i:Int)=bif (if h:i<atoms.length then gW m atoms[i] else true) then cc N k (m:Int) (ie m atoms (i+1)) atoms (atoms.length:Int) ((i+1:Nat):Int) else some (.inl false):=by
 have hl:=ha.1
 obtain ⟨g1,g2⟩:=ha.2 _ (List.getElem_mem h)
 rw [cc,dlt h,cond_true,aT h,bs,jV hN g1,bs,gh,bs,dif_pos h]
 unfold gW
 cases i4 atoms[i].1 with
 | false=>simp only [Bool.false_and,Bool.and_false,Bool.true_and,cond_false,cond_true]
 | true =>
  cases inR (atoms[i].2.length:Int) 1 5 with
  | false=>simp only [Bool.false_and,Bool.and_false,Bool.true_and,cond_false,cond_true]
  | true =>
   simp only [cond_true,Bool.true_and]
   rw [w7 hN g2.1 hm,bs]
   cases atoms[i].2.all fun v=>inR v 0 ((m:Int)-1) with
   | false=>simp only [cond_false,lpS]
   | true =>
    rw [cond_true,nI,ad1 (by omega),bs,uh m atoms h,cond_true]
theorem xq (hN:1073741824≤N) {m:Nat} {atoms:List aQ} (ha:du atoms) (hm:m≤5) :
  cc N N (m:Int) (List.replicate m false) atoms (atoms.length:Int) 0=some (bif atoms.all (gW m) then .inr (ie m atoms atoms.length,(atoms.length:Int)) else .inl false):=by
 have hl:=ha.1
 have h:=pp (fun k (s:List Bool) i=>cc N k (m:Int) s atoms (atoms.length:Int) i) atoms.length false (fun i=>if h:i<atoms.length then gW m atoms[i] else true) (ie m atoms) (ie m atoms atoms.length,(atoms.length:Int))
  (fun k i h=>sj hN ha hm k i h)
  (fun k=>by
   show cc N (k+1) (m:Int) _ atoms _ (atoms.length:Int)=_
   rw [cc,dge (by omega),cond_false]) N 0 (by omega) (by omega)
 rw [Nat.sub_zero,gk atoms (gW m) _ (fun i hi=>by rw [dif_pos hi]),← wu] at h
 exact h
theorem xx (hN:1073741824≤N) {xs:List Bool} (hx:xs.length≤1048576):cx N N xs (xs.length:Int) 0=some (bif xs.all id then .inr (xs.length:Int) else .inl false) :=
 px (fun k i=>cx N k xs (xs.length:Int) i) xs id hN hx
  (fun k i h=>by
   show cx N (k+1) _ _ (i:Int)=_
   rw [cx,dlt h,cond_true,aT h,bs,ad1 (by omega),bs];rfl)
  (fun k=>by
   show cx N (k+1) _ _ (xs.length:Int)=_
   rw [cx,dge (by omega),cond_false])
theorem tO {m:Nat} {atoms:List aQ}:(ie m atoms atoms.length).all id=jC m atoms:=by
 unfold ie jC
 rw [vO,Int.toNat_natCast,List.take_length]
theorem pt {n:Int} {atoms:List aQ} {out:List Int} (h:inR n 1 5=false):fu n atoms out=false:=by unfold fu;rw [h];rfl
theorem mS (hN:1073741824≤N) {n:Int} {atoms:List aQ} {out:List Int} (ha:du atoms) (ho:okI out):fE N n atoms out=some (fu n atoms out):=by
 have hl:=ha.1
 unfold fE
 rw [gh,bs,gh,bs]
 cases hn:inR n 1 5 with
 | false=>rw [pt hn];rfl
 | true =>
  have hn':=cJ.1 hn
  unfold fu
  rw [hn,cond_true,tk hN ho.1 (by omega),bs]
  cases inR (atoms.length:Int) 1 4 with
  | false=>rfl
  | true =>
   cases fd out n with
   | false=>rfl
   | true =>
    obtain ⟨m,rfl⟩:=Int.eq_ofNat_of_zero_le (by omega:0≤n)
    simp only [cond_true,Bool.and_self,Bool.true_and]
    rw [we (by decide) (by omega),bs,xq hN ha (by omega),bs]
    cases atoms.all (gW m) with
    | false=>rfl
    | true =>
     simp only [cond_true,lpS,Bool.true_and]
     rw [xx hN (by unfold ie;rw [oB];omega),bs,tO]
     cases jC m atoms <;> rfl
theorem ip (hN:1073741824≤N) {s:ByteArray} {xs:List Int} {v:Int} (hx:okI xs):dv N s xs v=some (decide (v∈xs)):=by
 have hl:=hx.1
 have:=oo (fun k i=>bV N k v s xs i) xs (fun x=>decide (x=v)) (fun _=>true) (xs.length:Int) (by omega)
  (fun k i h=>by
   show bV N (k+1) v s xs (i:Int)=_
   rw [bV,dlt h,cond_true,aT h,bs,ad1 (by omega),bs,vx])
  (fun k=>by
   show bV N (k+1) v s xs (xs.length:Int)=_
   rw [bV,dge (by omega),cond_false]) N 0 (by omega) (by omega)
 rw [List.drop_zero] at this
 have this':bV N N v s xs 0=_:=this
 unfold dv
 rw [this',bs]
 cases hf:xs.find? (fun x=>decide (x=v)) with
 | none =>
  have:v∉xs:=fun hm=>by have:=(List.find?_eq_none.1 hf) v hm;simp at this
  simp [lpS,this]
 | some y =>
  have h1:=List.find?_some hf
  have h2:=List.mem_of_find?_eq_some hf
  have:v∈xs:=by simp at h1;rw [← h1];exact h2
  simp [lpS,this]
theorem kR (hN:1073741824≤N) {s:ByteArray} {xs:List Int} {v:Int} (hx:okI xs):ea N s xs v=some (decide (v∈xs)):=by
 unfold ea;rw [ql hN hx.1,bs]
theorem xT (hN:1073741824≤N) {n:Int} {atoms:List aQ} {out:List Int} {i:Nat} (h:i<atoms.length) (hn:n≤5) (h0:0≤n) (hx:atoms[i].2.length≤1048576) :
  cw N N n atoms out (i:Int) 0=some (bif atoms[i].2.all (fun v=>inR v 0 (n-1)) then .inr (atoms[i].2.length:Int) else .inl false) :=
 px (fun k2 j=>cw N k2 n atoms out (i:Int) j) atoms[i].2 (fun v=>inR v 0 (n-1)) hN hx
  (fun k2 j hj=>by
   show cw N (k2+1) n atoms out (i:Int) (j:Int)=_
   rw [cw,aT h,bs,dlt hj,cond_true,bs,aT hj,bs,gm (by omega) (by omega),bs,hU,bs,ad1 (by omega),bs])
  (fun k2=>by
   show cw N (k2+1) n atoms out (i:Int) (atoms[i].2.length:Int)=_
   rw [cw,aT h,bs,dge (by omega),cond_false])
theorem xc (hN:1073741824≤N) {n:Int} {atoms:List aQ} {out:List Int} (ha:du atoms) (hn:n≤5) (h0:0≤n) :
  cy N N n atoms out 0=some (bif atoms.all (gW n) then .inr (atoms.length:Int) else .inl false) :=
 px (fun k i=>cy N k n atoms out i) atoms (gW n) hN ha.1
  (fun k i h=>by
   have hl:=ha.1
   obtain ⟨g1,g2⟩:=ha.2 _ (List.getElem_mem h)
   show cy N (k+1) n atoms out (i:Int)=_
   rw [cy,dlt h,cond_true,aT h,bs,jY hN g1,bs,bs,hU,bs]
   unfold gW
   cases i4 atoms[i].1 with
   | false=>simp only [Bool.false_and,Bool.and_false,Bool.true_and,cond_false,cond_true]
   | true =>
    cases inR (atoms[i].2.length:Int) 1 5 with
    | false=>simp only [Bool.false_and,Bool.and_false,Bool.true_and,cond_false,cond_true]
    | true =>
     simp only [cond_true,Bool.true_and]
     rw [xT hN h hn h0 g2.1,bs]
     cases atoms[i].2.all fun v=>inR v 0 (n-1) with
     | false=>simp only [cond_false,lpS]
     | true =>
      rw [cond_true,nI,ad1 (by omega),bs,cond_true])
  (fun k=>by
   show cy N (k+1) n atoms out (atoms.length:Int)=_
   rw [cy,dge (by omega),cond_false])
theorem xr (hN:1073741824≤N) {n v:Int} {atoms:List aQ} {out:List Int} (ha:du atoms) :
  ce N N n atoms out v false 0=some (atoms.any (fun a=>decide (v∈a.2)),(atoms.length:Int)):=by
 have hl:=ha.1
 exact fm (fun k2 (s:Bool) j=>ce N k2 n atoms out v s j) atoms.length (fun j=>(atoms.take j).any fun a=>decide (v∈a.2)) (atoms.any (fun a=>decide (v∈a.2)),(atoms.length:Int))
  (fun k2 j hj=>by
   obtain ⟨g1,g2⟩:=ha.2 _ (List.getElem_mem hj)
   show ce N (k2+1) n atoms out v _ (j:Int)=_
   rw [ce,dlt hj,cond_true,m4 hj,ad1 (by omega),bs,aT hj,bs,ip hN g2,bs,bs]
   cases (atoms.take j).any fun a=>decide (v∈a.2) <;> rfl)
  (fun k2=>by
   show ce N (k2+1) n atoms out v _ (atoms.length:Int)=_
   rw [ce,dge (by omega),cond_false,List.take_length]) N 0 (by omega) (by omega)
theorem xD (hN:1073741824≤N) {m:Nat} {atoms:List aQ} {out:List Int} (ha:du atoms) (hm:m≤5) :
  cE N N (m:Int) atoms out 0=some (bif jC m atoms then .inr (m:Int) else .inl false):=by
 have h:=ge (fun k i=>cE N k (m:Int) atoms out i) m (by omega) false (fun v=>atoms.any fun a=>decide ((v:Int)∈a.2)) (m:Int)
  (fun k v h=>by
   show cE N (k+1) (m:Int) atoms out (v:Int)=_
   rw [cE,dlt h,cond_true,xr hN ha,bs,lpB]
   simp only []
   rw [ad1 (by omega),bs])
  (fun k=>by
   show cE N (k+1) (m:Int) atoms out (m:Int)=_
   rw [cE,dge (by omega),cond_false]) N 0 (by omega) (by omega)
 unfold jC
 rw [Int.toNat_natCast]
 rw [Nat.sub_zero] at h
 exact h
theorem xf (hN:1073741824≤N) {n:Int} {atoms:List aQ} {out:List Int} (ho:out.length≤1048576) (hn:n≤5) (h0:0≤n) :
  cF N N n atoms out 0=some (bif fd out n then .inr (out.length:Int) else .inl false):=by
 have h:=ge (fun k i=>cF N k n atoms out i) out.length (by omega) false (fun i=>inR (out.getD i 0) 0 (n-1)&&!decide (out.getD i 0∈out.take i)) (out.length:Int)
  (fun k i h=>by
   show cF N (k+1) n atoms out (i:Int)=_
   rw [cF,dlt h,cond_true,aT h,bs,gm (by omega) (by omega),bs,hU,bs,show ((0:Int))=((0:Nat):Int) from rfl,iG (Nat.zero_le _) (by omega),bs,bs,List.drop_zero,gM hN (by simp;omega),bs,ad1 (by omega),bs]
   simp only [bb h,el,show ((0:Nat):Int)=0 from rfl]
   cases inR out[i] 0 (n-1)
   ·rfl
   ·cases decide (out[i]∈out.take i) <;> rfl)
  (fun k=>by
   show cF N (k+1) n atoms out (out.length:Int)=_
   rw [cF,dge (by omega),cond_false]) N 0 (by omega) (by omega)
 rw [Nat.sub_zero] at h
 exact h
theorem jK (hN:1073741824≤N) {n:Int} {atoms:List aQ} {out:List Int} (ha:du atoms) (ho:okI out):dP N n atoms out=some (fu n atoms out):=by
 have hl:=ha.1
 have hol:=ho.1
 unfold dP
 rw [hU,bs,hU,bs]
 cases hn:inR n 1 5 with
 | false=>rw [pt hn];rfl
 | true =>
  have hn':=cJ.1 hn
  unfold fu
  rw [hn]
  cases inR (atoms.length:Int) 1 4 with
  | false=>rfl
  | true =>
   simp only [cond_true,Bool.true_and]
   by_cases hlen:n<(out.length:Int)
   ·have:fd out n=false:=by
     rw [← Bool.not_eq_true];intro h
     have:=tc (by omega) h;omega
    rw [decide_eq_true hlen,cond_true,this];rfl
   ·obtain ⟨m,rfl⟩:=Int.eq_ofNat_of_zero_le (by omega:0≤n)
    rw [decide_eq_false hlen,cond_false,xc hN ha (by omega) (by omega),bs]
    cases atoms.all (gW m) with
    | false=>rw [Bool.and_false,Bool.false_and];rfl
    | true =>
     simp only [cond_true,lpS,Bool.and_true]
     rw [xD hN ha (by omega),bs]
     cases jC m atoms with
     | false=>rw [Bool.and_false];rfl
     | true =>
      simp only [cond_true,lpS,Bool.and_true]
      rw [xf hN hol (by omega) (by omega),bs]
      cases fd out m <;> rfl
theorem lx {n:Int} {atoms:List aQ} {out:List Int} (h:fu n atoms out=true):1≤n∧n≤5∧1≤(atoms.length:Int)∧(atoms.length:Int)≤4:=by
 unfold fu at h
 simp only [Bool.and_eq_true,cJ] at h
 exact ⟨h.1.1.1.1.1,h.1.1.1.1.2,h.1.1.1.2.1,h.1.1.1.2.2⟩
end
end Go.Proofs.Ytnipkopfefkojaa
namespace Go.Proofs.Ytnipkopfefkojaa
open Go.RowKit

section
variable {N:Nat}
theorem x6 {a b:Int} (ha:0≤a) (hb:0<b) (h:a≤4611686018427387904):qt a b=some (a.tdiv b):=by
 have h1:0≤a.tdiv b:=Int.tdiv_nonneg ha (by omega)
 have h2:a.tdiv b≤a:=Int.tdiv_le_self b ha
 unfold qt;rw [if_pos ⟨by omega,kU (by omega) (by omega)⟩]
end
end Go.Proofs.Ytnipkopfefkojaa
namespace Go.Proofs.Ytnipkopfefkojaa
open Go.RowKit

theorem xZ {σ V:Type} (L1 L2:Nat→σ→Int→Option V) (n:Nat) (I:Nat→σ→Prop) (P:V→Prop)
  (hstep:∀ k i s,i<n→I i s→(∃ s',L1 (k+1) s (i:Int)=L1 k s' ((i+1:Nat):Int)∧L2 (k+1) s (i:Int)=L2 k s' ((i+1:Nat):Int)∧I (i+1) s')∨∃ v,L1 (k+1) s (i:Int)=some v∧L2 (k+1) s (i:Int)=some v∧P v)
  (hend:∀ k s,I n s→∃ v,L1 (k+1) s (n:Int)=some v∧L2 (k+1) s (n:Int)=some v∧P v) :
  ∀ k i s,i≤n→n-i<k→I i s→∃ v,L1 k s (i:Int)=some v∧L2 k s (i:Int)=some v∧P v:=by
 intro k
 induction k with
 | zero=>intro i s hi hk;omega
 | succ k ih =>
  intro i s hi hk hI
  by_cases h:i<n
  ·rcases hstep k i s h hI with ⟨s',e1,e2,hI'⟩ | ⟨v,e1,e2,hP⟩
   ·rw [e1,e2];exact ih (i+1) s' (by omega) (by omega) hI'
   ·exact ⟨v,e1,e2,hP⟩
  ·obtain rfl:i=n:=by omega
   exact hend k s hI
end Go.Proofs.Ytnipkopfefkojaa
namespace Go.Proofs.Ytnipkopfefkojaa
open Go.RowKit

section
variable {N:Nat}
def eV (n:Nat):List Int:=(List.range' 0 n).map fun i:Nat=>(i:Int)
theorem fS (n:Nat):(eV n).length=n:=by simp [eV]
end
end Go.Proofs.Ytnipkopfefkojaa
namespace Go.Proofs.Ytnipkopfefkojaa
open Go.RowKit

abbrev aD:=List (List Int)
def bw:Nat→aD→aD→aD
 | 0,_,_=>[]
 | _+1,[],[]=>[]
 | m+1,[],y :: b=>y :: bw m [] b
 | m+1,x :: a,[]=>x :: bw m a []
 | m+1,x :: a,y :: b=>if bq x y<0 then x :: bw m a (y :: b) else if bq x y=0 then x :: bw m a b else y :: bw m (x :: a) b
theorem oi:∀ (m m':Nat) (a b:aD),a.length+b.length≤m→a.length+b.length≤m'→bw m a b=bw m' a b:=by
 intro m
 induction m with
 | zero =>
  intro m' a b h1 h2
  obtain rfl:a=[]:=List.length_eq_zero_iff.1 (by omega)
  obtain rfl:b=[]:=List.length_eq_zero_iff.1 (by simpa using h1)
  cases m' <;> rfl
 | succ m ih =>
  intro m' a b h1 h2
  cases m' with
  | zero =>
   obtain rfl:a=[]:=List.length_eq_zero_iff.1 (by omega)
   obtain rfl:b=[]:=List.length_eq_zero_iff.1 (by simpa using h2)
   rfl
  | succ m' =>
   match a,b with
   | [],[]=>rfl
   | [],y :: b=>rw [bw,bw,ih m' [] b (by simp at h1 ⊢;omega) (by simp at h2 ⊢;omega)]
   | x :: a,[]=>rw [bw,bw,ih m' a [] (by simp at h1 ⊢;omega) (by simp at h2 ⊢;omega)]
   | x :: a,y :: b =>
    simp only [List.length_cons] at h1 h2
    rw [bw,bw,ih m' a (y :: b) (by simp only [List.length_cons];omega) (by simp only [List.length_cons];omega),ih m' a b (by omega) (by omega),ih m' (x :: a) b (by simp only [List.length_cons];omega) (by simp only [List.length_cons];omega)]
theorem iM:∀ (m:Nat) (a b:aD) (r:List Int),r∈bw m a b→r∈a∨r∈b:=by
 intro m
 induction m with
 | zero=>intro a b r h;simp [bw] at h
 | succ m ih =>
  intro a b r h
  match a,b with
  | [],[]=>simp [bw] at h
  | [],y :: b =>
   rw [bw,List.mem_cons] at h
   rcases h with rfl | h
   ·simp
   ·rcases ih _ _ _ h with h | h
    ·simp at h
    ·simp [h]
  | x :: a,[] =>
   rw [bw,List.mem_cons] at h
   rcases h with rfl | h
   ·simp
   ·rcases ih _ _ _ h with h | h
    ·simp [h]
    ·simp at h
  | x :: a,y :: b =>
   rw [bw] at h
   split at h
   ·rcases List.mem_cons.1 h with rfl | h
    ·simp
    ·rcases ih _ _ _ h with h | h
     ·simp [h]
     ·exact .inr h
   ·split at h
    ·rcases List.mem_cons.1 h with rfl | h
     ·simp
     ·rcases ih _ _ _ h with h | h
      ·simp [h]
      ·simp [h]
    ·rcases List.mem_cons.1 h with rfl | h
     ·simp
     ·rcases ih _ _ _ h with h | h
      ·exact .inl h
      ·simp [h]
theorem tA:∀ (m:Nat) (a b:aD),(bw m a b).length≤a.length+b.length:=by
 intro m
 induction m with
 | zero=>intro a b;simp [bw]
 | succ m ih =>
  intro a b
  match a,b with
  | [],[]=>simp [bw]
  | [],y :: b=>have:=ih [] b;rw [bw];simp only [List.length_cons,List.length_nil] at *;omega
  | x :: a,[]=>have:=ih a [];rw [bw];simp only [List.length_cons,List.length_nil] at *;omega
  | x :: a,y :: b =>
   have h1:=ih a (y :: b);have h2:=ih a b;have h3:=ih (x :: a) b
   rw [bw]
   simp only [List.length_cons] at *
   split
   ·simp only [List.length_cons];omega
   ·split <;> (simp only [List.length_cons];omega)
def gI (rows:aD):Prop:=rows.Pairwise fun a b=>bq a b<0
theorem wQ {a b:List Int} (h1:¬ bq a b<0) (h2:¬ bq a b=0):bq b a<0:=by
 have:=mD a b;omega
theorem s7:∀ (m:Nat) (a b:aD),gI a→gI b→gI (bw m a b):=by
 intro m
 induction m with
 | zero=>intro a b _ _;exact List.Pairwise.nil
 | succ m ih =>
  intro a b ha hb
  match a,b with
  | [],[]=>exact List.Pairwise.nil
  | [],y :: b =>
   rw [bw]
   obtain ⟨h1,h2⟩:=List.pairwise_cons.1 hb
   refine List.pairwise_cons.2 ⟨fun r hr=>?_,ih [] b ha h2⟩
   rcases iM _ _ _ _ hr with h | h
   ·simp at h
   ·exact h1 r h
  | x :: a,[] =>
   rw [bw]
   obtain ⟨h1,h2⟩:=List.pairwise_cons.1 ha
   refine List.pairwise_cons.2 ⟨fun r hr=>?_,ih a [] h2 hb⟩
   rcases iM _ _ _ _ hr with h | h
   ·exact h1 r h
   ·simp at h
  | x :: a,y :: b =>
   obtain ⟨h1,h2⟩:=List.pairwise_cons.1 ha
   obtain ⟨g1,g2⟩:=List.pairwise_cons.1 hb
   rw [bw]
   by_cases hlt:bq x y<0
   ·rw [if_pos hlt]
    refine List.pairwise_cons.2 ⟨fun r hr=>?_,ih a (y :: b) h2 hb⟩
    rcases iM _ _ _ _ hr with h | h
    ·exact h1 r h
    ·rcases List.mem_cons.1 h with rfl | h
     ·exact hlt
     ·exact gO hlt (g1 r h)
   ·rw [if_neg hlt]
    by_cases heq:bq x y=0
    ·rw [if_pos heq]
     have e:=iA.1 heq
     refine List.pairwise_cons.2 ⟨fun r hr=>?_,ih a b h2 g2⟩
     rcases iM _ _ _ _ hr with h | h
     ·exact h1 r h
     ·rw [e];exact g1 r h
    ·rw [if_neg heq]
     have hgt:=wQ hlt heq
     refine List.pairwise_cons.2 ⟨fun r hr=>?_,ih (x :: a) b ha g2⟩
     rcases iM _ _ _ _ hr with h | h
     ·rcases List.mem_cons.1 h with rfl | h
      ·exact hgt
      ·exact gO hgt (h1 r h)
     ·exact g1 r h
def bh:Nat→aD→aD
 | 0,rows=>rows
 | f+1,rows=>if rows.length<2 then rows else bw rows.length (bh f (rows.take (rows.length / 2))) (bh f (rows.drop (rows.length / 2)))
theorem dx:∀ (f:Nat) (rows:aD),(bh f rows).length≤rows.length:=by
 intro f
 induction f with
 | zero=>intro rows;exact Nat.le_refl _
 | succ f ih =>
  intro rows
  unfold bh
  split
  ·exact Nat.le_refl _
  ·have h1:=tA rows.length (bh f (rows.take (rows.length / 2))) (bh f (rows.drop (rows.length / 2)))
   have h2:=ih (rows.take (rows.length / 2))
   have h3:=ih (rows.drop (rows.length / 2))
   rw [List.length_take] at h2
   rw [List.length_drop] at h3
   omega
theorem gL:∀ (f:Nat) (rows:aD) (r:List Int),r∈bh f rows→r∈rows:=by
 intro f
 induction f with
 | zero=>intro rows r h;exact h
 | succ f ih =>
  intro rows r h
  unfold bh at h
  split at h
  ·exact h
  ·rcases iM _ _ _ _ h with h | h
   ·exact List.mem_of_mem_take (ih _ _ h)
   ·exact List.mem_of_mem_drop (ih _ _ h)
theorem fN:∀ (f:Nat) (rows:aD),rows.length≤2 ^ f→gI (bh f rows):=by
 intro f
 induction f with
 | zero =>
  intro rows h
  match rows,h with
  | [],_=>exact List.Pairwise.nil
  | [x],_=>exact List.pairwise_singleton _ _
  | _ :: _ :: _,h=>simp at h
 | succ f ih =>
  intro rows h
  rw [Nat.pow_succ] at h
  unfold bh
  by_cases h2:rows.length<2
  ·rw [if_pos h2]
   match rows,h2 with
   | [],_=>exact List.Pairwise.nil
   | [x],_=>exact List.pairwise_singleton _ _
   | _ :: _ :: _,h2=>simp at h2;omega
  ·rw [if_neg h2]
   exact s7 _ _ _ (ih _ (by rw [List.length_take];omega)) (ih _ (by rw [List.length_drop];omega))
section
variable {N:Nat}
theorem ixc {α:Type} (x:α) (a:List α):ix (x :: a) 0=some x:=by unfold ix;rw [if_pos (by omega)];rfl
theorem lF {α:Type} (x:α) (a:List α):slc (x :: a) 1 ((x :: a).length:Int)=some a:=by
 have h:=iG (xs:=x :: a) (lo:=1) (hi:=(x :: a).length) (by simp) (Nat.le_refl _)
 rw [List.take_length] at h
 exact h
theorem nD {α:Type} (x:α) (a:List α):decide ((0:Int)<((x :: a).length:Int))=true:=decide_eq_true (by rw [List.length_cons];omega)
theorem nj {α:Type}:decide ((0:Int)<(([]:List α).length:Int))=false:=rfl
theorem tH {α:Type} (x:α) (a:List α):(((x :: a).length:Int) == 0)=false:=by simp;omega
theorem vw (hN:1073741824≤N) {rec:aD→Option aD}:∀ (m k:Nat) (a b out:aD),a.length+b.length≤m→m<k→(∀ r∈a,r.length≤1048576)→(∀ r∈b,r.length≤1048576)→out.length+m≤4194304 →
  aV rec N k a b out=some ([],[],out++bw m a b):=by
 intro m
 induction m with
 | zero =>
  intro k a b out h hk ha hb ho
  obtain ⟨k,rfl⟩:∃ k',k=k'+1:=⟨k-1,by omega⟩
  obtain rfl:a=[]:=List.length_eq_zero_iff.1 (by omega)
  obtain rfl:b=[]:=List.length_eq_zero_iff.1 (by simpa using h)
  rw [aV,nj,cond_false,cond_false,bw,List.append_nil]
 | succ m ih =>
  intro k a b out h hk ha hb ho
  obtain ⟨k,rfl⟩:∃ k',k=k'+1:=⟨k-1,by omega⟩
  match a,b with
  | [],[]=>rw [aV,nj,cond_false,cond_false,bw,List.append_nil]
  | [],y :: b =>
   simp only [List.length_cons,List.length_nil] at h
   rw [aV,nj,cond_false,nD,cond_true,show ((([]:aD).length:Int) == 0)=true from rfl,cond_true,show decide ((1:Int)≤0)=false from rfl,cond_false,show decide ((0:Int)≤1)=true from rfl,cond_true,show decide ((0:Int)<1)=true from rfl,cond_true,ixc,bs,bt (by decide) (by simp;omega),bs,lF,bs,
    ih k [] b (out++[y]) (by simp;omega) (by omega) ha (fun r hr=>hb r (by simp [hr])) (by rw [List.length_append,List.length_singleton];omega),bw,List.append_assoc]
   rfl
  | x :: a,[] =>
   simp only [List.length_cons,List.length_nil] at h
   rw [aV,nD,cond_true,tH,cond_false,nj,cond_false,show decide ((-1:Int)≤0)=true from rfl,cond_true,ixc,bs,bt (by decide) (by simp;omega),bs,lF,bs,show decide ((0:Int)≤-1)=false from rfl,cond_false,
    ih k a [] (out++[x]) (by simp;omega) (by omega) (fun r hr=>ha r (by simp [hr])) hb (by rw [List.length_append,List.length_singleton];omega),bw,List.append_assoc]
   rfl
  | x :: a,y :: b =>
   simp only [List.length_cons] at h
   have hx:=ha x (by simp);have hy:=hb y (by simp)
   rw [aV,nD,cond_true,tH,cond_false,nD,cond_true,ixc,bs,ixc,bs,jZ hN hx (by omega),bs,bw]
   by_cases hlt:bq x y<0
   ·rw [if_pos hlt,decide_eq_true (by omega:bq x y≤0),cond_true,bs,bt (by decide) (by simp;omega),bs,lF,bs,decide_eq_false (by omega:¬ 0≤bq x y),cond_false,
     ih k a (y :: b) (out++[x]) (by simp only [List.length_cons];omega) (by omega) (fun r hr=>ha r (by simp [hr])) hb (by rw [List.length_append,List.length_singleton];omega),List.append_assoc]
    rfl
   ·rw [if_neg hlt]
    by_cases heq:bq x y=0
    ·rw [if_pos heq,decide_eq_true (by omega:bq x y≤0),cond_true,bs,bt (by decide) (by simp;omega),bs,lF,bs,decide_eq_true (by omega:0≤bq x y),cond_true,decide_eq_false (by omega:¬ 0<bq x y),cond_false,lF,bs,
      ih k a b (out++[x]) (by omega) (by omega) (fun r hr=>ha r (by simp [hr])) (fun r hr=>hb r (by simp [hr])) (by rw [List.length_append,List.length_singleton];omega),List.append_assoc]
     rfl
    ·rw [if_neg heq,decide_eq_false (by omega:¬ bq x y≤0),cond_false,decide_eq_true (by omega:0≤bq x y),cond_true,decide_eq_true (by omega:0<bq x y),cond_true,bs,bt (by decide) (by simp;omega),bs,lF,bs,
      ih k (x :: a) b (out++[y]) (by simp only [List.length_cons];omega) (by omega) ha (fun r hr=>hb r (by simp [hr])) (by rw [List.length_append,List.length_singleton];omega),List.append_assoc]
     rfl
def nM (z:Option (List Int)):aD→aD
 | []=>[]
 | y :: b=>if z=some y then b else y :: b
def yh (z:Option (List Int)) (a b:aD):Prop:=gI a∧gI b∧∀ w,z=some w→(∀ x∈a,bq w x<0)∧∀ y∈b,bq w y≤0
theorem kr (x:List Int):bq x x=0:=iA.2 rfl
theorem lz {x:List Int} {b:aD} (h:∀ y∈b,bq x y<0):nM (some x) b=b:=by
 match b with
 | []=>rfl
 | y :: b =>
  show (if some x=some y then b else y :: b)=y :: b
  rw [if_neg]
  intro e
  have:=h y (by simp)
  rw [Option.some.inj e,kr] at this;omega
theorem nz {z:Option (List Int)} {y:List Int} {b:aD} (h:z=some y):nM z (y :: b)=b:=if_pos h
theorem kt {z:Option (List Int)} {y:List Int} {b:aD} (h:¬ z=some y):nM z (y :: b)=y :: b:=if_neg h
theorem qT {out r:aD} {x:List Int}:(out++[x])++r=out++x :: r:=by simp
theorem mK {out:aD} {x:List Int}:(out++[x]).getLast? = some x:=by simp
theorem qD (hN:1073741824≤N) {α:Type} {out:aD} {x:List Int} {F G:Option α} (hl:∀ r∈out,r.length≤1048576) (hx:x.length≤1048576) (ho:out.length≤4194304) (f:aD→Option α) (hF:F=(apd 24 out [x]).bind f) (hG:G=(sb (out.length:Int) 1).bind fun i=>(ix out i).bind fun w=>(bo N w x).bind fun r=>bif (r != 0) then (apd 24 out [x]).bind f else f out) :
  (bif ((out.length:Int) == 0) then F else G)=f (if out.getLast? = some x then out else out++[x]):=by
 have hap:apd 24 out [x]=some (out++[x]):=bt (by decide) (by simp;omega)
 by_cases h0:out=[]
 ·subst h0
  rw [show ((([]:aD).length:Int) == 0)=true from rfl,cond_true,hF,hap,bs]
  rfl
 ·have hp:0<out.length:=List.length_pos_iff.2 h0
  have hlast:out.getLast? = some out[out.length-1]:=by rw [List.getLast?_eq_getElem?,List.getElem?_eq_getElem (by omega)]
  rw [show ((out.length:Int) == 0)=false by simp;omega,cond_false,hG,gm (by omega) (by omega),bs,show (out.length:Int)-1=((out.length-1:Nat):Int) by omega,aT (by omega),bs,eN hN (hl _ (List.getElem_mem _)) (by omega),bs,hap,bs,ox,hlast]
  by_cases e:out[out.length-1]=x
  ·rw [decide_eq_true e,Bool.not_true,cond_false,if_pos (by rw [e])]
  ·rw [decide_eq_false e,Bool.not_false,cond_true,if_neg (fun h=>e (Option.some.inj h))]
def oI (rows:aD):Prop:=∀ r∈rows,r.length≤1048576
theorem js {x:List Int} {a:aD} (h:oI (x :: a)):oI a:=fun r hr=>h r (by simp [hr])
theorem mG {out:aD} {x:List Int} (h:oI out) (hx:x.length≤1048576):oI (out++[x]):=by
 intro r hr
 rcases List.mem_append.1 hr with hr | hr
 ·exact h r hr
 ·simp only [List.mem_singleton] at hr;subst hr;exact hx
theorem mc {x:List Int} {a:aD} (h:gI (x :: a)):(∀ y∈a,bq x y<0)∧gI a:=List.pairwise_cons.1 h
theorem vH (hN:1073741824≤N) {rec:aD→Option aD}:∀ (m k:Nat) (a b out:aD),a.length+b.length≤m→m<k→oI a→oI b→oI out→out.length+m≤4194304→yh out.getLast? a b →
  aG rec N k a b out=some ([],[],out++bw m a (nM out.getLast? b)):=by
 intro m
 induction m with
 | zero =>
  intro k a b out h hk ha hb hl ho hI
  obtain ⟨k,rfl⟩:∃ k',k=k'+1:=⟨k-1,by omega⟩
  obtain rfl:a=[]:=List.length_eq_zero_iff.1 (by omega)
  obtain rfl:b=[]:=List.length_eq_zero_iff.1 (by simpa using h)
  rw [aG,nj,cond_false,cond_false,bw,List.append_nil]
 | succ m ih =>
  intro k a b out h hk ha hb hl ho hI
  obtain ⟨k,rfl⟩:∃ k',k=k'+1:=⟨k-1,by omega⟩
  obtain ⟨aa,ab,iz⟩:=hI
  match a,b with
  | [],[] =>
   rw [aG,nj,cond_false,cond_false]
   show _=some ([],[],out++bw (m+1) [] [])
   rw [bw,List.append_nil]
  | [],y :: b =>
   simp only [List.length_cons,List.length_nil] at h
   have hy:=hb y (by simp)
   obtain ⟨b1,b2⟩:=mc ab
   rw [aG,nj,cond_false,nD,cond_true,show ((([]:aD).length:Int) == 0)=true from rfl,cond_true,show decide ((0:Int)<1)=true from rfl,cond_true,ixc,bs,lF,bs]
   refine Eq.trans (qD (f:=fun o=>aG rec N k [] b o) hN hl hy (by omega) rfl rfl) ?_
   by_cases e:out.getLast? = some y
   ·rw [if_pos e]
    show aG rec N k [] b out=_
    rw [ih k [] b out (by simp;omega) (by omega) ha (js hb) hl (by omega) ⟨aa,b2,fun w hw=>⟨by simp,fun y' hy'=>(iz w hw).2 y' (by simp [hy'])⟩⟩,nz e,e,lz b1,oi m (m+1) [] b (by simp;omega) (by simp;omega)]
   ·rw [if_neg e]
    show aG rec N k [] b (out++[y])=_
    rw [ih k [] b (out++[y]) (by simp;omega) (by omega) ha (js hb) (mG hl hy) (by rw [List.length_append,List.length_singleton];omega) ⟨aa,b2,fun w hw=>by
      rw [mK] at hw;cases hw;exact ⟨by simp,fun y' hy'=>Int.le_of_lt (b1 y' hy')⟩⟩,mK,lz b1,kt e,bw,qT]
  | x :: a,[] =>
   simp only [List.length_cons,List.length_nil] at h
   have hx:=ha x (by simp)
   obtain ⟨a1,a2⟩:=mc aa
   have e:¬ out.getLast? = some x:=fun e=>by have:=(iz x e).1 x (by simp);rw [kr] at this;omega
   rw [aG,nD,cond_true,tH,cond_false,nj,cond_false,show decide ((0:Int) < -1)=false from rfl,cond_false,ixc,bs,lF,bs]
   refine Eq.trans (qD (f:=fun o=>aG rec N k a [] o) hN hl hx (by omega) rfl rfl) ?_
   rw [if_neg e]
   show aG rec N k a [] (out++[x])=_
   rw [ih k a [] (out++[x]) (by simp;omega) (by omega) (js ha) hb (mG hl hx) (by rw [List.length_append,List.length_singleton];omega) ⟨a2,ab,fun w hw=>by
     rw [mK] at hw;cases hw;exact ⟨a1,by simp⟩⟩]
   show some ([],[],(out++[x])++bw m a [])=some ([],[],out++bw (m+1) (x :: a) [])
   rw [bw,qT]
  | x :: a,y :: b =>
   simp only [List.length_cons] at h
   have hx:=ha x (by simp);have hy:=hb y (by simp)
   obtain ⟨a1,a2⟩:=mc aa
   obtain ⟨b1,b2⟩:=mc ab
   have ex:¬ out.getLast? = some x:=fun e=>by have:=(iz x e).1 x (by simp);rw [kr] at this;omega
   rw [aG,nD,cond_true,tH,cond_false,nD,cond_true,ixc,bs,ixc,bs,eN hN hx (by omega),bs]
   by_cases hgt:0<bq x y
   ·have hyx:bq y x<0:=by have:=mD x y;omega
    rw [decide_eq_true hgt,cond_true,bs,lF,bs]
    refine Eq.trans (qD (f:=fun o=>aG rec N k (x :: a) b o) hN hl hy (by omega) rfl rfl) ?_
    by_cases e:out.getLast? = some y
    ·rw [if_pos e]
     show aG rec N k (x :: a) b out=_
     rw [ih k (x :: a) b out (by simp only [List.length_cons];omega) (by omega) ha (js hb) hl (by omega) ⟨aa,b2,fun w hw=>⟨(iz w hw).1,fun y' hy'=>(iz w hw).2 y' (by simp [hy'])⟩⟩,nz e,e,lz b1,oi m (m+1) (x :: a) b (by simp only [List.length_cons];omega) (by simp only [List.length_cons];omega)]
    ·rw [if_neg e]
     show aG rec N k (x :: a) b (out++[y])=_
     rw [ih k (x :: a) b (out++[y]) (by simp only [List.length_cons];omega) (by omega) ha (js hb) (mG hl hy) (by rw [List.length_append,List.length_singleton];omega) ⟨aa,b2,fun w hw=>by
       rw [mK] at hw;cases hw
       refine ⟨fun x' hx'=>?_,fun y' hy'=>Int.le_of_lt (b1 y' hy')⟩
       rcases List.mem_cons.1 hx' with rfl | hx'
       ·exact hyx
       ·exact gO hyx (a1 x' hx')⟩,mK,lz b1,kt e,bw,if_neg (by omega),if_neg (by omega),qT]
   ·rw [decide_eq_false hgt,cond_false,bs,lF,bs]
    refine Eq.trans (qD (f:=fun o=>aG rec N k a (y :: b) o) hN hl hx (by omega) rfl rfl) ?_
    rw [if_neg ex]
    show aG rec N k a (y :: b) (out++[x])=_
    have ey:¬ out.getLast? = some y:=fun e=>by
     have h1:=(iz y e).1 x (by simp)
     have:=mD x y
     omega
    have hb':∀ y'∈b,bq x y'<0:=fun y' hy'=>by
     by_cases h0:bq x y=0
     ·rw [iA.1 h0];exact b1 y' hy'
     ·exact gO (by omega) (b1 y' hy')
    rw [ih k a (y :: b) (out++[x]) (by simp only [List.length_cons];omega) (by omega) (js ha) hb (mG hl hx) (by rw [List.length_append,List.length_singleton];omega) ⟨a2,ab,fun w hw=>by
      rw [mK] at hw;cases hw
      refine ⟨a1,fun y' hy'=>?_⟩
      rcases List.mem_cons.1 hy' with rfl | hy'
      ·omega
      ·exact Int.le_of_lt (hb' y' hy')⟩,mK,kt ey,bw]
    by_cases h0:bq x y=0
    ·rw [nz (by rw [iA.1 h0]),if_neg (by omega),if_pos h0,qT]
    ·rw [kt (fun e=>h0 (by rw [Option.some.inj e,kr])),if_pos (by omega),qT]
theorem qt2 {n:Nat} (h:n≤1048576):qt (n:Int) 2=some ((n / 2:Nat):Int):=by
 have e:(n:Int).tdiv 2=((n / 2:Nat):Int):=rfl
 unfold qt
 rw [e,if_pos ⟨by decide,by unfold rng;simp only [Bool.and_eq_true,decide_eq_true_eq];omega⟩]
theorem nm:∀ (d M:Nat) (rows:aD),rows.length≤2 ^ d→1073741825+d≤M→dB rows→c8 M rows=some (bh d rows):=by
 intro d
 induction d with
 | zero =>
  intro M rows h hM hr
  obtain ⟨M,rfl⟩:∃ M',M=M'+1:=⟨M-1,by omega⟩
  rw [c8,decide_eq_true (by simp at h;omega),cond_true,lK (by omega) hr,bs];rfl
 | succ d ih =>
  intro M rows h hM hr
  obtain ⟨M,rfl⟩:∃ M',M=M'+1:=⟨M-1,by omega⟩
  rw [Nat.pow_succ] at h
  have hl:=hr.1
  rw [c8,bh]
  by_cases h2:rows.length<2
  ·rw [decide_eq_true (by omega),cond_true,lK (by omega) hr,bs,if_pos h2]
  ·have ht:dB (rows.take (rows.length / 2)):=⟨by rw [List.length_take];omega,fun r h=>hr.2 r (List.mem_of_mem_take h)⟩
   have hd:dB (rows.drop (rows.length / 2)):=⟨by rw [List.length_drop];omega,fun r h=>hr.2 r (List.mem_of_mem_drop h)⟩
   have l1:=dx d (rows.take (rows.length / 2))
   have l2:=dx d (rows.drop (rows.length / 2))
   rw [List.length_take] at l1
   rw [List.length_drop] at l2
   rw [decide_eq_false (by omega),cond_false,if_neg h2,qt2 hl,bs,show (0:Int)=((0:Nat):Int) from rfl,iG (Nat.zero_le _) (by omega),bs,iG (by omega) (Nat.le_refl _),bs,List.drop_zero,List.take_length,
    ih M _ (by rw [List.length_take];omega) (by omega) ht,bs,ih M _ (by rw [List.length_drop];omega) (by omega) hd,bs,
    vw (by omega) rows.length M _ _ [] (by omega) (by omega) (fun r h=>(ht.2 r (gL _ _ _ h)).1) (fun r h=>(hd.2 r (gL _ _ _ h)).1) (by rw [List.length_nil];omega),bs,lpB]
   rfl
theorem uA:∀ (d M:Nat) (rows:aD),rows.length≤2 ^ d→1073741825+d≤M→dB rows→eg M rows=some (bh d rows):=by
 intro d
 induction d with
 | zero =>
  intro M rows h hM hr
  obtain ⟨M,rfl⟩:∃ M',M=M'+1:=⟨M-1,by omega⟩
  rw [eg,decide_eq_true (by simp at h;omega),cond_true];rfl
 | succ d ih =>
  intro M rows h hM hr
  obtain ⟨M,rfl⟩:∃ M',M=M'+1:=⟨M-1,by omega⟩
  rw [Nat.pow_succ] at h
  have hl:=hr.1
  rw [eg,bh]
  by_cases h2:rows.length<2
  ·rw [decide_eq_true (by omega),cond_true,if_pos h2]
  ·have ht:dB (rows.take (rows.length / 2)):=⟨by rw [List.length_take];omega,fun r h=>hr.2 r (List.mem_of_mem_take h)⟩
   have hd:dB (rows.drop (rows.length / 2)):=⟨by rw [List.length_drop];omega,fun r h=>hr.2 r (List.mem_of_mem_drop h)⟩
   have l1:=dx d (rows.take (rows.length / 2))
   have l2:=dx d (rows.drop (rows.length / 2))
   have ha1:=fN d (rows.take (rows.length / 2)) (by rw [List.length_take];omega)
   have ha2:=fN d (rows.drop (rows.length / 2)) (by rw [List.length_drop];omega)
   rw [List.length_take] at l1
   rw [List.length_drop] at l2
   rw [decide_eq_false (by omega),cond_false,if_neg h2,qt2 hl,bs,show (0:Int)=((0:Nat):Int) from rfl,iG (Nat.zero_le _) (by omega),bs,List.drop_zero,
    ih M _ (by rw [List.length_take];omega) (by omega) ht,bs,iG (by omega) (Nat.le_refl _),bs,List.take_length,ih M _ (by rw [List.length_drop];omega) (by omega) hd,bs,
    vH (by omega) rows.length M _ _ [] (by omega) (by omega) (fun r h=>(ht.2 r (gL _ _ _ h)).1) (fun r h=>(hd.2 r (gL _ _ _ h)).1) (fun r h=>by simp at h) (by rw [List.length_nil];omega) ⟨ha1,ha2,fun w hw=>by simp at hw⟩,bs,lpB]
   have hdz:nM (([]:aD).getLast?) (bh d (rows.drop (rows.length / 2)))=bh d (rows.drop (rows.length / 2)):=by
    cases bh d (rows.drop (rows.length / 2)) with
    | nil=>rfl
    | cons y b=>exact kt (by simp)
   rw [hdz]
   rfl
end
end Go.Proofs.Ytnipkopfefkojaa
namespace Go.Proofs.Ytnipkopfefkojaa
open Go.RowKit

def g8 (n:Int) (rows:aD):Bool:=rows.all fun r=>decide ((r.length:Int)=n)&&aZ r
def gx:(Int × aD) × Bool:=((0,[]),false)
def dT (n:Int) (rows:aD):(Int × aD) × Bool:=bif g8 n rows&&bj n (bh 20 rows) then ((n,bh 20 rows),true) else gx
def bI (row cols:List Int):List Int:=cols.map fun c=>row.getD c.toNat 0
theorem gN (row cols:List Int):(bI row cols).length=cols.length:=by simp [bI]
theorem oZ {row cols:List Int} {i:Nat} (h:i<cols.length):bI row (cols.take i)++[row.getD cols[i].toNat 0]=bI row (cols.take (i+1)):=by
 unfold bI;rw [List.take_succ_eq_append_getElem h,List.map_append];rfl
def ee (n:Int) (cols:List Int):Bool:=cols.all fun c=>inR c 0 (n-1)
def fZ (n:Int) (rows:aD) (cols:List Int):(Int × aD) × Bool :=
 bif bj n rows&&(decide ((cols.length:Int)≤5)&&ee n cols) then dT (cols.length:Int) (rows.map fun r=>bI r cols) else gx
def tM (n:Int) (rows:aD) (cols:List Int):(Int × aD) × Bool:=bif l8 cols&&decide ((cols.length:Int)=n) then (bif (fZ n rows cols).2 then ((fZ n rows cols).1,true) else gx) else gx
theorem kO {rows:aD} (d:Nat) (h:dB rows):dB (bh d rows):=⟨Nat.le_trans (dx d rows) h.1,fun r hr=>h.2 r (gL _ _ _ hr)⟩
theorem tf {n:Int} {rows:aD} (h:dB rows):dB (dT n rows).1.2:=by
 unfold dT
 cases g8 n rows&&bj n (bh 20 rows) with
 | false=>exact ⟨Nat.zero_le _,fun r hr=>by simp [gx] at hr⟩
 | true=>exact kO 20 h
section
variable {N:Nat}
theorem wG (hN:1073741824≤N) {n:Int} {rows:aD} (hr:dB rows):cO N N n rows 0 [] rows (rows.length:Int) 0=some (bif g8 n rows then .inr (rows.length:Int) else .inl gx):=by
 have hl:=hr.1
 have h:=ge (fun k i=>cO N k n rows 0 [] rows (rows.length:Int) i) rows.length (by omega) gx (fun i=>if h:i<rows.length then decide ((rows[i].length:Int)=n)&&aZ rows[i] else true) (rows.length:Int)
  (fun k i h=>by
   have hx:=(hr.2 _ (List.getElem_mem h)).1
   show cO N (k+1) n rows 0 [] rows (rows.length:Int) (i:Int)=_
   rw [cO,dlt h,cond_true,aT h,bs,jb hN hx,bs,ad1 (by omega),bs,dif_pos h]
   by_cases e:(rows[i].length:Int)=n
   ·rw [show ((rows[i].length:Int) != n)=false by simpa using e,cond_false,decide_eq_true e,Bool.true_and];rfl
   ·rw [show ((rows[i].length:Int) != n)=true by simpa using e,cond_true,decide_eq_false e,Bool.false_and,cond_false];rfl)
  (fun k=>by
   show cO N (k+1) n rows 0 [] rows (rows.length:Int) (rows.length:Int)=_
   rw [cO,dge (by omega),cond_false]) N 0 (by omega) (by omega)
 rw [Nat.sub_zero,gk rows (fun r=>decide ((r.length:Int)=n)&&aZ r) _ (fun i hi=>by rw [dif_pos hi])] at h
 exact h
theorem wO (hN:1073741824≤N) {n:Int} {rows:aD} (hr:dB rows):cQ N N n rows 0 [] 0=some (bif g8 n rows then .inr (rows.length:Int) else .inl gx):=by
 have hl:=hr.1
 have h:=ge (fun k i=>cQ N k n rows 0 [] i) rows.length (by omega) gx (fun i=>if h:i<rows.length then decide ((rows[i].length:Int)=n)&&aZ rows[i] else true) (rows.length:Int)
  (fun k i h=>by
   have hx:=(hr.2 _ (List.getElem_mem h)).1
   show cQ N (k+1) n rows 0 [] (i:Int)=_
   rw [cQ,dlt h,cond_true,aT h,bs,bs,iZ hN hx,bs,ad1 (by omega),bs,dif_pos h]
   by_cases e:(rows[i].length:Int)=n
   ·rw [show ((rows[i].length:Int) != n)=false by simpa using e,cond_false,decide_eq_true e,Bool.true_and];rfl
   ·rw [show ((rows[i].length:Int) != n)=true by simpa using e,cond_true,decide_eq_false e,Bool.false_and,cond_false];rfl)
  (fun k=>by
   show cQ N (k+1) n rows 0 [] (rows.length:Int)=_
   rw [cQ,dge (by omega),cond_false]) N 0 (by omega) (by omega)
 rw [Nat.sub_zero,gk rows (fun r=>decide ((r.length:Int)=n)&&aZ r) _ (fun i hi=>by rw [dif_pos hi])] at h
 exact h
theorem nf (hM:1073742848≤N) {n:Int} {rows:aD} (hr:dB rows):eT N n rows=some (dT n rows):=by
 unfold eT dT
 rw [wG (by omega) hr,bs]
 cases g8 n rows with
 | false=>rw [cond_false,vL];rfl
 | true =>
  rw [cond_true,nI,nm 20 N rows (by have:=hr.1;omega) (by omega) hr,bs,eI (by omega) (kO 20 hr),bs,Bool.true_and]
  cases bj n (bh 20 rows) <;> rfl
theorem eJ (hM:1073742848≤N) {n:Int} {rows:aD} (hr:dB rows):cq N n rows=some (dT n rows):=by
 unfold cq dT
 rw [wO (by omega) hr,bs]
 cases g8 n rows with
 | false=>rw [cond_false,vL];rfl
 | true =>
  rw [cond_true,nI,uA 20 N rows (by have:=hr.1;omega) (by omega) hr,bs,qg (by omega) (kO 20 hr),bs,eG (by omega) (kO 20 hr),bs,Bool.true_and]
  cases bj n (bh 20 rows) <;> rfl
theorem sy (hN:1073741824≤N) {row cols:List Int} (hc:cols.length≤1048576) (hin:∀ c∈cols,0≤c∧c<row.length):jo N row cols=some (bI row cols):=by
 have h:=fm (fun k (s:List Int) i=>eC N k row s cols (cols.length:Int) i) cols.length (fun i=>bI row (cols.take i)) (bI row cols,(cols.length:Int))
  (fun k i h=>by
   have hb:=hin _ (List.getElem_mem h)
   show eC N (k+1) row (bI row (cols.take i)) cols (cols.length:Int) (i:Int)=_
   rw [eC,dlt h,cond_true,aT h,bs,gZ hb.1 hb.2,bs,bt (by decide) (by rw [gN];simp;omega),bs,ad1 (by omega),bs,← bb (by omega),oZ h])
  (fun k=>by
   show eC N (k+1) row (bI row (cols.take cols.length)) cols (cols.length:Int) (cols.length:Int)=_
   rw [eC,dge (by omega),cond_false,List.take_length]) N 0 (by omega) (by omega)
 have h':eC N N row [] cols (cols.length:Int) 0=_:=h
 unfold jo
 rw [h',bs,lpB]
theorem nn (hN:1073741824≤N) {row cols:List Int} (hc:cols.length≤1048576) (hin:∀ c∈cols,0≤c∧c<row.length):gq N row cols=some (bI row cols):=by
 have h:=fm (fun k (s:List Int) i=>dE N k row cols s i) cols.length (fun i=>bI row (cols.take i)) (bI row cols,(cols.length:Int))
  (fun k i h=>by
   have hb:=hin _ (List.getElem_mem h)
   show dE N (k+1) row cols (bI row (cols.take i)) (i:Int)=_
   rw [dE,dlt h,cond_true,aT h,bs,gZ hb.1 hb.2,bs,bt (by decide) (by rw [gN];simp;omega),bs,ad1 (by omega),bs,← bb (by omega),oZ h])
  (fun k=>by
   show dE N (k+1) row cols (bI row (cols.take cols.length)) (cols.length:Int)=_
   rw [dE,dge (by omega),cond_false,List.take_length]) N 0 (by omega) (by omega)
 have h':dE N N row cols [] 0=_:=h
 unfold gq
 rw [h',bs,lpB]
theorem mW (hN:1073741824≤N) {n:Int} {cols:List Int} (hc:cols.length≤1048576) (hn:-1000≤n∧n≤1000):fv N n cols=some (decide ((cols.length:Int)≤5)&&ee n cols):=by
 unfold fv
 by_cases h5:5<(cols.length:Int)
 ·rw [decide_eq_true h5,cond_true,decide_eq_false (by omega)];rfl
 rw [decide_eq_false h5,cond_false,decide_eq_true (by omega),Bool.true_and]
 have h:=px (fun k i=>da N k n cols (cols.length:Int) i) cols (fun c=>inR c 0 (n-1)) hN hc
  (fun k i h=>by
   show da N (k+1) n cols (cols.length:Int) (i:Int)=_
   rw [da,dlt h,cond_true,aT h,bs,gm (by omega) (by omega),bs,gh,bs,ad1 (by omega),bs])
  (fun k=>by
   show da N (k+1) n cols (cols.length:Int) (cols.length:Int)=_
   rw [da,dge (by omega),cond_false])
 rw [h,bs]
 unfold ee
 cases cols.all fun c=>inR c 0 (n-1) <;> rfl
theorem vp (hN:1073741824≤N) {n:Int} {rows:aD} {cols:List Int} (hc:cols.length≤1048576) (hn:-1000≤n∧n≤1000):dn N N cols n rows 0 [] 0=some (bif ee n cols then .inr (cols.length:Int) else .inl gx):=by
 have h:=ge (fun k i=>dn N k cols n rows 0 [] i) cols.length (by omega) gx (fun i=>if h:i<cols.length then inR cols[i] 0 (n-1) else true) (cols.length:Int)
  (fun k i h=>by
   show dn N (k+1) cols n rows 0 [] (i:Int)=_
   rw [dn,dlt h,cond_true,aT h,bs,gm (by omega) (by omega),bs,hU,bs,ad1 (by omega),bs,dif_pos h];rfl)
  (fun k=>by
   show dn N (k+1) cols n rows 0 [] (cols.length:Int)=_
   rw [dn,dge (by omega),cond_false]) N 0 (by omega) (by omega)
 rw [Nat.sub_zero,gk cols (fun c=>inR c 0 (n-1)) _ (fun i hi=>by rw [dif_pos hi])] at h
 exact h
theorem mZ {rows:aD} {f:List Int→List Int} {i:Nat} (h:i<rows.length):(rows.take i).map f++[f rows[i]]=(rows.take (i+1)).map f:=by
 rw [List.take_succ_eq_append_getElem h,List.map_append];rfl
theorem sv {n:Int} {rows:aD} {cols:List Int} (hv:bj n rows=true) (hc:ee n cols=true) {i:Nat} (h:i<rows.length):∀ c∈cols,0≤c∧c<rows[i].length:=by
 obtain ⟨_,_,_,h3⟩:=bu hv
 intro c hcm
 have h1:=(h3 i h).1
 unfold ee at hc
 have h2:=cJ.1 ((List.all_eq_true.1 hc) c hcm)
 omega
theorem oN (hM:1073742848≤N) {n:Int} {rows:aD} {cols:List Int} (hr:dB rows) (hc:cols.length≤1048576):gD N n rows cols=some (fZ n rows cols):=by
 have hl:=hr.1
 unfold gD fZ
 rw [eI (by omega) hr,bs]
 cases hv:bj n rows with
 | false=>rfl
 | true =>
  obtain ⟨n0,n5,_,_⟩:=bu hv
  rw [cond_true,mW (by omega) hc (by omega),bs,Bool.true_and]
  cases h5:decide ((cols.length:Int)≤5)&&ee n cols with
  | false=>rfl
  | true =>
   rw [Bool.and_eq_true] at h5
   have hin:=fun (i:Nat) (h:i<rows.length)=>sv hv h5.2 h
   have h:=fm (fun k (s:aD) i=>dm N k cols 0 [] s rows (rows.length:Int) i) rows.length (fun i=>(rows.take i).map fun r=>bI r cols) (rows.map (fun r=>bI r cols),(rows.length:Int))
    (fun k i h=>by
     show dm N (k+1) cols 0 [] ((rows.take i).map fun r=>bI r cols) rows (rows.length:Int) (i:Int)=_
     rw [dm,dlt h,cond_true,aT h,bs,sy (by omega) hc (hin i h),bs,bt (by decide) (by simp;omega),bs,ad1 (by omega),bs,mZ (f:=fun r=>bI r cols) h])
    (fun k=>by
     show dm N (k+1) cols 0 [] ((rows.take rows.length).map fun r=>bI r cols) rows (rows.length:Int) (rows.length:Int)=_
     rw [dm,dge (by omega),cond_false,List.take_length]) N 0 (by omega) (by omega)
   have h':dm N N cols 0 [] [] rows (rows.length:Int) 0=_:=h
   have hok:dB (rows.map fun r=>bI r cols):=⟨by rw [List.length_map];exact hl,fun r hr=>by
    obtain ⟨x,_,rfl⟩:=List.mem_map.1 hr
    exact ⟨by rw [gN];exact hc,fun _ _=>trivial⟩⟩
   rw [cond_true,h',bs,lpB]
   show (eT N (cols.length:Int) (rows.map fun r=>bI r cols)).bind _=_
   rw [nf hM hok,bs]
   rfl
theorem lw (hM:1073742848≤N) {n:Int} {rows:aD} {cols:List Int} (hr:dB rows) (hc:cols.length≤1048576) (hn:-1000≤n∧n≤1000):fT N n rows cols=some (fZ n rows cols):=by
 have hl:=hr.1
 unfold fT fZ
 rw [vp (by omega) hc hn,bs]
 cases hcf:ee n cols with
 | false=>rw [cond_false,vL,Bool.and_false,Bool.and_false];rfl
 | true =>
  rw [cond_true,nI,eG (by omega) hr,bs]
  cases hv:bj n rows with
  | false=>rfl
  | true =>
   rw [cond_true]
   by_cases h5:5<(cols.length:Int)
   ·rw [decide_eq_true h5,cond_true,decide_eq_false (by omega)];rfl
   ·have hin:=fun (i:Nat) (h:i<rows.length)=>sv hv hcf h
    have h:=fm (fun k (s:aD) i=>dp N k cols n rows 0 [] s i) rows.length (fun i=>(rows.take i).map fun r=>bI r cols) (rows.map (fun r=>bI r cols),(rows.length:Int))
     (fun k i h=>by
      show dp N (k+1) cols n rows 0 [] ((rows.take i).map fun r=>bI r cols) (i:Int)=_
      rw [dp,dlt h,cond_true,aT h,bs,nn (by omega) hc (hin i h),bs,bt (by decide) (by simp;omega),bs,ad1 (by omega),bs,mZ (f:=fun r=>bI r cols) h])
     (fun k=>by
      show dp N (k+1) cols n rows 0 [] ((rows.take rows.length).map fun r=>bI r cols) (rows.length:Int)=_
      rw [dp,dge (by omega),cond_false,List.take_length]) N 0 (by omega) (by omega)
    have h':dp N N cols n rows 0 [] [] 0=_:=h
    have hok:dB (rows.map fun r=>bI r cols):=⟨by rw [List.length_map];exact hl,fun r hr=>by
     obtain ⟨x,_,rfl⟩:=List.mem_map.1 hr
     exact ⟨by rw [gN];exact hc,fun _ _=>trivial⟩⟩
    rw [decide_eq_false h5,cond_false,h',bs,lpB,decide_eq_true (by omega)]
    show (cq N (cols.length:Int) (rows.map fun r=>bI r cols)).bind _=_
    rw [eJ hM hok,bs]
    rfl
end
end Go.Proofs.Ytnipkopfefkojaa
namespace Go.Proofs.Ytnipkopfefkojaa
open Go.RowKit

def aR (xs:List Int):List Int:=(eV 5).filter fun v=>decide (v∈xs)
theorem gg (xs:List Int):(aR xs).length≤5:=by
 unfold aR
 exact Nat.le_trans (List.length_filter_le _ _) (by rw [fS];omega)
def ig (xs:List Int) (i:Nat):List Int:=(eV i).filter fun v=>decide (v∈xs)
theorem qn (xs:List Int) (i:Nat):(ig xs i).length≤i:=by
 unfold ig
 exact Nat.le_trans (List.length_filter_le _ _) (by rw [fS];omega)
theorem nw (i:Nat):eV (i+1)=eV i++[(i:Int)]:=by unfold eV;rw [List.range'_concat];simp
theorem qP {xs:List Int} {i:Nat} (h:decide ((i:Int)∈xs)=true):ig xs i++[(i:Int)]=ig xs (i+1):=by
 unfold ig;rw [nw,List.filter_append];simp only [List.filter_cons,List.filter_nil,h,if_true]
theorem pQ {xs:List Int} {i:Nat} (h:decide ((i:Int)∈xs)=false):ig xs i=ig xs (i+1):=by
 unfold ig;rw [nw,List.filter_append];simp [h]
def f7 (vars out:List Int) (v:Int):List Int:=bif decide (0≤aY vars v)&&!decide (aY vars v∈out) then out++[aY vars v] else out
def ik (xs order:List Int):List Int:=order.foldl (f7 (aR xs)) []
section
variable {N:Nat}
theorem jw (hN:1073741824≤N) {s:ByteArray} {xs:List Int} (hx:okI xs):d7 N s xs=some (aR xs):=by
 have h:=fm (fun k (o:List Int) i=>bY N k s xs o i) 5 (ig xs) (aR xs,5)
  (fun k i h=>by
   have hl:=qn xs i
   show bY N (k+1) s xs (ig xs i) (i:Int)=_
   rw [bY,decide_eq_true (by omega),cond_true,kR hN hx,bs]
   cases hc:decide ((i:Int)∈xs) with
   | true=>rw [cond_true,bt (by decide) (by simp;omega),bs,ad1 (by omega),bs,qP hc]
   | false=>rw [cond_false,ad1 (by omega),bs,← pQ hc])
  (fun k=>by
   show bY N (k+1) s xs (ig xs 5) ((5:Nat):Int)=_
   rw [bY,decide_eq_false (by omega),cond_false];rfl) N 0 (by omega) (by omega)
 have h':bY N N s xs [] 0=_:=h
 unfold d7
 rw [h',bs,lpB]
theorem jp (hN:1073741824≤N) {s:ByteArray} {xs:List Int} (hx:okI xs):eb N s xs=some (aR xs):=by
 have h:=fm (fun k (o:List Int) i=>bZ N k s xs o i) 5 (ig xs) (aR xs,5)
  (fun k i h=>by
   have hl:=qn xs i
   show bZ N (k+1) s xs (ig xs i) (i:Int)=_
   rw [bZ,decide_eq_true (by omega),cond_true,ip hN hx,bs]
   cases hc:decide ((i:Int)∈xs) with
   | true=>rw [cond_true,bt (by decide) (by simp;omega),bs,ad1 (by omega),bs,qP hc]
   | false=>rw [cond_false,ad1 (by omega),bs,← pQ hc])
  (fun k=>by
   show bZ N (k+1) s xs (ig xs 5) ((5:Nat):Int)=_
   rw [bZ,decide_eq_false (by omega),cond_false];rfl) N 0 (by omega) (by omega)
 have h':bZ N N s xs [] 0=_:=h
 unfold eb
 rw [h',bs,lpB]
end
end Go.Proofs.Ytnipkopfefkojaa
namespace Go.Proofs.Ytnipkopfefkojaa
open Go.RowKit

def hH (ts:List ba) (a:aQ):Bool:=(bC ts a.1).2&&decide ((bC ts a.1).1.1=(a.2.length:Int))
def cC (ts:List ba) (n:Int) (atoms:List aQ) (out:List Int):Bool:=fu n atoms out&&(jJ ts&&atoms.all (hH ts))
section
variable {N:Nat}
theorem xu (hN:1073741824≤N) {ts:List ba} {atoms:List aQ} (ht:gK ts) (ha:du atoms):cX N N ts atoms (atoms.length:Int) 0=some (bif atoms.all (hH ts) then .inr (atoms.length:Int) else .inl false) :=
 px (fun k i=>cX N k ts atoms (atoms.length:Int) i) atoms (hH ts) hN ha.1
  (fun k i h=>by
   have hl:=ha.1
   show cX N (k+1) ts atoms (atoms.length:Int) (i:Int)=_
   rw [cX,dlt h,cond_true,aT h,bs,i9 hN ht,bs,ad1 (by omega),bs]
   unfold hH
   cases (bC ts atoms[i].1).2 with
   | false=>rw [cond_false,Bool.false_and,cond_false]
   | true =>
    rw [cond_true,Bool.true_and]
    by_cases e:(bC ts atoms[i].1).1.1=(atoms[i].2.length:Int)
    ·rw [show ((bC ts atoms[i].1).1.1 != (atoms[i].2.length:Int))=false by simpa using e,cond_false,decide_eq_true e,cond_true]
    ·rw [show ((bC ts atoms[i].1).1.1 != (atoms[i].2.length:Int))=true by simpa using e,cond_true,decide_eq_false e,cond_false])
  (fun k=>by
   show cX N (k+1) ts atoms (atoms.length:Int) (atoms.length:Int)=_
   rw [cX,dge (by omega),cond_false])
theorem xt (hN:1073741824≤N) {ts:List ba} {n:Int} {atoms:List aQ} {out:List Int} (ht:gK ts) (ha:du atoms):cW N N ts n atoms out 0=some (bif atoms.all (hH ts) then .inr (atoms.length:Int) else .inl false) :=
 px (fun k i=>cW N k ts n atoms out i) atoms (hH ts) hN ha.1
  (fun k i h=>by
   have hl:=ha.1
   show cW N (k+1) ts n atoms out (i:Int)=_
   rw [cW,dlt h,cond_true,aT h,bs,gp hN ht,bs,bs,ad1 (by omega),bs]
   unfold hH
   cases (bC ts atoms[i].1).2 with
   | false=>rw [cond_false,Bool.false_and,cond_false]
   | true =>
    rw [cond_true,Bool.true_and]
    by_cases e:(bC ts atoms[i].1).1.1=(atoms[i].2.length:Int)
    ·rw [show ((bC ts atoms[i].1).1.1 != (atoms[i].2.length:Int))=false by simpa using e,cond_false,decide_eq_true e,cond_true]
    ·rw [show ((bC ts atoms[i].1).1.1 != (atoms[i].2.length:Int))=true by simpa using e,cond_true,decide_eq_false e,cond_false])
  (fun k=>by
   show cW N (k+1) ts n atoms out (atoms.length:Int)=_
   rw [cW,dge (by omega),cond_false])
theorem nS (hN:1073741824≤N) {ts:List ba} {n:Int} {atoms:List aQ} {out:List Int} (ht:gK ts) (ha:du atoms) (ho:okI out):gj N ts n atoms out=some (cC ts n atoms out):=by
 unfold gj cC
 rw [mS hN ha ho,bs,iR hN ht,bs,xu hN ht ha,bs]
 cases fu n atoms out <;> cases jJ ts <;> cases atoms.all (hH ts) <;> rfl
theorem iH (hN:1073741824≤N) {ts:List ba} {n:Int} {atoms:List aQ} {out:List Int} (ht:gK ts) (ha:du atoms) (ho:okI out):ez N ts n atoms out=some (cC ts n atoms out):=by
 unfold ez cC
 rw [xt hN ht ha,bs,jK hN ha ho,bs,f4 hN ht,bs]
 cases fu n atoms out <;> cases jJ ts <;> cases atoms.all (hH ts) <;> rfl
end
end Go.Proofs.Ytnipkopfefkojaa
namespace Go.Proofs.Ytnipkopfefkojaa
open Go.RowKit

def lj (vs row:List Int) (i:Nat):Bool:=decide (row.getD (aY vs (vs.getD i 0)).toNat 0=row.getD i 0)
def jO (vs row:List Int) (i:Nat):Bool:=(List.range' 0 i).all (lj vs row)
def dr (vs row:List Int):Bool:=jO vs row vs.length
def cR (vs row:List Int):List Int:=(aR vs).map fun v=>row.getD (aY vs v).toNat 0
theorem nK (vs row:List Int) (i:Nat):jO vs row (i+1)=(jO vs row i&&lj vs row i):=by
 unfold jO;rw [List.range'_concat,List.all_append];simp
theorem gl {vs:List Int} {v:Int} (h:v∈vs):∃ j:Nat,aY vs v=(j:Int)∧j<vs.length:=by
 rcases iJ vs v with ⟨h1,_⟩ | ⟨j,hj,_,e,_⟩
 ·exact absurd h h1
 ·exact ⟨j,e,hj⟩
section
variable {N:Nat}
theorem wX (hN:1073741824≤N) {p0:ByteArray} {vs row p3:List Int} {p1 p4 p8 p9:Int} {p2 p5 p6 p7:aD} (hl:row.length=vs.length) (h5:vs.length≤1000) (hv:∀ v∈vs,0≤v∧v<5) :
  ∃ val:List Int,bG N N p0 vs p1 p2 p3 p4 p5 p6 row (List.replicate 5 0) true p7 p8 p9 vs (vs.length:Int) 0=some (val,dr vs row,(vs.length:Int))∧val.length=5∧(dr vs row=true→∀ v∈vs,val.getD v.toNat 0=row.getD (aY vs v).toNat 0):=by
 obtain ⟨⟨val,f,z⟩,e1,_,h1,h2,h3,h4⟩:=xZ (fun k (s:List Int × Bool) i=>bG N k p0 vs p1 p2 p3 p4 p5 p6 row s.1 s.2 p7 p8 p9 vs (vs.length:Int) i) (fun k (s:List Int × Bool) i=>bG N k p0 vs p1 p2 p3 p4 p5 p6 row s.1 s.2 p7 p8 p9 vs (vs.length:Int) i) vs.length
  (fun i s=>s.1.length=5∧s.2=jO vs row i∧(jO vs row i=true→∀ v∈vs.take i,s.1.getD v.toNat 0=row.getD (aY vs v).toNat 0))
  (fun v=>v.1.length=5∧v.2.1=dr vs row∧v.2.2=(vs.length:Int)∧(dr vs row=true→∀ w∈vs,v.1.getD w.toNat 0=row.getD (aY vs w).toNat 0))
  (fun k i s h hI=>by
   obtain ⟨i1,i2,i3⟩:=hI
   have hm:vs[i]∈vs:=List.getElem_mem h
   have hb:=hv _ hm
   obtain ⟨j,hj,hj2⟩:=gl hm
   have hi2:i<row.length:=by omega
   have hj3:j<row.length:=by omega
   have hix:ix s.1 vs[i]=some (s.1[vs[i].toNat]'(by omega)):=gZ hb.1 (by omega)
   have hst:sto s.1 vs[i] row[i]=some (s.1.set vs[i].toNat row[i]):=by
    have:=jv (xs:=s.1) (i:=vs[i].toNat) (y:=row[i]) (by omega)
    rw [show ((vs[i].toNat:Nat):Int)=vs[i] by omega] at this
    exact this
   have hfa:lj vs row i=decide (row[j]=row[i]):=by
    unfold lj
    rw [bb h,hj,show ((j:Nat):Int).toNat=j from rfl,bb hj3,bb hi2]
   have step:bG N (k+1) p0 vs p1 p2 p3 p4 p5 p6 row s.1 s.2 p7 p8 p9 vs (vs.length:Int) (i:Int)=bG N k p0 vs p1 p2 p3 p4 p5 p6 row (s.1.set vs[i].toNat row[i]) (jO vs row (i+1)) p7 p8 p9 vs (vs.length:Int) ((i+1:Nat):Int):=by
    rw [bG,dlt h,cond_true,aT h,bs,kH hN (by omega),bs,nK,← i2,hfa]
    cases s.2 with
    | true=>rw [cond_true,hj,aT hj3,bs,aT hi2,bs,bs,hix,bs,hst,bs,ad1 (by omega),bs,vx,Bool.true_and]
    | false=>rw [cond_false,aT hi2,bs,hix,bs,hst,bs,ad1 (by omega),bs,Bool.false_and]
   refine .inl ⟨(s.1.set vs[i].toNat row[i],jO vs row (i+1)),step,step,by simpa using i1,rfl,fun hf v hvm=>?_⟩
   rw [nK,Bool.and_eq_true,hfa,decide_eq_true_eq] at hf
   rw [List.take_succ_eq_append_getElem h] at hvm
   by_cases e:v=vs[i]
   ·subst e
    show (s.1.set vs[i].toNat row[i]).getD vs[i].toNat 0=_
    rw [hj,show ((j:Nat):Int).toNat=j from rfl,bb hj3,hf.2,bb (by rw [List.length_set];omega),List.getElem_set_self]
   ·have hmem:v∈vs.take i:=by
     rcases List.mem_append.1 hvm with h | h
     ·exact h
     ·simp only [List.mem_singleton] at h;exact absurd h e
    have hbv:=hv v (List.mem_of_mem_take hmem)
    rw [← i3 hf.1 v hmem]
    show (s.1.set vs[i].toNat row[i]).getD v.toNat 0=_
    rw [bb (by rw [List.length_set];omega),bb (by omega),List.getElem_set_ne (by omega)])
  (fun k s hI=>by
   obtain ⟨i1,i2,i3⟩:=hI
   have step:bG N (k+1) p0 vs p1 p2 p3 p4 p5 p6 row s.1 s.2 p7 p8 p9 vs (vs.length:Int) (vs.length:Int)=some (s.1,s.2,(vs.length:Int)):=by
    rw [bG,dge (by omega),cond_false]
   rw [List.take_length] at i3
   exact ⟨(s.1,s.2,(vs.length:Int)),step,step,i1,i2,rfl,i3⟩) N 0 (List.replicate 5 0,true) (by omega) (by omega) ⟨by simp,rfl,fun _ v hv=>by simp at hv⟩
 refine ⟨val,?_,h1,h4⟩
 have e1':bG N N p0 vs p1 p2 p3 p4 p5 p6 row (List.replicate 5 0) true p7 p8 p9 vs (vs.length:Int) 0=some (val,f,z):=e1
 have h2':f=dr vs row:=h2
 have h3':z=(vs.length:Int):=h3
 rw [e1',h2',h3']
end
end Go.Proofs.Ytnipkopfefkojaa
namespace Go.Proofs.Ytnipkopfefkojaa
open Go.RowKit

theorem l9 {n:Nat} {v:Int}:v∈eV n↔0≤v∧v<n:=by
 unfold eV
 rw [List.mem_map]
 constructor
 ·rintro ⟨i,hi,rfl⟩
  simp at hi;omega
 ·rintro ⟨h0,h1⟩
  exact ⟨v.toNat,by simp;omega,by omega⟩
theorem dS {vs:List Int} {v:Int}:v∈aR vs↔(0≤v∧v<5)∧v∈vs:=by
 unfold aR
 rw [List.mem_filter,l9,decide_eq_true_eq];rfl
def kJ (vs row:List Int) (i:Nat):List Int:=((aR vs).take i).map fun v=>row.getD (aY vs v).toNat 0
theorem tX (vs row:List Int) (i:Nat):(kJ vs row i).length≤5:=by
 have:=gg vs
 unfold kJ;rw [List.length_map,List.length_take];omega
theorem ke (vs row:List Int):(cR vs row).length=(aR vs).length:=by simp [cR]
section
variable {N:Nat}
theorem xE (hN:1073741824≤N) {p0:ByteArray} {vs row:List Int} {p1 p4 p6:Int} {p2 rows p5 p7:aD} {r:Nat} (hr:r<rows.length) (hrow:rows[r]=row) (hl:row.length=vs.length) (h5:vs.length≤1000) :
  cv N N p0 vs p1 p2 (aR vs) p4 rows p6 p5 p7 (r:Int) [] 0=some (cR vs row,((aR vs).length:Int)):=by
 have hv5:=gg vs
 have h:=fm (fun k (s:List Int) i=>cv N k p0 vs p1 p2 (aR vs) p4 rows p6 p5 p7 (r:Int) s i) (aR vs).length (kJ vs row) (cR vs row,((aR vs).length:Int))
  (fun k i h=>by
   have hm:(aR vs)[i]∈vs:=(dS.1 (List.getElem_mem h)).2
   obtain ⟨j,hj,hj2⟩:=gl hm
   have hj3:j<row.length:=by omega
   have hlen:=tX vs row i
   have hs:kJ vs row i++[row[j]]=kJ vs row (i+1):=by
    unfold kJ;rw [List.take_succ_eq_append_getElem h,List.map_append]
    simp only [List.map_cons,List.map_nil,hj]
    rw [show ((j:Nat):Int).toNat=j from rfl,bb hj3]
   show cv N (k+1) p0 vs p1 p2 (aR vs) p4 rows p6 p5 p7 (r:Int) (kJ vs row i) (i:Int)=_
   rw [cv,dlt h,cond_true,aT hr,bs,aT h,bs,gM hN (by omega),bs,hrow,hj,aT hj3,bs,bt (by decide) (by simp;omega),bs,ad1 (by omega),bs,hs])
  (fun k=>by
   show cv N (k+1) p0 vs p1 p2 (aR vs) p4 rows p6 p5 p7 (r:Int) (kJ vs row (aR vs).length) ((aR vs).length:Int)=_
   rw [cv,dge (by omega),cond_false]
   unfold kJ cR;rw [List.take_length]) N 0 (by omega) (by omega)
 exact h
theorem xW (hN:1073741824≤N) {p0:ByteArray} {vs row:List Int} {p1 p4 p6:Int} {p2 rows p5 p7:aD} {r:Nat} (hr:r<rows.length) (hrow:rows[r]=row) (hl:row.length=vs.length) (h5:vs.length≤1000) (hv:∀ v∈vs,0≤v∧v<5) :
  bM N N p0 vs p1 p2 (aR vs) p4 rows p6 p5 p7 (r:Int) (cR vs row) true 0=some (dr vs row,(vs.length:Int)):=by
 have hv5:=gg vs
 have h:=fm (fun k (s:Bool) i=>bM N k p0 vs p1 p2 (aR vs) p4 rows p6 p5 p7 (r:Int) (cR vs row) s i) vs.length (jO vs row) (dr vs row,(vs.length:Int))
  (fun k i h=>by
   have hm:vs[i]∈vs:=List.getElem_mem h
   have hmv:vs[i]∈aR vs:=dS.2 ⟨hv _ hm,hm⟩
   obtain ⟨j,hj,hj2⟩:=gl hm
   have hj3:j<row.length:=by omega
   have hi2:i<row.length:=by omega
   have hex:∃ q:Nat,∃ hq:q<(aR vs).length,(aR vs)[q]=vs[i]∧aY (aR vs) vs[i]=(q:Int):=by
    rcases iJ (aR vs) vs[i] with ⟨h1,_⟩ | ⟨q,hq,e1,e2,_⟩
    ·exact absurd hmv h1
    ·exact ⟨q,hq,e1,e2⟩
   obtain ⟨q,hq,hq1,hq2⟩:=hex
   have hq3:q<(cR vs row).length:=by rw [ke];exact hq
   have hval:(cR vs row)[q]=row[j]:=by
    have e:(cR vs row)[q]=row.getD (aY vs (aR vs)[q]).toNat 0:=by simp only [cR,List.getElem_map]
    rw [e,hq1,hj,show ((j:Nat):Int).toNat=j from rfl,bb hj3]
   have hfa:lj vs row i=decide (row[j]=row[i]):=by
    unfold lj
    rw [bb h,hj,show ((j:Nat):Int).toNat=j from rfl,bb hj3,bb hi2]
   show bM N (k+1) p0 vs p1 p2 (aR vs) p4 rows p6 p5 p7 (r:Int) (cR vs row) (jO vs row i) (i:Int)=_
   rw [bM,dlt h,cond_true,aT h,bs,gM hN (by omega),bs,hq2,nK,hfa]
   cases jO vs row i with
   | true=>rw [cond_true,decide_eq_true (by omega),cond_true,aT hq3,bs,aT hr,bs,hrow,aT hi2,bs,ad1 (by omega),bs,hval,vx,Bool.true_and]
   | false=>rw [cond_false,ad1 (by omega),bs,Bool.false_and])
  (fun k=>by
   show bM N (k+1) p0 vs p1 p2 (aR vs) p4 rows p6 p5 p7 (r:Int) (cR vs row) (jO vs row vs.length) (vs.length:Int)=_
   rw [bM,dge (by omega),cond_false];rfl) N 0 (by omega) (by omega)
 exact h
end
end Go.Proofs.Ytnipkopfefkojaa
namespace Go.Proofs.Ytnipkopfefkojaa
open Go.RowKit

def bB (vs:List Int) (rows:aD):aD:=(rows.filter (dr vs)).map (cR vs)
theorem mU {vs:List Int} {rows:aD} {i:Nat} (h:i<rows.length):bB vs (rows.take (i+1))=bif dr vs rows[i] then bB vs (rows.take i)++[cR vs rows[i]] else bB vs (rows.take i):=by
 unfold bB
 rw [List.take_succ_eq_append_getElem h,List.filter_append,List.map_append]
 cases hf:dr vs rows[i] <;> simp [hf]
theorem gC (vs:List Int) (rows:aD):(bB vs rows).length≤rows.length:=by
 unfold bB;rw [List.length_map];exact List.length_filter_le _ _
section
variable {N:Nat}
theorem xk (hN:1073741824≤N) {s:ByteArray} {vs:List Int} {rows:aD} {vl:Int} (hlen:∀ i (h:i<rows.length),rows[i].length=vs.length) (h5:vs.length≤1000) (hv:∀ v∈vs,0≤v∧v<5) (hr:rows.length≤1048576) :
  ci N N s vs 0 [] (aR vs) vl [] [] rows (rows.length:Int) 0=some (bB vs rows,(rows.length:Int)):=by
 have hv5:=gg vs
 have h:=fm (fun k (o:aD) i=>ci N k s vs 0 [] (aR vs) vl [] o rows (rows.length:Int) i) rows.length (fun i=>bB vs (rows.take i)) (bB vs rows,(rows.length:Int))
  (fun k i h=>by
   obtain ⟨val,e,hl,hval⟩:=wX (N:=N) hN (p0:=s) (vs:=vs) (row:=rows[i]) (p3:=aR vs) (p1:=0) (p4:=vl) (p8:=(rows.length:Int)) (p9:=(i:Int)) (p2:=[]) (p5:=[]) (p6:=bB vs (rows.take i)) (p7:=rows) (hlen i h) h5 hv
   have hbl:=gC vs (rows.take i)
   rw [List.length_take] at hbl
   show ci N (k+1) s vs 0 [] (aR vs) vl [] (bB vs (rows.take i)) rows (rows.length:Int) (i:Int)=_
   rw [ci,dlt h,cond_true,aT h,bs,show (5:Int)=((5:Nat):Int) from rfl,we (by decide) (by decide),bs,e,bs,lpB,mU h]
   show (bif dr vs rows[i] then _ else _)=_
   cases hf:dr vs rows[i] with
   | true =>
    have hp:bI val (aR vs)=cR vs rows[i]:=by
     unfold bI cR
     exact List.map_congr_left fun v hvm=>hval hf v (dS.1 hvm).2
    rw [cond_true,cond_true,sy hN (by omega) (fun c hc=>by have:=(dS.1 hc).1;omega),bs,hp,bt (by decide) (by simp;omega),bs,ad1 (by omega),bs]
   | false=>rw [cond_false,cond_false,ad1 (by omega),bs])
  (fun k=>by
   show ci N (k+1) s vs 0 [] (aR vs) vl [] (bB vs (rows.take rows.length)) rows (rows.length:Int) (rows.length:Int)=_
   rw [ci,dge (by omega),cond_false,List.take_length]) N 0 (by omega) (by omega)
 exact h
theorem xH (hN:1073741824≤N) {s:ByteArray} {vs:List Int} {rows:aD} {vl ar:Int} (hlen:∀ i (h:i<rows.length),rows[i].length=vs.length) (h5:vs.length≤1000) (hv:∀ v∈vs,0≤v∧v<5) (hr:rows.length≤1048576) :
  cd N N s vs 0 [] (aR vs) ar rows vl [] [] 0=some (bB vs rows,(rows.length:Int)):=by
 have hv5:=gg vs
 have h:=fm (fun k (o:aD) i=>cd N k s vs 0 [] (aR vs) ar rows vl [] o i) rows.length (fun i=>bB vs (rows.take i)) (bB vs rows,(rows.length:Int))
  (fun k i h=>by
   have hbl:=gC vs (rows.take i)
   rw [List.length_take] at hbl
   show cd N (k+1) s vs 0 [] (aR vs) ar rows vl [] (bB vs (rows.take i)) (i:Int)=_
   rw [cd,dlt h,cond_true,xE hN h rfl (hlen i h) h5,bs,lpB]
   show (bM N N s vs 0 [] (aR vs) ar rows vl [] (bB vs (rows.take i)) (i:Int) (cR vs rows[i]) true 0).bind _=_
   rw [xW hN h rfl (hlen i h) h5 hv,bs,lpB,mU h]
   show (bif dr vs rows[i] then _ else _)=_
   cases hf:dr vs rows[i] with
   | true=>rw [cond_true,cond_true,bt (by decide) (by simp;omega),bs,ad1 (by omega),bs]
   | false=>rw [cond_false,cond_false,ad1 (by omega),bs])
  (fun k=>by
   show cd N (k+1) s vs 0 [] (aR vs) ar rows vl [] (bB vs (rows.take rows.length)) (rows.length:Int)=_
   rw [cd,dge (by omega),cond_false,List.take_length]) N 0 (by omega) (by omega)
 exact h
end
end Go.Proofs.Ytnipkopfefkojaa
namespace Go.Proofs.Ytnipkopfefkojaa
open Go.RowKit

theorem gH {n:Int} {rows:aD} (h0:0≤n∧n≤5) (hl:rows.length≤4000) (hf:∀ r∈rows,(r.length:Int)=n∧aZ r=true):dT n rows=((n,bh 20 rows),true):=by
 have hfit:g8 n rows=true:=by
  unfold g8
  rw [List.all_eq_true]
  intro r hr
  rw [decide_eq_true (hf r hr).1,(hf r hr).2];rfl
 have hlen:=dx 20 rows
 have hasc:=fN 20 rows (by omega)
 have hv:bj n (bh 20 rows)=true:=by
  unfold bj
  rw [Bool.and_eq_true,Bool.and_eq_true,decide_eq_true_eq,List.all_eq_true]
  refine ⟨⟨cJ.2 h0,by omega⟩,fun i hi=>?_⟩
  have hi':i<(bh 20 rows).length:=by simp at hi;omega
  obtain ⟨g1,g2⟩:=hf _ (gL 20 rows _ (List.getElem_mem hi'))
  unfold kE
  rw [ga hi',decide_eq_true g1,g2,Bool.true_and,Bool.true_and]
  cases i with
  | zero=>rfl
  | succ i =>
   rw [Nat.add_sub_cancel,ga (by omega)]
   have:=List.pairwise_iff_getElem.1 hasc i (i+1) (by omega) hi' (by omega)
   rw [decide_eq_true this,Bool.or_true]
 unfold dT
 rw [hfit,hv];rfl
theorem nF {vs row:List Int} (h:aZ row=true) (hl:row.length=vs.length):aZ (cR vs row)=true:=by
 unfold aZ at *
 rw [List.all_eq_true] at *
 intro x hx
 unfold cR at hx
 obtain ⟨v,hv,rfl⟩:=List.mem_map.1 hx
 obtain ⟨j,hj,hj2⟩:=gl (dS.1 hv).2
 rw [hj,show ((j:Nat):Int).toNat=j from rfl,bb (by omega)]
 exact h _ (List.getElem_mem _)
end Go.Proofs.Ytnipkopfefkojaa
namespace Go.Proofs.Ytnipkopfefkojaa
open Go.RowKit

theorem st {ts:List ba} {s:ByteArray} (h:(bC ts s).2=true):bj (bC ts s).1.1 (bC ts s).1.2=true:=by
 unfold bC at h ⊢
 cases hd:jJ ts with
 | false=>rw [hd] at h;cases h
 | true =>
  rw [hd,cond_true] at h
  rw [cond_true]
  cases hf:ts.find? (fun t=>decide (t.1=s)) with
  | none=>rw [hf] at h;cases h
  | some t =>
   have hm:=List.mem_of_find?_eq_some hf
   obtain ⟨i,hi,rfl⟩:=List.getElem_of_mem hm
   unfold jJ at hd
   rw [Bool.and_eq_true,List.all_eq_true] at hd
   have:=hd.2 i (by simp;omega)
   unfold kG at this
   rw [kN hi] at this
   simp only [Bool.and_eq_true] at this
   exact this.1.1.2
def ki (ts:List ba) (s:ByteArray) (vs:List Int):Int × aD :=
 bif (bC ts s).2&&decide ((bC ts s).1.1=(vs.length:Int)) then (((aR vs).length:Int),bh 20 (bB vs (bC ts s).1.2)) else (((aR vs).length:Int),[])
theorem lf {vs:List Int} {rows:aD} {r:List Int} (h:r∈bB vs rows):∃ x∈rows,r=cR vs x:=by
 unfold bB at h
 obtain ⟨x,hx,rfl⟩:=List.mem_map.1 h
 exact ⟨x,(List.mem_filter.1 hx).1,rfl⟩
theorem n9 {vs:List Int} {rows:aD} (hr:rows.length≤1048576):dB (bB vs rows):=by
 refine ⟨Nat.le_trans (gC vs rows) hr,fun r h=>?_⟩
 obtain ⟨x,_,rfl⟩:=lf h
 exact ⟨by rw [ke];have:=gg vs;omega,fun _ _=>trivial⟩
section
variable {N:Nat}
theorem mu {ts:List ba} {s:ByteArray} {vs:List Int} (h2:(bC ts s).2=true) (e:(bC ts s).1.1=(vs.length:Int)):(bC ts s).1.2.length≤4000∧∀ i (h:i<(bC ts s).1.2.length),(bC ts s).1.2[i].length=vs.length∧aZ (bC ts s).1.2[i]=true:=by
 obtain ⟨_,_,h3,h4⟩:=bu (st h2)
 refine ⟨h3,fun i h=>?_⟩
 obtain ⟨g1,g2,_⟩:=h4 i h
 exact ⟨by omega,g2⟩
theorem mR (hM:1073742848≤N) {ts:List ba} {s:ByteArray} {vs:List Int} (ht:gK ts) (hx:okI vs) (h5:vs.length≤5) (hv:∀ v∈vs,0≤v∧v<5):fG N ts s vs=some (ki ts s vs):=by
 unfold fG ki
 rw [jw (by omega) hx,bs,i9 (by omega) ht,bs]
 cases h2:(bC ts s).2 with
 | false=>rfl
 | true =>
  rw [cond_true,Bool.true_and]
  by_cases e:(bC ts s).1.1=(vs.length:Int)
  ·obtain ⟨l1,l2⟩:=mu h2 e
   have hcf:(decide ((vs.length:Int)≤5)&&ee 5 vs)=true:=by
    rw [Bool.and_eq_true,decide_eq_true_eq]
    refine ⟨by omega,?_⟩
    unfold ee
    rw [List.all_eq_true]
    exact fun c hc=>cJ.2 (by have:=hv c hc;omega)
   have hb:=n9 (vs:=vs) (rows:=(bC ts s).1.2) (by omega)
   rw [show ((bC ts s).1.1 != (vs.length:Int))=false by simpa using e,cond_false,mW (by omega) hx.1 (by omega),bs,hcf,cond_true,xk (by omega) (fun i h=>(l2 i h).1) (by omega) hv (by omega),bs,lpB,decide_eq_true e]
   show (c8 N (bB vs (bC ts s).1.2)).bind _=_
   rw [nm 20 N _ (by have:=hb.1;omega) (by omega) hb,bs]
   rfl
  ·rw [show ((bC ts s).1.1 != (vs.length:Int))=true by simpa using e,cond_true,decide_eq_false e];rfl
theorem mj (hM:1073742848≤N) {ts:List ba} {s:ByteArray} {vs:List Int} (ht:gK ts) (hx:okI vs) (h5:vs.length≤5) (hv:∀ v∈vs,0≤v∧v<5):fD N ts s vs=some (ki ts s vs):=by
 unfold fD ki
 rw [jp (by omega) hx,bs,gp (by omega) ht,bs]
 cases h2:(bC ts s).2 with
 | false=>rfl
 | true =>
  rw [cond_true,Bool.true_and]
  by_cases e:(bC ts s).1.1=(vs.length:Int)
  ·obtain ⟨l1,l2⟩:=mu h2 e
   have hb:=n9 (vs:=vs) (rows:=(bC ts s).1.2) (by omega)
   have hv5:=gg vs
   have hbl:=gC vs (bC ts s).1.2
   have hnr:=gH (n:=((aR vs).length:Int)) (rows:=bB vs (bC ts s).1.2) (by omega) (by omega) (fun r hr=>by
    obtain ⟨x,hxm,rfl⟩:=lf hr
    obtain ⟨i,hi,rfl⟩:=List.getElem_of_mem hxm
    exact ⟨by rw [ke],nF (l2 i hi).2 (l2 i hi).1⟩)
   rw [show ((bC ts s).1.1 != (vs.length:Int))=false by simpa using e,cond_false,xH (by omega) (fun i h=>(l2 i h).1) (by omega) hv (by omega),bs,lpB,decide_eq_true e]
   show (cq N ((aR vs).length:Int) (bB vs (bC ts s).1.2)).bind _=_
   rw [eJ hM hb,bs,hnr]
   rfl
  ·rw [show ((bC ts s).1.1 != (vs.length:Int))=true by simpa using e,cond_true,decide_eq_false e];rfl
end
end Go.Proofs.Ytnipkopfefkojaa
namespace Go.Proofs.Ytnipkopfefkojaa
open Go.RowKit

theorem o3 {n:Nat} {xs:List Int} (hn:xs.Nodup) (hl:xs.length=n) (hb:∀ x∈xs,0≤x∧x<n) (v:Int) (h0:0≤v) (h1:v<n):v∈xs:=by
 refine Classical.byContradiction fun hv=>?_
 have:=g9 n (v :: xs) (List.nodup_cons.2 ⟨hv,hn⟩) (fun x hx=>by
  rcases List.mem_cons.1 hx with rfl | hx
  ·exact ⟨h0,h1⟩
  ·exact hb x hx)
 rw [List.length_cons] at this;omega
theorem pU {xs:List Int} (h:xs.Nodup) {i j:Nat} (hi:i<xs.length) (hj:j<xs.length) (e:xs[i]=xs[j]):i=j:=by
 rw [List.Nodup,List.pairwise_iff_getElem] at h
 rcases Nat.lt_trichotomy i j with hl | hl | hl
 ·exact absurd e (h i j hi hj hl)
 ·exact hl
 ·exact absurd e.symm (h j i hj hi hl)
theorem pO {xs:List Int} {n:Int} (hn:xs.Nodup) (hb:∀ x∈xs,0≤x∧x≤n-1):fd xs n=true:=by
 unfold fd
 rw [List.all_eq_true]
 intro i hi
 have hi':i<xs.length:=by simpa using hi
 rw [bb hi',Bool.and_eq_true,Bool.not_eq_true',decide_eq_false_iff_not]
 refine ⟨cJ.2 (hb _ (List.getElem_mem hi')),fun hm=>?_⟩
 obtain ⟨j,hj,e⟩:=List.mem_iff_getElem.1 hm
 rw [List.getElem_take] at e
 have:=pU hn (by rw [List.length_take] at hj;omega) hi' e
 rw [List.length_take] at hj;omega
theorem lb {vs:List Int} (hn:vs.Nodup) {k:Nat} (h:k<vs.length):aY vs vs[k]=(k:Int):=by
 rcases iJ vs vs[k] with ⟨h1,_⟩ | ⟨j,hj,e,h2,_⟩
 ·exact absurd (List.getElem_mem h) h1
 ·rw [h2,pU hn hj h e]
theorem oT (n:Nat):(eV n).Nodup:=by
 unfold eV
 rw [List.Nodup,List.pairwise_map]
 exact List.Pairwise.imp (fun h=>by omega) (List.pairwise_lt_range' (s:=0) (n:=n))
theorem rY (xs:List Int):(aR xs).Nodup:=(oT 5).filter _
theorem k9 {vs:List Int} {v:Int}:0≤aY vs v↔v∈vs:=by
 have:=el vs v
 rw [Bool.eq_iff_iff,decide_eq_true_eq,decide_eq_true_eq] at this;exact this
theorem uf {vs:List Int} {v:Int} (h:v∈vs):aY vs v<vs.length:=by
 obtain ⟨j,e,hj⟩:=gl h;omega
theorem sq (vars out:List Int) (v k:Int):k∈f7 vars out v↔k∈out∨(v∈vars∧aY vars v=k):=by
 unfold f7
 by_cases h1:v∈vars
 ·rw [decide_eq_true (k9.2 h1),Bool.true_and]
  by_cases h2:aY vars v∈out
  ·rw [decide_eq_true h2,Bool.not_true,cond_false]
   exact ⟨.inl,fun h=>h.elim id fun ⟨_,e⟩=>e ▸ h2⟩
  ·rw [decide_eq_false h2,Bool.not_false,cond_true,List.mem_append,List.mem_singleton]
   exact ⟨fun h=>h.imp id fun e=>⟨h1,e.symm⟩,fun h=>h.imp id fun e=>e.2.symm⟩
 ·rw [decide_eq_false (fun h=>h1 (k9.1 h)),Bool.false_and,cond_false]
  exact ⟨.inl,fun h=>h.elim id fun e=>absurd e.1 h1⟩
theorem qy {vars out:List Int} {v:Int} (h:out.Nodup):(f7 vars out v).Nodup:=by
 unfold f7
 by_cases h2:aY vars v∈out
 ·rw [decide_eq_true h2,Bool.not_true,Bool.and_false,cond_false];exact h
 ·rw [decide_eq_false h2,Bool.not_false,Bool.and_true]
  cases decide (0≤aY vars v)
  ·exact h
  ·rw [cond_true,List.nodup_append]
   refine ⟨h,by simp,fun a ha b hb=>?_⟩
   rw [List.mem_singleton] at hb
   rintro rfl;exact h2 (hb ▸ ha)
theorem om (vars:List Int):∀ (l out:List Int) (k:Int),k∈l.foldl (f7 vars) out↔k∈out∨∃ v∈l,v∈vars∧aY vars v=k
 | [],out,k=>by simp
 | v :: l,out,k=>by
  rw [List.foldl_cons,om vars l,sq]
  constructor
  ·rintro ((h | h) | ⟨w,hw,h⟩)
   ·exact .inl h
   ·exact .inr ⟨v,List.mem_cons_self,h⟩
   ·exact .inr ⟨w,List.mem_cons_of_mem _ hw,h⟩
  ·rintro (h | ⟨w,hw,h⟩)
   ·exact .inl (.inl h)
   ·rcases List.mem_cons.1 hw with rfl | hw
    ·exact .inl (.inr h)
    ·exact .inr ⟨w,hw,h⟩
theorem m6 (vars:List Int):∀ (l out:List Int),out.Nodup→(l.foldl (f7 vars) out).Nodup
 | [],_,h=>h
 | _ :: l,_,h=>m6 vars l _ (qy h)
theorem tL {xs order:List Int} {n:Nat} (hn:n≤5) (hx:∀ v∈xs,0≤v∧v<n) (ho:fd order n=true) (hl:order.length=n):l8 (ik xs order)=true∧(ik xs order).length=(aR xs).length:=by
 obtain ⟨o1,o2⟩:=eZ ho
 have hnd:(ik xs order).Nodup:=m6 _ _ _ List.nodup_nil
 have hmem:∀ k:Int,k∈ik xs order↔0≤k∧k<(aR xs).length:=fun k=>by
  unfold ik
  rw [om]
  constructor
  ·rintro (h | ⟨v,_,h,rfl⟩)
   ·cases h
   ·exact ⟨k9.2 h,uf h⟩
  ·rintro ⟨h0,h1⟩
   have hk:k.toNat<(aR xs).length:=by omega
   have hm:=List.getElem_mem hk
   refine .inr ⟨(aR xs)[k.toNat],?_,hm,by rw [lb (rY xs) hk];omega⟩
   have:=hx _ (dS.1 hm).2
   exact o3 o1 hl (fun x hx=>by have:=o2 x hx;omega) _ this.1 this.2
 have h5:=gg xs
 have le1:(ik xs order).length≤(aR xs).length:=g9 _ _ hnd fun k hk=>(hmem k).1 hk
 have le2:(aR xs).length≤(ik xs order).length:=by
  refine Classical.byContradiction fun hlt=>?_
  have hsub:∀ (m:Nat) (ys:List Int),(∀ k:Nat,k<m→(k:Int)∈ys)→m≤ys.length:=by
   intro m
   induction m with
   | zero=>intro ys _;omega
   | succ m ih =>
    intro ys h
    have h1:=ih (ys.erase (m:Int)) fun k hk=>(List.mem_erase_of_ne (by omega)).2 (h k (by omega))
    rw [List.length_erase_of_mem (h m (by omega))] at h1
    have:=List.length_pos_of_mem (h m (by omega))
    omega
  exact hlt (hsub _ _ fun k hk=>(hmem k).2 (by omega))
 have e:(ik xs order).length=(aR xs).length:=by omega
 refine ⟨?_,e⟩
 unfold l8
 rw [decide_eq_true (by omega),Bool.true_and]
 exact pO hnd fun k hk=>by have:=(hmem k).1 hk;omega
theorem kj {n:Int} {rows:aD} (h0:0≤n∧n≤5) (hl:rows.length≤4000) (hf:∀ r∈rows,(r.length:Int)=n∧aZ r=true):bj n (bh 20 rows)=true:=by
 have h:=gH h0 hl hf
 unfold dT at h
 cases hv:bj n (bh 20 rows) with
 | true=>rfl
 | false=>rw [hv,Bool.and_false] at h;have:=congrArg Prod.snd h;cases this
theorem s9 {row cols:List Int} (h:aZ row=true) (hin:∀ c∈cols,0≤c∧c<row.length):aZ (bI row cols)=true:=by
 unfold aZ at *
 rw [List.all_eq_true] at *
 intro x hx
 unfold bI at hx
 obtain ⟨c,hc,rfl⟩:=List.mem_map.1 hx
 have:=hin c hc
 rw [bb (by omega)]
 exact h _ (List.getElem_mem _)
theorem tE {n:Int} {rows:aD} {cols:List Int} (hv:bj n rows=true) (hp:l8 cols=true) (hl:(cols.length:Int)=n):tM n rows cols=((n,bh 20 (rows.map fun r=>bI r cols)),true)∧bj n (bh 20 (rows.map fun r=>bI r cols))=true:=by
 obtain ⟨v1,v2,v3,v4⟩:=bu hv
 have hp':=hp
 unfold l8 at hp
 rw [Bool.and_eq_true,decide_eq_true_eq] at hp
 obtain ⟨_,o2⟩:=eZ hp.2
 have hc:ee n cols=true:=by
  unfold ee;rw [List.all_eq_true]
  exact fun c hc=>cJ.2 (by have:=o2 c hc;omega)
 have hf:∀ r∈rows.map (fun r=>bI r cols),(r.length:Int)=n∧aZ r=true:=fun r hr=>by
  obtain ⟨x,hx,rfl⟩:=List.mem_map.1 hr
  obtain ⟨i,hi,rfl⟩:=List.getElem_of_mem hx
  obtain ⟨g1,g2,_⟩:=v4 i hi
  exact ⟨by rw [gN];exact hl,s9 g2 fun c hc=>by have:=o2 c hc;omega⟩
 have hnr:=gH ⟨v1,v2⟩ (by rw [List.length_map];exact v3) hf
 refine ⟨?_,kj ⟨v1,v2⟩ (by rw [List.length_map];exact v3) hf⟩
 unfold tM fZ
 rw [hp',decide_eq_true hl,Bool.true_and,cond_true,hv,decide_eq_true hp.1,hc,Bool.true_and,Bool.true_and,cond_true,hl,hnr];rfl
def je (ts:List ba) (order:List Int) (a:aQ):Int × aD:=(((aR a.2).length:Int),bh 20 ((bh 20 (bB a.2 (bC ts a.1).1.2)).map fun r=>bI r (ik a.2 order)))
theorem oE {ts:List ba} {s:ByteArray} (h:(bC ts s).2=true):(bC ts s).1.2.length≤16:=by
 unfold bC at h ⊢
 cases hd:jJ ts with
 | false=>rw [hd] at h;cases h
 | true =>
  rw [hd,cond_true] at h
  rw [cond_true]
  cases hf:ts.find? (fun t=>decide (t.1=s)) with
  | none=>rw [hf] at h;cases h
  | some t =>
   have hm:=List.mem_of_find?_eq_some hf
   obtain ⟨i,hi,rfl⟩:=List.getElem_of_mem hm
   unfold jJ at hd
   rw [Bool.and_eq_true,List.all_eq_true] at hd
   have:=hd.2 i (by simp;omega)
   unfold kG at this
   rw [kN hi] at this
   simp only [Bool.and_eq_true,Bool.not_eq_true',decide_eq_false_iff_not] at this
   have:=this.2
   show ts[i].2.2.length≤16
   omega
structure QFor (ts:List ba) (n:Nat) (atoms:List aQ) (order:List Int):Prop where
 n1:1≤n
 n5:n≤5
 ol:order.length=n
 os:fd order n=true
 a1:1≤atoms.length
 a4:atoms.length≤4
 al:∀ a∈atoms,a.2.length≤5∧1≤a.2.length∧∀ v∈a.2,0≤v∧v<n
 af:∀ a∈atoms,(bC ts a.1).2=true∧(bC ts a.1).1.1=(a.2.length:Int)
 cov:∀ v:Int,0≤v→v<n→∃ a∈atoms,v∈a.2
theorem sU {ts:List ba} {n:Int} {atoms:List aQ} {out order:List Int} (h1:cC ts n atoms out=true) (h2:(order.length:Int)=n) (h3:fd order n=true):∃ m:Nat,n=(m:Int)∧QFor ts m atoms order:=by
 unfold cC at h1
 rw [Bool.and_eq_true,Bool.and_eq_true,List.all_eq_true] at h1
 obtain ⟨q,_,q3⟩:=h1
 obtain ⟨n1,n5,a1,a4⟩:=lx q
 unfold fu at q
 simp only [Bool.and_eq_true,List.all_eq_true] at q
 obtain ⟨⟨_,qa⟩,qc⟩:=q
 have hm:(n.toNat:Int)=n:=by omega
 refine ⟨n.toNat,hm.symm,⟨by omega,by omega,by omega,hm ▸ h3,by omega,by omega,fun a ha=>?_,fun a ha=>?_,fun v v0 v1=>?_⟩⟩
 ·have:=qa a ha
  unfold gW at this
  rw [Bool.and_eq_true,Bool.and_eq_true,cJ,List.all_eq_true] at this
  exact ⟨by omega,by omega,fun v hv=>by have:=cJ.1 (this.2 v hv);omega⟩
 ·have:=q3 a ha
  unfold hH at this
  rw [Bool.and_eq_true,decide_eq_true_eq] at this
  exact this
 ·unfold jC at qc
  rw [List.all_eq_true] at qc
  have:=qc v.toNat (by simp;omega)
  rw [List.any_eq_true] at this
  obtain ⟨a,ha,h⟩:=this
  rw [decide_eq_true_eq] at h
  exact ⟨a,ha,by rw [show v=((v.toNat:Nat):Int) by omega];exact h⟩
theorem oD {ts:List ba} {n:Nat} {atoms:List aQ} {order:List Int} (q:QFor ts n atoms order) {a:aQ} (ha:a∈atoms) :
  ki ts a.1 a.2=(((aR a.2).length:Int),bh 20 (bB a.2 (bC ts a.1).1.2))∧tM (ki ts a.1 a.2).1 (ki ts a.1 a.2).2 (ik a.2 order)=(je ts order a,true)∧bj (je ts order a).1 (je ts order a).2=true∧(je ts order a).2.length≤16∧bj ((aR a.2).length:Int) (bh 20 (bB a.2 (bC ts a.1).1.2))=true:=by
 obtain ⟨h1,h2⟩:=q.af a ha
 obtain ⟨h3,h4,h5⟩:=q.al a ha
 have e:ki ts a.1 a.2=(((aR a.2).length:Int),bh 20 (bB a.2 (bC ts a.1).1.2)):=by
  unfold ki
  rw [h1,decide_eq_true h2];rfl
 obtain ⟨p1,p2⟩:=tL q.n5 h5 q.os q.ol
 obtain ⟨_,l2⟩:=mu h1 h2
 have l16:=oE h1
 have hbl:=gC a.2 (bC ts a.1).1.2
 have hv5:=gg a.2
 have hval:bj ((aR a.2).length:Int) (bh 20 (bB a.2 (bC ts a.1).1.2))=true:=kj (by omega) (by omega) fun r hr=>by
  obtain ⟨x,hxm,rfl⟩:=lf hr
  obtain ⟨i,hi,rfl⟩:=List.getElem_of_mem hxm
  exact ⟨by rw [ke],nF (l2 i hi).2 (l2 i hi).1⟩
 obtain ⟨t1,t2⟩:=tE hval p1 (by rw [p2])
 refine ⟨e,?_,t2,?_,hval⟩
 ·rw [e];exact t1
 ·have g1:=dx 20 ((bh 20 (bB a.2 (bC ts a.1).1.2)).map fun r=>bI r (ik a.2 order))
  have g2:=dx 20 (bB a.2 (bC ts a.1).1.2)
  rw [List.length_map] at g1
  exact Nat.le_trans g1 (by omega)
end Go.Proofs.Ytnipkopfefkojaa
namespace Go.Proofs.Ytnipkopfefkojaa
open Go.RowKit

section
variable {N:Nat}
theorem mr {n:Int} {rows:aD} (h:bj n rows=true):dB rows:=by
 obtain ⟨h1,h2,h3,h4⟩:=bu h
 refine ⟨by omega,fun r hr=>?_⟩
 obtain ⟨i,hi,rfl⟩:=List.getElem_of_mem hr
 obtain ⟨g1,_⟩:=h4 i hi
 exact ⟨by omega,fun _ _=>trivial⟩
end
end Go.Proofs.Ytnipkopfefkojaa
namespace Go.Proofs.Ytnipkopfefkojaa
open Go.RowKit

theorem jN {α:Type} [DecidableEq α]:∀ (xs ys:List α),xs.Nodup→(∀ x∈xs,x∈ys)→xs.length≤ys.length
 | [],ys,_,_=>Nat.zero_le _
 | x :: xs,ys,hn,h=>by
  obtain ⟨h1,h2⟩:=List.nodup_cons.1 hn
  have hx:=h x List.mem_cons_self
  have:=jN xs (ys.erase x) h2 fun z hz=>(List.mem_erase_of_ne (fun (e:z=x)=>h1 (by rw [e] at hz;exact hz))).2 (h z (List.mem_cons_of_mem _ hz))
  rw [List.length_erase_of_mem hx] at this
  have:=List.length_pos_of_mem hx
  rw [List.length_cons];omega
theorem si:∀ (m:Nat) (a b:aD) (r:List Int),a.length+b.length≤m→r∈a∨r∈b→r∈bw m a b:=by
 intro m
 induction m with
 | zero =>
  intro a b r hl h
  obtain rfl:a=[]:=List.length_eq_zero_iff.1 (by omega)
  obtain rfl:b=[]:=List.length_eq_zero_iff.1 (by simpa using hl)
  simp at h
 | succ m ih =>
  intro a b r hl h
  match a,b with
  | [],[]=>simp at h
  | [],y :: b =>
   rw [bw]
   rcases h with h | h
   ·simp at h
   ·rcases List.mem_cons.1 h with rfl | h
    ·exact List.mem_cons_self
    ·exact List.mem_cons_of_mem _ (ih [] b r (by simp at hl ⊢;omega) (.inr h))
  | x :: a,[] =>
   rw [bw]
   rcases h with h | h
   ·rcases List.mem_cons.1 h with rfl | h
    ·exact List.mem_cons_self
    ·exact List.mem_cons_of_mem _ (ih a [] r (by simp at hl ⊢;omega) (.inl h))
   ·simp at h
  | x :: a,y :: b =>
   simp only [List.length_cons] at hl
   rw [bw]
   by_cases h1:bq x y<0
   ·rw [if_pos h1]
    rcases h with h | h
    ·rcases List.mem_cons.1 h with rfl | h
     ·exact List.mem_cons_self
     ·exact List.mem_cons_of_mem _ (ih a (y :: b) r (by simp only [List.length_cons];omega) (.inl h))
    ·exact List.mem_cons_of_mem _ (ih a (y :: b) r (by simp only [List.length_cons];omega) (.inr h))
   ·rw [if_neg h1]
    by_cases h2:bq x y=0
    ·rw [if_pos h2]
     have e:=iA.1 h2
     rcases h with h | h
     ·rcases List.mem_cons.1 h with rfl | h
      ·exact List.mem_cons_self
      ·exact List.mem_cons_of_mem _ (ih a b r (by omega) (.inl h))
     ·rcases List.mem_cons.1 h with rfl | h
      ·rw [e];exact List.mem_cons_self
      ·exact List.mem_cons_of_mem _ (ih a b r (by omega) (.inr h))
    ·rw [if_neg h2]
     rcases h with h | h
     ·exact List.mem_cons_of_mem _ (ih (x :: a) b r (by simp only [List.length_cons];omega) (.inl h))
     ·rcases List.mem_cons.1 h with rfl | h
      ·exact List.mem_cons_self
      ·exact List.mem_cons_of_mem _ (ih (x :: a) b r (by simp only [List.length_cons];omega) (.inr h))
theorem pq:∀ (f:Nat) (rows:aD) (r:List Int),r∈rows→r∈bh f rows:=by
 intro f
 induction f with
 | zero=>intro rows r h;exact h
 | succ f ih =>
  intro rows r h
  unfold bh
  split
  ·exact h
  ·refine si _ _ _ _ ?_ ?_
   ·have h2:=dx f (rows.take (rows.length / 2))
    have h3:=dx f (rows.drop (rows.length / 2))
    rw [List.length_take] at h2
    rw [List.length_drop] at h3
    omega
   ·rw [← List.take_append_drop (rows.length / 2) rows,List.mem_append] at h
    exact h.imp (ih _ _) (ih _ _)
theorem di (f:Nat) (rows:aD) (r:List Int):r∈bh f rows↔r∈rows:=⟨gL f rows r,pq f rows r⟩
theorem mv (x:List Int):¬ bq x x<0:=by rw [kr];decide
theorem jH {rows:aD} (h:gI rows):rows.Nodup:=List.Pairwise.imp (fun {a b} (hab:bq a b<0) (e:a=b)=>mv b (by rw [e] at hab;exact hab)) h
theorem mg:∀ {a b:aD},gI a→gI b→(∀ r,r∈a↔r∈b)→a=b
 | [],[],_,_,_=>rfl
 | [],y :: b,_,_,h=>absurd ((h y).2 List.mem_cons_self) (by simp)
 | x :: a,[],_,_,h=>absurd ((h x).1 List.mem_cons_self) (by simp)
 | x :: a,y :: b,ha,hb,h=>by
  obtain ⟨a1,a2⟩:=List.pairwise_cons.1 ha
  obtain ⟨b1,b2⟩:=List.pairwise_cons.1 hb
  have e:x=y:=by
   rcases List.mem_cons.1 ((h x).1 List.mem_cons_self) with e | hx
   ·exact e
   ·rcases List.mem_cons.1 ((h y).2 List.mem_cons_self) with e | hy
    ·exact e.symm
    ·exact absurd (gO (b1 x hx) (a1 y hy)) (mv y)
  subst e
  rw [mg a2 b2 fun r=>?_]
  constructor
  ·intro hr
   rcases List.mem_cons.1 ((h r).1 (List.mem_cons_of_mem _ hr)) with rfl | h'
   ·exact absurd (a1 r hr) (mv r)
   ·exact h'
  ·intro hr
   rcases List.mem_cons.1 ((h r).2 (List.mem_cons_of_mem _ hr)) with rfl | h'
   ·exact absurd (b1 r hr) (mv r)
   ·exact h'
theorem s5 {rows:aD} (hl:rows.length≤1048576) (h:gI rows):bh 20 rows=rows:=mg (fN 20 rows (by omega)) h fun r=>di 20 rows r
theorem sk {rows:aD} (h:rows.Nodup):(bh 20 rows).length=rows.length:=by
 have h1:=jN rows (bh 20 rows) h fun r hr=>pq 20 rows r hr
 have h2:=dx 20 rows
 omega
theorem iK {n:Int} {rows:aD} (h:bj n rows=true):gI rows:=by
 rw [gI,List.pairwise_iff_getElem]
 exact fun i j hi hj hij=>qA h i j hij hj
theorem ld {n:Int} {rows:aD} (h0:0≤n∧n≤5) (hl:rows.length≤4000) (hf:∀ r∈rows,(r.length:Int)=n∧aZ r=true) (ha:gI rows):bj n rows=true:=by
 have:=kj h0 hl hf
 rwa [s5 (by omega) ha] at this
theorem qw {n:Int} {rows:aD} (h0:0≤n∧n≤5) (hf:∀ r∈rows,(r.length:Int)=n∧aZ r=true) (hn:rows.Nodup):dT n rows=bif decide ((rows.length:Int)≤4000) then ((n,bh 20 rows),true) else gx:=by
 by_cases h:rows.length≤4000
 ·rw [decide_eq_true (by omega),cond_true,gH h0 h hf]
 ·rw [decide_eq_false (by omega),cond_false]
  unfold dT
  cases hv:bj n (bh 20 rows) with
  | true=>have:=(bu hv).2.2.1;rw [sk hn] at this;omega
  | false=>rw [Bool.and_false,cond_false]
end Go.Proofs.Ytnipkopfefkojaa
namespace Go.Proofs.Ytnipkopfefkojaa
open Go.RowKit

theorem wY {α:Type} (L:Nat→Int→Option Int) (xs:List α) (f:α→Bool)
  (hstep:∀ k i (h:i<xs.length),L (k+1) (i:Int)=bif f xs[i] then L k ((i+1:Nat):Int) else some (i:Int)) (hend:∀ k,L (k+1) (xs.length:Int)=some (xs.length:Int)) :
  ∀ k i,i≤xs.length→xs.length-i<k→L k (i:Int)=some ((i+((xs.drop i).takeWhile f).length:Nat):Int):=by
 intro k
 induction k with
 | zero=>intro i hi hk;omega
 | succ k ih =>
  intro i hi hk
  by_cases h:i<xs.length
  ·rw [hstep k i h,fg h,List.takeWhile_cons]
   cases f xs[i] with
   | true=>rw [cond_true,ih (i+1) (by omega) (by omega),if_pos rfl,List.length_cons];congr 2;omega
   | false=>rw [cond_false,if_neg (by decide)];rfl
  ·obtain rfl:i=xs.length:=by omega
   rw [hend k,List.drop_length];rfl
theorem ry {α:Type} (f:α→Bool) (xs:List α):(xs.takeWhile f).length≤xs.length:=(List.takeWhile_prefix f).length_le
def nU (rows:aD) (p:List Int):aD:=rows.filter fun r=>decide (r.take p.length=p)
def hQ (n:Nat) (out r:List Int):List Int:=if out.getLast? = some (r.getD n 0) then out else out++[r.getD n 0]
def mP (rows:aD) (p:List Int):List Int:=(nU rows p).foldl (hQ p.length) []
def kF (n:Int) (rows:aD) (p:List Int):List Int:=if (p.length:Int)<n then mP rows p else []
theorem se (n:Nat) (out r:List Int):(hQ n out r).length≤out.length+1:=by
 unfold hQ;split
 ·omega
 ·simp
theorem og (n:Nat):∀ (rows:aD) (out:List Int),(rows.foldl (hQ n) out).length≤out.length+rows.length
 | [],out=>by simp
 | r :: rows,out=>by
  have h1:=og n rows (hQ n out r)
  have h2:=se n out r
  rw [List.foldl_cons,List.length_cons];omega
theorem tV (rows:aD) (p:List Int):(mP rows p).length≤rows.length:=by
 have h1:=og p.length (nU rows p) []
 have h2:(nU rows p).length≤rows.length:=List.length_filter_le _ _
 unfold mP
 simp only [List.length_nil] at h1;omega
theorem uC (n:Int) (rows:aD) (p:List Int):(kF n rows p).length≤rows.length:=by
 unfold kF;split
 ·exact tV rows p
 ·simp
theorem oh (n:Nat) (out r:List Int) (v:Int):v∈hQ n out r↔v∈out∨v=r.getD n 0:=by
 unfold hQ
 split
 ·rename_i h
  have:=List.mem_of_getLast? h
  constructor
  ·exact .inl
  ·rintro (h | rfl)
   ·exact h
   ·exact this
 ·rw [List.mem_append,List.mem_singleton]
theorem oe (n:Nat):∀ (rows:aD) (out:List Int) (v:Int),v∈rows.foldl (hQ n) out↔v∈out∨∃ r∈rows,v=r.getD n 0
 | [],out,v=>by simp
 | r :: rows,out,v=>by
  rw [List.foldl_cons,oe n rows,oh]
  constructor
  ·rintro ((h | h) | ⟨x,hx,h⟩)
   ·exact .inl h
   ·exact .inr ⟨r,List.mem_cons_self,h⟩
   ·exact .inr ⟨x,List.mem_cons_of_mem _ hx,h⟩
  ·rintro (h | ⟨x,hx,h⟩)
   ·exact .inl (.inl h)
   ·rcases List.mem_cons.1 hx with rfl | hx
    ·exact .inl (.inr h)
    ·exact .inr ⟨x,hx,h⟩
theorem nC {rows:aD} {p:List Int} {v:Int}:v∈mP rows p↔∃ r∈rows,r.take p.length=p∧v=r.getD p.length 0:=by
 unfold mP nU
 rw [oe]
 simp only [List.not_mem_nil,false_or,List.mem_filter,decide_eq_true_eq,and_assoc]
abbrev dH (xs:List Int):Prop:=xs.Pairwise (·<·)
theorem sG:∀ (n:Nat) (a b:List Int),a.take n=b.take n→n<a.length→n<b.length→bq a b<0→a.getD n 0≤b.getD n 0
 | _,[],_,_,h,_,_=>absurd h (by simp)
 | _,_ :: _,[],_,_,h,_=>absurd h (by simp)
 | 0,x :: a,y :: b,_,_,_,h=>by
  unfold bq at h
  show x≤y
  by_cases h1:x<y
  ·omega
  ·rw [if_neg h1] at h
   by_cases h2:y<x
   ·rw [if_pos h2] at h;exact absurd h (by decide)
   ·omega
 | n+1,x :: a,y :: b,e,h1,h2,h=>by
  rw [List.take_succ_cons,List.take_succ_cons,List.cons.injEq] at e
  unfold bq at h
  rw [if_neg (by omega),if_neg (by omega)] at h
  simp only [List.length_cons] at h1 h2
  exact sG n a b e.2 (by omega) (by omega) h
theorem tN {xs:List Int} {v:Int} (h:dH xs) (hl:xs.getLast? = some v):∀ x∈xs,x≤v:=by
 intro x hx
 obtain ⟨ys,rfl⟩:=List.getLast?_eq_some_iff.1 hl
 rcases List.mem_append.1 hx with hx | hx
 ·have:=(List.pairwise_append.1 h).2.2 x hx v (by simp)
  omega
 ·rw [List.mem_singleton] at hx;omega
theorem oa (n:Nat):∀ (rows:aD) (out:List Int),dH out→rows.Pairwise (fun a b=>a.getD n 0≤b.getD n 0)→(∀ x∈out,∀ r∈rows,x≤r.getD n 0)→dH (rows.foldl (hQ n) out)
 | [],_,h,_,_=>h
 | r :: rows,out,h,hp,hb=>by
  obtain ⟨p1,p2⟩:=List.pairwise_cons.1 hp
  rw [List.foldl_cons]
  refine oa n rows _ ?_ p2 fun x hx s hs=>?_
  ·unfold hQ
   split
   ·exact h
   ·rename_i hne
    refine List.pairwise_append.2 ⟨h,List.pairwise_singleton _ _,fun x hx y hy=>?_⟩
    rw [List.mem_singleton] at hy
    have h1:=hb x hx r List.mem_cons_self
    rcases Classical.em (x=r.getD n 0) with e | e
    ·exfalso
     obtain ⟨w,hw⟩:∃ w,out.getLast? = some w:=by
      cases hq:out.getLast? with
      | none=>rw [List.getLast?_eq_none_iff] at hq;rw [hq] at hx;simp at hx
      | some w=>exact ⟨w,rfl⟩
     have h2:=tN h hw x hx
     have h3:=hb w (List.mem_of_getLast? hw) r List.mem_cons_self
     exact hne (by rw [hw];congr 1;omega)
    ·omega
  ·rcases (oh n out r x).1 hx with hx | rfl
   ·exact hb x hx s (List.mem_cons_of_mem _ hs)
   ·exact p1 s hs
theorem ux {rows:aD} {p:List Int} (ha:gI rows) (hl:∀ r∈rows,p.length<r.length):dH (mP rows p):=by
 unfold mP
 refine oa _ _ _ List.Pairwise.nil ?_ (by simp)
 have h1:(nU rows p).Pairwise fun a b=>bq a b<0:=List.Pairwise.filter _ ha
 refine List.Pairwise.imp_of_mem (fun {a b} ham hbm h=>?_) h1
 unfold nU at ham hbm
 rw [List.mem_filter,decide_eq_true_eq] at ham hbm
 exact sG _ a b (by rw [ham.2,hbm.2]) (hl a ham.1) (hl b hbm.1) h
theorem uq {n:Int} {rows:aD} {p:List Int} (hv:bj n rows=true):dH (kF n rows p):=by
 obtain ⟨_,_,_,v4⟩:=bu hv
 unfold kF
 split
 ·refine ux (iK hv) fun r hr=>?_
  obtain ⟨i,hi,rfl⟩:=List.getElem_of_mem hr
  have:=(v4 i hi).1;omega
 ·exact List.Pairwise.nil
theorem s8 {n:Int} {rows:aD} {p:List Int} (hv:bj n rows=true):∀ v∈kF n rows p,0≤v∧v≤99:=by
 obtain ⟨_,_,_,v4⟩:=bu hv
 intro v h
 unfold kF at h
 split at h
 ·obtain ⟨r,hr,_,e⟩:=nC.1 h
  obtain ⟨i,hi,rfl⟩:=List.getElem_of_mem hr
  obtain ⟨g1,g2,_⟩:=v4 i hi
  rw [bb (by omega)] at e
  unfold aZ at g2
  rw [List.all_eq_true] at g2
  rw [e];exact cJ.1 (g2 _ (List.getElem_mem _))
 ·simp at h
end Go.Proofs.Ytnipkopfefkojaa
namespace Go.Proofs.Ytnipkopfefkojaa
open Go.RowKit

theorem lg:∀ {a b:List Int},dH a→dH b→(∀ v,v∈a↔v∈b)→a=b
 | [],[],_,_,_=>rfl
 | [],y :: b,_,_,h=>absurd ((h y).2 List.mem_cons_self) (by simp)
 | x :: a,[],_,_,h=>absurd ((h x).1 List.mem_cons_self) (by simp)
 | x :: a,y :: b,ha,hb,h=>by
  obtain ⟨a1,a2⟩:=List.pairwise_cons.1 ha
  obtain ⟨b1,b2⟩:=List.pairwise_cons.1 hb
  have e:x=y:=by
   rcases List.mem_cons.1 ((h x).1 List.mem_cons_self) with e | hx
   ·exact e
   ·rcases List.mem_cons.1 ((h y).2 List.mem_cons_self) with e | hy
    ·exact e.symm
    ·have h1:=b1 x hx;have h2:=a1 y hy;omega
  subst e
  rw [lg a2 b2 fun r=>?_]
  constructor
  ·intro hr
   rcases List.mem_cons.1 ((h r).1 (List.mem_cons_of_mem _ hr)) with rfl | h'
   ·have:=a1 r hr;omega
   ·exact h'
  ·intro hr
   rcases List.mem_cons.1 ((h r).2 (List.mem_cons_of_mem _ hr)) with rfl | h'
   ·have:=b1 r hr;omega
   ·exact h'
theorem oA (n:Nat):dH (eV n):=by
 unfold eV dH
 rw [List.pairwise_map]
 exact List.Pairwise.imp (fun h=>by omega) (List.pairwise_lt_range' (s:=0) (n:=n))
theorem ju {xs:List Int} (h:dH xs):xs.Nodup:=List.Pairwise.imp (fun {a b} (hab:a<b) (e:a=b)=>by omega) h
structure VRel (vs:List Int) (rows:aD):Prop where
 asc:dH vs
 bd:∀ v∈vs,0≤v∧v<5
 val:bj (vs.length:Int) rows=true
theorem VRel.len {vs:List Int} {rows:aD} (h:VRel vs rows):vs.length≤5:=g9 5 vs (ju h.asc) h.bd
theorem VRel.row {vs:List Int} {rows:aD} (h:VRel vs rows) {r:List Int} (hr:r∈rows):r.length=vs.length∧aZ r=true:=by
 obtain ⟨_,_,_,v4⟩:=bu h.val
 obtain ⟨i,hi,rfl⟩:=List.getElem_of_mem hr
 obtain ⟨g1,g2,_⟩:=v4 i hi
 exact ⟨by omega,g2⟩
def ky (a b:List Int) (m:Nat):List Int:=(eV m).filter fun v=>decide (v∈a)||decide (v∈b)
def aX (a b:List Int):List Int:=ky a b 5
theorem jf (a b:List Int):dH (aX a b):=List.Pairwise.filter _ (oA 5)
theorem eB {a b:List Int} {v:Int}:v∈aX a b↔(0≤v∧v<5)∧(v∈a∨v∈b):=by
 unfold aX ky
 rw [List.mem_filter,l9,Bool.or_eq_true,decide_eq_true_eq,decide_eq_true_eq];rfl
theorem qR (a b:List Int) (m:Nat):(ky a b m).length≤m:=by
 unfold ky
 exact Nat.le_trans (List.length_filter_le _ _) (by rw [fS];omega)
def f5 (va r vb s:List Int) (v:Int):Int:=if v∈va then r.getD (aY va v).toNat 0 else s.getD (aY vb v).toNat 0
def me (va r vb s:List Int) (v:Int):Bool:=!(decide (v∈va)&&decide (v∈vb))||decide (r.getD (aY va v).toNat 0=s.getD (aY vb v).toNat 0)
def gd (va r vb s:List Int):Bool:=(aX va vb).all (me va r vb s)
def fJ (va r vb s:List Int):List Int:=(aX va vb).map (f5 va r vb s)
def fW (va vb:List Int) (rb:aD) (r:List Int):aD:=(rb.filter fun s=>gd va r vb s).map (fJ va r vb)
def cm (va vb:List Int) (ra rb:aD):aD:=ra.flatMap (fW va vb rb)
theorem uc (va vb:List Int) (rb:aD) (r:List Int):(fW va vb rb r).length≤rb.length:=by
 unfold fW;rw [List.length_map];exact List.length_filter_le _ _
theorem qb (va r vb s:List Int):(fJ va r vb s).length=(aX va vb).length:=by simp [fJ]
theorem tb {va r vb s:List Int} (hr:r.length=va.length) (hs:s.length=vb.length) (h1:aZ r=true) (h2:aZ s=true):aZ (fJ va r vb s)=true:=by
 unfold aZ at *
 rw [List.all_eq_true] at *
 intro x hx
 unfold fJ at hx
 obtain ⟨v,hv,rfl⟩:=List.mem_map.1 hx
 unfold f5
 split
 ·rename_i hm
  obtain ⟨j,hj,hj2⟩:=gl hm
  rw [hj,show ((j:Nat):Int).toNat=j from rfl,bb (by omega)]
  exact h1 _ (List.getElem_mem _)
 ·rename_i hm
  have hmb:v∈vb:=((eB.1 hv).2).resolve_left hm
  obtain ⟨j,hj,hj2⟩:=gl hmb
  rw [hj,show ((j:Nat):Int).toNat=j from rfl,bb (by omega)]
  exact h2 _ (List.getElem_mem _)
def nY (u vs g:List Int):List Int:=vs.map fun v=>g.getD (aY u v).toNat 0
theorem sB {va r vb s:List Int} {v:Int} (hv:v∈aX va vb):(fJ va r vb s).getD (aY (aX va vb) v).toNat 0=f5 va r vb s v:=by
 obtain ⟨j,hj,e,h2,_⟩:∃ j,∃ h:j<(aX va vb).length,(aX va vb)[j]=v∧aY (aX va vb) v=(j:Int)∧True:=by
  rcases iJ (aX va vb) v with ⟨h,_⟩ | ⟨j,hj,e,h2,_⟩
  ·exact absurd hv h
  ·exact ⟨j,hj,e,h2,trivial⟩
 rw [h2,show ((j:Nat):Int).toNat=j from rfl,bb (by rw [qb];exact hj)]
 unfold fJ
 rw [List.getElem_map,e]
theorem rG {vs r:List Int} (hn:vs.Nodup) (hl:r.length=vs.length):(vs.map fun v=>r.getD (aY vs v).toNat 0)=r:=by
 refine List.ext_getElem (by simp [hl]) fun i h1 h2=>?_
 rw [List.length_map] at h1
 rw [List.getElem_map,lb hn h1,show ((i:Nat):Int).toNat=i from rfl,bb h2]
theorem nv {va r vb s:List Int} (hn:va.Nodup) (hb:∀ v∈va,0≤v∧v<5) (hl:r.length=va.length):nY (aX va vb) va (fJ va r vb s)=r:=by
 unfold nY
 rw [List.map_congr_left (g:=fun v=>r.getD (aY va v).toNat 0) fun v hv=>?_]
 ·exact rG hn hl
 ·rw [sB (eB.2 ⟨hb v hv,.inl hv⟩)]
  unfold f5;rw [if_pos hv]
theorem ma {va r vb s:List Int} (hn:vb.Nodup) (hb:∀ v∈vb,0≤v∧v<5) (hl:s.length=vb.length) (ha:gd va r vb s=true):nY (aX va vb) vb (fJ va r vb s)=s:=by
 unfold nY
 rw [List.map_congr_left (g:=fun v=>s.getD (aY vb v).toNat 0) fun v hv=>?_]
 ·exact rG hn hl
 ·have hu:v∈aX va vb:=eB.2 ⟨hb v hv,.inr hv⟩
  rw [sB hu]
  unfold f5
  split
  ·rename_i hva
   unfold gd at ha
   rw [List.all_eq_true] at ha
   have:=ha v hu
   unfold me at this
   rw [decide_eq_true hva,decide_eq_true hv,Bool.and_self,Bool.not_true,Bool.false_or,decide_eq_true_eq] at this
   exact this
  ·rfl
theorem sf {va vb:List Int} {ra rb:aD} (A:VRel va ra) (B:VRel vb rb):(cm va vb ra rb).Nodup:=by
 have na:=jH (iK A.val)
 have nb:=jH (iK B.val)
 unfold cm
 rw [List.Nodup,List.pairwise_flatMap]
 constructor
 ·intro r _
  unfold fW
  rw [List.pairwise_map]
  refine List.Pairwise.imp_of_mem (fun {s t} hs ht hst e=>hst ?_) (List.Pairwise.filter _ nb)
  rw [List.mem_filter] at hs ht
  rw [← ma (ju B.asc) B.bd (B.row hs.1).1 hs.2,e,ma (ju B.asc) B.bd (B.row ht.1).1 ht.2]
 ·refine List.Pairwise.imp_of_mem (fun {r t} hr ht hrt x hx y hy e=>hrt ?_) na
  unfold fW at hx hy
  obtain ⟨s,_,rfl⟩:=List.mem_map.1 hx
  obtain ⟨u,_,rfl⟩:=List.mem_map.1 hy
  rw [← nv (s:=s) (vb:=vb) (ju A.asc) A.bd (A.row hr).1,e,nv (ju A.asc) A.bd (A.row ht).1]
theorem nG {va vb:List Int} {ra rb:aD} (A:VRel va ra) (B:VRel vb rb):∀ g∈cm va vb ra rb,(g.length:Int)=((aX va vb).length:Int)∧aZ g=true:=by
 intro g hg
 unfold cm at hg
 obtain ⟨r,hr,hg⟩:=List.mem_flatMap.1 hg
 unfold fW at hg
 obtain ⟨s,hs,rfl⟩:=List.mem_map.1 hg
 have h1:=A.row hr
 have h2:=B.row (List.mem_filter.1 hs).1
 exact ⟨by rw [qb],tb h1.1 h2.1 h1.2 h2.2⟩
theorem qI {α β:Type} {g:α→List β} {k:Nat} (h:∀ x,(g x).length≤k):∀ L:List α,(L.flatMap g).length≤L.length*k
 | []=>by simp
 | p :: L=>by
  have h1:=h p
  have h2:=qI h L
  rw [List.flatMap_cons,List.length_append,List.length_cons,Nat.succ_mul];omega
theorem qh (va vb:List Int) (ra rb:aD):(cm va vb ra rb).length≤ra.length*rb.length:=qI (fun r=>uc va vb rb r) ra
theorem j4 (a b:List Int):(aX a b).length≤5:=qR a b 5
theorem mO {va vb:List Int} {ra rb:aD} (A:VRel va ra) (B:VRel vb rb) (hl:(cm va vb ra rb).length≤4000):VRel (aX va vb) (bh 20 (cm va vb ra rb)):=by
 have hu:=j4 va vb
 exact ⟨jf va vb,fun v hv=>(eB.1 hv).1,kj (by omega) hl (nG A B)⟩
def dz (va vb:List Int):List Int:=va.filter fun v=>decide (v∈vb)
theorem ul {va vb r s:List Int} (hb:∀ v∈va,0≤v∧v<5):gd va r vb s=decide ((dz va vb).map (fun v=>r.getD (aY va v).toNat 0)=(dz va vb).map fun v=>s.getD (aY vb v).toNat 0):=by
 rw [Bool.eq_iff_iff,decide_eq_true_eq,List.map_inj_left]
 unfold gd
 rw [List.all_eq_true]
 constructor
 ·intro h v hv
  unfold dz at hv
  rw [List.mem_filter,decide_eq_true_eq] at hv
  have:=h v (eB.2 ⟨hb v hv.1,.inl hv.1⟩)
  unfold me at this
  rw [decide_eq_true hv.1,decide_eq_true hv.2,Bool.and_self,Bool.not_true,Bool.false_or,decide_eq_true_eq] at this
  exact this
 ·intro h v _
  unfold me
  by_cases h1:v∈va
  ·by_cases h2:v∈vb
   ·rw [decide_eq_true (h v (by unfold dz;rw [List.mem_filter,decide_eq_true_eq];exact ⟨h1,h2⟩)),Bool.or_true]
   ·rw [decide_eq_false h2,Bool.and_false];rfl
  ·rw [decide_eq_false h1,Bool.false_and];rfl
end Go.Proofs.Ytnipkopfefkojaa
namespace Go.Proofs.Ytnipkopfefkojaa
open Go.RowKit

theorem yg {α:Type} {xs:List α} {hi:Nat} (h:hi≤xs.length):slc xs 0 (hi:Int)=some (xs.take hi):=by
 have:=iG (xs:=xs) (Nat.zero_le hi) h
 rw [List.drop_zero] at this;exact this
end Go.Proofs.Ytnipkopfefkojaa
namespace Go.Proofs.Ytnipkopfefkojaa
open Go.RowKit

abbrev Nxt:=List Int→List Int × Int
def c7 (f:Nxt):Nat→List Int→aD × Int
 | 0,p=>([p],0)
 | m+1,p=>((f p).1.flatMap fun v=>(c7 f m (p++[v])).1,(f p).2+((f p).1.map fun v=>(c7 f m (p++[v])).2).sum)
structure NxtOk (f:Nxt):Prop where
 len:∀ p,(f p).1.length≤16
 asc:∀ p,dH (f p).1
 val:∀ p,∀ v∈(f p).1,0≤v∧v≤99
 st0:∀ p,0≤(f p).2
 st1:∀ p,(f p).2≤1000
theorem lk {f:Nxt}:∀ {m:Nat} {p r:List Int},r∈(c7 f m p).1→∃ s,r=p++s∧s.length=m
 | 0,p,r,h=>⟨[],by rw [List.append_nil];exact List.mem_singleton.1 h,rfl⟩
 | m+1,p,r,h=>by
  obtain ⟨v,_,hv⟩:=List.mem_flatMap.1 h
  obtain ⟨s,e,hs⟩:=lk hv
  exact ⟨v :: s,by rw [e,List.append_assoc];rfl,by rw [List.length_cons,hs]⟩
theorem oM {f:Nxt} (hf:NxtOk f):∀ {m:Nat} {p r:List Int},aZ p=true→r∈(c7 f m p).1→aZ r=true
 | 0,p,r,hp,h=>by
  have e:r=p:=List.mem_singleton.1 h
  rw [e];exact hp
 | m+1,p,r,hp,h=>by
  obtain ⟨v,hv0,hv⟩:=List.mem_flatMap.1 h
  refine oM hf ?_ hv
  unfold aZ at hp ⊢
  rw [List.all_append,hp,Bool.true_and]
  have:=hf.val p v hv0
  simp only [List.all_cons,List.all_nil,Bool.and_true]
  exact cJ.2 this
theorem qZ:∀ (p a b:List Int) (v w:Int),v<w→bq (p++v :: a) (p++w :: b)<0
 | [],a,b,v,w,h=>by
  show bq (v :: a) (w :: b)<0
  unfold bq;rw [if_pos h];decide
 | x :: p,a,b,v,w,h=>by
  rw [List.cons_append,List.cons_append]
  unfold bq
  rw [if_neg (by omega),if_neg (by omega)]
  exact qZ p a b v w h
theorem pT {f:Nxt} (hf:NxtOk f):∀ (m:Nat) (p:List Int),gI (c7 f m p).1
 | 0,p=>List.pairwise_singleton _ _
 | m+1,p=>by
  show gI ((f p).1.flatMap fun v=>(c7 f m (p++[v])).1)
  unfold gI
  rw [List.pairwise_flatMap]
  refine ⟨fun v _=>pT hf m _,?_⟩
  refine List.Pairwise.imp (fun {v w} hvw r hr s hs=>?_) (hf.asc p)
  obtain ⟨a,rfl,_⟩:=lk hr
  obtain ⟨b,rfl,_⟩:=lk hs
  rw [List.append_assoc,List.append_assoc]
  exact qZ p a b v w hvw
theorem kn {α β:Type} {g:α→List β} {k:Nat} (h:∀ x,(g x).length≤k):∀ L:List α,(L.flatMap g).length≤L.length*k
 | []=>by simp
 | p :: L=>by
  have h1:=h p
  have h2:=kn h L
  rw [List.flatMap_cons,List.length_append,List.length_cons,Nat.succ_mul];omega
theorem pW {f:Nxt} (hf:NxtOk f):∀ (m:Nat) (p:List Int),(c7 f m p).1.length≤16 ^ m
 | 0,p=>by simp [c7]
 | m+1,p=>by
  have h1:=kn (g:=fun v=>(c7 f m (p++[v])).1) (fun v=>pW hf m _) (f p).1
  have h2:=Nat.mul_le_mul_right (16 ^ m) (hf.len p)
  show ((f p).1.flatMap fun v=>(c7 f m (p++[v])).1).length≤_
  rw [Nat.pow_succ];omega
end Go.Proofs.Ytnipkopfefkojaa
namespace Go.Proofs.Ytnipkopfefkojaa
open Go.RowKit

def dJ (l:List Int) (a:Nat) (v:Int):Nat:=a+((l.drop a).takeWhile fun x=>decide (x<v)).length
theorem ov {l:List Int} {a:Nat} {v:Int} (h:a≤l.length):dJ l a v≤l.length:=by
 have:=ry (fun x=>decide (x<v)) (l.drop a)
 rw [List.length_drop] at this
 unfold dJ;omega
theorem sQ {f:Int→Bool}:∀ {xs:List Int} (h:(xs.takeWhile f).length<xs.length),f (xs[(xs.takeWhile f).length])=false
 | [],h=>absurd h (by simp)
 | x :: xs,h=>by
  cases hf:f x with
  | false =>
   have e:(x :: xs).takeWhile f=[]:=by rw [List.takeWhile_cons,hf];rfl
   simp only [e,List.length_nil,List.getElem_cons_zero];exact hf
  | true =>
   have e:(x :: xs).takeWhile f=x :: xs.takeWhile f:=by rw [List.takeWhile_cons,hf];rfl
   simp only [e,List.length_cons] at h ⊢
   rw [List.getElem_cons_succ]
   exact sQ (by omega)
theorem wb {f:Int→Bool}:∀ {xs:List Int} {j:Nat} (h:j<xs.length),j<(xs.takeWhile f).length→f xs[j]=true
 | [],_,h,_=>absurd h (by simp)
 | x :: xs,j,h,hj=>by
  cases hf:f x with
  | false =>
   have e:(x :: xs).takeWhile f=[]:=by rw [List.takeWhile_cons,hf];rfl
   rw [e] at hj;exact absurd hj (by simp)
  | true =>
   have e:(x :: xs).takeWhile f=x :: xs.takeWhile f:=by rw [List.takeWhile_cons,hf];rfl
   rw [e,List.length_cons] at hj
   cases j with
   | zero=>exact hf
   | succ j=>rw [List.getElem_cons_succ];exact wb _ (by omega)
theorem mL {l:List Int} {a:Nat} {v:Int} (h:dJ l a v<l.length):v≤l.getD (dJ l a v) 0:=by
 unfold dJ at h ⊢
 have:=sQ (f:=fun x=>decide (x<v)) (xs:=l.drop a) (by rw [List.length_drop];omega)
 rw [List.getElem_drop,decide_eq_false_iff_not] at this
 rw [bb h];omega
theorem mH {l:List Int} {a j:Nat} {v:Int} (h:j<l.length) (h1:a≤j) (h2:j<dJ l a v):l[j]<v:=by
 unfold dJ at h2
 have:=wb (f:=fun x=>decide (x<v)) (xs:=l.drop a) (j:=j-a) (by rw [List.length_drop];omega) (by omega)
 rw [List.getElem_drop,decide_eq_true_eq] at this
 simpa [show a+(j-a)=j by omega] using this
theorem vD {l:List Int} {a:Nat} {v:Int} (h:a<l.length) (h1:l[a]<v):a<dJ l a v:=by
 unfold dJ
 rw [fg h,List.takeWhile_cons,if_pos (by simpa using h1),List.length_cons];omega
theorem iL {l:List Int} (h:dH l) {i j:Nat} (hi:i<j) (hj:j<l.length):l[i]<l[j]:=List.pairwise_iff_getElem.1 h i j (by omega) hj hi
def iV (Ls:aD) (A:List Nat) (k:Nat):Int:=(Ls.getD k []).getD (A.getD k 0) 0
def lkL (Ls:aD) (s:Nat):List Int:=Ls.getD (s % Ls.length) []
def lkP (Ls:aD) (A:List Nat) (s:Nat):Nat:=A.getD (s % Ls.length) 0
def lkA (Ls:aD) (A:List Nat) (most:Int) (s:Nat):Nat:=if (lkL Ls s).getD (lkP Ls A s) 0=most then lkP Ls A s+1 else dJ (lkL Ls s) (lkP Ls A s) most
def lkO (Ls:aD) (A:List Nat) (most:Int) (out:List Int) (s:Nat):List Int:=if (lkL Ls s).getD (lkP Ls A s) 0=most then out++[most] else out
def lL (Ls:aD):Nat→List Nat→Int→List Int→Nat→List Int × Nat
 | 0,_,_,out,s=>(out,s)
 | m+1,A,most,out,s =>
  if lkA Ls A most s=(lkL Ls s).length then (lkO Ls A most out s,s+1) else lL Ls m (A.set (s % Ls.length) (lkA Ls A most s)) ((lkL Ls s).getD (lkA Ls A most s) 0) (lkO Ls A most out s) (s+1)
structure LInv (Ls:aD) (A:List Nat) (most:Int) (out:List Int) (s:Nat):Prop where
 pos:0<Ls.length
 len:A.length=Ls.length
 asc:∀ l∈Ls,dH l
 lt:∀ k,k<Ls.length→A.getD k 0<(Ls.getD k []).length
 cyc:∀ i j,i≤j→j<Ls.length→iV Ls A ((s+i) % Ls.length)≤iV Ls A ((s+j) % Ls.length)
 top:iV Ls A ((s+(Ls.length-1)) % Ls.length)=most
 oasc:dH out
 olt:∀ x∈out,x<most
 ocom:∀ x∈out,∀ l∈Ls,x∈l
 all:∀ x,(∀ l∈Ls,x∈l)→x∈out∨∀ k,k<Ls.length→iV Ls A k≤x
theorem sw {s n k:Nat} (hk:k<n):∃ i,i<n∧(s+i) % n=k:=by
 have hr:s % n<n:=Nat.mod_lt _ (by omega)
 by_cases h:s % n≤k
 ·refine ⟨k-s % n,by omega,?_⟩
  rw [Nat.add_mod,Nat.mod_eq_of_lt (a:=k-s % n) (by omega),show s % n+(k-s % n)=k by omega,Nat.mod_eq_of_lt hk]
 ·refine ⟨k+n-s % n,by omega,?_⟩
  rw [Nat.add_mod,Nat.mod_eq_of_lt (a:=k+n-s % n) (by omega),show s % n+(k+n-s % n)=k+n by omega,Nat.add_mod_right,Nat.mod_eq_of_lt hk]
theorem xL {s i j n:Nat} (hi:i<j) (hj:j<n):(s+j) % n≠(s+i) % n:=by
 intro e
 have h1:=Nat.div_add_mod (s+j) n
 have h2:=Nat.div_add_mod (s+i) n
 rw [e] at h1
 have h3:n*((s+j) / n)=n*((s+i) / n)+(j-i):=by omega
 rcases Nat.lt_trichotomy ((s+j) / n) ((s+i) / n) with h | h | h
 ·have:=Nat.mul_le_mul_left n (Nat.le_of_lt h);omega
 ·rw [h] at h3;omega
 ·have:=Nat.mul_le_mul_left n (Nat.succ_le_of_lt h)
  rw [Nat.mul_succ] at this;omega
theorem xy {A:List Nat} {k a:Nat} (h:k<A.length):(A.set k a).getD k 0=a:=by simp [h]
theorem sN {A:List Nat} {k j a:Nat} (h:j≠k):(A.set k a).getD j 0=A.getD j 0:=by
 simp [List.getElem?_set_ne (Ne.symm h)]
theorem jh {Ls:aD} {k:Nat} (h:k<Ls.length):Ls.getD k []∈Ls:=by rw [ga h];exact List.getElem_mem h
theorem oR {l:List Int} {x:Int} (h:x∈l):∃ j,∃ hj:j<l.length,l[j]=x:=List.mem_iff_getElem.1 h
theorem uG {Ls:aD} {A:List Nat} {most:Int} {out:List Int} {s:Nat} (I:LInv Ls A most out s) :
  let k:=s % Ls.length
  let l:=lkL Ls s
  let a:=lkP Ls A s
  let a':=lkA Ls A most s
  let out':=lkO Ls A most out s
  k<Ls.length∧a<l.length∧a<a'∧a'≤l.length∧(a'=l.length→dH out'∧∀ x,x∈out'↔∀ l∈Ls,x∈l)∧(¬ a'=l.length→LInv Ls (A.set k a') (l.getD a' 0) out' (s+1)):=by
 intro k l a a' out'
 have hk:k<Ls.length:=Nat.mod_lt _ I.pos
 have hkA:k<A.length:=by rw [I.len];exact hk
 have ha:a<l.length:=I.lt k hk
 have hla:dH l:=I.asc l (jh hk)
 have hkey:iV Ls A k=l.getD a 0:=rfl
 have hle:l.getD a 0≤most:=by
  have:=I.cyc 0 (Ls.length-1) (by omega) (by have:=I.pos;omega)
  rw [I.top,Nat.add_zero] at this
  exact this
 rw [bb ha] at hle
 -- the new place
 have hgt:a<a':=by
  show a<if l.getD a 0=most then a+1 else dJ l a most
  split
  ·omega
  ·rename_i h;rw [bb ha] at h;exact vD ha (by omega)
 have hle':a'≤l.length:=by
  show (if l.getD a 0=most then a+1 else dJ l a most)≤l.length
  split
  ·omega
  ·exact ov (by omega)
 have hnew:a'<l.length→most≤l.getD a' 0∧(l.getD a 0=most→most<l.getD a' 0):=by
  intro h
  by_cases e:l.getD a 0=most
  ·have e':a'=a+1:=if_pos e
   rw [e'] at h ⊢
   have:=iL hla (show a<a+1 by omega) h
   rw [bb h];rw [bb ha] at e
   exact ⟨by omega,fun _=>by omega⟩
  ·have e':a'=dJ l a most:=if_neg e
   rw [e'] at h ⊢
   exact ⟨mL h,fun h'=>absurd h' e⟩
 -- every key is at most 'most';on a hit all are equal
 have hmost:∀ j,j<Ls.length→iV Ls A j≤most:=by
  intro j hj
  obtain ⟨i,hi,rfl⟩:=sw (s:=s) hj
  have:=I.cyc i (Ls.length-1) (by omega) (by omega)
  rwa [I.top] at this
 have hhit:l.getD a 0=most→∀ l'∈Ls,most∈l':=by
  intro e l' hl'
  obtain ⟨j,hj,rfl⟩:=List.getElem_of_mem hl'
  have h1:=hmost j hj
  obtain ⟨i,hi,ej⟩:=sw (s:=s) hj
  have h2:=I.cyc 0 i (by omega) hi
  rw [Nat.add_zero,ej] at h2
  have h3:iV Ls A j=most:=by rw [show iV Ls A (s % Ls.length)=most from e] at h2;omega
  have h4:=I.lt j hj
  unfold iV at h3
  rw [bb h4] at h3
  have h5:=List.getElem_mem h4
  rw [h3] at h5
  rwa [ga hj] at h5
 -- what is common and not yet found lies at the new place or behind it
 have hback:∀ x,(∀ l'∈Ls,x∈l')→x∈out'∨(most≤x∧∃ j,∃ hj:j<l.length,l[j]=x∧a'≤j):=by
  intro x hx
  rcases I.all x hx with h | h
  ·refine .inl ?_
   show x∈if l.getD a 0=most then out++[most] else out
   split
   ·exact List.mem_append_left _ h
   ·exact h
  ·have hm:most≤x:=by
    have:=h ((s+(Ls.length-1)) % Ls.length) (Nat.mod_lt _ I.pos)
    rwa [I.top] at this
   obtain ⟨j,hj,e⟩:=oR (hx l (jh hk))
   by_cases hej:l.getD a 0=most
   ·have e':a'=a+1:=if_pos hej
    have eo:out'=out++[most]:=if_pos hej
    by_cases hxm:x=most
    ·exact .inl (by rw [eo,hxm];simp)
    ·refine .inr ⟨hm,j,hj,e,?_⟩
     rw [e']
     refine Classical.byContradiction fun hc=>?_
     rcases Nat.lt_or_ge j a with hja | hja
     ·have:=iL hla hja ha
      rw [bb ha] at hej;omega
     ·have:j=a:=by omega
      subst this
      rw [bb ha] at hej;omega
   ·have e':a'=dJ l a most:=if_neg hej
    refine .inr ⟨hm,j,hj,e,?_⟩
    rw [e']
    refine Classical.byContradiction fun hc=>?_
    rcases Nat.lt_or_ge j a with hja | hja
    ·have:=iL hla hja ha
     omega
    ·have:=mH hj hja (by omega:j<dJ l a most)
     omega
 have hoasc:dH out':=by
  show dH (if l.getD a 0=most then out++[most] else out)
  split
  ·exact List.pairwise_append.2 ⟨I.oasc,List.pairwise_singleton _ _,fun x hx y hy=>by rw [List.mem_singleton] at hy;rw [hy];exact I.olt x hx⟩
  ·exact I.oasc
 have hocom:∀ x∈out',∀ l'∈Ls,x∈l':=by
  intro x hx
  by_cases e:l.getD a 0=most
  ·have eo:out'=out++[most]:=if_pos e
   rw [eo] at hx
   rcases List.mem_append.1 hx with hx | hx
   ·exact I.ocom x hx
   ·rw [List.mem_singleton] at hx;rw [hx];exact hhit e
  ·have eo:out'=out:=if_neg e
   rw [eo] at hx;exact I.ocom x hx
 refine ⟨hk,ha,hgt,hle',fun he=>⟨hoasc,fun x=>⟨hocom x,fun hx=>?_⟩⟩,fun hne=>?_⟩
 ·rcases hback x hx with h | ⟨_,j,hj,_,hj2⟩
  ·exact h
  ·omega
 ·have hlt':a'<l.length:=by omega
  obtain ⟨n1,n2⟩:=hnew hlt'
  have keyNew:iV Ls (A.set k a') k=l.getD a' 0:=by unfold iV;rw [xy hkA];rfl
  have keyOld:∀ j,j≠k→iV Ls (A.set k a') j=iV Ls A j:=fun j hj=>by unfold iV;rw [sN hj]
  have hkk:(s+1+(Ls.length-1)) % Ls.length=k:=by
   rw [show s+1+(Ls.length-1)=s+Ls.length by have:=I.pos;omega,Nat.add_mod_right]
  have hne':∀ i,i+1<Ls.length→(s+1+i) % Ls.length≠k:=fun i hi=>by
   have:=xL (s:=s) (i:=0) (j:=i+1) (n:=Ls.length) (by omega) hi
   rw [Nat.add_zero] at this
   rw [show s+1+i=s+(i+1) by omega];exact this
  refine ⟨I.pos,by rw [List.length_set];exact I.len,I.asc,fun j hj=>?_,fun i j hij hj=>?_,by rw [hkk,keyNew],hoasc,fun x hx=>?_,hocom,fun x hx=>?_⟩
  ·by_cases e:j=k
   ·rw [e,xy hkA];exact hlt'
   ·rw [sN e];exact I.lt j hj
  ·by_cases ej:j+1<Ls.length
   ·rw [keyOld _ (hne' j ej),keyOld _ (hne' i (by omega)),show s+1+i=s+(i+1) by omega,show s+1+j=s+(j+1) by omega]
    exact I.cyc (i+1) (j+1) (by omega) ej
   ·have ejl:j=Ls.length-1:=by omega
    rw [ejl,hkk,keyNew]
    by_cases ei:i+1<Ls.length
    ·rw [keyOld _ (hne' i ei)]
     have:=hmost ((s+1+i) % Ls.length) (Nat.mod_lt _ I.pos)
     omega
    ·rw [show i=Ls.length-1 by omega,hkk,keyNew];exact Int.le_refl _
  ·by_cases e:l.getD a 0=most
   ·have eo:out'=out++[most]:=if_pos e
    rw [eo] at hx
    have:=n2 e
    rcases List.mem_append.1 hx with hx | hx
    ·have:=I.olt x hx;omega
    ·rw [List.mem_singleton] at hx;omega
   ·have eo:out'=out:=if_neg e
    rw [eo] at hx
    have:=I.olt x hx;omega
  ·rcases hback x hx with h | ⟨hm,j,hj,e,hj2⟩
   ·exact .inl h
   ·refine .inr fun i hi=>?_
    by_cases ei:i=k
    ·rw [ei,keyNew,bb hlt',← e]
     rcases Nat.lt_or_ge a' j with h | h
     ·exact Int.le_of_lt (iL hla h hj)
     ·have:j=a':=by omega
      subst this;exact Int.le_refl _
    ·rw [keyOld i ei]
     have:=hmost i hi;omega
def kB (Ls:aD) (A:List Nat):Nat:=(List.zipWith (fun l a=>l.length-a) Ls A).sum
theorem rt:∀ (Ls:aD) (A:List Nat) (k a':Nat),k<Ls.length→A.length=Ls.length→(Ls.getD k []).length-a'<(Ls.getD k []).length-A.getD k 0→kB Ls (A.set k a')<kB Ls A
 | [],_,_,_,h,_,_=>absurd h (by simp)
 | _ :: _,[],_,_,_,h,_=>absurd h (by simp)
 | l :: Ls,a :: A,0,a',_,_,h=>by
  unfold kB
  simp only [List.set_cons_zero,List.zipWith_cons_cons,List.sum_cons]
  simp only [List.getD_cons_zero] at h
  omega
 | l :: Ls,a :: A,k+1,a',h1,h2,h=>by
  have:=rt Ls A k a' (by simpa using h1) (by simpa using h2) (by simpa using h)
  unfold kB at this ⊢
  simp only [List.set_cons_succ,List.zipWith_cons_cons,List.sum_cons]
  omega
theorem n8 {Ls:aD}:∀ (m:Nat) (A:List Nat) (most:Int) (out:List Int) (s:Nat),LInv Ls A most out s→kB Ls A<m →
  dH (lL Ls m A most out s).1∧(∀ x,x∈(lL Ls m A most out s).1↔∀ l∈Ls,x∈l)∧(lL Ls m A most out s).2≤s+m
 | 0,_,_,_,_,_,h=>absurd h (by omega)
 | m+1,A,most,out,s,I,h=>by
  obtain ⟨hk,ha,hgt,hle,h1,h2⟩:=uG I
  rw [lL]
  by_cases he:lkA Ls A most s=(lkL Ls s).length
  ·rw [if_pos he]
   obtain ⟨g1,g2⟩:=h1 he
   exact ⟨g1,g2,by show s+1≤_;omega⟩
  ·rw [if_neg he]
   have hr:=rt Ls A (s % Ls.length) (lkA Ls A most s) hk I.len (by
    have h3:lkP Ls A s<(lkL Ls s).length:=ha
    have h4:lkP Ls A s<lkA Ls A most s:=hgt
    show (lkL Ls s).length-lkA Ls A most s<(lkL Ls s).length-lkP Ls A s
    omega)
   obtain ⟨g1,g2,g3⟩:=n8 m _ _ _ (s+1) (h2 he) (by omega)
   exact ⟨g1,g2,by omega⟩
end Go.Proofs.Ytnipkopfefkojaa
namespace Go.Proofs.Ytnipkopfefkojaa
open Go.RowKit

theorem wi {α:Type} {xs:List α} {k:Nat} {n v:α}:v∈xs.take k++[n]++xs.drop k↔v∈xs∨v=n:=by
 have:v∈xs↔v∈xs.take k∨v∈xs.drop k:=by
  rw [← List.mem_append,List.take_append_drop]
 rw [this,List.mem_append,List.mem_append,List.mem_singleton]
 constructor
 ·rintro ((h | h) | h)
  ·exact .inl (.inl h)
  ·exact .inr h
  ·exact .inl (.inr h)
 ·rintro ((h | h) | h)
  ·exact .inl (.inl h)
  ·exact .inr h
  ·exact .inl (.inr h)
theorem wR {out:List Int} {n:Int} (h:dH out) (hn:n∉out):dH (out.take (dJ out 0 n)++[n]++out.drop (dJ out 0 n)):=by
 have hle:=ov (l:=out) (a:=0) (v:=n) (Nat.zero_le _)
 rw [List.append_assoc,List.singleton_append]
 have h0:=h
 rw [← List.take_append_drop (dJ out 0 n) out] at h0
 obtain ⟨p1,p2,p3⟩:=List.pairwise_append.1 h0
 have hlt:∀ x∈out.take (dJ out 0 n),x<n:=fun x hx=>by
  obtain ⟨j,hj,rfl⟩:=List.getElem_of_mem hx
  rw [List.length_take] at hj
  rw [List.getElem_take]
  exact mH (by omega) (Nat.zero_le _) (by omega)
 have hgt:∀ y∈out.drop (dJ out 0 n),n<y:=fun y hy=>by
  obtain ⟨j,hj,rfl⟩:=List.getElem_of_mem hy
  rw [List.length_drop] at hj
  rw [List.getElem_drop]
  have hs:=mL (l:=out) (a:=0) (v:=n) (by omega)
  rw [bb (by omega)] at hs
  have hne:out[dJ out 0 n+j]≠n:=fun e=>hn (by rw [← e];exact List.getElem_mem _)
  by_cases e:j=0
  ·subst e
   simp only [Nat.add_zero] at hne ⊢
   omega
  ·have:=iL h (show dJ out 0 n<dJ out 0 n+j by omega) (by omega)
   omega
 refine List.pairwise_append.2 ⟨p1,List.pairwise_cons.2 ⟨hgt,p2⟩,fun x hx y hy=>?_⟩
 have hx':=hlt x hx
 rcases List.mem_cons.1 hy with rfl | hy
 ·exact hx'
 ·have:=hgt y hy;omega
theorem vQ {a:List Int} (h:dH a) (hb:∀ v∈a,0≤v∧v<5):aX a []=a :=
 lg (jf a []) h fun v=>by
  rw [eB]
  constructor
  ·rintro ⟨_,h | h⟩
   ·exact h
   ·simp at h
  ·exact fun h=>⟨hb v h,.inl h⟩
theorem tD {xs:List Int} {i:Nat} (h:i<xs.length) (v:Int):v∈xs.take (i+1)↔v∈xs.take i∨v=xs[i]:=by
 rw [List.take_succ_eq_append_getElem h,List.mem_append,List.mem_singleton]
def gP (va vb:List Int) (i:Nat):List Int:=(va.take i).filter fun v=>decide (v∈vb)
theorem tz {va vb:List Int} {i:Nat} (h:i<va.length):gP va vb (i+1)=bif decide (va[i]∈vb) then gP va vb i++[va[i]] else gP va vb i:=by
 unfold gP
 rw [List.take_succ_eq_append_getElem h,List.filter_append]
 simp only [List.filter_cons,List.filter_nil]
 cases decide (va[i]∈vb) <;> simp
theorem u7 (va vb:List Int) (i:Nat):(gP va vb i).length≤i:=by
 unfold gP
 refine Nat.le_trans (List.length_filter_le _ _) ?_
 rw [List.length_take];omega
section
variable {N:Nat}
theorem rD {xs:List Int} (h:xs.length≤1048576):dC N xs=some xs:=by
 unfold dC
 rw [py (by decide) (by omega),bs]
theorem t9 (hN:1073741824≤N) {out b:List Int} {n c d:Int} (hl:out.length≤1000):d4 N N out n 0 b c d=some ((dJ out 0 n:Nat):Int):=by
 have h:=wY (fun k i=>d4 N k out n i b c d) out (fun x=>decide (x<n))
  (fun k i h=>by
   show d4 N (k+1) out n (i:Int) b c d=_
   rw [d4,dlt h,cond_true,aT h,bs,ad1 (by omega),bs])
  (fun k=>by
   show d4 N (k+1) out n (out.length:Int) b c d=_
   rw [d4,dge (by omega),cond_false]) N 0 (by omega) (by omega)
 exact h
theorem vN (hN:1073741824≤N) {a b:List Int} (ha:dH a) (hba:∀ v∈a,0≤v∧v<5) (hbb:∀ v∈b,0≤v∧v<5) (hla:a.length≤1000) (hlb:b.length≤1000):jS N a b=some (aX a b):=by
 have h:=fm (fun k (o:List Int) i=>cN N k o b (b.length:Int) i) b.length (fun i=>aX a (b.take i)) (aX a b,(b.length:Int))
  (fun k i h=>by
   have hul:=j4 a (b.take i)
   have hle:=ov (l:=aX a (b.take i)) (a:=0) (v:=b[i]) (Nat.zero_le _)
   show cN N (k+1) (aX a (b.take i)) b (b.length:Int) (i:Int)=cN N k (aX a (b.take (i+1))) b (b.length:Int) ((i+1:Nat):Int)
   have hmem:∀ v,v∈aX a (b.take (i+1))↔v∈aX a (b.take i)∨v=b[i]:=fun v=>by
    rw [eB,eB,tD h]
    constructor
    ·rintro ⟨h1,h2 | h2 | h2⟩
     ·exact .inl ⟨h1,.inl h2⟩
     ·exact .inl ⟨h1,.inr h2⟩
     ·exact .inr h2
    ·rintro (⟨h1,h2 | h2⟩ | h2)
     ·exact ⟨h1,.inl h2⟩
     ·exact ⟨h1,.inr (.inl h2)⟩
     ·exact ⟨by rw [h2];exact hbb _ (List.getElem_mem h),.inr (.inr h2)⟩
   have hin:b[i]∈aX a (b.take i)→aX a (b.take (i+1))=aX a (b.take i):=fun hm=>lg (jf _ _) (jf _ _) fun v=>by
    rw [hmem]
    exact ⟨fun h=>h.elim id fun e=>e ▸ hm,.inl⟩
   have hout:b[i]∉aX a (b.take i)→aX a (b.take (i+1))=(aX a (b.take i)).take (dJ (aX a (b.take i)) 0 b[i])++[b[i]]++(aX a (b.take i)).drop (dJ (aX a (b.take i)) 0 b[i]):=fun hm=>lg (jf _ _) (wR (jf _ _) hm) fun v=>by
    rw [hmem,wi]
   generalize hk:dJ (aX a (b.take i)) 0 b[i]=kk at hout hle
   have hins:∀ {α:Type} (f:List Int→Option α),b[i]∉aX a (b.take i)→((slc (aX a (b.take i)) 0 (kk:Int)).bind fun x=>(slc (aX a (b.take i)) (kk:Int) ((aX a (b.take i)).length:Int)).bind fun y=>(dC N x).bind fun z=>(apd 8 z [b[i]]).bind fun w=>(apd 8 w y).bind f)=f (aX a (b.take (i+1))):=fun f hm=>by
    rw [yg hle,bs,iG hle (Nat.le_refl _),bs,rD (by rw [List.length_take];omega),bs,bt (by decide) (by simp;omega),bs,bt (by decide) (by simp;omega),bs,hout hm,List.take_length]
   rw [cN,dlt h,cond_true,aT h,bs,t9 hN (by omega),bs,lpB,hk]
   show (bif ((kk:Int) == ((aX a (b.take i)).length:Int)) then _ else _)=_
   by_cases e:kk=(aX a (b.take i)).length
   ·have hm:b[i]∉aX a (b.take i):=fun hm=>by
     obtain ⟨j,hj,ej⟩:=oR hm
     have:=mH (l:=aX a (b.take i)) (a:=0) (v:=b[i]) hj (Nat.zero_le _) (by omega)
     omega
    rw [show ((kk:Int) == ((aX a (b.take i)).length:Int))=true by rw [e];simp,cond_true]
    refine Eq.trans (hins (fun x=>(ad (i:Int) 1).bind fun y=>cN N k x b (b.length:Int) y) hm) ?_
    rw [ad1 (by omega),bs]
   ·have hlt:kk<(aX a (b.take i)).length:=by omega
    rw [show ((kk:Int) == ((aX a (b.take i)).length:Int))=false by simp;omega,cond_false,aT hlt,bs]
    by_cases e2:(aX a (b.take i))[kk]=b[i]
    ·rw [show ((aX a (b.take i))[kk] != b[i])=false by simpa using e2,cond_false,ad1 (by omega),bs,hin (by rw [← e2];exact List.getElem_mem hlt)]
    ·have hm:b[i]∉aX a (b.take i):=fun hm=>by
      obtain ⟨j,hj,ej⟩:=oR hm
      have hs:=mL (l:=aX a (b.take i)) (a:=0) (v:=b[i]) (by omega)
      rw [hk,bb hlt] at hs
      rcases Nat.lt_trichotomy j kk with hjk | hjk | hjk
      ·have:=mH (l:=aX a (b.take i)) (a:=0) (v:=b[i]) hj (Nat.zero_le _) (by omega)
       omega
      ·subst hjk;exact e2 ej
      ·have:=iL (jf a (b.take i)) hjk hj
       omega
     rw [show ((aX a (b.take i))[kk] != b[i])=true by simpa using e2,cond_true]
     refine Eq.trans (hins (fun x=>(ad (i:Int) 1).bind fun y=>cN N k x b (b.length:Int) y) hm) ?_
     rw [ad1 (by omega),bs])
  (fun k=>by
   show cN N (k+1) (aX a (b.take b.length)) b (b.length:Int) (b.length:Int)=_
   rw [cN,dge (by omega),cond_false,List.take_length]) N 0 (by omega) (by omega)
 rw [List.take_zero,vQ ha hba] at h
 have h':cN N N a b (b.length:Int) 0=_:=h
 unfold jS
 rw [rD (by omega),bs,h',bs,lpB]
theorem s4 (hN:1073741824≤N) {a b:List Int} (hla:a.length≤1000) (hlb:b.length≤1000):iC N a b=some (aX a b):=by
 have h:=fm (fun k (o:List Int) i=>cM N k a b o i) 5 (ky a b) (aX a b,5)
  (fun k i h=>by
   have hl:=qR a b i
   have e:ky a b (i+1)=bif decide ((i:Int)∈a)||decide ((i:Int)∈b) then ky a b i++[(i:Int)] else ky a b i:=by
    unfold ky
    rw [nw,List.filter_append]
    simp only [List.filter_cons,List.filter_nil]
    cases (decide ((i:Int)∈a)||decide ((i:Int)∈b)) <;> simp
   show cM N (k+1) a b (ky a b i) (i:Int)=cM N k a b (ky a b (i+1)) ((i+1:Nat):Int)
   rw [cM,decide_eq_true (by omega),cond_true,gM hN (by omega),bs,gM hN (by omega),el,ad1 (by omega),e]
   cases decide ((i:Int)∈a) with
   | true=>rw [cond_true,Bool.true_or,cond_true,bt (by decide) (by simp;omega),bs,bs]
   | false =>
    rw [cond_false,Bool.false_or,bs,el]
    cases decide ((i:Int)∈b) with
    | true=>rw [cond_true,cond_true,bt (by decide) (by simp;omega),bs,bs]
    | false=>rw [cond_false,cond_false,bs])
  (fun k=>by
   show cM N (k+1) a b (ky a b 5) ((5:Nat):Int)=_
   rw [cM,decide_eq_false (by omega),cond_false];rfl) N 0 (by omega) (by omega)
 have h':cM N N a b [] 0=_:=h
 unfold iC
 rw [h',bs,lpB]
theorem ta (hN:1073741824≤N) {a b:List Int} {n m:Int} {ra rb:aD} (hn:a.Nodup) (hla:a.length≤1000) (hlb:b.length≤1000):iw N a n ra b m rb=some ((dz a b).map (aY a),(dz a b).map (aY b)):=by
 have h:=fm (fun k (s:List Int × List Int) i=>cn N k a n ra b m rb s.1 s.2 i) a.length (fun i=>((gP a b i).map (aY a),(gP a b i).map (aY b))) ((dz a b).map (aY a),(dz a b).map (aY b),(a.length:Int))
  (fun k i h=>by
   have hl:=u7 a b i
   show cn N (k+1) a n ra b m rb ((gP a b i).map (aY a)) ((gP a b i).map (aY b)) (i:Int)=cn N k a n ra b m rb ((gP a b (i+1)).map (aY a)) ((gP a b (i+1)).map (aY b)) ((i+1:Nat):Int)
   rw [cn,dlt h,cond_true,aT h,bs,gM hN (by omega),bs,el,ad1 (by omega),tz h]
   cases decide (a[i]∈b) with
   | true =>
    rw [cond_true,cond_true,bt (by decide) (by simp;omega),bs,bt (by decide) (by simp;omega),bs,bs,List.map_append,List.map_append]
    show cn N k a n ra b m rb (_++[(i:Int)]) _ _=cn N k a n ra b m rb (_++[aY a a[i]]) _ _
    rw [lb hn h];rfl
   | false=>rw [cond_false,cond_false,bs])
  (fun k=>by
   show cn N (k+1) a n ra b m rb ((gP a b a.length).map (aY a)) ((gP a b a.length).map (aY b)) (a.length:Int)=_
   rw [cn,dge (by omega),cond_false]
   unfold gP
   rw [List.take_length];rfl) N 0 (by omega) (by omega)
 have h':cn N N a n ra b m rb [] [] 0=_:=h
 unfold iw
 rw [h',bs,lpB]
theorem ixF {r vs:List Int} {v:Int} (hv:v∈vs) (hl:r.length=vs.length):ix r (aY vs v)=some (r.getD (aY vs v).toNat 0):=by
 obtain ⟨j,hj,hj2⟩:=gl hv
 rw [hj,show ((j:Nat):Int).toNat=j from rfl,aT (by omega),bb (by omega)]
theorem wI (hN:1073741824≤N) {va vb r s:List Int} (hla:va.length≤1000) (hlb:vb.length≤1000) (hr:r.length=va.length) (hs:s.length=vb.length) :
  ku N (aX va vb) va r vb s=some (bif gd va r vb s then (fJ va r vb s,true) else ([],false)):=by
 have hul:=j4 va vb
 have h:=pp (fun k (o:List Int) i=>df N k va r vb s o (aX va vb) ((aX va vb).length:Int) i) (aX va vb).length (([]:List Int),false) (fun i=>if h:i<(aX va vb).length then me va r vb s (aX va vb)[i] else true) (fun i=>((aX va vb).take i).map (f5 va r vb s)) (fJ va r vb s,((aX va vb).length:Int))
  (fun k i h=>by
   have hm:=(eB.1 (List.getElem_mem h)).2
   show df N (k+1) va r vb s (((aX va vb).take i).map (f5 va r vb s)) (aX va vb) ((aX va vb).length:Int) (i:Int)=bif (if h:i<(aX va vb).length then me va r vb s (aX va vb)[i] else true) then df N k va r vb s (((aX va vb).take (i+1)).map (f5 va r vb s)) (aX va vb) ((aX va vb).length:Int) ((i+1:Nat):Int) else some (.inl ([],false))
   rw [dif_pos h,df,dlt h,cond_true,aT h,bs,kH hN (by omega),bs,kH hN (by omega),bs,el,el,ad1 (by omega),List.take_succ_eq_append_getElem h,List.map_append]
   generalize (aX va vb)[i]=v at hm
   unfold me
   by_cases h1:v∈va
   ·rw [decide_eq_true h1,cond_true,ixF h1 hr,Bool.true_and]
    have e1:f5 va r vb s v=r.getD (aY va v).toNat 0:=by unfold f5;rw [if_pos h1]
    by_cases h2:v∈vb
    ·rw [decide_eq_true h2,cond_true,bs,ixF h2 hs,bs,Bool.not_true,Bool.false_or]
     by_cases e:r.getD (aY va v).toNat 0=s.getD (aY vb v).toNat 0
     ·rw [show (r.getD (aY va v).toNat 0 != s.getD (aY vb v).toNat 0)=false by simpa using e,cond_false,decide_eq_true e,cond_true,bs,bt (by decide) (by simp;omega),bs,bs,← e1];rfl
     ·rw [show (r.getD (aY va v).toNat 0 != s.getD (aY vb v).toNat 0)=true by simpa using e,cond_true,decide_eq_false e,cond_false]
    ·rw [decide_eq_false h2,cond_false,Bool.not_false,Bool.true_or,cond_true,bs,bt (by decide) (by simp;omega),bs,bs,← e1];rfl
   ·have h2:v∈vb:=hm.resolve_left h1
    have e1:f5 va r vb s v=s.getD (aY vb v).toNat 0:=by unfold f5;rw [if_neg h1]
    rw [decide_eq_false h1,cond_false,Bool.false_and,Bool.not_false,Bool.true_or,cond_true,ixF h2 hs,bs,bt (by decide) (by simp;omega),bs,bs,← e1];rfl)
  (fun k=>by
   show df N (k+1) va r vb s (((aX va vb).take (aX va vb).length).map (f5 va r vb s)) (aX va vb) ((aX va vb).length:Int) ((aX va vb).length:Int)=_
   rw [df,dge (by omega),cond_false,List.take_length];rfl) N 0 (by omega) (by omega)
 rw [Nat.sub_zero,gk (aX va vb) (me va r vb s) _ (fun i hi=>by rw [dif_pos hi])] at h
 have h':df N N va r vb s [] (aX va vb) ((aX va vb).length:Int) 0=some (bif gd va r vb s then .inr (fJ va r vb s,((aX va vb).length:Int)) else .inl ([],false)):=h
 unfold ku
 rw [h',bs]
 cases gd va r vb s <;> rfl
end
end Go.Proofs.Ytnipkopfefkojaa
namespace Go.Proofs.Ytnipkopfefkojaa
open Go.RowKit

abbrev VR:=List Int × (Int × aD)
def pv (va vb:List Int) (ra rb:aD):VR × Bool:=bif decide (((cm va vb ra rb).length:Int)≤4000) then ((aX va vb,((aX va vb).length:Int),bh 20 (cm va vb ra rb)),true) else (([],0,[]),false)
def eH (va vb:List Int) (ra rb:aD) (i:Nat):aD:=cm va vb (ra.take i) rb
theorem oO {va vb:List Int} {ra rb:aD} {i:Nat} (h:i<ra.length):eH va vb ra rb (i+1)=eH va vb ra rb i++fW va vb rb ra[i]:=by
 unfold eH cm
 rw [List.take_succ_eq_append_getElem h,List.flatMap_append];simp
def gF (va r vb:List Int) (rb:aD) (j:Nat):aD:=((rb.take j).filter fun s=>gd va r vb s).map (fJ va r vb)
theorem pH {va r vb:List Int} {rb:aD} {j:Nat} (h:j<rb.length):gF va r vb rb (j+1)=bif gd va r vb rb[j] then gF va r vb rb j++[fJ va r vb rb[j]] else gF va r vb rb j:=by
 unfold gF
 rw [List.take_succ_eq_append_getElem h,List.filter_append,List.map_append]
 simp only [List.filter_cons,List.filter_nil]
 cases gd va r vb rb[j] <;> simp
theorem qK (va r vb:List Int) (rb:aD) (j:Nat):(gF va r vb rb j).length≤j:=by
 unfold gF
 rw [List.length_map]
 refine Nat.le_trans (List.length_filter_le _ _) ?_
 rw [List.length_take];omega
theorem qX (va r vb:List Int) (rb:aD):gF va r vb rb rb.length=fW va vb rb r:=by unfold gF fW;rw [List.take_length]
theorem tJ {va vb:List Int} {ra rb:aD} {i:Nat} (h:i≤ra.length):(eH va vb ra rb i).length≤(cm va vb ra rb).length:=by
 unfold eH cm
 have:ra.flatMap (fW va vb rb)=(ra.take i).flatMap (fW va vb rb)++(ra.drop i).flatMap (fW va vb rb):=by rw [← List.flatMap_append,List.take_append_drop]
 rw [this,List.length_append];omega
theorem pR (va vb:List Int) (ra rb:aD) (i:Nat):(eH va vb ra rb i).length≤i*rb.length:=by
 have h1:=qh va vb (ra.take i) rb
 have h2:=Nat.mul_le_mul_right rb.length (show (ra.take i).length≤i by rw [List.length_take];omega)
 unfold eH;omega
section
variable {N:Nat}
theorem wc (hN:1073741824≤N) {vs:List Int} {rows:aD} (h:VRel vs rows):dc N vs (vs.length:Int) rows=some true:=by
 have hl:=h.len
 have h':=ge (L:=fun k i=>bE N k vs (vs.length:Int) rows vs (vs.length:Int) i) vs.length (by omega) false (fun _=>true) (vs.length:Int)
  (fun k i hi=>by
   have hb:=h.bd _ (List.getElem_mem hi)
   show bE N (k+1) vs (vs.length:Int) rows vs (vs.length:Int) (i:Int)=_
   rw [bE,dlt hi,cond_true,aT hi,bs,gh,bs,cJ.2 (show 0≤vs[i]∧vs[i]≤4 by omega),cond_true,cond_true,ad1 (by omega)]
   cases i with
   | zero=>rfl
   | succ i =>
    have:=iL h.asc (show i<i+1 by omega) hi
    rw [decide_eq_true (by omega),cond_true,gm (by omega) (by omega),bs,show (((i+1:Nat):Int)-1)=(i:Int) by omega,aT (by omega),bs,decide_eq_false (by omega),cond_false,bs])
  (fun k=>by
   show bE N (k+1) vs (vs.length:Int) rows vs (vs.length:Int) (vs.length:Int)=_
   rw [bE,dge (by omega),cond_false]) N 0 (by omega) (by omega)
 have e:bE N N vs (vs.length:Int) rows vs (vs.length:Int) 0=some (bif (List.range' 0 (vs.length-0)).all (fun _=>true) then .inr (vs.length:Int) else .inl false):=h'
 rw [show (List.range' 0 (vs.length-0)).all (fun _=>true)=true by simp,cond_true] at e
 unfold dc
 rw [e,bs,nI,eI hN (mr h.val),bs,h.val,cond_true]
 simp
theorem v9 (hN:1073741824≤N) {vs:List Int} {rows:aD} (h:VRel vs rows):db N vs (vs.length:Int) rows=some true:=by
 have hl:=h.len
 have h':=ge (L:=fun k i=>bD N k vs (vs.length:Int) rows i) vs.length (by omega) false (fun _=>true) (vs.length:Int)
  (fun k i hi=>by
   have hb:=h.bd _ (List.getElem_mem hi)
   show bD N (k+1) vs (vs.length:Int) rows (i:Int)=_
   rw [bD,dlt hi,cond_true,aT hi,bs,hU,bs,cJ.2 (show 0≤vs[i]∧vs[i]≤4 by omega),cond_true,cond_true,ad1 (by omega)]
   cases i with
   | zero=>rfl
   | succ i =>
    have:=iL h.asc (show i<i+1 by omega) hi
    rw [decide_eq_true (by omega),cond_true,bs,gm (by omega) (by omega),bs,show (((i+1:Nat):Int)-1)=(i:Int) by omega,aT (by omega),bs,decide_eq_false (by omega),cond_false,bs])
  (fun k=>by
   show bD N (k+1) vs (vs.length:Int) rows (vs.length:Int)=_
   rw [bD,dge (by omega),cond_false]) N 0 (by omega) (by omega)
 have e:bD N N vs (vs.length:Int) rows 0=some (bif (List.range' 0 (vs.length-0)).all (fun _=>true) then .inr (vs.length:Int) else .inl false):=h'
 rw [show (List.range' 0 (vs.length-0)).all (fun _=>true)=true by simp,cond_true] at e
 unfold db
 rw [e,bs,nI,eG hN (mr h.val),bs,h.val,cond_true]
 simp
theorem wm (hN:1073741824≤N) {va vb r:List Int} {ra rb rows b4 b6:aD} {n m b5 b7 b8:Int} {b3:List Int} (hla:va.length≤1000) (B:VRel vb rb) (hr:r.length=va.length) (hrows:rows.length≤1073741824) :
  bQ N N va n ra vb m rb b3 b5 b4 (aX va vb) rows r b6 b7 b8 rb (rb.length:Int) 0=some (rows++fW va vb rb r,(rb.length:Int)):=by
 have hlb:=B.len
 have hl:=(bu B.val).2.2.1
 have h:=fm (fun k (o:aD) i=>bQ N k va n ra vb m rb b3 b5 b4 (aX va vb) o r b6 b7 b8 rb (rb.length:Int) i) rb.length (fun j=>rows++gF va r vb rb j) (rows++fW va vb rb r,(rb.length:Int))
  (fun k i h=>by
   have hs:=(B.row (List.getElem_mem h)).1
   have hrl:=qK va r vb rb i
   show bQ N (k+1) va n ra vb m rb b3 b5 b4 (aX va vb) (rows++gF va r vb rb i) r b6 b7 b8 rb (rb.length:Int) (i:Int)=bQ N k va n ra vb m rb b3 b5 b4 (aX va vb) (rows++gF va r vb rb (i+1)) r b6 b7 b8 rb (rb.length:Int) ((i+1:Nat):Int)
   rw [bQ,dlt h,cond_true,aT h,bs,wI hN hla (by omega) hr hs,bs,ad1 (by omega),pH h]
   cases gd va r vb rb[i] with
   | true =>
    rw [cond_true]
    show ((apd 24 _ [fJ va r vb rb[i]]).bind _)=_
    rw [bt (by decide) (by rw [List.length_append,List.length_singleton];omega),bs,bs,List.append_assoc,cond_true]
   | false=>rw [cond_false,cond_false];rfl)
  (fun k=>by
   show bQ N (k+1) va n ra vb m rb b3 b5 b4 (aX va vb) (rows++gF va r vb rb rb.length) r b6 b7 b8 rb (rb.length:Int) (rb.length:Int)=_
   rw [bQ,dge (by omega),cond_false,qX]) N 0 (by omega) (by omega)
 have h0:rows++gF va r vb rb 0=rows:=by show rows++[]=rows;rw [List.append_nil]
 have h':bQ N N va n ra vb m rb b3 b5 b4 (aX va vb) (rows++gF va r vb rb 0) r b6 b7 b8 rb (rb.length:Int) 0=_:=h
 rw [h0] at h'
 exact h'
theorem wH (hN:1073741824≤N) {va vb:List Int} {ra rb b4:aD} {n m b5:Int} {b3:List Int} (A:VRel va ra) (B:VRel vb rb) :
  cP N N va n ra vb m rb b3 b5 b4 (aX va vb) [] ra (ra.length:Int) 0=some (bif decide (((cm va vb ra rb).length:Int)≤4000) then .inr (cm va vb ra rb,(ra.length:Int)) else .inl (([],0,[]),false)):=by
 have hla:=A.len
 have hl:=(bu A.val).2.2.1
 have hlb:=(bu B.val).2.2.1
 have h:=pp (fun k (o:aD) i=>cP N k va n ra vb m rb b3 b5 b4 (aX va vb) o ra (ra.length:Int) i) ra.length (((([],0,[]):VR),false)) (fun i=>decide (((eH va vb ra rb (i+1)).length:Int)≤4000)) (eH va vb ra rb) (cm va vb ra rb,(ra.length:Int))
  (fun k i h=>by
   have hr:=(A.row (List.getElem_mem h)).1
   have hjl:=pR va vb ra rb i
   have hmul:=Nat.mul_le_mul (show i≤4000 by omega) hlb
   show cP N (k+1) va n ra vb m rb b3 b5 b4 (aX va vb) (eH va vb ra rb i) ra (ra.length:Int) (i:Int)=_
   rw [cP,dlt h,cond_true,aT h,bs,wm hN (by omega) B hr (by omega),bs,lpB,← oO h]
   show (bif decide ((4000:Int)<((eH va vb ra rb (i+1)).length:Int)) then _ else _)=_
   by_cases e:((eH va vb ra rb (i+1)).length:Int)≤4000
   ·rw [decide_eq_true e,cond_true,decide_eq_false (by omega),cond_false,ad1 (by omega),bs]
   ·rw [decide_eq_false e,cond_false,decide_eq_true (by omega),cond_true])
  (fun k=>by
   show cP N (k+1) va n ra vb m rb b3 b5 b4 (aX va vb) (eH va vb ra rb ra.length) ra (ra.length:Int) (ra.length:Int)=_
   rw [cP,dge (by omega),cond_false]
   unfold eH
   rw [List.take_length]) N 0 (by omega) (by omega)
 have hall:(List.range' 0 (ra.length-0)).all (fun i=>decide (((eH va vb ra rb (i+1)).length:Int)≤4000))=decide (((cm va vb ra rb).length:Int)≤4000):=by
  rw [Bool.eq_iff_iff,List.all_eq_true,decide_eq_true_eq]
  have hfull:eH va vb ra rb ra.length=cm va vb ra rb:=by unfold eH;rw [List.take_length]
  constructor
  ·intro hh
   cases hra:ra.length with
   | zero =>
    have:ra=[]:=List.length_eq_zero_iff.1 hra
    subst this
    simp [cm]
   | succ j =>
    have:=hh j (by simp;omega)
    rw [decide_eq_true_eq,← hra,hfull] at this
    exact this
  ·intro hh i hi
   have hi':i<ra.length:=by simpa using hi
   have:=tJ (va:=va) (vb:=vb) (ra:=ra) (rb:=rb) (i:=i+1) (by omega)
   rw [decide_eq_true_eq];omega
 rw [hall] at h
 exact h
theorem pf {va vb:List Int} {ra rb:aD} (A:VRel va ra) (B:VRel vb rb) (h16:ra.length*rb.length≤1048576):dB (cm va vb ra rb):=by
 have hu:=j4 va vb
 exact ⟨Nat.le_trans (qh va vb ra rb) h16,fun r hr=>⟨by have:=(nG A B r hr).1;omega,fun _ _=>trivial⟩⟩
theorem nc (hM:1073742848≤N) {va vb:List Int} {ra rb:aD} (A:VRel va ra) (B:VRel vb rb) (h16:ra.length*rb.length≤1048576):fV N va (va.length:Int) ra vb (vb.length:Int) rb=some (pv va vb ra rb):=by
 have hok:=pf A B h16
 have hla:=A.len;have hlb:=B.len
 have hl:=hok.1
 unfold fV pv
 rw [wc (by omega) A,bs,cond_true,wc (by omega) B,bs,cond_true,vN (by omega) A.asc A.bd B.bd (by omega) (by omega),bs,wH (by omega) A B,bs]
 cases decide (((cm va vb ra rb).length:Int)≤4000) with
 | false=>rfl
 | true =>
  rw [cond_true,nI,cond_true]
  show ((c8 N (cm va vb ra rb)).bind _)=_
  rw [nm 20 N _ (by omega) (by omega) hok,bs]
theorem wC (hN:1073741824≤N) {va vb x y:List Int} {ra rb rows b3:aD} {n m b4:Int} {b2:List Int} {i j:Nat} (A:VRel va ra) (B:VRel vb rb) (hi:i<ra.length) (hj:j<rb.length) :
  cb N N va n ra vb m rb b2 b4 b3 x y (aX va vb) rows (i:Int) (j:Int) [] 0=some (fJ va ra[i] vb rb[j],((aX va vb).length:Int)):=by
 have hul:=j4 va vb
 have hla:=A.len;have hlb:=B.len
 have hr:=(A.row (List.getElem_mem hi)).1
 have hs:=(B.row (List.getElem_mem hj)).1
 exact fm (fun k (o:List Int) t=>cb N k va n ra vb m rb b2 b4 b3 x y (aX va vb) rows (i:Int) (j:Int) o t) (aX va vb).length (fun t=>((aX va vb).take t).map (f5 va ra[i] vb rb[j])) (fJ va ra[i] vb rb[j],((aX va vb).length:Int))
  (fun k t h=>by
   have hm:=(eB.1 (List.getElem_mem h)).2
   show cb N (k+1) va n ra vb m rb b2 b4 b3 x y (aX va vb) rows (i:Int) (j:Int) (((aX va vb).take t).map (f5 va ra[i] vb rb[j])) (t:Int)=cb N k va n ra vb m rb b2 b4 b3 x y (aX va vb) rows (i:Int) (j:Int) (((aX va vb).take (t+1)).map (f5 va ra[i] vb rb[j])) ((t+1:Nat):Int)
   rw [cb,dlt h,cond_true,aT h,bs,gM hN (by omega),bs,el,ad1 (by omega),List.take_succ_eq_append_getElem h,List.map_append,aT hi,aT hj]
   generalize (aX va vb)[t]=v at hm
   by_cases h1:v∈va
   ·have e1:f5 va ra[i] vb rb[j] v=ra[i].getD (aY va v).toNat 0:=by unfold f5;rw [if_pos h1]
    rw [decide_eq_true h1,cond_true,bs,ixF h1 hr,bs,bt (by decide) (by simp;omega),bs,bs,← e1];rfl
   ·have h2:v∈vb:=hm.resolve_left h1
    have e1:f5 va ra[i] vb rb[j] v=rb[j].getD (aY vb v).toNat 0:=by unfold f5;rw [if_neg h1]
    rw [decide_eq_false h1,cond_false,bs,bs,gM hN (by omega),bs,ixF h2 hs,bs,bt (by decide) (by simp;omega),bs,bs,← e1];rfl)
  (fun k=>by
   show cb N (k+1) va n ra vb m rb b2 b4 b3 x y (aX va vb) rows (i:Int) (j:Int) (((aX va vb).take (aX va vb).length).map (f5 va ra[i] vb rb[j])) ((aX va vb).length:Int)=_
   rw [cb,dge (by omega),cond_false,List.take_length];rfl) N 0 (by omega) (by omega)
theorem wU (va vb:List Int):(dz va vb).length≤va.length:=List.length_filter_le _ _
theorem rN {va vb r:List Int} {w:List Int} (hw:∀ v∈dz va vb,v∈w) (hl:r.length=w.length):∀ c∈(dz va vb).map (aY w),0≤c∧c<r.length:=by
 intro c hc
 obtain ⟨v,hv,rfl⟩:=List.mem_map.1 hc
 obtain ⟨j,e,hj⟩:=gl (hw v hv)
 omega
theorem qV (va vb w r:List Int):bI r ((dz va vb).map (aY w))=(dz va vb).map fun v=>r.getD (aY w v).toNat 0:=by
 unfold bI;rw [List.map_map];rfl
theorem wF (hN:1073741824≤N) {va vb:List Int} {ra rb rows b3:aD} {n m b4:Int} {b2:List Int} {i:Nat} (A:VRel va ra) (B:VRel vb rb) (hi:i<ra.length) (hrows:rows.length≤1073741824) :
  bP N N va n ra vb m rb b2 b4 b3 ((dz va vb).map (aY va)) ((dz va vb).map (aY vb)) (aX va vb) rows (i:Int) 0=some (rows++fW va vb rb ra[i],(rb.length:Int)):=by
 have hl:=(bu B.val).2.2.1
 have hla:=A.len;have hlb:=B.len
 have hcl:=wU va vb
 have hr:=(A.row (List.getElem_mem hi)).1
 have h:=fm (fun k (o:aD) j=>bP N k va n ra vb m rb b2 b4 b3 ((dz va vb).map (aY va)) ((dz va vb).map (aY vb)) (aX va vb) o (i:Int) j) rb.length (fun j=>rows++gF va ra[i] vb rb j) (rows++fW va vb rb ra[i],(rb.length:Int))
  (fun k j h=>by
   have hs:=(B.row (List.getElem_mem h)).1
   have hrl:=qK va ra[i] vb rb j
   show bP N (k+1) va n ra vb m rb b2 b4 b3 ((dz va vb).map (aY va)) ((dz va vb).map (aY vb)) (aX va vb) (rows++gF va ra[i] vb rb j) (i:Int) (j:Int)=bP N k va n ra vb m rb b2 b4 b3 ((dz va vb).map (aY va)) ((dz va vb).map (aY vb)) (aX va vb) (rows++gF va ra[i] vb rb (j+1)) (i:Int) ((j+1:Nat):Int)
   rw [bP,dlt h,cond_true,aT hi,bs,aT h,bs,nn hN (by rw [List.length_map];omega) (rN (fun v hv=>(List.mem_filter.1 hv).1) hr),bs,nn hN (by rw [List.length_map];omega) (rN (fun v hv=>of_decide_eq_true (List.mem_filter.1 hv).2) hs),bs,eN hN (by rw [gN,List.length_map];omega) (by rw [gN,List.length_map];omega),bs,ox,qV,qV,← ul A.bd,ad1 (by omega),pH h]
   cases gd va ra[i] vb rb[j] with
   | true =>
    rw [Bool.not_true,cond_false,cond_true,wC hN A B hi h,bs,lpB]
    show ((apd 24 _ [fJ va ra[i] vb rb[j]]).bind _)=_
    rw [bt (by decide) (by rw [List.length_append,List.length_singleton];omega),bs,bs,List.append_assoc]
   | false=>rw [Bool.not_false,cond_true,cond_false,bs])
  (fun k=>by
   show bP N (k+1) va n ra vb m rb b2 b4 b3 ((dz va vb).map (aY va)) ((dz va vb).map (aY vb)) (aX va vb) (rows++gF va ra[i] vb rb rb.length) (i:Int) (rb.length:Int)=_
   rw [bP,dge (by omega),cond_false,qX]) N 0 (by omega) (by omega)
 have h0:rows++gF va ra[i] vb rb 0=rows:=by show rows++[]=rows;rw [List.append_nil]
 have h':bP N N va n ra vb m rb b2 b4 b3 ((dz va vb).map (aY va)) ((dz va vb).map (aY vb)) (aX va vb) (rows++gF va ra[i] vb rb 0) (i:Int) 0=_:=h
 rw [h0] at h'
 exact h'
theorem wo (hN:1073741824≤N) {va vb:List Int} {ra rb b3:aD} {n m b4:Int} {b2:List Int} (A:VRel va ra) (B:VRel vb rb) :
  co N N va n ra vb m rb b2 b4 b3 ((dz va vb).map (aY va)) ((dz va vb).map (aY vb)) (aX va vb) [] 0=some (cm va vb ra rb,(ra.length:Int)):=by
 have hl:=(bu A.val).2.2.1
 have hlb:=(bu B.val).2.2.1
 exact fm (fun k (o:aD) i=>co N k va n ra vb m rb b2 b4 b3 ((dz va vb).map (aY va)) ((dz va vb).map (aY vb)) (aX va vb) o i) ra.length (eH va vb ra rb) (cm va vb ra rb,(ra.length:Int))
  (fun k i h=>by
   have hjl:=pR va vb ra rb i
   have hmul:=Nat.mul_le_mul (show i≤4000 by omega) hlb
   show co N (k+1) va n ra vb m rb b2 b4 b3 ((dz va vb).map (aY va)) ((dz va vb).map (aY vb)) (aX va vb) (eH va vb ra rb i) (i:Int)=co N k va n ra vb m rb b2 b4 b3 ((dz va vb).map (aY va)) ((dz va vb).map (aY vb)) (aX va vb) (eH va vb ra rb (i+1)) ((i+1:Nat):Int)
   rw [co,dlt h,cond_true,wF hN A B h (by omega),bs,lpB,← oO h,ad1 (by omega)];rfl)
  (fun k=>by
   show co N (k+1) va n ra vb m rb b2 b4 b3 ((dz va vb).map (aY va)) ((dz va vb).map (aY vb)) (aX va vb) (eH va vb ra rb ra.length) (ra.length:Int)=_
   rw [co,dge (by omega),cond_false]
   unfold eH
   rw [List.take_length]) N 0 (by omega) (by omega)
theorem m8 (hM:1073742848≤N) {va vb:List Int} {ra rb:aD} (A:VRel va ra) (B:VRel vb rb) (h16:ra.length*rb.length≤1048576):fR N va (va.length:Int) ra vb (vb.length:Int) rb=some (pv va vb ra rb):=by
 have hok:=pf A B h16
 have hla:=A.len;have hlb:=B.len
 have hul:=j4 va vb
 unfold fR pv
 rw [v9 (by omega) A,bs,cond_true,v9 (by omega) B,bs,cond_true,ta (by omega) (ju A.asc) (by omega) (by omega),bs,s4 (by omega) (by omega) (by omega),bs,wo (by omega) A B,bs,lpB]
 show ((cq N ((aX va vb).length:Int) (cm va vb ra rb)).bind _)=_
 rw [eJ hM hok,bs,qw (by omega) (nG A B) (sf A B)]
 cases decide (((cm va vb ra rb).length:Int)≤4000) <;> rfl
end
end Go.Proofs.Ytnipkopfefkojaa
namespace Go.Proofs.Ytnipkopfefkojaa
open Go.RowKit

def bX (ts:List ba) (a:aQ):aD:=bh 20 (bB a.2 (bC ts a.1).1.2)
def pjV (ts:List ba):List aQ→List Int→aD→Int→Option (List Int × aD × Int)
 | [],vs,rows,c=>some (vs,rows,c)
 | a :: ats,vs,rows,c=>bif decide (((cm vs (aR a.2) rows (bX ts a)).length:Int)≤4000) then pjV ts ats (aX vs (aR a.2)) (bh 20 (cm vs (aR a.2) rows (bX ts a))) (c+((bh 20 (cm vs (aR a.2) rows (bX ts a))).length:Int)) else none
abbrev pi:=(Int × aD) × Int × Bool
def jM:pi:=((0,[]),0,false)
def pu (out:List Int) (o:Option (List Int × aD × Int)):pi:=match o with | none=>jM | some w=>((fZ (w.1.length:Int) w.2.1 out).1,w.2.2,(fZ (w.1.length:Int) w.2.1 out).2)
def bH (atoms:List aQ):aQ:=atoms.getD 0 (ByteArray.empty,[])
def mf (ts:List ba) (n:Int) (atoms:List aQ) (out:List Int):pi :=
 bif cC ts n atoms out then pu out (pjV ts (atoms.drop 1) (aR (bH atoms).2) (bX ts (bH atoms)) ((bX ts (bH atoms)).length:Int)) else jM
def pjS (l:Nat) (o:Option (List Int × aD × Int)):Sum pi (List Int × Int × aD × Int × Int):=match o with | none=>.inl jM | some w=>.inr (w.1,(w.1.length:Int),w.2.1,w.2.2,(l:Int))
theorem tZ (xs:List Int):dH (aR xs):=List.Pairwise.filter _ (oA 5)
theorem ri (n:Nat):fd (eV n) (n:Int)=true:=pO (oT n) fun x hx=>by have:=l9.1 hx;omega
structure QPair (ts:List ba) (atoms:List aQ):Prop where
 a1:1≤atoms.length
 a4:atoms.length≤4
 al:∀ a∈atoms,a.2.length≤5∧∀ v∈a.2,0≤v∧v<5
 rel:∀ a∈atoms,ki ts a.1 a.2=(((aR a.2).length:Int),bX ts a)∧VRel (aR a.2) (bX ts a)∧(bX ts a).length≤16
theorem mb {ts:List ba} {n:Int} {atoms:List aQ} {out:List Int} (h:cC ts n atoms out=true):QPair ts atoms:=by
 have hq:=h
 unfold cC at hq
 rw [Bool.and_eq_true] at hq
 obtain ⟨n1,n5,_,_⟩:=lx hq.1
 obtain ⟨m,e,q⟩:=sU h (order:=eV n.toNat) (by rw [fS];omega) (by have:=ri n.toNat;rwa [show ((n.toNat:Nat):Int)=n by omega] at this)
 have q5:=q.n5
 refine ⟨q.a1,q.a4,fun a ha=>?_,fun a ha=>?_⟩
 ·obtain ⟨h1,_,h3⟩:=q.al a ha
  exact ⟨h1,fun v hv=>by have:=h3 v hv;omega⟩
 ·obtain ⟨g1,_,_,_,g5⟩:=oD q ha
  refine ⟨g1,⟨tZ a.2,fun v hv=>by have:=(dS.1 hv).1;omega,g5⟩,?_⟩
  have h1:=dx 20 (bB a.2 (bC ts a.1).1.2)
  have h2:=gC a.2 (bC ts a.1).1.2
  have h3:=oE (q.af a ha).1
  unfold bX;omega
section
variable {N:Nat}
theorem jE (hM:1073742848≤N) {ts:List ba} {atoms:List aQ} (q:QPair ts atoms) (ht:gK ts) (ha:du atoms) {a:aQ} (hm:a∈atoms):eF N ts a.1 a.2=some (aR a.2,(((aR a.2).length:Int),bX ts a)):=by
 obtain ⟨l1,l2⟩:=q.al a hm
 have hk:okI a.2:=(ha.2 a hm).2
 unfold eF
 rw [jw (by omega) hk,bs,mR hM ht hk l1 l2,bs,(q.rel a hm).1]
theorem jF (hM:1073742848≤N) {ts:List ba} {atoms:List aQ} (q:QPair ts atoms) (ht:gK ts) (ha:du atoms) {a:aQ} (hm:a∈atoms):eD N ts a.1 a.2=some (aR a.2,(((aR a.2).length:Int),bX ts a)):=by
 obtain ⟨l1,l2⟩:=q.al a hm
 have hk:okI a.2:=(ha.2 a hm).2
 unfold eD
 rw [jp (by omega) hk,bs,mj hM ht hk l1 l2,bs,(q.rel a hm).1]
theorem w8 (hM:1073742848≤N) {ts:List ba} {n b1:Int} {atoms ats:List aQ} {out:List Int} {b2:aD} (q:QPair ts atoms) (ht:gK ts) (ha:du atoms) (hsub:∀ a∈ats,a∈atoms):∀ (m i k:Nat) (vs:List Int) (rows:aD) (c:Int),i+m=ats.length→m<k→VRel vs rows→0≤c→c+4000*(m:Int)≤1000000000→ats.length≤1000 →
  cz N k ts n atoms out b1 b2 vs (vs.length:Int) rows c ats (ats.length:Int) (i:Int)=some (pjS ats.length (pjV ts (ats.drop i) vs rows c)):=by
 intro m
 induction m with
 | zero =>
  intro i k vs rows c hi hk A h0 h1 hl
  obtain ⟨k,rfl⟩:∃ g,k=g+1:=⟨k-1,by omega⟩
  rw [cz,dge (by omega),cond_false,List.drop_of_length_le (by omega)]
  have:i=ats.length:=by omega
  subst this;rfl
 | succ m ih =>
  intro i k vs rows c hi hk A h0 h1 hl
  obtain ⟨k,rfl⟩:∃ g,k=g+1:=⟨k-1,by omega⟩
  have hlt:i<ats.length:=by omega
  have hm:=hsub _ (List.getElem_mem hlt)
  obtain ⟨_,B,h16⟩:=q.rel _ hm
  have hrl:=(bu A.val).2.2.1
  have hmul:=Nat.mul_le_mul hrl h16
  rw [cz,dlt hlt,cond_true,aT hlt,bs,jE hM q ht ha hm,bs,nc hM A B (by omega),bs,fg hlt,pjV]
  unfold pv
  by_cases e:((cm vs (aR ats[i].2) rows (bX ts ats[i])).length:Int)≤4000
  ·have hs:=dx 20 (cm vs (aR ats[i].2) rows (bX ts ats[i]))
   rw [decide_eq_true e,cond_true,cond_true]
   show (bif true then (ad c ((bh 20 (cm vs (aR ats[i].2) rows (bX ts ats[i]))).length:Int)).bind fun x401=>(ad (i:Int) 1).bind fun x402=>cz N k ts n atoms out b1 b2 (aX vs (aR ats[i].2)) ((aX vs (aR ats[i].2)).length:Int) (bh 20 (cm vs (aR ats[i].2) rows (bX ts ats[i]))) x401 ats (ats.length:Int) x402 else some (.inl jM))=_
   rw [cond_true,gQ (by omega) (by omega),bs,ad1 (by omega),bs]
   exact ih (i+1) k _ _ _ (by omega) (by omega) (mO A B (by omega)) (by omega) (by omega) hl
  ·rw [decide_eq_false e,cond_false,cond_false];rfl
theorem xU (hM:1073742848≤N) {ts:List ba} {n b1:Int} {atoms:List aQ} {out:List Int} {b2:aD} (q:QPair ts atoms) (ht:gK ts) (ha:du atoms):∀ (m i k:Nat) (vs:List Int) (rows:aD) (c:Int),i+m=atoms.length→m<k→VRel vs rows→0≤c→c+4000*(m:Int)≤1000000000→atoms.length≤1000 →
  cA N k ts n atoms out b1 b2 vs (vs.length:Int) rows c (i:Int)=some (pjS atoms.length (pjV ts (atoms.drop i) vs rows c)):=by
 intro m
 induction m with
 | zero =>
  intro i k vs rows c hi hk A h0 h1 hl
  obtain ⟨k,rfl⟩:∃ g,k=g+1:=⟨k-1,by omega⟩
  rw [cA,dge (by omega),cond_false,List.drop_of_length_le (by omega)]
  have:i=atoms.length:=by omega
  subst this;rfl
 | succ m ih =>
  intro i k vs rows c hi hk A h0 h1 hl
  obtain ⟨k,rfl⟩:∃ g,k=g+1:=⟨k-1,by omega⟩
  have hlt:i<atoms.length:=by omega
  have hm:=List.getElem_mem hlt
  obtain ⟨_,B,h16⟩:=q.rel _ hm
  have hrl:=(bu A.val).2.2.1
  have hmul:=Nat.mul_le_mul hrl h16
  rw [cA,dlt hlt,cond_true,aT hlt,bs,jF hM q ht ha hm,bs,m8 hM A B (by omega),bs,fg hlt,pjV]
  unfold pv
  by_cases e:((cm vs (aR atoms[i].2) rows (bX ts atoms[i])).length:Int)≤4000
  ·have hs:=dx 20 (cm vs (aR atoms[i].2) rows (bX ts atoms[i]))
   rw [decide_eq_true e,cond_true,cond_true]
   show (bif true then (ad c ((bh 20 (cm vs (aR atoms[i].2) rows (bX ts atoms[i]))).length:Int)).bind fun x401=>(ad (i:Int) 1).bind fun x402=>cA N k ts n atoms out b1 b2 (aX vs (aR atoms[i].2)) ((aX vs (aR atoms[i].2)).length:Int) (bh 20 (cm vs (aR atoms[i].2) rows (bX ts atoms[i]))) x401 x402 else some (.inl jM))=_
   rw [cond_true,gQ (by omega) (by omega),bs,ad1 (by omega),bs]
   exact ih (i+1) k _ _ _ (by omega) (by omega) (mO A B (by omega)) (by omega) (by omega) hl
  ·rw [decide_eq_false e,cond_false,cond_false];rfl
theorem nX {ts:List ba} {atoms:List aQ} (q:QPair ts atoms):∀ {ats:List aQ} {vs:List Int} {rows:aD} {c:Int} {w:List Int × aD × Int},(∀ a∈ats,a∈atoms)→VRel vs rows→pjV ts ats vs rows c=some w→VRel w.1 w.2.1
 | [],_,_,_,_,_,A,h=>by cases h;exact A
 | a :: ats,vs,rows,c,w,hs,A,h=>by
  obtain ⟨_,B,_⟩:=q.rel a (hs a List.mem_cons_self)
  rw [pjV] at h
  by_cases e:((cm vs (aR a.2) rows (bX ts a)).length:Int)≤4000
  ·rw [decide_eq_true e,cond_true] at h
   exact nX q (fun x hx=>hs x (List.mem_cons_of_mem _ hx)) (mO A B (by omega)) h
  ·rw [decide_eq_false e,cond_false] at h;cases h
theorem v7 {ts:List ba} {n:Int} {atoms:List aQ} {out:List Int} (ho:okI out):dB (mf ts n atoms out).1.2:=by
 unfold mf
 cases h:cC ts n atoms out with
 | false=>exact ⟨by simp [jM],by simp [jM]⟩
 | true =>
  have q:=mb h
  have h1:=q.a1
  rw [cond_true]
  unfold pu
  have hm:bH atoms∈atoms:=by unfold bH;simp [show 0<atoms.length by omega]
  cases hp:pjV ts (atoms.drop 1) (aR (bH atoms).2) (bX ts (bH atoms)) ((bX ts (bH atoms)).length:Int) with
  | none=>exact ⟨by simp [jM],by simp [jM]⟩
  | some w =>
   have A:=nX q (fun a ha=>List.mem_of_mem_drop ha) (q.rel _ hm).2.1 hp
   show dB (fZ (w.1.length:Int) w.2.1 out).1.2
   unfold fZ
   cases bj (w.1.length:Int) w.2.1&&(decide ((out.length:Int)≤5)&&ee (w.1.length:Int) out)
   ·exact ⟨by simp [gx],by simp [gx]⟩
   ·refine tf ⟨by rw [List.length_map];have:=(bu A.val).2.2.1;omega,fun r hr=>?_⟩
    obtain ⟨x,_,rfl⟩:=List.mem_map.1 hr
    exact ⟨by rw [gN];exact ho.1,fun _ _=>trivial⟩
theorem mi (hM:1073742848≤N) {ts:List ba} {n:Int} {atoms:List aQ} {out:List Int} (ht:gK ts) (ha:du atoms) (ho:okI out):fA N ts n atoms out=some (mf ts n atoms out):=by
 unfold fA mf
 rw [nS (by omega) ht ha ho,bs]
 cases h:cC ts n atoms out with
 | false=>rfl
 | true =>
  have q:=mb h
  have h1:=q.a1;have h4:=q.a4
  have hm:bH atoms∈atoms:=by unfold bH;simp [show 0<atoms.length by omega]
  have h0:ix atoms 0=some (bH atoms):=by
   have:=aT (xs:=atoms) (i:=0) (by omega)
   rw [show ((0:Nat):Int)=0 from rfl] at this
   rw [this];unfold bH;simp [show 0<atoms.length by omega]
  obtain ⟨_,A,a16⟩:=q.rel _ hm
  rw [cond_true,cond_true,h0,bs,jE hM q ht ha hm,bs,show (1:Int)=((1:Nat):Int) from rfl,iG (by omega) (Nat.le_refl _),bs,List.take_length]
  have hdl:(atoms.drop 1).length≤3:=by rw [List.length_drop];omega
  have hl:=w8 (n:=n) (b1:=0) (out:=out) (b2:=[]) (ats:=atoms.drop 1) hM q ht ha (fun a ha=>List.mem_of_mem_drop ha) (atoms.drop 1).length 0 N (aR (bH atoms).2) (bX ts (bH atoms)) ((bX ts (bH atoms)).length:Int) (by omega) (by omega) A (by omega) (by omega) (by omega)
  rw [List.drop_zero] at hl
  have hl':cz N N ts n atoms out 0 [] (aR (bH atoms).2) ((aR (bH atoms).2).length:Int) (bX ts (bH atoms)) ((bX ts (bH atoms)).length:Int) (atoms.drop 1) ((atoms.drop 1).length:Int) 0=_:=hl
  show ((cz N N ts n atoms out 0 [] (aR (bH atoms).2) ((aR (bH atoms).2).length:Int) (bX ts (bH atoms)) ((bX ts (bH atoms)).length:Int) (atoms.drop 1) ((atoms.drop 1).length:Int) 0).bind _)=_
  rw [hl',bs]
  cases hp:pjV ts (atoms.drop 1) (aR (bH atoms).2) (bX ts (bH atoms)) ((bX ts (bH atoms)).length:Int) with
  | none=>rfl
  | some w =>
   have B:=nX q (fun a ha=>List.mem_of_mem_drop ha) A hp
   show ((gD N (w.1.length:Int) w.2.1 out).bind _)=_
   rw [oN hM (mr B.val) ho.1,bs];rfl
theorem mA (hM:1073742848≤N) {ts:List ba} {n:Int} {atoms:List aQ} {out:List Int} (ht:gK ts) (ha:du atoms) (ho:okI out):fH N ts n atoms out=some (mf ts n atoms out):=by
 unfold fH mf
 rw [iH (by omega) ht ha ho,bs]
 cases h:cC ts n atoms out with
 | false=>rfl
 | true =>
  have q:=mb h
  have h1:=q.a1;have h4:=q.a4
  have hm:bH atoms∈atoms:=by unfold bH;simp [show 0<atoms.length by omega]
  have h0:ix atoms 0=some (bH atoms):=by
   have:=aT (xs:=atoms) (i:=0) (by omega)
   rw [show ((0:Nat):Int)=0 from rfl] at this
   rw [this];unfold bH;simp [show 0<atoms.length by omega]
  obtain ⟨_,A,a16⟩:=q.rel _ hm
  rw [cond_true,cond_true,h0,bs,jF hM q ht ha hm,bs]
  have hl:=xU (n:=n) (b1:=0) (out:=out) (b2:=[]) hM q ht ha (atoms.length-1) 1 N (aR (bH atoms).2) (bX ts (bH atoms)) ((bX ts (bH atoms)).length:Int) (by omega) (by omega) A (by omega) (by omega) (by omega)
  have hl':cA N N ts n atoms out 0 [] (aR (bH atoms).2) ((aR (bH atoms).2).length:Int) (bX ts (bH atoms)) ((bX ts (bH atoms)).length:Int) 1=_:=hl
  show ((cA N N ts n atoms out 0 [] (aR (bH atoms).2) ((aR (bH atoms).2).length:Int) (bX ts (bH atoms)) ((bX ts (bH atoms)).length:Int) 1).bind _)=_
  rw [hl',bs]
  cases hp:pjV ts (atoms.drop 1) (aR (bH atoms).2) (bX ts (bH atoms)) ((bX ts (bH atoms)).length:Int) with
  | none=>rfl
  | some w =>
   have B:=nX q (fun a ha=>List.mem_of_mem_drop ha) A hp
   have hbl:=B.len
   show ((fT N (w.1.length:Int) w.2.1 out).bind _)=_
   rw [lw hM (mr B.val) ho.1 (by omega),bs];rfl
end
end Go.Proofs.Ytnipkopfefkojaa
namespace Go.Proofs.Ytnipkopfefkojaa
open Go.RowKit

def nT (l:List Int):Int:=l.getD 0 0
def md (hs:List Int) (h:Int):Nat→Nat
 | 0=>0
 | k+1=>if h<hs.getD k 0 then md hs h k else k+1
theorem sI (hs:List Int) (h:Int):∀ k,md hs h k≤k
 | 0=>Nat.le_refl _
 | k+1=>by
  unfold md;split
  ·have:=sI hs h k;omega
  ·exact Nat.le_refl _
theorem sV (hs:List Int) (h:Int):∀ k j,md hs h k≤j→j<k→h<hs.getD j 0
 | 0,j,_,h2=>absurd h2 (by omega)
 | k+1,j,h1,h2=>by
  unfold md at h1
  split at h1
  ·rename_i hh
   by_cases e:j=k
   ·rw [e];exact hh
   ·exact sV hs h k j h1 (by omega)
  ·omega
theorem sO (hs:List Int) (h:Int):∀ k,md hs h k=0∨hs.getD (md hs h k-1) 0≤h
 | 0=>.inl rfl
 | k+1=>by
  unfold md;split
  ·exact sO hs h k
  ·rename_i hh;exact .inr (by rw [Nat.add_sub_cancel];omega)
def hdI (ls:aD) (j:Int):Int:=nT (ls.getD j.toNat [])
def jk (ls:aD) (O:List Int) (i:Nat):Nat:=md (O.map (hdI ls)) (hdI ls (i:Int)) O.length
def ou (ls:aD) (O:List Int) (i:Nat):List Int:=O.take (jk ls O i)++[(i:Int)]++O.drop (jk ls O i)
def iq (ls:aD) (i:Nat):List Int:=(List.range' 0 i).foldl (ou ls) []
def lsO (ls:aD) (O:List Int):aD:=O.map fun j=>ls.getD j.toNat []
theorem vf (ls:aD) (i:Nat):iq ls (i+1)=ou ls (iq ls i) i:=by unfold iq;rw [List.range'_concat,List.foldl_append];simp
theorem wt (ls:aD) (O:List Int) (i:Nat):jk ls O i≤O.length:=sI _ _ _
theorem pL (ls:aD) (O:List Int) (i:Nat):(ou ls O i).Perm ((i:Int) :: O):=by
 unfold ou
 rw [List.append_assoc,List.singleton_append]
 have h:=List.perm_middle (a:=(i:Int)) (l₁:=O.take (jk ls O i)) (l₂:=O.drop (jk ls O i))
 rwa [List.take_append_drop] at h
theorem vB (ls:aD) (O:List Int) (i:Nat):(ou ls O i).length=O.length+1:=by rw [(pL ls O i).length_eq,List.length_cons]
def leI (a b:Int):Prop:=a≤b
theorem sa {ls:aD} {O:List Int} {i:Nat} (h:(O.map (hdI ls)).Pairwise leI):((ou ls O i).map (hdI ls)).Pairwise leI:=by
 have hk:=wt ls O i
 have hat:∀ j (hj:j<O.length),hdI ls O[j]=(O.map (hdI ls)).getD j 0:=fun j hj=>by rw [bb (by rw [List.length_map];exact hj),List.getElem_map]
 unfold ou
 rw [List.map_append,List.map_append,List.append_assoc]
 have h1:(O.map (hdI ls))=(O.take (jk ls O i)).map (hdI ls)++(O.drop (jk ls O i)).map (hdI ls):=by rw [← List.map_append,List.take_append_drop]
 rw [h1] at h
 obtain ⟨p1,p2,p3⟩:=List.pairwise_append.1 h
 refine List.pairwise_append.2 ⟨p1,?_,?_⟩
 ·rw [List.map_cons,List.map_nil,List.singleton_append]
  refine List.pairwise_cons.2 ⟨fun y hy=>?_,p2⟩
  obtain ⟨x,hx,rfl⟩:=List.mem_map.1 hy
  obtain ⟨j,hj,rfl⟩:=List.getElem_of_mem hx
  rw [List.length_drop] at hj
  rw [List.getElem_drop]
  have:=sV (O.map (hdI ls)) (hdI ls (i:Int)) O.length (jk ls O i+j) (by unfold jk;omega) (by omega)
  rw [← hat _ (by omega)] at this
  exact Int.le_of_lt this
 ·intro x hx y hy
  have hx':leI x (hdI ls (i:Int)):=by
   obtain ⟨z,hz,rfl⟩:=List.mem_map.1 hx
   obtain ⟨j,hj,rfl⟩:=List.getElem_of_mem hz
   rw [List.length_take] at hj
   rw [List.getElem_take]
   have hj1:j<jk ls O i:=by omega
   rcases sO (O.map (hdI ls)) (hdI ls (i:Int)) O.length with h0 | h0
   ·have:jk ls O i=0:=h0
    omega
   ·have h0':(O.map (hdI ls)).getD (jk ls O i-1) 0≤hdI ls (i:Int):=h0
    by_cases e:j=jk ls O i-1
    ·unfold leI;rw [hat j (by omega),e];exact h0'
    ·have hp:=List.pairwise_iff_getElem.1 p1 j (jk ls O i-1) (by rw [List.length_map,List.length_take];omega) (by rw [List.length_map,List.length_take];omega) (by omega)
     rw [List.getElem_map,List.getElem_map,List.getElem_take,List.getElem_take] at hp
     unfold leI at hp ⊢
     rw [hat (jk ls O i-1) (by omega)] at hp
     omega
  rw [List.map_cons,List.map_nil,List.singleton_append] at hy
  rcases List.mem_cons.1 hy with rfl | hy
  ·exact hx'
  ·exact p3 x hx y hy
structure OrdOk (ls:aD) (O:List Int) (i:Nat):Prop where
 len:O.length=i
 nd:O.Nodup
 bd:∀ j∈O,0≤j∧j<i
 so:(O.map (hdI ls)).Pairwise leI
theorem nV (ls:aD):∀ i,OrdOk ls (iq ls i) i
 | 0=>⟨rfl,List.nodup_nil,fun j h=>absurd h (List.not_mem_nil),List.Pairwise.nil⟩
 | i+1=>by
  have h:=nV ls i
  rw [vf]
  have hp:=pL ls (iq ls i) i
  refine ⟨by rw [vB,h.len],hp.nodup_iff.2 (List.nodup_cons.2 ⟨fun hm=>by have:=h.bd _ hm;omega,h.nd⟩),fun j hj=>?_,sa h.so⟩
  rcases List.mem_cons.1 (hp.mem_iff.1 hj) with rfl | hj
  ·omega
  ·have:=h.bd j hj;omega
def shS (ls:aD) (i:Nat) (s:Int):Int:=bif Nat.beq i 0||decide (((ls.getD i []).length:Int)<s) then ((ls.getD i []).length:Int) else s
def shT (ls:aD) (i:Nat):Int:=(List.range' 0 i).foldl (fun s i=>shS ls i s) 0
theorem rA (ls:aD) (i:Nat):shT ls (i+1)=shS ls i (shT ls i):=by unfold shT;rw [List.range'_concat,List.foldl_append];simp
theorem tW (ls:aD):∀ i,0≤shT ls i∧∀ j,j<i→shT ls i≤((ls.getD j []).length:Int)
 | 0=>⟨Int.le_refl _,fun j h=>absurd h (by omega)⟩
 | i+1=>by
  obtain ⟨h1,h2⟩:=tW ls i
  rw [rA]
  unfold shS
  cases i with
  | zero=>exact ⟨by rw [show (Nat.beq 0 0)=true from rfl,Bool.true_or,cond_true];omega,fun j hj=>by rw [show (Nat.beq 0 0)=true from rfl,Bool.true_or,cond_true,show j=0 by omega];exact Int.le_refl _⟩
  | succ i =>
   rw [show Nat.beq (i+1) 0=false from rfl,Bool.false_or]
   by_cases h:((ls.getD (i+1) []).length:Int)<shT ls (i+1)
   ·rw [decide_eq_true h,cond_true]
    refine ⟨by omega,fun j hj=>?_⟩
    by_cases e:j=i+1
    ·rw [e];exact Int.le_refl _
    ·have:=h2 j (by omega);omega
   ·rw [decide_eq_false h,cond_false]
    refine ⟨h1,fun j hj=>?_⟩
    by_cases e:j=i+1
    ·rw [e];omega
    ·exact h2 j (by omega)
def gX (n:Nat):List Nat:=List.replicate n 0
def qC (ls:aD):List Int × Nat:=lL (lsO ls (iq ls ls.length)) (kB (lsO ls (iq ls ls.length)) (gX ls.length)+1) (gX ls.length) (nT ((lsO ls (iq ls ls.length)).getD (ls.length-1) [])) [] 0
def kK (ls:aD):List Int × Int:=bif ks ls&&!(shT ls ls.length == 0) then ((qC ls).1,((qC ls).2:Int)) else ([],0)
theorem oy:∀ {xs:List Int},asc xs=true→dH xs
 | [],_=>List.Pairwise.nil
 | [_],_=>List.pairwise_singleton _ _
 | x :: y :: t,h=>by
  unfold asc at h
  rw [Bool.and_eq_true,decide_eq_true_eq] at h
  have ih:=oy h.2
  refine List.pairwise_cons.2 ⟨fun z hz=>?_,ih⟩
  rcases List.mem_cons.1 hz with rfl | hz
  ·exact h.1
  ·have:=(List.pairwise_cons.1 ih).1 z hz;omega
theorem rf:∀ {xs:List Int},dH xs→asc xs=true
 | [],_=>rfl
 | [_],_=>rfl
 | x :: y :: t,h=>by
  obtain ⟨h1,h2⟩:=List.pairwise_cons.1 h
  unfold asc
  rw [decide_eq_true (h1 y List.mem_cons_self),rf h2];rfl
theorem sC (ls:aD):(lsO ls (iq ls ls.length)).length=ls.length:=by unfold lsO;rw [List.length_map,(nV ls ls.length).len]
theorem kL {ls:aD} {l:List Int}:l∈lsO ls (iq ls ls.length)↔l∈ls:=by
 have h:=nV ls ls.length
 unfold lsO
 rw [List.mem_map]
 constructor
 ·rintro ⟨j,hj,rfl⟩
  have:=h.bd j hj
  exact jh (by omega)
 ·intro hl
  obtain ⟨i,hi,rfl⟩:=List.getElem_of_mem hl
  refine ⟨(i:Int),o3 h.nd h.len h.bd (i:Int) (by omega) (by omega),?_⟩
  rw [show ((i:Nat):Int).toNat=i from rfl,ga hi]
theorem uD {ls:aD} {O:List Int} {i:Nat} (h:i<O.length):(lsO ls O).getD i []=ls.getD O[i].toNat []:=by unfold lsO;simp [h]
theorem ru (n k:Nat):(gX n).getD k 0=0:=by
 unfold gX
 by_cases h:k<n <;> simp [h]
theorem tq {ls:aD} (h:(ks ls&&!(shT ls ls.length == 0))=true) :
  LInv (lsO ls (iq ls ls.length)) (gX ls.length) (nT ((lsO ls (iq ls ls.length)).getD (ls.length-1) [])) [] 0∧∀ l∈ls,0<l.length:=by
 rw [Bool.and_eq_true,Bool.not_eq_true',beq_eq_false_iff_ne] at h
 obtain ⟨h1,h2⟩:=h
 unfold ks at h1
 rw [Bool.and_eq_true,List.all_eq_true,decide_eq_true_eq] at h1
 obtain ⟨h3,h4⟩:=tW ls ls.length
 have hne:∀ l∈ls,0<l.length:=fun l hl=>by
  obtain ⟨i,hi,rfl⟩:=List.getElem_of_mem hl
  have:=h4 i hi
  rw [ga hi] at this;omega
 have ho:=nV ls ls.length
 have hlen:=sC ls
 have hkey:∀ k,iV (lsO ls (iq ls ls.length)) (gX ls.length) k=nT ((lsO ls (iq ls ls.length)).getD k []):=fun k=>by unfold iV nT;rw [ru]
 refine ⟨⟨by omega,by rw [hlen];simp [gX],fun l hl=>oy (h1.1 l (kL.1 hl)),fun k hk=>?_,fun i j hij hj=>?_,?_,List.Pairwise.nil,by simp,by simp,fun x hx=>.inr fun k hk=>?_⟩,hne⟩
 ·rw [ru];exact hne _ (kL.1 (jh hk))
 ·rw [Nat.zero_add,Nat.zero_add,Nat.mod_eq_of_lt hj,Nat.mod_eq_of_lt (by omega),hkey,hkey]
  by_cases e:i=j
  ·rw [e];exact Int.le_refl _
  ·have hs:=List.pairwise_iff_getElem.1 ho.so i j (by rw [List.length_map,ho.len];omega) (by rw [List.length_map,ho.len];omega) (by omega)
   rw [List.getElem_map,List.getElem_map] at hs
   rw [uD (by rw [ho.len];omega),uD (by rw [ho.len];omega)]
   exact hs
 ·rw [Nat.zero_add,Nat.mod_eq_of_lt (by omega),hkey,hlen]
 ·rw [hkey]
  have hl:=kL.1 (jh hk)
  obtain ⟨j,hj,e⟩:=oR (hx _ (jh hk))
  have hp:=hne _ hl
  unfold nT
  rw [bb hp,← e]
  rcases Nat.eq_zero_or_pos j with h0 | h0
  ·subst h0;exact Int.le_refl _
  ·exact Int.le_of_lt (iL (oy (h1.1 _ hl)) h0 hj)
theorem pI:∀ (Ls:aD) (B n:Nat),(∀ l∈Ls,l.length≤B)→kB Ls (gX n)≤Ls.length*B
 | [],B,n,_=>by simp [kB]
 | l :: Ls,B,0,_=>by simp [kB,gX]
 | l :: Ls,B,n+1,h=>by
  have ih:=pI Ls B n fun x hx=>h x (List.mem_cons_of_mem _ hx)
  have hl:=h l List.mem_cons_self
  unfold kB gX at ih ⊢
  rw [List.replicate_succ,List.zipWith_cons_cons,List.sum_cons,List.length_cons,Nat.succ_mul]
  omega
theorem oW {ls:aD} {B:Nat} (h:∀ l∈ls,l.length≤B):dH (kK ls).1∧(∀ x∈(kK ls).1,∀ l∈ls,x∈l)∧0≤(kK ls).2∧(kK ls).2≤(ls.length*B+1:Nat)∧(ks ls=true→∀ x,(∀ l∈ls,x∈l)→x∈(kK ls).1):=by
 unfold kK
 cases hc:ks ls&&!(shT ls ls.length == 0) with
 | false =>
  refine ⟨List.Pairwise.nil,by simp,Int.le_refl _,by rw [cond_false];omega,fun ha x hx=>?_⟩
  rw [ha,Bool.true_and,Bool.not_eq_false',beq_iff_eq] at hc
  exfalso
  -- some list is empty
  have hex:∀ i,i≤ls.length→0<i→shT ls i=0→∃ j,j<i∧(ls.getD j []).length=0:=by
   intro i
   induction i with
   | zero=>intro _ h;omega
   | succ i ih =>
    intro hi _ hz
    rw [rA] at hz
    unfold shS at hz
    cases i with
    | zero =>
     rw [show (Nat.beq 0 0)=true from rfl,Bool.true_or,cond_true] at hz
     exact ⟨0,by omega,by omega⟩
    | succ i =>
     rw [show Nat.beq (i+1) 0=false from rfl,Bool.false_or] at hz
     by_cases hlt:((ls.getD (i+1) []).length:Int)<shT ls (i+1)
     ·rw [decide_eq_true hlt,cond_true] at hz
      exact ⟨i+1,by omega,by omega⟩
     ·rw [decide_eq_false hlt,cond_false] at hz
      obtain ⟨j,hj,e⟩:=ih (by omega) (by omega) hz
      exact ⟨j,by omega,e⟩
  unfold ks at ha
  rw [Bool.and_eq_true,decide_eq_true_eq] at ha
  obtain ⟨j,hj,e⟩:=hex ls.length (Nat.le_refl _) ha.2 hc
  have hm:=hx _ (jh hj)
  rw [List.length_eq_zero_iff.1 e] at hm
  simp at hm
 | true =>
  rw [cond_true]
  obtain ⟨I,_⟩:=tq hc
  obtain ⟨g1,g2,g3⟩:=n8 (kB (lsO ls (iq ls ls.length)) (gX ls.length)+1) _ _ _ _ I (by omega)
  have hr:=pI (lsO ls (iq ls ls.length)) B ls.length fun l hl=>h l (kL.1 hl)
  rw [sC] at hr
  refine ⟨g1,fun x hx l hl=>(g2 x).1 hx l (kL.2 hl),Int.natCast_nonneg _,?_,fun _ x hx=>(g2 x).2 fun l hl=>hx l (kL.1 hl)⟩
  have g4:(qC ls).2≤ls.length*B+1:=by
   have:(qC ls).2≤0+(kB (lsO ls (iq ls ls.length)) (gX ls.length)+1):=g3
   omega
  exact Int.ofNat_le.2 g4
end Go.Proofs.Ytnipkopfefkojaa
namespace Go.Proofs.Ytnipkopfefkojaa
open Go.RowKit

def iW (atoms:List aQ) (i:Nat):aQ:=atoms.getD i (ByteArray.empty,[])
theorem jr {atoms:List aQ} {i:Nat} (h:i<atoms.length):iW atoms i=atoms[i]:=by unfold iW;simp [h]
def tt (atoms:List aQ) (v:Int) (n:Nat):List Nat:=(List.range' 0 n).filter fun i=>decide (v∈(iW atoms i).2)
def vV (atoms:List aQ) (v:Int):List Nat:=tt atoms v atoms.length
def f6 (vs order p:List Int) (n:Nat):List Int:=((List.range' 0 n).filter fun k=>decide (order.getD k 0∈vs)).map fun k=>p.getD k 0
def mI (vs order p:List Int):List Int:=f6 vs order p p.length
def atV (ts:List ba) (order:List Int) (atoms:List aQ) (p:List Int) (i:Nat):List Int :=
 kF (je ts order (iW atoms i)).1 (je ts order (iW atoms i)).2 (mI (iW atoms i).2 order p)
def im (ts:List ba) (order:List Int) (atoms:List aQ) (p:List Int):aD:=(vV atoms (order.getD p.length 0)).map (atV ts order atoms p)
theorem vr (atoms:List aQ) (v:Int) (n:Nat):(tt atoms v n).length≤n:=by
 unfold tt
 refine Nat.le_trans (List.length_filter_le _ _) ?_
 simp
theorem la {atoms:List aQ} {v:Int} {i:Nat}:i∈vV atoms v↔i<atoms.length∧v∈(iW atoms i).2:=by
 unfold vV tt
 rw [List.mem_filter,decide_eq_true_eq]
 simp
theorem jB (vs order p:List Int) (n:Nat):f6 vs order p (n+1)=bif decide (order.getD n 0∈vs) then f6 vs order p n++[p.getD n 0] else f6 vs order p n:=by
 unfold f6
 rw [List.range'_concat,List.filter_append,List.map_append]
 simp only [Nat.zero_add,Nat.one_mul,List.filter_cons,List.filter_nil]
 cases decide (order.getD n 0∈vs) <;> simp
theorem vX {atoms:List aQ} {i:Nat} (h:i<atoms.length):iW atoms i∈atoms:=by rw [jr h];exact List.getElem_mem h
theorem tF (ts:List ba) (order:List Int) (atoms:List aQ) (p:List Int):(im ts order atoms p).length≤atoms.length:=by
 unfold im;rw [List.length_map];exact vr _ _ _
theorem ll {ts:List ba} {n:Nat} {atoms:List aQ} {order p:List Int} (q:QFor ts n atoms order):∀ l∈im ts order atoms p,l.length≤16∧dH l∧∀ v∈l,0≤v∧v≤99:=by
 intro l hl
 obtain ⟨i,hi,rfl⟩:=List.mem_map.1 hl
 have hm:=vX (la.1 hi).1
 obtain ⟨_,_,g3,g4,_⟩:=oD q hm
 unfold atV
 exact ⟨Nat.le_trans (uC _ _ _) g4,uq g3,s8 g3⟩
theorem tu {ts:List ba} {n:Nat} {atoms:List aQ} {order p:List Int} (q:QFor ts n atoms order) (hp:p.length<n):ks (im ts order atoms p)=true:=by
 unfold ks
 rw [Bool.and_eq_true,List.all_eq_true,decide_eq_true_eq]
 refine ⟨fun l hl=>rf (ll q l hl).2.1,?_⟩
 have ho:=(eZ q.os).2 (order.getD p.length 0) (by rw [bb (by rw [q.ol];exact hp)];exact List.getElem_mem _)
 obtain ⟨a,ha,hv⟩:=q.cov (order.getD p.length 0) (by omega) (by omega)
 obtain ⟨i,hi,rfl⟩:=List.getElem_of_mem ha
 unfold im
 rw [List.length_map]
 exact List.length_pos_of_mem (la.2 ⟨hi,by rw [jr hi];exact hv⟩)
end Go.Proofs.Ytnipkopfefkojaa
namespace Go.Proofs.Ytnipkopfefkojaa
open Go.RowKit

def fi (ts:List ba) (order:List Int) (atoms:List aQ):Nxt:=fun p=>kK (im ts order atoms p)
theorem tm {xs:List Int} (h:dH xs):xs.Nodup:=List.Pairwise.imp (fun {a b} (hab:a<b) (e:a=b)=>by omega) h
theorem uz {ls:aD} {xs:List Int} (h:∀ l∈ls,l.length≤16∧dH l∧∀ v∈l,0≤v∧v≤99) (ha:dH xs) (hx:∀ x∈xs,∀ l∈ls,x∈l) (he:ls=[]→xs=[]):xs.length≤16∧∀ v∈xs,0≤v∧v≤99:=by
 cases ls with
 | nil=>rw [he rfl];simp
 | cons l ls =>
  obtain ⟨h1,_,h3⟩:=h l List.mem_cons_self
  refine ⟨Nat.le_trans (jN xs l (tm ha) fun x hx'=>hx x hx' l List.mem_cons_self) h1,fun v hv=>h3 v (hx v hv l List.mem_cons_self)⟩
theorem uv:(kK []).1=[]:=rfl
theorem rE {ts:List ba} {n:Nat} {atoms:List aQ} {order:List Int} (q:QFor ts n atoms order):NxtOk (fi ts order atoms):=by
 have h4:=q.a4
 have key:=fun p=>oW (ls:=im ts order atoms p) (B:=16) fun l hl=>(ll q l hl).1
 have com:=fun p=>uz (fun l hl=>ll q (p:=p) l hl) (key p).1 (key p).2.1 fun e=>by rw [e];exact uv
 have hll:=fun p=>tF ts order atoms p
 refine ⟨fun p=>(com p).1,fun p=>(key p).1,fun p=>(com p).2,fun p=>(key p).2.2.1,fun p=>?_⟩
 have h1:=(key p).2.2.2.1
 have h2:=hll p
 show (kK (im ts order atoms p)).2≤1000
 omega
end Go.Proofs.Ytnipkopfefkojaa
namespace Go.Proofs.Ytnipkopfefkojaa
open Go.RowKit

def fQ (out order:List Int):List Int:=out.map (aY order)
theorem qd {f:Nxt} (hf:NxtOk f) {k:Nat} (hk:k≤5):dB (c7 f k []).1∧(∀ r∈(c7 f k []).1,r.length=k∧aZ r=true)∧gI (c7 f k []).1:=by
 have h1:=pW hf k []
 have hp:16 ^ k≤16 ^ 5:=Nat.pow_le_pow_right (by decide) (by omega)
 have h2:∀ r∈(c7 f k []).1,r.length=k∧aZ r=true:=fun r hr=>by
  obtain ⟨s,e1,e⟩:=lk hr
  exact ⟨by rw [e1];exact e,oM hf rfl hr⟩
 exact ⟨⟨by omega,fun r hr=>⟨by have:=(h2 r hr).1;omega,fun _ _=>trivial⟩⟩,h2,pT hf k []⟩
end Go.Proofs.Ytnipkopfefkojaa
namespace Go.Proofs.Ytnipkopfefkojaa
open Go.RowKit

theorem pA (a:Int) {m:Nat} (hm:m≤4611686018427387904):0≤eO a (m:Int)∧eO a (m:Int)≤(m:Int):=by
 have h1:(BitVec.ofInt IntKind.i64.bits a &&& BitVec.ofInt IntKind.i64.bits (m:Int)).toNat≤m:=by
  rw [BitVec.toNat_and]
  refine Nat.le_trans Nat.and_le_right ?_
  rw [BitVec.toNat_ofInt]
  have:IntKind.i64.bits=64:=rfl
  rw [this]
  omega
 unfold eO
 rw [jj (kU (by omega) (by omega))]
 omega
theorem sE (a:Int) {b:Nat}:∃ v,sr a (b:Int)=some v:=by unfold sr;rw [if_pos (by omega)];exact ⟨_,rfl⟩
abbrev eu (a:List Int):Prop:=a.length≤1048576∧∀ v∈a,0≤v∧v≤255
def cD (a:List Int) (p:Int):Prop:=0≤p∧p≤(a.length:Int)
section
variable {N:Nat}
theorem wP (a:List Int) (ha:eu a):∀ (m i k:Nat) (h:Int),i+m=4000→m<k→0≤h→h≤1073741823→∃ v,fw N k a h (i:Int)=some v:=by
 intro m
 induction m with
 | zero =>
  intro i k h hi hk _ _
  obtain ⟨k,rfl⟩:∃ g,k=g+1:=⟨k-1,by omega⟩
  rw [fw,decide_eq_false (show ¬ (i:Int)<4000 by omega)]
  cases decide ((i:Int)<(a.length:Int)) <;> exact ⟨_,rfl⟩
 | succ m ih =>
  intro i k h hi hk h0 h1
  obtain ⟨k,rfl⟩:∃ g,k=g+1:=⟨k-1,by omega⟩
  rw [fw]
  by_cases hl:i<a.length
  ·have hb:=ha.2 _ (List.getElem_mem hl)
   rw [dlt hl,cond_true,decide_eq_true (show (i:Int)<4000 by omega),cond_true,qH (by omega) (by omega),bs,aT hl,bs,jj (kU (by omega) (by omega)),gQ (by omega) (by omega),bs,gQ (by omega) (by omega),bs,ad1 (by omega),bs]
   have hi':=pA (h*131+a[i]+7) (m:=1073741823) (by decide)
   exact ih (i+1) k _ (by omega) (by omega) hi'.1 hi'.2
  ·rw [dge hl,cond_false];exact ⟨_,rfl⟩
theorem tw (hN:1073741824≤N) {a:List Int} (ha:eu a):∃ h,jU N a=some (0,h):=by
 have hl:=ha.1
 obtain ⟨v,hv⟩:=wP (N:=N) a ha 4000 0 N (10101+(a.length:Int)) (by omega) (by omega) (by omega) (by omega)
 unfold jU
 rw [gQ (by omega) (by omega),bs]
 have hv':fw N N a (10101+(a.length:Int)) 0=some v:=hv
 rw [hv',bs]
 exact ⟨_,rfl⟩
theorem i6 {a:List Int} (ha:eu a) {p h:Int} (hc:cD a p):∃ x q g,eY N a p h=some (x,q,g)∧0≤x∧x≤255∧cD a q:=by
 have hl:=ha.1
 have h0:=hc.1;have h1:=hc.2
 unfold eY
 obtain ⟨x1,e1⟩:=sE (IntKind.i64.wrap ((IntKind.i64.wrap (h*6364136223846793005))+1442695040888963407)) (b:=33)
 obtain ⟨x2,e2⟩:=sE (IntKind.i64.wrap ((IntKind.i64.wrap (h*6364136223846793005))+1442695040888963407)) (b:=45)
 have e1':sr (IntKind.i64.wrap ((IntKind.i64.wrap (h*6364136223846793005))+1442695040888963407)) 33=some x1:=e1
 have e2':sr (IntKind.i64.wrap ((IntKind.i64.wrap (h*6364136223846793005))+1442695040888963407)) 45=some x2:=e2
 rw [e1',bs,e2',bs]
 by_cases hp:p<(a.length:Int)
 ·rw [decide_eq_true hp,cond_true,gZ h0 hp,bs]
  have hb:=pA (IntKind.i64.wrap ((eO (iD x1 x2) 255)+(IntKind.i64.wrap a[p.toNat]))) (m:=255) (by decide)
  refine ⟨_,_,_,rfl,hb.1,hb.2,?_⟩
  rw [jj (kU (by omega) (by omega))]
  exact ⟨by omega,by omega⟩
 ·rw [decide_eq_false hp,cond_false]
  have hb:=pA (iD x1 x2) (m:=255) (by decide)
  exact ⟨_,_,_,rfl,hb.1,hb.2,hc⟩
theorem cl {a:List Int} (ha:eu a) {p h n:Int} (hc:cD a p):∃ x q g,bL N a p h n=some (x,q,g)∧0≤x∧(0<n→x<n)∧(n≤0→x=0)∧cD a q:=by
 unfold bL
 by_cases h0:n≤0
 ·rw [decide_eq_true h0,cond_true]
  exact ⟨_,_,_,rfl,Int.le_refl _,fun h=>by omega,fun _=>rfl,hc⟩
 ·rw [decide_eq_false h0,cond_false]
  by_cases h1:n≤256
  ·obtain ⟨x,q,g,e,b0,b1,hc'⟩:=i6 (N:=N) ha (h:=h) hc
   rw [decide_eq_true h1,cond_true,e,bs,wd (by omega),bs]
   have:=su b0 (show 0<n by omega)
   exact ⟨_,_,_,rfl,this.1,fun _=>this.2,fun h=>by omega,hc'⟩
  ·rw [decide_eq_false h1,cond_false]
   obtain ⟨x,q,g,e,b0,b1,hc1⟩:=i6 (N:=N) ha (h:=h) hc
   rw [e,bs]
   obtain ⟨y,q2,g2,e2,c0,c1,hc2⟩:=i6 (N:=N) ha (h:=g) hc1
   dsimp only
   rw [e2,bs]
   obtain ⟨z,q3,g3,e3,d0,d1,hc3⟩:=i6 (N:=N) ha (h:=g2) hc2
   dsimp only
   rw [e3,bs]
   obtain ⟨w,q4,g4,e4,f0,f1,hc4⟩:=i6 (N:=N) ha (h:=g3) hc3
   dsimp only
   rw [e4,bs]
   dsimp only
   rw [qH (by omega) (by omega),bs,qH (by omega) (by omega),bs,gQ (by omega) (by omega),bs,qH (by omega) (by omega),bs,gQ (by omega) (by omega),bs,gQ (by omega) (by omega),bs,wd (by omega),bs]
   have:=su (show 0≤x*16777216+y*65536+z*256+w by omega) (show 0<n by omega)
   exact ⟨_,_,_,rfl,this.1,fun _=>this.2,fun h=>by omega,hc4⟩
theorem fP {a l:List Int} (ha:eu a) {p h:Int} (hc:cD a p) (hl:0<l.length):∃ x q g,c5 N a p h l=some (x,q,g)∧x∈l∧cD a q:=by
 obtain ⟨x,q,g,e,b0,b1,_,hc'⟩:=cl (N:=N) ha (h:=h) (n:=(l.length:Int)) hc
 have b2:=b1 (by omega)
 unfold c5
 rw [e,bs]
 dsimp only
 rw [gZ b0 b2,bs]
 exact ⟨_,_,_,rfl,List.getElem_mem _,hc'⟩
end
end Go.Proofs.Ytnipkopfefkojaa
namespace Go.Proofs.Ytnipkopfefkojaa
open Go.RowKit

section
variable {N:Nat}
theorem ws {a:List Int} (ha:eu a) {n m:Int} (hm:0<m):∀ (d k:Nat) (acc:List Int) (p h:Int),cD a p→acc.length+d=n.toNat→d<k→n≤1048576→(∀ v∈acc,0≤v∧v<m) →
  ∃ q g row,f9 N k a p h n m acc=some (q,g,row)∧cD a q∧row.length=n.toNat∧∀ v∈row,0≤v∧v<m:=by
 intro d
 induction d with
 | zero =>
  intro k acc p h hc hd hk _ hv
  obtain ⟨k,rfl⟩:∃ g,k=g+1:=⟨k-1,by omega⟩
  rw [f9,decide_eq_false (show ¬ (acc.length:Int)<n by omega),cond_false]
  exact ⟨_,_,_,rfl,hc,by omega,hv⟩
 | succ d ih =>
  intro k acc p h hc hd hk hn hv
  obtain ⟨k,rfl⟩:∃ g,k=g+1:=⟨k-1,by omega⟩
  obtain ⟨x,q,g,e,b0,b1,_,hc'⟩:=cl (N:=N) ha (h:=h) (n:=m) hc
  rw [f9,decide_eq_true (show (acc.length:Int)<n by omega),cond_true,e,bs]
  dsimp only
  rw [bt (by decide) (by simp;omega),bs]
  refine ih k _ q g hc' (by simp;omega) (by omega) hn fun v hv'=>?_
  rcases List.mem_append.1 hv' with h | h
  ·exact hv v h
  ·rw [List.mem_singleton] at h;rw [h];exact ⟨b0,b1 hm⟩
theorem o5 (hN:1073741824≤N) {a:List Int} (ha:eu a) {p h n m:Int} (hc:cD a p) (hm:0<m) (hn:n≤1048576) :
  ∃ row q g,iP N a p h n m=some (row,q,g)∧cD a q∧row.length=n.toNat∧∀ v∈row,0≤v∧v<m:=by
 obtain ⟨q,g,row,e,h1,h2,h3⟩:=ws (N:=N) ha (n:=n) hm n.toNat N [] p h hc (by simp) (by omega) hn (by simp)
 unfold iP
 rw [e]
 exact ⟨row,q,g,rfl,h1,h2,h3⟩
theorem wv (hN:1073741824≤N) {a:List Int} (ha:eu a) {n m y:Int} {z:aD} (hm:0<m) (hn:n≤1048576):∀ (d k:Nat) (acc:aD) (p h c:Int),cD a p→c.toNat=d→c≤1048576→d<k→acc.length+d≤1048576→(∀ r∈acc,r.length=n.toNat∧∀ v∈r,0≤v∧v<m) →
  ∃ q g rows c',gb N k a p h n m y z acc c=some (q,g,rows,c')∧cD a q∧rows.length≤acc.length+d∧∀ r∈rows,r.length=n.toNat∧∀ v∈r,0≤v∧v<m:=by
 intro d
 induction d with
 | zero =>
  intro k acc p h c hc hd _ hk hl hv
  obtain ⟨k,rfl⟩:∃ g,k=g+1:=⟨k-1,by omega⟩
  rw [gb,decide_eq_false (show ¬ 0<c by omega),cond_false]
  exact ⟨_,_,_,_,rfl,hc,by omega,hv⟩
 | succ d ih =>
  intro k acc p h c hc hd hcc hk hl hv
  obtain ⟨k,rfl⟩:∃ g,k=g+1:=⟨k-1,by omega⟩
  obtain ⟨row,q,g,e,hc',h2,h3⟩:=o5 hN ha (h:=h) (n:=n) hc hm hn
  rw [gb,decide_eq_true (show 0<c by omega),cond_true,e,bs]
  dsimp only
  rw [bt (by decide) (by simp;omega),bs,gm (by omega) (by omega),bs]
  obtain ⟨q',g',rows,c',e',k1,k2,k3⟩:=ih k (acc++[row]) q g (c-1) hc' (by omega) (by omega) (by omega) (by simp;omega) fun r hr=>by
   rcases List.mem_append.1 hr with h | h
   ·exact hv r h
   ·rw [List.mem_singleton] at h;rw [h];exact ⟨h2,h3⟩
  exact ⟨q',g',rows,c',e',k1,by simp at k2;omega,k3⟩
theorem mC (hM:1073742848≤N) {a:List Int} (ha:eu a) {p h n m y:Int} (hc:cD a p) (hm:0<m∧m≤100) (hn:0≤n∧n≤5) (hy:0≤y∧y≤100) :
  ∃ rows q g,gT N a p h n y m=some ((n,rows),q,g)∧cD a q∧(rows.length:Int)≤y∧∀ r∈rows,(r.length:Int)=n∧∀ v∈r,0≤v∧v<m:=by
 have hN:1073741824≤N:=by omega
 obtain ⟨x,q,g,e,b0,b1,_,hc'⟩:=cl (N:=N) ha (h:=h) (n:=y+1) hc
 have b1:=b1 (by omega)
 obtain ⟨q',g',rows,c',e',k1,k2,k3⟩:=wv hN ha (n:=n) (m:=m) (y:=0) (z:=[]) hm.1 (by omega) x.toNat N [] q g x hc' rfl (by omega) (by omega) (by simp;omega) (by simp)
 unfold gT
 rw [gQ (by omega) (by omega),bs,e,bs]
 dsimp only
 rw [e']
 simp only [List.length_nil,Nat.zero_add] at k2
 have hf:∀ r∈rows,(r.length:Int)=n∧aZ r=true:=fun r hr=>by
  have:=k3 r hr
  refine ⟨by omega,?_⟩
  unfold aZ
  refine List.all_eq_true.2 fun v hv=>?_
  have:=this.2 v hv
  unfold inR
  simp only [Bool.and_eq_true,decide_eq_true_eq]
  omega
 have hok:dB rows:=⟨by omega,fun r hr=>⟨by have:=(k3 r hr).1;omega,fun _ _=>trivial⟩⟩
 rw [bs]
 unfold lpB
 dsimp only
 rw [eJ hM hok,bs,gH hn (by omega) hf]
 have hsl:=dx 20 rows
 refine ⟨bh 20 rows,q',g',rfl,k1,by omega,fun r hr=>?_⟩
 have hr':=gL 20 rows r hr
 exact ⟨(hf r hr').1,(k3 r hr').2⟩
def qF (r:Int × aD):Prop:=(-1≤r.1∧r.1≤6)∧r.2.length≤7∧∀ w∈r.2,w.length≤6∧∀ v∈w,-1≤v∧v≤100
theorem th (hM:1073742848≤N) {a:List Int} (ha:eu a) {p h:Int} (hc:cD a p):∃ r q g,jI N a p h=some (r,q,g)∧cD a q∧qF r:=by
 have hN:1073741824≤N:=by omega
 obtain ⟨n,q,g,e,b0,b1,_,hc1⟩:=cl (N:=N) ha (h:=h) (n:=4) hc
 have b1:=b1 (by decide)
 obtain ⟨rows,q2,g2,e2,hc2,hl,hr⟩:=mC hM ha (h:=g) (n:=n) (m:=4) (y:=6) hc1 (by decide) (by omega) (by decide)
 obtain ⟨s,q3,g3,e3,_,_,_,hc3⟩:=cl (N:=N) ha (h:=g2) (n:=14) hc2
 have hsm:∀ w∈rows,w.length≤6∧∀ v∈w,-1≤v∧v≤100:=fun w hw=>by
  have:=hr w hw
  exact ⟨by omega,fun v hv=>by have:=this.2 v hv;omega⟩
 have base:qF (n,rows):=⟨⟨by show -1≤n;omega,by show n≤6;omega⟩,by show rows.length≤7;omega,hsm⟩
 unfold jI
 rw [e,bs]
 dsimp only
 rw [e2,bs]
 dsimp only
 rw [e3,bs]
 dsimp only
 cases h0:(s == 0)
 ·rw [cond_false]
  cases h1:(s == 1)
  ·rw [cond_false]
   cases h2:(s == 2)
   ·exact ⟨_,_,_,rfl,hc3,base⟩
   ·rw [cond_true]
    by_cases hp:0<rows.length
    ·rw [decide_eq_true (show (0:Int)<(rows.length:Int) by omega),cond_true]
     by_cases hn:0<n
     ·have hm0:=hr _ (List.getElem_mem hp)
      have hm1:=hsm _ (List.getElem_mem hp)
      have hp0:0<rows[0].length:=by omega
      obtain ⟨x,q4,g4,e4,hx,hc4⟩:=fP (N:=N) ha (h:=g3) hc3 (l:=[(-1),100,99]) (by decide)
      have i0:ix rows 0=some rows[0]:=aT hp
      have i1:ix rows[0] 0=some rows[0][0]:=aT hp0
      have s1:sto rows[0] 0 x=some (rows[0].set 0 x):=jv hp0
      have s2:sto rows 0 (rows[0].set 0 x)=some (rows.set 0 (rows[0].set 0 x)):=jv hp
      have hxb:-1≤x∧x≤100:=by
       simp only [List.mem_cons,List.not_mem_nil,or_false] at hx
       omega
      rw [decide_eq_true hn,cond_true,i0,bs,e4,bs,i1,bs,s1,bs,s2,bs]
      refine ⟨_,_,_,rfl,hc4,⟨base.1,by show (rows.set 0 _).length≤7;rw [List.length_set];omega,fun w hw=>?_⟩⟩
      rcases List.mem_or_eq_of_mem_set hw with h | h
      ·exact hsm w h
      ·subst h
       refine ⟨by rw [List.length_set];exact hm1.1,fun v hv=>?_⟩
       rcases List.mem_or_eq_of_mem_set hv with h | h
       ·exact hm1.2 v h
       ·rw [h];exact hxb
     ·rw [decide_eq_false hn,cond_false]
      exact ⟨_,_,_,rfl,hc3,base⟩
    ·rw [decide_eq_false (show ¬ (0:Int)<(rows.length:Int) by omega),cond_false]
     exact ⟨_,_,_,rfl,hc3,base⟩
  ·rw [cond_true]
   have hi:imx 0 n=n:=by unfold imx;split <;> omega
   obtain ⟨w,q4,g4,e4,hc4,hw1,hw2⟩:=o5 hN ha (h:=g3) (n:=n) (m:=4) hc3 (by decide) (by omega)
   rw [hi,e4,bs]
   dsimp only
   rw [bt (by decide) (by simp;omega),bs]
   refine ⟨_,_,_,rfl,hc4,base.1,by show (rows++[w]).length≤7;simp;omega,fun v hv=>?_⟩
   rcases List.mem_append.1 hv with h | h
   ·exact hsm v h
   ·rw [List.mem_singleton] at h;subst h
    exact ⟨by omega,fun v hv=>by have:=hw2 v hv;omega⟩
 ·obtain ⟨x,q4,g4,e4,hx,hc4⟩:=fP (N:=N) ha (h:=g3) hc3 (l:=[(-1),6,n+1]) (Nat.zero_lt_succ _)
  rw [cond_true,gQ (by omega) (by omega),bs,e4,bs]
  refine ⟨_,_,_,rfl,hc4,⟨?_,base.2⟩⟩
  simp only [List.mem_cons,List.not_mem_nil,or_false] at hx
  show -1≤x∧x≤6
  omega
end
end Go.Proofs.Ytnipkopfefkojaa
namespace Go.Proofs.Ytnipkopfefkojaa
open Go.RowKit

def tK (a b:List iQ):Prop:=∃ t,b=a++t
theorem tK.trans {a b c:List iQ} (h:tK a b) (k:tK b c):tK a c:=by
 obtain ⟨t,rfl⟩:=h;obtain ⟨u,rfl⟩:=k;exact ⟨t++u,by simp⟩
end Go.Proofs.Ytnipkopfefkojaa
namespace Go.Proofs.Ytnipkopfefkojaa
open Go.RowKit

def xe (ns:List iQ):Nat→Int→Int
 | 0,_=>0
 | f+1,nd=>if nd=0 then 0 else xe ns f ((ns.getD nd.toNat ([],[])).2.getD 0 0)+1
def dep (ns:List iQ) (nd:Int):Int:=xe ns ns.length nd
structure NodeOk (ns:List iQ) (i:Nat):Prop where
 lens:(ns.getD i ([],[])).1.length=(ns.getD i ([],[])).2.length
 vals:aZ (ns.getD i ([],[])).1=true
 asc:dH (ns.getD i ([],[])).1
 ne:(ns.getD i ([],[])).1≠[]
 chs:∀ c∈(ns.getD i ([],[])).2,dep ns c=dep ns ((ns.getD i ([],[])).2.getD 0 0)
 new:∀ j,1≤j→j<i→ns.getD j ([],[])≠ns.getD i ([],[])
end Go.Proofs.Ytnipkopfefkojaa
namespace Go.Proofs.Ytnipkopfefkojaa
open Go.RowKit

abbrev kQ:=Int × List aQ × List Int
def QGd (q:kQ):Prop:=(1≤q.1∧q.1≤5)∧(1≤q.2.1.length∧q.2.1.length≤4)∧(∀ a∈q.2.1,a.1.size≤4∧1≤a.2.length∧a.2.length≤5)∧q.2.2.length≤5
def QSm (q:kQ):Prop:=(0≤q.1∧q.1≤6)∧q.2.1.length≤5∧(∀ a∈q.2.1,a.1.size≤4∧a.2.length≤5)∧q.2.2.length≤6
theorem QGd.sm {q:kQ} (h:QGd q):QSm q:=⟨⟨by have:=h.1;omega,by have:=h.1;omega⟩,by have:=h.2.1;omega,fun a ha=>⟨(h.2.2.1 a ha).1,(h.2.2.1 a ha).2.2⟩,by have:=h.2.2.2;omega⟩
theorem QSm.atoms {q:kQ} (h:QSm q):du q.2.1:=⟨by have:=h.2.1;omega,fun a ha=>⟨by have:=(h.2.2.1 a ha).1;omega,by have:=(h.2.2.1 a ha).2;omega,fun _ _=>trivial⟩⟩
theorem QSm.out {q:kQ} (h:QSm q):okI q.2.2:=⟨by have:=h.2.2.2;omega,fun _ _=>trivial⟩
section
variable {N:Nat}
abbrev uV:List ByteArray:=[(⟨#[40,88,89,90,41,61,114,40,88,89,41,44,115,40,89,90,41,44,116,40,90,88,41]⟩:ByteArray),(⟨#[40,88,89,90,85,41,61,114,40,88,89,41,44,115,40,89,90,41,44,116,40,90,85,41,44,117,40,85,88,41]⟩:ByteArray),(⟨#[40,88,89,90,41,61,114,40,88,89,41,44,115,40,89,90,41]⟩:ByteArray),(⟨#[40,88,41,61,114,40,88,89,41,44,115,40,89,90,41,44,116,40,90,85,41]⟩:ByteArray),(⟨#[40,88,89,90,41,61,118,40,88,89,90,41,44,114,40,88,89,41]⟩:ByteArray),(⟨#[40,88,89,41,61,114,40,88,89,41,44,114,40,89,88,41]⟩:ByteArray),(⟨#[40,88,89,90,85,41,61,118,40,88,89,90,41,44,115,40,90,85,41,44,116,40,85,88,41]⟩:ByteArray),(⟨#[40,88,41,61,114,40,88,88,41]⟩:ByteArray),(⟨#[40,88,89,41,61,114,40,88,90,41,44,115,40,90,89,41,44,114,40,88,85,41,44,115,40,85,89,41]⟩:ByteArray),(⟨#[40,41,61,114,40,88,89,41,44,115,40,89,88,41]⟩:ByteArray),(⟨#[40,88,89,90,85,86,41,61,114,40,88,89,41,44,115,40,89,90,41,44,116,40,90,85,41,44,117,40,85,86,41]⟩:ByteArray)]
theorem wN (M:Nat):bW (M+100) (⟨#[40,88,89,90,41,61,114,40,88,89,41,44,115,40,89,90,41,44,116,40,90,88,41]⟩:ByteArray)=some ((3,[((⟨#[114]⟩:ByteArray),[0,1]),((⟨#[115]⟩:ByteArray),[1,2]),((⟨#[116]⟩:ByteArray),[2,0])],[0,1,2]),true):=by kernel_rfl
theorem wK (M:Nat):bW (M+100) (⟨#[40,88,89,90,85,41,61,114,40,88,89,41,44,115,40,89,90,41,44,116,40,90,85,41,44,117,40,85,88,41]⟩:ByteArray)=some ((4,[((⟨#[114]⟩:ByteArray),[0,1]),((⟨#[115]⟩:ByteArray),[1,2]),((⟨#[116]⟩:ByteArray),[2,3]),((⟨#[117]⟩:ByteArray),[3,0])],[0,1,2,3]),true):=by kernel_rfl
theorem wq (M:Nat):bW (M+100) (⟨#[40,88,89,90,41,61,114,40,88,89,41,44,115,40,89,90,41]⟩:ByteArray)=some ((3,[((⟨#[114]⟩:ByteArray),[0,1]),((⟨#[115]⟩:ByteArray),[1,2])],[0,1,2]),true):=by kernel_rfl
theorem wk (M:Nat):bW (M+100) (⟨#[40,88,41,61,114,40,88,89,41,44,115,40,89,90,41,44,116,40,90,85,41]⟩:ByteArray)=some ((4,[((⟨#[114]⟩:ByteArray),[0,1]),((⟨#[115]⟩:ByteArray),[1,2]),((⟨#[116]⟩:ByteArray),[2,3])],[0]),true):=by kernel_rfl
theorem ww (M:Nat):bW (M+100) (⟨#[40,88,89,90,41,61,118,40,88,89,90,41,44,114,40,88,89,41]⟩:ByteArray)=some ((3,[((⟨#[118]⟩:ByteArray),[0,1,2]),((⟨#[114]⟩:ByteArray),[0,1])],[0,1,2]),true):=by kernel_rfl
theorem wE (M:Nat):bW (M+100) (⟨#[40,88,89,41,61,114,40,88,89,41,44,114,40,89,88,41]⟩:ByteArray)=some ((2,[((⟨#[114]⟩:ByteArray),[0,1]),((⟨#[114]⟩:ByteArray),[1,0])],[0,1]),true):=by kernel_rfl
theorem wV (M:Nat):bW (M+100) (⟨#[40,88,89,90,85,41,61,118,40,88,89,90,41,44,115,40,90,85,41,44,116,40,85,88,41]⟩:ByteArray)=some ((4,[((⟨#[118]⟩:ByteArray),[0,1,2]),((⟨#[115]⟩:ByteArray),[2,3]),((⟨#[116]⟩:ByteArray),[3,0])],[0,1,2,3]),true):=by kernel_rfl
theorem wS (M:Nat):bW (M+100) (⟨#[40,88,41,61,114,40,88,88,41]⟩:ByteArray)=some ((1,[((⟨#[114]⟩:ByteArray),[0,0])],[0]),true):=by kernel_rfl
theorem wn (M:Nat):bW (M+100) (⟨#[40,88,89,41,61,114,40,88,90,41,44,115,40,90,89,41,44,114,40,88,85,41,44,115,40,85,89,41]⟩:ByteArray)=some ((4,[((⟨#[114]⟩:ByteArray),[0,2]),((⟨#[115]⟩:ByteArray),[2,1]),((⟨#[114]⟩:ByteArray),[0,3]),((⟨#[115]⟩:ByteArray),[3,1])],[0,1]),true):=by kernel_rfl
theorem wB (M:Nat):bW (M+100) (⟨#[40,41,61,114,40,88,89,41,44,115,40,89,88,41]⟩:ByteArray)=some ((2,[((⟨#[114]⟩:ByteArray),[0,1]),((⟨#[115]⟩:ByteArray),[1,0])],[]),true):=by kernel_rfl
theorem vJ (M:Nat):bW (M+100) (⟨#[40,88,89,90,85,86,41,61,114,40,88,89,41,44,115,40,89,90,41,44,116,40,90,85,41,44,117,40,85,86,41]⟩:ByteArray)=some ((5,[((⟨#[114]⟩:ByteArray),[0,1]),((⟨#[115]⟩:ByteArray),[1,2]),((⟨#[116]⟩:ByteArray),[2,3]),((⟨#[117]⟩:ByteArray),[3,4])],[0,1,2,3,4]),true):=by kernel_rfl
theorem sp (hN:1073741824≤N):∀ s∈uV,∃ q,bW N s=some (q,true)∧QGd q:=by
 obtain ⟨M,rfl⟩:∃ M,N=M+100:=⟨N-100,by omega⟩
 intro s hs
 simp only [List.mem_cons,List.not_mem_nil,or_false] at hs
 rcases hs with rfl | rfl | rfl | rfl | rfl | rfl | rfl | rfl | rfl | rfl | rfl
 ·exact ⟨_,wN M,by unfold QGd;decide⟩
 ·exact ⟨_,wK M,by unfold QGd;decide⟩
 ·exact ⟨_,wq M,by unfold QGd;decide⟩
 ·exact ⟨_,wk M,by unfold QGd;decide⟩
 ·exact ⟨_,ww M,by unfold QGd;decide⟩
 ·exact ⟨_,wE M,by unfold QGd;decide⟩
 ·exact ⟨_,wV M,by unfold QGd;decide⟩
 ·exact ⟨_,wS M,by unfold QGd;decide⟩
 ·exact ⟨_,wn M,by unfold QGd;decide⟩
 ·exact ⟨_,wB M,by unfold QGd;decide⟩
 ·exact ⟨_,vJ M,by unfold QGd;decide⟩
theorem lG {a:List Int} {l:List ByteArray} (ha:eu a) {p h:Int} (hc:cD a p) (hl:0<l.length):∃ x q g,gv N a p h l=some (x,q,g)∧x∈l∧cD a q:=by
 obtain ⟨x,q,g,e,b0,b1,_,hc'⟩:=cl (N:=N) ha (h:=h) (n:=(l.length:Int)) hc
 have b2:=b1 (by omega)
 unfold gv
 rw [e,bs]
 dsimp only
 rw [gZ b0 b2,bs]
 exact ⟨_,_,_,rfl,List.getElem_mem _,hc'⟩
theorem lI {a:List Int} (ha:eu a) {p h n:Int} (hc:cD a p):∃ b q g,gr N a p h n=some (b,q,g)∧cD a q:=by
 obtain ⟨x,q,g,e,_,_,_,hc'⟩:=cl (N:=N) ha (h:=h) (n:=n) hc
 unfold gr
 rw [e,bs]
 exact ⟨_,_,_,rfl,hc'⟩
theorem td {a:List Int} (ha:eu a) {z1 z7 z9 n:Int} {z2 z5 z8:List aQ} {z3 z6 z10:List Int} {s:ByteArray}:∀ (d k:Nat) (acc:List Int) (p h m:Int),cD a p→m.toNat=d→m≤10→d<k→acc.length+d≤100 →
  ∃ q g vs m',fh N k a p h z1 z2 z3 z7 z5 z6 n z8 z10 z9 s acc m=some (q,g,vs,m')∧cD a q∧vs.length=acc.length+d:=by
 intro d
 induction d with
 | zero =>
  intro k acc p h m hc hd _ hk _
  obtain ⟨k,rfl⟩:∃ g,k=g+1:=⟨k-1,by omega⟩
  rw [fh,decide_eq_false (show ¬ 0<m by omega),cond_false]
  exact ⟨_,_,_,_,rfl,hc,by omega⟩
 | succ d ih =>
  intro k acc p h m hc hd hm hk hl
  obtain ⟨k,rfl⟩:∃ g,k=g+1:=⟨k-1,by omega⟩
  obtain ⟨x,q,g,e,_,_,_,hc'⟩:=cl (N:=N) ha (h:=h) (n:=n) hc
  rw [fh,decide_eq_true (show 0<m by omega),cond_true,e,bs]
  dsimp only
  rw [bt (by decide) (by simp;omega),bs,gm (by omega) (by omega),bs]
  obtain ⟨q',g',vs,m',e',k1,k2⟩:=ih k (acc++[x]) q g (m-1) hc' (by omega) (by omega) (by omega) (by simp;omega)
  exact ⟨q',g',vs,m',e',k1,by simp at k2;omega⟩
theorem tB (hN:1073741824≤N) {a:List Int} (ha:eu a) {z1 z4 n:Int} {z2 z5:List aQ} {z3 z6 z7:List Int}:∀ (d k:Nat) (acc:List aQ) (p h m:Int),cD a p→m.toNat=d→m≤10→d<k→acc.length+d≤100→(∀ x∈acc,x.1.size≤4∧1≤x.2.length∧x.2.length≤5) →
  ∃ q g ats m',fq N k a p h z1 z2 z3 z4 z5 z6 n acc z7 m=some (q,g,ats,m')∧cD a q∧ats.length=acc.length+d∧∀ x∈ats,x.1.size≤4∧1≤x.2.length∧x.2.length≤5:=by
 intro d
 induction d with
 | zero =>
  intro k acc p h m hc hd _ hk _ hx
  obtain ⟨k,rfl⟩:∃ g,k=g+1:=⟨k-1,by omega⟩
  rw [fq,decide_eq_false (show ¬ 0<m by omega),cond_false]
  exact ⟨_,_,_,_,rfl,hc,by omega,hx⟩
 | succ d ih =>
  intro k acc p h m hc hd hm hk hl hx
  obtain ⟨k,rfl⟩:∃ g,k=g+1:=⟨k-1,by omega⟩
  obtain ⟨x,q,g,e,b0,b1,_,hc'⟩:=cl (N:=N) ha (h:=h) (n:=5) hc
  have b1:=b1 (by decide)
  rw [fq,decide_eq_true (show 0<m by omega),cond_true,e,bs]
  dsimp only
  have hi:x<(([(⟨#[114]⟩:ByteArray),(⟨#[115]⟩:ByteArray),(⟨#[116]⟩:ByteArray),(⟨#[117]⟩:ByteArray),(⟨#[118]⟩:ByteArray)]:List ByteArray).length:Int):=b1
  rw [gZ b0 hi,bs,x6 b0 (by decide) (by omega),bs]
  have ht:0≤x.tdiv 4∧x.tdiv 4≤1:=by
   rw [Int.tdiv_eq_ediv_of_nonneg b0];omega
  rw [gQ (by omega) (by omega),bs]
  have hs:∀ s∈([(⟨#[114]⟩:ByteArray),(⟨#[115]⟩:ByteArray),(⟨#[116]⟩:ByteArray),(⟨#[117]⟩:ByteArray),(⟨#[118]⟩:ByteArray)]:List ByteArray),s.size≤4:=by decide
  have hs':=hs _ (List.getElem_mem (l:=([(⟨#[114]⟩:ByteArray),(⟨#[115]⟩:ByteArray),(⟨#[116]⟩:ByteArray),(⟨#[117]⟩:ByteArray),(⟨#[118]⟩:ByteArray)]:List ByteArray)) (n:=x.toNat) (by omega))
  obtain ⟨q',g',vs,m',e',k1,k2⟩:=td (N:=N) ha (z1:=z1) (z2:=z2) (z3:=z3) (z7:=z4) (z5:=z5) (z6:=z6) (n:=n) (z8:=acc) (z10:=z7) (z9:=m) (s:=([(⟨#[114]⟩:ByteArray),(⟨#[115]⟩:ByteArray),(⟨#[116]⟩:ByteArray),(⟨#[117]⟩:ByteArray),(⟨#[118]⟩:ByteArray)]:List ByteArray)[x.toNat]) (2+x.tdiv 4).toNat N [] q g (2+x.tdiv 4) hc' rfl (by omega) (by omega) (by simp;omega)
  rw [e',bs]
  unfold lpB
  dsimp only
  rw [bt (by decide) (by simp;omega),bs,gm (by omega) (by omega),bs]
  simp only [List.length_nil,Nat.zero_add] at k2
  obtain ⟨q2,g2,ats,m2,e2,j1,j2,j3⟩:=ih k (acc++[(_,vs)]) q' g' (m-1) k1 (by omega) (by omega) (by omega) (by simp;omega) (fun y hy=>by
   rcases List.mem_append.1 hy with h | h
   ·exact hx y h
   ·rw [List.mem_singleton] at h;rw [h]
    exact ⟨hs',by show 1≤vs.length;omega,by show vs.length≤5;omega⟩)
  exact ⟨q2,g2,ats,m2,e2,j1,by simp at j2;omega,j3⟩
theorem sY {a:List Int} (ha:eu a) {z1 z4:Int} {n:Nat} {z2 z5 z8:List aQ} {z3 z6:List Int} (hn:n≤10):∀ (d k:Nat) (acc:List Int) (p h:Int) (i:Nat),cD a p→i+d=n→d<k→acc.length≤i →
  ∃ q g out v,dQ N k a p h z1 z2 z3 z4 z5 z6 (n:Int) z8 acc (i:Int)=some (q,g,out,v)∧cD a q∧out.length≤n:=by
 intro d
 induction d with
 | zero =>
  intro k acc p h i hc hd hk hl
  obtain ⟨k,rfl⟩:∃ g,k=g+1:=⟨k-1,by omega⟩
  rw [dQ,decide_eq_false (show ¬ (i:Int)<(n:Int) by omega),cond_false]
  exact ⟨_,_,_,_,rfl,hc,by omega⟩
 | succ d ih =>
  intro k acc p h i hc hd hk hl
  obtain ⟨k,rfl⟩:∃ g,k=g+1:=⟨k-1,by omega⟩
  obtain ⟨b,q,g,e,hc'⟩:=lI (N:=N) ha (h:=h) (n:=2) hc
  rw [dQ,decide_eq_true (show (i:Int)<(n:Int) by omega),cond_true,e,bs]
  dsimp only
  cases b with
  | true =>
   rw [cond_true,bt (by decide) (by simp;omega),bs,ad1 (by omega),bs]
   exact ih k _ q g (i+1) hc' (by omega) (by omega) (by simp;omega)
  | false =>
   rw [cond_false,ad1 (by omega),bs]
   exact ih k _ q g (i+1) hc' (by omega) (by omega) (by omega)
theorem nQ (hN:1073741824≤N) {a:List Int} (ha:eu a) {p h:Int} (hc:cD a p):∃ r q g,gG N a p h=some (r,q,g)∧cD a q∧QGd r:=by
 unfold gG
 obtain ⟨s,q,g,e,hs,hc1⟩:=lG (N:=N) ha (h:=h) (l:=uV) hc (by decide)
 obtain ⟨r,er,hr⟩:=sp hN s hs
 rw [e,bs]
 dsimp only
 rw [er,bs]
 obtain ⟨b,q2,g2,e2,hc2⟩:=lI (N:=N) ha (h:=g) (n:=3) hc1
 rw [e2,bs]
 dsimp only
 cases b with
 | false=>rw [cond_false];exact ⟨_,_,_,rfl,hc2,hr⟩
 | true =>
  obtain ⟨x,q3,g3,e3,b0,b1,_,hc3⟩:=cl (N:=N) ha (h:=g2) (n:=4) hc2
  have b1:=b1 (by decide)
  rw [cond_true,e3,bs]
  dsimp only
  obtain ⟨y,q4,g4,e4,c0,c1,_,hc4⟩:=cl (N:=N) ha (h:=g3) (n:=4) hc3
  have c1:=c1 (by decide)
  rw [gQ (by omega) (by omega),bs,e4,bs]
  dsimp only
  rw [gQ (by omega) (by omega),bs]
  obtain ⟨q5,g5,ats,m5,e5,hc5,l5,a5⟩:=tB hN ha (z1:=0) (z2:=[]) (z3:=[]) (z4:=r.1) (z5:=r.2.1) (z6:=r.2.2) (n:=1+x) (z7:=[]) (1+y).toNat N [] q4 g4 (1+y) hc4 rfl (by omega) (by omega) (by simp;omega) (by simp)
  rw [e5,bs]
  unfold lpB
  dsimp only
  have hx:((x.toNat+1:Nat):Int)=1+x:=by omega
  obtain ⟨q6,g6,out,v6,e6,hc6,l6⟩:=sY (N:=N) ha (z1:=0) (z2:=[]) (z3:=[]) (z4:=r.1) (z5:=r.2.1) (z6:=r.2.2) (n:=x.toNat+1) (z8:=ats) (by omega) (x.toNat+1) N [] q5 g5 0 hc5 (by omega) (by omega) (by simp)
  rw [hx] at e6
  have e6':dQ N N a q5 g5 0 [] [] r.1 r.2.1 r.2.2 (1+x) ats [] 0=some (q6,g6,out,v6):=e6
  simp only [List.length_nil,Nat.zero_add] at l5
  have hq:QGd (1+x,ats,out):=⟨⟨by show 1≤1+x;omega,by show 1+x≤5;omega⟩,⟨by show 1≤ats.length;omega,by show ats.length≤4;omega⟩,a5,by show out.length≤5;omega⟩
  rw [e6',bs]
  dsimp only
  rw [jK hN (QSm.atoms hq.sm) (QSm.out hq.sm),bs]
  cases fu (1+x) ats out with
  | true=>rw [cond_true];exact ⟨_,_,_,rfl,hc6,hq⟩
  | false=>rw [cond_false];exact ⟨_,_,_,rfl,hc6,hr⟩
theorem s6 (hN:1073741824≤N) {a:List Int} (ha:eu a) {p h:Int} (hc:cD a p):∃ r q g,jG N a p h=some (r,q,g)∧cD a q∧QSm r:=by
 obtain ⟨⟨n,ats,out⟩,q,g,e,hc1,hr⟩:=nQ hN ha (h:=h) hc
 obtain ⟨x,q2,g2,e2,_,_,_,hc2⟩:=cl (N:=N) ha (h:=g) (n:=14) hc1
 unfold jG
 rw [e,bs]
 dsimp only
 rw [e2,bs]
 dsimp only
 have hn:=hr.1;have ha1:=hr.2.1;have ha2:=hr.2.2.1;have ho:=hr.2.2.2
 dsimp only at hn ha1 ha2 ho
 have hsm:=hr.sm
 cases h0:(x == 0) with
 | true =>
  rw [cond_true,gQ (by omega) (by omega),bs]
  obtain ⟨y,q3,g3,e3,hy,hc3⟩:=fP (N:=N) ha (h:=g2) (l:=[0,6,n+1]) hc2 (Nat.zero_lt_succ _)
  rw [e3,bs]
  refine ⟨_,_,_,rfl,hc3,⟨?_,hsm.2⟩⟩
  simp only [List.mem_cons,List.not_mem_nil,or_false] at hy
  show 0≤y∧y≤6
  omega
 | false =>
 rw [cond_false]
 cases h1:(x == 1) with
 | true =>
  rw [cond_true]
  obtain ⟨y,q3,g3,e3,hy,hc3⟩:=lG (N:=N) ha (h:=g2) (l:=[ByteArray.empty,(⟨#[119]⟩:ByteArray),(⟨#[114]⟩:ByteArray)]) hc2 (by decide)
  have hys:∀ s∈[ByteArray.empty,(⟨#[119]⟩:ByteArray),(⟨#[114]⟩:ByteArray)],s.size≤4:=by decide
  rw [e3,bs,bt (by decide) (by simp;omega),bs]
  refine ⟨_,_,_,rfl,hc3,hsm.1,by show (ats++[_]).length≤5;simp;omega,fun b hb=>?_,hsm.2.2.2⟩
  rcases List.mem_append.1 hb with h | h
  ·exact hsm.2.2.1 b h
  ·rw [List.mem_singleton] at h;rw [h];exact ⟨hys y hy,by show ([0]:List Int).length≤5;decide⟩
 | false =>
 rw [cond_false]
 cases h2:(x == 2) with
 | true =>
  rw [cond_true]
  obtain ⟨y,q3,g3,e3,b0,b1,_,hc3⟩:=cl (N:=N) ha (h:=g2) (n:=6) hc2
  have b1:=b1 (by decide)
  rw [e3,bs]
  dsimp only
  rw [gm (by omega) (by omega),bs,bt (by decide) (by simp;omega),bs]
  exact ⟨_,_,_,rfl,hc3,hsm.1,hsm.2.1,hsm.2.2.1,by show (out++[_]).length≤6;simp;omega⟩
 | false =>
 rw [cond_false]
 have hl:0<ats.length:=by omega
 have i0:ix ats 0=some ats[0]:=aT hl
 have hm0:=ha2 _ (List.getElem_mem hl)
 cases h3:(x == 3) with
 | true =>
  have s0:sto ats 0 (ats[0].1,[])=some (ats.set 0 (ats[0].1,[])):=jv hl
  rw [cond_true,i0,bs,s0,bs]
  refine ⟨_,_,_,rfl,hc2,hsm.1,by show (ats.set 0 _).length≤5;rw [List.length_set];omega,fun b hb=>?_,hsm.2.2.2⟩
  rcases List.mem_or_eq_of_mem_set hb with h | h
  ·exact hsm.2.2.1 b h
  ·rw [h];exact ⟨hm0.1,Nat.zero_le _⟩
 | false =>
 rw [cond_false]
 cases h4:(x == 4) with
 | true =>
  obtain ⟨y,q3,g3,e3,hy,hc3⟩:=fP (N:=N) ha (h:=g2) (l:=[(-1),5]) hc2 (by decide)
  have hl1:0<ats[0].2.length:=by omega
  have i1:ix ats[0].2 0=some ats[0].2[0]:=aT hl1
  have s1:sto ats[0].2 0 y=some (ats[0].2.set 0 y):=jv hl1
  have s0:sto ats 0 (ats[0].1,ats[0].2.set 0 y)=some (ats.set 0 (ats[0].1,ats[0].2.set 0 y)):=jv hl
  rw [cond_true,i0,bs,e3,bs,i1,bs,s1,bs,s0,bs]
  refine ⟨_,_,_,rfl,hc3,hsm.1,by show (ats.set 0 _).length≤5;rw [List.length_set];omega,fun b hb=>?_,hsm.2.2.2⟩
  rcases List.mem_or_eq_of_mem_set hb with h | h
  ·exact hsm.2.2.1 b h
  ·rw [h];exact ⟨hm0.1,by show (ats[0].2.set 0 y).length≤5;rw [List.length_set];exact hm0.2.2⟩
 | false =>
 rw [cond_false]
 exact ⟨_,_,_,rfl,hc2,hsm⟩
end
end Go.Proofs.Ytnipkopfefkojaa
namespace Go.Proofs.Ytnipkopfefkojaa
open Go.RowKit

def TSm (t:ba):Prop:=t.1.size≤5∧t.2.2.length≤10∧∀ r∈t.2.2,r.length≤6
def DSm (ts:List ba):Prop:=ts.length≤6∧∀ t∈ts,TSm t
theorem DSm.ok {ts:List ba} (h:DSm ts):gK ts:=⟨by have:=h.1;omega,fun t ht=>by
 obtain ⟨h1,h2,h3⟩:=h.2 t ht
 exact ⟨by omega,by omega,fun r hr=>⟨by have:=h3 r hr;omega,fun _ _=>trivial⟩⟩⟩
section
variable {N:Nat}
abbrev jQ:List ByteArray:=[(⟨#[114]⟩:ByteArray),(⟨#[115]⟩:ByteArray),(⟨#[116]⟩:ByteArray),(⟨#[117]⟩:ByteArray),(⟨#[118]⟩:ByteArray)]
theorem um {n m y:Int} {rows:aD} {s:ByteArray} (hs:s.size≤5) (hn:n≤5) (hy:y≤10) (hl:(rows.length:Int)≤y) (hr:∀ r∈rows,(r.length:Int)=n∧∀ v∈r,0≤v∧v<m):TSm (s,(n,rows)) :=
 ⟨hs,by show rows.length≤10;omega,fun r h=>by have:=(hr r h).1;omega⟩
theorem xI (hM:1073742848≤N) {a:List Int} (ha:eu a) {z:List ba} {m:Int} (hm:0<m∧m≤100):∀ (d k:Nat) (acc:List ba) (p h:Int) (i:Nat),cD a p→i+d=5→d<k→acc.length=i→(∀ t∈acc,TSm t) →
  ∃ q g ts v,fb N k a p h z m acc jQ (jQ.length:Int) (i:Int)=some (q,g,ts,v)∧cD a q∧ts.length=5∧∀ t∈ts,TSm t:=by
 intro d
 induction d with
 | zero =>
  intro k acc p h i hc hd hk hl ht
  obtain ⟨k,rfl⟩:∃ g,k=g+1:=⟨k-1,by omega⟩
  rw [fb,decide_eq_false (show ¬ (i:Int)<(jQ.length:Int) by show ¬ (i:Int)<5;omega),cond_false]
  exact ⟨_,_,_,_,rfl,hc,by omega,ht⟩
 | succ d ih =>
  intro k acc p h i hc hd hk hl ht
  obtain ⟨k,rfl⟩:∃ g,k=g+1:=⟨k-1,by omega⟩
  have hi:i<jQ.length:=by show i<5;omega
  have hs:∀ s∈jQ,s.size≤5:=by decide
  have hs':=hs _ (List.getElem_mem hi)
  rw [fb,decide_eq_true (show (i:Int)<(jQ.length:Int) by omega),cond_true,aT hi,bs]
  obtain ⟨y,q,g,e,hy,hc1⟩:=fP (N:=N) ha (h:=h) (l:=[3,6,9]) hc (by decide)
  have hyb:0≤y∧y≤10:=by
   simp only [List.mem_cons,List.not_mem_nil,or_false] at hy
   omega
  cases eqS jQ[i] (⟨#[118]⟩:ByteArray) with
  | true =>
   obtain ⟨rows,q2,g2,e2,hc2,r1,r2⟩:=mC hM ha (h:=g) (n:=3) (m:=m) (y:=y) hc1 hm (by decide) (by omega)
   rw [cond_true,e,bs]
   dsimp only
   rw [e2,bs]
   dsimp only
   rw [bt (by decide) (by simp;omega),bs,ad1 (by omega),bs]
   refine ih k _ q2 g2 (i+1) hc2 (by omega) (by omega) (by simp;omega) fun t h=>?_
   rcases List.mem_append.1 h with h | h
   ·exact ht t h
   ·rw [List.mem_singleton] at h;rw [h];exact um hs' (by decide) hyb.2 r1 r2
  | false =>
   obtain ⟨rows,q2,g2,e2,hc2,r1,r2⟩:=mC hM ha (h:=g) (n:=2) (m:=m) (y:=y) hc1 hm (by decide) (by omega)
   rw [cond_false,e,bs]
   dsimp only
   rw [e2,bs]
   dsimp only
   rw [bt (by decide) (by simp;omega),bs,ad1 (by omega),bs]
   refine ih k _ q2 g2 (i+1) hc2 (by omega) (by omega) (by simp;omega) fun t h=>?_
   rcases List.mem_append.1 h with h | h
   ·exact ht t h
   ·rw [List.mem_singleton] at h;rw [h];exact um hs' (by decide) hyb.2 r1 r2
theorem pF {ts:List ba} {i:Nat} {t:ba} (h:∀ t∈ts,TSm t) (ht:TSm t):∀ u∈ts.set i t,TSm u:=fun u hu=>by
 rcases List.mem_or_eq_of_mem_set hu with h' | h'
 ·exact h u h'
 ·rw [h'];exact ht
theorem lO {α:Type} {xs:List α} {i:Int} {y:α} (h0:0≤i) (h:i<xs.length):sto xs i y=some (xs.set i.toNat y):=by
 obtain ⟨k,rfl⟩:=Int.eq_ofNat_of_zero_le h0
 exact jv (by omega)
theorem pJ (hM:1073742848≤N) {a:List Int} (ha:eu a) {p h:Int} (hc:cD a p):∃ ts q g,jx N a p h=some (ts,q,g)∧cD a q∧ts.length=5∧∀ t∈ts,TSm t:=by
 unfold jx
 obtain ⟨m,q,g,e,hm,hc1⟩:=fP (N:=N) ha (h:=h) (l:=[2,3,4,6]) hc (by decide)
 have hmb:0<m∧m≤100:=by
  simp only [List.mem_cons,List.not_mem_nil,or_false] at hm
  omega
 rw [e,bs]
 dsimp only
 obtain ⟨q2,g2,ts,v,e2,hc2,hl,ht⟩:=xI hM ha (z:=[]) hmb 5 N [] q g 0 hc1 rfl (by omega) rfl (by simp)
 have e2':fb N N a q g [] m [] jQ (jQ.length:Int) 0=some (q2,g2,ts,v):=e2
 rw [e2',bs]
 unfold lpB
 dsimp only
 obtain ⟨b,q3,g3,e3,hc3⟩:=lI (N:=N) ha (h:=g2) (n:=8) hc2
 rw [e3,bs]
 dsimp only
 cases b with
 | false=>rw [cond_false];exact ⟨_,_,_,rfl,hc3,hl,ht⟩
 | true =>
  obtain ⟨x,q4,g4,e4,b0,b1,_,hc4⟩:=cl (N:=N) ha (h:=g3) (n:=5) hc3
  have b1:=b1 (by decide)
  have hx:x<(ts.length:Int):=by omega
  have hm:=ht _ (List.getElem_mem (show x.toNat<ts.length by omega))
  rw [cond_true,e4,bs]
  dsimp only
  rw [gZ b0 hx,bs,lO b0 hx,bs]
  exact ⟨_,_,_,rfl,hc4,by rw [List.length_set];exact hl,pF ht ⟨hm.1,Nat.zero_le _,fun r hr=>by cases hr⟩⟩
theorem qF.t {r:Int × aD} {s:ByteArray} (hs:s.size≤5) (k:qF r):TSm (s,r):=⟨hs,by show r.2.length≤10;have:=k.2.1;omega,fun w hw=>(k.2.2 w hw).1⟩
theorem te (hM:1073742848≤N) {a:List Int} (ha:eu a) {p h:Int} (hc:cD a p):∃ ts q g,jR N a p h=some (ts,q,g)∧cD a q∧DSm ts:=by
 have hN:1073741824≤N:=by omega
 obtain ⟨ts,q,g,e,hc1,hl,ht⟩:=pJ hM ha (h:=h) hc
 obtain ⟨x,q2,g2,e2,b0,b1,_,hc2⟩:=cl (N:=N) ha (h:=g) (n:=5) hc1
 have b1:=b1 (by decide)
 obtain ⟨y,q3,g3,e3,_,_,_,hc3⟩:=cl (N:=N) ha (h:=g2) (n:=14) hc2
 have hx:x<(ts.length:Int):=by omega
 have hm:=ht _ (List.getElem_mem (show x.toNat<ts.length by omega))
 unfold jR
 rw [e,bs]
 dsimp only
 rw [e2,bs]
 dsimp only
 rw [e3,bs]
 dsimp only
 cases h0:(y == 0) with
 | true =>
  obtain ⟨s,q4,g4,e4,hs,hc4⟩:=lG (N:=N) ha (h:=g3) (l:=[ByteArray.empty,(⟨#[82]⟩:ByteArray),(⟨#[97,98,99,100,101]⟩:ByteArray),(⟨#[97]⟩:ByteArray),(⟨#[122]⟩:ByteArray)]) hc3 (by decide)
  have hss:∀ s∈[ByteArray.empty,(⟨#[82]⟩:ByteArray),(⟨#[97,98,99,100,101]⟩:ByteArray),(⟨#[97]⟩:ByteArray),(⟨#[122]⟩:ByteArray)],s.size≤5:=by decide
  rw [cond_true,e4,bs,gZ b0 hx,bs,lO b0 hx,bs]
  exact ⟨_,_,_,rfl,hc4,by rw [List.length_set];omega,pF ht ⟨hss s hs,hm.2⟩⟩
 | false =>
 rw [cond_false]
 cases h1:(y == 1) with
 | true =>
  obtain ⟨r,q4,g4,e4,hc4,hr⟩:=th hM ha (h:=g3) hc3
  rw [cond_true,e4,bs,gZ b0 hx,bs,lO b0 hx,bs]
  exact ⟨_,_,_,rfl,hc4,by rw [List.length_set];omega,pF ht (hr.t hm.1)⟩
 | false =>
 rw [cond_false]
 cases h2:(y == 2) with
 | true =>
  rw [cond_true,gZ b0 hx,bs,bt (by decide) (by simp;omega),bs]
  refine ⟨_,_,_,rfl,hc3,by simp;omega,fun t h=>?_⟩
  rcases List.mem_append.1 h with h | h
  ·exact ht t h
  ·rw [List.mem_singleton] at h;rw [h];exact hm
 | false =>
 rw [cond_false]
 cases h3:(y == 3) with
 | true =>
  have es:slc ts 0 x=some ((ts.take x.toNat).drop 0):=by
   have:=iG (xs:=ts) (lo:=0) (hi:=x.toNat) (by omega) (by omega)
   rwa [show ((x.toNat:Nat):Int)=x by omega] at this
  rw [cond_true,es,bs]
  refine ⟨_,_,_,rfl,hc3,by rw [List.drop_zero,List.length_take];omega,fun t h=>ht t (List.mem_of_mem_take (by simpa using h))⟩
 | false =>
 rw [cond_false]
 exact ⟨_,_,_,rfl,hc3,by omega,ht⟩
theorem sc (hM:1073742848≤N) {a:List Int} (ha:eu a) {p h:Int} (hc:cD a p):∃ ts r q g,i8 N a p h=some (ts,r,q,g)∧cD a q∧DSm ts∧QSm r:=by
 have hN:1073741824≤N:=by omega
 obtain ⟨ts,q,g,e,hc1,hl,ht⟩:=pJ hM ha (h:=h) hc
 obtain ⟨r,q2,g2,e2,hc2,hr⟩:=nQ hN ha (h:=g) hc1
 obtain ⟨y,q3,g3,e3,_,_,_,hc3⟩:=cl (N:=N) ha (h:=g2) (n:=24) hc2
 unfold i8
 rw [e,bs]
 dsimp only
 rw [e2,bs]
 dsimp only
 rw [e3,bs]
 dsimp only
 cases h0:(y == 0) with
 | true =>
  obtain ⟨ts2,q4,g4,e4,hc4,ht4⟩:=te hM ha (h:=g3) hc3
  rw [cond_true,e4,bs]
  exact ⟨_,_,_,_,rfl,hc4,ht4,hr.sm⟩
 | false =>
 rw [cond_false]
 cases h1:(y == 1) with
 | true =>
  obtain ⟨r2,q4,g4,e4,hc4,hr4⟩:=s6 hN ha (h:=g3) hc3
  rw [cond_true,e4,bs]
  exact ⟨_,_,_,_,rfl,hc4,⟨by omega,ht⟩,hr4⟩
 | false =>
 rw [cond_false]
 exact ⟨_,_,_,_,rfl,hc3,⟨by omega,ht⟩,hr.sm⟩
def JSm (ts:List ba) (r:kQ) (o:List Int):Prop:=DSm ts∧QSm r∧o.length≤5
theorem JSm.o {ts:List ba} {r:kQ} {o:List Int} (h:JSm ts r o):okI o:=⟨by have:=h.2.2;omega,fun _ _=>trivial⟩
theorem yf {a:List Int}:cD a 0:=⟨Int.le_refl _,by omega⟩
end
end Go.Proofs.Ytnipkopfefkojaa
namespace Go.Proofs.Ytnipkopfefkojaa
open Go.RowKit

theorem li {ts:List ba} {n:Nat} {atoms:List aQ} {order:List Int} (q:QFor ts n atoms order) {v:Int} (h0:0≤v) (h1:v<n):v∈order:=by
 apply Classical.byContradiction
 intro hn
 obtain ⟨h2,h3⟩:=eZ q.os
 have:=g9 n (v :: order) (List.nodup_cons.2 ⟨hn,h2⟩) (fun x hx=>by
  rcases List.mem_cons.1 hx with rfl | h
  ·exact ⟨h0,h1⟩
  ·have:=h3 x h;omega)
 rw [List.length_cons,q.ol] at this
 omega
end Go.Proofs.Ytnipkopfefkojaa
namespace Go.Proofs.Ytnipkopfefkojaa
open Go.RowKit

def gw (order r:List Int) (v:Int):Int:=r.getD (aY order v).toNat 0
def dw (ts:List ba) (a:aQ):aD:=(bC ts a.1).1.2
def ii (ts:List ba) (atoms:List aQ) (f:Int→Int):Prop:=∀ a∈atoms,a.2.map f∈dw ts a
theorem fM {vs:List Int} {v:Int} (h:v∈vs):∃ j:Nat,aY vs v=(j:Int)∧∃ hj:j<vs.length,vs[j]=v:=by
 rcases iJ vs v with ⟨h1,_⟩ | ⟨j,hj,e,e2,_⟩
 ·exact absurd h h1
 ·exact ⟨j,e2,hj,e⟩
theorem kY {vs:List Int} {f:Int→Int} {j:Nat} (h:j<vs.length):(vs.map f).getD j 0=f vs[j]:=by
 rw [bb (by rw [List.length_map];exact h),List.getElem_map]
theorem mJ (vars:List Int):∀ (l out:List Int),l.Nodup→(∀ v∈l,v∈vars→aY vars v∉out)→l.foldl (f7 vars) out=out++(l.filter fun v=>decide (v∈vars)).map (aY vars)
 | [],out,_,_=>by simp
 | v :: l,out,hn,ho=>by
  obtain ⟨n1,n2⟩:=List.nodup_cons.1 hn
  rw [List.foldl_cons]
  by_cases hv:v∈vars
  ·have e:f7 vars out v=out++[aY vars v]:=by
    unfold f7
    rw [decide_eq_true (k9.2 hv),decide_eq_false (ho v List.mem_cons_self hv)];rfl
   rw [e,mJ vars l _ n2 (fun w hw hwv hm=>by
    rcases List.mem_append.1 hm with h | h
    ·exact ho w (List.mem_cons_of_mem _ hw) hwv h
    ·rw [List.mem_singleton] at h
     obtain ⟨j,e1,hj,e2⟩:=fM hwv
     obtain ⟨k,e3,hk,e4⟩:=fM hv
     have:j=k:=by omega
     subst this
     rw [e2] at e4;subst e4;exact n1 hw),List.filter_cons,if_pos (by simpa using hv)]
   simp
  ·have e:f7 vars out v=out:=by
    unfold f7
    rw [decide_eq_false (fun h=>hv (k9.1 h))];rfl
   rw [e,mJ vars l _ n2 (fun w hw=>ho w (List.mem_cons_of_mem _ hw)),List.filter_cons,if_neg (by simpa using hv)]
theorem nJ {vs order x:List Int} (hn:order.Nodup):bI (cR vs x) (ik vs order)=(order.filter fun v=>decide (v∈aR vs)).map fun v=>x.getD (aY vs v).toNat 0:=by
 unfold ik
 rw [mJ _ _ _ hn (by simp),List.nil_append]
 unfold bI
 rw [List.map_map]
 refine List.map_congr_left fun v hv=>?_
 rw [List.mem_filter,decide_eq_true_eq] at hv
 obtain ⟨j,e1,hj,e2⟩:=fM hv.2
 show (cR vs x).getD (aY (aR vs) v).toNat 0=_
 unfold cR
 rw [e1,Int.toNat_natCast,kY hj,e2]
theorem rz {ts:List ba} {order:List Int} {a:aQ} {t:List Int}:t∈(je ts order a).2↔∃ x∈dw ts a,dr a.2 x=true∧t=bI (cR a.2 x) (ik a.2 order):=by
 unfold je dw
 dsimp only
 rw [di,List.mem_map]
 constructor
 ·rintro ⟨y,hy,rfl⟩
  rw [di] at hy
  unfold bB at hy
  obtain ⟨x,hx,rfl⟩:=List.mem_map.1 hy
  rw [List.mem_filter] at hx
  exact ⟨x,hx.1,hx.2,rfl⟩
 ·rintro ⟨x,h1,h2,rfl⟩
  refine ⟨_,(di _ _ _).2 (List.mem_map.2 ⟨x,List.mem_filter.2 ⟨h1,h2⟩,rfl⟩),rfl⟩
theorem rJ {vs order r:List Int} (hn:order.Nodup):∀ m,m≤order.length→f6 vs order r m=((order.take m).filter fun v=>decide (v∈vs)).map (gw order r)
 | 0,_=>rfl
 | m+1,h=>by
  rw [jB,rJ hn m (by omega),List.take_succ_eq_append_getElem (by omega),List.filter_append,List.map_append,bb (by omega)]
  by_cases hv:order[m]∈vs
  ·rw [decide_eq_true hv,cond_true,List.filter_cons,if_pos (by simpa using hv)]
   simp only [List.filter_nil,List.map_cons,List.map_nil]
   unfold gw
   rw [lb hn,Int.toNat_natCast]
  ·rw [decide_eq_false hv,cond_false,List.filter_cons,if_neg (by simpa using hv)]
   simp
theorem pn {vs x:List Int} (h:dr vs x=true) {i:Nat} (hi:i<vs.length):x.getD (aY vs vs[i]).toNat 0=x.getD i 0:=by
 unfold dr jO at h
 rw [List.all_eq_true] at h
 have:=h i (by simp;omega)
 unfold lj at this
 rw [decide_eq_true_eq,bb hi] at this
 exact this
theorem oQ {vs x:List Int} (h:∀ i (hi:i<vs.length),x.getD (aY vs vs[i]).toNat 0=x.getD i 0):dr vs x=true:=by
 unfold dr jO
 rw [List.all_eq_true]
 intro i hi
 have hi:i<vs.length:=by simpa using hi
 unfold lj
 rw [decide_eq_true_eq,bb hi]
 exact h i hi
section
variable {ts:List ba} {n:Nat} {atoms:List aQ} {order:List Int}
theorem mq (q:QFor ts n atoms order):order.Nodup:=(eZ q.os).1
theorem oH (q:QFor ts n atoms order) {a:aQ} {r:List Int} (hr:r.length=n):mI a.2 order r=(order.filter fun v=>decide (v∈aR a.2)).map (gw order r):=by
 unfold mI
 have hb:=(eZ q.os).2
 have h5:=q.n5
 rw [rJ (mq q) _ (by rw [q.ol,hr];exact Nat.le_refl _),hr,← q.ol,List.take_length]
 congr 1
 refine List.filter_congr fun v hv=>?_
 rw [decide_eq_decide,dS]
 have:=hb v hv
 exact ⟨fun h=>⟨by omega,h⟩,fun h=>h.2⟩
theorem jl (q:QFor ts n atoms order) {a:aQ} (ha:a∈atoms) {x:List Int} (hx:x∈dw ts a):x.length=a.2.length∧aZ x=true:=by
 obtain ⟨h1,h2⟩:=q.af a ha
 obtain ⟨_,h4⟩:=mu h1 h2
 obtain ⟨i,hi,rfl⟩:=List.getElem_of_mem hx
 exact h4 i hi
theorem rl (q:QFor ts n atoms order) {a:aQ} (ha:a∈atoms) {r:List Int} (hr:r.length=n):mI a.2 order r∈(je ts order a).2↔a.2.map (gw order r)∈dw ts a:=by
 have hnd:=mq q
 obtain ⟨hl5,hl1,hv⟩:=q.al a ha
 have hF:∀ v∈a.2,v∈order.filter fun v=>decide (v∈aR a.2):=fun v hm=>by
  have h5:=q.n5
  have:=hv v hm
  rw [List.mem_filter,decide_eq_true_eq,dS]
  exact ⟨li q this.1 this.2,by omega,hm⟩
 have hF2:∀ v,v∈(order.filter fun v=>decide (v∈aR a.2))→v∈a.2:=fun v hm=>by
  rw [List.mem_filter,decide_eq_true_eq,dS] at hm
  exact hm.2.2
 rw [rz,oH q hr]
 constructor
 ·rintro ⟨x,hx,hf,e⟩
  rw [nJ hnd,List.map_inj_left] at e
  have hxl:=(jl q ha hx).1
  have:a.2.map (gw order r)=x:=by
   refine List.ext_getElem (by rw [List.length_map,hxl]) fun i h1 h2=>?_
   have hi:i<a.2.length:=by rw [← hxl];exact h2
   rw [List.getElem_map,e _ (hF _ (List.getElem_mem hi)),pn hf hi,bb h2]
  rw [this];exact hx
 ·intro hx
  have key:∀ v∈a.2,(a.2.map (gw order r)).getD (aY a.2 v).toNat 0=gw order r v:=fun v hm=>by
   obtain ⟨j,e1,hj,e2⟩:=fM hm
   rw [e1,Int.toNat_natCast,kY hj,e2]
  refine ⟨_,hx,oQ fun i hi=>?_,?_⟩
  ·rw [key _ (List.getElem_mem hi),kY hi]
  ·rw [nJ hnd]
   exact List.map_congr_left fun v hm=>(key v (hF2 v hm)).symm
theorem oJ {f:Nxt}:∀ {m:Nat} {p r:List Int},r∈(c7 f m p).1↔∃ s,r=p++s∧s.length=m∧∀ l (h:l<s.length),s[l]∈(f (p++s.take l)).1
 | 0,p,r=>by
  constructor
  ·intro h;exact ⟨[],by rw [List.append_nil];exact List.mem_singleton.1 h,rfl,fun l h=>absurd h (Nat.not_lt_zero _)⟩
  ·rintro ⟨s,rfl,hs,_⟩
   rw [List.length_eq_zero_iff.1 hs,List.append_nil];exact List.mem_singleton.2 rfl
 | m+1,p,r=>by
  constructor
  ·intro h
   obtain ⟨v,hv,h⟩:=List.mem_flatMap.1 h
   obtain ⟨s,rfl,hs,hl⟩:=oJ.1 h
   refine ⟨v :: s,by simp,by simp [hs],fun l h=>?_⟩
   cases l with
   | zero=>simpa using hv
   | succ l =>
    have:=hl l (by simpa using h)
    simpa using this
  ·rintro ⟨s,rfl,hs,hl⟩
   cases s with
   | nil=>simp at hs
   | cons v s =>
    have h0:=hl 0 (by simp)
    rw [List.take_zero,List.append_nil] at h0
    refine List.mem_flatMap.2 ⟨v,h0,oJ.2 ⟨s,by simp,by simpa using hs,fun l h=>?_⟩⟩
    have:=hl (l+1) (by simpa using h)
    simpa using this
theorem qp (q:QFor ts n atoms order) {p:List Int} (hp:p.length<n) {x:Int}:x∈(fi ts order atoms p).1↔∀ i,i<atoms.length→order.getD p.length 0∈(iW atoms i).2→x∈atV ts order atoms p i:=by
 have ha:=tu q hp
 have k1:=oW (ls:=im ts order atoms p) (B:=16) fun l hl=>(ll q l hl).1
 have hm:(∀ l∈im ts order atoms p,x∈l)↔∀ i,i<atoms.length→order.getD p.length 0∈(iW atoms i).2→x∈atV ts order atoms p i:=by
  unfold im
  constructor
  ·intro h i hi hv
   exact h _ (List.mem_map.2 ⟨i,la.2 ⟨hi,hv⟩,rfl⟩)
  ·intro h l hl
   obtain ⟨i,hi,rfl⟩:=List.mem_map.1 hl
   exact h i (la.1 hi).1 (la.1 hi).2
 rw [← hm]
 exact ⟨fun h=>k1.2.1 x h,fun h=>k1.2.2.2.2 ha x h⟩
theorem qf {vs order r:List Int}:∀ {l m:Nat},l≤m→m≤r.length→f6 vs order (r.take m) l=f6 vs order r l
 | 0,_,_,_=>rfl
 | l+1,m,h,hm=>by
  rw [jB,jB,qf (by omega) hm,bb (xs:=r.take m) (by rw [List.length_take];omega),bb (xs:=r) (by omega),List.getElem_take]
theorem rK {vs order r:List Int}:∀ {l m:Nat},l≤m→∃ t,f6 vs order r m=f6 vs order r l++t
 | l,0,h=>by
  obtain rfl:l=0:=by omega
  exact ⟨[],by simp⟩
 | l,m+1,h=>by
  by_cases e:l=m+1
  ·subst e;exact ⟨[],by simp⟩
  ·obtain ⟨t,ht⟩:=rK (vs:=vs) (order:=order) (r:=r) (show l≤m by omega)
   rw [jB,ht]
   cases decide (order.getD m 0∈vs)
   ·exact ⟨t,rfl⟩
   ·exact ⟨t++[r.getD m 0],by simp⟩
theorem pZ {vs order r:List Int}:∀ {m:Nat},f6 vs order r m≠[]→∃ l,l<m∧order.getD l 0∈vs∧f6 vs order r m=f6 vs order r l++[r.getD l 0]
 | 0,h=>absurd rfl h
 | m+1,h=>by
  rw [jB] at h ⊢
  by_cases hv:order.getD m 0∈vs
  ·rw [decide_eq_true hv,cond_true];exact ⟨m,by omega,hv,rfl⟩
  ·rw [decide_eq_false hv,cond_false] at h ⊢
   obtain ⟨l,h1,h2,h3⟩:=pZ h
   exact ⟨l,by omega,h2,h3⟩
theorem rn (q:QFor ts n atoms order) {a:aQ} (ha:a∈atoms) {t:List Int} (ht:t∈(je ts order a).2):(t.length:Int)=(je ts order a).1:=by
 obtain ⟨_,_,h3,_⟩:=oD q ha
 obtain ⟨_,_,_,h4⟩:=bu h3
 obtain ⟨i,hi,rfl⟩:=List.getElem_of_mem ht
 exact (h4 i hi).1
theorem lp (q:QFor ts n atoms order) {r:List Int}:r∈(c7 (fi ts order atoms) n []).1↔r.length=n∧ii ts atoms (gw order r):=by
 have hol:=q.ol
 have step:∀ {r:List Int},r.length=n→((∀ l (h:l<r.length),r[l]∈(fi ts order atoms (r.take l)).1)↔∀ a∈atoms,mI a.2 order r∈(je ts order a).2):=by
  intro r hr
  have own:∀ {l:Nat} (vs:List Int),l≤n→mI vs order (r.take l)=f6 vs order r l:=fun {l} vs hl=>by
   unfold mI
   rw [List.length_take,Nat.min_eq_left (by omega),qf (Nat.le_refl _) (by omega)]
  have full:∀ vs:List Int,mI vs order r=f6 vs order r n:=fun vs=>by unfold mI;rw [hr]
  constructor
  ·intro h a ha
   obtain ⟨i,hi,rfl⟩:=List.getElem_of_mem ha
   rw [full]
   have hne:f6 atoms[i].2 order r n≠[]:=fun e=>by
    have h2:=oH q (a:=atoms[i]) hr
    rw [full,e] at h2
    obtain ⟨_,h1,hv⟩:=q.al _ ha
    have h3:=hv _ (List.getElem_mem (show 0<atoms[i].2.length by omega))
    have h5:=q.n5
    have h4:atoms[i].2[0]'(by omega)∈order.filter fun v=>decide (v∈aR atoms[i].2):=by
     rw [List.mem_filter,decide_eq_true_eq,dS]
     exact ⟨li q h3.1 h3.2,by omega,List.getElem_mem _⟩
    have:=congrArg List.length h2
    rw [List.length_map] at this
    have h6:=List.length_pos_of_mem h4
    simp at this
    omega
   obtain ⟨l,h1,h2,h3⟩:=pZ hne
   have hk:=(qp q (p:=r.take l) (by rw [List.length_take];omega)).1 (h l (by omega)) i hi (by rw [List.length_take,Nat.min_eq_left (by omega),jr hi];exact h2)
   unfold atV at hk
   rw [jr hi,own _ (by omega)] at hk
   unfold kF at hk
   split at hk
   ·obtain ⟨t,ht,e1,e2⟩:=nC.1 hk
    have htl:=rn q ha ht
    have hown:=oH q (a:=atoms[i]) hr
    rw [full] at hown
    have hlen:(f6 atoms[i].2 order r n).length=t.length:=by
     obtain ⟨x,_,_,e5⟩:=rz.1 ht
     rw [nJ (mq q)] at e5
     rw [hown,e5,List.length_map,List.length_map]
    have:f6 atoms[i].2 order r n=t:=by
     rw [h3] at hlen ⊢
     rw [List.length_append] at hlen
     refine List.ext_getElem (by rw [List.length_append];exact hlen) fun j j1 j2=>?_
     by_cases hj:j<(f6 atoms[i].2 order r l).length
     ·rw [List.getElem_append_left hj]
      have:=List.getElem_of_eq e1.symm (i:=j) hj
      rw [this,List.getElem_take]
     ·have hj':j=(f6 atoms[i].2 order r l).length:=by simp at j1;omega
      subst hj'
      rw [List.getElem_append_right (Nat.le_refl _)]
      simp only [Nat.sub_self,List.getElem_cons_zero]
      rw [bb (by omega)] at e2 ⊢
      exact e2
    rw [this];exact ht
   ·cases hk
  ·intro h l hl
   refine (qp q (by rw [List.length_take];omega)).2 fun i hi hv=>?_
   rw [List.length_take,Nat.min_eq_left (by omega),jr hi] at hv
   have ha:=List.getElem_mem hi
   have ht:=h _ ha
   rw [full] at ht
   have htl:=rn q ha ht
   unfold atV
   rw [jr hi,own _ (by omega)]
   obtain ⟨t,e⟩:=rK (vs:=atoms[i].2) (order:=order) (r:=r) (show l+1≤n by omega)
   rw [jB,decide_eq_true hv,cond_true,List.append_assoc] at e
   have hlt:(f6 atoms[i].2 order r l).length<(f6 atoms[i].2 order r n).length:=by rw [e];simp
   unfold kF
   rw [if_pos (by omega),nC]
   refine ⟨_,ht,by rw [e];simp,?_⟩
   rw [e,bb (xs:=_++_) (by simp),List.getElem_append_right (Nat.le_refl _)]
   simp only [Nat.sub_self,List.cons_append,List.nil_append,List.getElem_cons_zero]
   rw [bb (by omega)]
 rw [oJ]
 constructor
 ·rintro ⟨s,e,hs,hl⟩
  rw [List.nil_append] at e
  subst e
  refine ⟨hs,fun a ha=>(rl q ha hs).1 ((step hs).1 (fun l h=>?_) a ha)⟩
  have:=hl l h
  rwa [List.nil_append] at this
 ·rintro ⟨hr,hb⟩
  refine ⟨r,rfl,hr,fun l h=>?_⟩
  rw [List.nil_append]
  exact (step hr).2 (fun a ha=>(rl q ha hr).2 (hb a ha)) l h
end
end Go.Proofs.Ytnipkopfefkojaa
