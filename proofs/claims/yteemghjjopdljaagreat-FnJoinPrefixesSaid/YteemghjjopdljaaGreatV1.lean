/- What functions of the program come to, written out by a program: none where a bound is passed. -/
import Derived.Test.YteemghjjopdljaaGreatV0
namespace Go.Proofs.YteemghjjopdljaaGreat
open Go.RowKit
def dv (N:Nat):Nat->yP->Int->Option (Sum Bool Int)
 | 0,_,_=>none
 | k+1,U,J=>(bif decide (J<(U.length:Int)) then (sb J 1).bind fun Y=>(ix U Y).bind fun Z=>(ix U J).bind fun Nt=>(bif decide (Nt<=Z) then some (.inl false) else (ad J 1).bind fun Nu=>dv N k U Nu) else some (.inr J))
def io (N:Nat) (a0:yP):Option Bool:=(dv N N a0 1).bind fun J=>lpS J (fun q=>some q) fun U=>some true
def ff (N:Nat):Nat->T2_->T2_->Int->Int->Option (Sum Bool Int)
 | 0,_,_,_,_=>none
 | k+1,Z,U,Y,J=>(bif decide (J<Y) then (ix U J).bind fun Nt=>(io N Nt).bind fun Nu=>(bif Nu then (ad J 1).bind fun Nv=>ff N k Z U Y Nv else some (.inl false)) else some (.inr J))
def jW (N:Nat) (a0:T2_):Option Bool:=(ff N N a0 a0 (a0.length:Int) 0).bind fun J=>lpS J (fun q=>some q) fun U=>some (decide (0<(a0.length:Int)))
def cU (N:Nat):Nat->Int->T2_->Int->Int->Option T1_
 | 0,_,_,_,_=>none
 | k+1,Z,U,Y,J=>(bif decide (J<Y) then (ix U J).bind fun Nt=>(bif (J == 0) then (ad J 1).bind fun Nu=>cU N k (Nt.length:Int) U Y Nu else (bif decide ((Nt.length:Int)<Z) then (ad J 1).bind fun Nv=>cU N k (Nt.length:Int) U Y Nv else (ad J 1).bind fun Nw=>cU N k Z U Y Nw)) else some (Z,J))
def j6 (N:Nat) (a0:T2_):Option Int:=(cU N N 0 a0 (a0.length:Int) 0).bind fun J=>lpB J fun (U,Y)=>some U
def lf (N:Nat):Nat->yP->Int->Int->Option (Sum Int Int)
 | 0,_,_,_=>none
 | k+1,U,Y,J=>(bif decide (J<(U.length:Int)) then (ix U J).bind fun Z=>(bif decide (Y<=Z) then some (.inl J) else (ad J 1).bind fun Nt=>lf N k U Y Nt) else some (.inr J))
def lD (N:Nat) (a0:yP) (a1 a2:Int):Option Int:=(lf N N a0 a2 (imx 0 a1)).bind fun J=>lpS J (fun q=>some q) fun U=>some (a0.length:Int)
def f9 (N:Nat):Nat->T2_->yP->Int->T2_->Int->Int->Option Int
 | 0,_,_,_,_,_,_=>none
 | k+1,U,Y,J,Z,Nt,Nu=>(bif decide (0<J) then (sb J 1).bind fun Nv=>(ix U Nv).bind fun Nw=>(ix Nw 0).bind fun Nx=>(ix Y 0).bind fun Ny=>(bif decide (Ny<Nx) then (sb J 1).bind fun Nz=>f9 N k U Y Nz Z Nt Nu else some J) else some J)
def c5 (N:Nat):Nat->T2_->T2_->Int->Int->Option (T2_×Int)
 | 0,_,_,_,_=>none
 | k+1,J,Y,Z,U=>(bif decide (U<Z) then (ix Y U).bind fun Nt=>(f9 N N J Nt (J.length:Int) Y Z U).bind fun Nv=>lpB Nv fun Nu=>(slc J 0 Nu).bind fun Nw=>(slc J Nu (J.length:Int)).bind fun Nx=>(apd 24 [] Nw).bind fun Ny=>(apd 24 Ny [Nt]).bind fun Nz=>(apd 24 Nz Nx).bind fun NA=>(ad U 1).bind fun NB=>c5 N k NA Y Z NB else some (J,U))
def fb (N:Nat):Nat->T2_->yP->Int->yP->Int->Option (yP×Int)
 | 0,_,_,_,_,_=>none
 | k+1,Nt,U,Nu,Nv,Z=>(sb Z 1).bind fun Nz=>(rm Nz (Nt.length:Int)).bind fun J=>(ix Nt J).bind fun Y=>(ix U J).bind fun NA=>(ix Y NA).bind fun NB=>(bif (NB == Nu) then (apd 8 Nv [Nu]).bind fun Ny=>(ix U J).bind fun NC=>(ad NC 1).bind fun ND=>(ix U J).bind fun NO=>(sto U J ND).bind fun Nw=>(ix Nw J).bind fun NE=>(bif (NE == (Y.length:Int)) then some (Ny,Z) else (ix Nw J).bind fun NF=>(ix Y NF).bind fun NG=>(ad Z 1).bind fun NH=>fb N k Nt Nw NG Ny NH) else (ix U J).bind fun NI=>(lD N Y NI Nu).bind fun NJ=>(ix U J).bind fun NP=>(sto U J NJ).bind fun Nx=>(ix Nx J).bind fun NK=>(bif (NK == (Y.length:Int)) then some (Nv,Z) else (ix Nx J).bind fun NL=>(ix Y NL).bind fun NM=>(ad Z 1).bind fun NN=>fb N k Nt Nx NM Nv NN))
def i6 (N:Nat) (a0:T2_):Option (yP×Int):=(jW N a0).bind fun U=>(bif U then (j6 N a0).bind fun Y=>(bif (Y == 0) then some ([],0) else (c5 N N [] a0 (a0.length:Int) 0).bind fun Z=>lpB Z fun (J,Nx)=>(mk 8 (0:Int) (J.length:Int)).bind fun Nt=>(sb (J.length:Int) 1).bind fun Nu=>(ix J Nu).bind fun Nv=>(ix Nv 0).bind fun Nw=>fb N N J Nt Nw [] 1) else some ([],0))
def ow (N:Nat) (a0:Int) (a1:T2_):Option (Int×T2_):=some (a0,a1)
def ka (N:Nat) (a0:Int) (a1:T2_):Option Bool:=(ow N a0 a1).bind fun J=>(dV N J.1 J.2).bind fun U=>some U
def dM (N:Nat):Nat->yP->Int->T2_->Int->Int->Option Int
 | 0,_,_,_,_,_=>none
 | k+1,Y,Nt,U,Z,J=>(bif decide (J<(U.length:Int)) then (ix U J).bind fun Nu=>(slc Nu 0 Z).bind fun Nv=>(gP N Nv Y).bind fun Nw=>(bif decide (Nw<0) then (ad J 1).bind fun Nx=>dM N k Y Nt U Z Nx else some J) else some J)
def di (N:Nat):Nat->yP->Int->T2_->Int->Int->Int->Option Int
 | 0,_,_,_,_,_,_=>none
 | k+1,Y,Nt,U,Z,Nu,J=>(bif decide (J<(U.length:Int)) then (ix U J).bind fun Nv=>(slc Nv 0 Z).bind fun Nw=>(gP N Nw Y).bind fun Nx=>(bif (Nx == 0) then (ad J 1).bind fun Ny=>di N k Y Nt U Z Nu Ny else some J) else some J)
def lp (N:Nat) (a0:Int) (a1:T2_) (a2:yP):Option T1_:=(bif decide (a0<(a2.length:Int)) then some (0,0) else (ka N a0 a1).bind fun U=>(bif U then (dM N N a2 a0 a1 (a2.length:Int) 0).bind fun Y=>lpB Y fun J=>(di N N a2 a0 a1 (a2.length:Int) J J).bind fun Z=>lpB Z fun Nt=>some (J,Nt) else some (0,0)))
def df (N:Nat):Nat->Int->yP->T2_->Int->Int->Option (yP×Int)
 | 0,_,_,_,_,_=>none
 | k+1,U,J,Z,Nt,Y=>(bif decide (Y<Nt) then (ix Z Y).bind fun Nu=>(bif ((J.length:Int) == 0) then (ix Nu U).bind fun Nv=>(apd 8 J [Nv]).bind fun Nw=>(ad Y 1).bind fun Nx=>df N k U Nw Z Nt Nx else (sb (J.length:Int) 1).bind fun Ny=>(ix J Ny).bind fun Nz=>(ix Nu U).bind fun NA=>(bif (Nz != NA) then (ix Nu U).bind fun NB=>(apd 8 J [NB]).bind fun NC=>(ad Y 1).bind fun ND=>df N k U NC Z Nt ND else (ad Y 1).bind fun NE=>df N k U J Z Nt NE)) else some (J,Y))
def k9 (N:Nat) (a0:Int) (a1:T2_) (a2:yP):Option yP:=(bif decide (a0<=(a2.length:Int)) then some [] else (ka N a0 a1).bind fun Y=>(bif Y then (lp N a0 a1 a2).bind fun J=>(slc a1 J.1 J.2).bind fun U=>(df N N (a2.length:Int) [] U (U.length:Int) 0).bind fun Z=>lpB Z fun (Nt,Nu)=>some Nt else some []))
def eI (N:Nat):Nat->(List (Int×T2_))->yP->yP->T2_->Int->ByteArray->yP->yP->(List (ByteArray×yP))->Int->Int->yP->Int->Int->Option (yP×Int)
 | 0,_,_,_,_,_,_,_,_,_,_,_,_,_,_=>none
 | k+1,Nw,U,Nx,Ny,Nz,Y,Z,Nt,NA,NB,NC,Nu,Nv,J=>(bif decide (J<Nv) then (ix Nu J).bind fun ND=>(ix U J).bind fun NE=>(gq N Y Z NE).bind fun NF=>(bif NF then (apd 8 Nt [ND]).bind fun NG=>(ad J 1).bind fun NH=>eI N k Nw U Nx Ny Nz Y Z NG NA NB NC Nu Nv NH else (ad J 1).bind fun NI=>eI N k Nw U Nx Ny Nz Y Z Nt NA NB NC Nu Nv NI) else some (Nt,J))
def eQ (N:Nat):Nat->(List (Int×T2_))->yP->yP->T2_->(List (ByteArray×yP))->Int->Int->Option (T2_×Int)
 | 0,_,_,_,_,_,_,_=>none
 | k+1,Y,Z,U,Nt,Nu,Nv,J=>(bif decide (J<Nv) then (ix Nu J).bind fun Nw=>(ix Z (U.length:Int)).bind fun Ny=>(gq N Nw.1 Nw.2 Ny).bind fun Nz=>(bif Nz then (eI N N Y Z U Nt J Nw.1 Nw.2 [] Nu Nv J U (U.length:Int) 0).bind fun NA=>lpB NA fun (NB,NG)=>(ix Y J).bind fun Nx=>(k9 N Nx.1 Nx.2 NB).bind fun NC=>(apd 24 Nt [NC]).bind fun ND=>(ad J 1).bind fun NE=>eQ N k Y Z U ND Nu Nv NE else (ad J 1).bind fun NF=>eQ N k Y Z U Nt Nu Nv NF) else some (Nt,J))
def nB (N:Nat) (a0:Int) (a1:List (ByteArray×yP)) (a2:yP) (a3:List (Int×T2_)) (a4 a5:yP):Option T2_:=(eQ N N a3 a4 a5 [] a1 (a1.length:Int) 0).bind fun J=>lpB J fun (U,Y)=>some U
def bG (N:Nat):Nat->(List (Int×T2_))->yP->Int->Int->(List (ByteArray×yP))->yP->Int->Int->T2_->yP->T2_->Int->Int->yP->Int->Int->Option (T2_×Int)
 | 0,_,_,_,_,_,_,_,_,_,_,_,_,_,_,_,_=>none
 | k+1,Nu,Nv,Nw,Nx,Ny,Nz,NA,NB,U,Y,NC,ND,NE,Z,Nt,J=>(bif decide (J<Nt) then (ix Z J).bind fun NF=>(kQ N Y).bind fun NG=>(apd 8 NG [NF]).bind fun NH=>(apd 24 U [NH]).bind fun NI=>(ad J 1).bind fun NJ=>bG N k Nu Nv Nw Nx Ny Nz NA NB NI Y NC ND NE Z Nt NJ else some (U,J))
def bF (N:Nat):Nat->(List (Int×T2_))->yP->Int->Int->(List (ByteArray×yP))->yP->Int->Int->T2_->T2_->Int->Int->Option (Int×T2_×Int)
 | 0,_,_,_,_,_,_,_,_,_,_,_,_=>none
 | k+1,U,Y,Ny,Z,Nt,Nu,Nz,NA,NB,Nv,Nw,J=>(bif decide (J<Nw) then (ix Nv J).bind fun NC=>(nB N Z Nt Nu U Y NC).bind fun NE=>(i6 N NE).bind fun Nx=>(ad Nz Nx.2).bind fun ND=>(bG N N U Y Ny Z Nt Nu ND NA NB NC Nv Nw J Nx.1 (Nx.1.length:Int) 0).bind fun NF=>lpB NF fun (NG,NI)=>(ad J 1).bind fun NH=>bF N k U Y Ny Z Nt Nu ND NA NG Nv Nw NH else some (Nz,NB,J))
def bN (N:Nat):Nat->(List (Int×T2_))->yP->Int->Int->(List (ByteArray×yP))->yP->T2_->Int->Int->Option (T2_×Int×Int)
 | 0,_,_,_,_,_,_,_,_,_=>none
 | k+1,Z,Nt,U,Nu,Nv,Nw,Y,Nx,J=>(bif decide (J<U) then (bF N N Z Nt U Nu Nv Nw Nx J [] Y (Y.length:Int) 0).bind fun Ny=>lpB Ny fun (Nz,NA,NC)=>(ad J 1).bind fun NB=>bN N k Z Nt U Nu Nv Nw NA Nz NB else some (Y,Nx,J))
def eN (N:Nat) (a0:Int) (a1:List (ByteArray×yP)) (a2:yP) (a3:List (Int×T2_)) (a4:yP) (a5:Int):Option (T2_×Int×Bool):=(bN N N a3 a4 a5 a0 a1 a2 ([[]]) 0 0).bind fun U=>lpB U fun (J,Y,Z)=>some (J,Y,decide ((J.length:Int)<=4000))
def dI (N:Nat):Nat->ByteArray->yP->yP->Int->Option (yP×Int)
 | 0,_,_,_,_=>none
 | k+1,U,Y,Z,J=>(bif decide (J<5) then (eD N U Y J).bind fun Nt=>(bif Nt then (apd 8 Z [J]).bind fun Nu=>(ad J 1).bind fun Nv=>dI N k U Y Nu Nv else (ad J 1).bind fun Nw=>dI N k U Y Z Nw) else some (Z,J))
def jj (N:Nat) (a0:ByteArray) (a1:yP):Option yP:=(dI N N a0 a1 [] 0).bind fun J=>lpB J fun (U,Y)=>some U
def eZ (N:Nat):Nat->ByteArray->yP->Int->T2_->yP->Int->T2_->Int->T2_->T2_->Int->yP->Int->Option (yP×Int)
 | 0,_,_,_,_,_,_,_,_,_,_,_,_,_=>none
 | k+1,Nv,Y,Nw,Nx,U,Ny,Z,Nz,NA,NB,Nt,Nu,J=>(bif decide (J<(U.length:Int)) then (ix Z Nt).bind fun NC=>(ix U J).bind fun ND=>(i8 N Y ND).bind fun NE=>(ix NC NE).bind fun NF=>(apd 8 Nu [NF]).bind fun NG=>(ad J 1).bind fun NH=>eZ N k Nv Y Nw Nx U Ny Z Nz NA NB Nt NG NH else some (Nu,J))
def dc (N:Nat):Nat->ByteArray->yP->Int->T2_->yP->Int->T2_->Int->T2_->T2_->Int->yP->Bool->Int->Option (Bool×Int)
 | 0,_,_,_,_,_,_,_,_,_,_,_,_,_,_=>none
 | k+1,Nv,U,Nw,Nx,Y,Ny,Z,Nz,NA,NB,Nt,Nu,NC,J=>(bif decide (J<(U.length:Int)) then (ix U J).bind fun NE=>(i8 N Y NE).bind fun ND=>(bif NC then (bif decide (0<=ND) then (ix Nu ND).bind fun NF=>(ix Z Nt).bind fun NG=>(ix NG J).bind fun NH=>(ad J 1).bind fun NI=>dc N k Nv U Nw Nx Y Ny Z Nz NA NB Nt Nu (NF == NH) NI else (ad J 1).bind fun NJ=>dc N k Nv U Nw Nx Y Ny Z Nz NA NB Nt Nu false NJ) else (ad J 1).bind fun NK=>dc N k Nv U Nw Nx Y Ny Z Nz NA NB Nt Nu false NK) else some (NC,J))
def eh (N:Nat):Nat->ByteArray->yP->Int->T2_->yP->Int->T2_->Int->T2_->T2_->Int->Option (T2_×Int)
 | 0,_,_,_,_,_,_,_,_,_,_,_=>none
 | k+1,Z,Nt,Nu,Nv,Nw,Nx,U,Ny,Nz,Y,J=>(bif decide (J<(U.length:Int)) then (eZ N N Z Nt Nu Nv Nw Nx U Ny Nz Y J [] 0).bind fun NB=>lpB NB fun (NA,NH)=>(dc N N Z Nt Nu Nv Nw Nx U Ny Nz Y J NA true 0).bind fun NC=>lpB NC fun (ND,NI)=>(bif ND then (apd 24 Y [NA]).bind fun NE=>(ad J 1).bind fun NF=>eh N k Z Nt Nu Nv Nw Nx U Ny Nz NE NF else (ad J 1).bind fun NG=>eh N k Z Nt Nu Nv Nw Nx U Ny Nz Y NG) else some (Y,J))
def jK (N:Nat) (a0:List (ByteArray×(Int×T2_))) (a1:ByteArray) (a2:yP):Option (Int×T2_):=(jj N a1 a2).bind fun J=>(iW N a0 a1).bind fun U=>(bif U.2 then (bif (U.1.1 != (a2.length:Int)) then some ((J.length:Int),[]) else (eh N N a1 a2 0 [] J U.1.1 U.1.2 (J.length:Int) [] [] 0).bind fun Z=>lpB Z fun (Nt,Nu)=>(eF N (J.length:Int) Nt).bind fun Y=>(bif Y.2 then some (Y.1.1,Y.1.2) else some ((J.length:Int),[]))) else some ((J.length:Int),[]))
def fK (N:Nat):Nat->(List (ByteArray×(Int×T2_)))->Int->(List (ByteArray×yP))->yP->yP->Int->Option (yP×Int)
 | 0,_,_,_,_,_,_=>none
 | k+1,Y,Nu,U,Nv,Z,J=>(bif decide (J<(U.length:Int)) then (ix U J).bind fun Nt=>(jK N Y Nt.1 Nt.2).bind fun Nw=>(apd 8 Z [(Nw.2.length:Int)]).bind fun Nx=>(ad J 1).bind fun Ny=>fK N k Y Nu U Nv Nx Ny else some (Z,J))
def nD (N:Nat) (a0:List (ByteArray×(Int×T2_))) (a1:Int) (a2:List (ByteArray×yP)) (a3:yP):Option (yP×Bool):=(kN N a0 a1 a2 a3).bind fun J=>(bif J then (fK N N a0 a1 a2 a3 [] 0).bind fun U=>lpB U fun (Y,Z)=>some (Y,true) else some ([],false))
def dE (N:Nat):Nat->Int->(List (ByteArray×yP))->yP->T6_->T3_->T3_->T6_->T3_->T3_->Int->T3_->Int->Option (T3_×Int)
 | 0,_,_,_,_,_,_,_,_,_,_,_,_=>none
 | k+1,Nt,U,Nu,Nv,Nw,Nx,Ny,Nz,NA,Y,Z,J=>(bif decide (J<(U.length:Int)) then (ix U J).bind fun NB=>(eD N NB.1 NB.2 Y).bind fun NC=>(bif NC then (apd 16 Z [(1,1)]).bind fun ND=>(ad J 1).bind fun NE=>dE N k Nt U Nu Nv Nw Nx Ny Nz NA Y ND NE else (apd 16 Z [(0,1)]).bind fun NF=>(ad J 1).bind fun NG=>dE N k Nt U Nu Nv Nw Nx Ny Nz NA Y NF NG) else some (Z,J))
def d8 (N:Nat):Nat->Int->(List (ByteArray×yP))->yP->T6_->T3_->T3_->T6_->T3_->T3_->Int->Option (T6_×T3_×Int)
 | 0,_,_,_,_,_,_,_,_,_,_=>none
 | k+1,U,Nt,Nu,Nv,Nw,Nx,Y,Z,Ny,J=>(bif decide (J<U) then (dE N N U Nt Nu Nv Nw Nx Y Z Ny J [] 0).bind fun Nz=>lpB Nz fun (NA,NE)=>(apd 24 Y [NA]).bind fun NB=>(apd 16 Z [(1,1)]).bind fun NC=>(ad J 1).bind fun ND=>d8 N k U Nt Nu Nv Nw Nx NB NC Ny ND else some (Y,Z,J))
def d6 (N:Nat):Nat->Int->(List (ByteArray×yP))->yP->T6_->T3_->T3_->T6_->T3_->T3_->Int->Option (T3_×Int)
 | 0,_,_,_,_,_,_,_,_,_,_=>none
 | k+1,Z,U,Nt,Nu,Nv,Nw,Nx,Ny,Y,J=>(bif decide (J<(U.length:Int)) then (apd 16 Y [(1,1)]).bind fun Nz=>(ad J 1).bind fun NA=>d6 N k Z U Nt Nu Nv Nw Nx Ny Nz NA else some (Y,J))
def kV (N:Nat) (a0:Int) (a1:List (ByteArray×yP)) (a2:yP):Option ((T6_×T3_×T3_)×Bool):=(fL N a0 a1 a2).bind fun Y=>(bif Y then (d8 N N a0 a1 a2 [] [] [] [] [] [] 0).bind fun Z=>lpB Z fun (J,U,Nv)=>(d6 N N a0 a1 a2 [] [] [] J U [] 0).bind fun Nt=>lpB Nt fun (Nu,Nw)=>some ((J,U,Nu),true) else some (([],[],[]),false))
def gQ (N:Nat):Nat->Int->Int->Option T1_
 | 0,_,_=>none
 | k+1,U,J=>(bif (J != 0) then (rm U J).bind fun Y=>gQ N k J Y else some (U,J))
def jb (N:Nat) (a0 a1:Int):Option Int:=(gQ N N a0 a1).bind fun J=>lpB J fun (U,Y)=>some U
def bB (N:Nat) (a0 a1:Int):Option Bool:=(dr N a1 1 1000000000).bind fun J=>(bif J then (dr N a0 (-1000000000) 1000000000).bind fun U=>(bif U then (sb 0 a0).bind fun Y=>(jb N (imx a0 Y) a1).bind fun Z=>some (Z == 1) else some false) else some false)
def iG (N:Nat):Nat->T6_->Int->Int->Int->Int->Option (Sum Bool Int)
 | 0,_,_,_,_,_=>none
 | k+1,U,Nu,Y,Z,J=>(bif decide (J<Y) then (ix U Z).bind fun Nv=>(ix Nv J).bind fun Nt=>(bB N Nt.1 Nt.2).bind fun Nw=>(bif Nw then (ad J 1).bind fun Nx=>iG N k U Nu Y Z Nx else some (.inl false)) else some (.inr J))
def iH (N:Nat):Nat->T6_->Int->Int->Int->Option (Sum Bool Int)
 | 0,_,_,_,_=>none
 | k+1,U,Z,Y,J=>(bif decide (J<(U.length:Int)) then (ix U J).bind fun Nt=>(bif ((Nt.length:Int) != Y) then some (.inl false) else (iG N N U Z Y J 0).bind fun Nu=>lpS Nu (fun q=>some (.inl q)) fun Nw=>(ad J 1).bind fun Nv=>iH N k U Z Y Nv) else some (.inr J))
def gU (N:Nat) (a0:T6_) (a1 a2:Int):Option Bool:=(iH N N a0 a1 a2 0).bind fun J=>lpS J (fun q=>some q) fun U=>some ((a0.length:Int) == a1)
def gb (N:Nat) (a0:T6_) (a1 a2:T3_):Option Bool:=(dr N (a2.length:Int) 1 5).bind fun J=>(bif J then (dr N (a1.length:Int) 1 5).bind fun U=>(bif U then (gU N a0 (a1.length:Int) (a2.length:Int)).bind fun Y=>(bif Y then (gU N ([a2]) 1 (a2.length:Int)).bind fun Z=>(bif Z then (gU N ([a1]) 1 (a1.length:Int)).bind fun Nt=>some Nt else some false) else some false) else some false) else some false)
def gB (rec:Int->Int->Int->Option T2_) (N:Nat):Nat->Int->Int->T2_->Int->T2_->Int->Option (T2_×Int)
 | 0,_,_,_,_,_,_=>none
 | k+1,Nt,Nu,Y,Z,U,J=>(bif decide (J<(U.length:Int)) then (ix U J).bind fun Nv=>(apd 8 ([Z]) Nv).bind fun Nw=>(apd 24 Y [Nw]).bind fun Nx=>(ad J 1).bind fun Ny=>gB rec N k Nt Nu Nx Z U Ny else some (Y,J))
def kM (rec:Int->Int->Int->Option T2_) (N:Nat):Nat->Int->Int->T2_->Int->Option (T2_×Int)
 | 0,_,_,_,_=>none
 | k+1,U,Y,Z,J=>(ad J Y).bind fun Nt=>(bif decide (Nt<=U) then (ad J 1).bind fun Nu=>(sb Y 1).bind fun Nv=>(rec Nu U Nv).bind fun Nw=>(gB rec N N U Y Z J Nw 0).bind fun Nx=>lpB Nx fun (Ny,NA)=>(ad J 1).bind fun Nz=>kM rec N k U Y Ny Nz else some (Z,J))
def gS:Nat->Int->Int->Int->Option T2_
 | 0,_,_,_=>none
 | N+1,a0,a1,a2=>(bif (a2 == 0) then some ([[]]) else (kM (gS N) N N a1 a2 [] a0).bind fun J=>lpB J fun (U,Y)=>some U)
def gN (N:Nat) (a0 a1:Int):Option (T1_×Bool):=(bif (a1 == 0) then some ((0,0),false) else (sb 0 4000000000000000000).bind fun Nx=>(dr N a0 Nx 4000000000000000000).bind fun Ny=>(bif Ny then (sb 0 4000000000000000000).bind fun Nz=>(dr N a1 Nz 4000000000000000000).bind fun NA=>(bif NA then (bif decide (a1<0) then (sb 0 a0).bind fun J=>(sb 0 a1).bind fun U=>(sb 0 J).bind fun NB=>(jb N (imx J NB) U).bind fun Y=>(qt J Y).bind fun Z=>(qt U Y).bind fun Nt=>(bB N Z Nt).bind fun NC=>(bif NC then some ((Z,Nt),true) else some ((0,0),false)) else (sb 0 a0).bind fun ND=>(jb N (imx a0 ND) a1).bind fun Nu=>(qt a0 Nu).bind fun Nv=>(qt a1 Nu).bind fun Nw=>(bB N Nv Nw).bind fun NE=>(bif NE then some ((Nv,Nw),true) else some ((0,0),false))) else some ((0,0),false)) else some ((0,0),false)))
def kh (N:Nat) (a0 a1 a2 a3:Int):Option (T1_×Bool):=(bB N a0 a1).bind fun U=>(bif U then (bB N a2 a3).bind fun Y=>(bif Y then (ml a0 a3).bind fun Z=>(ml a1 a2).bind fun Nt=>(gN N Z Nt).bind fun J=>some ((J.1.1,J.1.2),J.2) else some ((0,0),false)) else some ((0,0),false))
def gK (N:Nat) (a0 a1 a2 a3:Int):Option (T1_×Bool):=(bB N a0 a1).bind fun U=>(bif U then (bB N a2 a3).bind fun Y=>(bif Y then (ml a0 a2).bind fun Z=>(ml a1 a3).bind fun Nt=>(gN N Z Nt).bind fun J=>some ((J.1.1,J.1.2),J.2) else some ((0,0),false)) else some ((0,0),false))
def ik (N:Nat) (a0 a1 a2 a3:Int):Option (T1_×Bool):=(bB N a0 a1).bind fun U=>(bif U then (bB N a2 a3).bind fun Y=>(bif Y then (ml a0 a3).bind fun Z=>(ml a2 a1).bind fun Nt=>(ad Z Nt).bind fun Nu=>(ml a1 a3).bind fun Nv=>(gN N Nu Nv).bind fun J=>some ((J.1.1,J.1.2),J.2) else some ((0,0),false)) else some ((0,0),false))
def lT (N:Nat) (a0 a1 a2 a3:Int):Option (T1_×Bool):=(bB N a2 a3).bind fun U=>(bif U then (sb 0 a2).bind fun Y=>(ik N a0 a1 Y a3).bind fun J=>some ((J.1.1,J.1.2),J.2) else some ((0,0),false))
def jJ (N:Nat):Nat->T6_->Int->Int->Int->Int->Bool->Int->Option (T6_×Bool×Int)
 | 0,_,_,_,_,_,_,_=>none
 | k+1,U,Nt,Y,Nu,Nv,Nw,J=>(ix U Y).bind fun NC=>(bif decide (J<(NC.length:Int)) then (bif Nw then (ix U Nt).bind fun ND=>(ix ND J).bind fun Ny=>(gK N Nu Nv Ny.1 Ny.2).bind fun Nx=>(ix U Y).bind fun NE=>(ix NE J).bind fun Nz=>(lT N Nz.1 Nz.2 Nx.1.1 Nx.1.2).bind fun Z=>(bif Nx.2 then (ix U Y).bind fun NA=>(ix NA J).bind fun NL=>(sto NA J (Z.1.1,Z.1.2)).bind fun NF=>(sto U Y NF).bind fun NG=>(ad J 1).bind fun NH=>jJ N k NG Nt Y Nu Nv Z.2 NH else (ix U Y).bind fun NB=>(ix NB J).bind fun NM=>(sto NB J (Z.1.1,Z.1.2)).bind fun NI=>(sto U Y NI).bind fun NJ=>(ad J 1).bind fun NK=>jJ N k NJ Nt Y Nu Nv false NK) else some (U,Nw,J)) else some (U,Nw,J))
def hX (N:Nat):Nat->T6_->Int->Int->Option (Sum (Bool×T6_) (T6_×Int))
 | 0,_,_,_=>none
 | k+1,Y,J,U=>(bif decide (U<(Y.length:Int)) then (bif (U == J) then (ad U 1).bind fun Nw=>hX N k Y J Nw else (ix Y U).bind fun Nx=>(ix Nx J).bind fun Ny=>(bif (Ny.1 == 0) then (ad U 1).bind fun Nz=>hX N k Y J Nz else (ix Y U).bind fun NA=>(ix NA J).bind fun Nt=>(ix Y J).bind fun NB=>(ix NB J).bind fun Nu=>(kh N Nt.1 Nt.2 Nu.1 Nu.2).bind fun Z=>(jJ N N Y J U Z.1.1 Z.1.2 Z.2 J).bind fun NC=>lpB NC fun (Nv,ND,NF)=>(bif ND then (ad U 1).bind fun NE=>hX N k Nv J NE else some (.inl (false,Nv))))) else some (.inr (Y,U)))
def oJ (N:Nat) (a0:T6_) (a1:Int):Option (Bool×T6_):=(hX N N a0 a1 0).bind fun J=>lpS J (fun q=>some q) fun (U,Y)=>some (true,U)
def eW (N:Nat):Nat->T6_->T3_->Int->T6_->Int->Option (Sum (T3_×Bool) (T6_×Int))
 | 0,_,_,_,_,_=>none
 | k+1,Y,U,Z,Nt,J=>(bif decide (J<Z) then (ix U J).bind fun Nu=>(bB N Nu.1 Nu.2).bind fun Nw=>(bif Nw then (ix Y J).bind fun Nx=>(ix U J).bind fun Nv=>(apd 16 [] Nx).bind fun Ny=>(apd 16 Ny [(Nv.1,Nv.2)]).bind fun Nz=>(apd 24 Nt [Nz]).bind fun NA=>(ad J 1).bind fun NB=>eW N k Y U Z NA NB else some (.inl ([],false))) else some (.inr (Nt,J)))
def ga (N:Nat):Nat->Int->T6_->Int->Int->Option Int
 | 0,_,_,_,_=>none
 | k+1,U,Y,Z,J=>(bif decide (J<U) then (ix Y J).bind fun Nt=>(ix Nt Z).bind fun Nu=>(bif (Nu.1 == 0) then (ad J 1).bind fun Nv=>ga N k U Y Z Nv else some J) else some J)
def fd (N:Nat):Nat->Int->T6_->Int->Option (Sum (T3_×Bool) (T6_×Int))
 | 0,_,_,_=>none
 | k+1,Y,U,J=>(bif decide (J<Y) then (ga N N Y U J J).bind fun Nu=>lpB Nu fun Z=>(bif (Z == Y) then some (.inl ([],false)) else (ix U Z).bind fun Nv=>(ix U J).bind fun Nw=>(ix U Z).bind fun NA=>(sto U Z Nw).bind fun Nx=>(sto Nx J Nv).bind fun Ny=>(oJ N Ny J).bind fun Nt=>(bif Nt.1 then (ad J 1).bind fun Nz=>fd N k Y Nt.2 Nz else some (.inl ([],false)))) else some (.inr (U,J)))
def eS (N:Nat):Nat->Int->T6_->T3_->Int->Option (Sum (T3_×Bool) (T3_×Int))
 | 0,_,_,_,_=>none
 | k+1,Y,Z,Nv,J=>(bif decide (J<Y) then (ix Z J).bind fun Nw=>(ix Nw Y).bind fun Nt=>(ix Z J).bind fun Nx=>(ix Nx J).bind fun Nu=>(kh N Nt.1 Nt.2 Nu.1 Nu.2).bind fun U=>(bif U.2 then (apd 16 Nv [(U.1.1,U.1.2)]).bind fun Ny=>(ad J 1).bind fun Nz=>eS N k Y Z Ny Nz else some (.inl ([],false))) else some (.inr (Nv,J)))
def d5 (N:Nat) (a0:T6_) (a1:T3_):Option (T3_×Bool):=(bif decide (6<(a1.length:Int)) then some ([],false) else (gU N a0 (a1.length:Int) (a1.length:Int)).bind fun Nt=>(bif Nt then (eW N N a0 a1 (a1.length:Int) [] 0).bind fun J=>lpS J (fun q=>some q) fun (Nu,Nx)=>(fd N N (a1.length:Int) Nu 0).bind fun U=>lpS U (fun q=>some q) fun (Nv,Ny)=>(eS N N (a1.length:Int) Nv [] 0).bind fun Y=>lpS Y (fun q=>some q) fun (Z,Nw)=>some (Z,true) else some ([],false)))
def js (N:Nat) (a0 a1 a2 a3:Int):Option Int:=(bB N a0 a1).bind fun Y=>(bif Y then (bB N a2 a3).bind fun Z=>(bif Z then (ml a0 a3).bind fun J=>(ml a2 a1).bind fun U=>(bif decide (J<U) then some (-1) else (bif decide (U<J) then some 1 else some 0)) else some 0) else some 0)
def eC (N:Nat):Nat->T3_->T3_->Int->Int->Int->Int->Int->Option (Sum (T1_×Bool) (Int×Int×Int))
 | 0,_,_,_,_,_,_,_=>none
 | k+1,U,Nt,Ny,Nz,Nu,Nv,J=>(bif decide (J<(U.length:Int)) then (ix U J).bind fun Nw=>(ix Nt J).bind fun Nx=>(gK N Nw.1 Nw.2 Nx.1 Nx.2).bind fun Y=>(bif Y.2 then (ik N Nu Nv Y.1.1 Y.1.2).bind fun Z=>(bif Z.2 then (ad J 1).bind fun NA=>eC N k U Nt Ny Nz Z.1.1 Z.1.2 NA else some (.inl ((0,0),false))) else some (.inl ((0,0),false))) else some (.inr (Nu,Nv,J)))
def jB (N:Nat) (a0 a1:T3_):Option (T1_×Bool):=(bif ((a0.length:Int) != (a1.length:Int)) then some ((0,0),false) else (eC N N a0 a1 0 0 0 1 0).bind fun J=>lpS J (fun q=>some q) fun (U,Y,Z)=>some ((U,Y),true))
def cM (N:Nat):Nat->T6_->T3_->T3_->Int->Option (Sum (T3_×Bool) (T3_×Int))
 | 0,_,_,_,_=>none
 | k+1,U,Z,Nt,J=>(bif decide (J<(U.length:Int)) then (ix U J).bind fun Nu=>(jB N Nu Z).bind fun Y=>(bif Y.2 then (apd 16 Nt [(Y.1.1,Y.1.2)]).bind fun Nv=>(ad J 1).bind fun Nw=>cM N k U Z Nv Nw else some (.inl ([],false))) else some (.inr (Nt,J)))
def jF (N:Nat) (a0:T6_) (a1:T3_):Option (T3_×Bool):=(cM N N a0 a1 [] 0).bind fun J=>lpS J (fun q=>some q) fun (U,Y)=>some (U,true)
def jA (N:Nat):Nat->T3_->Int->T6_->T3_->T3_->Int->Option (Sum Bool Int)
 | 0,_,_,_,_,_,_=>none
 | k+1,U,Z,Nt,Nu,Nv,J=>(bif decide (J<(U.length:Int)) then (ix U J).bind fun Y=>(bB N Y.1 Y.2).bind fun Nw=>(bif Nw then (ix U J).bind fun Nx=>(bif decide (Nx.1<0) then some (.inl false) else (ad J 1).bind fun Ny=>jA N k U Z Nt Nu Nv Ny) else some (.inl false)) else some (.inr J))
def iL (N:Nat):Nat->Int->T6_->T3_->T3_->T3_->Bool->Int->Option (Sum Bool Int)
 | 0,_,_,_,_,_,_,_=>none
 | k+1,Y,Nv,Z,Nw,U,Nx,J=>(bif decide (J<(U.length:Int)) then (ix U J).bind fun Nt=>(ix Z J).bind fun Nu=>(js N Nt.1 Nt.2 Nu.1 Nu.2).bind fun Ny=>(ml Ny Y).bind fun Nz=>(bif decide (Nz<0) then some (.inl false) else (ad J 1).bind fun NA=>iL N k Y Nv Z Nw U Nx NA) else some (.inr J))
def ky (N:Nat) (a0:T6_) (a1 a2 a3:T3_) (a4:Int):Option Bool:=(gb N a0 a1 a2).bind fun U=>(bif U then (bif ((a3.length:Int) != (a2.length:Int)) then some false else (jA N N a3 a4 a0 a1 a2 0).bind fun Y=>lpS Y (fun q=>some q) fun Nt=>(jF N a0 a3).bind fun J=>(iL N N a4 a0 a1 a2 J.1 J.2 0).bind fun Z=>lpS Z (fun q=>some q) fun Nu=>some J.2) else some false)
def f6 (N:Nat):Nat->T3_->T3_->Int->Option (Sum Bool Int)
 | 0,_,_,_=>none
 | k+1,U,Y,J=>(bif decide (J<(U.length:Int)) then (ix U J).bind fun Z=>(ix Y J).bind fun Nt=>(bif (Z.1 == Nt.1&&Z.2 == Nt.2) then (ad J 1).bind fun Nu=>f6 N k U Y Nu else some (.inl false)) else some (.inr J))
def j4 (N:Nat) (a0 a1:T3_):Option Bool:=(bif ((a0.length:Int) != (a1.length:Int)) then some false else (f6 N N a0 a1 0).bind fun J=>lpS J (fun q=>some q) fun U=>some true)
def fJ (N:Nat):Nat->Int->T6_->T3_->T3_->T6_->Int->Int->T2_->Int->T6_->T3_->Int->Int->T3_->Int->Option (T3_×Int)
 | 0,_,_,_,_,_,_,_,_,_,_,_,_,_,_,_=>none
 | k+1,Z,Nt,Nu,Nv,Nw,U,Nx,Ny,Nz,NA,NB,NC,ND,Y,J=>(bif decide (J<U) then (apd 16 Y [(0,1)]).bind fun NE=>(ad J 1).bind fun NF=>fJ N k Z Nt Nu Nv Nw U Nx Ny Nz NA NB NC ND NE NF else some (Y,J))
def eK (N:Nat):Nat->Int->T6_->T3_->T3_->T6_->Int->Int->T2_->Int->T6_->T3_->Int->Option (T6_×T3_×Int)
 | 0,_,_,_,_,_,_,_,_,_,_,_,_=>none
 | k+1,Nz,Z,Nt,NA,NB,Nu,U,Nv,Nw,Nx,Ny,J=>(bif decide (J<Nu) then (ix Nv Nw).bind fun NF=>(ix NF J).bind fun Y=>(bif decide (Y<U) then (ix Z Y).bind fun NG=>(apd 24 Nx [NG]).bind fun NH=>(ix Nt Y).bind fun NC=>(apd 16 Ny [(NC.1,NC.2)]).bind fun NI=>(ad J 1).bind fun NJ=>eK N k Nz Z Nt NA NB Nu U Nv Nw NH NI NJ else (fJ N N Nz Z Nt NA NB Nu U Nv Nw Nx Ny J Y [] 0).bind fun NK=>lpB NK fun (ND,NP)=>(sb Y U).bind fun NE=>(ix ND NE).bind fun NQ=>(sto ND NE (1,1)).bind fun NL=>(apd 24 Nx [NL]).bind fun NM=>(apd 16 Ny [(0,1)]).bind fun NN=>(ad J 1).bind fun NO=>eK N k Nz Z Nt NA NB Nu U Nv Nw NM NN NO) else some (Nx,Ny,J))
def gY (N:Nat):Nat->Int->T6_->T3_->T3_->T6_->Int->Int->T2_->Int->T3_->Bool->Int->Option (Bool×Int)
 | 0,_,_,_,_,_,_,_,_,_,_,_,_=>none
 | k+1,Z,Nt,Nu,Nv,U,Nw,Nx,Ny,Nz,Y,NA,J=>(bif decide (J<(U.length:Int)) then (bif NA then (ad J 1).bind fun NB=>gY N k Z Nt Nu Nv U Nw Nx Ny Nz Y true NB else (ix U J).bind fun NC=>(j4 N NC Y).bind fun ND=>(ad J 1).bind fun NE=>gY N k Z Nt Nu Nv U Nw Nx Ny Nz Y ND NE) else some (NA,J))
def fM (N:Nat):Nat->Int->T6_->T3_->T3_->T6_->Int->Int->T2_->Int->Option (T6_×Int)
 | 0,_,_,_,_,_,_,_,_,_=>none
 | k+1,U,Y,Z,Nt,Nu,Nw,Nx,Nv,J=>(bif decide (J<(Nv.length:Int)) then (eK N N U Y Z Nt Nu Nw Nx Nv J [] [] 0).bind fun Nz=>lpB Nz fun (NF,NG,NK)=>(d5 N NF NG).bind fun Ny=>(bif Ny.2 then (ky N Y Z Nt Ny.1 U).bind fun NH=>(bif NH then (gY N N U Y Z Nt Nu Nw Nx Nv J Ny.1 false 0).bind fun NA=>lpB NA fun (NI,NL)=>(bif NI then (ad J 1).bind fun NJ=>fM N k U Y Z Nt Nu Nw Nx Nv NJ else (apd 24 Nu [Ny.1]).bind fun NB=>(ad J 1).bind fun NC=>fM N k U Y Z Nt NB Nw Nx Nv NC) else (ad J 1).bind fun ND=>fM N k U Y Z Nt Nu Nw Nx Nv ND) else (ad J 1).bind fun NE=>fM N k U Y Z Nt Nu Nw Nx Nv NE) else some (Nu,J))
def o0 (N:Nat) (a0:T6_) (a1 a2:T3_) (a3:Int):Option T6_:=(ad (a1.length:Int) (a2.length:Int)).bind fun Y=>(gS N 0 Y (a2.length:Int)).bind fun Z=>(fM N N a3 a0 a1 a2 [] (a2.length:Int) (a1.length:Int) Z 0).bind fun J=>lpB J fun (U,Nt)=>some U
def jn (N:Nat) (a0:T6_) (a1 a2:T3_):Option T6_:=(gb N a0 a1 a2).bind fun J=>(bif J then (o0 N a0 a1 a2 1).bind fun U=>some U else some [])
def fO (N:Nat):Nat->T3_->Int->Int->Option (Sum (yP×Int) T1_)
 | 0,_,_,_=>none
 | k+1,U,Y,J=>(bif decide (J<(U.length:Int)) then (ix U J).bind fun Z=>(bB N Z.1 Z.2).bind fun Nu=>(bif Nu then (ix U J).bind fun Nv=>(bif decide (Nv.1<0) then some (.inl ([],0)) else (ix U J).bind fun Nw=>(jb N Y Nw.2).bind fun Nx=>(qt Y Nx).bind fun Ny=>(ix U J).bind fun Nz=>(ml Ny Nz.2).bind fun Nt=>(bif decide (1000<Nt) then some (.inl ([],0)) else (ad J 1).bind fun NA=>fO N k U Nt NA)) else some (.inl ([],0))) else some (.inr (Y,J)))
def dL (N:Nat):Nat->T3_->Int->yP->Int->Option (yP×Int)
 | 0,_,_,_,_=>none
 | k+1,U,Y,Z,J=>(bif decide (J<(U.length:Int)) then (ix U J).bind fun Nt=>(ix U J).bind fun Nu=>(qt Y Nu.2).bind fun Nv=>(ml Nt.1 Nv).bind fun Nw=>(apd 8 Z [Nw]).bind fun Nx=>(ad J 1).bind fun Ny=>dL N k U Y Nx Ny else some (Z,J))
def eV (N:Nat) (a0:T3_):Option (yP×Int):=(fO N N a0 1 0).bind fun U=>lpS U (fun q=>some q) fun (J,Nt)=>(dL N N a0 J [] 0).bind fun Y=>lpB Y fun (Z,Nu)=>some (Z,J)
def fG (N:Nat):Nat->yP->Int->Option (Sum Bool Int)
 | 0,_,_=>none
 | k+1,U,J=>(bif decide (J<(U.length:Int)) then (ix U J).bind fun Y=>(dr N Y 0 9).bind fun Z=>(bif Z then (ad J 1).bind fun Nt=>fG N k U Nt else some (.inl false)) else some (.inr J))
def gG (N:Nat) (a0:yP):Option Bool:=(fG N N a0 0).bind fun J=>lpS J (fun q=>some q) fun Z=>(bif decide ((a0.length:Int)<=60) then (bif ((a0.length:Int) == 0) then some true else (sb (a0.length:Int) 1).bind fun U=>(ix a0 U).bind fun Y=>some (Y != 0)) else some false)
def iK (N:Nat):Nat->yP->yP->yP->Int->Int->Option (yP×Int×Int)
 | 0,_,_,_,_,_=>none
 | k+1,Y,Nt,Z,J,U=>(bif decide (U<(Y.length:Int)) then (ix Y U).bind fun Nv=>(ad J Nv).bind fun Nu=>(rm Nu 10).bind fun Nw=>(apd 8 Z [Nw]).bind fun Nx=>(qt Nu 10).bind fun Ny=>(ad U 1).bind fun Nz=>iK N k Y Nt Nx Ny Nz else (bif decide (0<J) then (rm J 10).bind fun NA=>(apd 8 Z [NA]).bind fun NB=>(qt J 10).bind fun NC=>(ad U 1).bind fun ND=>iK N k Y Nt NB NC ND else some (Z,J,U)))
def kG (N:Nat):Nat->yP->yP->Option yP
 | 0,_,_=>none
 | k+1,U,J=>(bif decide (0<(J.length:Int)) then (sb (J.length:Int) 1).bind fun Y=>(ix J Y).bind fun Z=>(bif (Z == 0) then (sb (J.length:Int) 1).bind fun Nt=>(slc J 0 Nt).bind fun Nu=>kG N k U Nu else some J) else some J)
def lU (N:Nat) (a0:yP):Option (yP×Bool):=(iK N N a0 [] [] 0 0).bind fun U=>lpB U fun (Y,Nt,Nu)=>(kG N N [] Y).bind fun Z=>lpB Z fun J=>(bif decide (60<(J.length:Int)) then some ([],false) else some (J,true))
def gj (N:Nat):Nat->yP->yP->yP->yP->Int->Int->Option (yP×Int)
 | 0,_,_,_,_,_,_=>none
 | k+1,Nt,Z,Nv,U,Y,J=>(bif decide (J<(Z.length:Int)) then (ad Y J).bind fun Nu=>(ad Y J).bind fun Nw=>(ix U Nw).bind fun Nx=>(ix Nt Y).bind fun Ny=>(ix Z J).bind fun Nz=>(ml Ny Nz).bind fun NA=>(ad Nx NA).bind fun NB=>(ix U Nu).bind fun NE=>(sto U Nu NB).bind fun NC=>(ad J 1).bind fun ND=>gj N k Nt Z Nv NC Y ND else some (U,J))
def gi (N:Nat):Nat->yP->yP->yP->yP->Int->Option (yP×Int)
 | 0,_,_,_,_,_=>none
 | k+1,U,Y,Z,Nt,J=>(bif decide (J<(U.length:Int)) then (gj N N U Y Z Nt J 0).bind fun Nu=>lpB Nu fun (Nv,Nx)=>(ad J 1).bind fun Nw=>gi N k U Y Z Nv Nw else some (Nt,J))
def ki (N:Nat) (a0 a1:yP):Option (yP×Bool):=(gG N a0).bind fun U=>(bif U then (gG N a1).bind fun Y=>(bif Y then (ad (a0.length:Int) (a1.length:Int)).bind fun Z=>(mk 8 (0:Int) Z).bind fun Nt=>(gi N N a0 a1 [] Nt 0).bind fun Nu=>lpB Nu fun (Nv,Nw)=>(lU N Nv).bind fun J=>some (J.1,J.2) else some ([],false)) else some ([],false))
def ia (N:Nat):Nat->Int->yP->yP->Option (Int×yP)
 | 0,_,_,_=>none
 | k+1,J,Y,U=>(bif decide (0<J) then (rm J 10).bind fun Z=>(apd 8 U [Z]).bind fun Nt=>(qt J 10).bind fun Nu=>ia N k Nu Y Nt else some (J,U))
def f5 (N:Nat) (a0:Int):Option yP:=(ia N N a0 [] []).bind fun J=>lpB J fun (Y,U)=>some U
def dR (N:Nat):Nat->Int->Int->yP->yP->Int->Option (Sum (yP×Bool) (yP×Int))
 | 0,_,_,_,_,_=>none
 | k+1,U,Y,Nu,Z,J=>(bif decide (J<Y) then (f5 N U).bind fun Nv=>(ki N Z Nv).bind fun Nt=>(bif Nt.2 then (ad J 1).bind fun Nw=>dR N k U Y Nu Nt.1 Nw else some (.inl ([],false))) else some (.inr (Z,J)))
def jo (N:Nat) (a0 a1:Int):Option (yP×Bool):=(bif decide (a0<0) then some ([],false) else (dr N a1 0 100).bind fun J=>(bif J then (f5 N 1).bind fun U=>(dR N N a0 a1 [] U 0).bind fun Y=>lpS Y (fun q=>some q) fun (Z,Nt)=>some (Z,true) else some ([],false)))
def bL (N:Nat):Nat->yP->yP->yP->yP->Int->Option (Sum (yP×Bool) (yP×Int))
 | 0,_,_,_,_,_=>none
 | k+1,U,Y,Nv,Z,J=>(bif decide (J<(U.length:Int)) then (ix U J).bind fun Nw=>(ix Y J).bind fun Nx=>(jo N Nw Nx).bind fun Nt=>(ki N Z Nt.1).bind fun Nu=>(bif Nt.2 then (bif Nu.2 then (ad J 1).bind fun Ny=>bL N k U Y Nv Nu.1 Ny else some (.inl ([],false))) else some (.inl ([],false))) else some (.inr (Z,J)))
def eT (N:Nat) (a0 a1:yP):Option (yP×Bool):=(bif ((a0.length:Int) != (a1.length:Int)) then some ([],false) else (f5 N 1).bind fun J=>(bL N N a0 a1 [] J 0).bind fun U=>lpS U (fun q=>some q) fun (Y,Z)=>some (Y,true))
def gT (N:Nat):Nat->yP->yP->Int->Option (Sum Int Int)
 | 0,_,_,_=>none
 | k+1,U,Y,J=>(bif decide (0<=J) then (ix U J).bind fun Z=>(ix Y J).bind fun Nt=>(bif decide (Z<Nt) then some (.inl (-1)) else (ix U J).bind fun Nu=>(ix Y J).bind fun Nv=>(bif decide (Nv<Nu) then some (.inl 1) else (sb J 1).bind fun Nw=>gT N k U Y Nw)) else some (.inr J))
def g9 (N:Nat) (a0 a1:yP):Option Int:=(gG N a0).bind fun J=>(bif J then (gG N a1).bind fun U=>(bif U then (bif ((a0.length:Int) != (a1.length:Int)) then (bif decide ((a0.length:Int)<(a1.length:Int)) then some (-1) else some 1) else (sb (a0.length:Int) 1).bind fun Y=>(gT N N a0 a1 Y).bind fun Z=>lpS Z (fun q=>some q) fun Nt=>some 0) else some 0) else some 0)
def fq (N:Nat):Nat->yP->yP->Int->yP->Int->Int->Option (yP×yP×Int)
 | 0,_,_,_,_,_,_=>none
 | k+1,Nu,U,Z,Y,Nt,J=>(bif decide (J<(U.length:Int)) then (ix U J).bind fun Nv=>(ml Nv Nt).bind fun Nw=>(ix U J).bind fun NC=>(sto U J Nw).bind fun Nx=>(ix Y J).bind fun Ny=>(ml Ny Z).bind fun Nz=>(ix Y J).bind fun ND=>(sto Y J Nz).bind fun NA=>(ad J 1).bind fun NB=>fq N k Nu Nx Z NA Nt NB else some (U,Y,J))
def jm (N:Nat) (a0:yP) (a1 a2:T3_):Option (Int×Bool):=(eV N a1).bind fun J=>(eV N a2).bind fun U=>(bif (J.2 == 0) then some (0,false) else (bif (U.2 == 0) then some (0,false) else (bif ((J.1.length:Int) != (a0.length:Int)) then some (0,false) else (bif ((U.1.length:Int) != (a0.length:Int)) then some (0,false) else (fq N N a0 J.1 J.2 U.1 U.2 0).bind fun Nt=>lpB Nt fun (Nu,Nv,Nx)=>(eT N a0 Nu).bind fun Y=>(eT N a0 Nv).bind fun Z=>(bif Y.2 then (bif Z.2 then (g9 N Y.1 Z.1).bind fun Nw=>some (Nw,true) else some (0,false)) else some (0,false))))))
def iJ (N:Nat):Nat->yP->T6_->T3_->T3_->Int->Option (Sum (T3_×Bool) Int)
 | 0,_,_,_,_,_=>none
 | k+1,U,Y,Z,Nt,J=>(bif decide (J<(U.length:Int)) then (ix U J).bind fun Nu=>(dr N Nu 0 16).bind fun Nv=>(bif Nv then (ad J 1).bind fun Nw=>iJ N k U Y Z Nt Nw else some (.inl ([],false))) else some (.inr J))
def gX (N:Nat):Nat->yP->T6_->T3_->Int->Option (T3_×Int)
 | 0,_,_,_,_=>none
 | k+1,Y,U,Z,J=>(bif decide (J<(U.length:Int)) then (ix U J).bind fun Nt=>(jm N Y Nt Z).bind fun Nu=>(bif decide (Nu.1<0) then (ix U J).bind fun Nv=>(ad J 1).bind fun Nw=>gX N k Y U Nv Nw else (ad J 1).bind fun Nx=>gX N k Y U Z Nx) else some (Z,J))
def lH (N:Nat) (a0:Int) (a1:List (ByteArray×yP)) (a2 a3:yP):Option (T3_×Bool):=(kV N a0 a1 a2).bind fun J=>(bif J.2 then (bif ((a3.length:Int) != (a1.length:Int)) then some ([],false) else (iJ N N a3 J.1.1 J.1.2.1 J.1.2.2 0).bind fun Y=>lpS Y (fun q=>some q) fun Nv=>(jn N J.1.1 J.1.2.1 J.1.2.2).bind fun U=>(ix U 0).bind fun Z=>(gX N N a3 U Z 1).bind fun Nt=>lpB Nt fun (Nu,Nw)=>some (Nu,true)) else some ([],false))
def lC (N:Nat):Nat->Int->Int->Option T1_
 | 0,_,_=>none
 | k+1,U,J=>(bif (J != 0) then (rm U J).bind fun Y=>lC N k J Y else some (U,J))
def tw (N:Nat) (a0 a1:Int):Option Int:=(lC N N a0 a1).bind fun J=>lpB J fun (U,Y)=>some U
def Am (N:Nat) (a0:Int):Option Int:=(sb 0 a0).bind fun J=>some (imx a0 J)
def iv (N:Nat) (a0 a1:Int):Option Bool:=(eE N a1 1 1000000000).bind fun J=>(bif J then (eE N a0 (-1000000000) 1000000000).bind fun U=>(bif U then (Am N a0).bind fun Y=>(tw N Y a1).bind fun Z=>some (Z == 1) else some false) else some false)
def gt (N:Nat):Nat->yP->Int->yP->Int->Int->Option (Sum Bool Int)
 | 0,_,_,_,_,_=>none
 | k+1,Z,Nt,U,Y,J=>(bif decide (J<Y) then (ix U J).bind fun Nu=>(eE N Nu 0 9).bind fun Nv=>(bif Nv then (ad J 1).bind fun Nw=>gt N k Z Nt U Y Nw else some (.inl false)) else some (.inr J))
def jq (N:Nat) (a0:yP):Option Bool:=(gt N N a0 (a0.length:Int) a0 (a0.length:Int) 0).bind fun J=>lpS J (fun q=>some q) fun Z=>(bif decide ((a0.length:Int)<=60) then (bif ((a0.length:Int) == 0) then some true else (sb (a0.length:Int) 1).bind fun U=>(ix a0 U).bind fun Y=>some (Y != 0)) else some false)
def cV (N:Nat):Nat->yP->yP->yP->Int->Int->Option (yP×Int×Int)
 | 0,_,_,_,_,_=>none
 | k+1,Y,Nt,Z,J,U=>(bif decide (U<(Y.length:Int)) then (ix Y U).bind fun Nv=>(ad J Nv).bind fun Nu=>(rm Nu 10).bind fun Nw=>(apd 8 Z [Nw]).bind fun Nx=>(qt Nu 10).bind fun Ny=>(ad U 1).bind fun Nz=>cV N k Y Nt Nx Ny Nz else (bif decide (0<J) then (rm J 10).bind fun NA=>(apd 8 Z [NA]).bind fun NB=>(qt J 10).bind fun NC=>(ad U 1).bind fun ND=>cV N k Y Nt NB NC ND else some (Z,J,U)))
def mA (N:Nat):Nat->yP->yP->Int->Option Int
 | 0,_,_,_=>none
 | k+1,Y,U,J=>(bif decide (0<J) then (sb J 1).bind fun Z=>(ix U Z).bind fun Nt=>(bif (Nt == 0) then (sb J 1).bind fun Nu=>mA N k Y U Nu else some J) else some J)
def kq (N:Nat) (a0:yP):Option (yP×Bool):=(cV N N a0 [] [] 0 0).bind fun Y=>lpB Y fun (J,Nu,Nv)=>(mA N N [] J (J.length:Int)).bind fun Z=>lpB Z fun U=>(slc J 0 U).bind fun Nt=>(bif decide (60<U) then some ([],false) else some (Nt,true))
def dT (N:Nat):Nat->yP->yP->yP->Int->Int->yP->Int->Int->yP->Int->Int->Option (yP×Int)
 | 0,_,_,_,_,_,_,_,_,_,_,_=>none
 | k+1,Nw,Nx,U,Z,Nt,Ny,Nz,NA,Nu,Nv,J=>(bif decide (J<Nv) then (ix Nu J).bind fun NB=>(ad Z J).bind fun Y=>(ix U Y).bind fun NC=>(ml Nt NB).bind fun ND=>(ad NC ND).bind fun NE=>(ix U Y).bind fun NH=>(sto U Y NE).bind fun NF=>(ad J 1).bind fun NG=>dT N k Nw Nx NF Z Nt Ny Nz NA Nu Nv NG else some (U,J))
def dS (N:Nat):Nat->yP->yP->yP->yP->Int->Int->Option (yP×Int)
 | 0,_,_,_,_,_,_=>none
 | k+1,U,Nt,Nu,Y,Z,J=>(bif decide (J<Z) then (ix Y J).bind fun Nv=>(dT N N U Nt Nu J Nv Y Z J U (U.length:Int) 0).bind fun Nw=>lpB Nw fun (Nx,Nz)=>(ad J 1).bind fun Ny=>dS N k U Nt Nx Y Z Ny else some (Nu,J))
def lI (N:Nat) (a0 a1:yP):Option (yP×Bool):=(jq N a0).bind fun U=>(bif U then (jq N a1).bind fun Y=>(bif Y then (ad (a0.length:Int) (a1.length:Int)).bind fun Z=>(mk 8 (0:Int) Z).bind fun Nt=>(dS N N a1 [] Nt a0 (a0.length:Int) 0).bind fun Nu=>lpB Nu fun (Nv,Nw)=>(kq N Nv).bind fun J=>some (J.1,J.2) else some ([],false)) else some ([],false))
def dm (N:Nat):Nat->Int->yP->yP->Option (Int×yP)
 | 0,_,_,_=>none
 | k+1,J,Y,U=>(bif decide (0<J) then (rm J 10).bind fun Z=>(apd 8 U [Z]).bind fun Nt=>(qt J 10).bind fun Nu=>dm N k Nu Y Nt else some (J,U))
def fW (N:Nat) (a0:Int):Option yP:=(dm N N a0 [] []).bind fun J=>lpB J fun (Y,U)=>some U
def cQ (N:Nat):Nat->Int->Int->yP->yP->Int->Option (Sum (yP×Bool) (yP×Int))
 | 0,_,_,_,_,_=>none
 | k+1,U,Y,Nu,Z,J=>(bif decide (J<Y) then (fW N U).bind fun Nv=>(lI N Z Nv).bind fun Nt=>(bif Nt.2 then (ad J 1).bind fun Nw=>cQ N k U Y Nu Nt.1 Nw else some (.inl ([],false))) else some (.inr (Z,J)))
def nv (N:Nat) (a0 a1:Int):Option (yP×Bool):=(bif decide (a0<0) then some ([],false) else (eE N a1 0 100).bind fun J=>(bif J then (fW N 1).bind fun U=>(cQ N N a0 a1 [] U 0).bind fun Y=>lpS Y (fun q=>some q) fun (Z,Nt)=>some (Z,true) else some ([],false)))
def cK (N:Nat):Nat->yP->yP->yP->yP->Int->Int->Option (Sum (yP×Bool) (yP×Int))
 | 0,_,_,_,_,_,_=>none
 | k+1,U,Y,Nw,Z,Nt,J=>(bif decide (J<Nt) then (ix U J).bind fun Nx=>(ix Y J).bind fun Ny=>(nv N Nx Ny).bind fun Nu=>(lI N Z Nu.1).bind fun Nv=>(bif Nu.2 then (bif Nv.2 then (ad J 1).bind fun Nz=>cK N k U Y Nw Nv.1 Nt Nz else some (.inl ([],false))) else some (.inl ([],false))) else some (.inr (Z,J)))
def qE (N:Nat) (a0 a1:yP):Option (yP×Bool):=(bif ((a0.length:Int) != (a1.length:Int)) then some ([],false) else (fW N 1).bind fun J=>(cK N N a0 a1 [] J (a0.length:Int) 0).bind fun U=>lpS U (fun q=>some q) fun (Y,Z)=>some (Y,true))
def ef (N:Nat):Nat->yP->yP->Int->Option (Sum Int Int)
 | 0,_,_,_=>none
 | k+1,U,Y,J=>(bif decide (0<=J) then (ix U J).bind fun Z=>(ix Y J).bind fun Nt=>(bif (Z != Nt) then (ix U J).bind fun Nu=>(ix Y J).bind fun Nv=>(gL N Nu Nv).bind fun Nw=>some (.inl Nw) else (sb J 1).bind fun Nx=>ef N k U Y Nx) else some (.inr J))
def l0 (N:Nat) (a0 a1:yP):Option Int:=(jq N a0).bind fun J=>(bif J then (jq N a1).bind fun U=>(bif U then (bif ((a0.length:Int) != (a1.length:Int)) then (gL N (a0.length:Int) (a1.length:Int)).bind fun Y=>some Y else (sb (a0.length:Int) 1).bind fun Z=>(ef N N a0 a1 Z).bind fun Nt=>lpS Nt (fun q=>some q) fun Nu=>some 0) else some 0) else some 0)
def jr (N:Nat) (a0:yP):Option ((List (ByteArray×(Int×T2_)))×(Int×List (ByteArray×yP)×yP)×yP×Int):=(qZ N a0).bind fun U=>(oR N a0 U.1 U.2).bind fun J=>(cI N a0 J.2.2.2.1 J.2.2.2.2 7).bind fun Y=>(sb Y.1 1).bind fun Z=>some (J.1,(J.2.1.1,J.2.1.2.1,J.2.1.2.2),J.2.2.1,Z)
def jN (N:Nat) (a0:List (ByteArray×(Int×T2_))) (a1:Int) (a2:List (ByteArray×yP)) (a3:yP) (a4:yP) (a5:Int):Option ((Int×T2_)×Bool):=(mC N a0 a1 a2 a3 a4).bind fun J=>(bif J.2 then (eE N a5 0 a1).bind fun Y=>(bif Y then (eN N a1 a2 a3 J.1 a4 a5).bind fun U=>(bif U.2.2 then some ((a5,U.1),true) else some ((0,[]),false)) else some ((0,[]),false)) else some ((0,[]),false))
def iw (N:Nat):Nat->yP->yP->yP->Int->Option (yP×Int)
 | 0,_,_,_,_=>none
 | k+1,Y,U,Z,J=>(bif decide (J<(U.length:Int)) then (ix U J).bind fun Nt=>(ix Y Nt).bind fun Nu=>(apd 8 Z [Nu]).bind fun Nv=>(ad J 1).bind fun Nw=>iw N k Y U Nv Nw else some (Z,J))
def pv (N:Nat) (a0 a1:yP):Option yP:=(iw N N a0 a1 [] 0).bind fun J=>lpB J fun (U,Y)=>some U
def hU (N:Nat):Nat->yP->Int->T2_->Int->T2_->Int->Option (Sum ((Int×T2_)×Bool) Int)
 | 0,_,_,_,_,_,_=>none
 | k+1,U,Y,Z,Nt,Nu,J=>(bif decide (J<(U.length:Int)) then (ix U J).bind fun Nv=>(sb Y 1).bind fun Nw=>(dr N Nv 0 Nw).bind fun Nx=>(bif Nx then (ad J 1).bind fun Ny=>hU N k U Y Z Nt Nu Ny else some (.inl ((0,[]),false))) else some (.inr J))
def hJ (N:Nat):Nat->yP->Int->T2_->Int->T2_->T2_->Int->Option (T2_×Int)
 | 0,_,_,_,_,_,_,_=>none
 | k+1,Y,Nt,U,Nu,Nv,Z,J=>(bif decide (J<(U.length:Int)) then (ix U J).bind fun Nw=>(pv N Nw Y).bind fun Nx=>(apd 24 Z [Nx]).bind fun Ny=>(ad J 1).bind fun Nz=>hJ N k Y Nt U Nu Nv Ny Nz else some (Z,J))
def oT (N:Nat) (a0:Int) (a1:T2_) (a2:yP):Option ((Int×T2_)×Bool):=(hU N N a2 a0 a1 0 [] 0).bind fun U=>lpS U (fun q=>some q) fun Nu=>(eu N a0 a1).bind fun Y=>(bif Y then (bif decide (5<(a2.length:Int)) then some ((0,[]),false) else (hJ N N a2 a0 a1 0 [] [] 0).bind fun Z=>lpB Z fun (Nt,Nv)=>(eF N (a2.length:Int) Nt).bind fun J=>some ((J.1.1,J.1.2),J.2)) else some ((0,[]),false))
def nA (N:Nat) (a0:Int) (a1:T2_) (a2:yP):Option ((Int×T2_)×Bool):=(jh N a2).bind fun U=>(bif U then (bif ((a2.length:Int) != a0) then some ((0,[]),false) else (oT N a0 a1 a2).bind fun J=>(bif J.2 then some ((J.1.1,J.1.2),true) else some ((0,[]),false))) else some ((0,[]),false))
def cY (N:Nat):Nat->yP->yP->yP->Int->Option (yP×Int)
 | 0,_,_,_,_=>none
 | k+1,U,Z,Y,J=>(bif decide (J<(U.length:Int)) then (ix U J).bind fun Nu=>(i8 N Z Nu).bind fun Nt=>(bif decide (0<=Nt) then (i8 N Y Nt).bind fun Nv=>(bif decide (Nv<0) then (apd 8 Y [Nt]).bind fun Nw=>(ad J 1).bind fun Nx=>cY N k U Z Nw Nx else (ad J 1).bind fun Ny=>cY N k U Z Y Ny) else (ad J 1).bind fun Nz=>cY N k U Z Y Nz) else some (Y,J))
def jw (N:Nat) (a0:ByteArray) (a1 a2:yP):Option yP:=(jj N a0 a1).bind fun J=>(cY N N a2 J [] 0).bind fun U=>lpB U fun (Y,Z)=>some Y
def fU (N:Nat):Nat->yP->(List (ByteArray×(Int×T2_)))->Int->(List (ByteArray×yP))->yP->(List (Int×T2_))->Int->Option (Sum ((List (Int×T2_))×Bool) ((List (Int×T2_))×Int))
 | 0,_,_,_,_,_,_,_=>none
 | k+1,Z,Nt,Ny,U,Nz,Nu,J=>(bif decide (J<(U.length:Int)) then (ix U J).bind fun Nv=>(ix U J).bind fun Nw=>(jK N Nt Nv.1 Nv.2).bind fun Nx=>(jw N Nw.1 Nw.2 Z).bind fun NA=>(nA N Nx.1 Nx.2 NA).bind fun Y=>(bif Y.2 then (apd 32 Nu [(Y.1.1,Y.1.2)]).bind fun NB=>(ad J 1).bind fun NC=>fU N k Z Nt Ny U Nz NB NC else some (.inl ([],false))) else some (.inr (Nu,J)))
def kI (N:Nat) (a0:List (ByteArray×(Int×T2_))) (a1:Int) (a2:List (ByteArray×yP)) (a3:yP) (a4:yP):Option ((List (Int×T2_))×Bool):=(kN N a0 a1 a2 a3).bind fun J=>(bif J then (kU N a1 a2 a3 a4).bind fun U=>(bif U then (fU N N a4 a0 a1 a2 a3 [] 0).bind fun Y=>lpS Y (fun q=>some q) fun (Z,Nt)=>some (Z,true) else some ([],false)) else some ([],false))
def cJ (N:Nat):Nat->Int->Int->(List (ByteArray×yP))->yP->yP->Int->Option (yP×Int)
 | 0,_,_,_,_,_,_=>none
 | k+1,Z,Nt,U,Nu,Y,J=>(bif decide (J<(U.length:Int)) then (fL N Nt U Nu).bind fun Nw=>(bif Nw then (ix U J).bind fun Nv=>(eD N Nv.1 Nv.2 Z).bind fun Nx=>(bif Nx then (apd 8 Y [J]).bind fun Ny=>(ad J 1).bind fun Nz=>cJ N k Z Nt U Nu Ny Nz else (ad J 1).bind fun NA=>cJ N k Z Nt U Nu Y NA) else some (Y,J)) else some (Y,J))
def i9 (N:Nat) (a0:Int) (a1:List (ByteArray×yP)) (a2:yP) (a3:Int):Option yP:=(cJ N N a3 a0 a1 a2 [] 0).bind fun J=>lpB J fun (U,Y)=>some U
def rA (N:Nat) (a0:Int) (a1:T2_):Option (Int×T2_):=some (a0,a1)
def lL (N:Nat) (a0:Int) (a1:T2_):Option Bool:=(rA N a0 a1).bind fun J=>(eu N J.1 J.2).bind fun U=>some U
def dK (N:Nat):Nat->yP->Int->T2_->Int->Option Int
 | 0,_,_,_,_=>none
 | k+1,U,Z,Y,J=>(bif decide (J<(Y.length:Int)) then (ix Y J).bind fun Nt=>(slc Nt 0 (U.length:Int)).bind fun Nu=>(cd N Nu U).bind fun Nv=>(bif decide (Nv<0) then (ad J 1).bind fun Nw=>dK N k U Z Y Nw else some J) else some J)
def dj (N:Nat):Nat->yP->Int->T2_->Int->Int->Option Int
 | 0,_,_,_,_,_=>none
 | k+1,U,Z,Y,Nt,J=>(bif decide (J<(Y.length:Int)) then (ix Y J).bind fun Nu=>(slc Nu 0 (U.length:Int)).bind fun Nv=>(cd N Nv U).bind fun Nw=>(bif (Nw == 0) then (ad J 1).bind fun Nx=>dj N k U Z Y Nt Nx else some J) else some J)
def lq (N:Nat) (a0:Int) (a1:T2_) (a2:yP):Option T1_:=(lL N a0 a1).bind fun U=>(bif U then (bif decide (a0<(a2.length:Int)) then some (0,0) else (dK N N a2 a0 a1 0).bind fun Y=>lpB Y fun J=>(dj N N a2 a0 a1 J J).bind fun Z=>lpB Z fun Nt=>some (J,Nt)) else some (0,0))
def bX (N:Nat):Nat->yP->Int->T2_->yP->Int->Int->Option (yP×Int)
 | 0,_,_,_,_,_,_=>none
 | k+1,Y,Z,Nt,J,Nu,U=>(bif decide (U<Nu) then (bif decide ((Y.length:Int)<Z) then (ix Nt U).bind fun Nw=>(ix Nw (Y.length:Int)).bind fun Nv=>(bif ((J.length:Int) == 0) then (apd 8 J [Nv]).bind fun Nx=>(ad U 1).bind fun Ny=>bX N k Y Z Nt Nx Nu Ny else (sb (J.length:Int) 1).bind fun Nz=>(ix J Nz).bind fun NA=>(bif (NA != Nv) then (apd 8 J [Nv]).bind fun NB=>(ad U 1).bind fun NC=>bX N k Y Z Nt NB Nu NC else (ad U 1).bind fun ND=>bX N k Y Z Nt J Nu ND)) else some (J,U)) else some (J,U))
def jP (N:Nat) (a0:Int) (a1:T2_) (a2:yP):Option yP:=(lq N a0 a1 a2).bind fun J=>(bX N N a2 a0 a1 [] J.2 J.1).bind fun U=>lpB U fun (Y,Z)=>some Y
def eH (N:Nat):Nat->yP->yP->ByteArray->yP->yP->Int->Option (yP×Int)
 | 0,_,_,_,_,_,_=>none
 | k+1,Y,U,Z,Nt,Nu,J=>(bif decide (J<(U.length:Int)) then (ix Y J).bind fun Nv=>(eD N Z Nt Nv).bind fun Nw=>(bif Nw then (ix U J).bind fun Nx=>(apd 8 Nu [Nx]).bind fun Ny=>(ad J 1).bind fun Nz=>eH N k Y U Z Nt Ny Nz else (ad J 1).bind fun NA=>eH N k Y U Z Nt Nu NA) else some (Nu,J))
def lJ (N:Nat) (a0:ByteArray) (a1 a2 a3:yP):Option yP:=(eH N N a2 a3 a0 a1 [] 0).bind fun J=>lpB J fun (U,Y)=>some U
def du (N:Nat):Nat->yP->Int->Option (Sum Bool Int)
 | 0,_,_=>none
 | k+1,U,J=>(bif decide (J<(U.length:Int)) then (ix U J).bind fun Y=>(sb J 1).bind fun Z=>(ix U Z).bind fun Nt=>(bif decide (Y<=Nt) then some (.inl false) else (ad J 1).bind fun Nu=>du N k U Nu) else some (.inr J))
def ie (N:Nat) (a0:yP):Option Bool:=(du N N a0 1).bind fun J=>lpS J (fun q=>some q) fun U=>some true
def ji (N:Nat):Nat->T2_->Int->Option (Sum Bool Int)
 | 0,_,_=>none
 | k+1,U,J=>(bif decide (J<(U.length:Int)) then (ix U J).bind fun Y=>(ie N Y).bind fun Z=>(bif Z then (ad J 1).bind fun Nt=>ji N k U Nt else some (.inl false)) else some (.inr J))
def pP (N:Nat) (a0:T2_):Option Bool:=(ji N N a0 0).bind fun J=>lpS J (fun q=>some q) fun U=>some (decide (0<(a0.length:Int)))
def cT (N:Nat):Nat->T2_->Int->Int->Option T1_
 | 0,_,_,_=>none
 | k+1,U,Y,J=>(bif decide (J<(U.length:Int)) then (bif (J == 0) then (ix U J).bind fun Z=>(ad J 1).bind fun Nt=>cT N k U (Z.length:Int) Nt else (ix U J).bind fun Nu=>(bif decide ((Nu.length:Int)<Y) then (ix U J).bind fun Nv=>(ad J 1).bind fun Nw=>cT N k U (Nv.length:Int) Nw else (ad J 1).bind fun Nx=>cT N k U Y Nx)) else some (Y,J))
def jT (N:Nat) (a0:T2_):Option Int:=(cT N N a0 0 0).bind fun J=>lpB J fun (U,Y)=>some U
def j9 (N:Nat):Nat->T2_->yP->Int->Int->Option Int
 | 0,_,_,_,_=>none
 | k+1,U,Y,Z,J=>(bif decide (0<J) then (sb J 1).bind fun Nt=>(ix Y Nt).bind fun Nu=>(ix U Nu).bind fun Nv=>(ix Nv 0).bind fun Nw=>(ix U Z).bind fun Nx=>(ix Nx 0).bind fun Ny=>(bif decide (Ny<Nw) then (sb J 1).bind fun Nz=>j9 N k U Y Z Nz else some J) else some J)
def f8 (N:Nat):Nat->T2_->yP->Int->Option (yP×Int)
 | 0,_,_,_=>none
 | k+1,Y,J,U=>(bif decide (U<(Y.length:Int)) then (j9 N N Y J U (J.length:Int)).bind fun Nt=>lpB Nt fun Z=>(slc J 0 Z).bind fun Nu=>(slc J Z (J.length:Int)).bind fun Nv=>(apd 8 [] Nu).bind fun Nw=>(apd 8 Nw [U]).bind fun Nx=>(apd 8 Nx Nv).bind fun Ny=>(ad U 1).bind fun Nz=>f8 N k Y Ny Nz else some (J,U))
def nV (N:Nat) (a0:T2_):Option yP:=(f8 N N a0 [] 0).bind fun J=>lpB J fun (U,Y)=>some U
def gk (N:Nat):Nat->yP->Int->Int->Option Int
 | 0,_,_,_=>none
 | k+1,U,Y,J=>(bif decide (J<(U.length:Int)) then (ix U J).bind fun Z=>(bif decide (Z<Y) then (ad J 1).bind fun Nt=>gk N k U Y Nt else some J) else some J)
def nh (N:Nat) (a0:yP) (a1 a2:Int):Option Int:=(gk N N a0 a2 (imx 0 a1)).bind fun J=>lpB J fun U=>some (imn U (imx (a0.length:Int) 0))
def fc (N:Nat):Nat->T2_->yP->yP->yP->Int->Int->Int->Option (yP×Int)
 | 0,_,_,_,_,_,_,_=>none
 | k+1,U,Nu,Z,Y,Nv,Ny,NB=>(ix Z Nv).bind fun J=>(ix U J).bind fun NC=>(ix Y J).bind fun ND=>(ix NC ND).bind fun Nz=>(ad NB 1).bind fun Nt=>(bif (Nz == Ny) then (apd 8 Nu [Nz]).bind fun NA=>(ix Y J).bind fun NE=>(ad NE 1).bind fun NF=>(ix Y J).bind fun NX=>(sto Y J NF).bind fun Nw=>(ix Nw J).bind fun NG=>(ix U J).bind fun NH=>(bif (NG == (NH.length:Int)) then some (NA,Nt) else (ix U J).bind fun NI=>(ix Nw J).bind fun NJ=>(ix NI NJ).bind fun NK=>(ad Nv 1).bind fun NL=>(rm NL (Z.length:Int)).bind fun NM=>fc N k U NA Z Nw NM NK Nt) else (ix U J).bind fun NN=>(ix Y J).bind fun NO=>(nh N NN NO Ny).bind fun NP=>(ix Y J).bind fun NY=>(sto Y J NP).bind fun Nx=>(ix Nx J).bind fun NQ=>(ix U J).bind fun NR=>(bif (NQ == (NR.length:Int)) then some (Nu,Nt) else (ix U J).bind fun NS=>(ix Nx J).bind fun NT=>(ix NS NT).bind fun NU=>(ad Nv 1).bind fun NV=>(rm NV (Z.length:Int)).bind fun NW=>fc N k U Nu Z Nx NW NU Nt))
def gV (N:Nat) (a0:T2_):Option (yP×Int):=(pP N a0).bind fun U=>(bif U then (jT N a0).bind fun Y=>(bif (Y == 0) then some ([],0) else (nV N a0).bind fun J=>(mk 8 (0:Int) (a0.length:Int)).bind fun Z=>(sb (J.length:Int) 1).bind fun Nt=>(ix J Nt).bind fun Nu=>(ix a0 Nu).bind fun Nv=>(ix Nv 0).bind fun Nw=>fc N N a0 [] J Z 0 Nw 0) else some ([],0))
def gC (N:Nat):Nat->(List (Int×T2_))->yP->yP->Int->(List (ByteArray×yP))->yP->yP->T2_->Int->Option (T2_×Int)
 | 0,_,_,_,_,_,_,_,_,_=>none
 | k+1,Y,Z,Nt,Ny,Nu,Nz,U,Nv,J=>(bif decide (J<(U.length:Int)) then (ix U J).bind fun NA=>(ix Y NA).bind fun Nw=>(ix U J).bind fun NB=>(ix Nu NB).bind fun Nx=>(lJ N Nx.1 Nx.2 Z Nt).bind fun NC=>(jP N Nw.1 Nw.2 NC).bind fun ND=>(apd 24 Nv [ND]).bind fun NE=>(ad J 1).bind fun NF=>gC N k Y Z Nt Ny Nu Nz U NE NF else some (Nv,J))
def nk (N:Nat) (a0:List (Int×T2_)) (a1:Int) (a2:List (ByteArray×yP)) (a3 a4 a5:yP):Option (yP×Int):=(ix a4 (a5.length:Int)).bind fun U=>(i9 N a1 a2 a3 U).bind fun Y=>(gC N N a0 a4 a5 a1 a2 a3 Y [] 0).bind fun Z=>lpB Z fun (Nt,Nu)=>(gV N Nt).bind fun J=>some (J.1,J.2)
def dF (N:Nat):Nat->yP->Int->Int->(List (ByteArray×yP))->yP->Int->T2_->(List (Int×T2_))->T2_->Int->T2_->Int->yP->Int->Option (T2_×Int)
 | 0,_,_,_,_,_,_,_,_,_,_,_,_,_,_=>none
 | k+1,Nu,Nv,Nw,Nx,Ny,Nz,NA,NB,Y,NC,Z,Nt,U,J=>(bif decide (J<(U.length:Int)) then (ix Y Nt).bind fun ND=>(ix U J).bind fun NE=>(apd 8 [] ND).bind fun NF=>(apd 8 NF [NE]).bind fun NG=>(apd 24 Z [NG]).bind fun NH=>(ad J 1).bind fun NI=>dF N k Nu Nv Nw Nx Ny Nz NA NB Y NC NH Nt U NI else some (Z,J))
def el (N:Nat):Nat->yP->Int->Int->(List (ByteArray×yP))->yP->Int->T2_->(List (Int×T2_))->T2_->Int->T2_->Int->Option (T2_×Int)
 | 0,_,_,_,_,_,_,_,_,_,_,_,_=>none
 | k+1,Y,Nw,Z,Nt,Nu,Nx,Ny,Nv,U,Nz,NA,J=>(bif decide (J<(U.length:Int)) then (ix U J).bind fun NB=>(nk N Nv Z Nt Nu Y NB).bind fun NC=>(dF N N Y Nw Z Nt Nu Nx Ny Nv U Nz NA J NC.1 0).bind fun ND=>lpB ND fun (NE,NG)=>(ad J 1).bind fun NF=>el N k Y Nw Z Nt Nu Nx Ny Nv U Nz NE NF else some (NA,J))
def de (N:Nat):Nat->yP->Int->Int->(List (ByteArray×yP))->yP->Int->T2_->(List (Int×T2_))->T2_->Int->Option (T2_×Int)
 | 0,_,_,_,_,_,_,_,_,_,_=>none
 | k+1,Y,U,Z,Nt,Nu,Nv,Nw,Nx,Ny,J=>(bif decide (J<U) then (el N N Y U Z Nt Nu Nv Nw Nx Ny J [] 0).bind fun Nz=>lpB Nz fun (NA,NC)=>(ad J 1).bind fun NB=>de N k Y U Z Nt Nu Nv Nw Nx NA NB else some (Ny,J))
def lc (N:Nat) (a0:List (ByteArray×(Int×T2_))) (a1:Int) (a2:List (ByteArray×yP)) (a3:yP) (a4:yP) (a5:Int):Option ((Int×T2_)×Bool):=(kI N a0 a1 a2 a3 a4).bind fun U=>(bif U.2 then (dr N a5 0 (a4.length:Int)).bind fun Y=>(bif Y then (de N N a4 a5 a1 a2 a3 0 [] U.1 ([[]]) 0).bind fun Z=>lpB Z fun (Nt,Nu)=>(eF N a5 Nt).bind fun J=>some ((J.1.1,J.1.2),J.2) else some ((0,[]),false)) else some ((0,[]),false))
def fg (N:Nat):Nat->Int->T2_->Int->T2_->Int->Option (Sum Bool Int)
 | 0,_,_,_,_,_=>none
 | k+1,Z,U,Nt,Y,J=>(bif decide (J<(U.length:Int)) then (ix U J).bind fun Nu=>(ix Y J).bind fun Nv=>(cd N Nu Nv).bind fun Nw=>(bif (Nw != 0) then some (.inl false) else (ad J 1).bind fun Nx=>fg N k Z U Nt Y Nx) else some (.inr J))
def i5 (N:Nat) (a0:Int) (a1:T2_) (a2:Int) (a3:T2_):Option Bool:=(bif (a0 != a2) then some false else (bif ((a1.length:Int) != (a3.length:Int)) then some false else (fg N N a0 a1 a2 a3 0).bind fun J=>lpS J (fun q=>some q) fun U=>some true))
def gJ (N:Nat):Nat->(List (Int×T2_))->Int->Option (Sum Bool Int)
 | 0,_,_=>none
 | k+1,U,J=>(bif decide (J<(U.length:Int)) then (ix U J).bind fun Y=>(bif ((Y.2.length:Int) == 0) then some (.inl true) else (ad J 1).bind fun Z=>gJ N k U Z) else some (.inr J))
def mo (N:Nat) (a0:List (Int×T2_)):Option Bool:=(gJ N N a0 0).bind fun J=>lpS J (fun q=>some q) fun U=>some false
def fT (rec:(List (Int×T2_))->Int->(List (ByteArray×yP))->yP->yP->yP->Option (T2_×Int)) (N:Nat):Nat->(List (Int×T2_))->yP->yP->Int->(List (ByteArray×yP))->yP->T2_->yP->Int->Int->Option (T2_×Int×Int)
 | 0,_,_,_,_,_,_,_,_,_,_=>none
 | k+1,Y,Z,Nt,Nu,Nv,Nw,Nx,U,Ny,J=>(bif decide (J<(U.length:Int)) then (ix U J).bind fun NA=>(apd 8 [] Nt).bind fun NB=>(apd 8 NB [NA]).bind fun NC=>(rec Y Nu Nv Nw Z NC).bind fun Nz=>(apd 24 Nx Nz.1).bind fun ND=>(ad Ny Nz.2).bind fun NE=>(ad J 1).bind fun NF=>fT rec N k Y Z Nt Nu Nv Nw ND U NE NF else some (Nx,Ny,J))
def fo:Nat->(List (Int×T2_))->Int->(List (ByteArray×yP))->yP->yP->yP->Option (T2_×Int)
 | 0,_,_,_,_,_,_=>none
 | N+1,a0,a1,a2,a3,a4,a5=>(bif ((a5.length:Int) == (a4.length:Int)) then (apd 8 [] a5).bind fun U=>some ([U],0) else (nk N a0 a1 a2 a3 a4 a5).bind fun J=>(fT (fo N) N N a0 a4 a5 a1 a2 a3 [] J.1 J.2 0).bind fun Y=>lpB Y fun (Z,Nt,Nu)=>some (Z,Nt))
def kW (N:Nat) (a0:List (ByteArray×(Int×T2_))) (a1:Int) (a2:List (ByteArray×yP)) (a3:yP) (a4:yP):Option ((Int×T2_)×Int×Bool):=(kI N a0 a1 a2 a3 a4).bind fun J=>(bif J.2 then (mo N J.1).bind fun Z=>(bif Z then some (((a4.length:Int),[]),0,true) else (fo N J.1 a1 a2 a3 a4 []).bind fun Y=>(eF N (a4.length:Int) Y.1).bind fun U=>(bif U.2 then some ((U.1.1,U.1.2),Y.2,true) else some ((0,[]),0,false))) else some ((0,[]),0,false))
def gv (N:Nat) (a0:yP) (a1:T3_) (a2:Int):Option Bool:=(eV N a1).bind fun J=>(eT N a0 J.1).bind fun U=>(jo N a2 J.2).bind fun Y=>(bif decide (0<J.2) then (bif U.2 then (bif Y.2 then (g9 N Y.1 U.1).bind fun Z=>some (decide (Z<=0)) else some false) else some false) else some false)
def dW (N:Nat):Nat->Int->T2_->yP->T3_->Int->T2_->Bool->Int->T2_->Bool->Int->Option (Bool×Int)
 | 0,_,_,_,_,_,_,_,_,_,_,_=>none
 | k+1,Y,Z,U,Nt,Nu,Nv,Nw,Nx,Ny,Nz,J=>(bif decide (J<(U.length:Int)) then (bif Nz then (ad J 1).bind fun NA=>dW N k Y Z U Nt Nu Nv Nw Nx Ny true NA else (ix U J).bind fun NB=>(ad J 1).bind fun NC=>dW N k Y Z U Nt Nu Nv Nw Nx Ny (NB == 0) NC) else some (Nz,J))
def lZ (N:Nat) (a0:yP):Option Bool:=(wm N a0).bind fun Nw=>(bif Nw then some true else (jr N a0).bind fun J=>(jN N J.1 J.2.1.1 J.2.1.2.1 J.2.1.2.2 J.2.2.1 J.2.2.2).bind fun U=>(lc N J.1 J.2.1.1 J.2.1.2.1 J.2.1.2.2 J.2.2.1 J.2.2.2).bind fun Nt=>(bif (U.2 != Nt.2) then some false else (i5 N U.1.1 U.1.2 Nt.1.1 Nt.1.2).bind fun Nx=>(bif Nx then (bif U.2 then (nD N J.1 J.2.1.1 J.2.1.2.1 J.2.1.2.2).bind fun Nu=>(lH N J.2.1.1 J.2.1.2.1 J.2.1.2.2 Nu.1).bind fun Nv=>(jN N J.1 J.2.1.1 J.2.1.2.1 J.2.1.2.2 J.2.2.1 J.2.1.1).bind fun Y=>(kW N J.1 J.2.1.1 J.2.1.2.1 J.2.1.2.2 J.2.2.1).bind fun Z=>(dW N N U.1.1 U.1.2 Nu.1 Nv.1 Y.1.1 Y.1.2 Y.2 Z.1.1 Z.1.2 false 0).bind fun Ny=>lpB Ny fun (Nz,NC)=>(bif Y.2 then (i5 N Y.1.1 Y.1.2 Z.1.1 Z.1.2).bind fun NA=>(bif NA then (bif Nz then some true else (gv N Nu.1 Nv.1 (U.1.2.length:Int)).bind fun NB=>some NB) else some false) else some false) else some true) else some false)))
def inR (n lo hi:Int):Bool:=decide (lo<=n)&&decide (n<=hi)
theorem gZ (N:Nat) (n lo hi:Int):eE N n lo hi=some (inR n lo hi):=by
 unfold eE inR;cases decide (lo<=n) <;> rfl
theorem fP (N:Nat) (n lo hi:Int):dr N n lo hi=some (inR n lo hi):=by
 unfold dr inR;cases decide (lo<=n) <;> rfl
theorem cA {n lo hi:Int}:inR n lo hi=true↔lo<=n/\n<=hi:=by unfold inR;simp
def mR (a b:Int):Int:=if a<b then -1 else if b<a then 1 else 0
def bZ:yP->yP->Int
 | [],[]=>0
 | [],_ :: _=>-1
 | _ :: _,[]=>1
 | a :: xs,b :: ys=>if a<b then -1 else if b<a then 1 else bZ xs ys
theorem lA:∀ {xs ys:yP},bZ xs ys=0↔xs=ys
 | [],[]=>by simp [bZ]
 | [],_ :: _=>by simp [bZ]
 | _ :: _,[]=>by simp [bZ]
 | a :: xs,b :: ys=>by
  unfold bZ
  by_cases h1:a<b
  ·rw [aZ h1];simp;omega
  ·rw [bb h1]
   by_cases h2:b<a
   ·rw [aZ h2];simp;omega
   ·rw [bb h2,lA,List.cons.injEq]
    constructor
    ·rintro rfl;exact ⟨oa,rfl⟩
    ·exact fun h=>h.2
theorem Eb (xs:yP):bZ xs []=if xs.length=0 then 0 else 1:=by cases xs <;> simp [bZ]
theorem Dk (xs:yP):bZ [] xs=if xs.length=0 then 0 else -1:=by cases xs <;> simp [bZ]
theorem lE (N:Nat) (a b:Int):gL N a b=some (mR a b):=by
 unfold gL mR
 by_cases h1:a<b
 ·rw [ba h1,aZ h1];rfl
 ·rw [bf h1,bb h1]
  by_cases h2:b<a
  ·rw [ba h2,aZ h2];rfl
  ·rw [bf h2,bb h2];rfl
theorem gH {α:Type} {xs:List α} {i:Nat} (h:i<xs.length):xs.drop i=xs[i] :: xs.drop (i+1):=List.drop_eq_getElem_cons h
section
variable {N:Nat} {xs ys:yP}
theorem HU (hx:xs.length<=1048576) (hy:ys.length<=9223372036854775807):∀ k i,i<=xs.length->i<=ys.length->xs.length-i<k ->
  ∃ s,j0 N k xs ys (i:Int)=some s/\(match s with | .inl r=>bZ (xs.drop i) (ys.drop i)=r | .inr _=>bZ (xs.drop i) (ys.drop i)=mR xs.length ys.length):=by
 intro k
 induction k with
 | zero=>intro i h1 h2 h3;omega
 | succ k ih =>
  intro i h1 h2 h3
  rw [j0]
  by_cases h:i<xs.length
  ·by_cases h':i<ys.length
   ·rw [dlt h,ah,dlt h',ah,bc h,bs,bc h',bs,gH h,gH h',bZ]
    by_cases he:xs[i]=ys[i]
    ·rw [show (xs[i] != ys[i])=false by simpa using he,ak,ad1 oa,bs,bb oa,bb oa]
     exact ih (i+1) oa oa oa
    ·rw [show (xs[i] != ys[i])=true by simpa using he,ah,bs,bs,lE,bs]
     refine ⟨_,rfl,?_⟩
     show _=mR xs[i] ys[i]
     unfold mR
     by_cases h1:xs[i]<ys[i]
     ·rw [aZ h1,aZ h1]
     ·rw [bb h1,bb h1,aZ oa,aZ oa]
   ·rw [dlt h,ah,dge h',ak]
    refine ⟨_,rfl,?_⟩
    show _=mR _ _
    rw [ll (l:=ys) oa,Eb,bb (by simp;omega)]
    unfold mR;rw [bb oa,aZ oa]
  ·rw [dge h,ak]
   refine ⟨_,rfl,?_⟩
   show _=mR _ _
   rw [ll (l:=xs) oa,Dk]
   unfold mR
   by_cases h':i<ys.length
   ·rw [bb (by simp;omega),aZ oa]
   ·rw [aZ (by simp;omega),bb oa,bb oa]
theorem md (hN:1073741824<=N) (hx:xs.length<=1048576) (hy:ys.length<=9223372036854775807):gP N xs ys=some (bZ xs ys):=by
 obtain ⟨s,h1,h2⟩:=HU (N:=N) hx hy N 0 oa oa oa
 unfold gP
 rw [show ((0:Int))=((0:Nat):Int) from rfl,h1,bs]
 simp only [gD] at h2
 cases s with
 | inl r=>rw [h2];rfl
 | inr v=>show (gL N _ _).bind _=_;rw [lE,bs,h2]
theorem Ij (hx:xs.length<=1048576) (hy:ys.length<=9223372036854775807):∀ k i,i<=xs.length->i<=ys.length->xs.length-i<k ->
  ∃ s,j5 N k xs ys (i:Int)=some s/\(match s with | .inl r=>bZ (xs.drop i) (ys.drop i)=r | .inr _=>bZ (xs.drop i) (ys.drop i)=mR xs.length ys.length):=by
 intro k
 induction k with
 | zero=>intro i h1 h2 h3;omega
 | succ k ih =>
  intro i h1 h2 h3
  rw [j5]
  by_cases h:i<xs.length
  ·by_cases h':i<ys.length
   ·rw [dlt h,ah,dlt h',ah,bc h,bs,bc h',bs,gH h,gH h',bZ]
    by_cases he:xs[i]<ys[i]
    ·rw [ba he,ah,aZ he];exact ⟨_,rfl,rfl⟩
    ·rw [bf he,ak,bb he,bs,bs]
     by_cases he2:ys[i]<xs[i]
     ·rw [ba he2,ah,aZ he2];exact ⟨_,rfl,rfl⟩
     ·rw [bf he2,ak,bb he2,ad1 oa,bs]
      exact ih (i+1) oa oa oa
   ·rw [dlt h,ah,dge h',ak]
    refine ⟨_,rfl,?_⟩
    show _=mR _ _
    rw [ll (l:=ys) oa,Eb,bb (by simp;omega)]
    unfold mR;rw [bb oa,aZ oa]
  ·rw [dge h,ak]
   refine ⟨_,rfl,?_⟩
   show _=mR _ _
   rw [ll (l:=xs) oa,Dk]
   unfold mR
   by_cases h':i<ys.length
   ·rw [bb (by simp;omega),aZ oa]
   ·rw [aZ (by simp;omega),bb oa,bb oa]
theorem iX (hN:1073741824<=N) (hx:xs.length<=1048576) (hy:ys.length<=9223372036854775807):cd N xs ys=some (bZ xs ys):=by
 obtain ⟨s,h1,h2⟩:=Ij (N:=N) hx hy N 0 oa oa oa
 unfold cd
 rw [show ((0:Int))=((0:Nat):Int) from rfl,h1,bs]
 simp only [gD] at h2
 cases s with
 | inl r=>rw [h2];rfl
 | inr v =>
  rw [h2]
  show (bif decide ((xs.length:Int)<(ys.length:Int)) then _ else _)=_
  unfold mR
  by_cases h1:(xs.length:Int)<ys.length
  ·rw [ba h1,aZ h1];rfl
  ·rw [bf h1,bb h1,ak]
   by_cases h2:(ys.length:Int)<xs.length
   ·rw [ba h2,aZ h2];rfl
   ·rw [bf h2,bb h2];rfl
def fnd (v:Int):yP->Int->Int
 | [],_=>-1
 | x :: xs,i=>if x=v then i else fnd v xs (i+1)
def e8 (xs:yP) (v:Int):Int:=fnd v xs 0
theorem DP (v:Int):∀ (xs:yP) (i:Nat),(v∉xs/\fnd v xs i=-1)\/∃ j,∃ h:j<xs.length,xs[j]=v/\fnd v xs i=((i+j:Nat):Int)/\v∉xs.take j
 | [],i=>.inl ⟨by simp,rfl⟩
 | x :: xs,i=>by
  unfold fnd
  by_cases h:x=v
  ·rw [aZ h];exact .inr ⟨0,by simp,by simpa using h,by simp,by simp⟩
  ·rw [bb h]
   rcases DP v xs (i+1) with ⟨h1,h2⟩ | ⟨j,hj,h1,h2,h3⟩
   ·exact .inl ⟨by simp [h1,sF h],by simpa using h2⟩
   ·exact .inr ⟨j+1,by simpa using hj,by simpa using h1,by rw [show ((i:Int)+1)=((i+1:Nat):Int) by simp,h2];congr 1;omega,by simp [h3,sF h]⟩
theorem te (xs:yP) (v:Int):(v∉xs/\e8 xs v=-1)\/∃ j,∃ h:j<xs.length,xs[j]=v/\e8 xs v=(j:Int)/\v∉xs.take j:=by
 have:=DP v xs 0
 simpa [e8] using this
theorem oO (xs:yP) (v:Int):decide (0<=e8 xs v)=decide (v∈xs):=by
 rcases te xs v with ⟨h1,h2⟩ | ⟨j,hj,h1,h2,_⟩
 ·rw [h2,bf oa,bf h1]
 ·rw [h2,ba oa,ba (h1 ▸ bC hj)]
theorem wc (hN:1073741824<=N) (hx:xs.length<=1048576) (v:Int):lM N xs v=some (e8 xs v):=by
 have key:∀ k i,i<=xs.length->xs.length-i<k->∃ s,my N k v xs (xs.length:Int) (i:Int)=some s/\(match s with | .inl r=>fnd v (xs.drop i) i=r | .inr _=>fnd v (xs.drop i) i=-1):=by
  intro k
  induction k with
  | zero=>intro i h1 h2;omega
  | succ k ih =>
   intro i h1 h2
   rw [my]
   by_cases h:i<xs.length
   ·rw [dlt h,ah,bc h,bs,gH h,fnd]
    by_cases he:xs[i]=v
    ·rw [show (xs[i] == v)=true by simpa using he,ah,aZ he];exact ⟨_,rfl,rfl⟩
    ·rw [show (xs[i] == v)=false by simpa using he,ak,bb he,ad1 oa,bs]
     have:=ih (i+1) oa oa
     simpa using this
   ·rw [dge h,ak,ll oa];exact ⟨_,rfl,rfl⟩
 obtain ⟨s,h1,h2⟩:=key N 0 oa oa
 unfold lM e8
 rw [show ((0:Int))=((0:Nat):Int) from rfl,h1,bs]
 simp only [gD] at h2
 cases s with
 | inl r=>rw [h2];rfl
 | inr r=>rw [h2];rfl
theorem nI (hN:1073741824<=N) (hx:xs.length<=1048576) (v:Int):i8 N xs v=some (e8 xs v):=by
 have key:∀ k i,i<=xs.length->xs.length-i<k->∃ s,nG N k xs v (i:Int)=some s/\(match s with | .inl r=>fnd v (xs.drop i) i=r | .inr _=>fnd v (xs.drop i) i=-1):=by
  intro k
  induction k with
  | zero=>intro i h1 h2;omega
  | succ k ih =>
   intro i h1 h2
   rw [nG]
   by_cases h:i<xs.length
   ·rw [dlt h,ah,bc h,bs,gH h,fnd]
    by_cases he:xs[i]=v
    ·rw [show (xs[i] == v)=true by simpa using he,ah,aZ he];exact ⟨_,rfl,rfl⟩
    ·rw [show (xs[i] == v)=false by simpa using he,ak,bb he,ad1 oa,bs]
     have:=ih (i+1) oa oa
     simpa using this
   ·rw [dge h,ak,ll oa];exact ⟨_,rfl,rfl⟩
 obtain ⟨s,h1,h2⟩:=key N 0 oa oa
 unfold i8 e8
 rw [show ((0:Int))=((0:Nat):Int) from rfl,h1,bs]
 simp only [gD] at h2
 cases s with
 | inl r=>rw [h2];rfl
 | inr r=>rw [h2];rfl
theorem w7 (hN:1073741824<=N) (hx:xs.length<=1048576) (v:Int):mJ N xs v=some (decide (v∈xs)):=by
 unfold mJ;rw [wc hN hx,bs,oO]
def cn (xs:yP):Bool:=xs.all fun x=>inR x 0 99
theorem pE (hN:1073741824<=N) (hx:xs.length<=1048576):i4 N xs=some (cn xs):=by
 have:=mb (L:=fun k i=>fj N k xs (xs.length:Int) i) xs.length oa false (fun i=>if h:i<xs.length then inR xs[i] 0 99 else true) (xs.length:Int)
  (fun k i h=>by
   show fj N (k+1) xs _ (i:Int)=_
   rw [fj,dlt h,ah,bc h,bs,gZ,bs,ad1 oa,bs]
   simp only [ii h])
  (fun k=>by
   show fj N (k+1) xs _ (xs.length:Int)=_
   rw [fj,dge oa,ak]) N 0 oa oa
 unfold i4 cn
 rw [show ((0:Int))=((0:Nat):Int) from rfl,this,bs,ja,lx xs (fun x=>inR x 0 99) _ (fun i hi=>by rw [ii hi])]
 cases xs.all fun x=>inR x 0 99 <;> rfl
theorem pj (hN:1073741824<=N) (hx:xs.length<=1048576):iU N xs=some (cn xs):=by
 have:=mb (L:=fun k i=>fi N k xs i) xs.length oa false (fun i=>if h:i<xs.length then inR xs[i] 0 99 else true) (xs.length:Int)
  (fun k i h=>by
   show fi N (k+1) xs (i:Int)=_
   rw [fi,dlt h,ah,bc h,bs,fP,bs,ad1 oa,bs]
   simp only [ii h])
  (fun k=>by
   show fi N (k+1) xs (xs.length:Int)=_
   rw [fi,dge oa,ak]) N 0 oa oa
 unfold iU cn
 rw [show ((0:Int))=((0:Nat):Int) from rfl,this,bs,ja,lx xs (fun x=>inR x 0 99) _ (fun i hi=>by rw [ii hi])]
 cases xs.all fun x=>inR x 0 99 <;> rfl
def asc:yP->Bool
 | []=>true
 | [_]=>true
 | x :: y :: t=>decide (x<y)&&asc (y :: t)
theorem Me {L:Nat->Int->Option (Sum Bool Int)} (hx:xs.length<=1048576)
  (hs:∀ k i (h:i+1<xs.length),L (k+1) ((i+1:Nat):Int)=bif decide (xs[i+1]<=xs[i]) then some (.inl false) else L k ((i+2:Nat):Int)) (he:∀ k i,xs.length<=i->L (k+1) (i:Int)=some (.inr (i:Int))) :
  ∀ k i,xs.length-i<k->L k ((i+1:Nat):Int)=some (if asc (xs.drop i) then .inr ((max xs.length (i+1):Nat):Int) else .inl false):=by
 intro k
 induction k with
 | zero=>intro i hk;omega
 | succ k ih =>
  intro i hk
  by_cases h:i+1<xs.length
  ·rw [hs k i h,gH (by omega:i<xs.length),gH h,asc]
   by_cases hle:xs[i+1]<=xs[i]
   ·rw [ba hle,ah,bf oa];rfl
   ·rw [bf hle,ak,ba (by omega:xs[i]<xs[i+1]),cN,<- gH h]
    have:=ih (i+1) oa
    rw [this]
    congr 2
    rw [Nat.max_eq_left oa,Nat.max_eq_left oa]
  ·rw [he k (i+1) oa]
   have ha:asc (xs.drop i)=true:=by
    by_cases h2:i<xs.length
    ·rw [gH h2,ll oa];rfl
    ·rw [ll oa];rfl
   rw [ha,aZ rfl,Nat.max_eq_right oa]
theorem sw (hN:1073741824<=N) (hx:xs.length<=1048576):io N xs=some (asc xs):=by
 have:=Me (L:=fun k i=>dv N k xs i) hx
  (fun k i h=>by
   show dv N (k+1) xs ((i+1:Nat):Int)=_
   rw [dv,dlt h,ah,dO oa oa,bs,show (((i+1:Nat):Int)-1)=(i:Int) by omega,bc oa,bs,bc h,bs,ad1 oa,bs])
  (fun k i h=>by
   show dv N (k+1) xs (i:Int)=_
   rw [dv,dge oa,ak]) N 0 oa
 unfold io
 rw [show ((1:Int))=((0+1:Nat):Int) from rfl,this,bs,gD]
 cases asc xs <;> rfl
theorem sK (hN:1073741824<=N) (hx:xs.length<=1048576):ie N xs=some (asc xs):=by
 have:=Me (L:=fun k i=>du N k xs i) hx
  (fun k i h=>by
   show du N (k+1) xs ((i+1:Nat):Int)=_
   rw [du,dlt h,ah,bc h,bs,dO oa oa,bs,show (((i+1:Nat):Int)-1)=(i:Int) by omega,bc oa,bs,ad1 oa,bs])
  (fun k i h=>by
   show du N (k+1) xs (i:Int)=_
   rw [du,dge oa,ak]) N 0 oa
 unfold ie
 rw [show ((1:Int))=((0+1:Nat):Int) from rfl,this,bs,gD]
 cases asc xs <;> rfl
def jX (xs:yP) (n:Int):Bool:=(List.range' 0 xs.length).all fun i=>inR (xs.getD i 0) 0 (n-1)&&!decide (xs.getD i 0∈xs.take i)
theorem bR {xs:yP} {i:Nat} (h:i<xs.length):xs.getD i 0=xs[i]:=by simp [h]
theorem wr (hN:1073741824<=N) (hx:xs.length<=1048576) {n:Int} (hn:-1099511627776<=n/\n<=1099511627776):lK N xs n=some (jX xs n):=by
 have:=mb (L:=fun k i=>iM N k xs n xs (xs.length:Int) i) xs.length oa false (fun i=>inR (xs.getD i 0) 0 (n-1)&&!decide (xs.getD i 0∈xs.take i)) (xs.length:Int)
  (fun k i h=>by
   show iM N (k+1) xs n xs _ (i:Int)=_
   rw [iM,dlt h,ah,bc h,bs,dO oa oa,bs,gZ,bs,show ((0:Int))=((0:Nat):Int) from rfl,lm (dB _) oa,bs,gD,w7 hN (by simp;omega),bs,ad1 oa,bs]
   simp only [show ((0:Nat):Int)=0 from rfl,bR h]
   cases inR xs[i] 0 (n-1)
   ·rfl
   ·cases decide (xs[i]∈xs.take i) <;> rfl)
  (fun k=>by
   show iM N (k+1) xs n xs _ (xs.length:Int)=_
   rw [iM,dge oa,ak]) N 0 oa oa
 unfold lK jX
 rw [show ((0:Int))=((0:Nat):Int) from rfl,this,bs,ja]
 simp only [show ((0:Nat):Int)=0 from rfl]
 cases (List.range' 0 xs.length).all fun i=>inR (xs.getD i 0) 0 (n-1)&&!decide (xs.getD i 0∈xs.take i) <;> rfl
def lF (xs:yP):Bool:=decide ((xs.length:Int)<=5)&&jX xs xs.length
theorem uV (hN:1073741824<=N) (hx:xs.length<=1048576):kz N xs=some (lF xs):=by
 unfold kz lF
 rw [wr hN hx oa,bs]
 cases decide ((xs.length:Int)<=5) <;> rfl
theorem qr (hN:1073741824<=N) (hx:xs.length<=1048576):jh N xs=some (lF xs):=by
 have:=mb (L:=fun k i=>fC N k xs i) xs.length oa false (fun i=>inR (xs.getD i 0) 0 ((xs.length:Int)-1)&&!decide (xs.getD i 0∈xs.take i)) (xs.length:Int)
  (fun k i h=>by
   show fC N (k+1) xs (i:Int)=_
   rw [fC,dlt h,ah,bc h,bs,dO oa oa,bs,fP,bs,show ((0:Int))=((0:Nat):Int) from rfl,lm (dB _) oa,bs,bs,gD,nI hN (by simp;omega),bs,ad1 oa,bs]
   simp only [bR h,oO,show ((0:Nat):Int)=0 from rfl]
   cases inR xs[i] 0 ((xs.length:Int)-1)
   ·rfl
   ·cases decide (xs[i]∈xs.take i) <;> rfl)
  (fun k=>by
   show fC N (k+1) xs (xs.length:Int)=_
   rw [fC,dge oa,ak]) N 0 oa oa
 unfold jh lF jX
 rw [show ((0:Int))=((0:Nat):Int) from rfl,this,bs,ja]
 simp only [show ((0:Nat):Int)=0 from rfl]
 cases (List.range' 0 xs.length).all fun i=>inR (xs.getD i 0) 0 ((xs.length:Int)-1)&&!decide (xs.getD i 0∈xs.take i)
 ·cases decide ((xs.length:Int)<=5) <;> rfl
 ·cases decide ((xs.length:Int)<=5) <;> rfl
end
abbrev okI (xs:yP):Prop:=ua (fun _=>True) 1048576 xs
abbrev gg (xs:List (yP)):Prop:=ua (ua (fun _=>True) 1048576) 1048576 xs
theorem Mh {α:Type} [DecidableEq α] {L:Nat->Int->Option (Sum Bool Int)} {xs ys:List α} (hl:xs.length=ys.length) (hx:xs.length<=1048576) {N:Nat} (hN:1073741824<=N)
  (hs:∀ k i (h:i<xs.length) (h':i<ys.length),L (k+1) (i:Int)=bif decide (xs[i]=ys[i]) then L k ((i+1:Nat):Int) else some (.inl false)) (he:∀ k,L (k+1) (xs.length:Int)=some (.inr (xs.length:Int))) :
  ((L N 0).bind fun s=>lpS s (fun q=>some q) fun _=>some true)=some (decide (xs=ys)):=by
 have:=mb L xs.length oa false (fun i=>if h:i<xs.length then decide (xs[i]=ys[i]'oa) else true) (xs.length:Int)
  (fun k i h=>by rw [hs k i h oa];simp only [ii h]) he N 0 oa oa
 rw [show ((0:Int))=((0:Nat):Int) from rfl,this,bs,ja,HS hl _ (fun i hi=>by rw [ii hi])]
 cases decide (xs=ys) <;> rfl
theorem MX {α:Type} {xs ys:List α} (h:¬ xs.length=ys.length):((xs.length:Int) != (ys.length:Int))=true:=by simp;omega
theorem MH {α:Type} {xs ys:List α} (h:xs.length=ys.length):((xs.length:Int) != (ys.length:Int))=false:=by simp [h]
section
variable {N:Nat}
theorem DZ (xs ys:yP):(bZ xs ys != 0)=!decide (xs=ys):=by
 rw [D2];congr 1;rw [decide_eq_decide];exact lA
theorem Ib (xs ys:yP):(bZ xs ys == 0)=decide (xs=ys):=by
 rw [FR,decide_eq_decide];exact lA
theorem ph (hN:1073741824<=N) {a b:Int} {xs ys:List (yP)} (hx:gg xs) (hy:gg ys):i5 N a xs b ys=some (decide ((a,xs)=(b,ys))):=by
 unfold i5
 by_cases hl:xs.length=ys.length
 ·rw [MH hl,ak,Mh (L:=fun k i=>fg N k a xs b ys i) hl hx.1 hN (fun k i h h'=>?_) (fun k=>?_),D2]
  ·by_cases h1:a=b <;> by_cases h2:xs=ys <;> simp [h1,h2]
  ·have:=hx.1
   have:=(hy.2 _ (bC h')).1
   show fg N (k+1) a xs b ys (i:Int)=_
   rw [fg,dlt h,ah,bc h,bs,bc h',bs,iX hN (hx.2 _ (bC h)).1 oa,bs,DZ,ad1 oa,bs]
   cases decide (xs[i]=ys[i]) <;> rfl
  ·show fg N (k+1) a xs b ys (xs.length:Int)=_
   rw [fg,dge oa,ak]
 ·rw [MX hl,ah,D2]
  have:¬ xs=ys:=fun e=>hl (by rw [e])
  by_cases h1:a=b <;> simp [h1,this]
end
def tc (n:Int) (rows:List (yP)) (i:Nat):Bool :=
 decide (((rows.getD i []).length:Int)=n)&&cn (rows.getD i [])&&(Nat.beq i 0||decide (bZ (rows.getD (i-1) []) (rows.getD i [])<0))
def bM (n:Int) (rows:List (yP)):Bool:=inR n 0 5&&decide ((rows.length:Int)<=4000)&&(List.range' 0 rows.length).all (tc n rows)
theorem iY {rows:List (yP)} {i:Nat} (h:i<rows.length):rows.getD i []=rows[i]:=by simp [h]
section
variable {N:Nat}
theorem xJ (a:Int):decide (0<=a)=!decide (a<0):=by by_cases h:a<0 <;> simp [h];omega
theorem Eg (hN:1073741824<=N) {n:Int} {rows:List (yP)} (hx:gg rows):nq N n rows=some (bM n rows):=by
 have hl:=hx.1
 have:=mb (L:=fun k i=>gl N k n rows rows (rows.length:Int) i) rows.length oa false (tc n rows) (rows.length:Int)
  (fun k i h=>by
   have h1:=(hx.2 _ (bC h)).1
   show gl N (k+1) n rows rows _ (i:Int)=_
   rw [gl,dlt h,ah,bc h,bs,D2,pE hN h1,bs]
   unfold tc
   rw [iY h]
   cases decide ((rows[i].length:Int)=n)
   ·rfl
   cases cn rows[i]
   ·rfl
   cases i with
   | zero=>rw [ad1 oa];rfl
   | succ j =>
    rw [show decide (0<((j+1:Nat):Int))=true from ba oa,dO oa oa,bs,show (((j+1:Nat):Int)-1)=(j:Int) by omega,bc oa,bs,md hN (hx.2 _ (bC oa)).1 oa,bs,ad1 oa,bs,xJ,sa,iY oa]
    cases decide (bZ rows[j] rows[j+1]<0) <;> rfl)
  (fun k=>by
   show gl N (k+1) n rows rows _ (rows.length:Int)=_
   rw [gl,dge oa,ak]) N 0 oa oa
 unfold nq bM
 rw [gZ,bs,show ((0:Int))=((0:Nat):Int) from rfl,this,bs,ja]
 by_cases h4:(rows.length:Int)<=4000
 ·rw [ba h4,bf (by omega:¬ (4000:Int)<rows.length)]
  simp only [show ((0:Nat):Int)=0 from rfl]
  cases inR n 0 5 <;> cases (List.range' 0 rows.length).all (tc n rows) <;> rfl
 ·rw [bf h4,ba (by omega:(4000:Int)<rows.length)]
  simp only [show ((0:Nat):Int)=0 from rfl]
  cases inR n 0 5 <;> rfl
theorem jQ (hN:1073741824<=N) {n:Int} {rows:List (yP)} (hx:gg rows):dV N n rows=some (bM n rows):=by
 unfold dV;rw [Eg hN hx,bs]
theorem jS (hN:1073741824<=N) {n:Int} {rows:List (yP)} (hx:gg rows):eu N n rows=some (bM n rows):=by
 have hl:=hx.1
 have:=mb (L:=fun k i=>dJ N k n rows i) rows.length oa false (tc n rows) (rows.length:Int)
  (fun k i h=>by
   have h1:=(hx.2 _ (bC h)).1
   show dJ N (k+1) n rows (i:Int)=_
   rw [dJ,dlt h,ah,bc h,bs,D2,bs,pj hN h1,bs]
   unfold tc
   rw [iY h]
   cases decide ((rows[i].length:Int)=n)
   ·rfl
   cases cn rows[i]
   ·rfl
   cases i with
   | zero=>rw [ad1 oa];rfl
   | succ j =>
    rw [show decide (0<((j+1:Nat):Int))=true from ba oa,dO oa oa,bs,show (((j+1:Nat):Int)-1)=(j:Int) by omega,bc oa,bs,bs,iX hN (hx.2 _ (bC oa)).1 oa,bs,ad1 oa,bs,xJ,sa,iY oa]
    cases decide (bZ rows[j] rows[j+1]<0) <;> rfl)
  (fun k=>by
   show dJ N (k+1) n rows (rows.length:Int)=_
   rw [dJ,dge oa,ak]) N 0 oa oa
 unfold eu bM
 rw [fP,bs,show ((0:Int))=((0:Nat):Int) from rfl,this,bs,ja]
 by_cases h4:(rows.length:Int)<=4000
 ·rw [ba h4,bf (by omega:¬ (4000:Int)<rows.length)]
  simp only [show ((0:Nat):Int)=0 from rfl]
  cases inR n 0 5 <;> cases (List.range' 0 rows.length).all (tc n rows) <;> rfl
 ·rw [bf h4,ba (by omega:(4000:Int)<rows.length)]
  simp only [show ((0:Nat):Int)=0 from rfl]
  cases inR n 0 5 <;> rfl
theorem cD {n:Int} {rows:List (yP)} (h:bM n rows=true):0<=n/\n<=5/\rows.length<=4000/\∀ i (hi:i<rows.length),(rows[i].length:Int)=n/\cn rows[i]=true/\(∀ j (hj:j+1=i),bZ (rows[j]'oa) rows[i]<0):=by
 unfold bM at h
 simp only [b9,cA,dN,dQ] at h
 refine ⟨h.1.1.1,h.1.1.2,oa,fun i hi=>?_⟩
 have:=h.2 i (by simp;omega)
 unfold tc at this
 rw [iY hi] at this
 simp only [b9,dN,rO] at this
 refine ⟨this.1.1,this.1.2,?_⟩
 rintro j rfl
 rcases this.2 with h2 | h2
 ·exact absurd (tM h2) oa
 ·rw [sa,iY oa] at h2;exact h2

theorem rC {a b:Int} (h:b≠0):rm a b=some (a.tmod b):=by unfold rm;rw [aZ h]
theorem BY {a b:Int} (ha:0<=a) (hb:0<b):0<=a.tmod b/\a.tmod b<b:=⟨Int.tmod_nonneg _ ha,Int.tmod_lt_of_pos _ hb⟩
end
abbrev nM:=yP × yP
def Iu (far:yP) (i:Nat) (ch:yP) (j:Nat):Bool:=inR (ch.getD j 0) 0 ((i:Int)-1)&&decide (far.getD (ch.getD j 0).toNat 0=far.getD (ch.getD 0 0).toNat 0)
def Fc (nodes:List nM) (i:Nat) (x:nM):Bool:=((nodes.take i).drop 1).all fun m=>!decide (m=x)
def IR (nodes:List nM) (olen:Nat) (far:yP) (i:Nat) (x:nM):Option Int :=
 bif decide (x.1.length=x.2.length)&&cn x.1&&asc x.1 then
  bif decide (x.1.length=0) then (bif decide (i+1=nodes.length) then some (olen:Int) else none)
  else bif (List.range' 0 x.2.length).all (Iu far i x.2)&&Fc nodes i x then some (far.getD (x.2.getD 0 0).toNat 0+1) else none
 else none
structure VF (olen:Nat) (nodes:List nM) (far:yP):Prop where
 pos:1<=nodes.length
 le:nodes.length<=4000
 z1:(nodes.getD 0 ([],[])).1=[]
 z2:(nodes.getD 0 ([],[])).2=[]
 len:far.length=nodes.length
 f0:far.getD 0 0=0
 last:far.getD (nodes.length-1) 0=(olen:Int)
 nd:∀ i,1<=i->i<nodes.length->IR nodes olen (far.take i) i (nodes.getD i ([],[]))=some (far.getD i 0)
theorem Gu {xs:yP} {i j:Nat} (h:j<i):(xs.take i).getD j 0=xs.getD j 0:=by
 rw [q7,q7,lg,aZ h]
theorem VF.node {olen:Nat} {nodes:List nM} {far:yP} (V:VF olen nodes far) {i:Nat} (h1:1<=i) (h2:i<nodes.length) :
    (nodes.getD i ([],[])).1.length=(nodes.getD i ([],[])).2.length/\asc (nodes.getD i ([],[])).1=true /\
    ((nodes.getD i ([],[])).1=[]/\i+1=nodes.length/\far.getD i 0=olen \/
     (nodes.getD i ([],[])).1≠[]/\∀ j,j<(nodes.getD i ([],[])).2.length->0<=(nodes.getD i ([],[])).2.getD j 0/\(nodes.getD i ([],[])).2.getD j 0<i/\far.getD ((nodes.getD i ([],[])).2.getD j 0).toNat 0+1=far.getD i 0):=by
  have h:=V.nd i h1 h2
  generalize nodes.getD i ([],[])=x at *
  unfold IR at h
  cases e1:(decide (x.1.length=x.2.length)&&cn x.1&&asc x.1) with
  | false=>rw [e1] at h;cases h
  | true =>
    rw [e1,ah] at h
    simp only [b9,dN] at e1
    refine ⟨e1.1.1,e1.2,?_⟩
    by_cases hz:x.1.length=0
    · rw [ba hz,ah] at h
      by_cases hi:i+1=nodes.length
      · rw [ba hi,ah] at h
        exact .inl ⟨li.1 hz,hi,(dz h).symm⟩
      · rw [bf hi] at h;cases h
    · rw [bf hz,ak] at h
      cases ha:(List.range' 0 x.2.length).all (Iu (far.take i) i x.2) with
      | false=>rw [ha] at h;cases h
      | true =>
        rw [ha,cN] at h
        cases hb:Fc nodes i x with
        | false=>rw [hb] at h;cases h
        | true =>
          rw [hb,ah] at h
          refine .inr ⟨fun e=>hz (by simp [e]),fun j hj=>?_⟩
          have hc:∀ j,j<x.2.length->0<=x.2.getD j 0/\x.2.getD j 0<i/\far.getD (x.2.getD j 0).toNat 0=(far.take i).getD (x.2.getD 0 0).toNat 0:=by
            intro j hj
            have:=(dQ.1 ha) j (by simp;omega)
            unfold Iu at this
            simp only [b9,dN] at this
            have g:=cA.1 this.1
            refine ⟨g.1,oa,?_⟩
            rw [<- this.2,Gu oa]
          obtain ⟨q1,q2,q3⟩:=hc j hj
          exact ⟨q1,q2,by rw [q3];exact dz h⟩
theorem dU {σ V:Type} (L:Nat->σ->Int->Option V) (n:Nat) (A:Nat->σ) (v:V)
  (hstep:∀ k i,i<n->L (k+1) (A i) (i:Int)=L k (A (i+1)) ((i+1:Nat):Int)) (hend:∀ k,L (k+1) (A n) (n:Int)=some v) :
  ∀ k i,i<=n->n-i<k->L k (A i) (i:Int)=some v:=by
 intro k
 induction k with
 | zero=>intro i hi hk;omega
 | succ k ih =>
  intro i hi hk
  by_cases h:i<n
  ·rw [hstep k i h];exact ih (i+1) oa oa
  ·obtain rfl:i=n:=by omega
   exact hend k
theorem VF.lens {olen:Nat} {nodes:List nM} {far:yP} (V:VF olen nodes far) {i:Nat} (h2:i<nodes.length):(nodes.getD i ([],[])).1.length=(nodes.getD i ([],[])).2.length:=by
 by_cases h1:1<=i
 ·exact (V.node h1 h2).1
 ·obtain rfl:i=0:=by omega
  rw [V.z1,V.z2]
theorem VF.asc {olen:Nat} {nodes:List nM} {far:yP} (V:VF olen nodes far) {i:Nat} (h2:i<nodes.length):Go.Proofs.YteemghjjopdljaaGreat.asc (nodes.getD i ([],[])).1=true:=by
 by_cases h1:1<=i
 ·exact (V.node h1 h2).2.1
 ·obtain rfl:i=0:=by omega
  rw [V.z1];rfl
section
variable {N:Nat}
theorem tj {b:Nat} {α:Type} {xs:List α} (hb:b<=64) (h:xs.length<=1048576):apd b [] xs=some xs:=by
 rw [bt hb (by simp;omega)];rfl
theorem C2 {b:Nat} {α:Type} {xs:List α} {i:Nat} (hb:b<=64) (h:i<xs.length) (hl:xs.length<=1048576):apd b (xs.take i) [xs[i]]=some (xs.take (i+1)):=by
 rw [bt hb (by simp;omega),gx h]
theorem yl {rows:List (yP)} (h:gg rows) {i:Nat} (hi:i<rows.length):rows[i].length<=1048576:=(h.2 _ (bC hi)).1
theorem CH (hN:1073741824<=N) {a:Int} {rows:List (yP)} (h:gg rows):oe N a rows=some (a,rows):=by
 have hl:=h.1
 unfold oe
 have hL:=dU (fun k (s:List (yP)) i=>iA N k a rows 0 [] a s i) rows.length (fun i=>rows.take i) (rows,(rows.length:Int))
  (fun k i hi=>by
   show iA N (k+1) a rows 0 [] a (rows.take i) (i:Int)=_
   rw [iA,dlt hi,ah,bc hi,bs,tj (by decide) (yl h hi),bs,C2 (by decide) hi hl,bs,ad1 oa,bs])
  (fun k=>by
   show iA N (k+1) a rows 0 [] a (rows.take rows.length) (rows.length:Int)=_
   rw [iA,dge oa,ak,dx]) N 0 oa oa
 have hL':iA N N a rows 0 [] a [] 0=_:=hL
 rw [hL',bs,lpB]
theorem uH (hN:1073741824<=N) {rows:List (yP)} (h:gg rows):mr N rows=some rows:=by
 have hl:=h.1
 unfold mr
 have hL:=dU (fun k (s:List (yP)) i=>gO N k s rows (rows.length:Int) i) rows.length (fun i=>rows.take i) (rows,(rows.length:Int))
  (fun k i hi=>by
   show gO N (k+1) (rows.take i) rows (rows.length:Int) (i:Int)=_
   rw [gO,dlt hi,ah,bc hi,bs,kQ,tj (by decide) (yl h hi),bs,bs,C2 (by decide) hi hl,bs,ad1 oa,bs])
  (fun k=>by
   show gO N (k+1) (rows.take rows.length) rows (rows.length:Int) (rows.length:Int)=_
   rw [gO,dge oa,ak,dx]) N 0 oa oa
 have hL':gO N N [] rows (rows.length:Int) 0=_:=hL
 rw [hL',bs,lpB]
theorem Bb (hN:1073741824<=N) {a:Int} {rows:List (yP)} (h:gg rows):kZ N a rows=some (a,rows):=by
 unfold kZ
 rw [uH hN h,bs]
end
def nU (ls:List (yP)):Bool:=ls.all asc&&decide (0<ls.length)
section
variable {N:Nat}
theorem DQ {L:Nat->Int->Option (Sum Bool Int)} {ls:List (yP)} (hN:1073741824<=N) (h:gg ls)
  (hs:∀ k i (hi:i<ls.length),L (k+1) (i:Int)=bif asc ls[i] then L k ((i+1:Nat):Int) else some (.inl false)) (he:∀ k,L (k+1) (ls.length:Int)=some (.inr (ls.length:Int))) :
  (L N 0).bind (fun s=>lpS s (fun q=>some q) fun _=>some (decide (0<(ls.length:Int))))=some (nU ls):=by
 have hl:=h.1
 have:=mb L ls.length oa false (fun i=>if h:i<ls.length then asc ls[i] else true) (ls.length:Int)
  (fun k i hi=>by rw [hs k i hi];simp only [ii hi]) he N 0 oa oa
 rw [show ((0:Int))=((0:Nat):Int) from rfl,this,bs,ja,lx ls asc _ (fun i hi=>by rw [ii hi])]
 unfold nU
 cases ls.all asc
 ·rfl
 ·simp only [ah,lpS,cN];simp
theorem G1 (hN:1073741824<=N) {ls:List (yP)} (h:gg ls):pP N ls=some (nU ls):=by
 have hl:=h.1
 unfold pP
 exact DQ hN h (L:=fun k i=>ji N k ls i)
  (fun k i hi=>by
   show ji N (k+1) ls (i:Int)=_
   rw [ji,dlt hi,ah,bc hi,bs,sK hN (yl h hi),bs,ad1 oa,bs])
  (fun k=>by
   show ji N (k+1) ls (ls.length:Int)=_
   rw [ji,dge oa,ak])
theorem yT (hN:1073741824<=N) {ls:List (yP)} (h:gg ls):jW N ls=some (nU ls):=by
 have hl:=h.1
 unfold jW
 exact DQ hN h (L:=fun k i=>ff N k ls ls (ls.length:Int) i)
  (fun k i hi=>by
   show ff N (k+1) ls ls (ls.length:Int) (i:Int)=_
   rw [ff,dlt hi,ah,bc hi,bs,sw hN (yl h hi),bs,ad1 oa,bs])
  (fun k=>by
   show ff N (k+1) ls ls (ls.length:Int) (ls.length:Int)=_
   rw [ff,dge oa,ak])
theorem ixL {ls:List (yP)} {s:Int} (h:0<=s/\s<ls.length):ix ls s=some (ls.getD s.toNat []):=by
 rw [nE h.1 h.2,iY oa]
end
theorem Ac {α R V:Type} (L:Nat->Int->Option (Sum R V)) (xs:List α) (q:α->Bool) (g:α->R) (v:V) (hl:xs.length<1099511627776)
  (hstep:∀ k i (h:i<xs.length),L (k+1) (i:Int)=bif q xs[i] then some (.inl (g xs[i])) else L k ((i+1:Nat):Int)) (hend:∀ k,L (k+1) (xs.length:Int)=some (.inr v)) :
  ∀ k i,i<=xs.length->xs.length-i<k->L k (i:Int)=some (match (xs.drop i).find? q with | some x=>.inl (g x) | none=>.inr v):=by
 intro k
 induction k with
 | zero=>intro i h1 h2;omega
 | succ k ih =>
  intro i h1 h2
  by_cases h:i<xs.length
  ·rw [hstep k i h,gH h,List.find?_cons]
   cases hq:q xs[i]
   ·rw [ak];exact ih (i+1) oa oa
   ·rfl
  ·obtain rfl:i=xs.length:=by omega
   rw [hend,List.drop_length];rfl
abbrev bA:=ByteArray × (Int × List (yP))
abbrev nO (ts:List bA):Prop:=ua (fun x=>x.1.size<=1048576/\ua (ua (fun _=>True) 1048576) 1048576 x.2.2) 1048576 ts
def vA (s:ByteArray) (i:Nat):Int:=match s[i]? with | some b=>(b.toNat:Int) | none=>0
theorem LA {s:ByteArray} {i:Nat} (h:i<s.size):bx s (i:Int)=some (vA s i):=by
 unfold bx vA
 rw [aZ oa,jf,getElem?_pos s i h];rfl
def rq (s:ByteArray) (i:Nat):Bool:=!decide (vA s i<97)&&!decide (122<vA s i)
def py (s:ByteArray):Bool:=inR s.size 1 4&&(List.range' 0 s.size).all (rq s)
def sU (ts:List bA) (i:Nat):Bool :=
 let t:=ts.getD i (ByteArray.empty,0,[])
 py t.1&&(Nat.beq i 0||ltS (ts.getD (i-1) (ByteArray.empty,0,[])).1 t.1)&&bM t.2.1 t.2.2&&!decide (t.2.1<1)&&!decide (16<(t.2.2.length:Int))
def pX (ts:List bA):Bool:=decide ((ts.length:Int)<=6)&&(List.range' 0 ts.length).all (sU ts)
def cl (ts:List bA) (s:ByteArray):(Int × List (yP)) × Bool :=
 bif pX ts then (match ts.find? (fun t=>decide (t.1=s)) with | some t=>(t.2,true) | none=>((0,[]),false)) else ((0,[]),false)
theorem tp {ts:List bA} {i:Nat} (h:i<ts.length):ts.getD i (ByteArray.empty,0,[])=ts[i]:=by simp [h]
section
variable {N:Nat}
theorem Lv {L:Nat->Int->Option (Sum Bool Int)} {s:ByteArray} (hs:s.size<=1048576) (hN:1073741824<=N)
  (hstep:∀ k i,L (k+1) i=(bif decide (i<(s.size:Int)) then (bx s i).bind fun a=>(bif decide (a<97) then some (.inl false) else (bx s i).bind fun b=>(bif decide (122<b) then some (.inl false) else (ad i 1).bind fun j=>L k j)) else some (.inr i))) :
  L N 0=some (bif (List.range' 0 s.size).all (rq s) then .inr (s.size:Int) else .inl false):=by
 have:=mb L s.size oa false (rq s) (s.size:Int)
  (fun k i h=>by
   rw [hstep,dlt h,ah,LA h,bs,bs,ad1 oa,bs]
   unfold rq
   cases decide (vA s i<97)
   ·cases decide (122<vA s i) <;> rfl
   ·rfl)
  (fun k=>by rw [hstep,dge oa,ak]) N 0 oa oa
 rw [ja] at this
 exact this
theorem rb (hN:1073741824<=N) {s:ByteArray} (hs:s.size<=1048576):kg N s=some (py s):=by
 unfold kg o3 py
 by_cases h1:(s.size:Int)<1
 ·rw [ba h1,show inR (s.size:Int) 1 4=false by rw [<- Bool.not_eq_true,cA];omega];rfl
 by_cases h4:(4:Int)<s.size
 ·rw [bf h1,ba h4,show inR (s.size:Int) 1 4=false by rw [<- Bool.not_eq_true,cA];omega];rfl
 rw [bf h1,bf h4,show inR (s.size:Int) 1 4=true by rw [cA];omega,ak,ak,Lv (L:=fun k i=>jO N k s i) hs hN (fun k i=>by
  show jO N (k+1) s i=_
  rw [jO]),bs]
 cases (List.range' 0 s.size).all (rq s) <;> rfl
theorem ra (hN:1073741824<=N) {s:ByteArray} (hs:s.size<=1048576):kd N s=some (py s):=by
 unfold kd py
 rw [Lv (L:=fun k i=>iZ N k s i) hs hN (fun k i=>by
  show iZ N (k+1) s i=_
  rw [iZ]),bs]
 cases (List.range' 0 s.size).all (rq s)
 ·cases inR (s.size:Int) 1 4 <;> rfl
 ·simp only [ah,lpS,fP,bs,vn]
theorem o6 (hN:1073741824<=N) {ts:List bA} (hx:nO ts):ir N ts=some (pX ts):=by
 have hl:=hx.1
 have:=mb (L:=fun k i=>dk N k ts ts (ts.length:Int) i) ts.length oa false (sU ts) (ts.length:Int)
  (fun k i h=>by
   obtain ⟨g1,g2⟩:=hx.2 _ (bC h)
   show dk N (k+1) ts ts (ts.length:Int) (i:Int)=_
   rw [dk,dlt h,ah,bc h,bs,rb hN g1,bs]
   unfold sU
   rw [tp h]
   simp only []
   cases py ts[i].1
   ·rfl
   rw [jQ hN g2,bs]
   cases i with
   | zero =>
    rw [ad1 oa]
    simp only [bs]
    cases bM ts[0].2.1 ts[0].2.2
    ·rfl
    ·show (bif decide _ then _ else _)=_
     cases decide (ts[0].2.1<1)
     ·cases decide (16<(ts[0].2.2.length:Int)) <;> rfl
     ·cases decide (16<(ts[0].2.2.length:Int)) <;> rfl
   | succ j =>
    rw [show decide (0<((j+1:Nat):Int))=true from ba oa,dO oa oa,bs,show (((j+1:Nat):Int)-1)=(j:Int) by omega,bc oa,bs,ad1 oa,sa,tp oa]
    simp only [bs]
    cases ltS ts[j].1 ts[j+1].1
    ·rfl
    cases bM ts[j+1].2.1 ts[j+1].2.2
    ·rfl
    ·show (bif decide _ then _ else _)=_
     cases decide (ts[j+1].2.1<1)
     ·cases decide (16<(ts[j+1].2.2.length:Int)) <;> rfl
     ·cases decide (16<(ts[j+1].2.2.length:Int)) <;> rfl)
  (fun k=>by
   show dk N (k+1) ts ts (ts.length:Int) (ts.length:Int)=_
   rw [dk,dge oa,ak]) N 0 oa oa
 rw [ja] at this
 unfold ir pX
 by_cases h6:(6:Int)<ts.length
 ·rw [ba h6,bf (by omega:¬ (ts.length:Int)<=6)];rfl
 rw [bf h6,ba (by omega:(ts.length:Int)<=6),ak,cN]
 have this':dk N N ts ts (ts.length:Int) 0=_:=this
 rw [this',bs]
 cases (List.range' 0 ts.length).all (sU ts) <;> rfl
theorem mi (hN:1073741824<=N) {ts:List bA} (hx:nO ts):iD N ts=some (pX ts):=by
 have hl:=hx.1
 have:=mb (L:=fun k i=>dh N k ts i) ts.length oa false (sU ts) (ts.length:Int)
  (fun k i h=>by
   obtain ⟨g1,g2⟩:=hx.2 _ (bC h)
   show dh N (k+1) ts (i:Int)=_
   rw [dh,dlt h,ah,bc h,bs,ra hN g1,bs]
   unfold sU
   rw [tp h]
   simp only []
   cases py ts[i].1
   ·rfl
   rw [jS hN g2,bs]
   cases i with
   | zero =>
    rw [ad1 oa]
    simp only [bs]
    cases bM ts[0].2.1 ts[0].2.2
    ·rfl
    ·show (bif decide _ then _ else _)=_
     cases decide (ts[0].2.1<1)
     ·cases decide (16<(ts[0].2.2.length:Int)) <;> rfl
     ·cases decide (16<(ts[0].2.2.length:Int)) <;> rfl
   | succ j =>
    rw [show decide (0<((j+1:Nat):Int))=true from ba oa,dO oa oa,bs,show (((j+1:Nat):Int)-1)=(j:Int) by omega,bc oa,bs,ad1 oa,sa,tp oa]
    simp only [bs]
    cases ltS ts[j].1 ts[j+1].1
    ·rfl
    cases bM ts[j+1].2.1 ts[j+1].2.2
    ·rfl
    ·show (bif decide _ then _ else _)=_
     cases decide (ts[j+1].2.1<1)
     ·cases decide (16<(ts[j+1].2.2.length:Int)) <;> rfl
     ·cases decide (16<(ts[j+1].2.2.length:Int)) <;> rfl)
  (fun k=>by
   show dh N (k+1) ts (ts.length:Int)=_
   rw [dh,dge oa,ak]) N 0 oa oa
 rw [ja] at this
 unfold iD pX
 have this':dh N N ts 0=_:=this
 rw [this',bs]
 cases (List.range' 0 ts.length).all (sU ts)
 ·simp only [ak,lpS,n4]
 ·simp only [ah,lpS,vn]
theorem pN (hN:1073741824<=N) {ts:List bA} {s:ByteArray} (hx:nO ts):iV N ts s=some (cl ts s):=by
 have hl:=hx.1
 unfold iV cl
 rw [o6 hN hx,bs]
 cases pX ts
 ·rfl
 rw [ah,ah]
 have:=Ac (fun k i=>d9 N k s 0 [] ts (ts.length:Int) i) ts (fun t=>decide (t.1=s)) (fun t=>(t.2,true)) (ts.length:Int) oa
  (fun k i h=>by
   obtain ⟨g1,g2⟩:=hx.2 _ (bC h)
   show d9 N (k+1) s 0 [] ts _ (i:Int)=_
   rw [d9,dlt h,ah,bc h,bs,Bb hN g2,bs,ad1 oa,bs,Fm])
  (fun k=>by
   show d9 N (k+1) s 0 [] ts _ (ts.length:Int)=_
   rw [d9,dge oa,ak]) N 0 oa oa
 rw [gD] at this
 have this':d9 N N s 0 [] ts (ts.length:Int) 0=_:=this
 rw [this',bs]
 cases ts.find? (fun t=>decide (t.1=s)) <;> rfl
theorem pL (hN:1073741824<=N) {ts:List bA} {s:ByteArray} (hx:nO ts):iW N ts s=some (cl ts s):=by
 have hl:=hx.1
 unfold iW cl
 cases hv:pX ts
 ·obtain ⟨M,rfl⟩:∃ M,N=M+1:=⟨N-1,oa⟩
  rw [dw,mi hN hx,bs,hv]
  cases decide ((0:Int)<(ts.length:Int)) <;> rfl
 rw [ah]
 have:=Ac (fun k i=>dw N k s ts 0 [] i) ts (fun t=>decide (t.1=s)) (fun t=>(t.2,true)) (ts.length:Int) oa
  (fun k i h=>by
   obtain ⟨g1,g2⟩:=hx.2 _ (bC h)
   show dw N (k+1) s ts 0 [] (i:Int)=_
   rw [dw,dlt h,ah,mi hN hx,bs,hv,ah,bc h,bs,bs,CH hN g2,bs,ad1 oa,bs,Fm])
  (fun k=>by
   show dw N (k+1) s ts 0 [] (ts.length:Int)=_
   rw [dw,dge oa,ak]) N 0 oa oa
 rw [gD] at this
 have this':dw N N s ts 0 [] 0=_:=this
 rw [this',bs]
 cases ts.find? (fun t=>decide (t.1=s)) <;> rfl
end
theorem rx:∀ (a b:yP),bZ b a=- bZ a b
 | [],[]=>by simp [bZ]
 | [],_ :: _=>by simp [bZ]
 | _ :: _,[]=>by simp [bZ]
 | x :: a,y :: b=>by
  unfold bZ
  have:=rx a b
  (repeat' split) <;> omega
theorem lu:∀ {a b c:yP},bZ a b<0->bZ b c<0->bZ a c<0
 | [],[],_,h,_=>by simp [bZ] at h
 | [],_ :: _,[],_,h=>by simp [bZ] at h
 | [],_ :: _,_ :: _,_,_=>by simp [bZ]
 | _ :: _,[],_,h,_=>by simp [bZ] at h
 | _ :: _,_ :: _,[],_,h=>by simp [bZ] at h
 | x :: a,y :: b,z :: c,h1,h2=>by
  unfold bZ at h1 h2 ⊢
  have:=@lu a b c
  split at h1
  ·split at h2
   ·rw [aZ oa];omega
   ·split at h2
    ·omega
    ·rw [aZ oa];omega
  ·split at h1
   ·omega
   ·split at h2
    ·rw [aZ oa];omega
    ·split at h2
     ·omega
     ·rw [bb oa,bb oa];exact this h1 h2
def Lq (rows:List (yP)):Prop:=∀ i j (_:i<j) (hj:j<rows.length),bZ (rows[i]'oa) rows[j]<0
theorem Jc {rows:List (yP)} (h:∀ i (hi:i<rows.length) j (hj:j+1=i),bZ (rows[j]'oa) rows[i]<0):Lq rows:=by
 intro i j hij hj
 induction j with
 | zero=>omega
 | succ j ih =>
  have h1:=h (j+1) hj j rfl
  by_cases e:i=j
  ·subst e;exact h1
  ·exact lu (ih oa oa) h1
theorem CK {n:Int} {rows:List (yP)} (h:bM n rows=true):Lq rows:=by
 obtain ⟨_,_,_,h4⟩:=cD h
 exact Jc fun i hi j hj=>(h4 i hi).2.2 j hj
section
variable {N:Nat}
theorem xA {α:Type} {N:Nat} (L:Nat->Int->Option (Sum Bool Int)) (xs:List α) (q:α->Bool) (hN:1073741824<=N) (hl:xs.length<=1048576)
  (hstep:∀ k i (h:i<xs.length),L (k+1) (i:Int)=bif q xs[i] then L k ((i+1:Nat):Int) else some (.inl false)) (hend:∀ k,L (k+1) (xs.length:Int)=some (.inr (xs.length:Int))) :
  L N 0=some (bif xs.all q then .inr (xs.length:Int) else .inl false):=by
 have:=mb L xs.length oa false (fun i=>if h:i<xs.length then q xs[i] else true) (xs.length:Int) (fun k i h=>by rw [hstep k i h];simp only [ii h]) hend N 0 oa oa
 rw [ja,lx xs q _ (fun i hi=>by rw [ii hi])] at this
 exact this
end
theorem Hy {σ R V:Type} (L:Nat->σ->Int->Option (Sum R V)) (n:Nat) (b:R) (p:Nat->Bool) (A:Nat->σ) (v:V)
  (hstep:∀ k i,i<n->L (k+1) (A i) (i:Int)=bif p i then L k (A (i+1)) ((i+1:Nat):Int) else some (.inl b)) (hend:∀ k,L (k+1) (A n) (n:Int)=some (.inr v)) :
  ∀ k i,i<=n->n-i<k->L k (A i) (i:Int)=some (bif (List.range' i (n-i)).all p then .inr v else .inl b):=by
 intro k
 induction k with
 | zero=>intro i hi hk;omega
 | succ k ih =>
  intro i hi hk
  by_cases h:i<n
  ·rw [hstep k i h,show n-i=(n-(i+1))+1 by omega,List.range'_succ,xb]
   cases hp:p i with
   | true=>rw [ah,cN];exact ih (i+1) oa oa
   | false=>rfl
  ·obtain rfl:i=n:=by omega
   rw [hend k,Nat.sub_self];rfl
theorem kt {R V S:Type} {v:V} {f:R->Option S} {g:V->Option S}:lpS (.inr v) f g=g v:=rfl
theorem ou {R V S:Type} {v:R} {f:R->Option S} {g:V->Option S}:lpS (.inl v) f g=f v:=rfl
abbrev bl:=ByteArray × yP
abbrev c6 (xs:List bl):Prop:=ua (fun x=>x.1.size<=1048576/\(ua (fun _=>True) 1048576) x.2) 1048576 xs
def nC (n:Int) (a:bl):Bool:=py a.1&&inR a.2.length 1 5&&a.2.all fun v=>inR v 0 (n-1)
def qu (n:Int) (yK:List bl):Bool:=(List.range' 0 n.toNat).all fun v=>yK.any fun a=>decide ((v:Int)∈a.2)
def fD (n:Int) (yK:List bl) (out:yP):Bool:=inR n 1 5&&inR yK.length 1 4&&jX out n&&yK.all (nC n)&&qu n yK
theorem uI:∀ (n:Nat) (xs:yP),xs.Nodup->(∀ x∈xs,0<=x/\x<n)->xs.length<=n:=by
 intro n
 induction n with
 | zero =>
  intro xs _ h
  cases xs with
  | nil=>simp
  | cons x xs=>have:=h x (by simp);omega
 | succ n ih =>
  intro xs hn h
  by_cases hm:(n:Int)∈xs
  ·have h1:=ih (xs.erase (n:Int)) (hn.erase _) (fun x hx=>by
    have h2:=h x (List.mem_of_mem_erase hx)
    have h3:x≠n:=by rintro rfl;exact (hn.mem_erase_iff.1 hx).1 rfl
    omega)
   rw [xl hm] at h1
   omega
  ·have:=ih xs hn (fun x hx=>by
    have h2:=h x hx
    have h3:x≠n:=by rintro rfl;exact hm hx
    omega)
   omega
theorem oi {xs:yP} {n:Int} (h:jX xs n=true):xs.Nodup/\∀ x∈xs,0<=x/\x<=n-1:=by
 unfold jX at h
 rw [dQ] at h
 have hk:∀ i (hi:i<xs.length),(0<=xs[i]/\xs[i]<=n-1)/\xs[i]∉xs.take i:=by
  intro i hi
  have:=h i (by simp;omega)
  simp only [bR hi,b9,cA,xN,Bi] at this
  exact this
 refine ⟨?_,fun x hx=>?_⟩
 ·rw [List.nodup_iff_pairwise_ne,ug]
  intro i j hi hj hij e
  refine (hk j hj).2 ?_
  rw [<- e]
  have:(xs.take j)[i]'(by simp;omega)=xs[i]:=vg
  rw [<- this];exact bC _
 ·obtain ⟨i,hi,rfl⟩:=ip hx
  exact (hk i hi).1
theorem FJ {xs:yP} {n:Int} (h0:0<=n) (h:jX xs n=true):(xs.length:Int)<=n:=by
 obtain ⟨h1,h2⟩:=oi h
 have:=uI n.toNat xs h1 (fun x hx=>by have:=h2 x hx;omega)
 omega
def o9 (m:Nat) (g:Nat->Bool):List Bool:=(List.range' 0 m).map g
theorem zu (m:Nat) (g:Nat->Bool):(o9 m g).length=m:=by simp [o9]
theorem Kh {m:Nat} {g:Nat->Bool} {i:Nat} (h:i<m):ix (o9 m g) (i:Int)=some (g i):=by
 rw [bc (by rw [zu];exact h)];simp [o9]
theorem ID {m:Nat} {g:Nat->Bool} {c:Nat} (h:c<m):sto (o9 m g) (c:Int) true=some (o9 m fun v=>g v||decide (v=c)):=by
 rw [mu (by rw [zu];exact h)]
 congr 1
 refine pA (by simp [o9]) fun i h1 h2=>?_
 simp only [o9,List.getElem_set,jC,xd]
 simp only [fh,nz]
 by_cases e:c=i
 ·subst e;simp
 ·have e2:¬ i=c:=fun h=>e h.symm
  rw [bb e,bf e2,Bool.or_false]
theorem Ai {m:Nat} {f g:Nat->Bool} (h:∀ v,f v=g v):o9 m f=o9 m g:=by rw [show f=g from funext h]
theorem HR (m:Nat) (g:Nat->Bool):(o9 m g).all id=(List.range' 0 m).all g:=by simp [o9,List.all_map]
theorem wU {α:Type} {p:α->Bool} {xs:List α} {i:Nat} (h:i<xs.length):(xs.take (i+1)).any p=((xs.take i).any p||p xs[i]):=by
 rw [gx h,List.any_append];simp
theorem CJ {xs:yP} {i:Nat} (h:i<xs.length) (v:Int):decide (v∈xs.take (i+1))=(decide (v∈xs.take i)||decide (v=xs[i])):=by
 have e:v∈xs.take (i+1)↔v∈xs.take i\/v=xs[i]:=by
  rw [gx h,dl,fu]
 rw [yc];simp only [dN,rO];exact e
section
variable {N:Nat}
def ox (m:Nat) (yK:List bl) (i:Nat):List Bool:=o9 m fun v=>(yK.take i).any fun a=>decide ((v:Int)∈a.2)
def qR (m:Nat) (yK:List bl) (i:Nat) (xs:yP) (j:Nat):List Bool:=o9 m fun v=>(yK.take i).any (fun a=>decide ((v:Int)∈a.2))||decide ((v:Int)∈xs.take j)
theorem JP (m:Nat) (yK:List bl) (i:Nat) (xs:yP):qR m yK i xs 0=ox m yK i:=Ai fun v=>by simp
theorem Gw (m:Nat) (yK:List bl) {i:Nat} (h:i<yK.length):qR m yK i yK[i].2 yK[i].2.length=ox m yK (i+1):=Ai fun v=>by rw [dx,wU h]
theorem FP {m:Nat} {yK:List bl} {i:Nat} {xs:yP} {j c:Nat} (hj:j<xs.length) (hc:xs[j]=(c:Int)) (hm:c<m):sto (qR m yK i xs j) (c:Int) true=some (qR m yK i xs (j+1)):=by
 unfold qR
 rw [ID hm]
 congr 1
 refine Ai fun v=>?_
 rw [CJ hj,hc,Bool.or_assoc]
 congr 2
 rw [decide_eq_decide];omega
theorem Ir {m:Nat} {yK:List bl} {i:Nat} {xs:yP} {j c:Nat} (hm:c<m):∃ b,ix (qR m yK i xs j) (c:Int)=some b:=⟨_,Kh hm⟩
theorem KF (m:Nat) (yK:List bl):List.replicate m false=ox m yK 0:=by
 refine pA (by simp [ox,o9]) fun i h1 h2=>?_
 simp [ox,o9]
theorem Ev {m:Nat} {yK:List bl} {i:Nat} {xs:yP} {t:List bl} {tl ti:Int} (hx:xs.length<=1048576) (hm:m<=5) (k j:Nat) (hj:j<xs.length) :
  d7 N (k+1) (m:Int) (qR m yK i xs j) t tl ti xs (xs.length:Int) (j:Int)=bif (if h:j<xs.length then inR xs[j] 0 ((m:Int)-1) else true) then d7 N k (m:Int) (qR m yK i xs (j+1)) t tl ti xs (xs.length:Int) ((j+1:Nat):Int) else some (.inl false):=by
 rw [d7,dlt hj,ah,bc hj,bs,dO oa oa,bs,gZ,bs,ii hj]
 cases hc:inR xs[j] 0 ((m:Int)-1) with
 | false=>rw [ak,ak]
 | true =>
  have hc':=cA.1 hc
  obtain ⟨c,hcc⟩:=pD hc'.1
  obtain ⟨b,hb⟩:=Ir (m:=m) (yK:=yK) (i:=i) (xs:=xs) (j:=j) (c:=c) oa
  rw [ah,ah,hcc,hb,bs,FP hj hcc oa,bs,ad1 oa,bs]
theorem MA (hN:1073741824<=N) {m:Nat} {yK:List bl} {i:Nat} {xs:yP} {t:List bl} {tl ti:Int} (hx:xs.length<=1048576) (hm:m<=5) :
  d7 N N (m:Int) (ox m yK i) t tl ti xs (xs.length:Int) 0=some (bif xs.all (fun v=>inR v 0 ((m:Int)-1)) then .inr (qR m yK i xs xs.length,(xs.length:Int)) else .inl false):=by
 have h:=Hy (fun k (s:List Bool) j=>d7 N k (m:Int) s t tl ti xs (xs.length:Int) j) xs.length false (fun j=>if h:j<xs.length then inR xs[j] 0 ((m:Int)-1) else true) (qR m yK i xs) (qR m yK i xs xs.length,(xs.length:Int))
  (fun k j hj=>Ev hx hm k j hj)
  (fun k=>by
   show d7 N (k+1) (m:Int) _ t tl ti xs _ (xs.length:Int)=_
   rw [d7,dge oa,ak]) N 0 oa oa
 rw [ja,lx xs (fun v=>inR v 0 ((m:Int)-1)) _ (fun j hj=>by rw [ii hj]),JP] at h
 exact h
theorem EB (hN:1073741824<=N) {m:Nat} {yK:List bl} (ha:c6 yK) (hm:m<=5) (k i:Nat) (h:i<yK.length) :
  dX N (k+1) (m:Int) (ox m yK i) yK (yK.length:Int) (i:Int)=bif (if h:i<yK.length then nC m yK[i] else true) then dX N k (m:Int) (ox m yK (i+1)) yK (yK.length:Int) ((i+1:Nat):Int) else some (.inl false):=by
 have hl:=ha.1
 obtain ⟨g1,g2⟩:=ha.2 _ (bC h)
 rw [dX,dlt h,ah,bc h,bs,rb hN g1,bs,gZ,bs,ii h]
 unfold nC
 cases py yK[i].1 with
 | false=>simp only [lQ,n4,cN,ak,ah]
 | true =>
  cases inR (yK[i].2.length:Int) 1 5 with
  | false=>simp only [lQ,n4,cN,ak,ah]
  | true =>
   simp only [ah,cN]
   rw [MA hN g2.1 hm,bs]
   cases yK[i].2.all fun v=>inR v 0 ((m:Int)-1) with
   | false=>simp only [ak,lpS]
   | true =>
    rw [ah,kt,ad1 oa,bs,Gw m yK h,ah]
theorem LD (hN:1073741824<=N) {m:Nat} {yK:List bl} (ha:c6 yK) (hm:m<=5) :
  dX N N (m:Int) (List.replicate m false) yK (yK.length:Int) 0=some (bif yK.all (nC m) then .inr (ox m yK yK.length,(yK.length:Int)) else .inl false):=by
 have hl:=ha.1
 have h:=Hy (fun k (s:List Bool) i=>dX N k (m:Int) s yK (yK.length:Int) i) yK.length false (fun i=>if h:i<yK.length then nC m yK[i] else true) (ox m yK) (ox m yK yK.length,(yK.length:Int))
  (fun k i h=>EB hN ha hm k i h)
  (fun k=>by
   show dX N (k+1) (m:Int) _ yK _ (yK.length:Int)=_
   rw [dX,dge oa,ak]) N 0 oa oa
 rw [ja,lx yK (nC m) _ (fun i hi=>by rw [ii hi]),<- KF] at h
 exact h
theorem KP (hN:1073741824<=N) {xs:List Bool} (hx:xs.length<=1048576):eX N N xs (xs.length:Int) 0=some (bif xs.all id then .inr (xs.length:Int) else .inl false) :=
 xA (fun k i=>eX N k xs (xs.length:Int) i) xs id hN hx
  (fun k i h=>by
   show eX N (k+1) _ _ (i:Int)=_
   rw [eX,dlt h,ah,bc h,bs,ad1 oa,bs];rfl)
  (fun k=>by
   show eX N (k+1) _ _ (xs.length:Int)=_
   rw [eX,dge oa,ak])
theorem G7 {m:Nat} {yK:List bl}:(ox m yK yK.length).all id=qu m yK:=by
 unfold ox qu
 rw [HR,jf,dx]
theorem A0 {n:Int} {yK:List bl} {out:yP} (h:inR n 1 5=false):fD n yK out=false:=by unfold fD;rw [h];rfl
theorem qP (hN:1073741824<=N) {n:Int} {yK:List bl} {out:yP} (ha:c6 yK) (ho:okI out):jL N n yK out=some (fD n yK out):=by
 have hl:=ha.1
 unfold jL
 rw [gZ,bs,gZ,bs]
 cases hn:inR n 1 5 with
 | false=>rw [A0 hn];rfl
 | true =>
  have hn':=cA.1 hn
  unfold fD
  rw [hn,ah,wr hN ho.1 oa,bs]
  cases inR (yK.length:Int) 1 4 with
  | false=>rfl
  | true =>
   cases jX out n with
   | false=>rfl
   | true =>
    obtain ⟨m,rfl⟩:=pD (by omega:0<=n)
    simp only [ah,Bool.and_self,cN]
    rw [wa (by decide) oa,bs,LD hN ha oa,bs]
    cases yK.all (nC m) with
    | false=>rfl
    | true =>
     simp only [ah,lpS,cN]
     rw [KP hN (by unfold ox;rw [zu];omega),bs,G7]
     cases qu m yK <;> rfl
theorem ic (hN:1073741824<=N) {s:ByteArray} {xs:yP} {v:Int} (hx:okI xs):eD N s xs v=some (decide (v∈xs)):=by
 have hl:=hx.1
 have:=Ac (fun k i=>dC N k v s xs i) xs (fun x=>decide (x=v)) (fun _=>true) (xs.length:Int) oa
  (fun k i h=>by
   show dC N (k+1) v s xs (i:Int)=_
   rw [dC,dlt h,ah,bc h,bs,ad1 oa,bs,FR])
  (fun k=>by
   show dC N (k+1) v s xs (xs.length:Int)=_
   rw [dC,dge oa,ak]) N 0 oa oa
 rw [gD] at this
 have this':dC N N v s xs 0=_:=this
 unfold eD
 rw [this',bs]
 cases hf:xs.find? (fun x=>decide (x=v)) with
 | none =>
  have:v∉xs:=fun hm=>by have:=(List.find?_eq_none.1 hf) v hm;simp at this
  simp [lpS,this]
 | some y =>
  have h1:=List.find?_some hf
  have h2:=AH hf
  have:v∈xs:=by simp at h1;rw [<- h1];exact h2
  simp [lpS,this]
theorem lP (hN:1073741824<=N) {s:ByteArray} {xs:yP} {v:Int} (hx:okI xs):gq N s xs v=some (decide (v∈xs)):=by
 unfold gq;rw [w7 hN hx.1,bs]
theorem LT (hN:1073741824<=N) {n:Int} {yK:List bl} {out:yP} {i:Nat} (h:i<yK.length) (hn:n<=5) (h0:0<=n) (hx:yK[i].2.length<=1048576) :
  e9 N N n yK out (i:Int) 0=some (bif yK[i].2.all (fun v=>inR v 0 (n-1)) then .inr (yK[i].2.length:Int) else .inl false) :=
 xA (fun k2 j=>e9 N k2 n yK out (i:Int) j) yK[i].2 (fun v=>inR v 0 (n-1)) hN hx
  (fun k2 j hj=>by
   show e9 N (k2+1) n yK out (i:Int) (j:Int)=_
   rw [e9,bc h,bs,dlt hj,ah,bs,bc hj,bs,dO oa oa,bs,fP,bs,ad1 oa,bs])
  (fun k2=>by
   show e9 N (k2+1) n yK out (i:Int) (yK[i].2.length:Int)=_
   rw [e9,bc h,bs,dge oa,ak])
theorem Le (hN:1073741824<=N) {n:Int} {yK:List bl} {out:yP} (ha:c6 yK) (hn:n<=5) (h0:0<=n) :
  eY N N n yK out 0=some (bif yK.all (nC n) then .inr (yK.length:Int) else .inl false) :=
 xA (fun k i=>eY N k n yK out i) yK (nC n) hN ha.1
  (fun k i h=>by
   have hl:=ha.1
   obtain ⟨g1,g2⟩:=ha.2 _ (bC h)
   show eY N (k+1) n yK out (i:Int)=_
   rw [eY,dlt h,ah,bc h,bs,ra hN g1,bs,bs,fP,bs]
   unfold nC
   cases py yK[i].1 with
   | false=>simp only [lQ,n4,cN,ak,ah]
   | true =>
    cases inR (yK[i].2.length:Int) 1 5 with
    | false=>simp only [lQ,n4,cN,ak,ah]
    | true =>
     simp only [ah,cN]
     rw [LT hN h hn h0 g2.1,bs]
     cases yK[i].2.all fun v=>inR v 0 (n-1) with
     | false=>simp only [ak,lpS]
     | true =>
      rw [ah,kt,ad1 oa,bs,ah])
  (fun k=>by
   show eY N (k+1) n yK out (yK.length:Int)=_
   rw [eY,dge oa,ak])
theorem Lb (hN:1073741824<=N) {n v:Int} {yK:List bl} {out:yP} (ha:c6 yK) :
  et N N n yK out v false 0=some (yK.any (fun a=>decide (v∈a.2)),(yK.length:Int)):=by
 have hl:=ha.1
 exact dU (fun k2 (s:Bool) j=>et N k2 n yK out v s j) yK.length (fun j=>(yK.take j).any fun a=>decide (v∈a.2)) (yK.any (fun a=>decide (v∈a.2)),(yK.length:Int))
  (fun k2 j hj=>by
   obtain ⟨g1,g2⟩:=ha.2 _ (bC hj)
   show et N (k2+1) n yK out v _ (j:Int)=_
   rw [et,dlt hj,ah,wU hj,ad1 oa,bs,bc hj,bs,ic hN g2,bs,bs]
   cases (yK.take j).any fun a=>decide (v∈a.2) <;> rfl)
  (fun k2=>by
   show et N (k2+1) n yK out v _ (yK.length:Int)=_
   rw [et,dge oa,ak,dx]) N 0 oa oa
theorem Mm (hN:1073741824<=N) {m:Nat} {yK:List bl} {out:yP} (ha:c6 yK) (hm:m<=5) :
  e7 N N (m:Int) yK out 0=some (bif qu m yK then .inr (m:Int) else .inl false):=by
 have h:=mb (fun k i=>e7 N k (m:Int) yK out i) m oa false (fun v=>yK.any fun a=>decide ((v:Int)∈a.2)) (m:Int)
  (fun k v h=>by
   show e7 N (k+1) (m:Int) yK out (v:Int)=_
   rw [e7,dlt h,ah,Lb hN ha,bs,lpB]
   simp only []
   rw [ad1 oa,bs])
  (fun k=>by
   show e7 N (k+1) (m:Int) yK out (m:Int)=_
   rw [e7,dge oa,ak]) N 0 oa oa
 unfold qu
 rw [jf]
 rw [ja] at h
 exact h
theorem Mx (hN:1073741824<=N) {n:Int} {yK:List bl} {out:yP} (ho:out.length<=1048576) (hn:n<=5) (h0:0<=n) :
  eU N N n yK out 0=some (bif jX out n then .inr (out.length:Int) else .inl false):=by
 have h:=mb (fun k i=>eU N k n yK out i) out.length oa false (fun i=>inR (out.getD i 0) 0 (n-1)&&!decide (out.getD i 0∈out.take i)) (out.length:Int)
  (fun k i h=>by
   show eU N (k+1) n yK out (i:Int)=_
   rw [eU,dlt h,ah,bc h,bs,dO oa oa,bs,fP,bs,show ((0:Int))=((0:Nat):Int) from rfl,lm (dB _) oa,bs,bs,gD,nI hN (by simp;omega),bs,ad1 oa,bs]
   simp only [bR h,oO,show ((0:Nat):Int)=0 from rfl]
   cases inR out[i] 0 (n-1)
   ·rfl
   ·cases decide (out[i]∈out.take i) <;> rfl)
  (fun k=>by
   show eU N (k+1) n yK out (out.length:Int)=_
   rw [eU,dge oa,ak]) N 0 oa oa
 rw [ja] at h
 exact h
theorem jH (hN:1073741824<=N) {n:Int} {yK:List bl} {out:yP} (ha:c6 yK) (ho:okI out):fL N n yK out=some (fD n yK out):=by
 have hl:=ha.1
 have hol:=ho.1
 unfold fL
 rw [fP,bs,fP,bs]
 cases hn:inR n 1 5 with
 | false=>rw [A0 hn];rfl
 | true =>
  have hn':=cA.1 hn
  unfold fD
  rw [hn]
  cases inR (yK.length:Int) 1 4 with
  | false=>rfl
  | true =>
   simp only [ah,cN]
   by_cases hlen:n<(out.length:Int)
   ·have:jX out n=false:=by
     rw [<- Bool.not_eq_true];intro h
     have:=FJ oa h;omega
    rw [ba hlen,ah,this];rfl
   ·obtain ⟨m,rfl⟩:=pD (by omega:0<=n)
    rw [bf hlen,ak,Le hN ha oa oa,bs]
    cases yK.all (nC m) with
    | false=>rw [n4,lQ];rfl
    | true =>
     simp only [ah,lpS,vn]
     rw [Mm hN ha oa,bs]
     cases qu m yK with
     | false=>rw [n4];rfl
     | true =>
      simp only [ah,lpS,vn]
      rw [Mx hN hol oa oa,bs]
      cases jX out m <;> rfl
theorem qp {n:Int} {yK:List bl} {out:yP} (h:fD n yK out=true):1<=n/\n<=5/\1<=(yK.length:Int)/\(yK.length:Int)<=4:=by
 unfold fD at h
 simp only [b9,cA] at h
 exact ⟨h.1.1.1.1.1,h.1.1.1.1.2,h.1.1.1.2.1,h.1.1.1.2.2⟩
end
section
variable {N:Nat}
theorem Nm (N:Nat):∀ (k:Nat) (x y:Int),gQ N k x y=lC N k x y:=by
 intro k
 induction k with
 | zero=>intro x y;rw [gQ,lC]
 | succ k ih=>intro x y;rw [gQ,lC];simp only [ih]
theorem IB (N:Nat) (x y:Int):jb N x y=tw N x y:=by unfold jb tw;rw [Nm]
theorem IZ {a b:Int} (ha:0<=a) (hb:0<b) (h:a<=4611686018427387904):qt a b=some (a.tdiv b):=by
 have h1:0<=a.tdiv b:=Int.tdiv_nonneg ha oa
 have h2:a.tdiv b<=a:=Int.tdiv_le_self b ha
 unfold qt;rw [aZ ⟨oa,qW oa oa⟩]
theorem JA {a b:Int} (ha:0<=a) (hb:0<b):0<=a.tdiv b/\a.tdiv b<=a:=⟨Int.tdiv_nonneg ha oa,Int.tdiv_le_self b ha⟩
theorem GO:∀ (m k:Nat) (x y:Int),0<=x->0<=y->y<=m->m<k->(0<x\/0<y)->∃ g z,lC N k x y=some (g,z)/\0<g:=by
 intro m
 induction m with
 | zero =>
  intro k x y hx hy hm hk h
  obtain ⟨k,rfl⟩:∃ k',k=k'+1:=⟨k-1,oa⟩
  obtain rfl:y=0:=by omega
  rw [lC,show ((0:Int) != 0)=false from rfl,ak]
  exact ⟨x,0,rfl,oa⟩
 | succ m ih =>
  intro k x y hx hy hm hk h
  obtain ⟨k,rfl⟩:∃ k',k=k'+1:=⟨k-1,oa⟩
  rw [lC]
  by_cases h0:y=0
  ·subst h0
   rw [show ((0:Int) != 0)=false from rfl,ak]
   exact ⟨x,0,rfl,oa⟩
  ·rw [show (y != 0)=true by simpa using h0,ah,rC h0,bs]
   obtain ⟨t1,t2⟩:=BY (b:=y) hx oa
   exact ih k y (x.tmod y) hy t1 oa oa (.inl oa)
theorem Id (hN:1073741824<=N) {x y:Int} (hx:0<=x) (hy:0<=y) (h1:y<=1000000000) (h:0<x\/0<y):∃ g,tw N x y=some g/\0<g:=by
 obtain ⟨g,z,e,hg⟩:=GO (N:=N) 1000000000 N x y hx hy oa oa h
 refine ⟨g,?_,hg⟩
 unfold tw;rw [e,bs,lpB]
abbrev iI:=Int × Int
theorem HX (N:Nat) (n d:Int):bB N n d=iv N n d:=by
 unfold bB iv
 rw [fP,gZ,bs,bs,fP,gZ,bs,bs]
 unfold Am
 cases inR d 1 1000000000
 ·rfl
 cases inR n (-1000000000) 1000000000
 ·rfl
 rw [ah,ah,ah,ah]
 cases sb 0 n with
 | none=>rfl
 | some z=>rw [bs,bs,bs,IB]
theorem IE (hN:1073741824<=N) (n d:Int):∃ b,iv N n d=some b/\(b=true->1<=d/\d<=1000000000/\-1000000000<=n/\n<=1000000000):=by
 unfold iv
 rw [gZ,bs,gZ,bs]
 cases h1:inR d 1 1000000000
 ·exact ⟨false,rfl,fun h=>by cases h⟩
 cases h2:inR n (-1000000000) 1000000000
 ·exact ⟨false,rfl,fun h=>by cases h⟩
 have h1':=cA.1 h1
 have h2':=cA.1 h2
 have hab:0<=imx n (0-n):=by unfold imx;split <;> omega
 obtain ⟨g,e,_⟩:=Id (N:=N) hN hab (by omega:0<=d) oa (.inr oa)
 unfold Am
 rw [ah,ah,dO oa oa,bs,bs,e,bs]
 exact ⟨_,rfl,fun _=>⟨h1'.1,h1'.2,h2'.1,h2'.2⟩⟩
def wOk (N:Nat) (r:iI):Bool:=(iv N r.1 r.2).getD false&&decide (0<=r.1)
theorem Ig (hN:1073741824<=N) {r:iI} (h:wOk N r=true):iv N r.1 r.2=some true/\0<=r.1/\r.1<=1000000000/\1<=r.2/\r.2<=1000000000:=by
 obtain ⟨b,e,hb⟩:=IE hN r.1 r.2
 unfold wOk at h
 rw [e,Option.getD_some,b9,dN] at h
 obtain ⟨rfl,h2⟩:=h
 have:=hb rfl
 exact ⟨e,h2,this.2.2.2,this.1,this.2.1⟩
theorem EK {rs:List iI} {i:Nat} (h:i<rs.length):rs[i]=rs.getD i (0,0):=by simp [h]
def nP (rs:List iI) (d:Int) (i:Nat):yP:=(rs.take i).map fun r=>r.1*d.tdiv r.2
theorem GA {rs:List iI} {d:Int} {i:Nat} (h:i<rs.length):nP rs d i++[(rs.getD i (0,0)).1*d.tdiv (rs.getD i (0,0)).2]=nP rs d (i+1):=by
 unfold nP;rw [gx h,fv,EK h];rfl
theorem Ie {rs:List iI} {d:Int} {i:Nat}:(nP rs d i).length<=rs.length:=by unfold nP;simp;omega
theorem Kw (hN:1073741824<=N) {d:Int} {r:iI} (h:wOk N r=true) (h0:0<=d) (h1:d<=1000):qt d r.2=some (d.tdiv r.2)/\ml r.1 (d.tdiv r.2)=some (r.1*d.tdiv r.2):=by
 obtain ⟨_,k0,k1,k2,k3⟩:=Ig hN h
 obtain ⟨t1,t2⟩:=JA h0 (by omega:0<r.2)
 have hm:0<=r.1*d.tdiv r.2:=vq k0 t1
 have hm2:r.1*d.tdiv r.2<=1000000000*1000:=xH k1 oa t1 oa
 exact ⟨IZ h0 oa oa,iN oa oa⟩
theorem Hl (hN:1073741824<=N) {rs:List iI} (hl:rs.length<=1048576) (ha:∀ i,i<rs.length->wOk N (rs.getD i (0,0))=true) {d:Int} (h0:0<=d) (h1:d<=1000) :
  dL N N rs d [] 0=some (nP rs d rs.length,(rs.length:Int)) :=
 dU (fun k (s:yP) i=>dL N k rs d s i) rs.length (nP rs d) (nP rs d rs.length,(rs.length:Int))
  (fun k i h=>by
   obtain ⟨q1,q2⟩:=Kw hN (ha i h) h0 h1
   have ho:=Ie (rs:=rs) (d:=d) (i:=i)
   show dL N (k+1) rs d (nP rs d i) (i:Int)=_
   rw [dL,dlt h,ah,bc h,bs,bs,EK h,q1,bs,q2,bs,bt (by decide) (by simp;omega),bs,GA h,ad1 oa,bs])
  (fun k=>by
   show dL N (k+1) rs d (nP rs d rs.length) (rs.length:Int)=_
   rw [dL,dge oa,ak]) N 0 oa oa
end
theorem Bu {σ V:Type} (L1 L2:Nat->σ->Int->Option V) (n:Nat) (I:Nat->σ->Prop) (P:V->Prop)
  (hstep:∀ k i s,i<n->I i s->(∃ s',L1 (k+1) s (i:Int)=L1 k s' ((i+1:Nat):Int)/\L2 (k+1) s (i:Int)=L2 k s' ((i+1:Nat):Int)/\I (i+1) s')\/∃ v,L1 (k+1) s (i:Int)=some v/\L2 (k+1) s (i:Int)=some v/\P v)
  (hend:∀ k s,I n s->∃ v,L1 (k+1) s (n:Int)=some v/\L2 (k+1) s (n:Int)=some v/\P v) :
  ∀ k i s,i<=n->n-i<k->I i s->∃ v,L1 k s (i:Int)=some v/\L2 k s (i:Int)=some v/\P v:=by
 intro k
 induction k with
 | zero=>intro i s hi hk;omega
 | succ k ih =>
  intro i s hi hk hI
  by_cases h:i<n
  ·rcases hstep k i s h hI with ⟨s',e1,e2,hI'⟩ | ⟨v,e1,e2,hP⟩
   ·rw [e1,e2];exact ih (i+1) s' oa oa hI'
   ·exact ⟨v,e1,e2,hP⟩
  ·obtain rfl:i=n:=by omega
   exact hend k s hI
section
variable {N:Nat}
theorem Nh (N:Nat):∀ (k:Nat) (x:Int) (a b:yP),ia N k x a b=dm N k x a b:=by
 intro k
 induction k with
 | zero=>intro x a b;rw [ia,dm]
 | succ k ih=>intro x a b;rw [ia,dm];simp only [ih]
theorem wE (N:Nat) (n:Int):f5 N n=fW N n:=by unfold f5 fW;rw [Nh]
theorem BP {x:Int} (h0:0<=x) (h1:x<=9223372036854775807):qt x 10=some (x / 10):=by
 have e:x.tdiv 10=x / 10:=Int.tdiv_eq_ediv_of_nonneg h0
 unfold qt
 rw [aZ ⟨by decide,by rw [e];unfold rng;simp only [b9,dN];omega⟩,e]
theorem BO (x:Int):rm x 10=some (x.tmod 10):=rC (by decide)
theorem No:∀ (m k:Nat) (x:Int) (a b:yP),0<=x->x<=9223372036854775807->x<10 ^ m->m<k->b.length+m<=1048576->∃ y b',dm N k x a b=some (y,b')/\b'.length<=b.length+m:=by
 intro m
 induction m with
 | zero =>
  intro k x a b h0 hm h1 hk hb
  obtain ⟨k,rfl⟩:∃ k',k=k'+1:=⟨k-1,oa⟩
  rw [dm,bf (by simp at h1;omega),ak]
  exact ⟨x,b,rfl,oa⟩
 | succ m ih =>
  intro k x a b h0 hm h1 hk hb
  obtain ⟨k,rfl⟩:∃ k',k=k'+1:=⟨k-1,oa⟩
  rw [dm]
  by_cases hx:0<x
  ·have hd:x / 10<10 ^ m:=by rw [tU] at h1;omega
   rw [ba hx,ah,BO,bs,bt (by decide) (by simp;omega),bs,BP h0 hm,bs]
   obtain ⟨y,b',e,hl⟩:=ih k (x / 10) a (b++[x.tmod 10]) oa oa hd oa (by rw [cj,bU];omega)
   rw [cj,bU] at hl
   exact ⟨y,b',e,oa⟩
  ·rw [bf hx,ak]
   exact ⟨x,b,rfl,oa⟩
theorem Ar (hN:1073741824<=N) {n:Int} (h0:0<=n) (h1:n<=9223372036854775807):∃ b,fW N n=some b/\b.length<=19:=by
 have hp:(10:Int) ^ 19=10000000000000000000:=by decide
 obtain ⟨y,b,e,hl⟩:=No (N:=N) 19 N n [] [] h0 h1 (by rw [hp];omega) oa (by rw [fN];omega)
 refine ⟨b,?_,by rw [fN] at hl;omega⟩
 unfold fW;rw [e,bs,lpB]
def vF (xs:yP):Option Bool :=
 bif xs.all (fun v=>inR v 0 9) then
  (bif decide ((xs.length:Int)<=60) then (bif ((xs.length:Int) == 0) then some true else (sb (xs.length:Int) 1).bind fun x=>(ix xs x).bind fun y=>some (y != 0)) else some false)
 else some false
theorem A4 (hN:1073741824<=N) {xs:yP} (hx:xs.length<=1048576):gG N xs=vF xs:=by
 have h:=xA (fun k i=>fG N k xs i) xs (fun v=>inR v 0 9) hN hx
  (fun k i h=>by
   show fG N (k+1) xs (i:Int)=_
   rw [fG,dlt h,ah,bc h,bs,fP,bs,ad1 oa,bs])
  (fun k=>by
   show fG N (k+1) xs (xs.length:Int)=_
   rw [fG,dge oa,ak])
 unfold gG vF
 rw [h,bs]
 cases xs.all fun v=>inR v 0 9 <;> rfl
theorem su (hN:1073741824<=N) {xs:yP} (hx:xs.length<=1048576):jq N xs=vF xs:=by
 have h:=xA (fun k i=>gt N k xs (xs.length:Int) xs (xs.length:Int) i) xs (fun v=>inR v 0 9) hN hx
  (fun k i h=>by
   show gt N (k+1) xs (xs.length:Int) xs (xs.length:Int) (i:Int)=_
   rw [gt,dlt h,ah,bc h,bs,gZ,bs,ad1 oa,bs])
  (fun k=>by
   show gt N (k+1) xs (xs.length:Int) xs (xs.length:Int) (xs.length:Int)=_
   rw [gt,dge oa,ak])
 unfold jq vF
 rw [h,bs]
 cases xs.all fun v=>inR v 0 9 <;> rfl
theorem yi {xs:yP} (hx:xs.length<=1048576):∃ b,vF xs=some b/\(b=true->xs.length<=60/\∀ v∈xs,0<=v/\v<=9):=by
 unfold vF
 cases ha:xs.all fun v=>inR v 0 9 with
 | false=>exact ⟨false,rfl,fun h=>by cases h⟩
 | true =>
  rw [ah]
  have hd:∀ v∈xs,0<=v/\v<=9:=fun v hv=>cA.1 ((dQ.1 ha) v hv)
  by_cases h60:(xs.length:Int)<=60
  ·rw [ba h60,ah]
   by_cases h0:xs.length=0
   ·rw [show ((xs.length:Int) == 0)=true by simp [h0],ah]
    exact ⟨true,rfl,fun _=>⟨oa,hd⟩⟩
   ·rw [show ((xs.length:Int) == 0)=false by simp;simpa using h0,ak,dO oa oa,bs,show (xs.length:Int)-1=((xs.length-1:Nat):Int) by omega,bc oa,bs]
    exact ⟨_,rfl,fun _=>⟨oa,hd⟩⟩
  ·rw [bf h60,ak]
   exact ⟨false,rfl,fun h=>by cases h⟩
theorem Nd (N:Nat):∀ (k:Nat) (a b c:yP) (d i:Int),iK N k a b c d i=cV N k a b c d i:=by
 intro k
 induction k with
 | zero=>intro a b c d i;rw [iK,cV]
 | succ k ih=>intro a b c d i;rw [iK,cV];simp only [ih]
theorem Nk {a b:yP}:∀ (m k:Nat) (c:Int) (out:yP) (i:Nat),a.length<=i->0<=c->c<=1000000000->c<10 ^ m->m<k->out.length+m<=1048576->i+m<=1048576->∃ o y z,cV N k a b out c (i:Int)=some (o,y,z)/\o.length<=out.length+m:=by
 intro m
 induction m with
 | zero =>
  intro k c out i hi h0 hm h1 hk hb hi2
  obtain ⟨k,rfl⟩:∃ k',k=k'+1:=⟨k-1,oa⟩
  rw [cV,dge oa,ak,bf (by simp at h1;omega),ak]
  exact ⟨out,c,_,rfl,oa⟩
 | succ m ih =>
  intro k c out i hi h0 hm h1 hk hb hi2
  obtain ⟨k,rfl⟩:∃ k',k=k'+1:=⟨k-1,oa⟩
  rw [cV,dge oa,ak]
  by_cases hx:0<c
  ·have hd:c / 10<10 ^ m:=by rw [tU] at h1;omega
   rw [ba hx,ah,BO,bs,bt (by decide) (by simp;omega),bs,BP h0 oa,bs,ad1 oa,bs]
   obtain ⟨o,y,z,e,hl⟩:=ih k (c / 10) (out++[c.tmod 10]) (i+1) oa oa oa hd oa (by rw [cj,bU];omega) oa
   rw [cj,bU] at hl
   exact ⟨o,y,z,e,oa⟩
  ·rw [bf hx,ak]
   exact ⟨out,c,_,rfl,oa⟩
theorem Nr {a b:yP} (ha:a.length<=1000) (hv:∀ v∈a,0<=v/\v<=1000000):∀ (m k:Nat) (c:Int) (out:yP) (i:Nat),i+m=a.length->0<=c->c<=1000000->m+20<k->out.length<=i->∃ o y z,cV N k a b out c (i:Int)=some (o,y,z)/\o.length<=2000:=by
 intro m
 induction m with
 | zero =>
  intro k c out i hi h0 h1 hk hb
  have hp:(10:Int) ^ 7=10000000:=by decide
  obtain ⟨o,y,z,e,hl⟩:=Nk (N:=N) (a:=a) (b:=b) 7 k c out i oa h0 oa (by rw [hp];omega) oa oa oa
  exact ⟨o,y,z,e,oa⟩
 | succ m ih =>
  intro k c out i hi h0 h1 hk hb
  obtain ⟨k,rfl⟩:∃ k',k=k'+1:=⟨k-1,oa⟩
  have h:i<a.length:=by omega
  have hx:=hv _ (bC h)
  rw [cV,dlt h,ah,bc h,bs,cO oa oa,bs,BO,bs,bt (by decide) (by simp;omega),bs,BP oa oa,bs,ad1 oa,bs]
  exact ih k _ _ (i+1) oa oa oa oa (by rw [cj,bU];omega)
def gu (xs:yP):Nat->Nat
 | 0=>0
 | m+1=>if xs.getD m 0=0 then gu xs m else m+1
theorem xP (xs:yP):∀ m,gu xs m<=m
 | 0=>bY _
 | m+1=>by
  have:=xP xs m
  unfold gu;split <;> omega
theorem Hj {b xs:yP} (hx:xs.length<=1048576):∀ m k,m<=xs.length->m<k->mA N k b xs (m:Int)=some ((gu xs m:Nat):Int):=by
 intro m
 induction m with
 | zero =>
  intro k hm hk
  obtain ⟨k,rfl⟩:∃ k',k=k'+1:=⟨k-1,oa⟩
  rw [mA,bf oa,ak];rfl
 | succ m ih =>
  intro k hm hk
  obtain ⟨k,rfl⟩:∃ k',k=k'+1:=⟨k-1,oa⟩
  have h:m<xs.length:=by omega
  rw [mA,ba oa,ah,dO oa oa,bs,show ((m+1:Nat):Int)-1=(m:Int) by omega,bc h,bs,gu,bR h]
  by_cases e:xs[m]=0
  ·rw [show (xs[m] == 0)=true by simpa using e,ah,aZ e,bs,ih k oa oa]
  ·rw [show (xs[m] == 0)=false by simpa using e,ak,bb e]
theorem Lk {b xs:yP} (hx:xs.length<=1048576):∀ m k,m<=xs.length->m<k->kG N k b (xs.take m)=some (xs.take (gu xs m)):=by
 intro m
 induction m with
 | zero =>
  intro k hm hk
  obtain ⟨k,rfl⟩:∃ k',k=k'+1:=⟨k-1,oa⟩
  rw [kG,bf (by simp),ak];rfl
 | succ m ih =>
  intro k hm hk
  obtain ⟨k,rfl⟩:∃ k',k=k'+1:=⟨k-1,oa⟩
  have h:m<xs.length:=by omega
  have hl:(xs.take (m+1)).length=m+1:=by rw [cq];omega
  have hg:(xs.take (m+1))[m]'oa=xs[m]:=vg
  rw [kG,hl,ba oa,ah,dO oa oa,bs,show ((m+1:Nat):Int)-1=(m:Int) by omega,bc oa,bs,gu,bR h,hg]
  by_cases e:xs[m]=0
  ·rw [show (xs[m] == 0)=true by simpa using e,ah,aZ e,bs,show (0:Int)=((0:Nat):Int) from rfl,lm (dB _) oa,bs,gD,List.take_take,sI oa,ih k oa oa]
  ·rw [show (xs[m] == 0)=false by simpa using e,ak,bb e]
theorem FQ (hN:1073741824<=N) {a:yP} (ha:a.length<=1000) (hv:∀ v∈a,0<=v/\v<=1000000):∃ r:yP × Bool,lU N a=some r/\kq N a=some r/\r.1.length<=60:=by
 obtain ⟨o,y,z,e,hl⟩:=Nr (N:=N) (b:=[]) ha hv a.length N 0 [] 0 oa oa oa oa (by simp)
 have e':cV N N a [] [] 0 0=_:=e
 have es:iK N N a [] [] 0 0=_:=(Nd N N a [] [] 0 0).trans e'
 have s1:=Hj (N:=N) (b:=[]) (xs:=o) oa o.length N (bY _) oa
 have s2:=Lk (N:=N) (b:=[]) (xs:=o) oa o.length N (bY _) oa
 rw [dx] at s2
 have hle:=xP o o.length
 have hlen:(o.take (gu o o.length)).length=gu o o.length:=by rw [cq];omega
 have hS:lU N a=bif decide (60<((gu o o.length:Nat):Int)) then some ([],false) else some (o.take (gu o o.length),true):=by
  unfold lU
  rw [es,bs,lpB]
  simp only []
  rw [s2,bs,lpB,hlen]
 have hI:kq N a=bif decide (60<((gu o o.length:Nat):Int)) then some ([],false) else some (o.take (gu o o.length),true):=by
  unfold kq
  rw [e',bs,lpB]
  simp only []
  rw [s1,bs,lpB,show (0:Int)=((0:Nat):Int) from rfl,lm (dB _) oa,bs,gD]
 rw [hS,hI]
 by_cases h:60<((gu o o.length:Nat):Int)
 ·rw [ba h,ah];exact ⟨_,rfl,rfl,dB _⟩
 ·rw [bf h,ak];exact ⟨_,rfl,rfl,by show (o.take (gu o o.length)).length<=60;omega⟩
theorem adN {i j:Nat} (h:i+j<=1000000):ad (i:Int) (j:Int)=some ((i+j:Nat):Int):=by rw [cO oa oa];congr 1
theorem Fx {x y:Int} (hx:0<=x/\x<=9) (hy:0<=y/\y<=9):0<=x*y/\x*y<=81:=⟨vq hx.1 hy.1,xH hx.2 hy.2 hy.1 oa⟩
theorem Lg (hN:1073741824<=N) {a b:yP} (ha:a.length<=60) (hb:b.length<=60) (da:∀ v∈a,0<=v/\v<=9) (db:∀ v∈b,0<=v/\v<=9) {i:Nat} (hi:i<a.length) {C:Int} (hC:C<=500000) {l:yP} (hl:l.length=a.length+b.length) (hv:∀ v∈l,0<=v/\v<=C) :
  ∃ v:yP × Int,gj N N a b [] l (i:Int) 0=some v/\dT N N b [] l (i:Int) a[i] a (a.length:Int) (i:Int) b (b.length:Int) 0=some v/\(v.1.length=a.length+b.length/\∀ x∈v.1,0<=x/\x<=C+4860):=by
 have hai:=da _ (bC hi)
 exact Bu (fun k (s:yP) j=>gj N k a b [] s (i:Int) j) (fun k (s:yP) j=>dT N k b [] s (i:Int) a[i] a (a.length:Int) (i:Int) b (b.length:Int) j) b.length
  (fun j s=>s.length=a.length+b.length/\∀ x∈s,0<=x/\x<=C+81*(j:Int)) (fun v=>v.1.length=a.length+b.length/\∀ x∈v.1,0<=x/\x<=C+4860)
  (fun k j s hj hI=>by
   obtain ⟨h1,h2⟩:=hI
   have hbj:=db _ (bC hj)
   obtain ⟨m1,m2⟩:=Fx hai hbj
   have hij:i+j<s.length:=by omega
   have hs:=h2 _ (bC hij)
   refine .inl ⟨s.set (i+j) (s[i+j]+a[i]*b[j]),?_,?_,by simpa using h1,fun x hx=>?_⟩
   ·show gj N (k+1) a b [] s (i:Int) (j:Int)=_
    rw [gj,dlt hj,ah,adN oa,bs,bs,bc hij,bs,bc hi,bs,bc hj,bs,iN oa oa,bs,cO oa oa,bs,bs,mu hij,bs,ad1 oa,bs]
   ·show dT N (k+1) b [] s (i:Int) a[i] a (a.length:Int) (i:Int) b (b.length:Int) (j:Int)=_
    rw [dT,dlt hj,ah,bc hj,bs,adN oa,bs,bc hij,bs,iN oa oa,bs,cO oa oa,bs,bs,mu hij,bs,ad1 oa,bs]
   ·rcases tR hx with hx | rfl
    ·have:=h2 x hx;omega
    ·omega)
  (fun k s hI=>by
   obtain ⟨h1,h2⟩:=hI
   refine ⟨(s,(b.length:Int)),?_,?_,h1,fun x hx=>by have:=h2 x hx;omega⟩
   ·show gj N (k+1) a b [] s (i:Int) (b.length:Int)=_
    rw [gj,dge oa,ak]
   ·show dT N (k+1) b [] s (i:Int) a[i] a (a.length:Int) (i:Int) b (b.length:Int) (b.length:Int)=_
    rw [dT,dge oa,ak]) N 0 l oa oa ⟨hl,fun x hx=>by have:=hv x hx;omega⟩
theorem JY (hN:1073741824<=N) {a b:yP} (ha:a.length<=60) (hb:b.length<=60) (da:∀ v∈a,0<=v/\v<=9) (db:∀ v∈b,0<=v/\v<=9) {l:yP} (hl:l.length=a.length+b.length) (hv:∀ v∈l,0<=v/\v<=0) :
  ∃ v:yP × Int,gi N N a b [] l 0=some v/\dS N N b [] l a (a.length:Int) 0=some v/\(v.1.length=a.length+b.length/\∀ x∈v.1,0<=x/\x<=500000) :=
 Bu (fun k (s:yP) i=>gi N k a b [] s i) (fun k (s:yP) i=>dS N k b [] s a (a.length:Int) i) a.length
  (fun i s=>s.length=a.length+b.length/\∀ x∈s,0<=x/\x<=4860*(i:Int)) (fun v=>v.1.length=a.length+b.length/\∀ x∈v.1,0<=x/\x<=500000)
  (fun k i s hi hI=>by
   obtain ⟨h1,h2⟩:=hI
   obtain ⟨⟨v,z⟩,e1,e2,h3,h4⟩:=Lg (N:=N) hN ha hb da db hi (C:=4860*(i:Int)) oa h1 h2
   refine .inl ⟨v,?_,?_,h3,fun x hx=>by have:=h4 x hx;omega⟩
   ·show gi N (k+1) a b [] s (i:Int)=_
    rw [gi,dlt hi,ah,e1,bs,lpB,ad1 oa];rfl
   ·show dS N (k+1) b [] s a (a.length:Int) (i:Int)=_
    rw [dS,dlt hi,ah,bc hi,bs,e2,bs,lpB,ad1 oa];rfl)
  (fun k s hI=>by
   obtain ⟨h1,h2⟩:=hI
   refine ⟨(s,(a.length:Int)),?_,?_,h1,fun x hx=>by have:=h2 x hx;omega⟩
   ·show gi N (k+1) a b [] s (a.length:Int)=_
    rw [gi,dge oa,ak]
   ·show dS N (k+1) b [] s a (a.length:Int) (a.length:Int)=_
    rw [dS,dge oa,ak]) N 0 l oa oa ⟨hl,fun x hx=>by have:=hv x hx;omega⟩
theorem Ao (hN:1073741824<=N) {a b:yP} (ha:a.length<=1048576) (hb:b.length<=1048576):∃ r:yP × Bool,ki N a b=some r/\lI N a b=some r/\r.1.length<=60:=by
 unfold ki lI
 rw [A4 hN ha,su hN ha,A4 hN hb,su hN hb]
 obtain ⟨x,ex,hx⟩:=yi ha
 obtain ⟨y,ey,hy⟩:=yi hb
 rw [ex,ey]
 cases x with
 | false=>exact ⟨([],false),rfl,rfl,dB _⟩
 | true =>
  cases y with
  | false=>exact ⟨([],false),rfl,rfl,dB _⟩
  | true =>
   obtain ⟨a1,a2⟩:=hx rfl
   obtain ⟨b1,b2⟩:=hy rfl
   obtain ⟨⟨v,z⟩,e1,e2,h3,h4⟩:=JY (N:=N) hN a1 b1 a2 b2 (l:=List.replicate (a.length+b.length) 0) (by simp) (fun v hv=>by rw [List.eq_of_mem_replicate hv];omega)
   obtain ⟨r,f1,f2,f3⟩:=FQ (N:=N) hN (a:=v) (by have h3':v.length=_:=h3;omega) (fun z hz=>by have:=h4 z hz;omega)
   refine ⟨r,?_,?_,f3⟩
   ·show (ad (a.length:Int) (b.length:Int)).bind _=_
    rw [adN oa,bs,wa (by decide) oa,bs,e1,bs,lpB]
    show (lU N v).bind _=_
    rw [f1,bs]
   ·show (ad (a.length:Int) (b.length:Int)).bind _=_
    rw [adN oa,bs,wa (by decide) oa,bs,e2,bs,lpB]
    show (kq N v).bind _=_
    rw [f2,bs]
end
def Nc (s:Sum (yP × Bool) (yP × Int)):Prop:=match s with | .inl q=>q.1.length<=1048576 | .inr v=>v.1.length<=1048576
section
variable {N:Nat}
theorem Ee (hN:1073741824<=N) {n k:Int} (h1:n<=9223372036854775807):∃ r:yP × Bool,jo N n k=some r/\nv N n k=some r/\r.1.length<=1048576/\(n<0->r.2=false)/\(100<k->r.2=false):=by
 unfold jo nv
 by_cases h0:n<0
 ·rw [ba h0,ah,ah];exact ⟨_,rfl,rfl,dB _,fun _=>rfl,fun _=>rfl⟩
 rw [bf h0,ak,ak,fP,gZ]
 cases hk:inR k 0 100 with
 | false=>exact ⟨([],false),rfl,rfl,dB _,fun _=>rfl,fun _=>rfl⟩
 | true =>
  have hk':=cA.1 hk
  obtain ⟨m,rfl⟩:=pD hk'.1
  obtain ⟨o,eo,ho⟩:=Ar (N:=N) hN (n:=1) oa oa
  obtain ⟨c,ec,hc⟩:=Ar (N:=N) hN (n:=n) oa h1
  obtain ⟨s,e1,e2,hs⟩:=Bu (fun f (s:yP) i=>dR N f n (m:Int) [] s i) (fun f (s:yP) i=>cQ N f n (m:Int) [] s i) m (fun _ s=>s.length<=1048576) Nc
   (fun f i s hi hI=>by
    obtain ⟨r,m1,m2,hr⟩:=Ao (N:=N) hN hI (b:=c) oa
    cases hb:r.2 with
    | true =>
     refine .inl ⟨r.1,?_,?_,oa⟩
     ·show dR N (f+1) n (m:Int) [] s (i:Int)=_
      rw [dR,dlt hi,ah,wE,ec,bs,m1,bs,hb,ah,ad1 oa,bs]
     ·show cQ N (f+1) n (m:Int) [] s (i:Int)=_
      rw [cQ,dlt hi,ah,ec,bs,m2,bs,hb,ah,ad1 oa,bs]
    | false =>
     refine .inr ⟨.inl ([],false),?_,?_,dB _⟩
     ·show dR N (f+1) n (m:Int) [] s (i:Int)=_
      rw [dR,dlt hi,ah,wE,ec,bs,m1,bs,hb,ak]
     ·show cQ N (f+1) n (m:Int) [] s (i:Int)=_
      rw [cQ,dlt hi,ah,ec,bs,m2,bs,hb,ak])
   (fun f s hI=>by
    refine ⟨.inr (s,(m:Int)),?_,?_,hI⟩
    ·show dR N (f+1) n (m:Int) [] s (m:Int)=_
     rw [dR,dge oa,ak]
    ·show cQ N (f+1) n (m:Int) [] s (m:Int)=_
     rw [cQ,dge oa,ak]) N 0 o oa oa oa
  have e1':dR N N n (m:Int) [] o 0=_:=e1
  have e2':cQ N N n (m:Int) [] o 0=_:=e2
  rw [bs,bs,ah,ah,wE,eo,bs,bs,e1',e2',bs]
  cases s with
  | inl q=>exact ⟨q,rfl,rfl,hs,fun h=>absurd h h0,fun h=>by omega⟩
  | inr v=>exact ⟨(v.1,true),rfl,rfl,hs,fun h=>absurd h h0,fun h=>by omega⟩
def M9 (xs:yP) (s:Sum (yP × Bool) (yP × Int)):Prop:=match s with | .inl q=>q.1.length<=1048576/\q.2=false | .inr v=>v.1.length<=1048576/\∀ x∈xs,0<=x
theorem Cp (hN:1073741824<=N) {xs ks:yP} (hx:xs.length<=1048576) (hr:∀ v∈xs,v<=9223372036854775807):∃ r:yP × Bool,eT N xs ks=some r/\qE N xs ks=some r/\r.1.length<=1048576/\(r.2=true->∀ x∈xs,0<=x):=by
 unfold eT qE
 by_cases hl:xs.length=ks.length
 ·obtain ⟨o,eo,ho⟩:=Ar (N:=N) hN (n:=1) oa oa
  obtain ⟨s,e1,e2,hs⟩:=Bu (fun f (s:yP) i=>bL N f xs ks [] s i) (fun f (s:yP) i=>cK N f xs ks [] s (xs.length:Int) i) xs.length (fun i s=>s.length<=1048576/\∀ x∈xs.take i,0<=x) (M9 xs)
   (fun f i s hi hI=>by
    obtain ⟨hI1,hI2⟩:=hI
    have hi2:i<ks.length:=by omega
    obtain ⟨p,p1,p2,hp,hp2,_⟩:=Ee (N:=N) hN (n:=xs[i]) (k:=ks[i]) (hr _ (bC hi))
    obtain ⟨r,m1,m2,hr⟩:=Ao (N:=N) hN hI1 (b:=p.1) hp
    cases hb:p.2 with
    | true =>
     cases hc:r.2 with
     | true =>
      refine .inl ⟨r.1,?_,?_,oa,fun x hx=>?_⟩
      ·show bL N (f+1) xs ks [] s (i:Int)=_
       rw [bL,dlt hi,ah,bc hi,bs,bc hi2,bs,p1,bs,m1,bs,hb,ah,hc,ah,ad1 oa,bs]
      ·show cK N (f+1) xs ks [] s (xs.length:Int) (i:Int)=_
       rw [cK,dlt hi,ah,bc hi,bs,bc hi2,bs,p2,bs,m2,bs,hb,ah,hc,ah,ad1 oa,bs]
      ·rw [gx hi] at hx
       rcases dl.1 hx with hx | hx
       ·exact hI2 x hx
       ·simp only [fu] at hx
        subst hx
        by_cases hneg:xs[i]<0
        ·rw [hp2 hneg] at hb;cases hb
        ·omega
     | false =>
      refine .inr ⟨.inl ([],false),?_,?_,dB _,rfl⟩
      ·show bL N (f+1) xs ks [] s (i:Int)=_
       rw [bL,dlt hi,ah,bc hi,bs,bc hi2,bs,p1,bs,m1,bs,hb,ah,hc,ak]
      ·show cK N (f+1) xs ks [] s (xs.length:Int) (i:Int)=_
       rw [cK,dlt hi,ah,bc hi,bs,bc hi2,bs,p2,bs,m2,bs,hb,ah,hc,ak]
    | false =>
     refine .inr ⟨.inl ([],false),?_,?_,dB _,rfl⟩
     ·show bL N (f+1) xs ks [] s (i:Int)=_
      rw [bL,dlt hi,ah,bc hi,bs,bc hi2,bs,p1,bs,m1,bs,hb,ak]
     ·show cK N (f+1) xs ks [] s (xs.length:Int) (i:Int)=_
      rw [cK,dlt hi,ah,bc hi,bs,bc hi2,bs,p2,bs,m2,bs,hb,ak])
   (fun f s hI=>by
    obtain ⟨hI1,hI2⟩:=hI
    rw [dx] at hI2
    refine ⟨.inr (s,(xs.length:Int)),?_,?_,hI1,hI2⟩
    ·show bL N (f+1) xs ks [] s (xs.length:Int)=_
     rw [bL,dge oa,ak]
    ·show cK N (f+1) xs ks [] s (xs.length:Int) (xs.length:Int)=_
     rw [cK,dge oa,ak]) N 0 o oa oa ⟨oa,fun x hx=>by simp at hx⟩
  have e1':bL N N xs ks [] o 0=_:=e1
  have e2':cK N N xs ks [] o (xs.length:Int) 0=_:=e2
  rw [show ((xs.length:Int) != (ks.length:Int))=false by simp [hl],ak,ak,wE,eo,bs,bs,e1',e2',bs]
  cases s with
  | inl q =>
   obtain ⟨h1,h2⟩:=hs
   exact ⟨q,rfl,rfl,h1,fun h=>by rw [h2] at h;cases h⟩
  | inr v =>
   obtain ⟨h1,h2⟩:=hs
   exact ⟨(v.1,true),rfl,rfl,h1,fun _=>h2⟩
 ·rw [show ((xs.length:Int) != (ks.length:Int))=true by simp;omega,ah,ah]
  exact ⟨_,rfl,rfl,dB _,fun h=>by cases h⟩
theorem Mp {a b:yP} (hl:a.length=b.length) (ha:a.length<=1048576):∀ m k,m<=a.length->m<k->∃ s:Sum Int Int,gT N k a b ((m:Int)-1)=some s/\ef N k a b ((m:Int)-1)=some s:=by
 intro m
 induction m with
 | zero =>
  intro k hm hk
  obtain ⟨k,rfl⟩:∃ k',k=k'+1:=⟨k-1,oa⟩
  rw [gT,ef,bf oa,ak,ak]
  exact ⟨_,rfl,rfl⟩
 | succ m ih =>
  intro k hm hk
  obtain ⟨k,rfl⟩:∃ k',k=k'+1:=⟨k-1,oa⟩
  have h1:m<a.length:=by omega
  have h2:m<b.length:=by omega
  have hm1:((m+1:Nat):Int)-1=(m:Int):=by omega
  obtain ⟨s,e1,e2⟩:=ih k oa oa
  rw [hm1,gT,ef,ba oa,ah,ah,bc h1,bc h2]
  simp only [bs]
  rw [dO oa oa]
  simp only [bs,lE]
  rcases Int.lt_trichotomy a[m] b[m] with h | h | h
  ·rw [ba h,ah,show (a[m] != b[m])=true by simp;omega,ah,mR,aZ h]
   exact ⟨_,rfl,rfl⟩
  ·rw [bf oa,ak,bf oa,ak,show (a[m] != b[m])=false by simp [h],ak]
   exact ⟨s,e1,e2⟩
  ·rw [bf oa,ak,ba h,ah,show (a[m] != b[m])=true by simp;omega,ah,mR,bb oa,aZ h]
   exact ⟨_,rfl,rfl⟩
theorem DC (hN:1073741824<=N) {a b:yP} (ha:a.length<=1048576) (hb:b.length<=1048576):∃ c,g9 N a b=some c/\l0 N a b=some c:=by
 unfold g9 l0
 rw [A4 hN ha,su hN ha,A4 hN hb,su hN hb]
 obtain ⟨x,ex,_⟩:=yi ha
 obtain ⟨y,ey,_⟩:=yi hb
 rw [ex,ey]
 cases x with
 | false=>exact ⟨0,rfl,rfl⟩
 | true =>
  cases y with
  | false=>exact ⟨0,rfl,rfl⟩
  | true =>
   simp only [bs,ah,lE]
   by_cases hl:a.length=b.length
   ·obtain ⟨s,e1,e2⟩:=Mp (N:=N) hl ha a.length N (bY _) oa
    rw [show ((a.length:Int) != (b.length:Int))=false by simp [hl],ak,ak,dO oa oa]
    simp only [bs]
    rw [e1,e2,bs]
    cases s with
    | inl q=>exact ⟨q,rfl,rfl⟩
    | inr v=>exact ⟨0,rfl,rfl⟩
   ·rw [show ((a.length:Int) != (b.length:Int))=true by simp;omega,ah,ah]
    unfold mR
    by_cases h:(a.length:Int)<(b.length:Int)
    ·rw [ba h,ah,aZ h];exact ⟨_,rfl,rfl⟩
    ·rw [bf h,ak,bb h,aZ oa];exact ⟨_,rfl,rfl⟩
end
def vB:yP->Int
 | []=>0
 | x :: xs=>x+10*vB xs
theorem p10 (n:Nat):(10:Int) ^ (n+1)=10*10 ^ n:=by rw [tU,Int.mul_comm]
theorem BV:∀ n:Nat,(0:Int)<10 ^ n
 | 0=>by decide
 | n+1=>by rw [p10];have:=BV n;omega
theorem wI {m n:Nat} (h:m<=n):(10:Int) ^ m<=10 ^ n:=by
 induction n with
 | zero =>
  have:m=0:=by omega
  subst this;exact mD _
 | succ n ih =>
  by_cases e:m=n+1
  ·subst e;exact mD _
  ·have:=ih oa
   have:=BV n
   rw [p10];omega
theorem AK:∀ a b:yP,vB (a++b)=vB a+10 ^ a.length*vB b
 | [],b=>by show vB b=0+10 ^ 0*vB b;rw [show (10:Int) ^ 0=1 from rfl];omega
 | x :: a,b=>by
  show x+10*vB (a++b)=x+10*vB a+10 ^ (a.length+1)*vB b
  rw [AK a b,p10,Int.mul_add,Int.mul_assoc];omega
theorem G4:∀ (s:yP) (k:Nat) (h:k<s.length) (c:Int),vB (s.set k (s[k]+c))=vB s+c*10 ^ k
 | [],k,h,_=>by simp at h
 | x :: s,0,_,c=>by show x+c+10*vB s=x+10*vB s+c*10 ^ 0;rw [show (10:Int) ^ 0=1 from rfl];omega
 | x :: s,k+1,h,c=>by
  have hk:k<s.length:=by simpa using h
  have:=G4 s k hk c
  show x+10*vB (s.set k (s[k]+c))=x+10*vB s+c*10 ^ (k+1)
  rw [this,p10,Int.mul_add]
  have e:c*(10*10 ^ k)=10*(c*(10:Int) ^ k):=by ac_rfl
  rw [e];omega
def pW (xs:yP):Prop:=∀ v∈xs,0<=v/\v<=9
def Cn (xs:yP):Prop:=pW xs/\(xs=[]\/xs.getD (xs.length-1) 0≠0)
theorem Gf:∀ {xs:yP},pW xs->0<=vB xs
 | [],_=>mD _
 | x :: xs,h=>by
  have h1:=h x cZ
  have:=Gf (xs:=xs) fun v hv=>h v (dy _ hv)
  show 0<=x+10*vB xs;omega
theorem yj:∀ {xs:yP},pW xs->vB xs<10 ^ xs.length
 | [],_=>by decide
 | x :: xs,h=>by
  have h1:=h x cZ
  have:=yj (xs:=xs) fun v hv=>h v (dy _ hv)
  show x+10*vB xs<10 ^ (xs.length+1);rw [p10];omega
theorem IM:∀ {xs:yP},pW xs->xs≠[]->xs.getD (xs.length-1) 0≠0->10 ^ (xs.length-1)<=vB xs
 | [],_,h,_=>absurd rfl h
 | [x],h,_,h2=>by
  have h1:=h x cZ
  have:x≠0:=by simpa using h2
  show (10:Int) ^ 0<=x+10*0
  rw [show (10:Int) ^ 0=1 from rfl];omega
 | x :: y :: xs,h,_,h2=>by
  have h1:=h x cZ
  have:=IM (xs:=y :: xs) (fun v hv=>h v (dy _ hv)) (by simp) (by simpa using h2)
  simp only [bW,sa] at this ⊢
  show (10:Int) ^ (xs.length+1)<=x+10*vB (y :: xs)
  rw [p10];omega
theorem Cn.ge {xs:yP} (h:Cn xs) (hn:xs≠[]):10 ^ (xs.length-1)<=vB xs:=by
 rcases h.2 with e | e
 ·exact absurd e hn
 ·exact IM h.1 hn e
theorem Cn.len {xs:yP} (h:Cn xs) {n:Nat} (hv:vB xs<10 ^ n):xs.length<=n:=by
 by_cases hn:xs=[]
 ·subst hn;exact dB _
 ·have:=h.ge hn
  by_cases hl:xs.length<=n
  ·exact hl
  ·have:=wI (show n<=xs.length-1 by omega)
   omega
section
variable {N:Nat}
theorem yd {xs:yP} (h:Cn xs) (hl:xs.length<=60):vF xs=some true:=by
 unfold vF
 have h1:xs.all (fun v=>inR v 0 9)=true:=dQ.2 fun v hv=>cA.2 (h.1 v hv)
 rw [h1,ah,ba oa,ah]
 by_cases h0:xs.length=0
 ·rw [show ((xs.length:Int) == 0)=true by simp [h0],ah]
 ·rw [show ((xs.length:Int) == 0)=false by simp;simpa using h0,ak,dO oa oa,bs,show (xs.length:Int)-1=((xs.length-1:Nat):Int) by omega,bc oa,bs]
  rcases h.2 with e | e
  ·rw [e] at h0;simp at h0
  ·rw [bR oa] at e
   simp [e]
theorem Ap {x:Int} (h:0<=x):x.tmod 10=x % 10:=Int.tmod_eq_emod_of_nonneg h
theorem Nl:∀ (m k:Nat) (x:Int) (a b:yP),0<=x->x<=9223372036854775807->x<10 ^ m->m<k->b.length+m<=1048576->∃ y ds,dm N k x a b=some (y,b++ds)/\vB ds=x/\pW ds/\ds.length<=m/\(x=0->ds=[])/\(0<x->ds≠[]/\ds.getD (ds.length-1) 0≠0):=by
 intro m
 induction m with
 | zero =>
  intro k x a b h0 hm h1 hk hb
  obtain ⟨k,rfl⟩:∃ k',k=k'+1:=⟨k-1,oa⟩
  have hx:x=0:=by simp at h1;omega
  rw [dm,bf oa,ak]
  exact ⟨x,[],by simp,hx.symm,by intro v hv;simp at hv,by simp,fun _=>rfl,fun h=>by omega⟩
 | succ m ih =>
  intro k x a b h0 hm h1 hk hb
  obtain ⟨k,rfl⟩:∃ k',k=k'+1:=⟨k-1,oa⟩
  rw [dm]
  by_cases hx:0<x
  ·have hd:x / 10<10 ^ m:=by rw [tU] at h1;omega
   rw [ba hx,ah,BO,bs,bt (by decide) (by simp;omega),bs,BP h0 hm,bs]
   obtain ⟨y,ds,e,v1,v2,v3,v4,v5⟩:=ih k (x / 10) a (b++[x.tmod 10]) oa oa hd oa (by rw [cj,bU];omega)
   refine ⟨y,x.tmod 10 :: ds,by rw [e,gr];rfl,?_,?_,by simp;omega,fun h=>by omega,fun _=>⟨by simp,?_⟩⟩
   ·show x.tmod 10+10*vB ds=x
    rw [v1,Ap h0];omega
   ·intro v hv
    rcases cp.1 hv with rfl | hv
    ·rw [Ap h0];omega
    ·exact v2 v hv
   ·by_cases hq:0<x / 10
    ·obtain ⟨w1,w2⟩:=v5 hq
     obtain ⟨d,t,rfl⟩:=List.exists_cons_of_ne_nil w1
     simpa using w2
    ·have:=v4 oa
     subst this
     rw [Ap h0]
     show x % 10≠0
     omega
  ·have hx0:x=0:=by omega
   rw [bf hx,ak]
   exact ⟨x,[],by simp,hx0.symm,by intro v hv;simp at hv,by simp,fun _=>rfl,fun h=>by omega⟩
theorem Ff (hN:1073741824<=N) {n:Int} (h0:0<=n) (h1:n<=9223372036854775807):∃ b,fW N n=some b/\b.length<=19/\vB b=n/\Cn b:=by
 have hp:(10:Int) ^ 19=10000000000000000000:=by decide
 obtain ⟨y,b,e,v1,v2,v3,v4,v5⟩:=Nl (N:=N) 19 N n [] [] h0 h1 (by rw [hp];omega) oa (by rw [fN];omega)
 refine ⟨b,?_,v3,v1,v2,?_⟩
 ·unfold fW;rw [e,bs,lpB];rfl
 ·by_cases h:0<n
  ·exact .inr (v5 h).2
  ·exact .inl (v4 oa)
theorem MS {a b:yP}:∀ (m k:Nat) (c:Int) (out:yP) (i:Nat),a.length<=i->0<=c->c<=1000000000->c<10 ^ m->m<k->out.length+m<=1048576->i+m<=1048576->∃ ds y z,cV N k a b out c (i:Int)=some (out++ds,y,z)/\ds.length<=m/\vB ds=c/\pW ds:=by
 intro m
 induction m with
 | zero =>
  intro k c out i hi h0 hm h1 hk hb hi2
  obtain ⟨k,rfl⟩:∃ k',k=k'+1:=⟨k-1,oa⟩
  have hc:c=0:=by simp at h1;omega
  rw [cV,dge oa,ak,bf oa,ak]
  exact ⟨[],c,_,by rw [mx],by simp,hc.symm,by intro v hv;simp at hv⟩
 | succ m ih =>
  intro k c out i hi h0 hm h1 hk hb hi2
  obtain ⟨k,rfl⟩:∃ k',k=k'+1:=⟨k-1,oa⟩
  rw [cV,dge oa,ak]
  by_cases hx:0<c
  ·have hd:c / 10<10 ^ m:=by rw [tU] at h1;omega
   rw [ba hx,ah,BO,bs,bt (by decide) (by simp;omega),bs,BP h0 oa,bs,ad1 oa,bs]
   obtain ⟨ds,y,z,e,hl,hv,hd2⟩:=ih k (c / 10) (out++[c.tmod 10]) (i+1) oa oa oa hd oa (by rw [cj,bU];omega) oa
   refine ⟨c.tmod 10 :: ds,y,z,by rw [e,gr];rfl,by simp;omega,?_,?_⟩
   ·show c.tmod 10+10*vB ds=c
    rw [hv,Ap h0];omega
   ·intro v hv
    rcases cp.1 hv with rfl | hv
    ·rw [Ap h0];omega
    ·exact hd2 v hv
  ·have hc:c=0:=by omega
   rw [bf hx,ak]
   exact ⟨[],c,_,by rw [mx],by simp,hc.symm,by intro v hv;simp at hv⟩
theorem MY {a b:yP} (ha:a.length<=1000) (hv:∀ v∈a,0<=v/\v<=1000000):∀ (m k:Nat) (c:Int) (out:yP) (i:Nat),i+m=a.length->0<=c->c<=1000000->m+20<k->out.length<=i->∃ ds y z,cV N k a b out c (i:Int)=some (out++ds,y,z)/\ds.length<=m+7/\vB ds=c+vB (a.drop i)/\pW ds:=by
 intro m
 induction m with
 | zero =>
  intro k c out i hi h0 h1 hk hb
  have hp:(10:Int) ^ 7=10000000:=by decide
  obtain ⟨ds,y,z,e,hl,h3,h4⟩:=MS (N:=N) (a:=a) (b:=b) 7 k c out i oa h0 oa (by rw [hp];omega) oa oa oa
  refine ⟨ds,y,z,e,oa,?_,h4⟩
  rw [h3,ll oa]
  show c=c+0;omega
 | succ m ih =>
  intro k c out i hi h0 h1 hk hb
  obtain ⟨k,rfl⟩:∃ k',k=k'+1:=⟨k-1,oa⟩
  have h:i<a.length:=by omega
  have hx:=hv _ (bC h)
  rw [cV,dlt h,ah,bc h,bs,cO oa oa,bs,BO,bs,bt (by decide) (by simp;omega),bs,BP oa oa,bs,ad1 oa,bs]
  obtain ⟨ds,y,z,e,hl,h3,h4⟩:=ih k ((c+a[i]) / 10) (out++[(c+a[i]).tmod 10]) (i+1) oa oa oa oa (by rw [cj,bU];omega)
  refine ⟨(c+a[i]).tmod 10 :: ds,y,z,by rw [e,gr];rfl,by simp;omega,?_,?_⟩
  ·rw [gH h]
   show (c+a[i]).tmod 10+10*vB ds=c+(a[i]+10*vB (a.drop (i+1)))
   rw [h3,Ap oa];omega
  ·intro v hv
   rcases cp.1 hv with rfl | hv
   ·rw [Ap oa];omega
   ·exact h4 v hv
theorem Ch {xs:yP}:∀ m,m<=xs.length->vB (xs.take (gu xs m))=vB (xs.take m)/\(gu xs m=0\/xs.getD (gu xs m-1) 0≠0)
 | 0,_=>⟨rfl,.inl rfl⟩
 | m+1,h=>by
  obtain ⟨h1,h2⟩:=Ch (xs:=xs) m oa
  unfold gu
  by_cases e:xs.getD m 0=0
  ·rw [aZ e]
   refine ⟨?_,h2⟩
   rw [h1,gx (show m<xs.length by omega),AK]
   rw [bR oa] at e
   rw [e]
   show _=_+_*(0+10*0)
   rw [show (0:Int)+10*0=0 from rfl,vp,sp]
  ·rw [bb e];exact ⟨rfl,.inr (by simpa using e)⟩
theorem GC (hN:1073741824<=N) {a:yP} (ha:a.length<=1000) (hv:∀ v∈a,0<=v/\v<=1000000):∃ r:yP × Bool,kq N a=some r/\(r.2=true->vB r.1=vB a/\Cn r.1/\r.1.length<=60)/\(r.2=true↔vB a<10 ^ 60):=by
 obtain ⟨o,y,z,e,hl,h3,h4⟩:=MY (N:=N) (b:=[]) ha hv a.length N 0 [] 0 oa oa oa oa (by simp)
 have e':cV N N a [] [] 0 0=some (o,y,z):=e
 have h3:vB o=vB a:=by rw [h3,gD];omega
 have s1:=Hj (N:=N) (b:=[]) (xs:=o) oa o.length N (bY _) oa
 obtain ⟨g1,g2⟩:=Ch (xs:=o) o.length (bY _)
 rw [dx] at g1
 have hle:=xP o o.length
 have hlen:(o.take (gu o o.length)).length=gu o o.length:=by rw [cq];omega
 have hC:Cn (o.take (gu o o.length)):=by
  refine ⟨fun v hv=>h4 v (sx hv),?_⟩
  rw [hlen]
  rcases g2 with g2 | g2
  ·exact .inl (by rw [g2];rfl)
  ·by_cases hz:gu o o.length=0
   ·exact .inl (by rw [hz];rfl)
   ·right
    rw [q7,lg,aZ oa,<- q7];exact g2
 have hI:kq N a=bif decide (60<((gu o o.length:Nat):Int)) then some ([],false) else some (o.take (gu o o.length),true):=by
  unfold kq
  rw [e',bs,lpB]
  simp only []
  rw [s1,bs,lpB,show (0:Int)=((0:Nat):Int) from rfl,lm (dB _) oa,bs,gD]
 rw [hI]
 by_cases h:60<gu o o.length
 ·rw [ba oa,ah]
  refine ⟨_,rfl,(fun h=>nomatch h),⟨(fun h=>nomatch h),fun hlt=>?_⟩⟩
  rw [<- h3,<- g1] at hlt
  have:=hC.len hlt
  omega
 ·rw [bf oa,ak]
  refine ⟨_,rfl,fun _=>⟨by show vB (o.take _)=_;rw [g1,h3],hC,by show (o.take _).length<=60;omega⟩,fun _=>?_,fun _=>rfl⟩
  rw [<- h3,<- g1]
  have h1:=yj hC.1
  have h2:=wI (show (o.take (gu o o.length)).length<=60 by omega)
  omega
theorem JJ {a b:yP} (ha:a.length<=60) (hb:b.length<=60) (da:pW a) (db:pW b) {i:Nat} (hi:i<a.length) {C:Int} (hC:C<=500000):∀ (m j k:Nat) (s:yP),j+m=b.length->m<k->s.length=a.length+b.length->(∀ x∈s,0<=x/\x<=C+81*(j:Int)) ->
  ∃ s',dT N k b [] s (i:Int) a[i] a (a.length:Int) (i:Int) b (b.length:Int) (j:Int)=some (s',(b.length:Int))/\s'.length=a.length+b.length/\(∀ x∈s',0<=x/\x<=C+4860)/\vB s'=vB s+a[i]*10 ^ (i+j)*vB (b.drop j):=by
 have hai:=da _ (bC hi)
 intro m
 induction m with
 | zero =>
  intro j k s hj hk hs hx
  obtain ⟨k,rfl⟩:∃ k',k=k'+1:=⟨k-1,oa⟩
  obtain rfl:j=b.length:=by omega
  rw [dT,dge oa,ak]
  refine ⟨s,rfl,hs,fun x h=>by have:=hx x h;omega,?_⟩
  rw [List.drop_length]
  show _=_+_*0
  rw [vp,sp]
 | succ m ih =>
  intro j k s hj hk hs hx
  obtain ⟨k,rfl⟩:∃ k',k=k'+1:=⟨k-1,oa⟩
  have hjb:j<b.length:=by omega
  have hbj:=db _ (bC hjb)
  obtain ⟨m1,m2⟩:=Fx hai hbj
  have hij:i+j<s.length:=by omega
  have hsv:=hx _ (bC hij)
  rw [dT,dlt hjb,ah,bc hjb,bs,adN oa,bs,bc hij,bs,iN oa oa,bs,cO oa oa,bs,bs,mu hij,bs,ad1 oa,bs]
  obtain ⟨s',e1,e2,e3,e4⟩:=ih (j+1) k (s.set (i+j) (s[i+j]+a[i]*b[j])) oa oa (by simpa using hs) fun x h=>by
   rcases tR h with h | rfl
   ·have:=hx x h;omega
   ·omega
  refine ⟨s',e1,e2,e3,?_⟩
  rw [e4,G4,gH hjb]
  show _=vB s+a[i]*10 ^ (i+j)*(b[j]+10*vB (b.drop (j+1)))
  rw [show i+(j+1)=(i+j)+1 by omega,p10]
  have e:a[i]*10 ^ (i+j)*(b[j]+10*vB (b.drop (j+1)))=a[i]*b[j]*10 ^ (i+j)+a[i]*(10*10 ^ (i+j))*vB (b.drop (j+1)):=by
   rw [Int.mul_add]
   congr 1 <;> ac_rfl
  rw [e];omega
theorem HY (hN:1073741824<=N) {a b:yP} (ha:a.length<=60) (hb:b.length<=60) (da:pW a) (db:pW b):∀ (m i k:Nat) (s:yP),i+m=a.length->m<k->s.length=a.length+b.length->(∀ x∈s,0<=x/\x<=4860*(i:Int)) ->
  ∃ s',dS N k b [] s a (a.length:Int) (i:Int)=some (s',(a.length:Int))/\s'.length=a.length+b.length/\(∀ x∈s',0<=x/\x<=500000)/\vB s'=vB s+10 ^ i*vB (a.drop i)*vB b:=by
 intro m
 induction m with
 | zero =>
  intro i k s hi hk hs hx
  obtain ⟨k,rfl⟩:∃ k',k=k'+1:=⟨k-1,oa⟩
  obtain rfl:i=a.length:=by omega
  rw [dS,dge oa,ak]
  refine ⟨s,rfl,hs,fun x h=>by have:=hx x h;omega,?_⟩
  rw [List.drop_length]
  show _=_+_*0*_
  rw [vp,Int.zero_mul,sp]
 | succ m ih =>
  intro i k s hi hk hs hx
  obtain ⟨k,rfl⟩:∃ k',k=k'+1:=⟨k-1,oa⟩
  have h:i<a.length:=by omega
  obtain ⟨s1,e1,e2,e3,e4⟩:=JJ (N:=N) ha hb da db h (C:=4860*(i:Int)) oa b.length 0 N s oa oa hs fun x hx'=>by have:=hx x hx';omega
  obtain ⟨s',f1,f2,f3,f4⟩:=ih (i+1) k s1 oa oa e2 fun x hx'=>by have:=e3 x hx';omega
  have e1':dT N N b [] s (i:Int) a[i] a (a.length:Int) (i:Int) b (b.length:Int) 0=_:=e1
  rw [dS,dlt h,ah,bc h,bs,e1',bs,lpB]
  dsimp only
  rw [ad1 oa,bs]
  refine ⟨s',f1,f2,f3,?_⟩
  rw [f4,e4,gD,mG,gH h]
  show _=vB s+10 ^ i*(a[i]+10*vB (a.drop (i+1)))*vB b
  have e:10 ^ i*(a[i]+10*vB (a.drop (i+1)))*vB b=a[i]*10 ^ i*vB b+10*10 ^ i*vB (a.drop (i+1))*vB b:=by
   rw [Int.mul_add,Int.add_mul]
   congr 1 <;> ac_rfl
  rw [p10,e];omega
theorem D8:∀ n:Nat,vB (List.replicate n 0)=0
 | 0=>rfl
 | n+1=>by rw [AO];show 0+10*vB (List.replicate n 0)=0;rw [D8 n];rfl
theorem E0 (hN:1073741824<=N) {a b:yP} (ha:Cn a) (hb:Cn b) (la:a.length<=60) (lb:b.length<=60):∃ r:yP × Bool,lI N a b=some r/\(r.2=true->vB r.1=vB a*vB b/\Cn r.1/\r.1.length<=60)/\(r.2=true↔vB a*vB b<10 ^ 60):=by
 unfold lI
 rw [su hN oa,su hN oa,yd ha la,yd hb lb,bs,ah,bs,ah,adN oa,bs,wa (by decide) oa,bs]
 obtain ⟨s,e1,e2,e3,e4⟩:=HY hN la lb ha.1 hb.1 a.length 0 N (List.replicate (a.length+b.length) 0) oa oa (by simp) (fun v hv=>by rw [List.eq_of_mem_replicate hv];omega)
 have e1':dS N N b [] (List.replicate (a.length+b.length) 0) a (a.length:Int) 0=_:=e1
 obtain ⟨r,c1,c2,c3⟩:=GC hN (a:=s) oa (fun x hx=>by have:=e3 x hx;omega)
 have hv:vB s=vB a*vB b:=by
  rw [e4,D8,gD,show (10:Int) ^ 0=1 from rfl,Int.one_mul,Int.zero_add]
 rw [hv] at c2 c3
 rw [e1',bs,lpB]
 dsimp only
 rw [c1,bs]
 exact ⟨_,rfl,c2,c3⟩
theorem JS (hN:1073741824<=N) {n:Int} (h0:0<=n) (h1:n<=9223372036854775807) {d:Nat} (hd:d<=100):∃ r:yP × Bool,nv N n (d:Int)=some r/\(r.2=true->vB r.1=n ^ d/\Cn r.1/\r.1.length<=60)/\(r.2=true↔∀ j,j<d->n ^ (j+1)<10 ^ 60):=by
 obtain ⟨o,eo,ho,vo,co⟩:=Ff (N:=N) hN (n:=1) oa oa
 obtain ⟨c,ec,hc,vc,cc⟩:=Ff (N:=N) hN h0 h1
 have key:∀ (m i k:Nat) (s:yP),i+m=d->m<k->Cn s->s.length<=60->vB s=n ^ i ->
   (∃ s',cQ N k n (d:Int) [] s (i:Int)=some (.inr (s',(d:Int)))/\Cn s'/\s'.length<=60/\vB s'=n ^ d/\∀ j,i<=j->j<d->n ^ (j+1)<10 ^ 60) \/
   (cQ N k n (d:Int) [] s (i:Int)=some (.inl ([],false))/\∃ j,i<=j/\j<d/\¬ n ^ (j+1)<10 ^ 60):=by
  intro m
  induction m with
  | zero =>
   intro i k s hi hk h1 h2 h3
   obtain ⟨k,rfl⟩:∃ k',k=k'+1:=⟨k-1,oa⟩
   obtain rfl:i=d:=by omega
   left
   rw [cQ,dge oa,ak]
   exact ⟨s,rfl,h1,h2,h3,fun j a b=>by omega⟩
  | succ m ih =>
   intro i k s hi hk k1 k2 k3
   obtain ⟨k,rfl⟩:∃ k',k=k'+1:=⟨k-1,oa⟩
   obtain ⟨r,m1,m2,m3⟩:=E0 hN k1 cc k2 oa
   have hp:vB s*vB c=n ^ (i+1):=by rw [k3,vc,tU]
   rw [hp] at m2 m3
   rw [cQ,dlt oa,ah,ec,bs,m1,bs]
   cases hb:r.2 with
   | true =>
    obtain ⟨q1,q2,q3⟩:=m2 hb
    rw [ah,ad1 oa,bs]
    rcases ih (i+1) k r.1 oa oa q2 q3 q1 with ⟨s',a1,a2,a3,a4,a5⟩ | ⟨a1,j,a2,a3,a4⟩
    ·refine .inl ⟨s',a1,a2,a3,a4,fun j b1 b2=>?_⟩
     by_cases e:j=i
     ·rw [e];exact m3.1 hb
     ·exact a5 j oa b2
    ·exact .inr ⟨a1,j,oa,a3,a4⟩
   | false =>
    rw [ak]
    refine .inr ⟨rfl,i,bY _,oa,fun h=>?_⟩
    rw [m3.2 h] at hb;cases hb
 unfold nv
 rw [bf oa,ak,gZ,bs,show inR (d:Int) 0 100=true from cA.2 oa,ah,eo,bs]
 rcases key d 0 N o oa oa co oa (by rw [vo,Int.pow_zero]) with ⟨s',a1,a2,a3,a4,a5⟩ | ⟨a1,j,a2,a3,a4⟩
 ·have a1':cQ N N n (d:Int) [] o 0=_:=a1
  rw [a1',bs,kt]
  exact ⟨_,rfl,fun _=>⟨a4,a2,a3⟩,fun _ j hj=>a5 j oa hj,fun _=>rfl⟩
 ·have a1':cQ N N n (d:Int) [] o 0=_:=a1
  rw [a1',bs,ou]
  exact ⟨_,rfl,(fun h=>nomatch h),⟨(fun h=>nomatch h),fun h=>absurd (h j a3) a4⟩⟩
theorem My {a b:yP} (hl:a.length=b.length) (da:pW a) (db:pW b) (ha:a.length<=1048576):∀ m k,m<=a.length->m<k ->
  (∃ q,ef N k a b ((m:Int)-1)=some (.inl q)/\(q<0/\vB (a.take m)<vB (b.take m)\/0<q/\vB (b.take m)<vB (a.take m)))\/(∃ z,ef N k a b ((m:Int)-1)=some (.inr z))/\vB (a.take m)=vB (b.take m):=by
 intro m
 induction m with
 | zero =>
  intro k hm hk
  obtain ⟨k,rfl⟩:∃ k',k=k'+1:=⟨k-1,oa⟩
  rw [ef,bf oa,ak]
  exact .inr ⟨⟨_,rfl⟩,rfl⟩
 | succ m ih =>
  intro k hm hk
  obtain ⟨k,rfl⟩:∃ k',k=k'+1:=⟨k-1,oa⟩
  have h1:m<a.length:=by omega
  have h2:m<b.length:=by omega
  have hm1:((m+1:Nat):Int)-1=(m:Int):=by omega
  have ea:vB (a.take (m+1))=vB (a.take m)+10 ^ m*a[m]:=by
   rw [gx h1,AK,cq,sI oa]
   show _+10 ^ m*(a[m]+10*0)=_
   rw [vp,sp]
  have eb:vB (b.take (m+1))=vB (b.take m)+10 ^ m*b[m]:=by
   rw [gx h2,AK,cq,sI oa]
   show _+10 ^ m*(b[m]+10*0)=_
   rw [vp,sp]
  have dta:pW (a.take m):=fun v hv=>da v (sx hv)
  have dtb:pW (b.take m):=fun v hv=>db v (sx hv)
  have la:=yj dta
  have lb:=yj dtb
  rw [cq,sI oa] at la lb
  have na:=Gf dta
  have nb:=Gf dtb
  have key:∀ x y:Int,x<y->(10:Int) ^ m*x+10 ^ m<=10 ^ m*y:=fun x y h=>by
   have:=Int.mul_le_mul_of_nonneg_left (show x+1<=y by omega) (tQ (BV m))
   rw [Int.mul_add,uT] at this;exact this
  rw [hm1,ef,ba oa,ah,bc h1,bc h2]
  simp only [bs,lE]
  rcases Int.lt_trichotomy a[m] b[m] with h | h | h
  ·rw [show (a[m] != b[m])=true by simp;omega,ah,mR,aZ h]
   have:=key _ _ h
   exact .inl ⟨_,rfl,.inl ⟨by decide,oa⟩⟩
  ·rw [show (a[m] != b[m])=false by simp [h],ak,dO oa oa,bs]
   rw [ea,eb,h]
   rcases ih k oa oa with ⟨q,q1,q2⟩ | ⟨q1,q2⟩
   ·exact .inl ⟨q,q1,oa⟩
   ·exact .inr ⟨q1,oa⟩
  ·rw [show (a[m] != b[m])=true by simp;omega,ah,mR,bb oa,aZ h]
   have:=key _ _ h
   exact .inl ⟨_,rfl,.inr ⟨by decide,oa⟩⟩
theorem Ku (hN:1073741824<=N) {a b:yP} (ha:Cn a) (hb:Cn b) (la:a.length<=60) (lb:b.length<=60):∃ q,l0 N a b=some q/\(q<=0↔vB a<=vB b):=by
 unfold l0
 rw [su hN oa,su hN oa,yd ha la,yd hb lb,bs,ah,bs,ah]
 by_cases hl:a.length=b.length
 ·rw [show ((a.length:Int) != (b.length:Int))=false by simp [hl],ak,dO oa oa,bs]
  rcases My (N:=N) hl ha.1 hb.1 oa a.length N (bY _) oa with ⟨q,q1,q2⟩ | ⟨⟨z,q1⟩,q2⟩
  ·rw [dx,show b.take a.length=b by rw [hl,dx]] at q2
   rw [q1,bs,ou]
   exact ⟨q,rfl,oa⟩
  ·rw [dx,show b.take a.length=b by rw [hl,dx]] at q2
   rw [q1,bs,kt]
   exact ⟨0,rfl,oa⟩
 ·rw [show ((a.length:Int) != (b.length:Int))=true by simp;omega,ah,lE,bs]
  unfold mR
  by_cases h:(a.length:Int)<(b.length:Int)
  ·rw [aZ h]
   have hbn:b≠[]:=fun e=>by have:=bh List.length e;rw [fN] at this;omega
   have h1:=hb.ge hbn
   have h2:=yj ha.1
   have h3:=wI (show a.length<=b.length-1 by omega)
   exact ⟨-1,rfl,oa⟩
  ·rw [bb h,aZ oa]
   have han:a≠[]:=fun e=>by have:=bh List.length e;rw [fN] at this;omega
   have h1:=ha.ge han
   have h2:=yj hb.1
   have h3:=wI (show b.length<=a.length-1 by omega)
   exact ⟨1,rfl,oa⟩
end
theorem B4 (a:Int) {m:Nat} (hm:m<=4611686018427387904):0<=j8 a (m:Int)/\j8 a (m:Int)<=(m:Int):=by
 have h1:(BitVec.ofInt IntKind.i64.bits a &&& BitVec.ofInt IntKind.i64.bits (m:Int)).toNat<=m:=by
  rw [BitVec.toNat_and]
  refine Nat.le_trans Nat.and_le_right ?_
  rw [BitVec.toNat_ofInt]
  have:IntKind.i64.bits=64:=rfl
  rw [this]
  omega
 unfold j8
 rw [nR (qW oa oa)]
 omega
theorem E6 (a:Int) {b:Nat}:∃ v,sr a (b:Int)=some v:=by unfold sr;rw [aZ oa];exact ⟨_,rfl⟩
abbrev iy (a:yP):Prop:=a.length<=1048576/\∀ v∈a,0<=v/\v<=255
def dD (a:yP) (p:Int):Prop:=0<=p/\p<=(a.length:Int)
section
variable {N:Nat}
theorem JX (a:yP) (ha:iy a):∀ (m i k:Nat) (h:Int),i+m=4000->m<k->0<=h->h<=1073741823->∃ v,kS N k a h (i:Int)=some v:=by
 intro m
 induction m with
 | zero =>
  intro i k h hi hk _ _
  obtain ⟨k,rfl⟩:∃ g,k=g+1:=⟨k-1,oa⟩
  rw [kS,bf (show ¬ (i:Int)<4000 by omega)]
  cases decide ((i:Int)<(a.length:Int)) <;> exact ⟨_,rfl⟩
 | succ m ih =>
  intro i k h hi hk h0 h1
  obtain ⟨k,rfl⟩:∃ g,k=g+1:=⟨k-1,oa⟩
  rw [kS]
  by_cases hl:i<a.length
  ·have hb:=ha.2 _ (bC hl)
   rw [dlt hl,ah,ba (show (i:Int)<4000 by omega),ah,iN oa oa,bs,bc hl,bs,nR (qW oa oa),cO oa oa,bs,cO oa oa,bs,ad1 oa,bs]
   have hi':=B4 (h*131+a[i]+7) (m:=1073741823) (by decide)
   exact ih (i+1) k _ oa oa hi'.1 hi'.2
  ·rw [dge hl,ak];exact ⟨_,rfl⟩
theorem Gc (hN:1073741824<=N) {a:yP} (ha:iy a):∃ h,qZ N a=some (0,h):=by
 have hl:=ha.1
 obtain ⟨v,hv⟩:=JX (N:=N) a ha 4000 0 N (10101+(a.length:Int)) oa oa oa oa
 unfold qZ
 rw [cO oa oa,bs]
 have hv':kS N N a (10101+(a.length:Int)) 0=some v:=hv
 rw [hv',bs]
 exact ⟨_,rfl⟩
theorem pp {a:yP} (ha:iy a) {p h:Int} (hc:dD a p):∃ x q g,kn N a p h=some (x,q,g)/\0<=x/\x<=255/\dD a q:=by
 have hl:=ha.1
 have h0:=hc.1;have h1:=hc.2
 unfold kn
 obtain ⟨x1,e1⟩:=E6 (IntKind.i64.wrap ((IntKind.i64.wrap (h*6364136223846793005))+1442695040888963407)) (b:=33)
 obtain ⟨x2,e2⟩:=E6 (IntKind.i64.wrap ((IntKind.i64.wrap (h*6364136223846793005))+1442695040888963407)) (b:=45)
 have e1':sr (IntKind.i64.wrap ((IntKind.i64.wrap (h*6364136223846793005))+1442695040888963407)) 33=some x1:=e1
 have e2':sr (IntKind.i64.wrap ((IntKind.i64.wrap (h*6364136223846793005))+1442695040888963407)) 45=some x2:=e2
 rw [e1',bs,e2',bs]
 by_cases hp:p<(a.length:Int)
 ·rw [ba hp,ah,nE h0 hp,bs]
  have hb:=B4 (IntKind.i64.wrap ((j8 (oH x1 x2) 255)+(IntKind.i64.wrap a[p.toNat]))) (m:=255) (by decide)
  refine ⟨_,_,_,rfl,hb.1,hb.2,?_⟩
  rw [nR (qW oa oa)]
  exact ⟨oa,oa⟩
 ·rw [bf hp,ak]
  have hb:=B4 (oH x1 x2) (m:=255) (by decide)
  exact ⟨_,_,_,rfl,hb.1,hb.2,hc⟩
theorem dp {a:yP} (ha:iy a) {p h n:Int} (hc:dD a p):∃ x q g,cI N a p h n=some (x,q,g)/\0<=x/\(0<n->x<n)/\(n<=0->x=0)/\dD a q:=by
 unfold cI
 by_cases h0:n<=0
 ·rw [ba h0,ah]
  exact ⟨_,_,_,rfl,mD _,fun h=>by omega,fun _=>rfl,hc⟩
 ·rw [bf h0,ak]
  by_cases h1:n<=256
  ·obtain ⟨x,q,g,e,b0,b1,hc'⟩:=pp (N:=N) ha (h:=h) hc
   rw [ba h1,ah,e,bs,rC oa,bs]
   have:=BY b0 (show 0<n by omega)
   exact ⟨_,_,_,rfl,this.1,fun _=>this.2,fun h=>by omega,hc'⟩
  ·rw [bf h1,ak]
   obtain ⟨x,q,g,e,b0,b1,hc1⟩:=pp (N:=N) ha (h:=h) hc
   rw [e,bs]
   obtain ⟨y,q2,g2,e2,c0,c1,hc2⟩:=pp (N:=N) ha (h:=g) hc1
   dsimp only
   rw [e2,bs]
   obtain ⟨z,q3,g3,e3,d0,d1,hc3⟩:=pp (N:=N) ha (h:=g2) hc2
   dsimp only
   rw [e3,bs]
   obtain ⟨w,q4,g4,e4,f0,f1,hc4⟩:=pp (N:=N) ha (h:=g3) hc3
   dsimp only
   rw [e4,bs]
   dsimp only
   rw [iN oa oa,bs,iN oa oa,bs,cO oa oa,bs,iN oa oa,bs,cO oa oa,bs,cO oa oa,bs,rC oa,bs]
   have:=BY (show 0<=x*16777216+y*65536+z*256+w by omega) (show 0<n by omega)
   exact ⟨_,_,_,rfl,this.1,fun _=>this.2,fun h=>by omega,hc4⟩
theorem lG {a l:yP} (ha:iy a) {p h:Int} (hc:dD a p) (hl:0<l.length):∃ x q g,gm N a p h l=some (x,q,g)/\x∈l/\dD a q:=by
 obtain ⟨x,q,g,e,b0,b1,_,hc'⟩:=dp (N:=N) ha (h:=h) (n:=(l.length:Int)) hc
 have b2:=b1 oa
 unfold gm
 rw [e,bs]
 dsimp only
 rw [nE b0 b2,bs]
 exact ⟨_,_,_,rfl,bC _,hc'⟩
end
section
variable {N:Nat}
def tE (n:Nat):yP:=(List.range' 0 n).map fun i:Nat=>(i:Int)
theorem Dz (n:Nat):(tE n).length=n:=by simp [tE]
end
abbrev be:=List (yP)
def cF:Nat->be->be->be
 | 0,_,_=>[]
 | _+1,[],[]=>[]
 | m+1,[],y :: b=>y :: cF m [] b
 | m+1,x :: a,[]=>x :: cF m a []
 | m+1,x :: a,y :: b=>if bZ x y<0 then x :: cF m a (y :: b) else if bZ x y=0 then x :: cF m a b else y :: cF m (x :: a) b
theorem y9:∀ (m m':Nat) (a b:be),a.length+b.length<=m->a.length+b.length<=m'->cF m a b=cF m' a b:=by
 intro m
 induction m with
 | zero =>
  intro m' a b h1 h2
  obtain rfl:a=[]:=li.1 oa
  obtain rfl:b=[]:=li.1 (by simpa using h1)
  cases m' <;> rfl
 | succ m ih =>
  intro m' a b h1 h2
  cases m' with
  | zero =>
   obtain rfl:a=[]:=li.1 oa
   obtain rfl:b=[]:=li.1 (by simpa using h2)
   rfl
  | succ m' =>
   match a,b with
   | [],[]=>rfl
   | [],y :: b=>rw [cF,cF,ih m' [] b (by simp at h1 ⊢;omega) (by simp at h2 ⊢;omega)]
   | x :: a,[]=>rw [cF,cF,ih m' a [] (by simp at h1 ⊢;omega) (by simp at h2 ⊢;omega)]
   | x :: a,y :: b =>
    simp only [bW] at h1 h2
    rw [cF,cF,ih m' a (y :: b) (by simp only [bW];omega) (by simp only [bW];omega),ih m' a b oa oa,ih m' (x :: a) b (by simp only [bW];omega) (by simp only [bW];omega)]
theorem oZ:∀ (m:Nat) (a b:be) (r:yP),r∈cF m a b->r∈a\/r∈b:=by
 intro m
 induction m with
 | zero=>intro a b r h;simp [cF] at h
 | succ m ih =>
  intro a b r h
  match a,b with
  | [],[]=>simp [cF] at h
  | [],y :: b =>
   rw [cF,cp] at h
   rcases h with rfl | h
   ·simp
   ·rcases ih _ _ _ h with h | h
    ·simp at h
    ·simp [h]
  | x :: a,[] =>
   rw [cF,cp] at h
   rcases h with rfl | h
   ·simp
   ·rcases ih _ _ _ h with h | h
    ·simp [h]
    ·simp at h
  | x :: a,y :: b =>
   rw [cF] at h
   split at h
   ·rcases cp.1 h with rfl | h
    ·simp
    ·rcases ih _ _ _ h with h | h
     ·simp [h]
     ·exact .inr h
   ·split at h
    ·rcases cp.1 h with rfl | h
     ·simp
     ·rcases ih _ _ _ h with h | h
      ·simp [h]
      ·simp [h]
    ·rcases cp.1 h with rfl | h
     ·simp
     ·rcases ih _ _ _ h with h | h
      ·exact .inl h
      ·simp [h]
theorem F0:∀ (m:Nat) (a b:be),(cF m a b).length<=a.length+b.length:=by
 intro m
 induction m with
 | zero=>intro a b;simp [cF]
 | succ m ih =>
  intro a b
  match a,b with
  | [],[]=>simp [cF]
  | [],y :: b=>have:=ih [] b;rw [cF];simp only [bW,fN] at *;omega
  | x :: a,[]=>have:=ih a [];rw [cF];simp only [bW,fN] at *;omega
  | x :: a,y :: b =>
   have h1:=ih a (y :: b);have h2:=ih a b;have h3:=ih (x :: a) b
   rw [cF]
   simp only [bW] at *
   split
   ·simp only [bW];omega
   ·split <;> (simp only [bW];omega)
def mL (rows:be):Prop:=rows.Pairwise fun a b=>bZ a b<0
theorem J9 {a b:yP} (h1:¬ bZ a b<0) (h2:¬ bZ a b=0):bZ b a<0:=by
 have:=rx a b;omega
theorem FY:∀ (m:Nat) (a b:be),mL a->mL b->mL (cF m a b):=by
 intro m
 induction m with
 | zero=>intro a b _ _;exact List.Pairwise.nil
 | succ m ih =>
  intro a b ha hb
  match a,b with
  | [],[]=>exact List.Pairwise.nil
  | [],y :: b =>
   rw [cF]
   obtain ⟨h1,h2⟩:=jD.1 hb
   refine jD.2 ⟨fun r hr=>?_,ih [] b ha h2⟩
   rcases oZ _ _ _ _ hr with h | h
   ·simp at h
   ·exact h1 r h
  | x :: a,[] =>
   rw [cF]
   obtain ⟨h1,h2⟩:=jD.1 ha
   refine jD.2 ⟨fun r hr=>?_,ih a [] h2 hb⟩
   rcases oZ _ _ _ _ hr with h | h
   ·exact h1 r h
   ·simp at h
  | x :: a,y :: b =>
   obtain ⟨h1,h2⟩:=jD.1 ha
   obtain ⟨g1,g2⟩:=jD.1 hb
   rw [cF]
   by_cases hlt:bZ x y<0
   ·rw [aZ hlt]
    refine jD.2 ⟨fun r hr=>?_,ih a (y :: b) h2 hb⟩
    rcases oZ _ _ _ _ hr with h | h
    ·exact h1 r h
    ·rcases cp.1 h with rfl | h
     ·exact hlt
     ·exact lu hlt (g1 r h)
   ·rw [bb hlt]
    by_cases heq:bZ x y=0
    ·rw [aZ heq]
     have e:=lA.1 heq
     refine jD.2 ⟨fun r hr=>?_,ih a b h2 g2⟩
     rcases oZ _ _ _ _ hr with h | h
     ·exact h1 r h
     ·rw [e];exact g1 r h
    ·rw [bb heq]
     have hgt:=J9 hlt heq
     refine jD.2 ⟨fun r hr=>?_,ih (x :: a) b ha g2⟩
     rcases oZ _ _ _ _ hr with h | h
     ·rcases cp.1 h with rfl | h
      ·exact hgt
      ·exact lu hgt (h1 r h)
     ·exact g1 r h
def dP:Nat->be->be
 | 0,rows=>rows
 | f+1,rows=>if rows.length<2 then rows else cF rows.length (dP f (rows.take (rows.length / 2))) (dP f (rows.drop (rows.length / 2)))
theorem il:∀ (f:Nat) (rows:be),(dP f rows).length<=rows.length:=by
 intro f
 induction f with
 | zero=>intro rows;exact bY _
 | succ f ih =>
  intro rows
  unfold dP
  split
  ·exact bY _
  ·have h1:=F0 rows.length (dP f (rows.take (rows.length / 2))) (dP f (rows.drop (rows.length / 2)))
   have h2:=ih (rows.take (rows.length / 2))
   have h3:=ih (rows.drop (rows.length / 2))
   rw [cq] at h2
   rw [jl] at h3
   omega
theorem lB:∀ (f:Nat) (rows:be) (r:yP),r∈dP f rows->r∈rows:=by
 intro f
 induction f with
 | zero=>intro rows r h;exact h
 | succ f ih =>
  intro rows r h
  unfold dP at h
  split at h
  ·exact h
  ·rcases oZ _ _ _ _ h with h | h
   ·exact sx (ih _ _ h)
   ·exact List.mem_of_mem_drop (ih _ _ h)
theorem um:∀ (f:Nat) (rows:be),rows.length<=2 ^ f->mL (dP f rows):=by
 intro f
 induction f with
 | zero =>
  intro rows h
  match rows,h with
  | [],_=>exact List.Pairwise.nil
  | [x],_=>exact vk _ _
  | _ :: _ :: _,h=>simp at h
 | succ f ih =>
  intro rows h
  rw [rN] at h
  unfold dP
  by_cases h2:rows.length<2
  ·rw [aZ h2]
   match rows,h2 with
   | [],_=>exact List.Pairwise.nil
   | [x],_=>exact vk _ _
   | _ :: _ :: _,h2=>simp at h2;omega
  ·rw [bb h2]
   exact FY _ _ _ (ih _ (by rw [cq];omega)) (ih _ (by rw [jl];omega))
section
variable {N:Nat}
theorem ixc {α:Type} (x:α) (a:List α):ix (x :: a) 0=some x:=by unfold ix;rw [aZ oa];rfl
theorem uG {α:Type} (x:α) (a:List α):slc (x :: a) 1 ((x :: a).length:Int)=some a:=by
 have h:=lm (xs:=x :: a) (lo:=1) (hi:=(x :: a).length) (by simp) (bY _)
 rw [dx] at h
 exact h
theorem x8 {α:Type} (x:α) (a:List α):decide ((0:Int)<((x :: a).length:Int))=true:=ba (by rw [bW];omega)
theorem xx {α:Type}:decide ((0:Int)<(([]:List α).length:Int))=false:=rfl
theorem Gj {α:Type} (x:α) (a:List α):(((x :: a).length:Int) == 0)=false:=by simp;omega
theorem Is (hN:1073741824<=N) {rec:be->Option be}:∀ (m k:Nat) (a b out:be),a.length+b.length<=m->m<k->(∀ r∈a,r.length<=1048576)->(∀ r∈b,r.length<=1048576)->out.length+m<=4194304 ->
  bw rec N k a b out=some ([],[],out++cF m a b):=by
 intro m
 induction m with
 | zero =>
  intro k a b out h hk ha hb ho
  obtain ⟨k,rfl⟩:∃ k',k=k'+1:=⟨k-1,oa⟩
  obtain rfl:a=[]:=li.1 oa
  obtain rfl:b=[]:=li.1 (by simpa using h)
  rw [bw,xx,ak,ak,cF,mx]
 | succ m ih =>
  intro k a b out h hk ha hb ho
  obtain ⟨k,rfl⟩:∃ k',k=k'+1:=⟨k-1,oa⟩
  match a,b with
  | [],[]=>rw [bw,xx,ak,ak,cF,mx]
  | [],y :: b =>
   simp only [bW,fN] at h
   rw [bw,xx,ak,x8,ah,show ((([]:be).length:Int) == 0)=true from rfl,ah,show decide ((1:Int)<=0)=false from rfl,ak,show decide ((0:Int)<=1)=true from rfl,ah,show decide ((0:Int)<1)=true from rfl,ah,ixc,bs,bt (by decide) (by simp;omega),bs,uG,bs,
    ih k [] b (out++[y]) (by simp;omega) oa ha (fun r hr=>hb r (by simp [hr])) (by rw [cj,bU];omega),cF,gr]
   rfl
  | x :: a,[] =>
   simp only [bW,fN] at h
   rw [bw,x8,ah,Gj,ak,xx,ak,show decide ((-1:Int)<=0)=true from rfl,ah,ixc,bs,bt (by decide) (by simp;omega),bs,uG,bs,show decide ((0:Int)<=-1)=false from rfl,ak,
    ih k a [] (out++[x]) (by simp;omega) oa (fun r hr=>ha r (by simp [hr])) hb (by rw [cj,bU];omega),cF,gr]
   rfl
  | x :: a,y :: b =>
   simp only [bW] at h
   have hx:=ha x (by simp);have hy:=hb y (by simp)
   rw [bw,x8,ah,Gj,ak,x8,ah,ixc,bs,ixc,bs,md hN hx oa,bs,cF]
   by_cases hlt:bZ x y<0
   ·rw [aZ hlt,ba (by omega:bZ x y<=0),ah,bs,bt (by decide) (by simp;omega),bs,uG,bs,bf (by omega:¬ 0<=bZ x y),ak,
     ih k a (y :: b) (out++[x]) (by simp only [bW];omega) oa (fun r hr=>ha r (by simp [hr])) hb (by rw [cj,bU];omega),gr]
    rfl
   ·rw [bb hlt]
    by_cases heq:bZ x y=0
    ·rw [aZ heq,ba (by omega:bZ x y<=0),ah,bs,bt (by decide) (by simp;omega),bs,uG,bs,ba (by omega:0<=bZ x y),ah,bf (by omega:¬ 0<bZ x y),ak,uG,bs,
      ih k a b (out++[x]) oa oa (fun r hr=>ha r (by simp [hr])) (fun r hr=>hb r (by simp [hr])) (by rw [cj,bU];omega),gr]
     rfl
    ·rw [bb heq,bf (by omega:¬ bZ x y<=0),ak,ba (by omega:0<=bZ x y),ah,ba (by omega:0<bZ x y),ah,bs,bt (by decide) (by simp;omega),bs,uG,bs,
      ih k (x :: a) b (out++[y]) (by simp only [bW];omega) oa ha (fun r hr=>hb r (by simp [hr])) (by rw [cj,bU];omega),gr]
     rfl
def xC (z:Option (yP)):be->be
 | []=>[]
 | y :: b=>if z=some y then b else y :: b
def Nn (z:Option (yP)) (a b:be):Prop:=mL a/\mL b/\∀ w,z=some w->(∀ x∈a,bZ w x<0)/\∀ y∈b,bZ w y<=0
theorem sy (x:yP):bZ x x=0:=lA.2 rfl
theorem ux {x:yP} {b:be} (h:∀ y∈b,bZ x y<0):xC (some x) b=b:=by
 match b with
 | []=>rfl
 | y :: b =>
  show (if some x=some y then b else y :: b)=y :: b
  rw [bb]
  intro e
  have:=h y (by simp)
  rw [dz e,sy] at this;omega
theorem xm {z:Option (yP)} {y:yP} {b:be} (h:z=some y):xC z (y :: b)=b:=aZ h
theorem sv {z:Option (yP)} {y:yP} {b:be} (h:¬ z=some y):xC z (y :: b)=y :: b:=bb h
theorem D7 {out r:be} {x:yP}:(out++[x])++r=out++x :: r:=by simp
theorem vZ {out:be} {x:yP}:(out++[x]).getLast? = some x:=by simp
theorem CU (hN:1073741824<=N) {α:Type} {out:be} {x:yP} {F G:Option α} (hl:∀ r∈out,r.length<=1048576) (hx:x.length<=1048576) (ho:out.length<=4194304) (f:be->Option α) (hF:F=(apd 24 out [x]).bind f) (hG:G=(sb (out.length:Int) 1).bind fun i=>(ix out i).bind fun w=>(cd N w x).bind fun r=>bif (r != 0) then (apd 24 out [x]).bind f else f out) :
  (bif ((out.length:Int) == 0) then F else G)=f (if out.getLast? = some x then out else out++[x]):=by
 have hap:apd 24 out [x]=some (out++[x]):=bt (by decide) (by simp;omega)
 by_cases h0:out=[]
 ·subst h0
  rw [show ((([]:be).length:Int) == 0)=true from rfl,ah,hF,hap,bs]
  rfl
 ·have hp:0<out.length:=Bf.2 h0
  have hlast:out.getLast? = some out[out.length-1]:=by rw [List.getLast?_eq_getElem?,si oa]
  rw [show ((out.length:Int) == 0)=false by simp;omega,ak,hG,dO oa oa,bs,show (out.length:Int)-1=((out.length-1:Nat):Int) by omega,bc oa,bs,iX hN (hl _ (bC _)) oa,bs,hap,bs,DZ,hlast]
  by_cases e:out[out.length-1]=x
  ·rw [ba e,uY,ak,aZ (by rw [e])]
  ·rw [bf e,rR,ah,bb (fun h=>e (dz h))]
def Ag (rows:be):Prop:=∀ r∈rows,r.length<=1048576
theorem qk {x:yP} {a:be} (h:Ag (x :: a)):Ag a:=fun r hr=>h r (by simp [hr])
theorem vO {out:be} {x:yP} (h:Ag out) (hx:x.length<=1048576):Ag (out++[x]):=by
 intro r hr
 rcases dl.1 hr with hr | hr
 ·exact h r hr
 ·simp only [fu] at hr;subst hr;exact hx
theorem wB {x:yP} {a:be} (h:mL (x :: a)):(∀ y∈a,bZ x y<0)/\mL a:=jD.1 h
theorem IF (hN:1073741824<=N) {rec:be->Option be}:∀ (m k:Nat) (a b out:be),a.length+b.length<=m->m<k->Ag a->Ag b->Ag out->out.length+m<=4194304->Nn out.getLast? a b ->
  bo rec N k a b out=some ([],[],out++cF m a (xC out.getLast? b)):=by
 intro m
 induction m with
 | zero =>
  intro k a b out h hk ha hb hl ho hI
  obtain ⟨k,rfl⟩:∃ k',k=k'+1:=⟨k-1,oa⟩
  obtain rfl:a=[]:=li.1 oa
  obtain rfl:b=[]:=li.1 (by simpa using h)
  rw [bo,xx,ak,ak,cF,mx]
 | succ m ih =>
  intro k a b out h hk ha hb hl ho hI
  obtain ⟨k,rfl⟩:∃ k',k=k'+1:=⟨k-1,oa⟩
  obtain ⟨aa,ab,iz⟩:=hI
  match a,b with
  | [],[] =>
   rw [bo,xx,ak,ak]
   show _=some ([],[],out++cF (m+1) [] [])
   rw [cF,mx]
  | [],y :: b =>
   simp only [bW,fN] at h
   have hy:=hb y (by simp)
   obtain ⟨b1,b2⟩:=wB ab
   rw [bo,xx,ak,x8,ah,show ((([]:be).length:Int) == 0)=true from rfl,ah,show decide ((0:Int)<1)=true from rfl,ah,ixc,bs,uG,bs]
   refine Eq.trans (CU (f:=fun o=>bo rec N k [] b o) hN hl hy oa rfl rfl) ?_
   by_cases e:out.getLast? = some y
   ·rw [aZ e]
    show bo rec N k [] b out=_
    rw [ih k [] b out (by simp;omega) oa ha (qk hb) hl oa ⟨aa,b2,fun w hw=>⟨by simp,fun y' hy'=>(iz w hw).2 y' (by simp [hy'])⟩⟩,xm e,e,ux b1,y9 m (m+1) [] b (by simp;omega) (by simp;omega)]
   ·rw [bb e]
    show bo rec N k [] b (out++[y])=_
    rw [ih k [] b (out++[y]) (by simp;omega) oa ha (qk hb) (vO hl hy) (by rw [cj,bU];omega) ⟨aa,b2,fun w hw=>by
      rw [vZ] at hw;cases hw;exact ⟨by simp,fun y' hy'=>tQ (b1 y' hy')⟩⟩,vZ,ux b1,sv e,cF,D7]
  | x :: a,[] =>
   simp only [bW,fN] at h
   have hx:=ha x (by simp)
   obtain ⟨a1,a2⟩:=wB aa
   have e:¬ out.getLast? = some x:=fun e=>by have:=(iz x e).1 x (by simp);rw [sy] at this;omega
   rw [bo,x8,ah,Gj,ak,xx,ak,show decide ((0:Int) < -1)=false from rfl,ak,ixc,bs,uG,bs]
   refine Eq.trans (CU (f:=fun o=>bo rec N k a [] o) hN hl hx oa rfl rfl) ?_
   rw [bb e]
   show bo rec N k a [] (out++[x])=_
   rw [ih k a [] (out++[x]) (by simp;omega) oa (qk ha) hb (vO hl hx) (by rw [cj,bU];omega) ⟨a2,ab,fun w hw=>by
     rw [vZ] at hw;cases hw;exact ⟨a1,by simp⟩⟩]
   show some ([],[],(out++[x])++cF m a [])=some ([],[],out++cF (m+1) (x :: a) [])
   rw [cF,D7]
  | x :: a,y :: b =>
   simp only [bW] at h
   have hx:=ha x (by simp);have hy:=hb y (by simp)
   obtain ⟨a1,a2⟩:=wB aa
   obtain ⟨b1,b2⟩:=wB ab
   have ex:¬ out.getLast? = some x:=fun e=>by have:=(iz x e).1 x (by simp);rw [sy] at this;omega
   rw [bo,x8,ah,Gj,ak,x8,ah,ixc,bs,ixc,bs,iX hN hx oa,bs]
   by_cases hgt:0<bZ x y
   ·have hyx:bZ y x<0:=by have:=rx x y;omega
    rw [ba hgt,ah,bs,uG,bs]
    refine Eq.trans (CU (f:=fun o=>bo rec N k (x :: a) b o) hN hl hy oa rfl rfl) ?_
    by_cases e:out.getLast? = some y
    ·rw [aZ e]
     show bo rec N k (x :: a) b out=_
     rw [ih k (x :: a) b out (by simp only [bW];omega) oa ha (qk hb) hl oa ⟨aa,b2,fun w hw=>⟨(iz w hw).1,fun y' hy'=>(iz w hw).2 y' (by simp [hy'])⟩⟩,xm e,e,ux b1,y9 m (m+1) (x :: a) b (by simp only [bW];omega) (by simp only [bW];omega)]
    ·rw [bb e]
     show bo rec N k (x :: a) b (out++[y])=_
     rw [ih k (x :: a) b (out++[y]) (by simp only [bW];omega) oa ha (qk hb) (vO hl hy) (by rw [cj,bU];omega) ⟨aa,b2,fun w hw=>by
       rw [vZ] at hw;cases hw
       refine ⟨fun x' hx'=>?_,fun y' hy'=>tQ (b1 y' hy')⟩
       rcases cp.1 hx' with rfl | hx'
       ·exact hyx
       ·exact lu hyx (a1 x' hx')⟩,vZ,ux b1,sv e,cF,bb oa,bb oa,D7]
   ·rw [bf hgt,ak,bs,uG,bs]
    refine Eq.trans (CU (f:=fun o=>bo rec N k a (y :: b) o) hN hl hx oa rfl rfl) ?_
    rw [bb ex]
    show bo rec N k a (y :: b) (out++[x])=_
    have ey:¬ out.getLast? = some y:=fun e=>by
     have h1:=(iz y e).1 x (by simp)
     have:=rx x y
     omega
    have hb':∀ y'∈b,bZ x y'<0:=fun y' hy'=>by
     by_cases h0:bZ x y=0
     ·rw [lA.1 h0];exact b1 y' hy'
     ·exact lu oa (b1 y' hy')
    rw [ih k a (y :: b) (out++[x]) (by simp only [bW];omega) oa (qk ha) hb (vO hl hx) (by rw [cj,bU];omega) ⟨a2,ab,fun w hw=>by
      rw [vZ] at hw;cases hw
      refine ⟨a1,fun y' hy'=>?_⟩
      rcases cp.1 hy' with rfl | hy'
      ·omega
      ·exact tQ (hb' y' hy')⟩,vZ,sv ey,cF]
    by_cases h0:bZ x y=0
    ·rw [xm (by rw [lA.1 h0]),bb oa,aZ h0,D7]
    ·rw [sv (fun e=>h0 (by rw [dz e,sy])),aZ oa,D7]
theorem qt2 {n:Nat} (h:n<=1048576):qt (n:Int) 2=some ((n / 2:Nat):Int):=by
 have e:(n:Int).tdiv 2=((n / 2:Nat):Int):=rfl
 unfold qt
 rw [e,aZ ⟨by decide,by unfold rng;simp only [b9,dN];omega⟩]
theorem Ci:∀ (d M:Nat) (rows:be),rows.length<=2 ^ d->1073741825+d<=M->gg rows->iq M rows=some (dP d rows):=by
 intro d
 induction d with
 | zero =>
  intro M rows h hM hr
  obtain ⟨M,rfl⟩:∃ M',M=M'+1:=⟨M-1,oa⟩
  rw [iq,ba (by simp at h;omega),ah,uH oa hr,bs];rfl
 | succ d ih =>
  intro M rows h hM hr
  obtain ⟨M,rfl⟩:∃ M',M=M'+1:=⟨M-1,oa⟩
  rw [rN] at h
  have hl:=hr.1
  rw [iq,dP]
  by_cases h2:rows.length<2
  ·rw [ba oa,ah,uH oa hr,bs,aZ h2]
  ·have ht:gg (rows.take (rows.length / 2)):=⟨by rw [cq];omega,fun r h=>hr.2 r (sx h)⟩
   have hd:gg (rows.drop (rows.length / 2)):=⟨by rw [jl];omega,fun r h=>hr.2 r (List.mem_of_mem_drop h)⟩
   have l1:=il d (rows.take (rows.length / 2))
   have l2:=il d (rows.drop (rows.length / 2))
   rw [cq] at l1
   rw [jl] at l2
   rw [bf oa,ak,bb h2,qt2 hl,bs,show (0:Int)=((0:Nat):Int) from rfl,lm (dB _) oa,bs,lm oa (bY _),bs,gD,dx,
    ih M _ (by rw [cq];omega) oa ht,bs,ih M _ (by rw [jl];omega) oa hd,bs,
    Is oa rows.length M _ _ [] oa oa (fun r h=>(ht.2 r (lB _ _ _ h)).1) (fun r h=>(hd.2 r (lB _ _ _ h)).1) (by rw [fN];omega),bs,lpB]
   rfl
theorem Hm:∀ (d M:Nat) (rows:be),rows.length<=2 ^ d->1073741825+d<=M->gg rows->jv M rows=some (dP d rows):=by
 intro d
 induction d with
 | zero =>
  intro M rows h hM hr
  obtain ⟨M,rfl⟩:∃ M',M=M'+1:=⟨M-1,oa⟩
  rw [jv,ba (by simp at h;omega),ah];rfl
 | succ d ih =>
  intro M rows h hM hr
  obtain ⟨M,rfl⟩:∃ M',M=M'+1:=⟨M-1,oa⟩
  rw [rN] at h
  have hl:=hr.1
  rw [jv,dP]
  by_cases h2:rows.length<2
  ·rw [ba oa,ah,aZ h2]
  ·have ht:gg (rows.take (rows.length / 2)):=⟨by rw [cq];omega,fun r h=>hr.2 r (sx h)⟩
   have hd:gg (rows.drop (rows.length / 2)):=⟨by rw [jl];omega,fun r h=>hr.2 r (List.mem_of_mem_drop h)⟩
   have l1:=il d (rows.take (rows.length / 2))
   have l2:=il d (rows.drop (rows.length / 2))
   have ha1:=um d (rows.take (rows.length / 2)) (by rw [cq];omega)
   have ha2:=um d (rows.drop (rows.length / 2)) (by rw [jl];omega)
   rw [cq] at l1
   rw [jl] at l2
   rw [bf oa,ak,bb h2,qt2 hl,bs,show (0:Int)=((0:Nat):Int) from rfl,lm (dB _) oa,bs,gD,
    ih M _ (by rw [cq];omega) oa ht,bs,lm oa (bY _),bs,dx,ih M _ (by rw [jl];omega) oa hd,bs,
    IF oa rows.length M _ _ [] oa oa (fun r h=>(ht.2 r (lB _ _ _ h)).1) (fun r h=>(hd.2 r (lB _ _ _ h)).1) (fun r h=>by simp at h) (by rw [fN];omega) ⟨ha1,ha2,fun w hw=>by simp at hw⟩,bs,lpB]
   have hdz:xC (([]:be).getLast?) (dP d (rows.drop (rows.length / 2)))=dP d (rows.drop (rows.length / 2)):=by
    cases dP d (rows.drop (rows.length / 2)) with
    | nil=>rfl
    | cons y b=>exact sv (by simp)
   rw [hdz]
   rfl
end
def ro (n:Int) (rows:be):Bool:=rows.all fun r=>decide ((r.length:Int)=n)&&cn r
def mU:(Int × be) × Bool:=((0,[]),false)
def np (n:Int) (rows:be):(Int × be) × Bool:=bif ro n rows&&bM n (dP 20 rows) then ((n,dP 20 rows),true) else mU
def dZ (row cols:yP):yP:=cols.map fun c=>row.getD c.toNat 0
theorem sJ (row cols:yP):(dZ row cols).length=cols.length:=by simp [dZ]
theorem Bw {row cols:yP} {i:Nat} (h:i<cols.length):dZ row (cols.take i)++[row.getD cols[i].toNat 0]=dZ row (cols.take (i+1)):=by
 unfold dZ;rw [gx h,fv];rfl
def ms (n:Int) (cols:yP):Bool:=cols.all fun c=>inR c 0 (n-1)
def tf (n:Int) (rows:be) (cols:yP):(Int × be) × Bool :=
 bif bM n rows&&(decide ((cols.length:Int)<=5)&&ms n cols) then np (cols.length:Int) (rows.map fun r=>dZ r cols) else mU
def wj (n:Int) (rows:be) (cols:yP):(Int × be) × Bool:=bif lF cols&&decide ((cols.length:Int)=n) then (bif (tf n rows cols).2 then ((tf n rows cols).1,true) else mU) else mU
theorem tD {rows:be} (d:Nat) (h:gg rows):gg (dP d rows):=⟨Nat.le_trans (il d rows) h.1,fun r hr=>h.2 r (lB _ _ _ hr)⟩
section
variable {N:Nat}
theorem JQ (hN:1073741824<=N) {n:Int} {rows:be} (hr:gg rows):fx N N n rows 0 [] rows (rows.length:Int) 0=some (bif ro n rows then .inr (rows.length:Int) else .inl mU):=by
 have hl:=hr.1
 have h:=mb (fun k i=>fx N k n rows 0 [] rows (rows.length:Int) i) rows.length oa mU (fun i=>if h:i<rows.length then decide ((rows[i].length:Int)=n)&&cn rows[i] else true) (rows.length:Int)
  (fun k i h=>by
   have hx:=(hr.2 _ (bC h)).1
   show fx N (k+1) n rows 0 [] rows (rows.length:Int) (i:Int)=_
   rw [fx,dlt h,ah,bc h,bs,pE hN hx,bs,ad1 oa,bs,ii h]
   by_cases e:(rows[i].length:Int)=n
   ·rw [show ((rows[i].length:Int) != n)=false by simpa using e,ak,ba e,cN];rfl
   ·rw [show ((rows[i].length:Int) != n)=true by simpa using e,ah,bf e,lQ,ak];rfl)
  (fun k=>by
   show fx N (k+1) n rows 0 [] rows (rows.length:Int) (rows.length:Int)=_
   rw [fx,dge oa,ak]) N 0 oa oa
 rw [ja,lx rows (fun r=>decide ((r.length:Int)=n)&&cn r) _ (fun i hi=>by rw [ii hi])] at h
 exact h
theorem JE (hN:1073741824<=N) {n:Int} {rows:be} (hr:gg rows):fB N N n rows 0 [] 0=some (bif ro n rows then .inr (rows.length:Int) else .inl mU):=by
 have hl:=hr.1
 have h:=mb (fun k i=>fB N k n rows 0 [] i) rows.length oa mU (fun i=>if h:i<rows.length then decide ((rows[i].length:Int)=n)&&cn rows[i] else true) (rows.length:Int)
  (fun k i h=>by
   have hx:=(hr.2 _ (bC h)).1
   show fB N (k+1) n rows 0 [] (i:Int)=_
   rw [fB,dlt h,ah,bc h,bs,bs,pj hN hx,bs,ad1 oa,bs,ii h]
   by_cases e:(rows[i].length:Int)=n
   ·rw [show ((rows[i].length:Int) != n)=false by simpa using e,ak,ba e,cN];rfl
   ·rw [show ((rows[i].length:Int) != n)=true by simpa using e,ah,bf e,lQ,ak];rfl)
  (fun k=>by
   show fB N (k+1) n rows 0 [] (rows.length:Int)=_
   rw [fB,dge oa,ak]) N 0 oa oa
 rw [ja,lx rows (fun r=>decide ((r.length:Int)=n)&&cn r) _ (fun i hi=>by rw [ii hi])] at h
 exact h
theorem w5 (hM:1073742848<=N) {n:Int} {rows:be} (hr:gg rows):kj N n rows=some (np n rows):=by
 unfold kj np
 rw [JQ oa hr,bs]
 cases ro n rows with
 | false=>rw [ak,ou];rfl
 | true =>
  rw [ah,kt,Ci 20 N rows (by have:=hr.1;omega) oa hr,bs,jQ oa (tD 20 hr),bs,cN]
  cases bM n (dP 20 rows) <;> rfl
theorem jZ (hM:1073742848<=N) {n:Int} {rows:be} (hr:gg rows):eF N n rows=some (np n rows):=by
 unfold eF np
 rw [JE oa hr,bs]
 cases ro n rows with
 | false=>rw [ak,ou];rfl
 | true =>
  rw [ah,kt,Hm 20 N rows (by have:=hr.1;omega) oa hr,bs,CH oa (tD 20 hr),bs,jS oa (tD 20 hr),bs,cN]
  cases bM n (dP 20 rows) <;> rfl
theorem Fw (hN:1073741824<=N) {row cols:yP} (hc:cols.length<=1048576) (hin:∀ c∈cols,0<=c/\c<row.length):qb N row cols=some (dZ row cols):=by
 have h:=dU (fun k (s:yP) i=>jE N k row s cols (cols.length:Int) i) cols.length (fun i=>dZ row (cols.take i)) (dZ row cols,(cols.length:Int))
  (fun k i h=>by
   have hb:=hin _ (bC h)
   show jE N (k+1) row (dZ row (cols.take i)) cols (cols.length:Int) (i:Int)=_
   rw [jE,dlt h,ah,bc h,bs,nE hb.1 hb.2,bs,bt (by decide) (by rw [sJ];simp;omega),bs,ad1 oa,bs,<- bR oa,Bw h])
  (fun k=>by
   show jE N (k+1) row (dZ row (cols.take cols.length)) cols (cols.length:Int) (cols.length:Int)=_
   rw [jE,dge oa,ak,dx]) N 0 oa oa
 have h':jE N N row [] cols (cols.length:Int) 0=_:=h
 unfold qb
 rw [h',bs,lpB]
theorem Hv (hN:1073741824<=N) {row cols:yP} (hc:cols.length<=1048576) (hin:∀ c∈cols,0<=c/\c<row.length):pv N row cols=some (dZ row cols):=by
 have h:=dU (fun k (s:yP) i=>iw N k row cols s i) cols.length (fun i=>dZ row (cols.take i)) (dZ row cols,(cols.length:Int))
  (fun k i h=>by
   have hb:=hin _ (bC h)
   show iw N (k+1) row cols (dZ row (cols.take i)) (i:Int)=_
   rw [iw,dlt h,ah,bc h,bs,nE hb.1 hb.2,bs,bt (by decide) (by rw [sJ];simp;omega),bs,ad1 oa,bs,<- bR oa,Bw h])
  (fun k=>by
   show iw N (k+1) row cols (dZ row (cols.take cols.length)) (cols.length:Int)=_
   rw [iw,dge oa,ak,dx]) N 0 oa oa
 have h':iw N N row cols [] 0=_:=h
 unfold pv
 rw [h',bs,lpB]
theorem wO (hN:1073741824<=N) {n:Int} {cols:yP} (hc:cols.length<=1048576) (hn:-1000<=n/\n<=1000):kK N n cols=some (decide ((cols.length:Int)<=5)&&ms n cols):=by
 unfold kK
 by_cases h5:5<(cols.length:Int)
 ·rw [ba h5,ah,bf oa];rfl
 rw [bf h5,ak,ba oa,cN]
 have h:=xA (fun k i=>gE N k n cols (cols.length:Int) i) cols (fun c=>inR c 0 (n-1)) hN hc
  (fun k i h=>by
   show gE N (k+1) n cols (cols.length:Int) (i:Int)=_
   rw [gE,dlt h,ah,bc h,bs,dO oa oa,bs,gZ,bs,ad1 oa,bs])
  (fun k=>by
   show gE N (k+1) n cols (cols.length:Int) (cols.length:Int)=_
   rw [gE,dge oa,ak])
 rw [h,bs]
 unfold ms
 cases cols.all fun c=>inR c 0 (n-1) <;> rfl
theorem Ic (hN:1073741824<=N) {n:Int} {rows:be} {cols:yP} (hc:cols.length<=1048576) (hn:-1000<=n/\n<=1000):hU N N cols n rows 0 [] 0=some (bif ms n cols then .inr (cols.length:Int) else .inl mU):=by
 have h:=mb (fun k i=>hU N k cols n rows 0 [] i) cols.length oa mU (fun i=>if h:i<cols.length then inR cols[i] 0 (n-1) else true) (cols.length:Int)
  (fun k i h=>by
   show hU N (k+1) cols n rows 0 [] (i:Int)=_
   rw [hU,dlt h,ah,bc h,bs,dO oa oa,bs,fP,bs,ad1 oa,bs,ii h];rfl)
  (fun k=>by
   show hU N (k+1) cols n rows 0 [] (cols.length:Int)=_
   rw [hU,dge oa,ak]) N 0 oa oa
 rw [ja,lx cols (fun c=>inR c 0 (n-1)) _ (fun i hi=>by rw [ii hi])] at h
 exact h
theorem wR {rows:be} {f:yP->yP} {i:Nat} (h:i<rows.length):(rows.take i).map f++[f rows[i]]=(rows.take (i+1)).map f:=by
 rw [gx h,fv];rfl
theorem EM {n:Int} {rows:be} {cols:yP} (hv:bM n rows=true) (hc:ms n cols=true) {i:Nat} (h:i<rows.length):∀ c∈cols,0<=c/\c<rows[i].length:=by
 obtain ⟨_,_,_,h3⟩:=cD hv
 intro c hcm
 have h1:=(h3 i h).1
 unfold ms at hc
 have h2:=cA.1 ((dQ.1 hc) c hcm)
 omega
theorem Bh (hM:1073742848<=N) {n:Int} {rows:be} {cols:yP} (hr:gg rows) (hc:cols.length<=1048576):oG N n rows cols=some (tf n rows cols):=by
 have hl:=hr.1
 unfold oG tf
 rw [jQ oa hr,bs]
 cases hv:bM n rows with
 | false=>rfl
 | true =>
  obtain ⟨n0,n5,_,_⟩:=cD hv
  rw [ah,wO oa hc oa,bs,cN]
  cases h5:decide ((cols.length:Int)<=5)&&ms n cols with
  | false=>rfl
  | true =>
   rw [b9] at h5
   have hin:=fun (i:Nat) (h:i<rows.length)=>EM hv h5.2 h
   have h:=dU (fun k (s:be) i=>hH N k cols 0 [] s rows (rows.length:Int) i) rows.length (fun i=>(rows.take i).map fun r=>dZ r cols) (rows.map (fun r=>dZ r cols),(rows.length:Int))
    (fun k i h=>by
     show hH N (k+1) cols 0 [] ((rows.take i).map fun r=>dZ r cols) rows (rows.length:Int) (i:Int)=_
     rw [hH,dlt h,ah,bc h,bs,Fw oa hc (hin i h),bs,bt (by decide) (by simp;omega),bs,ad1 oa,bs,wR (f:=fun r=>dZ r cols) h])
    (fun k=>by
     show hH N (k+1) cols 0 [] ((rows.take rows.length).map fun r=>dZ r cols) rows (rows.length:Int) (rows.length:Int)=_
     rw [hH,dge oa,ak,dx]) N 0 oa oa
   have h':hH N N cols 0 [] [] rows (rows.length:Int) 0=_:=h
   have hok:gg (rows.map fun r=>dZ r cols):=⟨by rw [cB];exact hl,fun r hr=>by
    obtain ⟨x,_,rfl⟩:=fm.1 hr
    exact ⟨by rw [sJ];exact hc,fun _ _=>trivial⟩⟩
   rw [ah,h',bs,lpB]
   show (kj N (cols.length:Int) (rows.map fun r=>dZ r cols)).bind _=_
   rw [w5 hM hok,bs]
   rfl
theorem Bl (hM:1073742848<=N) {n:Int} {rows:be} {cols:yP} (hr:gg rows) (hc:cols.length<=1048576) (hn:-1000<=n/\n<=1000):oT N n rows cols=some (tf n rows cols):=by
 have hl:=hr.1
 unfold oT tf
 rw [Ic oa hc hn,bs]
 cases hcf:ms n cols with
 | false=>rw [ak,ou,n4,n4];rfl
 | true =>
  rw [ah,kt,jS oa hr,bs]
  cases hv:bM n rows with
  | false=>rfl
  | true =>
   rw [ah]
   by_cases h5:5<(cols.length:Int)
   ·rw [ba h5,ah,bf oa];rfl
   ·have hin:=fun (i:Nat) (h:i<rows.length)=>EM hv hcf h
    have h:=dU (fun k (s:be) i=>hJ N k cols n rows 0 [] s i) rows.length (fun i=>(rows.take i).map fun r=>dZ r cols) (rows.map (fun r=>dZ r cols),(rows.length:Int))
     (fun k i h=>by
      show hJ N (k+1) cols n rows 0 [] ((rows.take i).map fun r=>dZ r cols) (i:Int)=_
      rw [hJ,dlt h,ah,bc h,bs,Hv oa hc (hin i h),bs,bt (by decide) (by simp;omega),bs,ad1 oa,bs,wR (f:=fun r=>dZ r cols) h])
     (fun k=>by
      show hJ N (k+1) cols n rows 0 [] ((rows.take rows.length).map fun r=>dZ r cols) (rows.length:Int)=_
      rw [hJ,dge oa,ak,dx]) N 0 oa oa
    have h':hJ N N cols n rows 0 [] [] 0=_:=h
    have hok:gg (rows.map fun r=>dZ r cols):=⟨by rw [cB];exact hl,fun r hr=>by
     obtain ⟨x,_,rfl⟩:=fm.1 hr
     exact ⟨by rw [sJ];exact hc,fun _ _=>trivial⟩⟩
    rw [bf h5,ak,h',bs,lpB,ba oa]
    show (eF N (cols.length:Int) (rows.map fun r=>dZ r cols)).bind _=_
    rw [jZ hM hok,bs]
    rfl
theorem y2 (hM:1073742848<=N) {n:Int} {rows:be} {cols:yP} (hr:gg rows) (hc:cols.length<=1048576):nt N n rows cols=some (wj n rows cols):=by
 unfold nt wj
 rw [uV oa hc,bs]
 cases lF cols with
 | false=>rfl
 | true =>
  rw [ah,cN]
  by_cases e:(cols.length:Int)=n
  ·rw [show ((cols.length:Int) != n)=false by simpa using e,ak,ba e,ah,Bh hM hr hc,bs]
   cases (tf n rows cols).2 <;> rfl
  ·rw [show ((cols.length:Int) != n)=true by simpa using e,ah,bf e,ak];rfl
theorem yx (hM:1073742848<=N) {n:Int} {rows:be} {cols:yP} (hr:gg rows) (hc:cols.length<=1048576):nA N n rows cols=some (wj n rows cols):=by
 unfold nA wj
 rw [qr oa hc,bs]
 cases hp:lF cols with
 | false=>rfl
 | true =>
  have h5:(cols.length:Int)<=5:=by
   unfold lF at hp
   rw [b9,dN] at hp
   exact hp.1
  rw [ah,cN]
  by_cases e:(cols.length:Int)=n
  ·rw [show ((cols.length:Int) != n)=false by simpa using e,ak,ba e,ah,Bl hM hr hc oa,bs]
   cases (tf n rows cols).2 <;> rfl
  ·rw [show ((cols.length:Int) != n)=true by simpa using e,ah,bf e,ak];rfl
end
def bD (xs:yP):yP:=(tE 5).filter fun v=>decide (v∈xs)
theorem jk (xs:yP):(bD xs).length<=5:=by
 unfold bD
 exact Nat.le_trans (rT _ _) (by rw [Dz];omega)
def oz (xs:yP) (i:Nat):yP:=(tE i).filter fun v=>decide (v∈xs)
theorem Cs (xs:yP) (i:Nat):(oz xs i).length<=i:=by
 unfold oz
 exact Nat.le_trans (rT _ _) (by rw [Dz];omega)
theorem CE (i:Nat):tE (i+1)=tE i++[(i:Int)]:=by unfold tE;rw [pn];simp
theorem CZ {xs:yP} {i:Nat} (h:decide ((i:Int)∈xs)=true):oz xs i++[(i:Int)]=oz xs (i+1):=by
 unfold oz;rw [CE,vi];simp only [rU,List.filter_nil,h,if_true]
theorem Ct {xs:yP} {i:Nat} (h:decide ((i:Int)∈xs)=false):oz xs i=oz xs (i+1):=by
 unfold oz;rw [CE,vi];simp [h]
def j7 (vars out:yP) (v:Int):yP:=bif decide (0<=e8 vars v)&&!decide (e8 vars v∈out) then out++[e8 vars v] else out
def l9 (xs yL:yP):yP:=yL.foldl (j7 (bD xs)) []
theorem Ez (vars out:yP) (v:Int):(j7 vars out v).length<=out.length+1:=by
 unfold j7;cases decide (0<=e8 vars v)&&!decide (e8 vars v∈out) <;> simp
theorem y5 (vars:yP):∀ (l out:yP),(l.foldl (j7 vars) out).length<=out.length+l.length
 | [],out=>by simp
 | v :: l,out=>by
  have h1:=y5 vars l (j7 vars out v)
  have h2:=Ez vars out v
  rw [tS,bW];omega
def n8 (n:Int) (yK:List bl) (out yL:yP):Bool:=fD n yK out&&(decide ((yL.length:Int)=n)&&jX yL n)
section
variable {N:Nat}
theorem qq (hN:1073741824<=N) {s:ByteArray} {xs:yP} (hx:okI xs):je N s xs=some (bD xs):=by
 have h:=dU (fun k (o:yP) i=>dH N k s xs o i) 5 (oz xs) (bD xs,5)
  (fun k i h=>by
   have hl:=Cs xs i
   show dH N (k+1) s xs (oz xs i) (i:Int)=_
   rw [dH,ba oa,ah,lP hN hx,bs]
   cases hc:decide ((i:Int)∈xs) with
   | true=>rw [ah,bt (by decide) (by simp;omega),bs,ad1 oa,bs,CZ hc]
   | false=>rw [ak,ad1 oa,bs,<- Ct hc])
  (fun k=>by
   show dH N (k+1) s xs (oz xs 5) ((5:Nat):Int)=_
   rw [dH,bf oa,ak];rfl) N 0 oa oa
 have h':dH N N s xs [] 0=_:=h
 unfold je
 rw [h',bs,lpB]
theorem qf (hN:1073741824<=N) {s:ByteArray} {xs:yP} (hx:okI xs):jj N s xs=some (bD xs):=by
 have h:=dU (fun k (o:yP) i=>dI N k s xs o i) 5 (oz xs) (bD xs,5)
  (fun k i h=>by
   have hl:=Cs xs i
   show dI N (k+1) s xs (oz xs i) (i:Int)=_
   rw [dI,ba oa,ah,ic hN hx,bs]
   cases hc:decide ((i:Int)∈xs) with
   | true=>rw [ah,bt (by decide) (by simp;omega),bs,ad1 oa,bs,CZ hc]
   | false=>rw [ak,ad1 oa,bs,<- Ct hc])
  (fun k=>by
   show dI N (k+1) s xs (oz xs 5) ((5:Nat):Int)=_
   rw [dI,bf oa,ak];rfl) N 0 oa oa
 have h':dI N N s xs [] 0=_:=h
 unfold jj
 rw [h',bs,lpB]
def mP (vars yL:yP) (i:Nat):yP:=(yL.take i).foldl (j7 vars) []
theorem CA {vars yL:yP} {i:Nat} (h:i<yL.length):mP vars yL (i+1)=j7 vars (mP vars yL i) yL[i]:=by
 unfold mP;rw [gx h,xi];rfl
theorem DV (vars yL:yP) (i:Nat):(mP vars yL i).length<=i:=by
 have:=y5 vars (yL.take i) []
 unfold mP
 rw [cq,fN] at this
 omega
theorem uk (hN:1073741824<=N) {s:ByteArray} {xs yL:yP} (hx:okI xs) (ho:yL.length<=1048576):jG N s xs yL=some (l9 xs yL):=by
 have hv:=jk xs
 have h:=dU (fun k (o:yP) i=>c4 N k (bD xs) o yL (yL.length:Int) i) yL.length (mP (bD xs) yL) (mP (bD xs) yL yL.length,(yL.length:Int))
  (fun k i h=>by
   have hl:=DV (bD xs) yL i
   show c4 N (k+1) (bD xs) (mP (bD xs) yL i) yL (yL.length:Int) (i:Int)=_
   rw [c4,dlt h,ah,bc h,bs,wc hN oa,bs,w7 hN oa,bs,ad1 oa,bs,CA h,bt (by decide) (by simp;omega),bs,bs]
   unfold j7
   cases decide (0<=e8 (bD xs) yL[i]) with
   | false=>rw [ak,lQ,ak]
   | true =>
    rw [ah,cN]
    cases decide (e8 (bD xs) yL[i]∈mP (bD xs) yL i) with
    | false=>rw [ak,rR,ah]
    | true=>rw [ah,uY,ak])
  (fun k=>by
   show c4 N (k+1) (bD xs) (mP (bD xs) yL yL.length) yL (yL.length:Int) (yL.length:Int)=_
   rw [c4,dge oa,ak]) N 0 oa oa
 have h':c4 N N (bD xs) [] yL (yL.length:Int) 0=_:=h
 unfold jG
 rw [qq hN hx,bs,h',bs,lpB]
 show some (mP (bD xs) yL yL.length)=_
 unfold mP l9;rw [dx]
theorem uh (hN:1073741824<=N) {s:ByteArray} {xs yL:yP} (hx:okI xs) (ho:yL.length<=1048576):jw N s xs yL=some (l9 xs yL):=by
 have hv:=jk xs
 have h:=dU (fun k (o:yP) i=>cY N k yL (bD xs) o i) yL.length (mP (bD xs) yL) (mP (bD xs) yL yL.length,(yL.length:Int))
  (fun k i h=>by
   have hl:=DV (bD xs) yL i
   show cY N (k+1) yL (bD xs) (mP (bD xs) yL i) (i:Int)=_
   have hneg:decide (e8 (mP (bD xs) yL i) (e8 (bD xs) yL[i])<0)=!decide (e8 (bD xs) yL[i]∈mP (bD xs) yL i):=by
    rw [<- oO,xJ,Bool.not_not]
   rw [cY,dlt h,ah,bc h,bs,nI hN oa,bs,nI hN oa,bs,hneg,ad1 oa,bs,CA h,bt (by decide) (by simp;omega),bs,bs]
   unfold j7
   cases decide (0<=e8 (bD xs) yL[i]) with
   | false=>rw [ak,lQ,ak]
   | true =>
    rw [ah,cN]
    cases decide (e8 (bD xs) yL[i]∈mP (bD xs) yL i) with
    | false=>rw [rR,ah,ah]
    | true=>rw [uY,ak,ak])
  (fun k=>by
   show cY N (k+1) yL (bD xs) (mP (bD xs) yL yL.length) (yL.length:Int)=_
   rw [cY,dge oa,ak]) N 0 oa oa
 have h':cY N N yL (bD xs) [] 0=_:=h
 unfold jw
 rw [qf hN hx,bs,h',bs,lpB]
 show some (mP (bD xs) yL yL.length)=_
 unfold mP l9;rw [dx]
theorem we (hN:1073741824<=N) {n:Int} {yK:List bl} {out yL:yP} (ha:c6 yK) (ho:okI out) (hr:okI yL):lj N n yK out yL=some (n8 n yK out yL):=by
 unfold lj n8
 rw [qP hN ha ho,bs]
 cases hq:fD n yK out with
 | false=>rfl
 | true =>
  obtain ⟨h1,h2,_,_⟩:=qp hq
  rw [ah,cN,wr hN hr.1 oa,bs]
  by_cases e:(yL.length:Int)=n
  ·rw [show ((yL.length:Int) == n)=true by simpa using e,ba e];rfl
  ·rw [show ((yL.length:Int) == n)=false by simpa using e,bf e];rfl
theorem v9 (hN:1073741824<=N) {n:Int} {yK:List bl} {out yL:yP} (ha:c6 yK) (ho:okI out) (hr:okI yL):kU N n yK out yL=some (n8 n yK out yL):=by
 unfold kU n8
 rw [jH hN ha ho,bs]
 cases hq:fD n yK out with
 | false=>rfl
 | true =>
  obtain ⟨h1,h2,_,_⟩:=qp hq
  rw [ah,cN,qr hN hr.1,bs]
  by_cases e:(yL.length:Int)=n
  ·rw [show ((yL.length:Int) == n)=true by simpa using e,ba e]
   unfold lF
   rw [e,ba h2];rfl
  ·rw [show ((yL.length:Int) == n)=false by simpa using e,bf e];rfl
end
def og (ts:List bA) (a:bl):Bool:=(cl ts a.1).2&&decide ((cl ts a.1).1.1=(a.2.length:Int))
def jI (ts:List bA) (n:Int) (yK:List bl) (out:yP):Bool:=fD n yK out&&(pX ts&&yK.all (og ts))
section
variable {N:Nat}
theorem Lu (hN:1073741824<=N) {ts:List bA} {yK:List bl} (ht:nO ts) (ha:c6 yK):fX N N ts yK (yK.length:Int) 0=some (bif yK.all (og ts) then .inr (yK.length:Int) else .inl false) :=
 xA (fun k i=>fX N k ts yK (yK.length:Int) i) yK (og ts) hN ha.1
  (fun k i h=>by
   have hl:=ha.1
   show fX N (k+1) ts yK (yK.length:Int) (i:Int)=_
   rw [fX,dlt h,ah,bc h,bs,pN hN ht,bs,ad1 oa,bs]
   unfold og
   cases (cl ts yK[i].1).2 with
   | false=>rw [ak,lQ,ak]
   | true =>
    rw [ah,cN]
    by_cases e:(cl ts yK[i].1).1.1=(yK[i].2.length:Int)
    ·rw [show ((cl ts yK[i].1).1.1 != (yK[i].2.length:Int))=false by simpa using e,ak,ba e,ah]
    ·rw [show ((cl ts yK[i].1).1.1 != (yK[i].2.length:Int))=true by simpa using e,ah,bf e,ak])
  (fun k=>by
   show fX N (k+1) ts yK (yK.length:Int) (yK.length:Int)=_
   rw [fX,dge oa,ak])
theorem Ms (hN:1073741824<=N) {ts:List bA} {n:Int} {yK:List bl} {out:yP} (ht:nO ts) (ha:c6 yK):fY N N ts n yK out 0=some (bif yK.all (og ts) then .inr (yK.length:Int) else .inl false) :=
 xA (fun k i=>fY N k ts n yK out i) yK (og ts) hN ha.1
  (fun k i h=>by
   have hl:=ha.1
   show fY N (k+1) ts n yK out (i:Int)=_
   rw [fY,dlt h,ah,bc h,bs,pL hN ht,bs,bs,ad1 oa,bs]
   unfold og
   cases (cl ts yK[i].1).2 with
   | false=>rw [ak,lQ,ak]
   | true =>
    rw [ah,cN]
    by_cases e:(cl ts yK[i].1).1.1=(yK[i].2.length:Int)
    ·rw [show ((cl ts yK[i].1).1.1 != (yK[i].2.length:Int))=false by simpa using e,ak,ba e,ah]
    ·rw [show ((cl ts yK[i].1).1.1 != (yK[i].2.length:Int))=true by simpa using e,ah,bf e,ak])
  (fun k=>by
   show fY N (k+1) ts n yK out (yK.length:Int)=_
   rw [fY,dge oa,ak])
theorem xa (hN:1073741824<=N) {ts:List bA} {n:Int} {yK:List bl} {out:yP} (ht:nO ts) (ha:c6 yK) (ho:okI out):mB N ts n yK out=some (jI ts n yK out):=by
 unfold mB jI
 rw [qP hN ha ho,bs,o6 hN ht,bs,Lu hN ht ha,bs]
 cases fD n yK out <;> cases pX ts <;> cases yK.all (og ts) <;> rfl
theorem rV (hN:1073741824<=N) {ts:List bA} {n:Int} {yK:List bl} {out:yP} (ht:nO ts) (ha:c6 yK) (ho:okI out):kN N ts n yK out=some (jI ts n yK out):=by
 unfold kN jI
 rw [Ms hN ht ha,bs,jH hN ha ho,bs,mi hN ht,bs]
 cases fD n yK out <;> cases pX ts <;> cases yK.all (og ts) <;> rfl
end
def yh (vs row:yP) (i:Nat):Bool:=decide (row.getD (e8 vs (vs.getD i 0)).toNat 0=row.getD i 0)
def sM (vs row:yP) (i:Nat):Bool:=(List.range' 0 i).all (yh vs row)
def kE (vs row:yP):Bool:=sM vs row vs.length
def fQ (vs row:yP):yP:=(bD vs).map fun v=>row.getD (e8 vs v).toNat 0
theorem xY (vs row:yP) (i:Nat):sM vs row (i+1)=(sM vs row i&&yh vs row i):=by
 unfold sM;rw [pn,List.all_append];simp
theorem sH {vs:yP} {v:Int} (h:v∈vs):∃ j:Nat,e8 vs v=(j:Int)/\j<vs.length:=by
 rcases te vs v with ⟨h1,_⟩ | ⟨j,hj,_,e,_⟩
 ·exact absurd h h1
 ·exact ⟨j,e,hj⟩
section
variable {N:Nat}
theorem K6 (hN:1073741824<=N) {p0:ByteArray} {vs row p3:yP} {p1 p4 p8 p9:Int} {p2 p5 p6 p7:be} (hl:row.length=vs.length) (h5:vs.length<=1000) (hv:∀ v∈vs,0<=v/\v<5) :
  ∃ val:yP,cX N N p0 vs p1 p2 p3 p4 p5 p6 row (List.replicate 5 0) true p7 p8 p9 vs (vs.length:Int) 0=some (val,kE vs row,(vs.length:Int))/\val.length=5/\(kE vs row=true->∀ v∈vs,val.getD v.toNat 0=row.getD (e8 vs v).toNat 0):=by
 obtain ⟨⟨val,f,z⟩,e1,_,h1,h2,h3,h4⟩:=Bu (fun k (s:yP × Bool) i=>cX N k p0 vs p1 p2 p3 p4 p5 p6 row s.1 s.2 p7 p8 p9 vs (vs.length:Int) i) (fun k (s:yP × Bool) i=>cX N k p0 vs p1 p2 p3 p4 p5 p6 row s.1 s.2 p7 p8 p9 vs (vs.length:Int) i) vs.length
  (fun i s=>s.1.length=5/\s.2=sM vs row i/\(sM vs row i=true->∀ v∈vs.take i,s.1.getD v.toNat 0=row.getD (e8 vs v).toNat 0))
  (fun v=>v.1.length=5/\v.2.1=kE vs row/\v.2.2=(vs.length:Int)/\(kE vs row=true->∀ w∈vs,v.1.getD w.toNat 0=row.getD (e8 vs w).toNat 0))
  (fun k i s h hI=>by
   obtain ⟨i1,i2,i3⟩:=hI
   have hm:vs[i]∈vs:=bC h
   have hb:=hv _ hm
   obtain ⟨j,hj,hj2⟩:=sH hm
   have hi2:i<row.length:=by omega
   have hj3:j<row.length:=by omega
   have hix:ix s.1 vs[i]=some (s.1[vs[i].toNat]'oa):=nE hb.1 oa
   have hst:sto s.1 vs[i] row[i]=some (s.1.set vs[i].toNat row[i]):=by
    have:=mu (xs:=s.1) (i:=vs[i].toNat) (y:=row[i]) oa
    rw [show ((vs[i].toNat:Nat):Int)=vs[i] by omega] at this
    exact this
   have hfa:yh vs row i=decide (row[j]=row[i]):=by
    unfold yh
    rw [bR h,hj,show ((j:Nat):Int).toNat=j from rfl,bR hj3,bR hi2]
   have step:cX N (k+1) p0 vs p1 p2 p3 p4 p5 p6 row s.1 s.2 p7 p8 p9 vs (vs.length:Int) (i:Int)=cX N k p0 vs p1 p2 p3 p4 p5 p6 row (s.1.set vs[i].toNat row[i]) (sM vs row (i+1)) p7 p8 p9 vs (vs.length:Int) ((i+1:Nat):Int):=by
    rw [cX,dlt h,ah,bc h,bs,wc hN oa,bs,xY,<- i2,hfa]
    cases s.2 with
    | true=>rw [ah,hj,bc hj3,bs,bc hi2,bs,bs,hix,bs,hst,bs,ad1 oa,bs,FR,cN]
    | false=>rw [ak,bc hi2,bs,hix,bs,hst,bs,ad1 oa,bs,lQ]
   refine .inl ⟨(s.1.set vs[i].toNat row[i],sM vs row (i+1)),step,step,by simpa using i1,rfl,fun hf v hvm=>?_⟩
   rw [xY,b9,hfa,dN] at hf
   rw [gx h] at hvm
   by_cases e:v=vs[i]
   ·subst e
    show (s.1.set vs[i].toNat row[i]).getD vs[i].toNat 0=_
    rw [hj,show ((j:Nat):Int).toNat=j from rfl,bR hj3,hf.2,bR (by rw [gF];omega),List.getElem_set_self]
   ·have hmem:v∈vs.take i:=by
     rcases dl.1 hvm with h | h
     ·exact h
     ·simp only [fu] at h;exact absurd h e
    have hbv:=hv v (sx hmem)
    rw [<- i3 hf.1 v hmem]
    show (s.1.set vs[i].toNat row[i]).getD v.toNat 0=_
    rw [bR (by rw [gF];omega),bR oa,List.getElem_set_ne oa])
  (fun k s hI=>by
   obtain ⟨i1,i2,i3⟩:=hI
   have step:cX N (k+1) p0 vs p1 p2 p3 p4 p5 p6 row s.1 s.2 p7 p8 p9 vs (vs.length:Int) (vs.length:Int)=some (s.1,s.2,(vs.length:Int)):=by
    rw [cX,dge oa,ak]
   rw [dx] at i3
   exact ⟨(s.1,s.2,(vs.length:Int)),step,step,i1,i2,rfl,i3⟩) N 0 (List.replicate 5 0,true) oa oa ⟨by simp,rfl,fun _ v hv=>by simp at hv⟩
 refine ⟨val,?_,h1,h4⟩
 have e1':cX N N p0 vs p1 p2 p3 p4 p5 p6 row (List.replicate 5 0) true p7 p8 p9 vs (vs.length:Int) 0=some (val,f,z):=e1
 have h2':f=kE vs row:=h2
 have h3':z=(vs.length:Int):=h3
 rw [e1',h2',h3']
end
theorem Ii {n:Nat} {v:Int}:v∈tE n↔0<=v/\v<n:=by
 unfold tE
 rw [fm]
 constructor
 ·rintro ⟨i,hi,rfl⟩
  simp at hi;omega
 ·rintro ⟨h0,h1⟩
  exact ⟨v.toNat,by simp;omega,oa⟩
theorem pZ {vs:yP} {v:Int}:v∈bD vs↔(0<=v/\v<5)/\v∈vs:=by
 unfold bD
 rw [mF,Ii,dN];rfl
def s9 (vs row:yP) (i:Nat):yP:=((bD vs).take i).map fun v=>row.getD (e8 vs v).toNat 0
theorem HM (vs row:yP) (i:Nat):(s9 vs row i).length<=5:=by
 have:=jk vs
 unfold s9;rw [cB,cq];omega
theorem rF (vs row:yP):(fQ vs row).length=(bD vs).length:=by simp [fQ]
section
variable {N:Nat}
theorem L0 (hN:1073741824<=N) {p0:ByteArray} {vs row:yP} {p1 p4 p6:Int} {p2 rows p5 p7:be} {r:Nat} (hr:r<rows.length) (hrow:rows[r]=row) (hl:row.length=vs.length) (h5:vs.length<=1000) :
  eZ N N p0 vs p1 p2 (bD vs) p4 rows p6 p5 p7 (r:Int) [] 0=some (fQ vs row,((bD vs).length:Int)):=by
 have hv5:=jk vs
 have h:=dU (fun k (s:yP) i=>eZ N k p0 vs p1 p2 (bD vs) p4 rows p6 p5 p7 (r:Int) s i) (bD vs).length (s9 vs row) (fQ vs row,((bD vs).length:Int))
  (fun k i h=>by
   have hm:(bD vs)[i]∈vs:=(pZ.1 (bC h)).2
   obtain ⟨j,hj,hj2⟩:=sH hm
   have hj3:j<row.length:=by omega
   have hlen:=HM vs row i
   have hs:s9 vs row i++[row[j]]=s9 vs row (i+1):=by
    unfold s9;rw [gx h,fv]
    simp only [gd,nZ,hj]
    rw [show ((j:Nat):Int).toNat=j from rfl,bR hj3]
   show eZ N (k+1) p0 vs p1 p2 (bD vs) p4 rows p6 p5 p7 (r:Int) (s9 vs row i) (i:Int)=_
   rw [eZ,dlt h,ah,bc hr,bs,bc h,bs,nI hN oa,bs,hrow,hj,bc hj3,bs,bt (by decide) (by simp;omega),bs,ad1 oa,bs,hs])
  (fun k=>by
   show eZ N (k+1) p0 vs p1 p2 (bD vs) p4 rows p6 p5 p7 (r:Int) (s9 vs row (bD vs).length) ((bD vs).length:Int)=_
   rw [eZ,dge oa,ak]
   unfold s9 fQ;rw [dx]) N 0 oa oa
 exact h
theorem KT (hN:1073741824<=N) {p0:ByteArray} {vs row:yP} {p1 p4 p6:Int} {p2 rows p5 p7:be} {r:Nat} (hr:r<rows.length) (hrow:rows[r]=row) (hl:row.length=vs.length) (h5:vs.length<=1000) (hv:∀ v∈vs,0<=v/\v<5) :
  dc N N p0 vs p1 p2 (bD vs) p4 rows p6 p5 p7 (r:Int) (fQ vs row) true 0=some (kE vs row,(vs.length:Int)):=by
 have hv5:=jk vs
 have h:=dU (fun k (s:Bool) i=>dc N k p0 vs p1 p2 (bD vs) p4 rows p6 p5 p7 (r:Int) (fQ vs row) s i) vs.length (sM vs row) (kE vs row,(vs.length:Int))
  (fun k i h=>by
   have hm:vs[i]∈vs:=bC h
   have hmv:vs[i]∈bD vs:=pZ.2 ⟨hv _ hm,hm⟩
   obtain ⟨j,hj,hj2⟩:=sH hm
   have hj3:j<row.length:=by omega
   have hi2:i<row.length:=by omega
   have hex:∃ q:Nat,∃ hq:q<(bD vs).length,(bD vs)[q]=vs[i]/\e8 (bD vs) vs[i]=(q:Int):=by
    rcases te (bD vs) vs[i] with ⟨h1,_⟩ | ⟨q,hq,e1,e2,_⟩
    ·exact absurd hmv h1
    ·exact ⟨q,hq,e1,e2⟩
   obtain ⟨q,hq,hq1,hq2⟩:=hex
   have hq3:q<(fQ vs row).length:=by rw [rF];exact hq
   have hval:(fQ vs row)[q]=row[j]:=by
    have e:(fQ vs row)[q]=row.getD (e8 vs (bD vs)[q]).toNat 0:=by simp only [fQ,jC]
    rw [e,hq1,hj,show ((j:Nat):Int).toNat=j from rfl,bR hj3]
   have hfa:yh vs row i=decide (row[j]=row[i]):=by
    unfold yh
    rw [bR h,hj,show ((j:Nat):Int).toNat=j from rfl,bR hj3,bR hi2]
   show dc N (k+1) p0 vs p1 p2 (bD vs) p4 rows p6 p5 p7 (r:Int) (fQ vs row) (sM vs row i) (i:Int)=_
   rw [dc,dlt h,ah,bc h,bs,nI hN oa,bs,hq2,xY,hfa]
   cases sM vs row i with
   | true=>rw [ah,ba oa,ah,bc hq3,bs,bc hr,bs,hrow,bc hi2,bs,ad1 oa,bs,hval,FR,cN]
   | false=>rw [ak,ad1 oa,bs,lQ])
  (fun k=>by
   show dc N (k+1) p0 vs p1 p2 (bD vs) p4 rows p6 p5 p7 (r:Int) (fQ vs row) (sM vs row vs.length) (vs.length:Int)=_
   rw [dc,dge oa,ak];rfl) N 0 oa oa
 exact h
end
def cS (vs:yP) (rows:be):be:=(rows.filter (kE vs)).map (fQ vs)
theorem wQ {vs:yP} {rows:be} {i:Nat} (h:i<rows.length):cS vs (rows.take (i+1))=bif kE vs rows[i] then cS vs (rows.take i)++[fQ vs rows[i]] else cS vs (rows.take i):=by
 unfold cS
 rw [gx h,vi,fv]
 cases hf:kE vs rows[i] <;> simp [hf]
theorem lW (vs:yP) (rows:be):(cS vs rows).length<=rows.length:=by
 unfold cS;rw [cB];exact rT _ _
section
variable {N:Nat}
theorem KV (hN:1073741824<=N) {s:ByteArray} {vs:yP} {rows:be} {vl:Int} (hlen:∀ i (h:i<rows.length),rows[i].length=vs.length) (h5:vs.length<=1000) (hv:∀ v∈vs,0<=v/\v<5) (hr:rows.length<=1048576) :
  dY N N s vs 0 [] (bD vs) vl [] [] rows (rows.length:Int) 0=some (cS vs rows,(rows.length:Int)):=by
 have hv5:=jk vs
 have h:=dU (fun k (o:be) i=>dY N k s vs 0 [] (bD vs) vl [] o rows (rows.length:Int) i) rows.length (fun i=>cS vs (rows.take i)) (cS vs rows,(rows.length:Int))
  (fun k i h=>by
   obtain ⟨val,e,hl,hval⟩:=K6 (N:=N) hN (p0:=s) (vs:=vs) (row:=rows[i]) (p3:=bD vs) (p1:=0) (p4:=vl) (p8:=(rows.length:Int)) (p9:=(i:Int)) (p2:=[]) (p5:=[]) (p6:=cS vs (rows.take i)) (p7:=rows) (hlen i h) h5 hv
   have hbl:=lW vs (rows.take i)
   rw [cq] at hbl
   show dY N (k+1) s vs 0 [] (bD vs) vl [] (cS vs (rows.take i)) rows (rows.length:Int) (i:Int)=_
   rw [dY,dlt h,ah,bc h,bs,show (5:Int)=((5:Nat):Int) from rfl,wa (by decide) (by decide),bs,e,bs,lpB,wQ h]
   show (bif kE vs rows[i] then _ else _)=_
   cases hf:kE vs rows[i] with
   | true =>
    have hp:dZ val (bD vs)=fQ vs rows[i]:=by
     unfold dZ fQ
     exact vE fun v hvm=>hval hf v (pZ.1 hvm).2
    rw [ah,ah,Fw hN oa (fun c hc=>by have:=(pZ.1 hc).1;omega),bs,hp,bt (by decide) (by simp;omega),bs,ad1 oa,bs]
   | false=>rw [ak,ak,ad1 oa,bs])
  (fun k=>by
   show dY N (k+1) s vs 0 [] (bD vs) vl [] (cS vs (rows.take rows.length)) rows (rows.length:Int) (rows.length:Int)=_
   rw [dY,dge oa,ak,dx]) N 0 oa oa
 exact h
theorem Lw (hN:1073741824<=N) {s:ByteArray} {vs:yP} {rows:be} {vl ar:Int} (hlen:∀ i (h:i<rows.length),rows[i].length=vs.length) (h5:vs.length<=1000) (hv:∀ v∈vs,0<=v/\v<5) (hr:rows.length<=1048576) :
  eh N N s vs 0 [] (bD vs) ar rows vl [] [] 0=some (cS vs rows,(rows.length:Int)):=by
 have hv5:=jk vs
 have h:=dU (fun k (o:be) i=>eh N k s vs 0 [] (bD vs) ar rows vl [] o i) rows.length (fun i=>cS vs (rows.take i)) (cS vs rows,(rows.length:Int))
  (fun k i h=>by
   have hbl:=lW vs (rows.take i)
   rw [cq] at hbl
   show eh N (k+1) s vs 0 [] (bD vs) ar rows vl [] (cS vs (rows.take i)) (i:Int)=_
   rw [eh,dlt h,ah,L0 hN h rfl (hlen i h) h5,bs,lpB]
   show (dc N N s vs 0 [] (bD vs) ar rows vl [] (cS vs (rows.take i)) (i:Int) (fQ vs rows[i]) true 0).bind _=_
   rw [KT hN h rfl (hlen i h) h5 hv,bs,lpB,wQ h]
   show (bif kE vs rows[i] then _ else _)=_
   cases hf:kE vs rows[i] with
   | true=>rw [ah,ah,bt (by decide) (by simp;omega),bs,ad1 oa,bs]
   | false=>rw [ak,ak,ad1 oa,bs])
  (fun k=>by
   show eh N (k+1) s vs 0 [] (bD vs) ar rows vl [] (cS vs (rows.take rows.length)) (rows.length:Int)=_
   rw [eh,dge oa,ak,dx]) N 0 oa oa
 exact h
end
theorem oQ {n:Int} {rows:be} (h0:0<=n/\n<=5) (hl:rows.length<=4000) (hf:∀ r∈rows,(r.length:Int)=n/\cn r=true):np n rows=((n,dP 20 rows),true):=by
 have hfit:ro n rows=true:=by
  unfold ro
  rw [dQ]
  intro r hr
  rw [ba (hf r hr).1,(hf r hr).2];rfl
 have hlen:=il 20 rows
 have hasc:=um 20 rows oa
 have hv:bM n (dP 20 rows)=true:=by
  unfold bM
  rw [b9,b9,dN,dQ]
  refine ⟨⟨cA.2 h0,oa⟩,fun i hi=>?_⟩
  have hi':i<(dP 20 rows).length:=by simp at hi;omega
  obtain ⟨g1,g2⟩:=hf _ (lB 20 rows _ (bC hi'))
  unfold tc
  rw [iY hi',ba g1,g2,cN,cN]
  cases i with
  | zero=>rfl
  | succ i =>
   rw [sa,iY oa]
   have:=ug.1 hasc i (i+1) oa hi' oa
   rw [ba this,Bool.or_true]
 unfold np
 rw [hfit,hv];rfl
theorem xO {vs row:yP} (h:cn row=true) (hl:row.length=vs.length):cn (fQ vs row)=true:=by
 unfold cn at *
 rw [dQ] at *
 intro x hx
 unfold fQ at hx
 obtain ⟨v,hv,rfl⟩:=fm.1 hx
 obtain ⟨j,hj,hj2⟩:=sH (pZ.1 hv).2
 rw [hj,show ((j:Nat):Int).toNat=j from rfl,bR oa]
 exact h _ (bC _)
section
variable {N:Nat}
theorem Jq {a:yP} (ha:iy a) {n m:Int} (hm:0<m):∀ (d k:Nat) (acc:yP) (p h:Int),dD a p->acc.length+d=n.toNat->d<k->n<=1048576->(∀ v∈acc,0<=v/\v<m) ->
  ∃ q g row,mt N k a p h n m acc=some (q,g,row)/\dD a q/\row.length=n.toNat/\∀ v∈row,0<=v/\v<m:=by
 intro d
 induction d with
 | zero =>
  intro k acc p h hc hd hk _ hv
  obtain ⟨k,rfl⟩:∃ g,k=g+1:=⟨k-1,oa⟩
  rw [mt,bf (show ¬ (acc.length:Int)<n by omega),ak]
  exact ⟨_,_,_,rfl,hc,oa,hv⟩
 | succ d ih =>
  intro k acc p h hc hd hk hn hv
  obtain ⟨k,rfl⟩:∃ g,k=g+1:=⟨k-1,oa⟩
  obtain ⟨x,q,g,e,b0,b1,_,hc'⟩:=dp (N:=N) ha (h:=h) (n:=m) hc
  rw [mt,ba (show (acc.length:Int)<n by omega),ah,e,bs]
  dsimp only
  rw [bt (by decide) (by simp;omega),bs]
  refine ih k _ q g hc' (by simp;omega) oa hn fun v hv'=>?_
  rcases dl.1 hv' with h | h
  ·exact hv v h
  ·rw [fu] at h;rw [h];exact ⟨b0,b1 hm⟩
theorem Bm (hN:1073741824<=N) {a:yP} (ha:iy a) {p h n m:Int} (hc:dD a p) (hm:0<m) (hn:n<=1048576) :
  ∃ row q g,oY N a p h n m=some (row,q,g)/\dD a q/\row.length=n.toNat/\∀ v∈row,0<=v/\v<m:=by
 obtain ⟨q,g,row,e,h1,h2,h3⟩:=Jq (N:=N) ha (n:=n) hm n.toNat N [] p h hc (by simp) oa hn (by simp)
 unfold oY
 rw [e]
 exact ⟨row,q,g,rfl,h1,h2,h3⟩
theorem KA (hN:1073741824<=N) {a:yP} (ha:iy a) {n m y:Int} {z:be} (hm:0<m) (hn:n<=1048576):∀ (d k:Nat) (acc:be) (p h c:Int),dD a p->c.toNat=d->c<=1048576->d<k->acc.length+d<=1048576->(∀ r∈acc,r.length=n.toNat/\∀ v∈r,0<=v/\v<m) ->
  ∃ q g rows c',mq N k a p h n m y z acc c=some (q,g,rows,c')/\dD a q/\rows.length<=acc.length+d/\∀ r∈rows,r.length=n.toNat/\∀ v∈r,0<=v/\v<m:=by
 intro d
 induction d with
 | zero =>
  intro k acc p h c hc hd _ hk hl hv
  obtain ⟨k,rfl⟩:∃ g,k=g+1:=⟨k-1,oa⟩
  rw [mq,bf (show ¬ 0<c by omega),ak]
  exact ⟨_,_,_,_,rfl,hc,oa,hv⟩
 | succ d ih =>
  intro k acc p h c hc hd hcc hk hl hv
  obtain ⟨k,rfl⟩:∃ g,k=g+1:=⟨k-1,oa⟩
  obtain ⟨row,q,g,e,hc',h2,h3⟩:=Bm hN ha (h:=h) (n:=n) hc hm hn
  rw [mq,ba (show 0<c by omega),ah,e,bs]
  dsimp only
  rw [bt (by decide) (by simp;omega),bs,dO oa oa,bs]
  obtain ⟨q',g',rows,c',e',k1,k2,k3⟩:=ih k (acc++[row]) q g (c-1) hc' oa oa oa (by simp;omega) fun r hr=>by
   rcases dl.1 hr with h | h
   ·exact hv r h
   ·rw [fu] at h;rw [h];exact ⟨h2,h3⟩
  exact ⟨q',g',rows,c',e',k1,by simp at k2;omega,k3⟩
theorem wK (hM:1073742848<=N) {a:yP} (ha:iy a) {p h n m y:Int} (hc:dD a p) (hm:0<m/\m<=100) (hn:0<=n/\n<=5) (hy:0<=y/\y<=100) :
  ∃ rows q g,nJ N a p h n y m=some ((n,rows),q,g)/\dD a q/\(rows.length:Int)<=y/\∀ r∈rows,(r.length:Int)=n/\∀ v∈r,0<=v/\v<m:=by
 have hN:1073741824<=N:=by omega
 obtain ⟨x,q,g,e,b0,b1,_,hc'⟩:=dp (N:=N) ha (h:=h) (n:=y+1) hc
 have b1:=b1 oa
 obtain ⟨q',g',rows,c',e',k1,k2,k3⟩:=KA hN ha (n:=n) (m:=m) (y:=0) (z:=[]) hm.1 oa x.toNat N [] q g x hc' rfl oa oa (by simp;omega) (by simp)
 unfold nJ
 rw [cO oa oa,bs,e,bs]
 dsimp only
 rw [e']
 simp only [fN,fh] at k2
 have hf:∀ r∈rows,(r.length:Int)=n/\cn r=true:=fun r hr=>by
  have:=k3 r hr
  refine ⟨oa,?_⟩
  unfold cn
  refine dQ.2 fun v hv=>?_
  have:=this.2 v hv
  unfold inR
  simp only [b9,dN]
  omega
 have hok:gg rows:=⟨oa,fun r hr=>⟨by have:=(k3 r hr).1;omega,fun _ _=>trivial⟩⟩
 rw [bs]
 unfold lpB
 dsimp only
 rw [jZ hM hok,bs,oQ hn oa hf]
 have hsl:=il 20 rows
 refine ⟨dP 20 rows,q',g',rfl,k1,oa,fun r hr=>?_⟩
 have hr':=lB 20 rows r hr
 exact ⟨(hf r hr').1,(k3 r hr').2⟩
def CV (r:Int × be):Prop:=(-1<=r.1/\r.1<=6)/\r.2.length<=7/\∀ w∈r.2,w.length<=6/\∀ v∈w,-1<=v/\v<=100
theorem FO (hM:1073742848<=N) {a:yP} (ha:iy a) {p h:Int} (hc:dD a p):∃ r q g,qT N a p h=some (r,q,g)/\dD a q/\CV r:=by
 have hN:1073741824<=N:=by omega
 obtain ⟨n,q,g,e,b0,b1,_,hc1⟩:=dp (N:=N) ha (h:=h) (n:=4) hc
 have b1:=b1 (by decide)
 obtain ⟨rows,q2,g2,e2,hc2,hl,hr⟩:=wK hM ha (h:=g) (n:=n) (m:=4) (y:=6) hc1 (by decide) oa (by decide)
 obtain ⟨s,q3,g3,e3,_,_,_,hc3⟩:=dp (N:=N) ha (h:=g2) (n:=14) hc2
 have hsm:∀ w∈rows,w.length<=6/\∀ v∈w,-1<=v/\v<=100:=fun w hw=>by
  have:=hr w hw
  exact ⟨oa,fun v hv=>by have:=this.2 v hv;omega⟩
 have base:CV (n,rows):=⟨⟨by show -1<=n;omega,by show n<=6;omega⟩,by show rows.length<=7;omega,hsm⟩
 unfold qT
 rw [e,bs]
 dsimp only
 rw [e2,bs]
 dsimp only
 rw [e3,bs]
 dsimp only
 cases h0:(s == 0)
 ·rw [ak]
  cases h1:(s == 1)
  ·rw [ak]
   cases h2:(s == 2)
   ·exact ⟨_,_,_,rfl,hc3,base⟩
   ·rw [ah]
    by_cases hp:0<rows.length
    ·rw [ba (show (0:Int)<(rows.length:Int) by omega),ah]
     by_cases hn:0<n
     ·have hm0:=hr _ (bC hp)
      have hm1:=hsm _ (bC hp)
      have hp0:0<rows[0].length:=by omega
      obtain ⟨x,q4,g4,e4,hx,hc4⟩:=lG (N:=N) ha (h:=g3) hc3 (l:=[(-1),100,99]) (by decide)
      have i0:ix rows 0=some rows[0]:=bc hp
      have i1:ix rows[0] 0=some rows[0][0]:=bc hp0
      have s1:sto rows[0] 0 x=some (rows[0].set 0 x):=mu hp0
      have s2:sto rows 0 (rows[0].set 0 x)=some (rows.set 0 (rows[0].set 0 x)):=mu hp
      have hxb:-1<=x/\x<=100:=by
       simp only [cp,pq,sA] at hx
       omega
      rw [ba hn,ah,i0,bs,e4,bs,i1,bs,s1,bs,s2,bs]
      refine ⟨_,_,_,rfl,hc4,⟨base.1,by show (rows.set 0 _).length<=7;rw [gF];omega,fun w hw=>?_⟩⟩
      rcases tR hw with h | h
      ·exact hsm w h
      ·subst h
       refine ⟨by rw [gF];exact hm1.1,fun v hv=>?_⟩
       rcases tR hv with h | h
       ·exact hm1.2 v h
       ·rw [h];exact hxb
     ·rw [bf hn,ak]
      exact ⟨_,_,_,rfl,hc3,base⟩
    ·rw [bf (show ¬ (0:Int)<(rows.length:Int) by omega),ak]
     exact ⟨_,_,_,rfl,hc3,base⟩
  ·rw [ah]
   have hi:imx 0 n=n:=by unfold imx;split <;> omega
   obtain ⟨w,q4,g4,e4,hc4,hw1,hw2⟩:=Bm hN ha (h:=g3) (n:=n) (m:=4) hc3 (by decide) oa
   rw [hi,e4,bs]
   dsimp only
   rw [bt (by decide) (by simp;omega),bs]
   refine ⟨_,_,_,rfl,hc4,base.1,by show (rows++[w]).length<=7;simp;omega,fun v hv=>?_⟩
   rcases dl.1 hv with h | h
   ·exact hsm v h
   ·rw [fu] at h;subst h
    exact ⟨oa,fun v hv=>by have:=hw2 v hv;omega⟩
 ·obtain ⟨x,q4,g4,e4,hx,hc4⟩:=lG (N:=N) ha (h:=g3) hc3 (l:=[(-1),6,n+1]) (Nat.zero_lt_succ _)
  rw [ah,cO oa oa,bs,e4,bs]
  refine ⟨_,_,_,rfl,hc4,⟨?_,base.2⟩⟩
  simp only [cp,pq,sA] at hx
  show -1<=x/\x<=6
  omega
end
def xW (a b:List nM):Prop:=∃ t,b=a++t
theorem xW.refl (a:List nM):xW a a:=⟨[],by simp⟩
theorem xW.trans {a b c:List nM} (h:xW a b) (k:xW b c):xW a c:=by
 obtain ⟨t,rfl⟩:=h;obtain ⟨u,rfl⟩:=k;exact ⟨t++u,by simp⟩
theorem xW.len {a b:List nM} (h:xW a b):a.length<=b.length:=by
 obtain ⟨t,rfl⟩:=h;simp
theorem Ey {ts:List bA} {s:ByteArray} (h:(cl ts s).2=true):bM (cl ts s).1.1 (cl ts s).1.2=true:=by
 unfold cl at h ⊢
 cases hd:pX ts with
 | false=>rw [hd] at h;cases h
 | true =>
  rw [hd,ah] at h
  rw [ah]
  cases hf:ts.find? (fun t=>decide (t.1=s)) with
  | none=>rw [hf] at h;cases h
  | some t =>
   have hm:=AH hf
   obtain ⟨i,hi,rfl⟩:=ip hm
   unfold pX at hd
   rw [b9,dQ] at hd
   have:=hd.2 i (by simp;omega)
   unfold sU at this
   rw [tp hi] at this
   simp only [b9] at this
   exact this.1.1.2
def pT (ts:List bA) (s:ByteArray) (vs:yP):Int × be :=
 bif (cl ts s).2&&decide ((cl ts s).1.1=(vs.length:Int)) then (((bD vs).length:Int),dP 20 (cS vs (cl ts s).1.2)) else (((bD vs).length:Int),[])
theorem qx {vs:yP} {rows:be} {r:yP} (h:r∈cS vs rows):∃ x∈rows,r=fQ vs x:=by
 unfold cS at h
 obtain ⟨x,hx,rfl⟩:=fm.1 h
 exact ⟨x,(mF.1 hx).1,rfl⟩
theorem rG {vs:yP} {rows:be} (hr:rows.length<=1048576):gg (cS vs rows):=by
 refine ⟨Nat.le_trans (lW vs rows) hr,fun r h=>?_⟩
 obtain ⟨x,_,rfl⟩:=qx h
 exact ⟨by rw [rF];have:=jk vs;omega,fun _ _=>trivial⟩
section
variable {N:Nat}
theorem zl {ts:List bA} {s:ByteArray} {vs:yP} (h2:(cl ts s).2=true) (e:(cl ts s).1.1=(vs.length:Int)):(cl ts s).1.2.length<=4000/\∀ i (h:i<(cl ts s).1.2.length),(cl ts s).1.2[i].length=vs.length/\cn (cl ts s).1.2[i]=true:=by
 obtain ⟨_,_,h3,h4⟩:=cD (Ey h2)
 refine ⟨h3,fun i h=>?_⟩
 obtain ⟨g1,g2,_⟩:=h4 i h
 exact ⟨oa,g2⟩
theorem wG (hM:1073742848<=N) {ts:List bA} {s:ByteArray} {vs:yP} (ht:nO ts) (hx:okI vs) (h5:vs.length<=5) (hv:∀ v∈vs,0<=v/\v<5):lh N ts s vs=some (pT ts s vs):=by
 unfold lh pT
 rw [qq oa hx,bs,pN oa ht,bs]
 cases h2:(cl ts s).2 with
 | false=>rfl
 | true =>
  rw [ah,cN]
  by_cases e:(cl ts s).1.1=(vs.length:Int)
  ·obtain ⟨l1,l2⟩:=zl h2 e
   have hcf:(decide ((vs.length:Int)<=5)&&ms 5 vs)=true:=by
    rw [b9,dN]
    refine ⟨oa,?_⟩
    unfold ms
    rw [dQ]
    exact fun c hc=>cA.2 (by have:=hv c hc;omega)
   have hb:=rG (vs:=vs) (rows:=(cl ts s).1.2) oa
   rw [show ((cl ts s).1.1 != (vs.length:Int))=false by simpa using e,ak,wO oa hx.1 oa,bs,hcf,ah,KV oa (fun i h=>(l2 i h).1) oa hv oa,bs,lpB,ba e]
   show (iq N (cS vs (cl ts s).1.2)).bind _=_
   rw [Ci 20 N _ (by have:=hb.1;omega) oa hb,bs]
   rfl
  ·rw [show ((cl ts s).1.1 != (vs.length:Int))=true by simpa using e,ah,bf e];rfl
theorem qF (hM:1073742848<=N) {ts:List bA} {s:ByteArray} {vs:yP} (ht:nO ts) (hx:okI vs) (h5:vs.length<=5) (hv:∀ v∈vs,0<=v/\v<5):jK N ts s vs=some (pT ts s vs):=by
 unfold jK pT
 rw [qf oa hx,bs,pL oa ht,bs]
 cases h2:(cl ts s).2 with
 | false=>rfl
 | true =>
  rw [ah,cN]
  by_cases e:(cl ts s).1.1=(vs.length:Int)
  ·obtain ⟨l1,l2⟩:=zl h2 e
   have hb:=rG (vs:=vs) (rows:=(cl ts s).1.2) oa
   have hv5:=jk vs
   have hbl:=lW vs (cl ts s).1.2
   have hnr:=oQ (n:=((bD vs).length:Int)) (rows:=cS vs (cl ts s).1.2) oa oa (fun r hr=>by
    obtain ⟨x,hxm,rfl⟩:=qx hr
    obtain ⟨i,hi,rfl⟩:=ip hxm
    exact ⟨by rw [rF],xO (l2 i hi).2 (l2 i hi).1⟩)
   rw [show ((cl ts s).1.1 != (vs.length:Int))=false by simpa using e,ak,Lw oa (fun i h=>(l2 i h).1) oa hv oa,bs,lpB,ba e]
   show (eF N ((bD vs).length:Int) (cS vs (cl ts s).1.2)).bind _=_
   rw [jZ hM hb,bs,hnr]
   rfl
  ·rw [show ((cl ts s).1.1 != (vs.length:Int))=true by simpa using e,ah,bf e];rfl
end
theorem wy {n:Nat} {xs:yP} (hn:xs.Nodup) (hl:xs.length=n) (hb:∀ x∈xs,0<=x/\x<n) (v:Int) (h0:0<=v) (h1:v<n):v∈xs:=by
 refine vH fun hv=>?_
 have:=uI n (v :: xs) (lR.2 ⟨hv,hn⟩) (fun x hx=>by
  rcases cp.1 hx with rfl | hx
  ·exact ⟨h0,h1⟩
  ·exact hb x hx)
 rw [bW] at this;omega
theorem xc {xs:yP} (h:xs.Nodup) {i j:Nat} (hi:i<xs.length) (hj:j<xs.length) (e:xs[i]=xs[j]):i=j:=by
 rw [List.Nodup,ug] at h
 rcases Nat.lt_trichotomy i j with hl | hl | hl
 ·exact absurd e (h i j hi hj hl)
 ·exact hl
 ·exact absurd e.symm (h j i hj hi hl)
theorem Ha {xs:yP} {n:Int} (hn:xs.Nodup) (hb:∀ x∈xs,0<=x/\x<=n-1):jX xs n=true:=by
 unfold jX
 rw [dQ]
 intro i hi
 have hi':i<xs.length:=by simpa using hi
 rw [bR hi',b9,xN,Bi]
 refine ⟨cA.2 (hb _ (bC hi')),fun hm=>?_⟩
 obtain ⟨j,hj,e⟩:=List.mem_iff_getElem.1 hm
 rw [vg] at e
 have:=xc hn (by rw [cq] at hj;omega) hi' e
 rw [cq] at hj;omega
theorem Iw {vs:yP} (hn:vs.Nodup) {k:Nat} (h:k<vs.length):e8 vs vs[k]=(k:Int):=by
 rcases te vs vs[k] with ⟨h1,_⟩ | ⟨j,hj,e,h2,_⟩
 ·exact absurd (bC h) h1
 ·rw [h2,xc hn hj h e]
theorem F5 (n:Nat):(tE n).Nodup:=by
 unfold tE
 rw [List.Nodup,List.pairwise_map]
 exact List.Pairwise.imp (fun h=>by omega) (List.pairwise_lt_range' (s:=0) (n:=n))
theorem Es (xs:yP):(bD xs).Nodup:=(F5 5).filter _
theorem vS {vs:yP} {v:Int}:0<=e8 vs v↔v∈vs:=by
 have:=oO vs v
 rw [yc,dN,dN] at this;exact this
theorem GV {vs:yP} {v:Int} (h:v∈vs):e8 vs v<vs.length:=by
 obtain ⟨j,e,hj⟩:=sH h;omega
theorem Et (vars out:yP) (v k:Int):k∈j7 vars out v↔k∈out\/(v∈vars/\e8 vars v=k):=by
 unfold j7
 by_cases h1:v∈vars
 ·rw [ba (vS.2 h1),cN]
  by_cases h2:e8 vars v∈out
  ·rw [ba h2,uY,ak]
   exact ⟨.inl,fun h=>h.elim id fun ⟨_,e⟩=>e ▸ h2⟩
  ·rw [bf h2,rR,ah,dl,fu]
   exact ⟨fun h=>h.imp id fun e=>⟨h1,e.symm⟩,fun h=>h.imp id fun e=>e.2.symm⟩
 ·rw [bf (fun h=>h1 (vS.1 h)),lQ,ak]
  exact ⟨.inl,fun h=>h.elim id fun e=>absurd e.1 h1⟩
theorem CL {vars out:yP} {v:Int} (h:out.Nodup):(j7 vars out v).Nodup:=by
 unfold j7
 by_cases h2:e8 vars v∈out
 ·rw [ba h2,uY,n4,ak];exact h
 ·rw [bf h2,rR,vn]
  cases decide (0<=e8 vars v)
  ·exact h
  ·rw [ah,nw]
   refine ⟨h,by simp,fun a ha b hb=>?_⟩
   rw [fu] at hb
   rintro rfl;exact h2 (hb ▸ ha)
theorem zh (vars:yP):∀ (l out:yP) (k:Int),k∈l.foldl (j7 vars) out↔k∈out\/∃ v∈l,v∈vars/\e8 vars v=k
 | [],out,k=>by simp
 | v :: l,out,k=>by
  rw [tS,zh vars l,Et]
  constructor
  ·rintro ((h | h) | ⟨w,hw,h⟩)
   ·exact .inl h
   ·exact .inr ⟨v,cZ,h⟩
   ·exact .inr ⟨w,dy _ hw,h⟩
  ·rintro (h | ⟨w,hw,h⟩)
   ·exact .inl (.inl h)
   ·rcases cp.1 hw with rfl | hw
    ·exact .inl (.inr h)
    ·exact .inr ⟨w,hw,h⟩
theorem wS (vars:yP):∀ (l out:yP),out.Nodup->(l.foldl (j7 vars) out).Nodup
 | [],_,h=>h
 | _ :: l,_,h=>wS vars l _ (CL h)
theorem wg {xs yL:yP} {n:Nat} (hn:n<=5) (hx:∀ v∈xs,0<=v/\v<n) (ho:jX yL n=true) (hl:yL.length=n):lF (l9 xs yL)=true/\(l9 xs yL).length=(bD xs).length:=by
 obtain ⟨o1,o2⟩:=oi ho
 have hnd:(l9 xs yL).Nodup:=wS _ _ _ List.nodup_nil
 have hmem:∀ k:Int,k∈l9 xs yL↔0<=k/\k<(bD xs).length:=fun k=>by
  unfold l9
  rw [zh]
  constructor
  ·rintro (h | ⟨v,_,h,rfl⟩)
   ·cases h
   ·exact ⟨vS.2 h,GV h⟩
  ·rintro ⟨h0,h1⟩
   have hk:k.toNat<(bD xs).length:=by omega
   have hm:=bC hk
   refine .inr ⟨(bD xs)[k.toNat],?_,hm,by rw [Iw (Es xs) hk];omega⟩
   have:=hx _ (pZ.1 hm).2
   exact wy o1 hl (fun x hx=>by have:=o2 x hx;omega) _ this.1 this.2
 have h5:=jk xs
 have le1:(l9 xs yL).length<=(bD xs).length:=uI _ _ hnd fun k hk=>(hmem k).1 hk
 have le2:(bD xs).length<=(l9 xs yL).length:=by
  refine vH fun hlt=>?_
  have hsub:∀ (m:Nat) (ys:yP),(∀ k:Nat,k<m->(k:Int)∈ys)->m<=ys.length:=by
   intro m
   induction m with
   | zero=>intro ys _;omega
   | succ m ih =>
    intro ys h
    have h1:=ih (ys.erase (m:Int)) fun k hk=>(AY oa).2 (h k oa)
    rw [xl (h m oa)] at h1
    have:=xu (h m oa)
    omega
  exact hlt (hsub _ _ fun k hk=>(hmem k).2 oa)
 have e:(l9 xs yL).length=(bD xs).length:=by omega
 refine ⟨?_,e⟩
 unfold lF
 rw [ba oa,cN]
 exact Ha hnd fun k hk=>by have:=(hmem k).1 hk;omega
theorem ze {n:Int} {rows:be} (h0:0<=n/\n<=5) (hl:rows.length<=4000) (hf:∀ r∈rows,(r.length:Int)=n/\cn r=true):bM n (dP 20 rows)=true:=by
 have h:=oQ h0 hl hf
 unfold np at h
 cases hv:bM n (dP 20 rows) with
 | true=>rfl
 | false=>rw [hv,n4] at h;have:=bh Prod.snd h;cases this
theorem FU {row cols:yP} (h:cn row=true) (hin:∀ c∈cols,0<=c/\c<row.length):cn (dZ row cols)=true:=by
 unfold cn at *
 rw [dQ] at *
 intro x hx
 unfold dZ at hx
 obtain ⟨c,hc,rfl⟩:=fm.1 hx
 have:=hin c hc
 rw [bR oa]
 exact h _ (bC _)
theorem Gg {n:Int} {rows:be} {cols:yP} (hv:bM n rows=true) (hp:lF cols=true) (hl:(cols.length:Int)=n):wj n rows cols=((n,dP 20 (rows.map fun r=>dZ r cols)),true)/\bM n (dP 20 (rows.map fun r=>dZ r cols))=true:=by
 obtain ⟨v1,v2,v3,v4⟩:=cD hv
 have hp':=hp
 unfold lF at hp
 rw [b9,dN] at hp
 obtain ⟨_,o2⟩:=oi hp.2
 have hc:ms n cols=true:=by
  unfold ms;rw [dQ]
  exact fun c hc=>cA.2 (by have:=o2 c hc;omega)
 have hf:∀ r∈rows.map (fun r=>dZ r cols),(r.length:Int)=n/\cn r=true:=fun r hr=>by
  obtain ⟨x,hx,rfl⟩:=fm.1 hr
  obtain ⟨i,hi,rfl⟩:=ip hx
  obtain ⟨g1,g2,_⟩:=v4 i hi
  exact ⟨by rw [sJ];exact hl,FU g2 fun c hc=>by have:=o2 c hc;omega⟩
 have hnr:=oQ ⟨v1,v2⟩ (by rw [cB];exact v3) hf
 refine ⟨?_,ze ⟨v1,v2⟩ (by rw [cB];exact v3) hf⟩
 unfold wj tf
 rw [hp',ba hl,cN,ah,hv,ba hp.1,hc,cN,cN,ah,hl,hnr];rfl
def jR (ts:List bA) (yL:yP) (a:bl):Int × be:=(((bD a.2).length:Int),dP 20 ((dP 20 (cS a.2 (cl ts a.1).1.2)).map fun r=>dZ r (l9 a.2 yL)))
def bJ (ts:List bA) (yL:yP) (yK:List bl):List (Int × be):=yK.map (jR ts yL)
theorem vW {ts:List bA} {s:ByteArray} (h:(cl ts s).2=true):(cl ts s).1.2.length<=16:=by
 unfold cl at h ⊢
 cases hd:pX ts with
 | false=>rw [hd] at h;cases h
 | true =>
  rw [hd,ah] at h
  rw [ah]
  cases hf:ts.find? (fun t=>decide (t.1=s)) with
  | none=>rw [hf] at h;cases h
  | some t =>
   have hm:=AH hf
   obtain ⟨i,hi,rfl⟩:=ip hm
   unfold pX at hd
   rw [b9,dQ] at hd
   have:=hd.2 i (by simp;omega)
   unfold sU at this
   rw [tp hi] at this
   simp only [b9,xN,Bi] at this
   have:=this.2
   show ts[i].2.2.length<=16
   omega
structure QFor (ts:List bA) (n:Nat) (yK:List bl) (yL:yP):Prop where
 n1:1<=n
 n5:n<=5
 ol:yL.length=n
 os:jX yL n=true
 a1:1<=yK.length
 a4:yK.length<=4
 al:∀ a∈yK,a.2.length<=5/\1<=a.2.length/\∀ v∈a.2,0<=v/\v<n
 af:∀ a∈yK,(cl ts a.1).2=true/\(cl ts a.1).1.1=(a.2.length:Int)
 cov:∀ v:Int,0<=v->v<n->∃ a∈yK,v∈a.2
theorem I2 {ts:List bA} {n:Int} {yK:List bl} {out yL:yP} (h1:jI ts n yK out=true) (h2:(yL.length:Int)=n) (h3:jX yL n=true):∃ m:Nat,n=(m:Int)/\QFor ts m yK yL:=by
 unfold jI at h1
 rw [b9,b9,dQ] at h1
 obtain ⟨q,_,q3⟩:=h1
 obtain ⟨n1,n5,a1,a4⟩:=qp q
 unfold fD at q
 simp only [b9,dQ] at q
 obtain ⟨⟨_,qa⟩,qc⟩:=q
 have hm:(n.toNat:Int)=n:=by omega
 refine ⟨n.toNat,hm.symm,⟨oa,oa,oa,hm ▸ h3,oa,oa,fun a ha=>?_,fun a ha=>?_,fun v v0 v1=>?_⟩⟩
 ·have:=qa a ha
  unfold nC at this
  rw [b9,b9,cA,dQ] at this
  exact ⟨oa,oa,fun v hv=>by have:=cA.1 (this.2 v hv);omega⟩
 ·have:=q3 a ha
  unfold og at this
  rw [b9,dN] at this
  exact this
 ·unfold qu at qc
  rw [dQ] at qc
  have:=qc v.toNat (by simp;omega)
  rw [List.any_eq_true] at this
  obtain ⟨a,ha,h⟩:=this
  rw [dN] at h
  exact ⟨a,ha,by rw [show v=((v.toNat:Nat):Int) by omega];exact h⟩
theorem nK {ts:List bA} {n:Nat} {yK:List bl} {yL:yP} (q:QFor ts n yK yL) {a:bl} (ha:a∈yK) :
  pT ts a.1 a.2=(((bD a.2).length:Int),dP 20 (cS a.2 (cl ts a.1).1.2))/\wj (pT ts a.1 a.2).1 (pT ts a.1 a.2).2 (l9 a.2 yL)=(jR ts yL a,true)/\bM (jR ts yL a).1 (jR ts yL a).2=true/\(jR ts yL a).2.length<=16/\bM ((bD a.2).length:Int) (dP 20 (cS a.2 (cl ts a.1).1.2))=true:=by
 obtain ⟨h1,h2⟩:=q.af a ha
 obtain ⟨h3,h4,h5⟩:=q.al a ha
 have e:pT ts a.1 a.2=(((bD a.2).length:Int),dP 20 (cS a.2 (cl ts a.1).1.2)):=by
  unfold pT
  rw [h1,ba h2];rfl
 obtain ⟨p1,p2⟩:=wg q.n5 h5 q.os q.ol
 obtain ⟨_,l2⟩:=zl h1 h2
 have l16:=vW h1
 have hbl:=lW a.2 (cl ts a.1).1.2
 have hv5:=jk a.2
 have hval:bM ((bD a.2).length:Int) (dP 20 (cS a.2 (cl ts a.1).1.2))=true:=ze oa oa fun r hr=>by
  obtain ⟨x,hxm,rfl⟩:=qx hr
  obtain ⟨i,hi,rfl⟩:=ip hxm
  exact ⟨by rw [rF],xO (l2 i hi).2 (l2 i hi).1⟩
 obtain ⟨t1,t2⟩:=Gg hval p1 (by rw [p2])
 refine ⟨e,?_,t2,?_,hval⟩
 ·rw [e];exact t1
 ·have g1:=il 20 ((dP 20 (cS a.2 (cl ts a.1).1.2)).map fun r=>dZ r (l9 a.2 yL))
  have g2:=il 20 (cS a.2 (cl ts a.1).1.2)
  rw [cB] at g1
  exact Nat.le_trans g1 oa
abbrev uu:=Int × be
def DL (ts:List bA) (n:Int) (yK:List bl) (out yL:yP):List uu × Bool :=
 bif jI ts n yK out&&n8 n yK out yL then (bJ ts yL yK,true) else ([],false)
theorem y6 {ts:List bA} {yL:yP} {yK:List bl} {i:Nat} (h:i<yK.length):bJ ts yL (yK.take (i+1))=bJ ts yL (yK.take i)++[jR ts yL yK[i]]:=by
 unfold bJ;rw [gx h,fv];rfl
theorem sX (ts:List bA) (yL:yP) (yK:List bl):(bJ ts yL yK).length=yK.length:=by unfold bJ;rw [cB]
theorem nN {yK:List bl} (ha:c6 yK) {i:Nat} (h:i<yK.length):okI yK[i].2:=(ha.2 _ (bC h)).2
section
variable {N:Nat}
theorem Mv (hM:1073742848<=N) {ts:List bA} {n:Nat} {yK:List bl} {yL:yP} (q:QFor ts n yK yL) (ht:nO ts) (ha:c6 yK) :
  fV N N yL ts [] yK (yK.length:Int) 0=some (bJ ts yL yK,(yK.length:Int)):=by
 have hol:=q.ol
 have hn5:=q.n5
 have ha4:=q.a4
 exact dU (fun k (o:List uu) i=>fV N k yL ts o yK (yK.length:Int) i) yK.length (fun i=>bJ ts yL (yK.take i)) (bJ ts yL yK,(yK.length:Int))
  (fun k i h=>by
   have hm:=bC h
   obtain ⟨g1,g2,g3,g4,g5⟩:=nK q hm
   obtain ⟨l1,l2,l3⟩:=q.al _ hm
   have hv5:=jk yK[i].2
   have hc:=(wg q.n5 l3 q.os q.ol).2
   have hok:gg (pT ts yK[i].1 yK[i].2).2:=by
    rw [g1]
    exact tD 20 (rG (by have:=vW (q.af _ hm).1;omega))
   have htl:=sX ts yL (yK.take i)
   rw [cq] at htl
   show fV N (k+1) yL ts (bJ ts yL (yK.take i)) yK (yK.length:Int) (i:Int)=_
   rw [fV,dlt h,ah,bc h,bs,wG hM ht (nN ha h) l1 (fun v hv=>by have:=l3 v hv;omega),bs,uk oa (nN ha h) oa,bs,y2 hM hok oa,bs,g2,bt (by decide) (by simp;omega),bs,ad1 oa,bs,y6 h])
  (fun k=>by
   show fV N (k+1) yL ts (bJ ts yL (yK.take yK.length)) yK (yK.length:Int) (yK.length:Int)=_
   rw [fV,dge oa,ak,dx]) N 0 oa oa
theorem LM (hM:1073742848<=N) {ts:List bA} {n:Nat} {m:Int} {yK:List bl} {out yL:yP} (q:QFor ts n yK yL) (ht:nO ts) (ha:c6 yK) :
  fU N N yL ts m yK out [] 0=some (.inr (bJ ts yL yK,(yK.length:Int))):=by
 have hol:=q.ol
 have hn5:=q.n5
 have ha4:=q.a4
 exact dU (fun k (o:List uu) i=>fU N k yL ts m yK out o i) yK.length (fun i=>bJ ts yL (yK.take i)) (.inr (bJ ts yL yK,(yK.length:Int)))
  (fun k i h=>by
   have hm:=bC h
   obtain ⟨g1,g2,g3,g4,g5⟩:=nK q hm
   obtain ⟨l1,l2,l3⟩:=q.al _ hm
   have hv5:=jk yK[i].2
   have hc:=(wg q.n5 l3 q.os q.ol).2
   have hok:gg (pT ts yK[i].1 yK[i].2).2:=by
    rw [g1]
    exact tD 20 (rG (by have:=vW (q.af _ hm).1;omega))
   have htl:=sX ts yL (yK.take i)
   rw [cq] at htl
   show fU N (k+1) yL ts m yK out (bJ ts yL (yK.take i)) (i:Int)=_
   rw [fU,dlt h,ah,bc h,bs,bs,qF hM ht (nN ha h) l1 (fun v hv=>by have:=l3 v hv;omega),bs,uh oa (nN ha h) oa,bs,yx hM hok oa,bs,g2,ah,bt (by decide) (by simp;omega),bs,ad1 oa,bs,y6 h])
  (fun k=>by
   show fU N (k+1) yL ts m yK out (bJ ts yL (yK.take yK.length)) (yK.length:Int)=_
   rw [fU,dge oa,ak,dx]) N 0 oa oa
theorem DE {ts:List bA} {n:Int} {yK:List bl} {out yL:yP} (h1:jI ts n yK out=true) (h2:n8 n yK out yL=true):∃ m:Nat,n=(m:Int)/\QFor ts m yK yL:=by
 unfold n8 at h2
 rw [b9,b9,dN] at h2
 exact I2 h1 h2.2.1 h2.2.2
theorem xt (hM:1073742848<=N) {ts:List bA} {n:Int} {yK:List bl} {out yL:yP} (ht:nO ts) (ha:c6 yK) (ho:okI out) (hr:okI yL):mC N ts n yK out yL=some (DL ts n yK out yL):=by
 unfold mC DL
 rw [xa oa ht ha ho,bs]
 cases h1:jI ts n yK out with
 | false=>rfl
 | true =>
  rw [ah,we oa ha ho hr,bs]
  cases h2:n8 n yK out yL with
  | false=>rfl
  | true =>
   obtain ⟨m,rfl,q⟩:=DE h1 h2
   rw [ah,Mv hM q ht ha,bs,lpB];rfl
theorem rP (hM:1073742848<=N) {ts:List bA} {n:Int} {yK:List bl} {out yL:yP} (ht:nO ts) (ha:c6 yK) (ho:okI out) (hr:okI yL):kI N ts n yK out yL=some (DL ts n yK out yL):=by
 unfold kI DL
 rw [rV oa ht ha ho,bs]
 cases h1:jI ts n yK out with
 | false=>rfl
 | true =>
  rw [ah,v9 oa ha ho hr,bs]
  cases h2:n8 n yK out yL with
  | false=>rfl
  | true =>
   obtain ⟨m,rfl,q⟩:=DE h1 h2
   rw [ah,LM hM q ht ha,bs,kt];rfl
theorem Aq {n:Int} {rows:be} (h:bM n rows=true):gg rows:=by
 obtain ⟨h1,h2,h3,h4⟩:=cD h
 refine ⟨oa,fun r hr=>?_⟩
 obtain ⟨i,hi,rfl⟩:=ip hr
 obtain ⟨g1,_⟩:=h4 i hi
 exact ⟨oa,fun _ _=>trivial⟩
end
theorem s8 {α:Type} [DecidableEq α]:∀ (xs ys:List α),xs.Nodup->(∀ x∈xs,x∈ys)->xs.length<=ys.length
 | [],ys,_,_=>dB _
 | x :: xs,ys,hn,h=>by
  obtain ⟨h1,h2⟩:=lR.1 hn
  have hx:=h x cZ
  have:=s8 xs (ys.erase x) h2 fun z hz=>(AY (fun (e:z=x)=>h1 (by rw [e] at hz;exact hz))).2 (h z (dy _ hz))
  rw [xl hx] at this
  have:=xu hx
  rw [bW];omega
theorem Eu:∀ (m:Nat) (a b:be) (r:yP),a.length+b.length<=m->r∈a\/r∈b->r∈cF m a b:=by
 intro m
 induction m with
 | zero =>
  intro a b r hl h
  obtain rfl:a=[]:=li.1 oa
  obtain rfl:b=[]:=li.1 (by simpa using hl)
  simp at h
 | succ m ih =>
  intro a b r hl h
  match a,b with
  | [],[]=>simp at h
  | [],y :: b =>
   rw [cF]
   rcases h with h | h
   ·simp at h
   ·rcases cp.1 h with rfl | h
    ·exact cZ
    ·exact dy _ (ih [] b r (by simp at hl ⊢;omega) (.inr h))
  | x :: a,[] =>
   rw [cF]
   rcases h with h | h
   ·rcases cp.1 h with rfl | h
    ·exact cZ
    ·exact dy _ (ih a [] r (by simp at hl ⊢;omega) (.inl h))
   ·simp at h
  | x :: a,y :: b =>
   simp only [bW] at hl
   rw [cF]
   by_cases h1:bZ x y<0
   ·rw [aZ h1]
    rcases h with h | h
    ·rcases cp.1 h with rfl | h
     ·exact cZ
     ·exact dy _ (ih a (y :: b) r (by simp only [bW];omega) (.inl h))
    ·exact dy _ (ih a (y :: b) r (by simp only [bW];omega) (.inr h))
   ·rw [bb h1]
    by_cases h2:bZ x y=0
    ·rw [aZ h2]
     have e:=lA.1 h2
     rcases h with h | h
     ·rcases cp.1 h with rfl | h
      ·exact cZ
      ·exact dy _ (ih a b r oa (.inl h))
     ·rcases cp.1 h with rfl | h
      ·rw [e];exact cZ
      ·exact dy _ (ih a b r oa (.inr h))
    ·rw [bb h2]
     rcases h with h | h
     ·exact dy _ (ih (x :: a) b r (by simp only [bW];omega) (.inl h))
     ·rcases cp.1 h with rfl | h
      ·exact cZ
      ·exact dy _ (ih (x :: a) b r (by simp only [bW];omega) (.inr h))
theorem Bp:∀ (f:Nat) (rows:be) (r:yP),r∈rows->r∈dP f rows:=by
 intro f
 induction f with
 | zero=>intro rows r h;exact h
 | succ f ih =>
  intro rows r h
  unfold dP
  split
  ·exact h
  ·refine Eu _ _ _ _ ?_ ?_
   ·have h2:=il f (rows.take (rows.length / 2))
    have h3:=il f (rows.drop (rows.length / 2))
    rw [cq] at h2
    rw [jl] at h3
    omega
   ·rw [<- AF (rows.length / 2) rows,dl] at h
    exact h.imp (ih _ _) (ih _ _)
theorem HB (f:Nat) (rows:be) (r:yP):r∈dP f rows↔r∈rows:=⟨lB f rows r,Bp f rows r⟩
theorem zk (x:yP):¬ bZ x x<0:=by rw [sy];decide
theorem Dt:∀ {a b:be},mL a->mL b->(∀ r,r∈a↔r∈b)->a=b
 | [],[],_,_,_=>rfl
 | [],y :: b,_,_,h=>absurd ((h y).2 cZ) (by simp)
 | x :: a,[],_,_,h=>absurd ((h x).1 cZ) (by simp)
 | x :: a,y :: b,ha,hb,h=>by
  obtain ⟨a1,a2⟩:=jD.1 ha
  obtain ⟨b1,b2⟩:=jD.1 hb
  have e:x=y:=by
   rcases cp.1 ((h x).1 cZ) with e | hx
   ·exact e
   ·rcases cp.1 ((h y).2 cZ) with e | hy
    ·exact e.symm
    ·exact absurd (lu (b1 x hx) (a1 y hy)) (zk y)
  subst e
  rw [Dt a2 b2 fun r=>?_]
  constructor
  ·intro hr
   rcases cp.1 ((h r).1 (dy _ hr)) with rfl | h'
   ·exact absurd (a1 r hr) (zk r)
   ·exact h'
  ·intro hr
   rcases cp.1 ((h r).2 (dy _ hr)) with rfl | h'
   ·exact absurd (b1 r hr) (zk r)
   ·exact h'
theorem AN {rows:be} (hl:rows.length<=1048576) (h:mL rows):dP 20 rows=rows:=Dt (um 20 rows oa) h fun r=>HB 20 rows r
theorem rz {n:Int} {rows:be} (h:bM n rows=true):mL rows:=by
 rw [mL,ug]
 exact fun i j hi hj hij=>CK h i j hij hj
theorem ED {n:Int} {rows:be} (h0:0<=n/\n<=5) (hl:rows.length<=1048576) (hf:∀ r∈rows,(r.length:Int)=n/\cn r=true) (ha:mL rows):np n rows=bif decide ((rows.length:Int)<=4000) then ((n,rows),true) else mU:=by
 by_cases h:rows.length<=4000
 ·rw [ba oa,ah,oQ h0 h hf,AN hl ha]
 ·rw [bf oa,ak]
  unfold np
  rw [AN hl ha]
  cases hv:bM n rows with
  | true=>have:=(cD hv).2.2.1;omega
  | false=>rw [n4,ak]
theorem xj {α:Type} (L:Nat->Int->Option Int) (xs:List α) (f:α->Bool)
  (hstep:∀ k i (h:i<xs.length),L (k+1) (i:Int)=bif f xs[i] then L k ((i+1:Nat):Int) else some (i:Int)) (hend:∀ k,L (k+1) (xs.length:Int)=some (xs.length:Int)) :
  ∀ k i,i<=xs.length->xs.length-i<k->L k (i:Int)=some ((i+((xs.drop i).takeWhile f).length:Nat):Int):=by
 intro k
 induction k with
 | zero=>intro i hi hk;omega
 | succ k ih =>
  intro i hi hk
  by_cases h:i<xs.length
  ·rw [hstep k i h,gH h,pg]
   cases f xs[i] with
   | true=>rw [ah,ih (i+1) oa oa,aZ rfl,bW];congr 2;omega
   | false=>rw [ak,bb (by decide)];rfl
  ·obtain rfl:i=xs.length:=by omega
   rw [hend k,List.drop_length];rfl
theorem tO {α:Type} (f:α->Bool) (xs:List α):(xs.takeWhile f).length<=xs.length:=(List.takeWhile_prefix f).length_le
def fz (rows:be) (p:yP):be:=rows.filter fun r=>decide (r.take p.length=p)
def cP (p r:yP):Int:=bZ (r.take p.length) p
def loP (rows:be) (p:yP):Nat:=(rows.takeWhile fun r=>decide (cP p r<0)).length
def hiP (rows:be) (p:yP):Nat:=loP rows p+((rows.drop (loP rows p)).takeWhile fun r=>cP p r == 0).length
theorem DS (rows:be) (p:yP):loP rows p<=rows.length:=tO _ _
theorem GY (rows:be) (p:yP):hiP rows p<=rows.length:=by
 have h1:=DS rows p
 have h2:=tO (fun r=>cP p r == 0) (rows.drop (loP rows p))
 rw [jl] at h2
 unfold hiP;omega
theorem EU (rows:be) (p:yP):loP rows p<=hiP rows p:=Nat.le_add_right _ _
theorem Cy:∀ (n:Nat) (a b:yP),bZ a b<0->bZ (a.take n) (b.take n)<=0
 | 0,a,b,_=>by rw [xy,xy];decide
 | n+1,[],[],h=>absurd h (by decide)
 | n+1,[],y :: b,_=>by rw [List.take_nil,vG,bZ];decide
 | n+1,x :: a,[],h=>absurd h (by rw [bZ];decide)
 | n+1,x :: a,y :: b,h=>by
  rw [vG,vG]
  unfold bZ at h ⊢
  by_cases h1:x<y
  ·rw [aZ h1];decide
  ·rw [bb h1] at h ⊢
   by_cases h2:y<x
   ·rw [aZ h2] at h;exact absurd h (by decide)
   ·rw [bb h2] at h ⊢;exact Cy n a b h
theorem E3 {p a b:yP} (h:bZ a b<0):(cP p b<0->cP p a<0)/\(0<cP p a->0<cP p b):=by
 have ht:=Cy p.length a b h
 have hn:=rx (b.take p.length) p
 have hn2:=rx (a.take p.length) p
 unfold cP
 constructor
 ·intro hb
  by_cases e:bZ (a.take p.length) (b.take p.length)=0
  ·rw [lA.1 e];exact hb
  ·exact lu oa hb
 ·intro ha
  by_cases e:bZ (a.take p.length) (b.take p.length)=0
  ·rw [<- lA.1 e];exact ha
  ·have:=lu (a:=p) (b:=a.take p.length) (c:=b.take p.length) oa oa
   omega
theorem EF {α:Type} {f:α->Bool} {xs:List α} (h:∀ x∈xs,f x=false):xs.filter f=[]:=List.filter_eq_nil_iff.2 fun x hx=>by rw [h x hx];decide
theorem HF {rows:be} (ha:mL rows) (p:yP):(rows.take (hiP rows p)).drop (loP rows p)=fz rows p:=by
 have hc:∀ r:yP,decide (r.take p.length=p)=(cP p r == 0):=fun r=>by unfold cP;rw [Ib]
 have key:∀ {rows:be},mL rows->rows.filter (fun r=>cP p r == 0)=((rows.dropWhile fun r=>decide (cP p r<0)).takeWhile fun r=>cP p r == 0):=by
  intro rows
  induction rows with
  | nil=>intro _;rfl
  | cons r rows ih =>
   intro ha
   obtain ⟨h1,h2⟩:=jD.1 ha
   rw [List.dropWhile_cons]
   by_cases hlt:cP p r<0
   ·rw [aZ (by simpa using hlt),rU,bb (by simp;omega)]
    exact ih h2
   ·rw [bb (by simpa using hlt),pg,rU]
    by_cases h0:cP p r=0
    ·rw [aZ (by simpa using h0),aZ (by simpa using h0),ih h2]
     congr 2
     cases rows with
     | nil=>rfl
     | cons s rows =>
      have hs:¬ cP p s<0:=fun h=>hlt ((E3 (h1 s cZ)).1 h)
      rw [List.dropWhile_cons,bb (by simpa using hs)]
    ·rw [bb (by simpa using h0),bb (by simpa using h0)]
     exact EF fun x hx=>by
      have:=(E3 (p:=p) (h1 x hx)).2 oa
      simp;omega
 have hd:∀ (f:yP->Bool) (rows:be),rows.drop (rows.takeWhile f).length=rows.dropWhile f:=by
  intro f rows
  induction rows with
  | nil=>rfl
  | cons r rows ih =>
   rw [pg,List.dropWhile_cons]
   cases f r with
   | true=>rw [aZ rfl,aZ rfl,bW,List.drop_succ_cons,ih]
   | false=>rw [bb (by decide),bb (by decide)];rfl
 have ht:∀ (f:yP->Bool) (xs:be),xs.take (xs.takeWhile f).length=xs.takeWhile f:=by
  intro f xs
  induction xs with
  | nil=>rfl
  | cons r rows ih =>
   rw [pg]
   cases f r with
   | true=>rw [aZ rfl,bW,vG,ih]
   | false=>rw [bb (by decide)];rfl
 unfold fz hiP
 simp only [hc]
 rw [key ha,List.drop_take,pF,ht]
 unfold loP
 rw [hd]
def iB (n:Nat) (out r:yP):yP:=if out.getLast? = some (r.getD n 0) then out else out++[r.getD n 0]
def s7 (rows:be) (p:yP):yP:=(fz rows p).foldl (iB p.length) []
def mT (n:Int) (rows:be) (p:yP):yP:=if (p.length:Int)<n then s7 rows p else []
theorem EG (n:Nat) (out r:yP):(iB n out r).length<=out.length+1:=by
 unfold iB;split
 ·omega
 ·simp
theorem rE (n:Nat):∀ (rows:be) (out:yP),(rows.foldl (iB n) out).length<=out.length+rows.length
 | [],out=>by simp
 | r :: rows,out=>by
  have h1:=rE n rows (iB n out r)
  have h2:=EG n out r
  rw [tS,bW];omega
theorem Gq (rows:be) (p:yP):(s7 rows p).length<=rows.length:=by
 have h1:=rE p.length (fz rows p) []
 have h2:(fz rows p).length<=rows.length:=rT _ _
 unfold s7
 simp only [fN] at h1;omega
theorem Cf (n:Int) (rows:be) (p:yP):(mT n rows p).length<=rows.length:=by
 unfold mT;split
 ·exact Gq rows p
 ·simp
theorem za (n:Nat) (out r:yP) (v:Int):v∈iB n out r↔v∈out\/v=r.getD n 0:=by
 unfold iB
 split
 ·rename_i h
  have:=List.mem_of_getLast? h
  constructor
  ·exact .inl
  ·rintro (h | rfl)
   ·exact h
   ·exact this
 ·rw [dl,fu]
theorem y4 (n:Nat):∀ (rows:be) (out:yP) (v:Int),v∈rows.foldl (iB n) out↔v∈out\/∃ r∈rows,v=r.getD n 0
 | [],out,v=>by simp
 | r :: rows,out,v=>by
  rw [tS,y4 n rows,za]
  constructor
  ·rintro ((h | h) | ⟨x,hx,h⟩)
   ·exact .inl h
   ·exact .inr ⟨r,cZ,h⟩
   ·exact .inr ⟨x,dy _ hx,h⟩
  ·rintro (h | ⟨x,hx,h⟩)
   ·exact .inl (.inl h)
   ·rcases cp.1 hx with rfl | hx
    ·exact .inl (.inr h)
    ·exact .inr ⟨x,hx,h⟩
theorem uz {rows:be} {p:yP} {v:Int}:v∈s7 rows p↔∃ r∈rows,r.take p.length=p/\v=r.getD p.length 0:=by
 unfold s7 fz
 rw [y4]
 simp only [pq,false_or,mF,dN,and_assoc]
abbrev mS (xs:yP):Prop:=xs.Pairwise (·<·)
theorem FC:∀ (n:Nat) (a b:yP),a.take n=b.take n->n<a.length->n<b.length->bZ a b<0->a.getD n 0<=b.getD n 0
 | _,[],_,_,h,_,_=>absurd h (by simp)
 | _,_ :: _,[],_,_,h,_=>absurd h (by simp)
 | 0,x :: a,y :: b,_,_,_,h=>by
  unfold bZ at h
  show x<=y
  by_cases h1:x<y
  ·omega
  ·rw [bb h1] at h
   by_cases h2:y<x
   ·rw [aZ h2] at h;exact absurd h (by decide)
   ·omega
 | n+1,x :: a,y :: b,e,h1,h2,h=>by
  rw [vG,vG,List.cons.injEq] at e
  unfold bZ at h
  rw [bb oa,bb oa] at h
  simp only [bW] at h1 h2
  exact FC n a b e.2 oa oa h
theorem Hq {xs:yP} {v:Int} (h:mS xs) (hl:xs.getLast? = some v):∀ x∈xs,x<=v:=by
 intro x hx
 obtain ⟨ys,rfl⟩:=List.getLast?_eq_some_iff.1 hl
 rcases dl.1 hx with hx | hx
 ·have:=(uW.1 h).2.2 x hx v (by simp)
  omega
 ·rw [fu] at hx;omega
theorem y7 (n:Nat):∀ (rows:be) (out:yP),mS out->rows.Pairwise (fun a b=>a.getD n 0<=b.getD n 0)->(∀ x∈out,∀ r∈rows,x<=r.getD n 0)->mS (rows.foldl (iB n) out)
 | [],_,h,_,_=>h
 | r :: rows,out,h,hp,hb=>by
  obtain ⟨p1,p2⟩:=jD.1 hp
  rw [tS]
  refine y7 n rows _ ?_ p2 fun x hx s hs=>?_
  ·unfold iB
   split
   ·exact h
   ·rename_i hne
    refine uW.2 ⟨h,vk _ _,fun x hx y hy=>?_⟩
    rw [fu] at hy
    have h1:=hb x hx r cZ
    rcases Classical.em (x=r.getD n 0) with e | e
    ·exfalso
     obtain ⟨w,hw⟩:∃ w,out.getLast? = some w:=by
      cases hq:out.getLast? with
      | none=>rw [List.getLast?_eq_none_iff] at hq;rw [hq] at hx;simp at hx
      | some w=>exact ⟨w,rfl⟩
     have h2:=Hq h hw x hx
     have h3:=hb w (List.mem_of_getLast? hw) r cZ
     exact hne (by rw [hw];congr 1;omega)
    ·omega
  ·rcases (za n out r x).1 hx with hx | rfl
   ·exact hb x hx s (dy _ hs)
   ·exact p1 s hs
theorem Hx {rows:be} {p:yP} (ha:mL rows) (hl:∀ r∈rows,p.length<r.length):mS (s7 rows p):=by
 unfold s7
 refine y7 _ _ _ List.Pairwise.nil ?_ (by simp)
 have h1:(fz rows p).Pairwise fun a b=>bZ a b<0:=List.Pairwise.filter _ ha
 refine List.Pairwise.imp_of_mem (fun {a b} ham hbm h=>?_) h1
 unfold fz at ham hbm
 rw [mF,dN] at ham hbm
 exact FC _ a b (by rw [ham.2,hbm.2]) (hl a ham.1) (hl b hbm.1) h
theorem HI {n:Int} {rows:be} {p:yP} (hv:bM n rows=true):mS (mT n rows p):=by
 obtain ⟨_,_,_,v4⟩:=cD hv
 unfold mT
 split
 ·refine Hx (rz hv) fun r hr=>?_
  obtain ⟨i,hi,rfl⟩:=ip hr
  have:=(v4 i hi).1;omega
 ·exact List.Pairwise.nil
theorem FT {n:Int} {rows:be} {p:yP} (hv:bM n rows=true):∀ v∈mT n rows p,0<=v/\v<=99:=by
 obtain ⟨_,_,_,v4⟩:=cD hv
 intro v h
 unfold mT at h
 split at h
 ·obtain ⟨r,hr,_,e⟩:=uz.1 h
  obtain ⟨i,hi,rfl⟩:=ip hr
  obtain ⟨g1,g2,_⟩:=v4 i hi
  rw [bR oa] at e
  unfold cn at g2
  rw [dQ] at g2
  rw [e];exact cA.1 (g2 _ (bC _))
 ·simp at h
theorem BT {α:Type} {xs:List α} {hi:Nat} (h:hi<=xs.length):slc xs 0 (hi:Int)=some (xs.take hi):=by
 have:=lm (xs:=xs) (dB hi) h
 rw [gD] at this;exact this
theorem ry {n:Int} {rows:be} (hv:bM n rows=true) {i:Nat} (h:i<rows.length):(rows[i].length:Int)=n/\rows[i].length<=5:=by
 obtain ⟨_,v2,_,v4⟩:=cD hv
 have:=(v4 i h).1
 exact ⟨this,oa⟩
section
variable {N:Nat}
theorem Ji (hN:1073741824<=N) {n:Int} {rows:be} {p:yP} (hv:bM n rows=true) (hp:(p.length:Int)<=n):dM N N p n rows (p.length:Int) 0=some (loP rows p:Int):=by
 have hl:=(cD hv).2.2.1
 have h2:=(cD hv).2.1
 have h:=xj (fun k i=>dM N k p n rows (p.length:Int) i) rows (fun r=>decide (cP p r<0))
  (fun k i h=>by
   have:=ry hv h
   show dM N (k+1) p n rows (p.length:Int) (i:Int)=_
   rw [dM,dlt h,ah,bc h,bs,BT oa,bs,md hN (by rw [cq];omega) oa,bs,ad1 oa,bs];rfl)
  (fun k=>by
   show dM N (k+1) p n rows (p.length:Int) (rows.length:Int)=_
   rw [dM,dge oa,ak]) N 0 oa oa
 rw [gD,fh] at h;exact h
theorem Jx (hN:1073741824<=N) {n:Int} {rows:be} {p:yP} (hv:bM n rows=true) (hp:(p.length:Int)<=n):di N N p n rows (p.length:Int) (loP rows p:Int) (loP rows p:Int)=some (hiP rows p:Int):=by
 have hl:=(cD hv).2.2.1
 have h2:=(cD hv).2.1
 have hlo:=DS rows p
 exact xj (fun k i=>di N k p n rows (p.length:Int) (loP rows p:Int) i) rows (fun r=>cP p r == 0)
  (fun k i h=>by
   have:=ry hv h
   show di N (k+1) p n rows (p.length:Int) (loP rows p:Int) (i:Int)=_
   rw [di,dlt h,ah,bc h,bs,BT oa,bs,md hN (by rw [cq];omega) oa,bs,ad1 oa,bs];rfl)
  (fun k=>by
   show di N (k+1) p n rows (p.length:Int) (loP rows p:Int) (rows.length:Int)=_
   rw [di,dge oa,ak]) N (loP rows p) hlo oa
theorem Kl (hN:1073741824<=N) {n:Int} {rows:be} {p:yP} (hv:bM n rows=true) (hp:(p.length:Int)<=n):dK N N p n rows 0=some (loP rows p:Int):=by
 have hl:=(cD hv).2.2.1
 have h2:=(cD hv).2.1
 have h:=xj (fun k i=>dK N k p n rows i) rows (fun r=>decide (cP p r<0))
  (fun k i h=>by
   have:=ry hv h
   show dK N (k+1) p n rows (i:Int)=_
   rw [dK,dlt h,ah,bc h,bs,BT oa,bs,iX hN (by rw [cq];omega) oa,bs,ad1 oa,bs];rfl)
  (fun k=>by
   show dK N (k+1) p n rows (rows.length:Int)=_
   rw [dK,dge oa,ak]) N 0 oa oa
 rw [gD,fh] at h;exact h
theorem Jl (hN:1073741824<=N) {n:Int} {rows:be} {p:yP} (hv:bM n rows=true) (hp:(p.length:Int)<=n):dj N N p n rows (loP rows p:Int) (loP rows p:Int)=some (hiP rows p:Int):=by
 have hl:=(cD hv).2.2.1
 have h2:=(cD hv).2.1
 have hlo:=DS rows p
 exact xj (fun k i=>dj N k p n rows (loP rows p:Int) i) rows (fun r=>cP p r == 0)
  (fun k i h=>by
   have:=ry hv h
   show dj N (k+1) p n rows (loP rows p:Int) (i:Int)=_
   rw [dj,dlt h,ah,bc h,bs,BT oa,bs,iX hN (by rw [cq];omega) oa,bs,ad1 oa,bs];rfl)
  (fun k=>by
   show dj N (k+1) p n rows (loP rows p:Int) (rows.length:Int)=_
   rw [dj,dge oa,ak]) N (loP rows p) hlo oa
theorem rc (hN:1073741824<=N) {n:Int} {rows:be} (hr:gg rows):ka N n rows=some (bM n rows):=by
 unfold ka ow
 rw [bs]
 show (dV N n rows).bind _=_
 rw [jQ hN hr,bs]
theorem wZ (hN:1073741824<=N) {n:Int} {rows:be} (hr:gg rows):lL N n rows=some (bM n rows):=by
 unfold lL rA
 rw [bs]
 show (eu N n rows).bind _=_
 rw [jS hN hr,bs]
theorem IQ {α:Type} {n:Nat} {out r:yP} (hl:out.length<=1048576) (hr:n<r.length) {f:yP->Option α} :
  (bif ((out.length:Int) == 0) then (ix r (n:Int)).bind fun x=>(apd 8 out [x]).bind f
   else (sb (out.length:Int) 1).bind fun i=>(ix out i).bind fun y=>(ix r (n:Int)).bind fun x=>bif (y != x) then (ix r (n:Int)).bind fun x=>(apd 8 out [x]).bind f else f out)=f (iB n out r):=by
 rw [bc hr,bs]
 unfold iB
 rw [bR hr]
 rcases List.eq_nil_or_concat out with rfl | ⟨ys,w,rfl⟩
 ·rw [show ((([]:yP).length:Int) == 0)=true from rfl,ah,bt (by decide) (by simp),bs,bb (by simp)]
 ·rw [List.concat_eq_append] at hl ⊢
  rw [cj,bU] at hl
  rw [show (((ys++[w]).length:Int) == 0)=false by simp;omega,ak,dO (by rw [cj,bU];omega) (by rw [cj,bU];omega),bs,show (((ys++[w]).length:Int)-1)=((ys.length:Nat):Int) by simp,bc (by simp),bs,bs]
  rw [List.getElem_concat_length rfl,List.getLast?_append]
  by_cases e:w=r[n]
  ·rw [show (w != r[n])=false by simpa using e,ak,aZ (by simp [e])]
  ·rw [show (w != r[n])=true by simpa using e,ah,bt (by decide) (by simp;omega),bs,bb (by simpa using e)]
theorem GR (rows:be) (p:yP):(fz rows p).length<=rows.length:=rT _ _
theorem Hg {n:Int} {rows:be} {p:yP} (hv:bM n rows=true):∀ r∈fz rows p,(r.length:Int)=n:=by
 intro r hr
 obtain ⟨i,hi,rfl⟩:=ip (mF.1 hr).1
 exact (ry hv hi).1
theorem wq (hN:1073741824<=N) {n:Int} {rows:be} {p:yP} (hv:bM n rows=true):k9 N n rows p=some (mT n rows p):=by
 have hl:=(cD hv).2.2.1
 unfold k9 mT
 by_cases hp:(p.length:Int)<n
 ·rw [bf oa,ak,rc hN (Aq hv),bs,hv,ah,aZ hp]
  unfold lp
  rw [bf oa,ak,rc hN (Aq hv),bs,hv,ah,Ji hN hv oa,bs,lpB,Jx hN hv oa,bs,lpB,bs]
  show (slc rows (loP rows p:Int) (hiP rows p:Int)).bind _=_
  rw [lm (EU rows p) (GY rows p),bs,HF (rz hv)]
  have hwl:=GR rows p
  have h:=dU (fun k (o:yP) i=>df N k (p.length:Int) o (fz rows p) ((fz rows p).length:Int) i) (fz rows p).length (fun i=>((fz rows p).take i).foldl (iB p.length) []) (s7 rows p,((fz rows p).length:Int))
   (fun k i h=>by
    have hk:=rE p.length ((fz rows p).take i) []
    rw [cq,fN] at hk
    have hrow:=Hg hv _ (bC h)
    show df N (k+1) (p.length:Int) _ (fz rows p) ((fz rows p).length:Int) (i:Int)=_
    rw [df,dlt h,ah,bc h,bs,ad1 oa,gx h,xi]
    exact IQ (f:=fun o=>(some ((i+1:Nat):Int)).bind fun x=>df N k (p.length:Int) o (fz rows p) ((fz rows p).length:Int) x) oa oa)
   (fun k=>by
    show df N (k+1) (p.length:Int) _ (fz rows p) ((fz rows p).length:Int) ((fz rows p).length:Int)=_
    rw [df,dge oa,ak,dx];rfl) N 0 oa oa
  have h':df N N (p.length:Int) [] (fz rows p) ((fz rows p).length:Int) 0=_:=h
  rw [h',bs,lpB]
 ·rw [ba oa,ah,bb hp]
theorem B6 {α:Type} {xs:List α} {lo i:Nat} (h1:lo<=i) (h2:i<xs.length):(xs.take (i+1)).drop lo=(xs.take i).drop lo++[xs[i]]:=by
 rw [gx h2,List.drop_append_of_le_length (by rw [cq];omega)]
theorem wh (hN:1073741824<=N) {n:Int} {rows:be} {p:yP} (hv:bM n rows=true):jP N n rows p=some (mT n rows p):=by
 have hl:=(cD hv).2.2.1
 unfold jP lq mT
 rw [wZ hN (Aq hv),bs,hv,ah]
 by_cases hp2:n<(p.length:Int)
 ·rw [ba hp2,ah,bs,bb oa]
  show (bX N N p n rows [] 0 0).bind _=_
  obtain ⟨M,rfl⟩:∃ M,N=M+1:=⟨N-1,oa⟩
  rw [bX];rfl
 ·rw [bf hp2,ak,Kl hN hv oa,bs,lpB,Jl hN hv oa,bs,lpB,bs]
  show (bX N N p n rows [] (hiP rows p:Int) (loP rows p:Int)).bind _=_
  have hlo:=EU rows p
  have hhi:=GY rows p
  by_cases hp:(p.length:Int)<n
  ·rw [aZ hp]
   have h:=dU (fun k (o:yP) i=>bX N k p n rows o (hiP rows p:Int) ((loP rows p:Int)+i)) (hiP rows p-loP rows p) (fun i=>((rows.take (loP rows p+i)).drop (loP rows p)).foldl (iB p.length) []) (s7 rows p,(hiP rows p:Int))
    (fun k i h=>by
     have hi:loP rows p+i<rows.length:=by omega
     have hk:=rE p.length ((rows.take (loP rows p+i)).drop (loP rows p)) []
     rw [jl,cq,fN] at hk
     have hrow:=ry hv hi
     show bX N (k+1) p n rows _ (hiP rows p:Int) ((loP rows p:Int)+(i:Int))=bX N k p n rows (((rows.take (loP rows p+i+1)).drop (loP rows p)).foldl (iB p.length) []) (hiP rows p:Int) ((loP rows p:Int)+((i+1:Nat):Int))
     rw [show (loP rows p:Int)+(i:Int)=((loP rows p+i:Nat):Int) by omega,show (loP rows p:Int)+((i+1:Nat):Int)=((loP rows p+i+1:Nat):Int) by omega]
     rw [bX,dlt oa,ah,ba hp,ah,bc hi,bs,ad1 oa,B6 oa hi,xi]
     have:=IQ (n:=p.length) (out:=((rows.take (loP rows p+i)).drop (loP rows p)).foldl (iB p.length) []) (r:=rows[loP rows p+i]) (f:=fun o=>(some ((loP rows p+i+1:Nat):Int)).bind fun x=>bX N k p n rows o (hiP rows p:Int) x) oa oa
     rw [bc (show p.length<rows[loP rows p+i].length by omega)] at this ⊢
     exact this)
    (fun k=>by
     show bX N (k+1) p n rows (((rows.take (loP rows p+(hiP rows p-loP rows p))).drop (loP rows p)).foldl (iB p.length) []) (hiP rows p:Int) ((loP rows p:Int)+((hiP rows p-loP rows p:Nat):Int))=_
     rw [show (loP rows p:Int)+((hiP rows p-loP rows p:Nat):Int)=(hiP rows p:Int) by omega,bX,dge oa,ak,show loP rows p+(hiP rows p-loP rows p)=hiP rows p by omega,HF (rz hv)];rfl) N 0 oa oa
   have h0:((rows.take (loP rows p+0)).drop (loP rows p)).foldl (iB p.length) []=[]:=by rw [mG,ll (by rw [cq];omega)];rfl
   have h':bX N N p n rows (((rows.take (loP rows p+0)).drop (loP rows p)).foldl (iB p.length) []) (hiP rows p:Int) ((loP rows p:Int)+((0:Nat):Int))=_:=h
   rw [h0,show (loP rows p:Int)+((0:Nat):Int)=(loP rows p:Int) by omega] at h'
   rw [h',bs,lpB]
  ·rw [bb hp]
   obtain ⟨M,rfl⟩:∃ M,N=M+1:=⟨N-1,oa⟩
   rw [bX,bf hp]
   cases decide ((loP rows p:Int)<(hiP rows p:Int)) <;> rfl
end
abbrev Nxt:=yP->yP × Int
def pd (f:Nxt) (p:yP):be:=(f p).1.map fun v=>p++[v]
def nl (f:Nxt) (L:be):Int:=(L.map fun p=>(f p).2).sum
def lw (f:Nxt):Nat->be->Int->be × Int
 | 0,L,c=>(L,c)
 | m+1,L,c=>lw f m (L.flatMap (pd f)) (c+nl f L)
def bO (f:Nxt):Nat->yP->be × Int
 | 0,p=>([p],0)
 | m+1,p=>((f p).1.flatMap fun v=>(bO f m (p++[v])).1,(f p).2+((f p).1.map fun v=>(bO f m (p++[v])).2).sum)
theorem zi {α β:Type} (g:α->List β) (w:β->Int):∀ L:List α,((L.flatMap g).map w).sum=(L.map fun p=>((g p).map w).sum).sum
 | []=>rfl
 | p :: L=>by rw [ue,fv,List.sum_append,zi g w L,gd,t9]
theorem Ej {α:Type} (g h:α->Int):∀ L:List α,(L.map g).sum+(L.map h).sum=(L.map fun p=>g p+h p).sum
 | []=>rfl
 | p :: L=>by
  have:=Ej g h L
  simp only [gd,t9];omega
theorem Ea (f:Nxt):∀ (m:Nat) (L:be) (c:Int),lw f m L c=(L.flatMap fun p=>(bO f m p).1,c+(L.map fun p=>(bO f m p).2).sum)
 | 0,L,c=>by
  have h1:∀ L:be,L.flatMap (fun p=>[p])=L:=fun L=>by induction L with | nil=>rfl | cons p L ih=>rw [ue,ih];rfl
  have h2:∀ L:be,(L.map fun _=>(0:Int)).sum=0:=fun L=>by induction L with | nil=>rfl | cons p L ih=>rw [gd,t9,ih];rfl
  show (L,c)=(L.flatMap (fun p=>[p]),c+(L.map fun _=>(0:Int)).sum)
  rw [h1,h2,sp]
 | m+1,L,c=>by
  rw [lw,Ea f m]
  congr 1
  ·rw [List.flatMap_assoc]
   congr 1
   funext p
   show ((f p).1.map fun v=>p++[v]).flatMap _=(f p).1.flatMap _
   rw [List.flatMap_map]
  ·rw [zi,Int.add_assoc]
   unfold nl
   rw [Ej]
   congr 3
   funext p
   show (f p).2+(((f p).1.map fun v=>p++[v]).map _).sum=(f p).2+((f p).1.map _).sum
   rw [nX];rfl
theorem vX (f:Nxt) (m:Nat):lw f m [[]] 0=bO f m []:=by
 rw [Ea]
 simp
structure NxtOk (f:Nxt):Prop where
 len:∀ p,(f p).1.length<=16
 asc:∀ p,mS (f p).1
 val:∀ p,∀ v∈(f p).1,0<=v/\v<=99
 st0:∀ p,0<=(f p).2
 st1:∀ p,(f p).2<=1000
theorem nH {f:Nxt}:∀ {m:Nat} {p r:yP},r∈(bO f m p).1->∃ s,r=p++s/\s.length=m
 | 0,p,r,h=>⟨[],by rw [mx];exact fu.1 h,rfl⟩
 | m+1,p,r,h=>by
  obtain ⟨v,_,hv⟩:=tX.1 h
  obtain ⟨s,e,hs⟩:=nH hv
  exact ⟨v :: s,by rw [e,gr];rfl,by rw [bW,hs]⟩
theorem AD {f:Nxt} (hf:NxtOk f):∀ {m:Nat} {p r:yP},cn p=true->r∈(bO f m p).1->cn r=true
 | 0,p,r,hp,h=>by
  have e:r=p:=fu.1 h
  rw [e];exact hp
 | m+1,p,r,hp,h=>by
  obtain ⟨v,hv0,hv⟩:=tX.1 h
  refine AD hf ?_ hv
  unfold cn at hp ⊢
  rw [List.all_append,hp,cN]
  have:=hf.val p v hv0
  simp only [xb,List.all_nil,vn]
  exact cA.2 this
theorem DX:∀ (p a b:yP) (v w:Int),v<w->bZ (p++v :: a) (p++w :: b)<0
 | [],a,b,v,w,h=>by
  show bZ (v :: a) (w :: b)<0
  unfold bZ;rw [aZ h];decide
 | x :: p,a,b,v,w,h=>by
  rw [List.cons_append,List.cons_append]
  unfold bZ
  rw [bb oa,bb oa]
  exact DX p a b v w h
theorem CF {f:Nxt} (hf:NxtOk f):∀ (m:Nat) (p:yP),mL (bO f m p).1
 | 0,p=>vk _ _
 | m+1,p=>by
  show mL ((f p).1.flatMap fun v=>(bO f m (p++[v])).1)
  unfold mL
  rw [List.pairwise_flatMap]
  refine ⟨fun v _=>CF hf m _,?_⟩
  refine List.Pairwise.imp (fun {v w} hvw r hr s hs=>?_) (hf.asc p)
  obtain ⟨a,rfl,_⟩:=nH hr
  obtain ⟨b,rfl,_⟩:=nH hs
  rw [gr,gr]
  exact DX p a b v w hvw
theorem mN {α β:Type} {g:α->List β} {k:Nat} (h:∀ x,(g x).length<=k):∀ L:List α,(L.flatMap g).length<=L.length*k
 | []=>by simp
 | p :: L=>by
  have h1:=h p
  have h2:=mN h L
  rw [ue,cj,bW,tL];omega
theorem Dv {f:Nxt} (hf:NxtOk f) (p:yP):(pd f p).length<=16:=by unfold pd;rw [cB];exact hf.len p
theorem AW {α:Type} {g:α->Int} {b:Int} (h0:∀ x,0<=g x) (h1:∀ x,g x<=b):∀ L:List α,0<=(L.map g).sum/\(L.map g).sum<=L.length*b
 | []=>by simp
 | p :: L=>by
  have h2:=AW h0 h1 L
  have h3:=h0 p;have h4:=h1 p
  rw [gd,t9,bW]
  have:((L.length+1:Nat):Int)*b=(L.length:Int)*b+b:=by rw [Int.natCast_add,Int.add_mul];simp
  omega
theorem ql {f:Nxt} (hf:NxtOk f):∀ (m:Nat) (p:yP),(bO f m p).1.length<=16 ^ m
 | 0,p=>by simp [bO]
 | m+1,p=>by
  have h1:=mN (g:=fun v=>(bO f m (p++[v])).1) (fun v=>ql hf m _) (f p).1
  have h2:=ny (16 ^ m) (hf.len p)
  show ((f p).1.flatMap fun v=>(bO f m (p++[v])).1).length<=_
  rw [rN];omega
def qG:Nat->Int
 | 0=>0
 | m+1=>1000+16*qG m
theorem Cc:∀ m,0<=qG m
 | 0=>by decide
 | m+1=>by have:=Cc m;unfold qG;omega
theorem rj {f:Nxt} (hf:NxtOk f):∀ (m:Nat) (p:yP),0<=(bO f m p).2/\(bO f m p).2<=qG m
 | 0,p=>by simp [bO,qG]
 | m+1,p=>by
  have h1:=AW (g:=fun v=>(bO f m (p++[v])).2) (fun v=>(rj hf m _).1) (fun v=>(rj hf m _).2) (f p).1
  have h2:=hf.len p;have h3:=hf.st0 p;have h4:=hf.st1 p
  have h5:(((f p).1.length:Nat):Int)*qG m<=16*qG m:=Int.mul_le_mul_of_nonneg_right oa (Cc m)
  show 0<=(f p).2+_/\(f p).2+_<=1000+16*qG m
  omega
def gz (l:yP) (a:Nat) (v:Int):Nat:=a+((l.drop a).takeWhile fun x=>decide (x<v)).length
theorem zy {l:yP} {a:Nat} {v:Int} (h:a<=l.length):gz l a v<=l.length:=by
 have:=tO (fun x=>decide (x<v)) (l.drop a)
 rw [jl] at this
 unfold gz;omega
theorem EP {f:Int->Bool}:∀ {xs:yP} (h:(xs.takeWhile f).length<xs.length),f (xs[(xs.takeWhile f).length])=false
 | [],h=>absurd h (by simp)
 | x :: xs,h=>by
  cases hf:f x with
  | false =>
   have e:(x :: xs).takeWhile f=[]:=by rw [pg,hf];rfl
   simp only [e,fN,List.getElem_cons_zero];exact hf
  | true =>
   have e:(x :: xs).takeWhile f=x :: xs.takeWhile f:=by rw [pg,hf];rfl
   simp only [e,bW] at h ⊢
   rw [List.getElem_cons_succ]
   exact EP oa
theorem IW {f:Int->Bool}:∀ {xs:yP} {j:Nat} (h:j<xs.length),j<(xs.takeWhile f).length->f xs[j]=true
 | [],_,h,_=>absurd h (by simp)
 | x :: xs,j,h,hj=>by
  cases hf:f x with
  | false =>
   have e:(x :: xs).takeWhile f=[]:=by rw [pg,hf];rfl
   rw [e] at hj;exact absurd hj (by simp)
  | true =>
   have e:(x :: xs).takeWhile f=x :: xs.takeWhile f:=by rw [pg,hf];rfl
   rw [e,bW] at hj
   cases j with
   | zero=>exact hf
   | succ j=>rw [List.getElem_cons_succ];exact IW _ oa
theorem F9 {l:yP} {a:Nat} {v:Int} (h:gz l a v<l.length):v<=l.getD (gz l a v) 0:=by
 unfold gz at h ⊢
 have:=EP (f:=fun x=>decide (x<v)) (xs:=l.drop a) (by rw [jl];omega)
 rw [List.getElem_drop,Bi] at this
 rw [bR h];omega
theorem Ia {l:yP} {a j:Nat} {v:Int} (h:j<l.length) (h1:a<=j) (h2:j<gz l a v):l[j]<v:=by
 unfold gz at h2
 have:=IW (f:=fun x=>decide (x<v)) (xs:=l.drop a) (j:=j-a) (by rw [jl];omega) oa
 rw [List.getElem_drop,dN] at this
 simpa [show a+(j-a)=j by omega] using this
theorem IC {l:yP} {a:Nat} {v:Int} (h:a<l.length) (h1:l[a]<v):a<gz l a v:=by
 unfold gz
 rw [gH h,pg,aZ (by simpa using h1),bW];omega
theorem va {l:yP} (h:mS l) {i j:Nat} (hi:i<j) (hj:j<l.length):l[i]<l[j]:=ug.1 h i j oa hj hi
def o8 (Ls:be) (A:List Nat) (k:Nat):Int:=(Ls.getD k []).getD (A.getD k 0) 0
def lkL (Ls:be) (s:Nat):yP:=Ls.getD (s % Ls.length) []
def lkP (Ls:be) (A:List Nat) (s:Nat):Nat:=A.getD (s % Ls.length) 0
def lkA (Ls:be) (A:List Nat) (most:Int) (s:Nat):Nat:=if (lkL Ls s).getD (lkP Ls A s) 0=most then lkP Ls A s+1 else gz (lkL Ls s) (lkP Ls A s) most
def lkO (Ls:be) (A:List Nat) (most:Int) (out:yP) (s:Nat):yP:=if (lkL Ls s).getD (lkP Ls A s) 0=most then out++[most] else out
def jd (Ls:be):Nat->List Nat->Int->yP->Nat->yP × Nat
 | 0,_,_,out,s=>(out,s)
 | m+1,A,most,out,s =>
  if lkA Ls A most s=(lkL Ls s).length then (lkO Ls A most out s,s+1) else jd Ls m (A.set (s % Ls.length) (lkA Ls A most s)) ((lkL Ls s).getD (lkA Ls A most s) 0) (lkO Ls A most out s) (s+1)
structure LInv (Ls:be) (A:List Nat) (most:Int) (out:yP) (s:Nat):Prop where
 pos:0<Ls.length
 len:A.length=Ls.length
 asc:∀ l∈Ls,mS l
 lt:∀ k,k<Ls.length->A.getD k 0<(Ls.getD k []).length
 cyc:∀ i j,i<=j->j<Ls.length->o8 Ls A ((s+i) % Ls.length)<=o8 Ls A ((s+j) % Ls.length)
 top:o8 Ls A ((s+(Ls.length-1)) % Ls.length)=most
 oasc:mS out
 olt:∀ x∈out,x<most
 ocom:∀ x∈out,∀ l∈Ls,x∈l
 all:∀ x,(∀ l∈Ls,x∈l)->x∈out\/∀ k,k<Ls.length->o8 Ls A k<=x
theorem E1 {s n k:Nat} (hk:k<n):∃ i,i<n/\(s+i) % n=k:=by
 have hr:s % n<n:=Nat.mod_lt _ oa
 by_cases h:s % n<=k
 ·refine ⟨k-s % n,oa,?_⟩
  rw [Nat.add_mod,rZ (a:=k-s % n) oa,show s % n+(k-s % n)=k by omega,rZ hk]
 ·refine ⟨k+n-s % n,oa,?_⟩
  rw [Nat.add_mod,rZ (a:=k+n-s % n) oa,show s % n+(k+n-s % n)=k+n by omega,Nat.add_mod_right,rZ hk]
theorem Ld {s i j n:Nat} (hi:i<j) (hj:j<n):(s+j) % n≠(s+i) % n:=by
 intro e
 have h1:=Nat.div_add_mod (s+j) n
 have h2:=Nat.div_add_mod (s+i) n
 rw [e] at h1
 have h3:n*((s+j) / n)=n*((s+i) / n)+(j-i):=by omega
 rcases Nat.lt_trichotomy ((s+j) / n) ((s+i) / n) with h | h | h
 ·have:=Nat.mul_le_mul_left n (Nat.le_of_lt h);omega
 ·rw [h] at h3;omega
 ·have:=Nat.mul_le_mul_left n (Nat.succ_le_of_lt h)
  rw [Nat.mul_succ] at this;omega
theorem zw {A:List Nat} {k a:Nat} (h:k<A.length):(A.set k a).getD k 0=a:=by simp [h]
theorem B9 {A:List Nat} {k j a:Nat} (h:j≠k):(A.set k a).getD j 0=A.getD j 0:=by
 simp [Bx (sF h)]
theorem jz {Ls:be} {k:Nat} (h:k<Ls.length):Ls.getD k []∈Ls:=by rw [iY h];exact bC h
theorem GN {l:yP} {x:Int} (h:x∈l):∃ j,∃ hj:j<l.length,l[j]=x:=List.mem_iff_getElem.1 h
theorem xq {Ls:be} {A:List Nat} {most:Int} {out:yP} {s:Nat} (I:LInv Ls A most out s) :
  let k:=s % Ls.length
  let l:=lkL Ls s
  let a:=lkP Ls A s
  let a':=lkA Ls A most s
  let out':=lkO Ls A most out s
  k<Ls.length/\a<l.length/\a<a'/\a'<=l.length/\(a'=l.length->mS out'/\∀ x,x∈out'↔∀ l∈Ls,x∈l)/\(¬ a'=l.length->LInv Ls (A.set k a') (l.getD a' 0) out' (s+1)):=by
 intro k l a a' out'
 have hk:k<Ls.length:=Nat.mod_lt _ I.pos
 have hkA:k<A.length:=by rw [I.len];exact hk
 have ha:a<l.length:=I.lt k hk
 have hla:mS l:=I.asc l (jz hk)
 have hkey:o8 Ls A k=l.getD a 0:=rfl
 have hle:l.getD a 0<=most:=by
  have:=I.cyc 0 (Ls.length-1) oa (by have:=I.pos;omega)
  rw [I.top,mG] at this
  exact this
 rw [bR ha] at hle
 -- the new place
 have hgt:a<a':=by
  show a<if l.getD a 0=most then a+1 else gz l a most
  split
  ·omega
  ·rename_i h;rw [bR ha] at h;exact IC ha oa
 have hle':a'<=l.length:=by
  show (if l.getD a 0=most then a+1 else gz l a most)<=l.length
  split
  ·omega
  ·exact zy oa
 have hnew:a'<l.length->most<=l.getD a' 0/\(l.getD a 0=most->most<l.getD a' 0):=by
  intro h
  by_cases e:l.getD a 0=most
  ·have e':a'=a+1:=aZ e
   rw [e'] at h ⊢
   have:=va hla (show a<a+1 by omega) h
   rw [bR h];rw [bR ha] at e
   exact ⟨oa,fun _=>by omega⟩
  ·have e':a'=gz l a most:=bb e
   rw [e'] at h ⊢
   exact ⟨F9 h,fun h'=>absurd h' e⟩
 -- every key is at most 'most';on a hit all are equal
 have hmost:∀ j,j<Ls.length->o8 Ls A j<=most:=by
  intro j hj
  obtain ⟨i,hi,rfl⟩:=E1 (s:=s) hj
  have:=I.cyc i (Ls.length-1) oa oa
  rwa [I.top] at this
 have hhit:l.getD a 0=most->∀ l'∈Ls,most∈l':=by
  intro e l' hl'
  obtain ⟨j,hj,rfl⟩:=ip hl'
  have h1:=hmost j hj
  obtain ⟨i,hi,ej⟩:=E1 (s:=s) hj
  have h2:=I.cyc 0 i oa hi
  rw [mG,ej] at h2
  have h3:o8 Ls A j=most:=by rw [show o8 Ls A (s % Ls.length)=most from e] at h2;omega
  have h4:=I.lt j hj
  unfold o8 at h3
  rw [bR h4] at h3
  have h5:=bC h4
  rw [h3] at h5
  rwa [iY hj] at h5
 -- what is common and not yet found lies at the new place or behind it
 have hback:∀ x,(∀ l'∈Ls,x∈l')->x∈out'\/(most<=x/\∃ j,∃ hj:j<l.length,l[j]=x/\a'<=j):=by
  intro x hx
  rcases I.all x hx with h | h
  ·refine .inl ?_
   show x∈if l.getD a 0=most then out++[most] else out
   split
   ·exact ib _ h
   ·exact h
  ·have hm:most<=x:=by
    have:=h ((s+(Ls.length-1)) % Ls.length) (Nat.mod_lt _ I.pos)
    rwa [I.top] at this
   obtain ⟨j,hj,e⟩:=GN (hx l (jz hk))
   by_cases hej:l.getD a 0=most
   ·have e':a'=a+1:=aZ hej
    have eo:out'=out++[most]:=aZ hej
    by_cases hxm:x=most
    ·exact .inl (by rw [eo,hxm];simp)
    ·refine .inr ⟨hm,j,hj,e,?_⟩
     rw [e']
     refine vH fun hc=>?_
     rcases Nat.lt_or_ge j a with hja | hja
     ·have:=va hla hja ha
      rw [bR ha] at hej;omega
     ·have:j=a:=by omega
      subst this
      rw [bR ha] at hej;omega
   ·have e':a'=gz l a most:=bb hej
    refine .inr ⟨hm,j,hj,e,?_⟩
    rw [e']
    refine vH fun hc=>?_
    rcases Nat.lt_or_ge j a with hja | hja
    ·have:=va hla hja ha
     omega
    ·have:=Ia hj hja (by omega:j<gz l a most)
     omega
 have hoasc:mS out':=by
  show mS (if l.getD a 0=most then out++[most] else out)
  split
  ·exact uW.2 ⟨I.oasc,vk _ _,fun x hx y hy=>by rw [fu] at hy;rw [hy];exact I.olt x hx⟩
  ·exact I.oasc
 have hocom:∀ x∈out',∀ l'∈Ls,x∈l':=by
  intro x hx
  by_cases e:l.getD a 0=most
  ·have eo:out'=out++[most]:=aZ e
   rw [eo] at hx
   rcases dl.1 hx with hx | hx
   ·exact I.ocom x hx
   ·rw [fu] at hx;rw [hx];exact hhit e
  ·have eo:out'=out:=bb e
   rw [eo] at hx;exact I.ocom x hx
 refine ⟨hk,ha,hgt,hle',fun he=>⟨hoasc,fun x=>⟨hocom x,fun hx=>?_⟩⟩,fun hne=>?_⟩
 ·rcases hback x hx with h | ⟨_,j,hj,_,hj2⟩
  ·exact h
  ·omega
 ·have hlt':a'<l.length:=by omega
  obtain ⟨n1,n2⟩:=hnew hlt'
  have keyNew:o8 Ls (A.set k a') k=l.getD a' 0:=by unfold o8;rw [zw hkA];rfl
  have keyOld:∀ j,j≠k->o8 Ls (A.set k a') j=o8 Ls A j:=fun j hj=>by unfold o8;rw [B9 hj]
  have hkk:(s+1+(Ls.length-1)) % Ls.length=k:=by
   rw [show s+1+(Ls.length-1)=s+Ls.length by have:=I.pos;omega,Nat.add_mod_right]
  have hne':∀ i,i+1<Ls.length->(s+1+i) % Ls.length≠k:=fun i hi=>by
   have:=Ld (s:=s) (i:=0) (j:=i+1) (n:=Ls.length) oa hi
   rw [mG] at this
   rw [show s+1+i=s+(i+1) by omega];exact this
  refine ⟨I.pos,by rw [gF];exact I.len,I.asc,fun j hj=>?_,fun i j hij hj=>?_,by rw [hkk,keyNew],hoasc,fun x hx=>?_,hocom,fun x hx=>?_⟩
  ·by_cases e:j=k
   ·rw [e,zw hkA];exact hlt'
   ·rw [B9 e];exact I.lt j hj
  ·by_cases ej:j+1<Ls.length
   ·rw [keyOld _ (hne' j ej),keyOld _ (hne' i oa),show s+1+i=s+(i+1) by omega,show s+1+j=s+(j+1) by omega]
    exact I.cyc (i+1) (j+1) oa ej
   ·have ejl:j=Ls.length-1:=by omega
    rw [ejl,hkk,keyNew]
    by_cases ei:i+1<Ls.length
    ·rw [keyOld _ (hne' i ei)]
     have:=hmost ((s+1+i) % Ls.length) (Nat.mod_lt _ I.pos)
     omega
    ·rw [show i=Ls.length-1 by omega,hkk,keyNew];exact mD _
  ·by_cases e:l.getD a 0=most
   ·have eo:out'=out++[most]:=aZ e
    rw [eo] at hx
    have:=n2 e
    rcases dl.1 hx with hx | hx
    ·have:=I.olt x hx;omega
    ·rw [fu] at hx;omega
   ·have eo:out'=out:=bb e
    rw [eo] at hx
    have:=I.olt x hx;omega
  ·rcases hback x hx with h | ⟨hm,j,hj,e,hj2⟩
   ·exact .inl h
   ·refine .inr fun i hi=>?_
    by_cases ei:i=k
    ·rw [ei,keyNew,bR hlt',<- e]
     rcases Nat.lt_or_ge a' j with h | h
     ·exact tQ (va hla h hj)
     ·have:j=a':=by omega
      subst this;exact mD _
    ·rw [keyOld i ei]
     have:=hmost i hi;omega
def pf (Ls:be) (A:List Nat):Nat:=(List.zipWith (fun l a=>l.length-a) Ls A).sum
theorem wn:∀ (Ls:be) (A:List Nat) (k a':Nat),k<Ls.length->A.length=Ls.length->(Ls.getD k []).length-a'<(Ls.getD k []).length-A.getD k 0->pf Ls (A.set k a')<pf Ls A
 | [],_,_,_,h,_,_=>absurd h (by simp)
 | _ :: _,[],_,_,_,h,_=>absurd h (by simp)
 | l :: Ls,a :: A,0,a',_,_,h=>by
  unfold pf
  simp only [List.set_cons_zero,List.zipWith_cons_cons,t9]
  simp only [List.getD_cons_zero] at h
  omega
 | l :: Ls,a :: A,k+1,a',h1,h2,h=>by
  have:=wn Ls A k a' (by simpa using h1) (by simpa using h2) (by simpa using h)
  unfold pf at this ⊢
  simp only [List.set_cons_succ,List.zipWith_cons_cons,t9]
  omega
theorem zc {Ls:be}:∀ (m:Nat) (A:List Nat) (most:Int) (out:yP) (s:Nat),LInv Ls A most out s->pf Ls A<m ->
  mS (jd Ls m A most out s).1/\(∀ x,x∈(jd Ls m A most out s).1↔∀ l∈Ls,x∈l)/\(jd Ls m A most out s).2<=s+m
 | 0,_,_,_,_,_,h=>absurd h oa
 | m+1,A,most,out,s,I,h=>by
  obtain ⟨hk,ha,hgt,hle,h1,h2⟩:=xq I
  rw [jd]
  by_cases he:lkA Ls A most s=(lkL Ls s).length
  ·rw [aZ he]
   obtain ⟨g1,g2⟩:=h1 he
   exact ⟨g1,g2,by show s+1<=_;omega⟩
  ·rw [bb he]
   have hr:=wn Ls A (s % Ls.length) (lkA Ls A most s) hk I.len (by
    have h3:lkP Ls A s<(lkL Ls s).length:=ha
    have h4:lkP Ls A s<lkA Ls A most s:=hgt
    show (lkL Ls s).length-lkA Ls A most s<(lkL Ls s).length-lkP Ls A s
    omega)
   obtain ⟨g1,g2,g3⟩:=zc m _ _ _ (s+1) (h2 he) oa
   exact ⟨g1,g2,oa⟩
def jt (l:yP):Int:=l.getD 0 0
def qA (hs:yP) (h:Int):Nat->Nat
 | 0=>0
 | k+1=>if h<hs.getD k 0 then qA hs h k else k+1
theorem E7 (hs:yP) (h:Int):∀ k,qA hs h k<=k
 | 0=>bY _
 | k+1=>by
  unfold qA;split
  ·have:=E7 hs h k;omega
  ·exact bY _
theorem E9 (hs:yP) (h:Int):∀ k j,qA hs h k<=j->j<k->h<hs.getD j 0
 | 0,j,_,h2=>absurd h2 oa
 | k+1,j,h1,h2=>by
  unfold qA at h1
  split at h1
  ·rename_i hh
   by_cases e:j=k
   ·rw [e];exact hh
   ·exact E9 hs h k j h1 oa
  ·omega
theorem Fe (hs:yP) (h:Int):∀ k,qA hs h k=0\/hs.getD (qA hs h k-1) 0<=h
 | 0=>.inl rfl
 | k+1=>by
  unfold qA;split
  ·exact Fe hs h k
  ·rename_i hh;exact .inr (by rw [sa];omega)
def hdI (ls:be) (j:Int):Int:=jt (ls.getD j.toNat [])
def mH (ls:be) (O:yP) (i:Nat):Nat:=qA (O.map (hdI ls)) (hdI ls (i:Int)) O.length
def wb (ls:be) (O:yP) (i:Nat):yP:=O.take (mH ls O i)++[(i:Int)]++O.drop (mH ls O i)
def ez (ls:be) (i:Nat):yP:=(List.range' 0 i).foldl (wb ls) []
def lsO (ls:be) (O:yP):be:=O.map fun j=>ls.getD j.toNat []
theorem xz (ls:be) (i:Nat):ez ls (i+1)=wb ls (ez ls i) i:=by unfold ez;rw [pn,xi];simp
theorem B5 (ls:be) (O:yP) (i:Nat):mH ls O i<=O.length:=E7 _ _ _
theorem Cx (ls:be) (O:yP) (i:Nat):(wb ls O i).Perm ((i:Int) :: O):=by
 unfold wb
 rw [gr,List.singleton_append]
 have h:=List.perm_middle (a:=(i:Int)) (l₁:=O.take (mH ls O i)) (l₂:=O.drop (mH ls O i))
 rwa [AF] at h
theorem H0 (ls:be) (O:yP) (i:Nat):(wb ls O i).length=O.length+1:=by rw [(Cx ls O i).length_eq,bW]
def leI (a b:Int):Prop:=a<=b
theorem EJ {ls:be} {O:yP} {i:Nat} (h:(O.map (hdI ls)).Pairwise leI):((wb ls O i).map (hdI ls)).Pairwise leI:=by
 have hk:=B5 ls O i
 have hat:∀ j (hj:j<O.length),hdI ls O[j]=(O.map (hdI ls)).getD j 0:=fun j hj=>by rw [bR (by rw [cB];exact hj),jC]
 unfold wb
 rw [fv,fv,gr]
 have h1:(O.map (hdI ls))=(O.take (mH ls O i)).map (hdI ls)++(O.drop (mH ls O i)).map (hdI ls):=by rw [<- fv,AF]
 rw [h1] at h
 obtain ⟨p1,p2,p3⟩:=uW.1 h
 refine uW.2 ⟨p1,?_,?_⟩
 ·rw [gd,nZ,List.singleton_append]
  refine jD.2 ⟨fun y hy=>?_,p2⟩
  obtain ⟨x,hx,rfl⟩:=fm.1 hy
  obtain ⟨j,hj,rfl⟩:=ip hx
  rw [jl] at hj
  rw [List.getElem_drop]
  have:=E9 (O.map (hdI ls)) (hdI ls (i:Int)) O.length (mH ls O i+j) (by unfold mH;omega) oa
  rw [<- hat _ oa] at this
  exact tQ this
 ·intro x hx y hy
  have hx':leI x (hdI ls (i:Int)):=by
   obtain ⟨z,hz,rfl⟩:=fm.1 hx
   obtain ⟨j,hj,rfl⟩:=ip hz
   rw [cq] at hj
   rw [vg]
   have hj1:j<mH ls O i:=by omega
   rcases Fe (O.map (hdI ls)) (hdI ls (i:Int)) O.length with h0 | h0
   ·have:mH ls O i=0:=h0
    omega
   ·have h0':(O.map (hdI ls)).getD (mH ls O i-1) 0<=hdI ls (i:Int):=h0
    by_cases e:j=mH ls O i-1
    ·unfold leI;rw [hat j oa,e];exact h0'
    ·have hp:=ug.1 p1 j (mH ls O i-1) (by rw [cB,cq];omega) (by rw [cB,cq];omega) oa
     rw [jC,jC,vg,vg] at hp
     unfold leI at hp ⊢
     rw [hat (mH ls O i-1) oa] at hp
     omega
  rw [gd,nZ,List.singleton_append] at hy
  rcases cp.1 hy with rfl | hy
  ·exact hx'
  ·exact p3 x hx y hy
structure OrdOk (ls:be) (O:yP) (i:Nat):Prop where
 len:O.length=i
 nd:O.Nodup
 bd:∀ j∈O,0<=j/\j<i
 so:(O.map (hdI ls)).Pairwise leI
theorem rk (ls:be):∀ i,OrdOk ls (ez ls i) i
 | 0=>⟨rfl,List.nodup_nil,fun j h=>absurd h (pq),List.Pairwise.nil⟩
 | i+1=>by
  have h:=rk ls i
  rw [xz]
  have hp:=Cx ls (ez ls i) i
  refine ⟨by rw [H0,h.len],hp.nodup_iff.2 (lR.2 ⟨fun hm=>by have:=h.bd _ hm;omega,h.nd⟩),fun j hj=>?_,EJ h.so⟩
  rcases cp.1 (hp.mem_iff.1 hj) with rfl | hj
  ·omega
  ·have:=h.bd j hj;omega
def shS (ls:be) (i:Nat) (s:Int):Int:=bif Nat.beq i 0||decide (((ls.getD i []).length:Int)<s) then ((ls.getD i []).length:Int) else s
def shT (ls:be) (i:Nat):Int:=(List.range' 0 i).foldl (fun s i=>shS ls i s) 0
theorem wk (ls:be) (i:Nat):shT ls (i+1)=shS ls i (shT ls i):=by unfold shT;rw [pn,xi];simp
theorem Hi (ls:be):∀ i,0<=shT ls i/\∀ j,j<i->shT ls i<=((ls.getD j []).length:Int)
 | 0=>⟨mD _,fun j h=>absurd h oa⟩
 | i+1=>by
  obtain ⟨h1,h2⟩:=Hi ls i
  rw [wk]
  unfold shS
  cases i with
  | zero=>exact ⟨by rw [show (Nat.beq 0 0)=true from rfl,Bool.true_or,ah];omega,fun j hj=>by rw [show (Nat.beq 0 0)=true from rfl,Bool.true_or,ah,show j=0 by omega];exact mD _⟩
  | succ i =>
   rw [show Nat.beq (i+1) 0=false from rfl,tB]
   by_cases h:((ls.getD (i+1) []).length:Int)<shT ls (i+1)
   ·rw [ba h,ah]
    refine ⟨oa,fun j hj=>?_⟩
    by_cases e:j=i+1
    ·rw [e];exact mD _
    ·have:=h2 j oa;omega
   ·rw [bf h,ak]
    refine ⟨h1,fun j hj=>?_⟩
    by_cases e:j=i+1
    ·rw [e];omega
    ·exact h2 j oa
def ij (n:Nat):List Nat:=List.replicate n 0
def CT (ls:be):yP × Nat:=jd (lsO ls (ez ls ls.length)) (pf (lsO ls (ez ls ls.length)) (ij ls.length)+1) (ij ls.length) (jt ((lsO ls (ez ls ls.length)).getD (ls.length-1) [])) [] 0
def oy (ls:be):yP × Int:=bif nU ls&&!(shT ls ls.length == 0) then ((CT ls).1,((CT ls).2:Int)) else ([],0)
theorem Af:∀ {xs:yP},asc xs=true->mS xs
 | [],_=>List.Pairwise.nil
 | [_],_=>vk _ _
 | x :: y :: t,h=>by
  unfold asc at h
  rw [b9,dN] at h
  have ih:=Af h.2
  refine jD.2 ⟨fun z hz=>?_,ih⟩
  rcases cp.1 hz with rfl | hz
  ·exact h.1
  ·have:=(jD.1 ih).1 z hz;omega
theorem ym (ls:be):(lsO ls (ez ls ls.length)).length=ls.length:=by unfold lsO;rw [cB,(rk ls ls.length).len]
theorem nu {ls:be} {l:yP}:l∈lsO ls (ez ls ls.length)↔l∈ls:=by
 have h:=rk ls ls.length
 unfold lsO
 rw [fm]
 constructor
 ·rintro ⟨j,hj,rfl⟩
  have:=h.bd j hj
  exact jz oa
 ·intro hl
  obtain ⟨i,hi,rfl⟩:=ip hl
  refine ⟨(i:Int),wy h.nd h.len h.bd (i:Int) oa oa,?_⟩
  rw [show ((i:Nat):Int).toNat=i from rfl,iY hi]
theorem AC {ls:be} {O:yP} {i:Nat} (h:i<O.length):(lsO ls O).getD i []=ls.getD O[i].toNat []:=by unfold lsO;simp [h]
theorem zj (n k:Nat):(ij n).getD k 0=0:=by
 unfold ij
 by_cases h:k<n <;> simp [h]
theorem vY {ls:be} (h:(nU ls&&!(shT ls ls.length == 0))=true) :
  LInv (lsO ls (ez ls ls.length)) (ij ls.length) (jt ((lsO ls (ez ls ls.length)).getD (ls.length-1) [])) [] 0/\∀ l∈ls,0<l.length:=by
 rw [b9,xN,tu] at h
 obtain ⟨h1,h2⟩:=h
 unfold nU at h1
 rw [b9,dQ,dN] at h1
 obtain ⟨h3,h4⟩:=Hi ls ls.length
 have hne:∀ l∈ls,0<l.length:=fun l hl=>by
  obtain ⟨i,hi,rfl⟩:=ip hl
  have:=h4 i hi
  rw [iY hi] at this;omega
 have ho:=rk ls ls.length
 have hlen:=ym ls
 have hkey:∀ k,o8 (lsO ls (ez ls ls.length)) (ij ls.length) k=jt ((lsO ls (ez ls ls.length)).getD k []):=fun k=>by unfold o8 jt;rw [zj]
 refine ⟨⟨oa,by rw [hlen];simp [ij],fun l hl=>Af (h1.1 l (nu.1 hl)),fun k hk=>?_,fun i j hij hj=>?_,?_,List.Pairwise.nil,by simp,by simp,fun x hx=>.inr fun k hk=>?_⟩,hne⟩
 ·rw [zj];exact hne _ (nu.1 (jz hk))
 ·rw [fh,fh,rZ hj,rZ oa,hkey,hkey]
  by_cases e:i=j
  ·rw [e];exact mD _
  ·have hs:=ug.1 ho.so i j (by rw [cB,ho.len];omega) (by rw [cB,ho.len];omega) oa
   rw [jC,jC] at hs
   rw [AC (by rw [ho.len];omega),AC (by rw [ho.len];omega)]
   exact hs
 ·rw [fh,rZ oa,hkey,hlen]
 ·rw [hkey]
  have hl:=nu.1 (jz hk)
  obtain ⟨j,hj,e⟩:=GN (hx _ (jz hk))
  have hp:=hne _ hl
  unfold jt
  rw [bR hp,<- e]
  rcases vz j with h0 | h0
  ·subst h0;exact mD _
  ·exact tQ (va (Af (h1.1 _ hl)) h0 hj)
theorem uy:∀ (Ls:be) (B n:Nat),(∀ l∈Ls,l.length<=B)->pf Ls (ij n)<=Ls.length*B
 | [],B,n,_=>by simp [pf]
 | l :: Ls,B,0,_=>by simp [pf,ij]
 | l :: Ls,B,n+1,h=>by
  have ih:=uy Ls B n fun x hx=>h x (dy _ hx)
  have hl:=h l cZ
  unfold pf ij at ih ⊢
  rw [AO,List.zipWith_cons_cons,t9,bW,tL]
  omega
theorem AS {ls:be} {B:Nat} (h:∀ l∈ls,l.length<=B):mS (oy ls).1/\(∀ x∈(oy ls).1,∀ l∈ls,x∈l)/\0<=(oy ls).2/\(oy ls).2<=(ls.length*B+1:Nat)/\(nU ls=true->∀ x,(∀ l∈ls,x∈l)->x∈(oy ls).1):=by
 unfold oy
 cases hc:nU ls&&!(shT ls ls.length == 0) with
 | false =>
  refine ⟨List.Pairwise.nil,by simp,mD _,by rw [ak];omega,fun ha x hx=>?_⟩
  rw [ha,cN,Bool.not_eq_false',rX] at hc
  exfalso
  -- some list is empty
  have hex:∀ i,i<=ls.length->0<i->shT ls i=0->∃ j,j<i/\(ls.getD j []).length=0:=by
   intro i
   induction i with
   | zero=>intro _ h;omega
   | succ i ih =>
    intro hi _ hz
    rw [wk] at hz
    unfold shS at hz
    cases i with
    | zero =>
     rw [show (Nat.beq 0 0)=true from rfl,Bool.true_or,ah] at hz
     exact ⟨0,oa,oa⟩
    | succ i =>
     rw [show Nat.beq (i+1) 0=false from rfl,tB] at hz
     by_cases hlt:((ls.getD (i+1) []).length:Int)<shT ls (i+1)
     ·rw [ba hlt,ah] at hz
      exact ⟨i+1,oa,oa⟩
     ·rw [bf hlt,ak] at hz
      obtain ⟨j,hj,e⟩:=ih oa oa hz
      exact ⟨j,oa,e⟩
  unfold nU at ha
  rw [b9,dN] at ha
  obtain ⟨j,hj,e⟩:=hex ls.length (bY _) ha.2 hc
  have hm:=hx _ (jz hj)
  rw [li.1 e] at hm
  simp at hm
 | true =>
  rw [ah]
  obtain ⟨I,_⟩:=vY hc
  obtain ⟨g1,g2,g3⟩:=zc (pf (lsO ls (ez ls ls.length)) (ij ls.length)+1) _ _ _ _ I oa
  have hr:=uy (lsO ls (ez ls ls.length)) B ls.length fun l hl=>h l (nu.1 hl)
  rw [ym] at hr
  refine ⟨g1,fun x hx l hl=>(g2 x).1 hx l (nu.2 hl),Int.natCast_nonneg _,?_,fun _ x hx=>(g2 x).2 fun l hl=>hx l (nu.1 hl)⟩
  have g4:(CT ls).2<=ls.length*B+1:=by
   have:(CT ls).2<=0+(pf (lsO ls (ez ls ls.length)) (ij ls.length)+1):=g3
   omega
  exact Int.ofNat_le.2 g4
def K4 (ns:List nM):Nat->Int->Int
 | 0,_=>0
 | f+1,nd=>if nd=0 then 0 else K4 ns f ((ns.getD nd.toNat ([],[])).2.getD 0 0)+1
def dep (ns:List nM) (nd:Int):Int:=K4 ns ns.length nd
structure NodeOk (ns:List nM) (i:Nat):Prop where
 lens:(ns.getD i ([],[])).1.length=(ns.getD i ([],[])).2.length
 vals:cn (ns.getD i ([],[])).1=true
 asc:mS (ns.getD i ([],[])).1
 ne:(ns.getD i ([],[])).1≠[]
 chs:∀ c∈(ns.getD i ([],[])).2,dep ns c=dep ns ((ns.getD i ([],[])).2.getD 0 0)
 new:∀ j,1<=j->j<i->ns.getD j ([],[])≠ns.getD i ([],[])
end Go.Proofs.YteemghjjopdljaaGreat
