/- What functions of the program come to, written out by a program: none where a bound is passed. -/
import Derived.Test.YteemghjjopdljaaGreatV0
namespace Go.Proofs.YteemghjjopdljaaGreat
open Go.RowKit
def pB (N:Nat) (a0:List (ByteArray×(Int×T2_))) (a1:Int) (a2:List (ByteArray×yQ)) (a3:yQ) (a4:yQ):Option Bool:=(j9 N a0 a1 a2 a3).bind fun J=>(bif J then (kO N a1 a2 a3 a4).bind fun U=>some U else some false)
def f7 (N:Nat):Nat->(List (Int×T2_))->Int->Int->Option (Sum Bool Int)
 | 0,_,_,_=>none
 | k+1,U,Y,J=>(bif decide (J<Y) then (ix U J).bind fun Z=>(bif ((Z.2.length:Int) == 0) then some (.inl true) else (ad J 1).bind fun MR=>f7 N k U Y MR) else some (.inr J))
def kX (N:Nat) (a0:List (Int×T2_)):Option Bool:=(f7 N N a0 (a0.length:Int) 0).bind fun J=>lpS J (fun q=>some q) fun U=>some false
def dl (N:Nat):Nat->yQ->Int->Option (Sum Bool Int)
 | 0,_,_=>none
 | k+1,U,J=>(bif decide (J<(U.length:Int)) then (sb J 1).bind fun Y=>(ix U Y).bind fun Z=>(ix U J).bind fun MR=>(bif decide (MR<=Z) then some (.inl false) else (ad J 1).bind fun MS=>dl N k U MS) else some (.inr J))
def hQ (N:Nat) (a0:yQ):Option Bool:=(dl N N a0 1).bind fun J=>lpS J (fun q=>some q) fun U=>some true
def e9 (N:Nat):Nat->T2_->T2_->Int->Int->Option (Sum Bool Int)
 | 0,_,_,_,_=>none
 | k+1,Z,U,Y,J=>(bif decide (J<Y) then (ix U J).bind fun MR=>(hQ N MR).bind fun MS=>(bif MS then (ad J 1).bind fun MT=>e9 N k Z U Y MT else some (.inl false)) else some (.inr J))
def jv (N:Nat) (a0:T2_):Option Bool:=(e9 N N a0 a0 (a0.length:Int) 0).bind fun J=>lpS J (fun q=>some q) fun U=>some (decide (0<(a0.length:Int)))
def cC (N:Nat):Nat->Int->T2_->Int->Int->Option T1_
 | 0,_,_,_,_=>none
 | k+1,Z,U,Y,J=>(bif decide (J<Y) then (ix U J).bind fun MR=>(bif (J == 0) then (ad J 1).bind fun MS=>cC N k (MR.length:Int) U Y MS else (bif decide ((MR.length:Int)<Z) then (ad J 1).bind fun MT=>cC N k (MR.length:Int) U Y MT else (ad J 1).bind fun MU=>cC N k Z U Y MU)) else some (Z,J))
def jx (N:Nat) (a0:T2_):Option Int:=(cC N N 0 a0 (a0.length:Int) 0).bind fun J=>lpB J fun (U,Y)=>some U
def ky (N:Nat):Nat->yQ->Int->Int->Option (Sum Int Int)
 | 0,_,_,_=>none
 | k+1,U,Y,J=>(bif decide (J<(U.length:Int)) then (ix U J).bind fun Z=>(bif decide (Y<=Z) then some (.inl J) else (ad J 1).bind fun MR=>ky N k U Y MR) else some (.inr J))
def kZ (N:Nat) (a0:yQ) (a1 a2:Int):Option Int:=(ky N N a0 a2 (imx 0 a1)).bind fun J=>lpS J (fun q=>some q) fun U=>some (a0.length:Int)
def f5 (N:Nat):Nat->T2_->yQ->Int->T2_->Int->Int->Option Int
 | 0,_,_,_,_,_,_=>none
 | k+1,U,Y,J,Z,MR,MS=>(bif decide (0<J) then (sb J 1).bind fun MT=>(ix U MT).bind fun MU=>(ix MU 0).bind fun MV=>(ix Y 0).bind fun MW=>(bif decide (MW<MV) then (sb J 1).bind fun MX=>f5 N k U Y MX Z MR MS else some J) else some J)
def cN (N:Nat):Nat->T2_->T2_->Int->Int->Option (T2_×Int)
 | 0,_,_,_,_=>none
 | k+1,J,Y,Z,U=>(bif decide (U<Z) then (ix Y U).bind fun MR=>(f5 N N J MR (J.length:Int) Y Z U).bind fun MT=>lpB MT fun MS=>(slc J 0 MS).bind fun MU=>(slc J MS (J.length:Int)).bind fun MV=>(apd 24 [] MU).bind fun MW=>(apd 24 MW [MR]).bind fun MX=>(apd 24 MX MV).bind fun MY=>(ad U 1).bind fun MZ=>cN N k MY Y Z MZ else some (J,U))
def eS (N:Nat):Nat->T2_->yQ->Int->yQ->Int->Option (yQ×Int)
 | 0,_,_,_,_,_=>none
 | k+1,MR,U,MS,MT,Z=>(sb Z 1).bind fun MX=>(rm MX (MR.length:Int)).bind fun J=>(ix MR J).bind fun Y=>(ix U J).bind fun MY=>(ix Y MY).bind fun MZ=>(bif (MZ == MS) then (apd 8 MT [MS]).bind fun MW=>(ix U J).bind fun M1=>(ad M1 1).bind fun M2=>(ix U J).bind fun Nd=>(sto U J M2).bind fun MU=>(ix MU J).bind fun M3=>(bif (M3 == (Y.length:Int)) then some (MW,Z) else (ix MU J).bind fun M4=>(ix Y M4).bind fun M5=>(ad Z 1).bind fun M6=>eS N k MR MU M5 MW M6) else (ix U J).bind fun M7=>(kZ N Y M7 MS).bind fun M8=>(ix U J).bind fun Nf=>(sto U J M8).bind fun MV=>(ix MV J).bind fun M9=>(bif (M9 == (Y.length:Int)) then some (MT,Z) else (ix MV J).bind fun Na=>(ix Y Na).bind fun Nb=>(ad Z 1).bind fun Nc=>eS N k MR MV Nb MT Nc))
def iJ (N:Nat) (a0:T2_):Option (yQ×Int):=(jv N a0).bind fun U=>(bif U then (jx N a0).bind fun Y=>(bif (Y == 0) then some ([],0) else (cN N N [] a0 (a0.length:Int) 0).bind fun Z=>lpB Z fun (J,MV)=>(mk 8 (0:Int) (J.length:Int)).bind fun MR=>(sb (J.length:Int) 1).bind fun MS=>(ix J MS).bind fun MT=>(ix MT 0).bind fun MU=>eS N N J MR MU [] 1) else some ([],0))
def nA (N:Nat) (a0:Int) (a1:T2_):Option (Int×T2_):=some (a0,a1)
def jG (N:Nat) (a0:Int) (a1:T2_):Option Bool:=(nA N a0 a1).bind fun J=>(dT N J.1 J.2).bind fun U=>some U
def dK (N:Nat):Nat->yQ->Int->T2_->Int->Int->Option Int
 | 0,_,_,_,_,_=>none
 | k+1,Y,MR,U,Z,J=>(bif decide (J<(U.length:Int)) then (ix U J).bind fun MS=>(slc MS 0 Z).bind fun MT=>(gx N MT Y).bind fun MU=>(bif decide (MU<0) then (ad J 1).bind fun MV=>dK N k Y MR U Z MV else some J) else some J)
def dg (N:Nat):Nat->yQ->Int->T2_->Int->Int->Int->Option Int
 | 0,_,_,_,_,_,_=>none
 | k+1,Y,MR,U,Z,MS,J=>(bif decide (J<(U.length:Int)) then (ix U J).bind fun MT=>(slc MT 0 Z).bind fun MU=>(gx N MU Y).bind fun MV=>(bif (MV == 0) then (ad J 1).bind fun MW=>dg N k Y MR U Z MS MW else some J) else some J)
def kS (N:Nat) (a0:Int) (a1:T2_) (a2:yQ):Option T1_:=(bif decide (a0<(a2.length:Int)) then some (0,0) else (jG N a0 a1).bind fun U=>(bif U then (dK N N a2 a0 a1 (a2.length:Int) 0).bind fun Y=>lpB Y fun J=>(dg N N a2 a0 a1 (a2.length:Int) J J).bind fun Z=>lpB Z fun MR=>some (J,MR) else some (0,0)))
def c8 (N:Nat):Nat->Int->yQ->T2_->Int->Int->Option (yQ×Int)
 | 0,_,_,_,_,_=>none
 | k+1,U,J,Z,MR,Y=>(bif decide (Y<MR) then (ix Z Y).bind fun MS=>(bif ((J.length:Int) == 0) then (ix MS U).bind fun MT=>(apd 8 J [MT]).bind fun MU=>(ad Y 1).bind fun MV=>c8 N k U MU Z MR MV else (sb (J.length:Int) 1).bind fun MW=>(ix J MW).bind fun MX=>(ix MS U).bind fun MY=>(bif (MX != MY) then (ix MS U).bind fun MZ=>(apd 8 J [MZ]).bind fun M1=>(ad Y 1).bind fun M2=>c8 N k U M1 Z MR M2 else (ad Y 1).bind fun M3=>c8 N k U J Z MR M3)) else some (J,Y))
def kL (N:Nat) (a0:Int) (a1:T2_) (a2:yQ):Option yQ:=(bif decide (a0<=(a2.length:Int)) then some [] else (jG N a0 a1).bind fun Y=>(bif Y then (kS N a0 a1 a2).bind fun J=>(slc a1 J.1 J.2).bind fun U=>(c8 N N (a2.length:Int) [] U (U.length:Int) 0).bind fun Z=>lpB Z fun (MR,MS)=>some MR else some []))
def eG (N:Nat):Nat->(List (Int×T2_))->yQ->yQ->T2_->Int->ByteArray->yQ->yQ->(List (ByteArray×yQ))->Int->Int->yQ->Int->Int->Option (yQ×Int)
 | 0,_,_,_,_,_,_,_,_,_,_,_,_,_,_=>none
 | k+1,MU,U,MV,MW,MX,Y,Z,MR,MY,MZ,M1,MS,MT,J=>(bif decide (J<MT) then (ix MS J).bind fun M2=>(ix U J).bind fun M3=>(gd N Y Z M3).bind fun M4=>(bif M4 then (apd 8 MR [M2]).bind fun M5=>(ad J 1).bind fun M6=>eG N k MU U MV MW MX Y Z M5 MY MZ M1 MS MT M6 else (ad J 1).bind fun M7=>eG N k MU U MV MW MX Y Z MR MY MZ M1 MS MT M7) else some (MR,J))
def eK (N:Nat):Nat->(List (Int×T2_))->yQ->yQ->T2_->(List (ByteArray×yQ))->Int->Int->Option (T2_×Int)
 | 0,_,_,_,_,_,_,_=>none
 | k+1,Y,Z,U,MR,MS,MT,J=>(bif decide (J<MT) then (ix MS J).bind fun MU=>(ix Z (U.length:Int)).bind fun MW=>(gd N MU.1 MU.2 MW).bind fun MX=>(bif MX then (eG N N Y Z U MR J MU.1 MU.2 [] MS MT J U (U.length:Int) 0).bind fun MY=>lpB MY fun (MZ,M5)=>(ix Y J).bind fun MV=>(kL N MV.1 MV.2 MZ).bind fun M1=>(apd 24 MR [M1]).bind fun M2=>(ad J 1).bind fun M3=>eK N k Y Z U M2 MS MT M3 else (ad J 1).bind fun M4=>eK N k Y Z U MR MS MT M4) else some (MR,J))
def mK (N:Nat) (a0:Int) (a1:List (ByteArray×yQ)) (a2:yQ) (a3:List (Int×T2_)) (a4 a5:yQ):Option T2_:=(eK N N a3 a4 a5 [] a1 (a1.length:Int) 0).bind fun J=>lpB J fun (U,Y)=>some U
def bE (N:Nat):Nat->(List (Int×T2_))->yQ->Int->Int->(List (ByteArray×yQ))->yQ->Int->Int->T2_->yQ->T2_->Int->Int->yQ->Int->Int->Option (T2_×Int)
 | 0,_,_,_,_,_,_,_,_,_,_,_,_,_,_,_,_=>none
 | k+1,MS,MT,MU,MV,MW,MX,MY,MZ,U,Y,M1,M2,M3,Z,MR,J=>(bif decide (J<MR) then (ix Z J).bind fun M4=>(kt N Y).bind fun M5=>(apd 8 M5 [M4]).bind fun M6=>(apd 24 U [M6]).bind fun M7=>(ad J 1).bind fun M8=>bE N k MS MT MU MV MW MX MY MZ M7 Y M1 M2 M3 Z MR M8 else some (U,J))
def bD (N:Nat):Nat->(List (Int×T2_))->yQ->Int->Int->(List (ByteArray×yQ))->yQ->Int->Int->T2_->T2_->Int->Int->Option (Int×T2_×Int)
 | 0,_,_,_,_,_,_,_,_,_,_,_,_=>none
 | k+1,U,Y,MW,Z,MR,MS,MX,MY,MZ,MT,MU,J=>(bif decide (J<MU) then (ix MT J).bind fun M1=>(mK N Z MR MS U Y M1).bind fun M3=>(iJ N M3).bind fun MV=>(ad MX MV.2).bind fun M2=>(bE N N U Y MW Z MR MS M2 MY MZ M1 MT MU J MV.1 (MV.1.length:Int) 0).bind fun M4=>lpB M4 fun (M5,M7)=>(ad J 1).bind fun M6=>bD N k U Y MW Z MR MS M2 MY M5 MT MU M6 else some (MX,MZ,J))
def bI (N:Nat):Nat->(List (Int×T2_))->yQ->Int->Int->(List (ByteArray×yQ))->yQ->T2_->Int->Int->Option (T2_×Int×Int)
 | 0,_,_,_,_,_,_,_,_,_=>none
 | k+1,Z,MR,U,MS,MT,MU,Y,MV,J=>(bif decide (J<U) then (bD N N Z MR U MS MT MU MV J [] Y (Y.length:Int) 0).bind fun MW=>lpB MW fun (MX,MY,M1)=>(ad J 1).bind fun MZ=>bI N k Z MR U MS MT MU MY MX MZ else some (Y,MV,J))
def dz (N:Nat) (a0:Int) (a1:List (ByteArray×yQ)) (a2:yQ) (a3:List (Int×T2_)) (a4:yQ) (a5:Int):Option (T2_×Int×Bool):=(bI N N a3 a4 a5 a0 a1 a2 ([[]]) 0 0).bind fun U=>lpB U fun (J,Y,Z)=>some (J,Y,decide ((J.length:Int)<=4000))
def kI (N:Nat) (a0:List (ByteArray×(Int×T2_))) (a1:Int) (a2:List (ByteArray×yQ)) (a3:yQ) (a4:yQ):Option ((Int×T2_)×Int×Bool):=(kq N a0 a1 a2 a3 a4).bind fun J=>(bif J.2 then (kX N J.1).bind fun Y=>(bif Y then some ((a1,[]),0,true) else (dz N a1 a2 a3 J.1 a4 a1).bind fun U=>(bif U.2.2 then some ((a1,U.1),U.2.1,true) else some ((0,[]),0,false))) else some ((0,[]),0,false))
def dH (N:Nat):Nat->ByteArray->yQ->yQ->Int->Option (yQ×Int)
 | 0,_,_,_,_=>none
 | k+1,U,Y,Z,J=>(bif decide (J<5) then (gg N U Y J).bind fun MR=>(bif MR then (apd 8 Z [J]).bind fun MS=>(ad J 1).bind fun MT=>dH N k U Y MS MT else (ad J 1).bind fun MU=>dH N k U Y Z MU) else some (Z,J))
def jW (N:Nat) (a0:ByteArray) (a1:yQ):Option yQ:=(dH N N a0 a1 [] 0).bind fun J=>lpB J fun (U,Y)=>some U
def eN (N:Nat):Nat->ByteArray->yQ->Int->T2_->yQ->Int->T2_->Int->T2_->T2_->Int->yQ->Int->Option (yQ×Int)
 | 0,_,_,_,_,_,_,_,_,_,_,_,_,_=>none
 | k+1,MT,Y,MU,MV,U,MW,Z,MX,MY,MZ,MR,MS,J=>(bif decide (J<(U.length:Int)) then (ix Z MR).bind fun M1=>(ix U J).bind fun M2=>(jM N Y M2).bind fun M3=>(ix M1 M3).bind fun M4=>(apd 8 MS [M4]).bind fun M5=>(ad J 1).bind fun M6=>eN N k MT Y MU MV U MW Z MX MY MZ MR M5 M6 else some (MS,J))
def c7 (N:Nat):Nat->ByteArray->yQ->Int->T2_->yQ->Int->T2_->Int->T2_->T2_->Int->yQ->Bool->Int->Option (Bool×Int)
 | 0,_,_,_,_,_,_,_,_,_,_,_,_,_,_=>none
 | k+1,MT,U,MU,MV,Y,MW,Z,MX,MY,MZ,MR,MS,M1,J=>(bif decide (J<(U.length:Int)) then (ix U J).bind fun M3=>(jM N Y M3).bind fun M2=>(bif M1 then (bif decide (0<=M2) then (ix MS M2).bind fun M4=>(ix Z MR).bind fun M5=>(ix M5 J).bind fun M6=>(ad J 1).bind fun M7=>c7 N k MT U MU MV Y MW Z MX MY MZ MR MS (M4 == M6) M7 else (ad J 1).bind fun M8=>c7 N k MT U MU MV Y MW Z MX MY MZ MR MS false M8) else (ad J 1).bind fun M9=>c7 N k MT U MU MV Y MW Z MX MY MZ MR MS false M9) else some (M1,J))
def dZ (N:Nat):Nat->ByteArray->yQ->Int->T2_->yQ->Int->T2_->Int->T2_->T2_->Int->Option (T2_×Int)
 | 0,_,_,_,_,_,_,_,_,_,_,_=>none
 | k+1,Z,MR,MS,MT,MU,MV,U,MW,MX,Y,J=>(bif decide (J<(U.length:Int)) then (eN N N Z MR MS MT MU MV U MW MX Y J [] 0).bind fun MZ=>lpB MZ fun (MY,M6)=>(c7 N N Z MR MS MT MU MV U MW MX Y J MY true 0).bind fun M1=>lpB M1 fun (M2,M7)=>(bif M2 then (apd 24 Y [MY]).bind fun M3=>(ad J 1).bind fun M4=>dZ N k Z MR MS MT MU MV U MW MX M3 M4 else (ad J 1).bind fun M5=>dZ N k Z MR MS MT MU MV U MW MX Y M5) else some (Y,J))
def kJ (N:Nat) (a0:List (ByteArray×(Int×T2_))) (a1:ByteArray) (a2:yQ):Option (Int×T2_):=(jW N a1 a2).bind fun J=>(iB N a0 a1).bind fun U=>(bif U.2 then (bif (U.1.1 != (a2.length:Int)) then some ((J.length:Int),[]) else (dZ N N a1 a2 0 [] J U.1.1 U.1.2 (J.length:Int) [] [] 0).bind fun Z=>lpB Z fun (MR,MS)=>(iL N (J.length:Int) MR).bind fun Y=>(bif Y.2 then some (Y.1.1,Y.1.2) else some ((J.length:Int),[]))) else some ((J.length:Int),[]))
def fA (N:Nat):Nat->(List (ByteArray×(Int×T2_)))->Int->(List (ByteArray×yQ))->yQ->yQ->Int->Option (yQ×Int)
 | 0,_,_,_,_,_,_=>none
 | k+1,Y,MS,U,MT,Z,J=>(bif decide (J<(U.length:Int)) then (ix U J).bind fun MR=>(kJ N Y MR.1 MR.2).bind fun MU=>(apd 8 Z [(MU.2.length:Int)]).bind fun MV=>(ad J 1).bind fun MW=>fA N k Y MS U MT MV MW else some (Z,J))
def mJ (N:Nat) (a0:List (ByteArray×(Int×T2_))) (a1:Int) (a2:List (ByteArray×yQ)) (a3:yQ):Option (yQ×Bool):=(j9 N a0 a1 a2 a3).bind fun J=>(bif J then (fA N N a0 a1 a2 a3 [] 0).bind fun U=>lpB U fun (Y,Z)=>some (Y,true) else some ([],false))
def du (N:Nat):Nat->Int->(List (ByteArray×yQ))->yQ->T6_->T3_->T3_->T6_->T3_->T3_->Int->T3_->Int->Option (T3_×Int)
 | 0,_,_,_,_,_,_,_,_,_,_,_,_=>none
 | k+1,MR,U,MS,MT,MU,MV,MW,MX,MY,Y,Z,J=>(bif decide (J<(U.length:Int)) then (ix U J).bind fun MZ=>(gg N MZ.1 MZ.2 Y).bind fun M1=>(bif M1 then (apd 16 Z [(1,1)]).bind fun M2=>(ad J 1).bind fun M3=>du N k MR U MS MT MU MV MW MX MY Y M2 M3 else (apd 16 Z [(0,1)]).bind fun M4=>(ad J 1).bind fun M5=>du N k MR U MS MT MU MV MW MX MY Y M4 M5) else some (Z,J))
def dW (N:Nat):Nat->Int->(List (ByteArray×yQ))->yQ->T6_->T3_->T3_->T6_->T3_->T3_->Int->Option (T6_×T3_×Int)
 | 0,_,_,_,_,_,_,_,_,_,_=>none
 | k+1,U,MR,MS,MT,MU,MV,Y,Z,MW,J=>(bif decide (J<U) then (du N N U MR MS MT MU MV Y Z MW J [] 0).bind fun MX=>lpB MX fun (MY,M3)=>(apd 24 Y [MY]).bind fun MZ=>(apd 16 Z [(1,1)]).bind fun M1=>(ad J 1).bind fun M2=>dW N k U MR MS MT MU MV MZ M1 MW M2 else some (Y,Z,J))
def d6 (N:Nat):Nat->Int->(List (ByteArray×yQ))->yQ->T6_->T3_->T3_->T6_->T3_->T3_->Int->Option (T3_×Int)
 | 0,_,_,_,_,_,_,_,_,_,_=>none
 | k+1,Z,U,MR,MS,MT,MU,MV,MW,Y,J=>(bif decide (J<(U.length:Int)) then (apd 16 Y [(1,1)]).bind fun MX=>(ad J 1).bind fun MY=>d6 N k Z U MR MS MT MU MV MW MX MY else some (Y,J))
def jj (N:Nat) (a0:Int) (a1:List (ByteArray×yQ)) (a2:yQ):Option ((T6_×T3_×T3_)×Bool):=(eH N a0 a1 a2).bind fun Y=>(bif Y then (dW N N a0 a1 a2 [] [] [] [] [] [] 0).bind fun Z=>lpB Z fun (J,U,MT)=>(d6 N N a0 a1 a2 [] [] [] J U [] 0).bind fun MR=>lpB MR fun (MS,MU)=>some ((J,U,MS),true) else some (([],[],[]),false))
def gC (N:Nat):Nat->Int->Int->Option T1_
 | 0,_,_=>none
 | k+1,U,J=>(bif (J != 0) then (rm U J).bind fun Y=>gC N k J Y else some (U,J))
def iK (N:Nat) (a0 a1:Int):Option Int:=(gC N N a0 a1).bind fun J=>lpB J fun (U,Y)=>some U
def bz (N:Nat) (a0 a1:Int):Option Bool:=(dP N a1 1 1000000000).bind fun J=>(bif J then (dP N a0 (-1000000000) 1000000000).bind fun U=>(bif U then (sb 0 a0).bind fun Y=>(iK N (imx a0 Y) a1).bind fun Z=>some (Z == 1) else some false) else some false)
def il (N:Nat):Nat->T6_->Int->Int->Int->Int->Option (Sum Bool Int)
 | 0,_,_,_,_,_=>none
 | k+1,U,MS,Y,Z,J=>(bif decide (J<Y) then (ix U Z).bind fun MT=>(ix MT J).bind fun MR=>(bz N MR.1 MR.2).bind fun MU=>(bif MU then (ad J 1).bind fun MV=>il N k U MS Y Z MV else some (.inl false)) else some (.inr J))
def io (N:Nat):Nat->T6_->Int->Int->Int->Option (Sum Bool Int)
 | 0,_,_,_,_=>none
 | k+1,U,Z,Y,J=>(bif decide (J<(U.length:Int)) then (ix U J).bind fun MR=>(bif ((MR.length:Int) != Y) then some (.inl false) else (il N N U Z Y J 0).bind fun MS=>lpS MS (fun q=>some (.inl q)) fun MU=>(ad J 1).bind fun MT=>io N k U Z Y MT) else some (.inr J))
def gF (N:Nat) (a0:T6_) (a1 a2:Int):Option Bool:=(io N N a0 a1 a2 0).bind fun J=>lpS J (fun q=>some q) fun U=>some ((a0.length:Int) == a1)
def eU (N:Nat) (a0:T6_) (a1 a2:T3_):Option Bool:=(dP N (a2.length:Int) 1 5).bind fun J=>(bif J then (dP N (a1.length:Int) 1 5).bind fun U=>(bif U then (gF N a0 (a1.length:Int) (a2.length:Int)).bind fun Y=>(bif Y then (gF N ([a2]) 1 (a2.length:Int)).bind fun Z=>(bif Z then (gF N ([a1]) 1 (a1.length:Int)).bind fun MR=>some MR else some false) else some false) else some false) else some false)
def gh (rec:Int->Int->Int->Option T2_) (N:Nat):Nat->Int->Int->T2_->Int->T2_->Int->Option (T2_×Int)
 | 0,_,_,_,_,_,_=>none
 | k+1,MR,MS,Y,Z,U,J=>(bif decide (J<(U.length:Int)) then (ix U J).bind fun MT=>(apd 8 ([Z]) MT).bind fun MU=>(apd 24 Y [MU]).bind fun MV=>(ad J 1).bind fun MW=>gh rec N k MR MS MV Z U MW else some (Y,J))
def j6 (rec:Int->Int->Int->Option T2_) (N:Nat):Nat->Int->Int->T2_->Int->Option (T2_×Int)
 | 0,_,_,_,_=>none
 | k+1,U,Y,Z,J=>(ad J Y).bind fun MR=>(bif decide (MR<=U) then (ad J 1).bind fun MS=>(sb Y 1).bind fun MT=>(rec MS U MT).bind fun MU=>(gh rec N N U Y Z J MU 0).bind fun MV=>lpB MV fun (MW,MY)=>(ad J 1).bind fun MX=>j6 rec N k U Y MW MX else some (Z,J))
def gA:Nat->Int->Int->Int->Option T2_
 | 0,_,_,_=>none
 | N+1,a0,a1,a2=>(bif (a2 == 0) then some ([[]]) else (j6 (gA N) N N a1 a2 [] a0).bind fun J=>lpB J fun (U,Y)=>some U)
def fm (N:Nat) (a0 a1:Int):Option (T1_×Bool):=(bif (a1 == 0) then some ((0,0),false) else (sb 0 4000000000000000000).bind fun MV=>(dP N a0 MV 4000000000000000000).bind fun MW=>(bif MW then (sb 0 4000000000000000000).bind fun MX=>(dP N a1 MX 4000000000000000000).bind fun MY=>(bif MY then (bif decide (a1<0) then (sb 0 a0).bind fun J=>(sb 0 a1).bind fun U=>(sb 0 J).bind fun MZ=>(iK N (imx J MZ) U).bind fun Y=>(qt J Y).bind fun Z=>(qt U Y).bind fun MR=>(bz N Z MR).bind fun M1=>(bif M1 then some ((Z,MR),true) else some ((0,0),false)) else (sb 0 a0).bind fun M2=>(iK N (imx a0 M2) a1).bind fun MS=>(qt a0 MS).bind fun MT=>(qt a1 MS).bind fun MU=>(bz N MT MU).bind fun M3=>(bif M3 then some ((MT,MU),true) else some ((0,0),false))) else some ((0,0),false)) else some ((0,0),false)))
def jD (N:Nat) (a0 a1 a2 a3:Int):Option (T1_×Bool):=(bz N a0 a1).bind fun U=>(bif U then (bz N a2 a3).bind fun Y=>(bif Y then (ml a0 a3).bind fun Z=>(ml a1 a2).bind fun MR=>(fm N Z MR).bind fun J=>some ((J.1.1,J.1.2),J.2) else some ((0,0),false)) else some ((0,0),false))
def eD (N:Nat) (a0 a1 a2 a3:Int):Option (T1_×Bool):=(bz N a0 a1).bind fun U=>(bif U then (bz N a2 a3).bind fun Y=>(bif Y then (ml a0 a2).bind fun Z=>(ml a1 a3).bind fun MR=>(fm N Z MR).bind fun J=>some ((J.1.1,J.1.2),J.2) else some ((0,0),false)) else some ((0,0),false))
def fo (N:Nat) (a0 a1 a2 a3:Int):Option (T1_×Bool):=(bz N a0 a1).bind fun U=>(bif U then (bz N a2 a3).bind fun Y=>(bif Y then (ml a0 a3).bind fun Z=>(ml a2 a1).bind fun MR=>(ad Z MR).bind fun MS=>(ml a1 a3).bind fun MT=>(fm N MS MT).bind fun J=>some ((J.1.1,J.1.2),J.2) else some ((0,0),false)) else some ((0,0),false))
def lu (N:Nat) (a0 a1 a2 a3:Int):Option (T1_×Bool):=(bz N a2 a3).bind fun U=>(bif U then (sb 0 a2).bind fun Y=>(fo N a0 a1 Y a3).bind fun J=>some ((J.1.1,J.1.2),J.2) else some ((0,0),false))
def jg (N:Nat):Nat->T6_->Int->Int->Int->Int->Bool->Int->Option (T6_×Bool×Int)
 | 0,_,_,_,_,_,_,_=>none
 | k+1,U,MR,Y,MS,MT,MU,J=>(ix U Y).bind fun M1=>(bif decide (J<(M1.length:Int)) then (bif MU then (ix U MR).bind fun M2=>(ix M2 J).bind fun MW=>(eD N MS MT MW.1 MW.2).bind fun MV=>(ix U Y).bind fun M3=>(ix M3 J).bind fun MX=>(lu N MX.1 MX.2 MV.1.1 MV.1.2).bind fun Z=>(bif MV.2 then (ix U Y).bind fun MY=>(ix MY J).bind fun Na=>(sto MY J (Z.1.1,Z.1.2)).bind fun M4=>(sto U Y M4).bind fun M5=>(ad J 1).bind fun M6=>jg N k M5 MR Y MS MT Z.2 M6 else (ix U Y).bind fun MZ=>(ix MZ J).bind fun Nb=>(sto MZ J (Z.1.1,Z.1.2)).bind fun M7=>(sto U Y M7).bind fun M8=>(ad J 1).bind fun M9=>jg N k M8 MR Y MS MT false M9) else some (U,MU,J)) else some (U,MU,J))
def gV (N:Nat):Nat->T6_->Int->Int->Option (Sum (Bool×T6_) (T6_×Int))
 | 0,_,_,_=>none
 | k+1,Y,J,U=>(bif decide (U<(Y.length:Int)) then (bif (U == J) then (ad U 1).bind fun MU=>gV N k Y J MU else (ix Y U).bind fun MV=>(ix MV J).bind fun MW=>(bif (MW.1 == 0) then (ad U 1).bind fun MX=>gV N k Y J MX else (ix Y U).bind fun MY=>(ix MY J).bind fun MR=>(ix Y J).bind fun MZ=>(ix MZ J).bind fun MS=>(jD N MR.1 MR.2 MS.1 MS.2).bind fun Z=>(jg N N Y J U Z.1.1 Z.1.2 Z.2 J).bind fun M1=>lpB M1 fun (MT,M2,M4)=>(bif M2 then (ad U 1).bind fun M3=>gV N k MT J M3 else some (.inl (false,MT))))) else some (.inr (Y,U)))
def nJ (N:Nat) (a0:T6_) (a1:Int):Option (Bool×T6_):=(gV N N a0 a1 0).bind fun J=>lpS J (fun q=>some q) fun (U,Y)=>some (true,U)
def eV (N:Nat):Nat->T6_->T3_->Int->T6_->Int->Option (Sum (T3_×Bool) (T6_×Int))
 | 0,_,_,_,_,_=>none
 | k+1,Y,U,Z,MR,J=>(bif decide (J<Z) then (ix U J).bind fun MS=>(bz N MS.1 MS.2).bind fun MU=>(bif MU then (ix Y J).bind fun MV=>(ix U J).bind fun MT=>(apd 16 [] MV).bind fun MW=>(apd 16 MW [(MT.1,MT.2)]).bind fun MX=>(apd 24 MR [MX]).bind fun MY=>(ad J 1).bind fun MZ=>eV N k Y U Z MY MZ else some (.inl ([],false))) else some (.inr (MR,J)))
def fY (N:Nat):Nat->Int->T6_->Int->Int->Option Int
 | 0,_,_,_,_=>none
 | k+1,U,Y,Z,J=>(bif decide (J<U) then (ix Y J).bind fun MR=>(ix MR Z).bind fun MS=>(bif (MS.1 == 0) then (ad J 1).bind fun MT=>fY N k U Y Z MT else some J) else some J)
def eY (N:Nat):Nat->Int->T6_->Int->Option (Sum (T3_×Bool) (T6_×Int))
 | 0,_,_,_=>none
 | k+1,Y,U,J=>(bif decide (J<Y) then (fY N N Y U J J).bind fun MS=>lpB MS fun Z=>(bif (Z == Y) then some (.inl ([],false)) else (ix U Z).bind fun MT=>(ix U J).bind fun MU=>(ix U Z).bind fun MY=>(sto U Z MU).bind fun MV=>(sto MV J MT).bind fun MW=>(nJ N MW J).bind fun MR=>(bif MR.1 then (ad J 1).bind fun MX=>eY N k Y MR.2 MX else some (.inl ([],false)))) else some (.inr (U,J)))
def eQ (N:Nat):Nat->Int->T6_->T3_->Int->Option (Sum (T3_×Bool) (T3_×Int))
 | 0,_,_,_,_=>none
 | k+1,Y,Z,MT,J=>(bif decide (J<Y) then (ix Z J).bind fun MU=>(ix MU Y).bind fun MR=>(ix Z J).bind fun MV=>(ix MV J).bind fun MS=>(jD N MR.1 MR.2 MS.1 MS.2).bind fun U=>(bif U.2 then (apd 16 MT [(U.1.1,U.1.2)]).bind fun MW=>(ad J 1).bind fun MX=>eQ N k Y Z MW MX else some (.inl ([],false))) else some (.inr (MT,J)))
def d5 (N:Nat) (a0:T6_) (a1:T3_):Option (T3_×Bool):=(bif decide (6<(a1.length:Int)) then some ([],false) else (gF N a0 (a1.length:Int) (a1.length:Int)).bind fun MR=>(bif MR then (eV N N a0 a1 (a1.length:Int) [] 0).bind fun J=>lpS J (fun q=>some q) fun (MS,MV)=>(eY N N (a1.length:Int) MS 0).bind fun U=>lpS U (fun q=>some q) fun (MT,MW)=>(eQ N N (a1.length:Int) MT [] 0).bind fun Y=>lpS Y (fun q=>some q) fun (Z,MU)=>some (Z,true) else some ([],false)))
def hH (N:Nat) (a0 a1 a2 a3:Int):Option Int:=(bz N a0 a1).bind fun Y=>(bif Y then (bz N a2 a3).bind fun Z=>(bif Z then (ml a0 a3).bind fun J=>(ml a2 a1).bind fun U=>(bif decide (J<U) then some (-1) else (bif decide (U<J) then some 1 else some 0)) else some 0) else some 0)
def cA (N:Nat):Nat->T3_->T3_->Int->Int->Int->Int->Int->Option (Sum (T1_×Bool) (Int×Int×Int))
 | 0,_,_,_,_,_,_,_=>none
 | k+1,U,MR,MW,MX,MS,MT,J=>(bif decide (J<(U.length:Int)) then (ix U J).bind fun MU=>(ix MR J).bind fun MV=>(eD N MU.1 MU.2 MV.1 MV.2).bind fun Y=>(bif Y.2 then (fo N MS MT Y.1.1 Y.1.2).bind fun Z=>(bif Z.2 then (ad J 1).bind fun MY=>cA N k U MR MW MX Z.1.1 Z.1.2 MY else some (.inl ((0,0),false))) else some (.inl ((0,0),false))) else some (.inr (MS,MT,J)))
def gi (N:Nat) (a0 a1:T3_):Option (T1_×Bool):=(bif ((a0.length:Int) != (a1.length:Int)) then some ((0,0),false) else (cA N N a0 a1 0 0 0 1 0).bind fun J=>lpS J (fun q=>some q) fun (U,Y,Z)=>some ((U,Y),true))
def cw (N:Nat):Nat->T6_->T3_->T3_->Int->Option (Sum (T3_×Bool) (T3_×Int))
 | 0,_,_,_,_=>none
 | k+1,U,Z,MR,J=>(bif decide (J<(U.length:Int)) then (ix U J).bind fun MS=>(gi N MS Z).bind fun Y=>(bif Y.2 then (apd 16 MR [(Y.1.1,Y.1.2)]).bind fun MT=>(ad J 1).bind fun MU=>cw N k U Z MT MU else some (.inl ([],false))) else some (.inr (MR,J)))
def ji (N:Nat) (a0:T6_) (a1:T3_):Option (T3_×Bool):=(cw N N a0 a1 [] 0).bind fun J=>lpS J (fun q=>some q) fun (U,Y)=>some (U,true)
def i7 (N:Nat):Nat->T3_->Int->T6_->T3_->T3_->Int->Option (Sum Bool Int)
 | 0,_,_,_,_,_,_=>none
 | k+1,U,Z,MR,MS,MT,J=>(bif decide (J<(U.length:Int)) then (ix U J).bind fun Y=>(bz N Y.1 Y.2).bind fun MU=>(bif MU then (ix U J).bind fun MV=>(bif decide (MV.1<0) then some (.inl false) else (ad J 1).bind fun MW=>i7 N k U Z MR MS MT MW) else some (.inl false)) else some (.inr J))
def iu (N:Nat):Nat->Int->T6_->T3_->T3_->T3_->Bool->Int->Option (Sum Bool Int)
 | 0,_,_,_,_,_,_,_=>none
 | k+1,Y,MT,Z,MU,U,MV,J=>(bif decide (J<(U.length:Int)) then (ix U J).bind fun MR=>(ix Z J).bind fun MS=>(hH N MR.1 MR.2 MS.1 MS.2).bind fun MW=>(ml MW Y).bind fun MX=>(bif decide (MX<0) then some (.inl false) else (ad J 1).bind fun MY=>iu N k Y MT Z MU U MV MY) else some (.inr J))
def j5 (N:Nat) (a0:T6_) (a1 a2 a3:T3_) (a4:Int):Option Bool:=(eU N a0 a1 a2).bind fun U=>(bif U then (bif ((a3.length:Int) != (a2.length:Int)) then some false else (i7 N N a3 a4 a0 a1 a2 0).bind fun Y=>lpS Y (fun q=>some q) fun MR=>(ji N a0 a3).bind fun J=>(iu N N a4 a0 a1 a2 J.1 J.2 0).bind fun Z=>lpS Z (fun q=>some q) fun MS=>some J.2) else some false)
def fX (N:Nat):Nat->T3_->T3_->Int->Option (Sum Bool Int)
 | 0,_,_,_=>none
 | k+1,U,Y,J=>(bif decide (J<(U.length:Int)) then (ix U J).bind fun Z=>(ix Y J).bind fun MR=>(bif (Z.1 == MR.1&&Z.2 == MR.2) then (ad J 1).bind fun MS=>fX N k U Y MS else some (.inl false)) else some (.inr J))
def jo (N:Nat) (a0 a1:T3_):Option Bool:=(bif ((a0.length:Int) != (a1.length:Int)) then some false else (fX N N a0 a1 0).bind fun J=>lpS J (fun q=>some q) fun U=>some true)
def fC (N:Nat):Nat->Int->T6_->T3_->T3_->T6_->Int->Int->T2_->Int->T6_->T3_->Int->Int->T3_->Int->Option (T3_×Int)
 | 0,_,_,_,_,_,_,_,_,_,_,_,_,_,_,_=>none
 | k+1,Z,MR,MS,MT,MU,U,MV,MW,MX,MY,MZ,M1,M2,Y,J=>(bif decide (J<U) then (apd 16 Y [(0,1)]).bind fun M3=>(ad J 1).bind fun M4=>fC N k Z MR MS MT MU U MV MW MX MY MZ M1 M2 M3 M4 else some (Y,J))
def eJ (N:Nat):Nat->Int->T6_->T3_->T3_->T6_->Int->Int->T2_->Int->T6_->T3_->Int->Option (T6_×T3_×Int)
 | 0,_,_,_,_,_,_,_,_,_,_,_,_=>none
 | k+1,MX,Z,MR,MY,MZ,MS,U,MT,MU,MV,MW,J=>(bif decide (J<MS) then (ix MT MU).bind fun M4=>(ix M4 J).bind fun Y=>(bif decide (Y<U) then (ix Z Y).bind fun M5=>(apd 24 MV [M5]).bind fun M6=>(ix MR Y).bind fun M1=>(apd 16 MW [(M1.1,M1.2)]).bind fun M7=>(ad J 1).bind fun M8=>eJ N k MX Z MR MY MZ MS U MT MU M6 M7 M8 else (fC N N MX Z MR MY MZ MS U MT MU MV MW J Y [] 0).bind fun M9=>lpB M9 fun (M2,Nf)=>(sb Y U).bind fun M3=>(ix M2 M3).bind fun Ng=>(sto M2 M3 (1,1)).bind fun Na=>(apd 24 MV [Na]).bind fun Nb=>(apd 16 MW [(0,1)]).bind fun Nc=>(ad J 1).bind fun Nd=>eJ N k MX Z MR MY MZ MS U MT MU Nb Nc Nd) else some (MV,MW,J))
def gI (N:Nat):Nat->Int->T6_->T3_->T3_->T6_->Int->Int->T2_->Int->T3_->Bool->Int->Option (Bool×Int)
 | 0,_,_,_,_,_,_,_,_,_,_,_,_=>none
 | k+1,Z,MR,MS,MT,U,MU,MV,MW,MX,Y,MY,J=>(bif decide (J<(U.length:Int)) then (bif MY then (ad J 1).bind fun MZ=>gI N k Z MR MS MT U MU MV MW MX Y true MZ else (ix U J).bind fun M1=>(jo N M1 Y).bind fun M2=>(ad J 1).bind fun M3=>gI N k Z MR MS MT U MU MV MW MX Y M2 M3) else some (MY,J))
def fB (N:Nat):Nat->Int->T6_->T3_->T3_->T6_->Int->Int->T2_->Int->Option (T6_×Int)
 | 0,_,_,_,_,_,_,_,_,_=>none
 | k+1,U,Y,Z,MR,MS,MU,MV,MT,J=>(bif decide (J<(MT.length:Int)) then (eJ N N U Y Z MR MS MU MV MT J [] [] 0).bind fun MX=>lpB MX fun (M4,M5,M9)=>(d5 N M4 M5).bind fun MW=>(bif MW.2 then (j5 N Y Z MR MW.1 U).bind fun M6=>(bif M6 then (gI N N U Y Z MR MS MU MV MT J MW.1 false 0).bind fun MY=>lpB MY fun (M7,Na)=>(bif M7 then (ad J 1).bind fun M8=>fB N k U Y Z MR MS MU MV MT M8 else (apd 24 MS [MW.1]).bind fun MZ=>(ad J 1).bind fun M1=>fB N k U Y Z MR MZ MU MV MT M1) else (ad J 1).bind fun M2=>fB N k U Y Z MR MS MU MV MT M2) else (ad J 1).bind fun M3=>fB N k U Y Z MR MS MU MV MT M3) else some (MS,J))
def jB (N:Nat) (a0:T6_) (a1 a2:T3_) (a3:Int):Option T6_:=(ad (a1.length:Int) (a2.length:Int)).bind fun Y=>(gA N 0 Y (a2.length:Int)).bind fun Z=>(fB N N a3 a0 a1 a2 [] (a2.length:Int) (a1.length:Int) Z 0).bind fun J=>lpB J fun (U,MR)=>some U
def g9 (N:Nat) (a0:T6_) (a1 a2:T3_):Option T6_:=(eU N a0 a1 a2).bind fun J=>(bif J then (jB N a0 a1 a2 1).bind fun U=>some U else some [])
def cK (N:Nat):Nat->T3_->Int->Int->Option (Sum (yQ×Int) T1_)
 | 0,_,_,_=>none
 | k+1,U,Y,J=>(bif decide (J<(U.length:Int)) then (ix U J).bind fun Z=>(bz N Z.1 Z.2).bind fun MS=>(bif MS then (ix U J).bind fun MT=>(bif decide (MT.1<0) then some (.inl ([],0)) else (ix U J).bind fun MU=>(iK N Y MU.2).bind fun MV=>(qt Y MV).bind fun MW=>(ix U J).bind fun MX=>(ml MW MX.2).bind fun MR=>(bif decide (1000<MR) then some (.inl ([],0)) else (ad J 1).bind fun MY=>cK N k U MR MY)) else some (.inl ([],0))) else some (.inr (Y,J)))
def dL (N:Nat):Nat->T3_->Int->yQ->Int->Option (yQ×Int)
 | 0,_,_,_,_=>none
 | k+1,U,Y,Z,J=>(bif decide (J<(U.length:Int)) then (ix U J).bind fun MR=>(ix U J).bind fun MS=>(qt Y MS.2).bind fun MT=>(ml MR.1 MT).bind fun MU=>(apd 8 Z [MU]).bind fun MV=>(ad J 1).bind fun MW=>dL N k U Y MV MW else some (Z,J))
def dw (N:Nat) (a0:T3_):Option (yQ×Int):=(cK N N a0 1 0).bind fun U=>lpS U (fun q=>some q) fun (J,MR)=>(dL N N a0 J [] 0).bind fun Y=>lpB Y fun (Z,MS)=>some (Z,J)
def fw (N:Nat):Nat->yQ->Int->Option (Sum Bool Int)
 | 0,_,_=>none
 | k+1,U,J=>(bif decide (J<(U.length:Int)) then (ix U J).bind fun Y=>(dP N Y 0 9).bind fun Z=>(bif Z then (ad J 1).bind fun MR=>fw N k U MR else some (.inl false)) else some (.inr J))
def gm (N:Nat) (a0:yQ):Option Bool:=(fw N N a0 0).bind fun J=>lpS J (fun q=>some q) fun Z=>(bif decide ((a0.length:Int)<=60) then (bif ((a0.length:Int) == 0) then some true else (sb (a0.length:Int) 1).bind fun U=>(ix a0 U).bind fun Y=>some (Y != 0)) else some false)
def iw (N:Nat):Nat->yQ->yQ->yQ->Int->Int->Option (yQ×Int×Int)
 | 0,_,_,_,_,_=>none
 | k+1,Y,MR,Z,J,U=>(bif decide (U<(Y.length:Int)) then (ix Y U).bind fun MT=>(ad J MT).bind fun MS=>(rm MS 10).bind fun MU=>(apd 8 Z [MU]).bind fun MV=>(qt MS 10).bind fun MW=>(ad U 1).bind fun MX=>iw N k Y MR MV MW MX else (bif decide (0<J) then (rm J 10).bind fun MY=>(apd 8 Z [MY]).bind fun MZ=>(qt J 10).bind fun M1=>(ad U 1).bind fun M2=>iw N k Y MR MZ M1 M2 else some (Z,J,U)))
def ko (N:Nat):Nat->yQ->yQ->Option yQ
 | 0,_,_=>none
 | k+1,U,J=>(bif decide (0<(J.length:Int)) then (sb (J.length:Int) 1).bind fun Y=>(ix J Y).bind fun Z=>(bif (Z == 0) then (sb (J.length:Int) 1).bind fun MR=>(slc J 0 MR).bind fun MS=>ko N k U MS else some J) else some J)
def lE (N:Nat) (a0:yQ):Option (yQ×Bool):=(iw N N a0 [] [] 0 0).bind fun U=>lpB U fun (Y,MR,MS)=>(ko N N [] Y).bind fun Z=>lpB Z fun J=>(bif decide (60<(J.length:Int)) then some ([],false) else some (J,true))
def f9 (N:Nat):Nat->yQ->yQ->yQ->yQ->Int->Int->Option (yQ×Int)
 | 0,_,_,_,_,_,_=>none
 | k+1,MR,Z,MT,U,Y,J=>(bif decide (J<(Z.length:Int)) then (ad Y J).bind fun MS=>(ad Y J).bind fun MU=>(ix U MU).bind fun MV=>(ix MR Y).bind fun MW=>(ix Z J).bind fun MX=>(ml MW MX).bind fun MY=>(ad MV MY).bind fun MZ=>(ix U MS).bind fun M3=>(sto U MS MZ).bind fun M1=>(ad J 1).bind fun M2=>f9 N k MR Z MT M1 Y M2 else some (U,J))
def f8 (N:Nat):Nat->yQ->yQ->yQ->yQ->Int->Option (yQ×Int)
 | 0,_,_,_,_,_=>none
 | k+1,U,Y,Z,MR,J=>(bif decide (J<(U.length:Int)) then (f9 N N U Y Z MR J 0).bind fun MS=>lpB MS fun (MT,MV)=>(ad J 1).bind fun MU=>f8 N k U Y Z MT MU else some (MR,J))
def iU (N:Nat) (a0 a1:yQ):Option (yQ×Bool):=(gm N a0).bind fun U=>(bif U then (gm N a1).bind fun Y=>(bif Y then (ad (a0.length:Int) (a1.length:Int)).bind fun Z=>(mk 8 (0:Int) Z).bind fun MR=>(f8 N N a0 a1 [] MR 0).bind fun MS=>lpB MS fun (MT,MU)=>(lE N MT).bind fun J=>some (J.1,J.2) else some ([],false)) else some ([],false))
def hJ (N:Nat):Nat->Int->yQ->yQ->Option (Int×yQ)
 | 0,_,_,_=>none
 | k+1,J,Y,U=>(bif decide (0<J) then (rm J 10).bind fun Z=>(apd 8 U [Z]).bind fun MR=>(qt J 10).bind fun MS=>hJ N k MS Y MR else some (J,U))
def fV (N:Nat) (a0:Int):Option yQ:=(hJ N N a0 [] []).bind fun J=>lpB J fun (Y,U)=>some U
def dS (N:Nat):Nat->Int->Int->yQ->yQ->Int->Option (Sum (yQ×Bool) (yQ×Int))
 | 0,_,_,_,_,_=>none
 | k+1,U,Y,MS,Z,J=>(bif decide (J<Y) then (fV N U).bind fun MT=>(iU N Z MT).bind fun MR=>(bif MR.2 then (ad J 1).bind fun MU=>dS N k U Y MS MR.1 MU else some (.inl ([],false))) else some (.inr (Z,J)))
def ie (N:Nat) (a0 a1:Int):Option (yQ×Bool):=(bif decide (a0<0) then some ([],false) else (dP N a1 0 100).bind fun J=>(bif J then (fV N 1).bind fun U=>(dS N N a0 a1 [] U 0).bind fun Y=>lpS Y (fun q=>some q) fun (Z,MR)=>some (Z,true) else some ([],false)))
def bH (N:Nat):Nat->yQ->yQ->yQ->yQ->Int->Option (Sum (yQ×Bool) (yQ×Int))
 | 0,_,_,_,_,_=>none
 | k+1,U,Y,MT,Z,J=>(bif decide (J<(U.length:Int)) then (ix U J).bind fun MU=>(ix Y J).bind fun MV=>(ie N MU MV).bind fun MR=>(iU N Z MR.1).bind fun MS=>(bif MR.2 then (bif MS.2 then (ad J 1).bind fun MW=>bH N k U Y MT MS.1 MW else some (.inl ([],false))) else some (.inl ([],false))) else some (.inr (Z,J)))
def e7 (N:Nat) (a0 a1:yQ):Option (yQ×Bool):=(bif ((a0.length:Int) != (a1.length:Int)) then some ([],false) else (fV N 1).bind fun J=>(bH N N a0 a1 [] J 0).bind fun U=>lpS U (fun q=>some q) fun (Y,Z)=>some (Y,true))
def gE (N:Nat):Nat->yQ->yQ->Int->Option (Sum Int Int)
 | 0,_,_,_=>none
 | k+1,U,Y,J=>(bif decide (0<=J) then (ix U J).bind fun Z=>(ix Y J).bind fun MR=>(bif decide (Z<MR) then some (.inl (-1)) else (ix U J).bind fun MS=>(ix Y J).bind fun MT=>(bif decide (MT<MS) then some (.inl 1) else (sb J 1).bind fun MU=>gE N k U Y MU)) else some (.inr J))
def gO (N:Nat) (a0 a1:yQ):Option Int:=(gm N a0).bind fun J=>(bif J then (gm N a1).bind fun U=>(bif U then (bif ((a0.length:Int) != (a1.length:Int)) then (bif decide ((a0.length:Int)<(a1.length:Int)) then some (-1) else some 1) else (sb (a0.length:Int) 1).bind fun Y=>(gE N N a0 a1 Y).bind fun Z=>lpS Z (fun q=>some q) fun MR=>some 0) else some 0) else some 0)
def fq (N:Nat):Nat->yQ->yQ->Int->yQ->Int->Int->Option (yQ×yQ×Int)
 | 0,_,_,_,_,_,_=>none
 | k+1,MS,U,Z,Y,MR,J=>(bif decide (J<(U.length:Int)) then (ix U J).bind fun MT=>(ml MT MR).bind fun MU=>(ix U J).bind fun M1=>(sto U J MU).bind fun MV=>(ix Y J).bind fun MW=>(ml MW Z).bind fun MX=>(ix Y J).bind fun M2=>(sto Y J MX).bind fun MY=>(ad J 1).bind fun MZ=>fq N k MS MV Z MY MR MZ else some (U,Y,J))
def iT (N:Nat) (a0:yQ) (a1 a2:T3_):Option (Int×Bool):=(dw N a1).bind fun J=>(dw N a2).bind fun U=>(bif (J.2 == 0) then some (0,false) else (bif (U.2 == 0) then some (0,false) else (bif ((J.1.length:Int) != (a0.length:Int)) then some (0,false) else (bif ((U.1.length:Int) != (a0.length:Int)) then some (0,false) else (fq N N a0 J.1 J.2 U.1 U.2 0).bind fun MR=>lpB MR fun (MS,MT,MV)=>(e7 N a0 MS).bind fun Y=>(e7 N a0 MT).bind fun Z=>(bif Y.2 then (bif Z.2 then (gO N Y.1 Z.1).bind fun MU=>some (MU,true) else some (0,false)) else some (0,false))))))
def im (N:Nat):Nat->yQ->T6_->T3_->T3_->Int->Option (Sum (T3_×Bool) Int)
 | 0,_,_,_,_,_=>none
 | k+1,U,Y,Z,MR,J=>(bif decide (J<(U.length:Int)) then (ix U J).bind fun MS=>(dP N MS 0 16).bind fun MT=>(bif MT then (ad J 1).bind fun MU=>im N k U Y Z MR MU else some (.inl ([],false))) else some (.inr J))
def gK (N:Nat):Nat->yQ->T6_->T3_->Int->Option (T3_×Int)
 | 0,_,_,_,_=>none
 | k+1,Y,U,Z,J=>(bif decide (J<(U.length:Int)) then (ix U J).bind fun MR=>(iT N Y MR Z).bind fun MS=>(bif decide (MS.1<0) then (ix U J).bind fun MT=>(ad J 1).bind fun MU=>gK N k Y U MT MU else (ad J 1).bind fun MV=>gK N k Y U Z MV) else some (Z,J))
def k9 (N:Nat) (a0:Int) (a1:List (ByteArray×yQ)) (a2 a3:yQ):Option (T3_×Bool):=(jj N a0 a1 a2).bind fun J=>(bif J.2 then (bif ((a3.length:Int) != (a1.length:Int)) then some ([],false) else (im N N a3 J.1.1 J.1.2.1 J.1.2.2 0).bind fun Y=>lpS Y (fun q=>some q) fun MT=>(g9 N J.1.1 J.1.2.1 J.1.2.2).bind fun U=>(ix U 0).bind fun Z=>(gK N N a3 U Z 1).bind fun MR=>lpB MR fun (MS,MU)=>some (MS,true)) else some ([],false))
def ja (N:Nat):Nat->T3_->Int->Option (Sum Bool Int)
 | 0,_,_=>none
 | k+1,U,J=>(bif decide (J<(U.length:Int)) then (ix U J).bind fun Y=>(bif decide (Y.1<0) then some (.inl false) else (ad J 1).bind fun Z=>ja N k U Z) else some (.inr J))
def nK (N:Nat) (a0:T3_):Option Bool:=(ja N N a0 0).bind fun J=>lpS J (fun q=>some q) fun U=>some true
def gj (N:Nat):Nat->Int->T6_->T3_->T3_->Int->Int->T3_->Int->Int->T6_->Bool->Int->Option (T3_×Int×Int×Bool×Int)
 | 0,_,_,_,_,_,_,_,_,_,_,_,_=>none
 | k+1,Z,MS,MT,MR,MU,MV,MZ,MW,MX,U,MY,J=>(bif decide (J<(U.length:Int)) then (ix U J).bind fun M1=>(gi N MR M1).bind fun Y=>(bif Y.2 then (bif MY then (hH N Y.1.1 Y.1.2 MW MX).bind fun M2=>(ml M2 Z).bind fun M3=>(bif decide (M3<0) then (ix U J).bind fun M4=>(ad J 1).bind fun M5=>gj N k Z MS MT MR MU MV M4 Y.1.1 Y.1.2 U true M5 else (ad J 1).bind fun M6=>gj N k Z MS MT MR MU MV MZ MW MX U MY M6) else (ix U J).bind fun M7=>(ad J 1).bind fun M8=>gj N k Z MS MT MR MU MV M7 Y.1.1 Y.1.2 U true M8) else (ad J 1).bind fun M9=>gj N k Z MS MT MR MU MV MZ MW MX U MY M9) else some (MZ,MW,MX,MY,J))
def pX (N:Nat) (a0:T6_) (a1 a2:T3_) (a3:Int):Option (T3_×T1_×Bool):=(jB N a0 a1 a2 a3).bind fun J=>(gj N N a3 a0 a1 a2 0 0 [] 0 0 J false 0).bind fun U=>lpB U fun (Y,Z,MR,MS,MT)=>some (Y,(Z,MR),MS)
def oV (N:Nat) (a0:T6_) (a1 a2:T3_):Option (T3_×T1_×Bool):=(eU N a0 a1 a2).bind fun U=>(bif U then (nK N a2).bind fun Y=>(bif Y then (pX N a0 a1 a2 1).bind fun J=>some (J.1,(J.2.1.1,J.2.1.2),J.2.2) else some ([],(0,0),false)) else some ([],(0,0),false))
def kB (N:Nat) (a0:Int) (a1:List (ByteArray×yQ)) (a2:yQ):Option (T3_×T1_×Bool):=(jj N a0 a1 a2).bind fun J=>(bif J.2 then (oV N J.1.1 J.1.2.1 J.1.2.2).bind fun U=>some (U.1,(U.2.1.1,U.2.1.2),U.2.2) else some ([],(0,0),false))
def jK (N:Nat):Nat->Int->Int->Option T1_
 | 0,_,_=>none
 | k+1,U,J=>(bif (J != 0) then (rm U J).bind fun Y=>jK N k J Y else some (U,J))
def mo (N:Nat) (a0 a1:Int):Option Int:=(jK N N a0 a1).bind fun J=>lpB J fun (U,Y)=>some U
def sB (N:Nat) (a0:Int):Option Int:=(sb 0 a0).bind fun J=>some (imx a0 J)
def dp (N:Nat) (a0 a1:Int):Option Bool:=(fd N a1 1 1000000000).bind fun J=>(bif J then (fd N a0 (-1000000000) 1000000000).bind fun U=>(bif U then (sB N a0).bind fun Y=>(mo N Y a1).bind fun Z=>some (Z == 1) else some false) else some false)
def fM (N:Nat):Nat->T3_->Int->T3_->Int->Int->Option (Sum (yQ×Int) Int)
 | 0,_,_,_,_,_=>none
 | k+1,MR,MS,Y,Z,J=>(bif decide (J<Z) then (ix Y J).bind fun U=>(dp N U.1 U.2).bind fun MT=>(bif MT then (bif decide (U.1<0) then some (.inl ([],0)) else (ad J 1).bind fun MU=>fM N k MR MS Y Z MU) else some (.inl ([],0))) else some (.inr J))
def fN (N:Nat):Nat->T3_->Int->T3_->Int->Int->Option (Sum (yQ×Int) T1_)
 | 0,_,_,_,_,_=>none
 | k+1,MT,U,Y,Z,J=>(bif decide (J<Z) then (ix Y J).bind fun MR=>(mo N U MR.2).bind fun MU=>(qt U MU).bind fun MV=>(ml MV MR.2).bind fun MS=>(bif decide (1000<MS) then some (.inl ([],0)) else (ad J 1).bind fun MW=>fN N k MT MS Y Z MW) else some (.inr (U,J)))
def dJ (N:Nat):Nat->Int->yQ->T3_->Int->Int->Option (yQ×Int)
 | 0,_,_,_,_,_=>none
 | k+1,U,Y,Z,MR,J=>(bif decide (J<MR) then (ix Z J).bind fun MS=>(qt U MS.2).bind fun MT=>(ml MS.1 MT).bind fun MU=>(apd 8 Y [MU]).bind fun MV=>(ad J 1).bind fun MW=>dJ N k U MV Z MR MW else some (Y,J))
def i6 (N:Nat) (a0:T3_):Option (yQ×Int):=(fM N N a0 1 a0 (a0.length:Int) 0).bind fun U=>lpS U (fun q=>some q) fun MS=>(fN N N a0 1 a0 (a0.length:Int) 0).bind fun Y=>lpS Y (fun q=>some q) fun (J,MT)=>(dJ N N J [] a0 (a0.length:Int) 0).bind fun Z=>lpB Z fun (MR,MU)=>some (MR,J)
def fx (N:Nat):Nat->yQ->Int->yQ->Int->Int->Option (Sum Bool Int)
 | 0,_,_,_,_,_=>none
 | k+1,Z,MR,U,Y,J=>(bif decide (J<Y) then (ix U J).bind fun MS=>(fd N MS 0 9).bind fun MT=>(bif MT then (ad J 1).bind fun MU=>fx N k Z MR U Y MU else some (.inl false)) else some (.inr J))
def gq (N:Nat) (a0:yQ):Option Bool:=(fx N N a0 (a0.length:Int) a0 (a0.length:Int) 0).bind fun J=>lpS J (fun q=>some q) fun Z=>(bif decide ((a0.length:Int)<=60) then (bif ((a0.length:Int) == 0) then some true else (sb (a0.length:Int) 1).bind fun U=>(ix a0 U).bind fun Y=>some (Y != 0)) else some false)
def cq (N:Nat):Nat->yQ->yQ->yQ->Int->Int->Option (yQ×Int×Int)
 | 0,_,_,_,_,_=>none
 | k+1,Y,MR,Z,J,U=>(bif decide (U<(Y.length:Int)) then (ix Y U).bind fun MT=>(ad J MT).bind fun MS=>(rm MS 10).bind fun MU=>(apd 8 Z [MU]).bind fun MV=>(qt MS 10).bind fun MW=>(ad U 1).bind fun MX=>cq N k Y MR MV MW MX else (bif decide (0<J) then (rm J 10).bind fun MY=>(apd 8 Z [MY]).bind fun MZ=>(qt J 10).bind fun M1=>(ad U 1).bind fun M2=>cq N k Y MR MZ M1 M2 else some (Z,J,U)))
def kc (N:Nat):Nat->yQ->yQ->Int->Option Int
 | 0,_,_,_=>none
 | k+1,Y,U,J=>(bif decide (0<J) then (sb J 1).bind fun Z=>(ix U Z).bind fun MR=>(bif (MR == 0) then (sb J 1).bind fun MS=>kc N k Y U MS else some J) else some J)
def iH (N:Nat) (a0:yQ):Option (yQ×Bool):=(cq N N a0 [] [] 0 0).bind fun Y=>lpB Y fun (J,MS,MT)=>(kc N N [] J (J.length:Int)).bind fun Z=>lpB Z fun U=>(slc J 0 U).bind fun MR=>(bif decide (60<U) then some ([],false) else some (MR,true))
def dB (N:Nat):Nat->yQ->yQ->yQ->Int->Int->yQ->Int->Int->yQ->Int->Int->Option (yQ×Int)
 | 0,_,_,_,_,_,_,_,_,_,_,_=>none
 | k+1,MU,MV,U,Z,MR,MW,MX,MY,MS,MT,J=>(bif decide (J<MT) then (ix MS J).bind fun MZ=>(ad Z J).bind fun Y=>(ix U Y).bind fun M1=>(ml MR MZ).bind fun M2=>(ad M1 M2).bind fun M3=>(ix U Y).bind fun M6=>(sto U Y M3).bind fun M4=>(ad J 1).bind fun M5=>dB N k MU MV M4 Z MR MW MX MY MS MT M5 else some (U,J))
def dC (N:Nat):Nat->yQ->yQ->yQ->yQ->Int->Int->Option (yQ×Int)
 | 0,_,_,_,_,_,_=>none
 | k+1,U,MR,MS,Y,Z,J=>(bif decide (J<Z) then (ix Y J).bind fun MT=>(dB N N U MR MS J MT Y Z J U (U.length:Int) 0).bind fun MU=>lpB MU fun (MV,MX)=>(ad J 1).bind fun MW=>dC N k U MR MV Y Z MW else some (MS,J))
def ib (N:Nat) (a0 a1:yQ):Option (yQ×Bool):=(gq N a0).bind fun U=>(bif U then (gq N a1).bind fun Y=>(bif Y then (ad (a0.length:Int) (a1.length:Int)).bind fun Z=>(mk 8 (0:Int) Z).bind fun MR=>(dC N N a1 [] MR a0 (a0.length:Int) 0).bind fun MS=>lpB MS fun (MT,MU)=>(iH N MT).bind fun J=>some (J.1,J.2) else some ([],false)) else some ([],false))
def cS (N:Nat):Nat->Int->yQ->yQ->Option (Int×yQ)
 | 0,_,_,_=>none
 | k+1,J,Y,U=>(bif decide (0<J) then (rm J 10).bind fun Z=>(apd 8 U [Z]).bind fun MR=>(qt J 10).bind fun MS=>cS N k MS Y MR else some (J,U))
def d9 (N:Nat) (a0:Int):Option yQ:=(cS N N a0 [] []).bind fun J=>lpB J fun (Y,U)=>some U
def cn (N:Nat):Nat->Int->Int->yQ->yQ->Int->Option (Sum (yQ×Bool) (yQ×Int))
 | 0,_,_,_,_,_=>none
 | k+1,U,Y,MS,Z,J=>(bif decide (J<Y) then (d9 N U).bind fun MT=>(ib N Z MT).bind fun MR=>(bif MR.2 then (ad J 1).bind fun MU=>cn N k U Y MS MR.1 MU else some (.inl ([],false))) else some (.inr (Z,J)))
def ia (N:Nat) (a0 a1:Int):Option (yQ×Bool):=(bif decide (a0<0) then some ([],false) else (fd N a1 0 100).bind fun J=>(bif J then (d9 N 1).bind fun U=>(cn N N a0 a1 [] U 0).bind fun Y=>lpS Y (fun q=>some q) fun (Z,MR)=>some (Z,true) else some ([],false)))
def cd (N:Nat):Nat->yQ->yQ->yQ->yQ->Int->Int->Option (Sum (yQ×Bool) (yQ×Int))
 | 0,_,_,_,_,_,_=>none
 | k+1,U,Y,MU,Z,MR,J=>(bif decide (J<MR) then (ix U J).bind fun MV=>(ix Y J).bind fun MW=>(ia N MV MW).bind fun MS=>(ib N Z MS.1).bind fun MT=>(bif MS.2 then (bif MT.2 then (ad J 1).bind fun MX=>cd N k U Y MU MT.1 MR MX else some (.inl ([],false))) else some (.inl ([],false))) else some (.inr (Z,J)))
def jh (N:Nat) (a0 a1:yQ):Option (yQ×Bool):=(bif ((a0.length:Int) != (a1.length:Int)) then some ([],false) else (d9 N 1).bind fun J=>(cd N N a0 a1 [] J (a0.length:Int) 0).bind fun U=>lpS U (fun q=>some q) fun (Y,Z)=>some (Y,true))
def dn (N:Nat):Nat->yQ->yQ->Int->Option (Sum Int Int)
 | 0,_,_,_=>none
 | k+1,U,Y,J=>(bif decide (0<=J) then (ix U J).bind fun Z=>(ix Y J).bind fun MR=>(bif (Z != MR) then (ix U J).bind fun MS=>(ix Y J).bind fun MT=>(gu N MS MT).bind fun MU=>some (.inl MU) else (sb J 1).bind fun MV=>dn N k U Y MV) else some (.inr J))
def gM (N:Nat) (a0 a1:yQ):Option Int:=(gq N a0).bind fun J=>(bif J then (gq N a1).bind fun U=>(bif U then (bif ((a0.length:Int) != (a1.length:Int)) then (gu N (a0.length:Int) (a1.length:Int)).bind fun Y=>some Y else (sb (a0.length:Int) 1).bind fun Z=>(dn N N a0 a1 Z).bind fun MR=>lpS MR (fun q=>some q) fun MS=>some 0) else some 0) else some 0)
def eM (N:Nat):Nat->yQ->Int->Int->yQ->Int->yQ->Int->Int->Option (Sum Bool Int)
 | 0,_,_,_,_,_,_,_,_=>none
 | k+1,Z,MR,MS,MT,MU,U,Y,J=>(bif decide (J<Y) then (ix U J).bind fun MV=>(bif decide (MV<0) then some (.inl false) else (ad J 1).bind fun MW=>eM N k Z MR MS MT MU U Y MW) else some (.inr J))
def kM (N:Nat) (a0:yQ) (a1:T3_) (a2 a3:Int):Option Bool:=(i6 N a1).bind fun J=>(bif decide (a2<0) then some false else (bif decide (J.2<1) then some false else (bif decide (100<J.2) then some false else (eM N N a0 a2 a3 J.1 J.2 a0 (a0.length:Int) 0).bind fun MS=>lpS MS (fun q=>some q) fun MU=>(ia N a2 J.2).bind fun U=>(jh N a0 J.1).bind fun Y=>(ia N a3 J.2).bind fun Z=>(ib N Y.1 Z.1).bind fun MR=>(bif U.2 then (bif Y.2 then (bif Z.2 then (bif MR.2 then (gM N U.1 MR.1).bind fun MT=>some (decide (MT<=0)) else some false) else some false) else some false) else some false))))
def mM (N:Nat) (a0:Int) (a1:List (ByteArray×yQ)) (a2:yQ) (a3:Int):Option Int:=(gH N a0 a1 a2).bind fun J=>(bif J then (fd N a3 0 1000000).bind fun U=>(bif U then (ml 2 a0).bind fun Y=>(ml Y (a1.length:Int)).bind fun Z=>(ml Z a3).bind fun MR=>some MR else some 0) else some 0)
def gG (N:Nat) (a0:Int) (a1:List (ByteArray×yQ)) (a2 a3:yQ) (a4:T3_) (a5:Int):Option Bool:=(gH N a0 a1 a2).bind fun J=>(bif J then (mM N a0 a1 a2 1).bind fun U=>(kM N a3 a4 a5 U).bind fun Y=>some Y else some false)
def jz (N:Nat) (a0:Int) (a1:List (ByteArray×yQ)) (a2:yQ) (a3:Int):Option Int:=(eH N a0 a1 a2).bind fun J=>(bif J then (dP N a3 0 1000000).bind fun U=>(bif U then (ml 2 a0).bind fun Y=>(ml Y (a1.length:Int)).bind fun Z=>(ml Z a3).bind fun MR=>some MR else some 0) else some 0)
def d7 (N:Nat) (a0:Int) (a1:List (ByteArray×yQ)) (a2 a3:yQ) (a4:T3_) (a5:Int):Option Bool:=(dw N a4).bind fun J=>(e7 N a3 J.1).bind fun U=>(ie N a5 J.2).bind fun Y=>(jz N a0 a1 a2 1).bind fun MS=>(ie N MS J.2).bind fun Z=>(iU N U.1 Z.1).bind fun MR=>(bif decide (0<J.2) then (bif U.2 then (bif Y.2 then (bif Z.2 then (bif MR.2 then (eH N a0 a1 a2).bind fun MT=>(bif MT then (gO N Y.1 MR.1).bind fun MU=>some (decide (MU<=0)) else some false) else some false) else some false) else some false) else some false) else some false)
def mV (N:Nat) (a0:yQ):Option Bool:=(vR N a0).bind fun MR=>(bif MR then some true else (jq N a0).bind fun J=>(kq N J.1 J.2.1.1 J.2.1.2.1 J.2.1.2.2 J.2.2).bind fun U=>(pB N J.1 J.2.1.1 J.2.1.2.1 J.2.1.2.2 J.2.2).bind fun MS=>(bif MS then (kI N J.1 J.2.1.1 J.2.1.2.1 J.2.1.2.2 J.2.2).bind fun Y=>(mJ N J.1 J.2.1.1 J.2.1.2.1 J.2.1.2.2).bind fun Z=>(k9 N J.2.1.1 J.2.1.2.1 J.2.1.2.2 Z.1).bind fun MT=>(kB N J.2.1.1 J.2.1.2.1 J.2.1.2.2).bind fun MU=>(bif U.2 then (bif ((U.1.length:Int) == (J.2.1.2.1.length:Int)) then (bif Y.2.2 then (gG N J.2.1.1 J.2.1.2.1 J.2.1.2.2 Z.1 MT.1 Y.2.1).bind fun MV=>(bif MV then (d7 N J.2.1.1 J.2.1.2.1 J.2.1.2.2 Z.1 MU.1 Y.2.1).bind fun MW=>some MW else some false) else some false) else some false) else some false) else (bif U.2 then some false else some ((U.1.length:Int) == 0))))
def inR (n lo hi:Int):Bool:=decide (lo<=n)&&decide (n<=hi)
theorem gJ (N:Nat) (n lo hi:Int):fd N n lo hi=some (inR n lo hi):=by
 unfold fd inR;cases decide (lo<=n) <;> rfl
theorem fh (N:Nat) (n lo hi:Int):dP N n lo hi=some (inR n lo hi):=by
 unfold dP inR;cases decide (lo<=n) <;> rfl
theorem cg {n lo hi:Int}:inR n lo hi=true↔lo<=n/\n<=hi:=by unfold inR;simp
def mg (a b:Int):Int:=if a<b then -1 else if b<a then 1 else 0
def b7:yQ->yQ->Int
 | [],[]=>0
 | [],_ :: _=>-1
 | _ :: _,[]=>1
 | a :: xs,b :: ys=>if a<b then -1 else if b<a then 1 else b7 xs ys
theorem l8:∀ {xs ys:yQ},b7 xs ys=0↔xs=ys
 | [],[]=>by simp [b7]
 | [],_ :: _=>by simp [b7]
 | _ :: _,[]=>by simp [b7]
 | a :: xs,b :: ys=>by
  unfold b7
  by_cases h1:a<b
  ·rw [aY h1];simp;omega
  ·rw [ba h1]
   by_cases h2:b<a
   ·rw [aY h2];simp;omega
   ·rw [ba h2,l8,List.cons.injEq]
    constructor
    ·rintro rfl;exact ⟨oa,rfl⟩
    ·exact fun h=>h.2
theorem CP (xs:yQ):b7 xs []=if xs.length=0 then 0 else 1:=by cases xs <;> simp [b7]
theorem Dq (xs:yQ):b7 [] xs=if xs.length=0 then 0 else -1:=by cases xs <;> simp [b7]
theorem lc (N:Nat) (a b:Int):gu N a b=some (mg a b):=by
 unfold gu mg
 by_cases h1:a<b
 ·rw [aX h1,aY h1];rfl
 ·rw [bb h1,ba h1]
  by_cases h2:b<a
  ·rw [aX h2,aY h2];rfl
  ·rw [bb h2,ba h2];rfl
theorem gr {α:Type} {xs:List α} {i:Nat} (h:i<xs.length):xs.drop i=xs[i] :: xs.drop (i+1):=List.drop_eq_getElem_cons h
section
variable {N:Nat} {xs ys:yQ}
theorem HI (hx:xs.length<=1048576) (hy:ys.length<=9223372036854775807):∀ k i,i<=xs.length->i<=ys.length->xs.length-i<k ->
  ∃ s,ju N k xs ys (i:Int)=some s/\(match s with | .inl r=>b7 (xs.drop i) (ys.drop i)=r | .inr _=>b7 (xs.drop i) (ys.drop i)=mg xs.length ys.length):=by
 intro k
 induction k with
 | zero=>intro i h1 h2 h3;omega
 | succ k ih =>
  intro i h1 h2 h3
  rw [ju]
  by_cases h:i<xs.length
  ·by_cases h':i<ys.length
   ·rw [dlt h,ag,dlt h',ag,bf h,bs,bf h',bs,gr h,gr h',b7]
    by_cases he:xs[i]=ys[i]
    ·rw [show (xs[i] != ys[i])=false by simpa using he,am,ad1 oa,bs,ba oa,ba oa]
     exact ih (i+1) oa oa oa
    ·rw [show (xs[i] != ys[i])=true by simpa using he,ag,bs,bs,lc,bs]
     refine ⟨_,rfl,?_⟩
     show _=mg xs[i] ys[i]
     unfold mg
     by_cases h1:xs[i]<ys[i]
     ·rw [aY h1,aY h1]
     ·rw [ba h1,ba h1,aY oa,aY oa]
   ·rw [dlt h,ag,dge h',am]
    refine ⟨_,rfl,?_⟩
    show _=mg _ _
    rw [li (l:=ys) oa,CP,ba (by simp;omega)]
    unfold mg;rw [ba oa,aY oa]
  ·rw [dge h,am]
   refine ⟨_,rfl,?_⟩
   show _=mg _ _
   rw [li (l:=xs) oa,Dq]
   unfold mg
   by_cases h':i<ys.length
   ·rw [ba (by simp;omega),aY oa]
   ·rw [aY (by simp;omega),ba oa,ba oa]
theorem lG (hN:1073741824<=N) (hx:xs.length<=1048576) (hy:ys.length<=9223372036854775807):gx N xs ys=some (b7 xs ys):=by
 obtain ⟨s,h1,h2⟩:=HI (N:=N) hx hy N 0 oa oa oa
 unfold gx
 rw [show ((0:Int))=((0:Nat):Int) from rfl,h1,bs]
 simp only [gR] at h2
 cases s with
 | inl r=>rw [h2];rfl
 | inr v=>show (gu N _ _).bind _=_;rw [lc,bs,h2]
theorem Hs (hx:xs.length<=1048576) (hy:ys.length<=9223372036854775807):∀ k i,i<=xs.length->i<=ys.length->xs.length-i<k ->
  ∃ s,jp N k xs ys (i:Int)=some s/\(match s with | .inl r=>b7 (xs.drop i) (ys.drop i)=r | .inr _=>b7 (xs.drop i) (ys.drop i)=mg xs.length ys.length):=by
 intro k
 induction k with
 | zero=>intro i h1 h2 h3;omega
 | succ k ih =>
  intro i h1 h2 h3
  rw [jp]
  by_cases h:i<xs.length
  ·by_cases h':i<ys.length
   ·rw [dlt h,ag,dlt h',ag,bf h,bs,bf h',bs,gr h,gr h',b7]
    by_cases he:xs[i]<ys[i]
    ·rw [aX he,ag,aY he];exact ⟨_,rfl,rfl⟩
    ·rw [bb he,am,ba he,bs,bs]
     by_cases he2:ys[i]<xs[i]
     ·rw [aX he2,ag,aY he2];exact ⟨_,rfl,rfl⟩
     ·rw [bb he2,am,ba he2,ad1 oa,bs]
      exact ih (i+1) oa oa oa
   ·rw [dlt h,ag,dge h',am]
    refine ⟨_,rfl,?_⟩
    show _=mg _ _
    rw [li (l:=ys) oa,CP,ba (by simp;omega)]
    unfold mg;rw [ba oa,aY oa]
  ·rw [dge h,am]
   refine ⟨_,rfl,?_⟩
   show _=mg _ _
   rw [li (l:=xs) oa,Dq]
   unfold mg
   by_cases h':i<ys.length
   ·rw [ba (by simp;omega),aY oa]
   ·rw [aY (by simp;omega),ba oa,ba oa]
theorem ny (hN:1073741824<=N) (hx:xs.length<=1048576) (hy:ys.length<=9223372036854775807):cp N xs ys=some (b7 xs ys):=by
 obtain ⟨s,h1,h2⟩:=Hs (N:=N) hx hy N 0 oa oa oa
 unfold cp
 rw [show ((0:Int))=((0:Nat):Int) from rfl,h1,bs]
 simp only [gR] at h2
 cases s with
 | inl r=>rw [h2];rfl
 | inr v =>
  rw [h2]
  show (bif decide ((xs.length:Int)<(ys.length:Int)) then _ else _)=_
  unfold mg
  by_cases h1:(xs.length:Int)<ys.length
  ·rw [aX h1,aY h1];rfl
  ·rw [bb h1,ba h1,am]
   by_cases h2:(ys.length:Int)<xs.length
   ·rw [aX h2,aY h2];rfl
   ·rw [bb h2,ba h2];rfl
def fnd (v:Int):yQ->Int->Int
 | [],_=>-1
 | x :: xs,i=>if x=v then i else fnd v xs (i+1)
def fZ (xs:yQ) (v:Int):Int:=fnd v xs 0
theorem C2 (v:Int):∀ (xs:yQ) (i:Nat),(v∉xs/\fnd v xs i=-1)\/∃ j,∃ h:j<xs.length,xs[j]=v/\fnd v xs i=((i+j:Nat):Int)/\v∉xs.take j
 | [],i=>.inl ⟨by simp,rfl⟩
 | x :: xs,i=>by
  unfold fnd
  by_cases h:x=v
  ·rw [aY h];exact .inr ⟨0,by simp,by simpa using h,by simp,by simp⟩
  ·rw [ba h]
   rcases C2 v xs (i+1) with ⟨h1,h2⟩ | ⟨j,hj,h1,h2,h3⟩
   ·exact .inl ⟨by simp [h1,rx h],by simpa using h2⟩
   ·exact .inr ⟨j+1,by simpa using hj,by simpa using h1,by rw [show ((i:Int)+1)=((i+1:Nat):Int) by simp,h2];congr 1;omega,by simp [h3,rx h]⟩
theorem si (xs:yQ) (v:Int):(v∉xs/\fZ xs v=-1)\/∃ j,∃ h:j<xs.length,xs[j]=v/\fZ xs v=(j:Int)/\v∉xs.take j:=by
 have:=C2 v xs 0
 simpa [fZ] using this
theorem qb (xs:yQ) (v:Int):decide (0<=fZ xs v)=decide (v∈xs):=by
 rcases si xs v with ⟨h1,h2⟩ | ⟨j,hj,h1,h2,_⟩
 ·rw [h2,bb oa,bb h1]
 ·rw [h2,aX oa,aX (h1 ▸ bG hj)]
theorem vU (hN:1073741824<=N) (hx:xs.length<=1048576) (v:Int):lD N xs v=some (fZ xs v):=by
 have key:∀ k i,i<=xs.length->xs.length-i<k->∃ s,l9 N k v xs (xs.length:Int) (i:Int)=some s/\(match s with | .inl r=>fnd v (xs.drop i) i=r | .inr _=>fnd v (xs.drop i) i=-1):=by
  intro k
  induction k with
  | zero=>intro i h1 h2;omega
  | succ k ih =>
   intro i h1 h2
   rw [l9]
   by_cases h:i<xs.length
   ·rw [dlt h,ag,bf h,bs,gr h,fnd]
    by_cases he:xs[i]=v
    ·rw [show (xs[i] == v)=true by simpa using he,ag,aY he];exact ⟨_,rfl,rfl⟩
    ·rw [show (xs[i] == v)=false by simpa using he,am,ba he,ad1 oa,bs]
     have:=ih (i+1) oa oa
     simpa using this
   ·rw [dge h,am,li oa];exact ⟨_,rfl,rfl⟩
 obtain ⟨s,h1,h2⟩:=key N 0 oa oa
 unfold lD fZ
 rw [show ((0:Int))=((0:Nat):Int) from rfl,h1,bs]
 simp only [gR] at h2
 cases s with
 | inl r=>rw [h2];rfl
 | inr r=>rw [h2];rfl
theorem o9 (hN:1073741824<=N) (hx:xs.length<=1048576) (v:Int):jM N xs v=some (fZ xs v):=by
 have key:∀ k i,i<=xs.length->xs.length-i<k->∃ s,mG N k xs v (i:Int)=some s/\(match s with | .inl r=>fnd v (xs.drop i) i=r | .inr _=>fnd v (xs.drop i) i=-1):=by
  intro k
  induction k with
  | zero=>intro i h1 h2;omega
  | succ k ih =>
   intro i h1 h2
   rw [mG]
   by_cases h:i<xs.length
   ·rw [dlt h,ag,bf h,bs,gr h,fnd]
    by_cases he:xs[i]=v
    ·rw [show (xs[i] == v)=true by simpa using he,ag,aY he];exact ⟨_,rfl,rfl⟩
    ·rw [show (xs[i] == v)=false by simpa using he,am,ba he,ad1 oa,bs]
     have:=ih (i+1) oa oa
     simpa using this
   ·rw [dge h,am,li oa];exact ⟨_,rfl,rfl⟩
 obtain ⟨s,h1,h2⟩:=key N 0 oa oa
 unfold jM fZ
 rw [show ((0:Int))=((0:Nat):Int) from rfl,h1,bs]
 simp only [gR] at h2
 cases s with
 | inl r=>rw [h2];rfl
 | inr r=>rw [h2];rfl
theorem w9 (hN:1073741824<=N) (hx:xs.length<=1048576) (v:Int):mf N xs v=some (decide (v∈xs)):=by
 unfold mf;rw [vU hN hx,bs,qb]
def cX (xs:yQ):Bool:=xs.all fun x=>inR x 0 99
theorem oJ (hN:1073741824<=N) (hx:xs.length<=1048576):iG N xs=some (cX xs):=by
 have:=my (L:=fun k i=>ff N k xs (xs.length:Int) i) xs.length oa false (fun i=>if h:i<xs.length then inR xs[i] 0 99 else true) (xs.length:Int)
  (fun k i h=>by
   show ff N (k+1) xs _ (i:Int)=_
   rw [ff,dlt h,ag,bf h,bs,gJ,bs,ad1 oa,bs]
   simp only [jc h])
  (fun k=>by
   show ff N (k+1) xs _ (xs.length:Int)=_
   rw [ff,dge oa,am]) N 0 oa oa
 unfold iG cX
 rw [show ((0:Int))=((0:Nat):Int) from rfl,this,bs,iM,ma xs (fun x=>inR x 0 99) _ (fun i hi=>by rw [jc hi])]
 cases xs.all fun x=>inR x 0 99 <;> rfl
theorem oL (hN:1073741824<=N) (hx:xs.length<=1048576):iC N xs=some (cX xs):=by
 have:=my (L:=fun k i=>fc N k xs i) xs.length oa false (fun i=>if h:i<xs.length then inR xs[i] 0 99 else true) (xs.length:Int)
  (fun k i h=>by
   show fc N (k+1) xs (i:Int)=_
   rw [fc,dlt h,ag,bf h,bs,fh,bs,ad1 oa,bs]
   simp only [jc h])
  (fun k=>by
   show fc N (k+1) xs (xs.length:Int)=_
   rw [fc,dge oa,am]) N 0 oa oa
 unfold iC cX
 rw [show ((0:Int))=((0:Nat):Int) from rfl,this,bs,iM,ma xs (fun x=>inR x 0 99) _ (fun i hi=>by rw [jc hi])]
 cases xs.all fun x=>inR x 0 99 <;> rfl
def asc:yQ->Bool
 | []=>true
 | [_]=>true
 | x :: y :: t=>decide (x<y)&&asc (y :: t)
theorem MH {L:Nat->Int->Option (Sum Bool Int)} (hx:xs.length<=1048576)
  (hs:∀ k i (h:i+1<xs.length),L (k+1) ((i+1:Nat):Int)=bif decide (xs[i+1]<=xs[i]) then some (.inl false) else L k ((i+2:Nat):Int)) (he:∀ k i,xs.length<=i->L (k+1) (i:Int)=some (.inr (i:Int))) :
  ∀ k i,xs.length-i<k->L k ((i+1:Nat):Int)=some (if asc (xs.drop i) then .inr ((max xs.length (i+1):Nat):Int) else .inl false):=by
 intro k
 induction k with
 | zero=>intro i hk;omega
 | succ k ih =>
  intro i hk
  by_cases h:i+1<xs.length
  ·rw [hs k i h,gr (by omega:i<xs.length),gr h,asc]
   by_cases hle:xs[i+1]<=xs[i]
   ·rw [aX hle,ag,bb oa];rfl
   ·rw [bb hle,am,aX (by omega:xs[i]<xs[i+1]),cW,<- gr h]
    have:=ih (i+1) oa
    rw [this]
    congr 2
    rw [Nat.max_eq_left oa,Nat.max_eq_left oa]
  ·rw [he k (i+1) oa]
   have ha:asc (xs.drop i)=true:=by
    by_cases h2:i<xs.length
    ·rw [gr h2,li oa];rfl
    ·rw [li oa];rfl
   rw [ha,aY rfl,Nat.max_eq_right oa]
theorem rp (hN:1073741824<=N) (hx:xs.length<=1048576):hQ N xs=some (asc xs):=by
 have:=MH (L:=fun k i=>dl N k xs i) hx
  (fun k i h=>by
   show dl N (k+1) xs ((i+1:Nat):Int)=_
   rw [dl,dlt h,ag,eC oa oa,bs,show (((i+1:Nat):Int)-1)=(i:Int) by omega,bf oa,bs,bf h,bs,ad1 oa,bs])
  (fun k i h=>by
   show dl N (k+1) xs (i:Int)=_
   rw [dl,dge oa,am]) N 0 oa
 unfold hQ
 rw [show ((1:Int))=((0+1:Nat):Int) from rfl,this,bs,gR]
 cases asc xs <;> rfl
def jt (xs:yQ) (n:Int):Bool:=(List.range' 0 xs.length).all fun i=>inR (xs.getD i 0) 0 (n-1)&&!decide (xs.getD i 0∈xs.take i)
theorem bQ {xs:yQ} {i:Nat} (h:i<xs.length):xs.getD i 0=xs[i]:=by simp [h]
theorem vp (hN:1073741824<=N) (hx:xs.length<=1048576) {n:Int} (hn:-1099511627776<=n/\n<=1099511627776):lx N xs n=some (jt xs n):=by
 have:=my (L:=fun k i=>iv N k xs n xs (xs.length:Int) i) xs.length oa false (fun i=>inR (xs.getD i 0) 0 (n-1)&&!decide (xs.getD i 0∈xs.take i)) (xs.length:Int)
  (fun k i h=>by
   show iv N (k+1) xs n xs _ (i:Int)=_
   rw [iv,dlt h,ag,bf h,bs,eC oa oa,bs,gJ,bs,show ((0:Int))=((0:Nat):Int) from rfl,lC (cD _) oa,bs,gR,w9 hN (by simp;omega),bs,ad1 oa,bs]
   simp only [show ((0:Nat):Int)=0 from rfl,bQ h]
   cases inR xs[i] 0 (n-1)
   ·rfl
   ·cases decide (xs[i]∈xs.take i) <;> rfl)
  (fun k=>by
   show iv N (k+1) xs n xs _ (xs.length:Int)=_
   rw [iv,dge oa,am]) N 0 oa oa
 unfold lx jt
 rw [show ((0:Int))=((0:Nat):Int) from rfl,this,bs,iM]
 simp only [show ((0:Nat):Int)=0 from rfl]
 cases (List.range' 0 xs.length).all fun i=>inR (xs.getD i 0) 0 (n-1)&&!decide (xs.getD i 0∈xs.take i) <;> rfl
def mN (xs:yQ):Bool:=decide ((xs.length:Int)<=5)&&jt xs xs.length
theorem ut (hN:1073741824<=N) (hx:xs.length<=1048576):jU N xs=some (mN xs):=by
 unfold jU mN
 rw [vp hN hx oa,bs]
 cases decide ((xs.length:Int)<=5) <;> rfl
theorem uB (hN:1073741824<=N) (hx:xs.length<=1048576):jS N xs=some (mN xs):=by
 have:=my (L:=fun k i=>fz N k xs i) xs.length oa false (fun i=>inR (xs.getD i 0) 0 ((xs.length:Int)-1)&&!decide (xs.getD i 0∈xs.take i)) (xs.length:Int)
  (fun k i h=>by
   show fz N (k+1) xs (i:Int)=_
   rw [fz,dlt h,ag,bf h,bs,eC oa oa,bs,fh,bs,show ((0:Int))=((0:Nat):Int) from rfl,lC (cD _) oa,bs,bs,gR,o9 hN (by simp;omega),bs,ad1 oa,bs]
   simp only [bQ h,qb,show ((0:Nat):Int)=0 from rfl]
   cases inR xs[i] 0 ((xs.length:Int)-1)
   ·rfl
   ·cases decide (xs[i]∈xs.take i) <;> rfl)
  (fun k=>by
   show fz N (k+1) xs (xs.length:Int)=_
   rw [fz,dge oa,am]) N 0 oa oa
 unfold jS mN jt
 rw [show ((0:Int))=((0:Nat):Int) from rfl,this,bs,iM]
 simp only [show ((0:Nat):Int)=0 from rfl]
 cases (List.range' 0 xs.length).all fun i=>inR (xs.getD i 0) 0 ((xs.length:Int)-1)&&!decide (xs.getD i 0∈xs.take i)
 ·cases decide ((xs.length:Int)<=5) <;> rfl
 ·cases decide ((xs.length:Int)<=5) <;> rfl
end
abbrev okI (xs:yQ):Prop:=td (fun _=>True) 1048576 xs
abbrev iY (xs:List (yQ)):Prop:=td (td (fun _=>True) 1048576) 1048576 xs
section
variable {N:Nat}
theorem HF (xs ys:yQ):(b7 xs ys != 0)=!decide (xs=ys):=by
 rw [H5];congr 1;rw [decide_eq_decide];exact l8
theorem HD (xs ys:yQ):(b7 xs ys == 0)=decide (xs=ys):=by
 rw [FG,decide_eq_decide];exact l8
end
def rZ (n:Int) (rows:List (yQ)) (i:Nat):Bool :=
 decide (((rows.getD i []).length:Int)=n)&&cX (rows.getD i [])&&(Nat.beq i 0||decide (b7 (rows.getD (i-1) []) (rows.getD i [])<0))
def bP (n:Int) (rows:List (yQ)):Bool:=inR n 0 5&&decide ((rows.length:Int)<=4000)&&(List.range' 0 rows.length).all (rZ n rows)
theorem iP {rows:List (yQ)} {i:Nat} (h:i<rows.length):rows.getD i []=rows[i]:=by simp [h]
section
variable {N:Nat}
theorem BN (a:Int):decide (0<=a)=!decide (a<0):=by by_cases h:a<0 <;> simp [h];omega
theorem Cr (hN:1073741824<=N) {n:Int} {rows:List (yQ)} (hx:iY rows):mz N n rows=some (bP n rows):=by
 have hl:=hx.1
 have:=my (L:=fun k i=>f6 N k n rows rows (rows.length:Int) i) rows.length oa false (rZ n rows) (rows.length:Int)
  (fun k i h=>by
   have h1:=(hx.2 _ (bG h)).1
   show f6 N (k+1) n rows rows _ (i:Int)=_
   rw [f6,dlt h,ag,bf h,bs,H5,oJ hN h1,bs]
   unfold rZ
   rw [iP h]
   cases decide ((rows[i].length:Int)=n)
   ·rfl
   cases cX rows[i]
   ·rfl
   cases i with
   | zero=>rw [ad1 oa];rfl
   | succ j =>
    rw [show decide (0<((j+1:Nat):Int))=true from aX oa,eC oa oa,bs,show (((j+1:Nat):Int)-1)=(j:Int) by omega,bf oa,bs,lG hN (hx.2 _ (bG oa)).1 oa,bs,ad1 oa,bs,BN,ru,iP oa]
    cases decide (b7 rows[j] rows[j+1]<0) <;> rfl)
  (fun k=>by
   show f6 N (k+1) n rows rows _ (rows.length:Int)=_
   rw [f6,dge oa,am]) N 0 oa oa
 unfold mz bP
 rw [gJ,bs,show ((0:Int))=((0:Nat):Int) from rfl,this,bs,iM]
 by_cases h4:(rows.length:Int)<=4000
 ·rw [aX h4,bb (by omega:¬ (4000:Int)<rows.length)]
  simp only [show ((0:Nat):Int)=0 from rfl]
  cases inR n 0 5 <;> cases (List.range' 0 rows.length).all (rZ n rows) <;> rfl
 ·rw [bb h4,aX (by omega:(4000:Int)<rows.length)]
  simp only [show ((0:Nat):Int)=0 from rfl]
  cases inR n 0 5 <;> rfl
theorem jn (hN:1073741824<=N) {n:Int} {rows:List (yQ)} (hx:iY rows):dT N n rows=some (bP n rows):=by
 unfold dT;rw [Cr hN hx,bs]
theorem ow (hN:1073741824<=N) {n:Int} {rows:List (yQ)} (hx:iY rows):gw N n rows=some (bP n rows):=by
 have hl:=hx.1
 have:=my (L:=fun k i=>dI N k n rows i) rows.length oa false (rZ n rows) (rows.length:Int)
  (fun k i h=>by
   have h1:=(hx.2 _ (bG h)).1
   show dI N (k+1) n rows (i:Int)=_
   rw [dI,dlt h,ag,bf h,bs,H5,bs,oL hN h1,bs]
   unfold rZ
   rw [iP h]
   cases decide ((rows[i].length:Int)=n)
   ·rfl
   cases cX rows[i]
   ·rfl
   cases i with
   | zero=>rw [ad1 oa];rfl
   | succ j =>
    rw [show decide (0<((j+1:Nat):Int))=true from aX oa,eC oa oa,bs,show (((j+1:Nat):Int)-1)=(j:Int) by omega,bf oa,bs,bs,ny hN (hx.2 _ (bG oa)).1 oa,bs,ad1 oa,bs,BN,ru,iP oa]
    cases decide (b7 rows[j] rows[j+1]<0) <;> rfl)
  (fun k=>by
   show dI N (k+1) n rows (rows.length:Int)=_
   rw [dI,dge oa,am]) N 0 oa oa
 unfold gw bP
 rw [fh,bs,show ((0:Int))=((0:Nat):Int) from rfl,this,bs,iM]
 by_cases h4:(rows.length:Int)<=4000
 ·rw [aX h4,bb (by omega:¬ (4000:Int)<rows.length)]
  simp only [show ((0:Nat):Int)=0 from rfl]
  cases inR n 0 5 <;> cases (List.range' 0 rows.length).all (rZ n rows) <;> rfl
 ·rw [bb h4,aX (by omega:(4000:Int)<rows.length)]
  simp only [show ((0:Nat):Int)=0 from rfl]
  cases inR n 0 5 <;> rfl
theorem dR {n:Int} {rows:List (yQ)} (h:bP n rows=true):0<=n/\n<=5/\rows.length<=4000/\∀ i (hi:i<rows.length),(rows[i].length:Int)=n/\cX rows[i]=true/\(∀ j (hj:j+1=i),b7 (rows[j]'oa) rows[i]<0):=by
 unfold bP at h
 simp only [bV,cg,dM,dN] at h
 refine ⟨h.1.1.1,h.1.1.2,oa,fun i hi=>?_⟩
 have:=h.2 i (by simp;omega)
 unfold rZ at this
 rw [iP hi] at this
 simp only [bV,dM,q9] at this
 refine ⟨this.1.1,this.1.2,?_⟩
 rintro j rfl
 rcases this.2 with h2 | h2
 ·exact absurd (sK h2) oa
 ·rw [ru,iP oa] at h2;exact h2

theorem tI {a b:Int} (h:b≠0):rm a b=some (a.tmod b):=by unfold rm;rw [aY h]
theorem Bd {a b:Int} (ha:0<=a) (hb:0<b):0<=a.tmod b/\a.tmod b<b:=⟨Int.tmod_nonneg _ ha,Int.tmod_lt_of_pos _ hb⟩
end
abbrev mY:=yQ × yQ
def HS (far:yQ) (i:Nat) (ch:yQ) (j:Nat):Bool:=inR (ch.getD j 0) 0 ((i:Int)-1)&&decide (far.getD (ch.getD j 0).toNat 0=far.getD (ch.getD 0 0).toNat 0)
def EE (nodes:List mY) (i:Nat) (x:mY):Bool:=((nodes.take i).drop 1).all fun m=>!decide (m=x)
def Ir (nodes:List mY) (olen:Nat) (far:yQ) (i:Nat) (x:mY):Option Int :=
 bif decide (x.1.length=x.2.length)&&cX x.1&&asc x.1 then
  bif decide (x.1.length=0) then (bif decide (i+1=nodes.length) then some (olen:Int) else none)
  else bif (List.range' 0 x.2.length).all (HS far i x.2)&&EE nodes i x then some (far.getD (x.2.getD 0 0).toNat 0+1) else none
 else none
structure VF (olen:Nat) (nodes:List mY) (far:yQ):Prop where
 pos:1<=nodes.length
 le:nodes.length<=4000
 z1:(nodes.getD 0 ([],[])).1=[]
 z2:(nodes.getD 0 ([],[])).2=[]
 len:far.length=nodes.length
 f0:far.getD 0 0=0
 last:far.getD (nodes.length-1) 0=(olen:Int)
 nd:∀ i,1<=i->i<nodes.length->Ir nodes olen (far.take i) i (nodes.getD i ([],[]))=some (far.getD i 0)
theorem FR {xs:yQ} {i j:Nat} (h:j<i):(xs.take i).getD j 0=xs.getD j 0:=by
 rw [pF,pF,ll,aY h]
theorem VF.node {olen:Nat} {nodes:List mY} {far:yQ} (V:VF olen nodes far) {i:Nat} (h1:1<=i) (h2:i<nodes.length) :
    (nodes.getD i ([],[])).1.length=(nodes.getD i ([],[])).2.length/\asc (nodes.getD i ([],[])).1=true /\
    ((nodes.getD i ([],[])).1=[]/\i+1=nodes.length/\far.getD i 0=olen \/
     (nodes.getD i ([],[])).1≠[]/\∀ j,j<(nodes.getD i ([],[])).2.length->0<=(nodes.getD i ([],[])).2.getD j 0/\(nodes.getD i ([],[])).2.getD j 0<i/\far.getD ((nodes.getD i ([],[])).2.getD j 0).toNat 0+1=far.getD i 0):=by
  have h:=V.nd i h1 h2
  generalize nodes.getD i ([],[])=x at *
  unfold Ir at h
  cases e1:(decide (x.1.length=x.2.length)&&cX x.1&&asc x.1) with
  | false=>rw [e1] at h;cases h
  | true =>
    rw [e1,ag] at h
    simp only [bV,dM] at e1
    refine ⟨e1.1.1,e1.2,?_⟩
    by_cases hz:x.1.length=0
    · rw [aX hz,ag] at h
      by_cases hi:i+1=nodes.length
      · rw [aX hi,ag] at h
        exact .inl ⟨lV.1 hz,hi,(c9 h).symm⟩
      · rw [bb hi] at h;cases h
    · rw [bb hz,am] at h
      cases ha:(List.range' 0 x.2.length).all (HS (far.take i) i x.2) with
      | false=>rw [ha] at h;cases h
      | true =>
        rw [ha,cW] at h
        cases hb:EE nodes i x with
        | false=>rw [hb] at h;cases h
        | true =>
          rw [hb,ag] at h
          refine .inr ⟨fun e=>hz (by simp [e]),fun j hj=>?_⟩
          have hc:∀ j,j<x.2.length->0<=x.2.getD j 0/\x.2.getD j 0<i/\far.getD (x.2.getD j 0).toNat 0=(far.take i).getD (x.2.getD 0 0).toNat 0:=by
            intro j hj
            have:=(dN.1 ha) j (by simp;omega)
            unfold HS at this
            simp only [bV,dM] at this
            have g:=cg.1 this.1
            refine ⟨g.1,oa,?_⟩
            rw [<- this.2,FR oa]
          obtain ⟨q1,q2,q3⟩:=hc j hj
          exact ⟨q1,q2,by rw [q3];exact c9 h⟩
theorem gD {σ V:Type} (L:Nat->σ->Int->Option V) (n:Nat) (A:Nat->σ) (v:V)
  (hstep:∀ k i,i<n->L (k+1) (A i) (i:Int)=L k (A (i+1)) ((i+1:Nat):Int)) (hend:∀ k,L (k+1) (A n) (n:Int)=some v) :
  ∀ k i,i<=n->n-i<k->L k (A i) (i:Int)=some v:=by
 intro k
 induction k with
 | zero=>intro i hi hk;omega
 | succ k ih =>
  intro i hi hk
  by_cases h:i<n
  ·rw [hstep k i h];exact ih (i+1) oa oa
  ·obtain rfl:i=n:=by omega
   exact hend k
theorem VF.lens {olen:Nat} {nodes:List mY} {far:yQ} (V:VF olen nodes far) {i:Nat} (h2:i<nodes.length):(nodes.getD i ([],[])).1.length=(nodes.getD i ([],[])).2.length:=by
 by_cases h1:1<=i
 ·exact (V.node h1 h2).1
 ·obtain rfl:i=0:=by omega
  rw [V.z1,V.z2]
theorem VF.asc {olen:Nat} {nodes:List mY} {far:yQ} (V:VF olen nodes far) {i:Nat} (h2:i<nodes.length):Go.Proofs.YteemghjjopdljaaGreat.asc (nodes.getD i ([],[])).1=true:=by
 by_cases h1:1<=i
 ·exact (V.node h1 h2).2.1
 ·obtain rfl:i=0:=by omega
  rw [V.z1];rfl
section
variable {N:Nat}
theorem Bg {b:Nat} {α:Type} {xs:List α} (hb:b<=64) (h:xs.length<=1048576):apd b [] xs=some xs:=by
 rw [bB hb (by simp;omega)];rfl
theorem DG {b:Nat} {α:Type} {xs:List α} {i:Nat} (hb:b<=64) (h:i<xs.length) (hl:xs.length<=1048576):apd b (xs.take i) [xs[i]]=some (xs.take (i+1)):=by
 rw [bB hb (by simp;omega),gl h]
theorem Bb {rows:List (yQ)} (h:iY rows) {i:Nat} (hi:i<rows.length):rows[i].length<=1048576:=(h.2 _ (bG hi)).1
theorem BX (hN:1073741824<=N) {a:Int} {rows:List (yQ)} (h:iY rows):nq N a rows=some (a,rows):=by
 have hl:=h.1
 unfold nq
 have hL:=gD (fun k (s:List (yQ)) i=>ij N k a rows 0 [] a s i) rows.length (fun i=>rows.take i) (rows,(rows.length:Int))
  (fun k i hi=>by
   show ij N (k+1) a rows 0 [] a (rows.take i) (i:Int)=_
   rw [ij,dlt hi,ag,bf hi,bs,Bg (by decide) (Bb h hi),bs,DG (by decide) hi hl,bs,ad1 oa,bs])
  (fun k=>by
   show ij N (k+1) a rows 0 [] a (rows.take rows.length) (rows.length:Int)=_
   rw [ij,dge oa,am,fG]) N 0 oa oa
 have hL':ij N N a rows 0 [] a [] 0=_:=hL
 rw [hL',bs,lpB]
theorem tY (hN:1073741824<=N) {rows:List (yQ)} (h:iY rows):lS N rows=some rows:=by
 have hl:=h.1
 unfold lS
 have hL:=gD (fun k (s:List (yQ)) i=>gv N k s rows (rows.length:Int) i) rows.length (fun i=>rows.take i) (rows,(rows.length:Int))
  (fun k i hi=>by
   show gv N (k+1) (rows.take i) rows (rows.length:Int) (i:Int)=_
   rw [gv,dlt hi,ag,bf hi,bs,kt,Bg (by decide) (Bb h hi),bs,bs,DG (by decide) hi hl,bs,ad1 oa,bs])
  (fun k=>by
   show gv N (k+1) (rows.take rows.length) rows (rows.length:Int) (rows.length:Int)=_
   rw [gv,dge oa,am,fG]) N 0 oa oa
 have hL':gv N N [] rows (rows.length:Int) 0=_:=hL
 rw [hL',bs,lpB]
theorem Ak (hN:1073741824<=N) {a:Int} {rows:List (yQ)} (h:iY rows):kC N a rows=some (a,rows):=by
 unfold kC
 rw [tY hN h,bs]
end
def nG (ls:List (yQ)):Bool:=ls.all asc&&decide (0<ls.length)
section
variable {N:Nat}
theorem HK {L:Nat->Int->Option (Sum Bool Int)} {ls:List (yQ)} (hN:1073741824<=N) (h:iY ls)
  (hs:∀ k i (hi:i<ls.length),L (k+1) (i:Int)=bif asc ls[i] then L k ((i+1:Nat):Int) else some (.inl false)) (he:∀ k,L (k+1) (ls.length:Int)=some (.inr (ls.length:Int))) :
  (L N 0).bind (fun s=>lpS s (fun q=>some q) fun _=>some (decide (0<(ls.length:Int))))=some (nG ls):=by
 have hl:=h.1
 have:=my L ls.length oa false (fun i=>if h:i<ls.length then asc ls[i] else true) (ls.length:Int)
  (fun k i hi=>by rw [hs k i hi];simp only [jc hi]) he N 0 oa oa
 rw [show ((0:Int))=((0:Nat):Int) from rfl,this,bs,iM,ma ls asc _ (fun i hi=>by rw [jc hi])]
 unfold nG
 cases ls.all asc
 ·rfl
 ·simp only [ag,lpS,cW];simp
theorem xR (hN:1073741824<=N) {ls:List (yQ)} (h:iY ls):jv N ls=some (nG ls):=by
 have hl:=h.1
 unfold jv
 exact HK hN h (L:=fun k i=>e9 N k ls ls (ls.length:Int) i)
  (fun k i hi=>by
   show e9 N (k+1) ls ls (ls.length:Int) (i:Int)=_
   rw [e9,dlt hi,ag,bf hi,bs,rp hN (Bb h hi),bs,ad1 oa,bs])
  (fun k=>by
   show e9 N (k+1) ls ls (ls.length:Int) (ls.length:Int)=_
   rw [e9,dge oa,am])
end
theorem yq {α R V:Type} (L:Nat->Int->Option (Sum R V)) (xs:List α) (q:α->Bool) (g:α->R) (v:V) (hl:xs.length<1099511627776)
  (hstep:∀ k i (h:i<xs.length),L (k+1) (i:Int)=bif q xs[i] then some (.inl (g xs[i])) else L k ((i+1:Nat):Int)) (hend:∀ k,L (k+1) (xs.length:Int)=some (.inr v)) :
  ∀ k i,i<=xs.length->xs.length-i<k->L k (i:Int)=some (match (xs.drop i).find? q with | some x=>.inl (g x) | none=>.inr v):=by
 intro k
 induction k with
 | zero=>intro i h1 h2;omega
 | succ k ih =>
  intro i h1 h2
  by_cases h:i<xs.length
  ·rw [hstep k i h,gr h,List.find?_cons]
   cases hq:q xs[i]
   ·rw [am];exact ih (i+1) oa oa
   ·rfl
  ·obtain rfl:i=xs.length:=by omega
   rw [hend,List.drop_length];rfl
abbrev bF:=ByteArray × (Int × List (yQ))
abbrev o8 (ts:List bF):Prop:=td (fun x=>x.1.size<=1048576/\td (td (fun _=>True) 1048576) 1048576 x.2.2) 1048576 ts
def um (s:ByteArray) (i:Nat):Int:=match s[i]? with | some b=>(b.toNat:Int) | none=>0
theorem Lh {s:ByteArray} {i:Nat} (h:i<s.size):bx s (i:Int)=some (um s i):=by
 unfold bx um
 rw [aY oa,iQ,getElem?_pos s i h];rfl
def qw (s:ByteArray) (i:Nat):Bool:=!decide (um s i<97)&&!decide (122<um s i)
def oS (s:ByteArray):Bool:=inR s.size 1 4&&(List.range' 0 s.size).all (qw s)
def sk (ts:List bF) (i:Nat):Bool :=
 let t:=ts.getD i (ByteArray.empty,0,[])
 oS t.1&&(Nat.beq i 0||ltS (ts.getD (i-1) (ByteArray.empty,0,[])).1 t.1)&&bP t.2.1 t.2.2&&!decide (t.2.1<1)&&!decide (16<(t.2.2.length:Int))
def o4 (ts:List bF):Bool:=decide ((ts.length:Int)<=6)&&(List.range' 0 ts.length).all (sk ts)
def ce (ts:List bF) (s:ByteArray):(Int × List (yQ)) × Bool :=
 bif o4 ts then (match ts.find? (fun t=>decide (t.1=s)) with | some t=>(t.2,true) | none=>((0,[]),false)) else ((0,[]),false)
theorem sq {ts:List bF} {i:Nat} (h:i<ts.length):ts.getD i (ByteArray.empty,0,[])=ts[i]:=by simp [h]
section
variable {N:Nat}
theorem Ks {L:Nat->Int->Option (Sum Bool Int)} {s:ByteArray} (hs:s.size<=1048576) (hN:1073741824<=N)
  (hstep:∀ k i,L (k+1) i=(bif decide (i<(s.size:Int)) then (bx s i).bind fun a=>(bif decide (a<97) then some (.inl false) else (bx s i).bind fun b=>(bif decide (122<b) then some (.inl false) else (ad i 1).bind fun j=>L k j)) else some (.inr i))) :
  L N 0=some (bif (List.range' 0 s.size).all (qw s) then .inr (s.size:Int) else .inl false):=by
 have:=my L s.size oa false (qw s) (s.size:Int)
  (fun k i h=>by
   rw [hstep,dlt h,ag,Lh h,bs,bs,ad1 oa,bs]
   unfold qw
   cases decide (um s i<97)
   ·cases decide (122<um s i) <;> rfl
   ·rfl)
  (fun k=>by rw [hstep,dge oa,am]) N 0 oa oa
 rw [iM] at this
 exact this
theorem qj (hN:1073741824<=N) {s:ByteArray} (hs:s.size<=1048576):jH N s=some (oS s):=by
 unfold jH ot oS
 by_cases h1:(s.size:Int)<1
 ·rw [aX h1,show inR (s.size:Int) 1 4=false by rw [<- xa,cg];omega];rfl
 by_cases h4:(4:Int)<s.size
 ·rw [bb h1,aX h4,show inR (s.size:Int) 1 4=false by rw [<- xa,cg];omega];rfl
 rw [bb h1,bb h4,show inR (s.size:Int) 1 4=true by rw [cg];omega,am,am,Ks (L:=fun k i=>jk N k s i) hs hN (fun k i=>by
  show jk N (k+1) s i=_
  rw [jk]),bs]
 cases (List.range' 0 s.size).all (qw s) <;> rfl
theorem qq (hN:1073741824<=N) {s:ByteArray} (hs:s.size<=1048576):jC N s=some (oS s):=by
 unfold jC oS
 rw [Ks (L:=fun k i=>iA N k s i) hs hN (fun k i=>by
  show iA N (k+1) s i=_
  rw [iA]),bs]
 cases (List.range' 0 s.size).all (qw s)
 ·cases inR (s.size:Int) 1 4 <;> rfl
 ·simp only [ag,lpS,fh,bs,xb]
theorem ov (hN:1073741824<=N) {ts:List bF} (hx:o8 ts):ic N ts=some (o4 ts):=by
 have hl:=hx.1
 have:=my (L:=fun k i=>df N k ts ts (ts.length:Int) i) ts.length oa false (sk ts) (ts.length:Int)
  (fun k i h=>by
   obtain ⟨g1,g2⟩:=hx.2 _ (bG h)
   show df N (k+1) ts ts (ts.length:Int) (i:Int)=_
   rw [df,dlt h,ag,bf h,bs,qj hN g1,bs]
   unfold sk
   rw [sq h]
   simp only []
   cases oS ts[i].1
   ·rfl
   rw [jn hN g2,bs]
   cases i with
   | zero =>
    rw [ad1 oa]
    simp only [bs]
    cases bP ts[0].2.1 ts[0].2.2
    ·rfl
    ·show (bif decide _ then _ else _)=_
     cases decide (ts[0].2.1<1)
     ·cases decide (16<(ts[0].2.2.length:Int)) <;> rfl
     ·cases decide (16<(ts[0].2.2.length:Int)) <;> rfl
   | succ j =>
    rw [show decide (0<((j+1:Nat):Int))=true from aX oa,eC oa oa,bs,show (((j+1:Nat):Int)-1)=(j:Int) by omega,bf oa,bs,ad1 oa,ru,sq oa]
    simp only [bs]
    cases ltS ts[j].1 ts[j+1].1
    ·rfl
    cases bP ts[j+1].2.1 ts[j+1].2.2
    ·rfl
    ·show (bif decide _ then _ else _)=_
     cases decide (ts[j+1].2.1<1)
     ·cases decide (16<(ts[j+1].2.2.length:Int)) <;> rfl
     ·cases decide (16<(ts[j+1].2.2.length:Int)) <;> rfl)
  (fun k=>by
   show df N (k+1) ts ts (ts.length:Int) (ts.length:Int)=_
   rw [df,dge oa,am]) N 0 oa oa
 rw [iM] at this
 unfold ic o4
 by_cases h6:(6:Int)<ts.length
 ·rw [aX h6,bb (by omega:¬ (ts.length:Int)<=6)];rfl
 rw [bb h6,aX (by omega:(ts.length:Int)<=6),am,cW]
 have this':df N N ts ts (ts.length:Int) 0=_:=this
 rw [this',bs]
 cases (List.range' 0 ts.length).all (sk ts) <;> rfl
theorem lO (hN:1073741824<=N) {ts:List bF} (hx:o8 ts):ii N ts=some (o4 ts):=by
 have hl:=hx.1
 have:=my (L:=fun k i=>de N k ts i) ts.length oa false (sk ts) (ts.length:Int)
  (fun k i h=>by
   obtain ⟨g1,g2⟩:=hx.2 _ (bG h)
   show de N (k+1) ts (i:Int)=_
   rw [de,dlt h,ag,bf h,bs,qq hN g1,bs]
   unfold sk
   rw [sq h]
   simp only []
   cases oS ts[i].1
   ·rfl
   rw [ow hN g2,bs]
   cases i with
   | zero =>
    rw [ad1 oa]
    simp only [bs]
    cases bP ts[0].2.1 ts[0].2.2
    ·rfl
    ·show (bif decide _ then _ else _)=_
     cases decide (ts[0].2.1<1)
     ·cases decide (16<(ts[0].2.2.length:Int)) <;> rfl
     ·cases decide (16<(ts[0].2.2.length:Int)) <;> rfl
   | succ j =>
    rw [show decide (0<((j+1:Nat):Int))=true from aX oa,eC oa oa,bs,show (((j+1:Nat):Int)-1)=(j:Int) by omega,bf oa,bs,ad1 oa,ru,sq oa]
    simp only [bs]
    cases ltS ts[j].1 ts[j+1].1
    ·rfl
    cases bP ts[j+1].2.1 ts[j+1].2.2
    ·rfl
    ·show (bif decide _ then _ else _)=_
     cases decide (ts[j+1].2.1<1)
     ·cases decide (16<(ts[j+1].2.2.length:Int)) <;> rfl
     ·cases decide (16<(ts[j+1].2.2.length:Int)) <;> rfl)
  (fun k=>by
   show de N (k+1) ts (ts.length:Int)=_
   rw [de,dge oa,am]) N 0 oa oa
 rw [iM] at this
 unfold ii o4
 have this':de N N ts 0=_:=this
 rw [this',bs]
 cases (List.range' 0 ts.length).all (sk ts)
 ·simp only [am,lpS,pQ]
 ·simp only [ag,lpS,xb]
theorem oO (hN:1073741824<=N) {ts:List bF} {s:ByteArray} (hx:o8 ts):iD N ts s=some (ce ts s):=by
 have hl:=hx.1
 unfold iD ce
 rw [ov hN hx,bs]
 cases o4 ts
 ·rfl
 rw [ag,ag]
 have:=yq (fun k i=>dU N k s 0 [] ts (ts.length:Int) i) ts (fun t=>decide (t.1=s)) (fun t=>(t.2,true)) (ts.length:Int) oa
  (fun k i h=>by
   obtain ⟨g1,g2⟩:=hx.2 _ (bG h)
   show dU N (k+1) s 0 [] ts _ (i:Int)=_
   rw [dU,dlt h,ag,bf h,bs,Ak hN g2,bs,ad1 oa,bs,EB])
  (fun k=>by
   show dU N (k+1) s 0 [] ts _ (ts.length:Int)=_
   rw [dU,dge oa,am]) N 0 oa oa
 rw [gR] at this
 have this':dU N N s 0 [] ts (ts.length:Int) 0=_:=this
 rw [this',bs]
 cases ts.find? (fun t=>decide (t.1=s)) <;> rfl
theorem oU (hN:1073741824<=N) {ts:List bF} {s:ByteArray} (hx:o8 ts):iB N ts s=some (ce ts s):=by
 have hl:=hx.1
 unfold iB ce
 cases hv:o4 ts
 ·obtain ⟨M,rfl⟩:∃ M,N=M+1:=⟨N-1,oa⟩
  rw [dm,lO hN hx,bs,hv]
  cases decide ((0:Int)<(ts.length:Int)) <;> rfl
 rw [ag]
 have:=yq (fun k i=>dm N k s ts 0 [] i) ts (fun t=>decide (t.1=s)) (fun t=>(t.2,true)) (ts.length:Int) oa
  (fun k i h=>by
   obtain ⟨g1,g2⟩:=hx.2 _ (bG h)
   show dm N (k+1) s ts 0 [] (i:Int)=_
   rw [dm,dlt h,ag,lO hN hx,bs,hv,ag,bf h,bs,bs,BX hN g2,bs,ad1 oa,bs,EB])
  (fun k=>by
   show dm N (k+1) s ts 0 [] (ts.length:Int)=_
   rw [dm,dge oa,am]) N 0 oa oa
 rw [gR] at this
 have this':dm N N s ts 0 [] 0=_:=this
 rw [this',bs]
 cases ts.find? (fun t=>decide (t.1=s)) <;> rfl
end
theorem qA:∀ (a b:yQ),b7 b a=- b7 a b
 | [],[]=>by simp [b7]
 | [],_ :: _=>by simp [b7]
 | _ :: _,[]=>by simp [b7]
 | x :: a,y :: b=>by
  unfold b7
  have:=qA a b
  (repeat' split) <;> omega
theorem l7:∀ {a b c:yQ},b7 a b<0->b7 b c<0->b7 a c<0
 | [],[],_,h,_=>by simp [b7] at h
 | [],_ :: _,[],_,h=>by simp [b7] at h
 | [],_ :: _,_ :: _,_,_=>by simp [b7]
 | _ :: _,[],_,h,_=>by simp [b7] at h
 | _ :: _,_ :: _,[],_,h=>by simp [b7] at h
 | x :: a,y :: b,z :: c,h1,h2=>by
  unfold b7 at h1 h2 ⊢
  have:=@l7 a b c
  split at h1
  ·split at h2
   ·rw [aY oa];omega
   ·split at h2
    ·omega
    ·rw [aY oa];omega
  ·split at h1
   ·omega
   ·split at h2
    ·rw [aY oa];omega
    ·split at h2
     ·omega
     ·rw [ba oa,ba oa];exact this h1 h2
def KS (rows:List (yQ)):Prop:=∀ i j (_:i<j) (hj:j<rows.length),b7 (rows[i]'oa) rows[j]<0
theorem IK {rows:List (yQ)} (h:∀ i (hi:i<rows.length) j (hj:j+1=i),b7 (rows[j]'oa) rows[i]<0):KS rows:=by
 intro i j hij hj
 induction j with
 | zero=>omega
 | succ j ih =>
  have h1:=h (j+1) hj j rfl
  by_cases e:i=j
  ·subst e;exact h1
  ·exact l7 (ih oa oa) h1
theorem B9 {n:Int} {rows:List (yQ)} (h:bP n rows=true):KS rows:=by
 obtain ⟨_,_,_,h4⟩:=dR h
 exact IK fun i hi j hj=>(h4 i hi).2.2 j hj
section
variable {N:Nat}
theorem vP {α:Type} {N:Nat} (L:Nat->Int->Option (Sum Bool Int)) (xs:List α) (q:α->Bool) (hN:1073741824<=N) (hl:xs.length<=1048576)
  (hstep:∀ k i (h:i<xs.length),L (k+1) (i:Int)=bif q xs[i] then L k ((i+1:Nat):Int) else some (.inl false)) (hend:∀ k,L (k+1) (xs.length:Int)=some (.inr (xs.length:Int))) :
  L N 0=some (bif xs.all q then .inr (xs.length:Int) else .inl false):=by
 have:=my L xs.length oa false (fun i=>if h:i<xs.length then q xs[i] else true) (xs.length:Int) (fun k i h=>by rw [hstep k i h];simp only [jc h]) hend N 0 oa oa
 rw [iM,ma xs q _ (fun i hi=>by rw [jc hi])] at this
 exact this
end
theorem GH {σ R V:Type} (L:Nat->σ->Int->Option (Sum R V)) (n:Nat) (b:R) (p:Nat->Bool) (A:Nat->σ) (v:V)
  (hstep:∀ k i,i<n->L (k+1) (A i) (i:Int)=bif p i then L k (A (i+1)) ((i+1:Nat):Int) else some (.inl b)) (hend:∀ k,L (k+1) (A n) (n:Int)=some (.inr v)) :
  ∀ k i,i<=n->n-i<k->L k (A i) (i:Int)=some (bif (List.range' i (n-i)).all p then .inr v else .inl b):=by
 intro k
 induction k with
 | zero=>intro i hi hk;omega
 | succ k ih =>
  intro i hi hk
  by_cases h:i<n
  ·rw [hstep k i h,show n-i=(n-(i+1))+1 by omega,xc,uh]
   cases hp:p i with
   | true=>rw [ag,cW];exact ih (i+1) oa oa
   | false=>rfl
  ·obtain rfl:i=n:=by omega
   rw [hend k,Nat.sub_self];rfl
theorem iX {R V S:Type} {v:V} {f:R->Option S} {g:V->Option S}:lpS (.inr v) f g=g v:=rfl
theorem lM {R V S:Type} {v:R} {f:R->Option S} {g:V->Option S}:lpS (.inl v) f g=f v:=rfl
abbrev bk:=ByteArray × yQ
abbrev dA (xs:List bk):Prop:=td (fun x=>x.1.size<=1048576/\(td (fun _=>True) 1048576) x.2) 1048576 xs
def mB (n:Int) (a:bk):Bool:=oS a.1&&inR a.2.length 1 5&&a.2.all fun v=>inR v 0 (n-1)
def pn (n:Int) (yL:List bk):Bool:=(List.range' 0 n.toNat).all fun v=>yL.any fun a=>decide ((v:Int)∈a.2)
def eu (n:Int) (yL:List bk) (out:yQ):Bool:=inR n 1 5&&inR yL.length 1 4&&jt out n&&yL.all (mB n)&&pn n yL
theorem tM:∀ (n:Nat) (xs:yQ),xs.Nodup->(∀ x∈xs,0<=x/\x<n)->xs.length<=n:=by
 intro n
 induction n with
 | zero =>
  intro xs _ h
  cases xs with
  | nil=>simp
  | cons x xs=>have:=h x (by simp);omega
 | succ n ih =>
  intro xs hn h
  by_cases hm:(n:Int)∈xs
  ·have h1:=ih (xs.erase (n:Int)) (hn.erase _) (fun x hx=>by
    have h2:=h x (List.mem_of_mem_erase hx)
    have h3:x≠n:=by rintro rfl;exact (hn.mem_erase_iff.1 hx).1 rfl
    omega)
   rw [ww hm] at h1
   omega
  ·have:=ih xs hn (fun x hx=>by
    have h2:=h x hx
    have h3:x≠n:=by rintro rfl;exact hm hx
    omega)
   omega
theorem np {xs:yQ} {n:Int} (h:jt xs n=true):xs.Nodup/\∀ x∈xs,0<=x/\x<=n-1:=by
 unfold jt at h
 rw [dN] at h
 have hk:∀ i (hi:i<xs.length),(0<=xs[i]/\xs[i]<=n-1)/\xs[i]∉xs.take i:=by
  intro i hi
  have:=h i (by simp;omega)
  simp only [bQ hi,bV,cg,wF,Ae] at this
  exact this
 refine ⟨?_,fun x hx=>?_⟩
 ·rw [List.nodup_iff_pairwise_ne,sX]
  intro i j hi hj hij e
  refine (hk j hj).2 ?_
  rw [<- e]
  have:(xs.take j)[i]'(by simp;omega)=xs[i]:=uJ
  rw [<- this];exact bG _
 ·obtain ⟨i,hi,rfl⟩:=gW hx
  exact (hk i hi).1
theorem Fh {xs:yQ} {n:Int} (h0:0<=n) (h:jt xs n=true):(xs.length:Int)<=n:=by
 obtain ⟨h1,h2⟩:=np h
 have:=tM n.toNat xs h1 (fun x hx=>by have:=h2 x hx;omega)
 omega
def oy (m:Nat) (g:Nat->Bool):List Bool:=(List.range' 0 m).map g
theorem yu (m:Nat) (g:Nat->Bool):(oy m g).length=m:=by simp [oy]
theorem I9 {m:Nat} {g:Nat->Bool} {i:Nat} (h:i<m):ix (oy m g) (i:Int)=some (g i):=by
 rw [bf (by rw [yu];exact h)];simp [oy]
theorem HN {m:Nat} {g:Nat->Bool} {c:Nat} (h:c<m):sto (oy m g) (c:Int) true=some (oy m fun v=>g v||decide (v=c)):=by
 rw [lR (by rw [yu];exact h)]
 congr 1
 refine tg (by simp [oy]) fun i h1 h2=>?_
 simp only [oy,List.getElem_set,kH,xd]
 simp only [e8,lj]
 by_cases e:c=i
 ·subst e;simp
 ·have e2:¬ i=c:=fun h=>e h.symm
  rw [ba e,bb e2,Bool.or_false]
theorem yo {m:Nat} {f g:Nat->Bool} (h:∀ v,f v=g v):oy m f=oy m g:=by rw [show f=g from funext h]
theorem Io (m:Nat) (g:Nat->Bool):(oy m g).all id=(List.range' 0 m).all g:=by simp [oy,List.all_map]
theorem wd {α:Type} {p:α->Bool} {xs:List α} {i:Nat} (h:i<xs.length):(xs.take (i+1)).any p=((xs.take i).any p||p xs[i]):=by
 rw [gl h,List.any_append];simp
theorem B5 {xs:yQ} {i:Nat} (h:i<xs.length) (v:Int):decide (v∈xs.take (i+1))=(decide (v∈xs.take i)||decide (v=xs[i])):=by
 have e:v∈xs.take (i+1)↔v∈xs.take i\/v=xs[i]:=by
  rw [gl h,dj,fE]
 rw [Bool.eq_iff_iff];simp only [dM,q9];exact e
section
variable {N:Nat}
def nB (m:Nat) (yL:List bk) (i:Nat):List Bool:=oy m fun v=>(yL.take i).any fun a=>decide ((v:Int)∈a.2)
def pW (m:Nat) (yL:List bk) (i:Nat) (xs:yQ) (j:Nat):List Bool:=oy m fun v=>(yL.take i).any (fun a=>decide ((v:Int)∈a.2))||decide ((v:Int)∈xs.take j)
theorem Jo (m:Nat) (yL:List bk) (i:Nat) (xs:yQ):pW m yL i xs 0=nB m yL i:=yo fun v=>by simp
theorem Gk (m:Nat) (yL:List bk) {i:Nat} (h:i<yL.length):pW m yL i yL[i].2 yL[i].2.length=nB m yL (i+1):=yo fun v=>by rw [fG,wd h]
theorem Fw {m:Nat} {yL:List bk} {i:Nat} {xs:yQ} {j c:Nat} (hj:j<xs.length) (hc:xs[j]=(c:Int)) (hm:c<m):sto (pW m yL i xs j) (c:Int) true=some (pW m yL i xs (j+1)):=by
 unfold pW
 rw [HN hm]
 congr 1
 refine yo fun v=>?_
 rw [B5 hj,hc,Bool.or_assoc]
 congr 2
 rw [decide_eq_decide];omega
theorem H6 {m:Nat} {yL:List bk} {i:Nat} {xs:yQ} {j c:Nat} (hm:c<m):∃ b,ix (pW m yL i xs j) (c:Int)=some b:=⟨_,I9 hm⟩
theorem Jh (m:Nat) (yL:List bk):List.replicate m false=nB m yL 0:=by
 refine tg (by simp [nB,oy]) fun i h1 h2=>?_
 simp [nB,oy]
theorem DW {m:Nat} {yL:List bk} {i:Nat} {xs:yQ} {t:List bk} {tl ti:Int} (hx:xs.length<=1048576) (hm:m<=5) (k j:Nat) (hj:j<xs.length) :
  d8 N (k+1) (m:Int) (pW m yL i xs j) t tl ti xs (xs.length:Int) (j:Int)=bif (if h:j<xs.length then inR xs[j] 0 ((m:Int)-1) else true) then d8 N k (m:Int) (pW m yL i xs (j+1)) t tl ti xs (xs.length:Int) ((j+1:Nat):Int) else some (.inl false):=by
 rw [d8,dlt hj,ag,bf hj,bs,eC oa oa,bs,gJ,bs,jc hj]
 cases hc:inR xs[j] 0 ((m:Int)-1) with
 | false=>rw [am,am]
 | true =>
  have hc':=cg.1 hc
  obtain ⟨c,hcc⟩:=nO hc'.1
  obtain ⟨b,hb⟩:=H6 (m:=m) (yL:=yL) (i:=i) (xs:=xs) (j:=j) (c:=c) oa
  rw [ag,ag,hcc,hb,bs,Fw hj hcc oa,bs,ad1 oa,bs]
theorem Lm (hN:1073741824<=N) {m:Nat} {yL:List bk} {i:Nat} {xs:yQ} {t:List bk} {tl ti:Int} (hx:xs.length<=1048576) (hm:m<=5) :
  d8 N N (m:Int) (nB m yL i) t tl ti xs (xs.length:Int) 0=some (bif xs.all (fun v=>inR v 0 ((m:Int)-1)) then .inr (pW m yL i xs xs.length,(xs.length:Int)) else .inl false):=by
 have h:=GH (fun k (s:List Bool) j=>d8 N k (m:Int) s t tl ti xs (xs.length:Int) j) xs.length false (fun j=>if h:j<xs.length then inR xs[j] 0 ((m:Int)-1) else true) (pW m yL i xs) (pW m yL i xs xs.length,(xs.length:Int))
  (fun k j hj=>DW hx hm k j hj)
  (fun k=>by
   show d8 N (k+1) (m:Int) _ t tl ti xs _ (xs.length:Int)=_
   rw [d8,dge oa,am]) N 0 oa oa
 rw [iM,ma xs (fun v=>inR v 0 ((m:Int)-1)) _ (fun j hj=>by rw [jc hj]),Jo] at h
 exact h
theorem DQ (hN:1073741824<=N) {m:Nat} {yL:List bk} (ha:dA yL) (hm:m<=5) (k i:Nat) (h:i<yL.length) :
  dY N (k+1) (m:Int) (nB m yL i) yL (yL.length:Int) (i:Int)=bif (if h:i<yL.length then mB m yL[i] else true) then dY N k (m:Int) (nB m yL (i+1)) yL (yL.length:Int) ((i+1:Nat):Int) else some (.inl false):=by
 have hl:=ha.1
 obtain ⟨g1,g2⟩:=ha.2 _ (bG h)
 rw [dY,dlt h,ag,bf h,bs,qj hN g1,bs,gJ,bs,jc h]
 unfold mB
 cases oS yL[i].1 with
 | false=>simp only [jw,pQ,cW,am,ag]
 | true =>
  cases inR (yL[i].2.length:Int) 1 5 with
  | false=>simp only [jw,pQ,cW,am,ag]
  | true =>
   simp only [ag,cW]
   rw [Lm hN g2.1 hm,bs]
   cases yL[i].2.all fun v=>inR v 0 ((m:Int)-1) with
   | false=>simp only [am,lpS]
   | true =>
    rw [ag,iX,ad1 oa,bs,Gk m yL h,ag]
theorem K3 (hN:1073741824<=N) {m:Nat} {yL:List bk} (ha:dA yL) (hm:m<=5) :
  dY N N (m:Int) (List.replicate m false) yL (yL.length:Int) 0=some (bif yL.all (mB m) then .inr (nB m yL yL.length,(yL.length:Int)) else .inl false):=by
 have hl:=ha.1
 have h:=GH (fun k (s:List Bool) i=>dY N k (m:Int) s yL (yL.length:Int) i) yL.length false (fun i=>if h:i<yL.length then mB m yL[i] else true) (nB m yL) (nB m yL yL.length,(yL.length:Int))
  (fun k i h=>DQ hN ha hm k i h)
  (fun k=>by
   show dY N (k+1) (m:Int) _ yL _ (yL.length:Int)=_
   rw [dY,dge oa,am]) N 0 oa oa
 rw [iM,ma yL (mB m) _ (fun i hi=>by rw [jc hi]),<- Jh] at h
 exact h
theorem LJ (hN:1073741824<=N) {xs:List Bool} (hx:xs.length<=1048576):eZ N N xs (xs.length:Int) 0=some (bif xs.all id then .inr (xs.length:Int) else .inl false) :=
 vP (fun k i=>eZ N k xs (xs.length:Int) i) xs id hN hx
  (fun k i h=>by
   show eZ N (k+1) _ _ (i:Int)=_
   rw [eZ,dlt h,ag,bf h,bs,ad1 oa,bs];rfl)
  (fun k=>by
   show eZ N (k+1) _ _ (xs.length:Int)=_
   rw [eZ,dge oa,am])
theorem GM {m:Nat} {yL:List bk}:(nB m yL yL.length).all id=pn m yL:=by
 unfold nB pn
 rw [Io,iQ,fG]
theorem AS {n:Int} {yL:List bk} {out:yQ} (h:inR n 1 5=false):eu n yL out=false:=by unfold eu;rw [h];rfl
theorem kQ (hN:1073741824<=N) {n:Int} {yL:List bk} {out:yQ} (ha:dA yL) (ho:okI out):gH N n yL out=some (eu n yL out):=by
 have hl:=ha.1
 unfold gH
 rw [gJ,bs,gJ,bs]
 cases hn:inR n 1 5 with
 | false=>rw [AS hn];rfl
 | true =>
  have hn':=cg.1 hn
  unfold eu
  rw [hn,ag,vp hN ho.1 oa,bs]
  cases inR (yL.length:Int) 1 4 with
  | false=>rfl
  | true =>
   cases jt out n with
   | false=>rfl
   | true =>
    obtain ⟨m,rfl⟩:=nO (by omega:0<=n)
    simp only [ag,Bool.and_self,cW]
    rw [xH (by decide) oa,bs,K3 hN ha oa,bs]
    cases yL.all (mB m) with
    | false=>rfl
    | true =>
     simp only [ag,lpS,cW]
     rw [LJ hN (by unfold nB;rw [yu];omega),bs,GM]
     cases pn m yL <;> rfl
theorem ld (hN:1073741824<=N) {s:ByteArray} {xs:yQ} {v:Int} (hx:okI xs):gg N s xs v=some (decide (v∈xs)):=by
 have hl:=hx.1
 have:=yq (fun k i=>dq N k v s xs i) xs (fun x=>decide (x=v)) (fun _=>true) (xs.length:Int) oa
  (fun k i h=>by
   show dq N (k+1) v s xs (i:Int)=_
   rw [dq,dlt h,ag,bf h,bs,ad1 oa,bs,FG])
  (fun k=>by
   show dq N (k+1) v s xs (xs.length:Int)=_
   rw [dq,dge oa,am]) N 0 oa oa
 rw [gR] at this
 have this':dq N N v s xs 0=_:=this
 unfold gg
 rw [this',bs]
 cases hf:xs.find? (fun x=>decide (x=v)) with
 | none =>
  have:v∉xs:=fun hm=>by have:=(List.find?_eq_none.1 hf) v hm;simp at this
  simp [lpS,this]
 | some y =>
  have h1:=List.find?_some hf
  have h2:=AR hf
  have:v∈xs:=by simp at h1;rw [<- h1];exact h2
  simp [lpS,this]
theorem lB (hN:1073741824<=N) {s:ByteArray} {xs:yQ} {v:Int} (hx:okI xs):gd N s xs v=some (decide (v∈xs)):=by
 unfold gd;rw [w9 hN hx.1,bs]
theorem KO (hN:1073741824<=N) {n:Int} {yL:List bk} {out:yQ} {i:Nat} (h:i<yL.length) (hn:n<=5) (h0:0<=n) (hx:yL[i].2.length<=1048576) :
  eX N N n yL out (i:Int) 0=some (bif yL[i].2.all (fun v=>inR v 0 (n-1)) then .inr (yL[i].2.length:Int) else .inl false) :=
 vP (fun k2 j=>eX N k2 n yL out (i:Int) j) yL[i].2 (fun v=>inR v 0 (n-1)) hN hx
  (fun k2 j hj=>by
   show eX N (k2+1) n yL out (i:Int) (j:Int)=_
   rw [eX,bf h,bs,dlt hj,ag,bs,bf hj,bs,eC oa oa,bs,fh,bs,ad1 oa,bs])
  (fun k2=>by
   show eX N (k2+1) n yL out (i:Int) (yL[i].2.length:Int)=_
   rw [eX,bf h,bs,dge oa,am])
theorem Lb (hN:1073741824<=N) {n:Int} {yL:List bk} {out:yQ} (ha:dA yL) (hn:n<=5) (h0:0<=n) :
  eT N N n yL out 0=some (bif yL.all (mB n) then .inr (yL.length:Int) else .inl false) :=
 vP (fun k i=>eT N k n yL out i) yL (mB n) hN ha.1
  (fun k i h=>by
   have hl:=ha.1
   obtain ⟨g1,g2⟩:=ha.2 _ (bG h)
   show eT N (k+1) n yL out (i:Int)=_
   rw [eT,dlt h,ag,bf h,bs,qq hN g1,bs,bs,fh,bs]
   unfold mB
   cases oS yL[i].1 with
   | false=>simp only [jw,pQ,cW,am,ag]
   | true =>
    cases inR (yL[i].2.length:Int) 1 5 with
    | false=>simp only [jw,pQ,cW,am,ag]
    | true =>
     simp only [ag,cW]
     rw [KO hN h hn h0 g2.1,bs]
     cases yL[i].2.all fun v=>inR v 0 (n-1) with
     | false=>simp only [am,lpS]
     | true =>
      rw [ag,iX,ad1 oa,bs,ag])
  (fun k=>by
   show eT N (k+1) n yL out (yL.length:Int)=_
   rw [eT,dge oa,am])
theorem Lu (hN:1073741824<=N) {n v:Int} {yL:List bk} {out:yQ} (ha:dA yL) :
  dV N N n yL out v false 0=some (yL.any (fun a=>decide (v∈a.2)),(yL.length:Int)):=by
 have hl:=ha.1
 exact gD (fun k2 (s:Bool) j=>dV N k2 n yL out v s j) yL.length (fun j=>(yL.take j).any fun a=>decide (v∈a.2)) (yL.any (fun a=>decide (v∈a.2)),(yL.length:Int))
  (fun k2 j hj=>by
   obtain ⟨g1,g2⟩:=ha.2 _ (bG hj)
   show dV N (k2+1) n yL out v _ (j:Int)=_
   rw [dV,dlt hj,ag,wd hj,ad1 oa,bs,bf hj,bs,ld hN g2,bs,bs]
   cases (yL.take j).any fun a=>decide (v∈a.2) <;> rfl)
  (fun k2=>by
   show dV N (k2+1) n yL out v _ (yL.length:Int)=_
   rw [dV,dge oa,am,fG]) N 0 oa oa
theorem K5 (hN:1073741824<=N) {m:Nat} {yL:List bk} {out:yQ} (ha:dA yL) (hm:m<=5) :
  eL N N (m:Int) yL out 0=some (bif pn m yL then .inr (m:Int) else .inl false):=by
 have h:=my (fun k i=>eL N k (m:Int) yL out i) m oa false (fun v=>yL.any fun a=>decide ((v:Int)∈a.2)) (m:Int)
  (fun k v h=>by
   show eL N (k+1) (m:Int) yL out (v:Int)=_
   rw [eL,dlt h,ag,Lu hN ha,bs,lpB]
   simp only []
   rw [ad1 oa,bs])
  (fun k=>by
   show eL N (k+1) (m:Int) yL out (m:Int)=_
   rw [eL,dge oa,am]) N 0 oa oa
 unfold pn
 rw [iQ]
 rw [iM] at h
 exact h
theorem Kk (hN:1073741824<=N) {n:Int} {yL:List bk} {out:yQ} (ho:out.length<=1048576) (hn:n<=5) (h0:0<=n) :
  eW N N n yL out 0=some (bif jt out n then .inr (out.length:Int) else .inl false):=by
 have h:=my (fun k i=>eW N k n yL out i) out.length oa false (fun i=>inR (out.getD i 0) 0 (n-1)&&!decide (out.getD i 0∈out.take i)) (out.length:Int)
  (fun k i h=>by
   show eW N (k+1) n yL out (i:Int)=_
   rw [eW,dlt h,ag,bf h,bs,eC oa oa,bs,fh,bs,show ((0:Int))=((0:Nat):Int) from rfl,lC (cD _) oa,bs,bs,gR,o9 hN (by simp;omega),bs,ad1 oa,bs]
   simp only [bQ h,qb,show ((0:Nat):Int)=0 from rfl]
   cases inR out[i] 0 (n-1)
   ·rfl
   ·cases decide (out[i]∈out.take i) <;> rfl)
  (fun k=>by
   show eW N (k+1) n yL out (out.length:Int)=_
   rw [eW,dge oa,am]) N 0 oa oa
 rw [iM] at h
 exact h
theorem fS (hN:1073741824<=N) {n:Int} {yL:List bk} {out:yQ} (ha:dA yL) (ho:okI out):eH N n yL out=some (eu n yL out):=by
 have hl:=ha.1
 have hol:=ho.1
 unfold eH
 rw [fh,bs,fh,bs]
 cases hn:inR n 1 5 with
 | false=>rw [AS hn];rfl
 | true =>
  have hn':=cg.1 hn
  unfold eu
  rw [hn]
  cases inR (yL.length:Int) 1 4 with
  | false=>rfl
  | true =>
   simp only [ag,cW]
   by_cases hlen:n<(out.length:Int)
   ·have:jt out n=false:=by
     rw [<- xa];intro h
     have:=Fh oa h;omega
    rw [aX hlen,ag,this];rfl
   ·obtain ⟨m,rfl⟩:=nO (by omega:0<=n)
    rw [bb hlen,am,Lb hN ha oa oa,bs]
    cases yL.all (mB m) with
    | false=>rw [pQ,jw];rfl
    | true =>
     simp only [ag,lpS,xb]
     rw [K5 hN ha oa,bs]
     cases pn m yL with
     | false=>rw [pQ];rfl
     | true =>
      simp only [ag,lpS,xb]
      rw [Kk hN hol oa oa,bs]
      cases jt out m <;> rfl
def rT (n:Int) (yL:List bk) (out:yQ) (rows:Int):Int:=bif eu n yL out&&inR rows 0 1000000 then 2*n*yL.length*rows else 0
theorem kT {n:Int} {yL:List bk} {out:yQ} (h:eu n yL out=true):1<=n/\n<=5/\1<=(yL.length:Int)/\(yL.length:Int)<=4:=by
 unfold eu at h
 simp only [bV,cg] at h
 exact ⟨h.1.1.1.1.1,h.1.1.1.1.2,h.1.1.1.2.1,h.1.1.1.2.2⟩
theorem Bo {n l r:Int} (h1:1<=n/\n<=5) (h2:1<=l/\l<=4) (h3:0<=r/\r<=1000000):0<=2*n*l/\2*n*l<=40/\0<=2*n*l*r/\2*n*l*r<=40000000:=by
 have a:0<=2*n*l/\2*n*l<=40:=by
  have:=lk (show 2*n<=10 by omega) h2.2 oa oa
  exact ⟨nN oa oa,oa⟩
 refine ⟨a.1,a.2,nN a.1 h3.1,?_⟩
 have:=lk a.2 h3.2 h3.1 oa
 omega
theorem xU (hN:1073741824<=N) {n:Int} {yL:List bk} {out:yQ} {rows:Int} (ha:dA yL) (ho:okI out):mM N n yL out rows=some (rT n yL out rows):=by
 unfold mM rT
 rw [kQ hN ha ho,bs,gJ,bs]
 cases hq:eu n yL out
 ·rfl
 cases hr:inR rows 0 1000000
 ·rfl
 obtain ⟨h1,h2,h3,h4⟩:=kT hq
 have h5:=cg.1 hr
 obtain ⟨b1,b2,b3,b4⟩:=Bo ⟨h1,h2⟩ ⟨h3,h4⟩ h5
 simp only [ag,Bool.and_self]
 rw [el oa oa,bs,el oa oa,bs,el oa oa,bs]
theorem xQ (hN:1073741824<=N) {n:Int} {yL:List bk} {out:yQ} {rows:Int} (ha:dA yL) (ho:okI out):jz N n yL out rows=some (rT n yL out rows):=by
 unfold jz rT
 rw [fS hN ha ho,bs,fh,bs]
 cases hq:eu n yL out
 ·rfl
 cases hr:inR rows 0 1000000
 ·rfl
 obtain ⟨h1,h2,h3,h4⟩:=kT hq
 have h5:=cg.1 hr
 obtain ⟨b1,b2,b3,b4⟩:=Bo ⟨h1,h2⟩ ⟨h3,h4⟩ h5
 simp only [ag,Bool.and_self]
 rw [el oa oa,bs,el oa oa,bs,el oa oa,bs]
end
section
variable {N:Nat}
theorem MO (N:Nat):∀ (k:Nat) (x y:Int),gC N k x y=jK N k x y:=by
 intro k
 induction k with
 | zero=>intro x y;rw [gC,jK]
 | succ k ih=>intro x y;rw [gC,jK];simp only [ih]
theorem DD (N:Nat) (x y:Int):iK N x y=mo N x y:=by unfold iK mo;rw [MO]
theorem Fn {a b:Int} (ha:0<=a) (hb:0<b) (h:a<=4611686018427387904):qt a b=some (a.tdiv b):=by
 have h1:0<=a.tdiv b:=Int.tdiv_nonneg ha oa
 have h2:a.tdiv b<=a:=Int.tdiv_le_self b ha
 unfold qt;rw [aY ⟨oa,pJ oa oa⟩]
theorem D8 {a b:Int} (ha:0<=a) (hb:0<b):0<=a.tdiv b/\a.tdiv b<=a:=⟨Int.tdiv_nonneg ha oa,Int.tdiv_le_self b ha⟩
theorem FY:∀ (m k:Nat) (x y:Int),0<=x->0<=y->y<=m->m<k->(0<x\/0<y)->∃ g z,jK N k x y=some (g,z)/\0<g:=by
 intro m
 induction m with
 | zero =>
  intro k x y hx hy hm hk h
  obtain ⟨k,rfl⟩:∃ k',k=k'+1:=⟨k-1,oa⟩
  obtain rfl:y=0:=by omega
  rw [jK,show ((0:Int) != 0)=false from rfl,am]
  exact ⟨x,0,rfl,oa⟩
 | succ m ih =>
  intro k x y hx hy hm hk h
  obtain ⟨k,rfl⟩:∃ k',k=k'+1:=⟨k-1,oa⟩
  rw [jK]
  by_cases h0:y=0
  ·subst h0
   rw [show ((0:Int) != 0)=false from rfl,am]
   exact ⟨x,0,rfl,oa⟩
  ·rw [show (y != 0)=true by simpa using h0,ag,tI h0,bs]
   obtain ⟨t1,t2⟩:=Bd (b:=y) hx oa
   exact ih k y (x.tmod y) hy t1 oa oa (.inl oa)
theorem DJ (hN:1073741824<=N) {x y:Int} (hx:0<=x) (hy:0<=y) (h1:y<=1000000000) (h:0<x\/0<y):∃ g,mo N x y=some g/\0<g:=by
 obtain ⟨g,z,e,hg⟩:=FY (N:=N) 1000000000 N x y hx hy oa oa h
 refine ⟨g,?_,hg⟩
 unfold mo;rw [e,bs,lpB]
abbrev eE:=Int × Int
theorem DE (N:Nat) (n d:Int):bz N n d=dp N n d:=by
 unfold bz dp
 rw [fh,gJ,bs,bs,fh,gJ,bs,bs]
 unfold sB
 cases inR d 1 1000000000
 ·rfl
 cases inR n (-1000000000) 1000000000
 ·rfl
 rw [ag,ag,ag,ag]
 cases sb 0 n with
 | none=>rfl
 | some z=>rw [bs,bs,bs,DD]
theorem Db (hN:1073741824<=N) (n d:Int):∃ b,dp N n d=some b/\(b=true->1<=d/\d<=1000000000/\-1000000000<=n/\n<=1000000000):=by
 unfold dp
 rw [gJ,bs,gJ,bs]
 cases h1:inR d 1 1000000000
 ·exact ⟨false,rfl,fun h=>by cases h⟩
 cases h2:inR n (-1000000000) 1000000000
 ·exact ⟨false,rfl,fun h=>by cases h⟩
 have h1':=cg.1 h1
 have h2':=cg.1 h2
 have hab:0<=imx n (0-n):=by unfold imx;split <;> omega
 obtain ⟨g,e,_⟩:=DJ (N:=N) hN hab (by omega:0<=d) oa (.inr oa)
 unfold sB
 rw [ag,ag,eC oa oa,bs,bs,e,bs]
 exact ⟨_,rfl,fun _=>⟨h1'.1,h1'.2,h2'.1,h2'.2⟩⟩
def wOk (N:Nat) (r:eE):Bool:=(dp N r.1 r.2).getD false&&decide (0<=r.1)
theorem vT (hN:1073741824<=N) {r:eE} (h:wOk N r=true):dp N r.1 r.2=some true/\0<=r.1/\r.1<=1000000000/\1<=r.2/\r.2<=1000000000:=by
 obtain ⟨b,e,hb⟩:=Db hN r.1 r.2
 unfold wOk at h
 rw [e,Option.getD_some,bV,dM] at h
 obtain ⟨rfl,h2⟩:=h
 have:=hb rfl
 exact ⟨e,h2,this.2.2.2,this.1,this.2.1⟩
theorem BR (hN:1073741824<=N) (r:eE):wOk N r=true\/(wOk N r=false/\(dp N r.1 r.2=some false\/dp N r.1 r.2=some true/\r.1<0)):=by
 obtain ⟨b,e,hb⟩:=Db hN r.1 r.2
 unfold wOk
 rw [e,Option.getD_some]
 cases b with
 | false=>exact .inr ⟨rfl,.inl rfl⟩
 | true =>
  by_cases h:0<=r.1
  ·exact .inl (by rw [aX h];rfl)
  ·exact .inr ⟨by rw [bb h];rfl,.inr ⟨rfl,oa⟩⟩
def sj (N:Nat) (d:Int) (r:eE):Int:=(d.tdiv ((mo N d r.2).getD 1))*r.2
theorem yR (hN:1073741824<=N) {d:Int} {r:eE} (h:wOk N r=true) (h0:0<=d) (h1:d<=1000):∃ g,mo N d r.2=some g/\qt d g=some (d.tdiv g)/\ml (d.tdiv g) r.2=some (sj N d r)/\0<=sj N d r:=by
 obtain ⟨_,_,_,k1,k2⟩:=vT hN h
 obtain ⟨g,e,hg⟩:=DJ (N:=N) hN h0 (by omega:0<=r.2) k2 (.inr oa)
 obtain ⟨t1,t2⟩:=D8 h0 hg
 have hm:0<=d.tdiv g*r.2:=nN t1 oa
 have hm2:d.tdiv g*r.2<=1000*1000000000:=lk oa k2 oa oa
 have es:sj N d r=d.tdiv g*r.2:=by unfold sj;rw [e];rfl
 refine ⟨g,e,Fn h0 hg oa,?_,?_⟩
 ·rw [es,el oa oa]
 ·rw [es];exact hm
def sD (N:Nat) (rs:List eE):Nat->Nat->Int->Option Int
 | 0,_,d=>some d
 | m+1,i,d=>if 1000<sj N d (rs.getD i (0,0)) then none else sD N rs m (i+1) (sj N d (rs.getD i (0,0)))
theorem Mm (hN:1073741824<=N) {rs:List eE} (ha:∀ i,i<rs.length->wOk N (rs.getD i (0,0))=true):∀ m i d d',i+m=rs.length->0<=d->d<=1000->sD N rs m i d=some d'->0<=d'/\d'<=1000:=by
 intro m
 induction m with
 | zero=>intro i d d' _ h0 h1 h;unfold sD at h;cases h;exact ⟨h0,h1⟩
 | succ m ih =>
  intro i d d' hi h0 h1 h
  unfold sD at h
  obtain ⟨g,_,_,_,g4⟩:=yR hN (ha i oa) h0 h1
  by_cases hc:1000<sj N d (rs.getD i (0,0))
  ·rw [aY hc] at h;cases h
  ·rw [ba hc] at h;exact ih (i+1) _ d' oa g4 oa h
theorem su {rs:List eE} {i:Nat} (h:i<rs.length):rs[i]=rs.getD i (0,0):=by simp [h]
def CB (rs:List eE) (o:Option Int):Sum (yQ × Int) (Int × Int):=match o with | none=>.inl ([],0) | some d=>.inr (d,(rs.length:Int))
theorem Ho (hN:1073741824<=N) {rs:List eE} (hl:rs.length<=1048576):∀ m i k d,i+m=rs.length->m<k->0<=d->d<=1000 ->
  cK N k rs d (i:Int)=some (bif (List.range' i m).all (fun j=>wOk N (rs.getD j (0,0))) then CB rs (sD N rs m i d) else .inl ([],0)):=by
 intro m
 induction m with
 | zero =>
  intro i k d hi hk h0 h1
  obtain ⟨k,rfl⟩:∃ k',k=k'+1:=⟨k-1,oa⟩
  obtain rfl:i=rs.length:=by omega
  rw [cK,dge oa,am];rfl
 | succ m ih =>
  intro i k d hi hk h0 h1
  obtain ⟨k,rfl⟩:∃ k',k=k'+1:=⟨k-1,oa⟩
  have h:i<rs.length:=by omega
  rw [cK,dlt h,ag,bf h,bs,su h,DE,xc,uh]
  rcases BR hN (rs.getD i (0,0)) with hw | ⟨hw,hw2 | ⟨hw2,hw3⟩⟩
  ·obtain ⟨k1,k2,k3,k4,k5⟩:=vT hN hw
   obtain ⟨g,g1,g2,g3,g4⟩:=yR hN hw h0 h1
   rw [hw,k1,bs,ag,bs,bb oa,am,bs,DD,g1,bs,g2,bs,bs,g3,bs,cW,sD]
   by_cases hc:1000<sj N d (rs.getD i (0,0))
   ·rw [aX hc,ag,aY hc]
    cases (List.range' (i+1) m).all (fun j=>wOk N (rs.getD j (0,0))) <;> rfl
   ·rw [bb hc,am,ba hc,ad1 oa,bs,ih (i+1) k _ oa oa g4 oa]
  ·rw [hw,hw2,bs,am,jw,am]
  ·rw [hw,hw2,bs,ag,bs,aX hw3,ag,jw,am]
theorem GN (hN:1073741824<=N) {rs:List eE} (hl:rs.length<=1048576):∀ m i k d,i+m=rs.length->m<k ->
  fM N k rs d rs (rs.length:Int) (i:Int)=some (bif (List.range' i m).all (fun j=>wOk N (rs.getD j (0,0))) then .inr (rs.length:Int) else .inl ([],0)):=by
 intro m
 induction m with
 | zero =>
  intro i k d hi hk
  obtain ⟨k,rfl⟩:∃ k',k=k'+1:=⟨k-1,oa⟩
  obtain rfl:i=rs.length:=by omega
  rw [fM,dge oa,am];rfl
 | succ m ih =>
  intro i k d hi hk
  obtain ⟨k,rfl⟩:∃ k',k=k'+1:=⟨k-1,oa⟩
  have h:i<rs.length:=by omega
  rw [fM,dlt h,ag,bf h,bs,su h,xc,uh]
  rcases BR hN (rs.getD i (0,0)) with hw | ⟨hw,hw2 | ⟨hw2,hw3⟩⟩
  ·obtain ⟨k1,k2,k3,k4,k5⟩:=vT hN hw
   rw [hw,k1,bs,ag,bb oa,am,cW,ad1 oa,bs,ih (i+1) k d oa oa]
  ·rw [hw,hw2,bs,am,jw,am]
  ·rw [hw,hw2,bs,ag,aX hw3,ag,jw,am]
theorem GC (hN:1073741824<=N) {rs:List eE} (hl:rs.length<=1048576) (ha:∀ i,i<rs.length->wOk N (rs.getD i (0,0))=true):∀ m i k d,i+m=rs.length->m<k->0<=d->d<=1000 ->
  fN N k rs d rs (rs.length:Int) (i:Int)=some (CB rs (sD N rs m i d)):=by
 intro m
 induction m with
 | zero =>
  intro i k d hi hk h0 h1
  obtain ⟨k,rfl⟩:∃ k',k=k'+1:=⟨k-1,oa⟩
  obtain rfl:i=rs.length:=by omega
  rw [fN,dge oa,am];rfl
 | succ m ih =>
  intro i k d hi hk h0 h1
  obtain ⟨k,rfl⟩:∃ k',k=k'+1:=⟨k-1,oa⟩
  have h:i<rs.length:=by omega
  obtain ⟨g,g1,g2,g3,g4⟩:=yR hN (ha i h) h0 h1
  rw [fN,dlt h,ag,bf h,bs,su h,g1,bs,g2,bs,g3,bs,sD]
  by_cases hc:1000<sj N d (rs.getD i (0,0))
  ·rw [aX hc,ag,aY hc];rfl
  ·rw [bb hc,am,ba hc,ad1 oa,bs,ih (i+1) k _ oa oa g4 oa]
def kx (rs:List eE) (d:Int) (i:Nat):yQ:=(rs.take i).map fun r=>r.1*d.tdiv r.2
theorem Bv {rs:List eE} {d:Int} {i:Nat} (h:i<rs.length):kx rs d i++[(rs.getD i (0,0)).1*d.tdiv (rs.getD i (0,0)).2]=kx rs d (i+1):=by
 unfold kx;rw [gl h,fL,su h];rfl
theorem y8 {rs:List eE} {d:Int} {i:Nat}:(kx rs d i).length<=rs.length:=by unfold kx;simp;omega
theorem Ed (hN:1073741824<=N) {d:Int} {r:eE} (h:wOk N r=true) (h0:0<=d) (h1:d<=1000):qt d r.2=some (d.tdiv r.2)/\ml r.1 (d.tdiv r.2)=some (r.1*d.tdiv r.2):=by
 obtain ⟨_,k0,k1,k2,k3⟩:=vT hN h
 obtain ⟨t1,t2⟩:=D8 h0 (by omega:0<r.2)
 have hm:0<=r.1*d.tdiv r.2:=nN k0 t1
 have hm2:r.1*d.tdiv r.2<=1000000000*1000:=lk k1 oa t1 oa
 exact ⟨Fn h0 oa oa,el oa oa⟩
theorem B3 (hN:1073741824<=N) {rs:List eE} (hl:rs.length<=1048576) (ha:∀ i,i<rs.length->wOk N (rs.getD i (0,0))=true) {d:Int} (h0:0<=d) (h1:d<=1000) :
  dL N N rs d [] 0=some (kx rs d rs.length,(rs.length:Int)) :=
 gD (fun k (s:yQ) i=>dL N k rs d s i) rs.length (kx rs d) (kx rs d rs.length,(rs.length:Int))
  (fun k i h=>by
   obtain ⟨q1,q2⟩:=Ed hN (ha i h) h0 h1
   have ho:=y8 (rs:=rs) (d:=d) (i:=i)
   show dL N (k+1) rs d (kx rs d i) (i:Int)=_
   rw [dL,dlt h,ag,bf h,bs,bs,su h,q1,bs,q2,bs,bB (by decide) (by simp;omega),bs,Bv h,ad1 oa,bs])
  (fun k=>by
   show dL N (k+1) rs d (kx rs d rs.length) (rs.length:Int)=_
   rw [dL,dge oa,am]) N 0 oa oa
theorem GQ (hN:1073741824<=N) {rs:List eE} (hl:rs.length<=1048576) (ha:∀ i,i<rs.length->wOk N (rs.getD i (0,0))=true) {d:Int} (h0:0<=d) (h1:d<=1000) :
  dJ N N d [] rs (rs.length:Int) 0=some (kx rs d rs.length,(rs.length:Int)) :=
 gD (fun k (s:yQ) i=>dJ N k d s rs (rs.length:Int) i) rs.length (kx rs d) (kx rs d rs.length,(rs.length:Int))
  (fun k i h=>by
   obtain ⟨q1,q2⟩:=Ed hN (ha i h) h0 h1
   have ho:=y8 (rs:=rs) (d:=d) (i:=i)
   show dJ N (k+1) d (kx rs d i) rs (rs.length:Int) (i:Int)=_
   rw [dJ,dlt h,ag,bf h,bs,su h,q1,bs,q2,bs,bB (by decide) (by simp;omega),bs,Bv h,ad1 oa,bs])
  (fun k=>by
   show dJ N (k+1) d (kx rs d rs.length) rs (rs.length:Int) (rs.length:Int)=_
   rw [dJ,dge oa,am]) N 0 oa oa
theorem FD (hN:1073741824<=N) {rs:List eE} (hl:rs.length<=1048576):∃ v:yQ × Int,dw N rs=some v/\i6 N rs=some v/\v.1.length<=1048576:=by
 have s1:=Ho hN hl rs.length 0 N 1 oa oa oa oa
 have i1:=GN hN hl rs.length 0 N 1 oa oa
 have s1':cK N N rs 1 0=_:=s1
 have i1':fM N N rs 1 rs (rs.length:Int) 0=_:=i1
 unfold dw i6
 rw [s1',i1',bs,bs]
 cases ha:(List.range' 0 rs.length).all (fun j=>wOk N (rs.getD j (0,0))) with
 | false=>exact ⟨([],0),by rw [am,lM],by rw [am,lM],cD _⟩
 | true =>
  have ha':∀ i,i<rs.length->wOk N (rs.getD i (0,0))=true:=fun i h=>(dN.1 ha) i (by simp;omega)
  have i2:=GC hN hl ha' rs.length 0 N 1 oa oa oa oa
  have i2':fN N N rs 1 rs (rs.length:Int) 0=_:=i2
  rw [ag,ag,iX,i2',bs]
  cases hd:sD N rs rs.length 0 1 with
  | none=>exact ⟨([],0),by unfold CB;rw [lM],by unfold CB;rw [lM],cD _⟩
  | some d =>
   obtain ⟨d0,d1⟩:=Mm hN ha' rs.length 0 1 d oa oa oa hd
   unfold CB
   rw [iX,iX]
   simp only []
   rw [B3 hN hl ha' d0 d1,GQ hN hl ha' d0 d1,bs,lpB]
   exact ⟨_,rfl,rfl,by have:=y8 (rs:=rs) (d:=d) (i:=rs.length);show (kx rs d rs.length).length<=_;omega⟩
end
theorem Ap {σ V:Type} (L1 L2:Nat->σ->Int->Option V) (n:Nat) (I:Nat->σ->Prop) (P:V->Prop)
  (hstep:∀ k i s,i<n->I i s->(∃ s',L1 (k+1) s (i:Int)=L1 k s' ((i+1:Nat):Int)/\L2 (k+1) s (i:Int)=L2 k s' ((i+1:Nat):Int)/\I (i+1) s')\/∃ v,L1 (k+1) s (i:Int)=some v/\L2 (k+1) s (i:Int)=some v/\P v)
  (hend:∀ k s,I n s->∃ v,L1 (k+1) s (n:Int)=some v/\L2 (k+1) s (n:Int)=some v/\P v) :
  ∀ k i s,i<=n->n-i<k->I i s->∃ v,L1 k s (i:Int)=some v/\L2 k s (i:Int)=some v/\P v:=by
 intro k
 induction k with
 | zero=>intro i s hi hk;omega
 | succ k ih =>
  intro i s hi hk hI
  by_cases h:i<n
  ·rcases hstep k i s h hI with ⟨s',e1,e2,hI'⟩ | ⟨v,e1,e2,hP⟩
   ·rw [e1,e2];exact ih (i+1) s' oa oa hI'
   ·exact ⟨v,e1,e2,hP⟩
  ·obtain rfl:i=n:=by omega
   exact hend k s hI
section
variable {N:Nat}
theorem Mv (N:Nat):∀ (k:Nat) (x:Int) (a b:yQ),hJ N k x a b=cS N k x a b:=by
 intro k
 induction k with
 | zero=>intro x a b;rw [hJ,cS]
 | succ k ih=>intro x a b;rw [hJ,cS];simp only [ih]
theorem vw (N:Nat) (n:Int):fV N n=d9 N n:=by unfold fV d9;rw [Mv]
theorem A8 {x:Int} (h0:0<=x) (h1:x<=9223372036854775807):qt x 10=some (x / 10):=by
 have e:x.tdiv 10=x / 10:=Int.tdiv_eq_ediv_of_nonneg h0
 unfold qt
 rw [aY ⟨by decide,by rw [e];unfold rng;simp only [bV,dM];omega⟩,e]
theorem Bk (x:Int):rm x 10=some (x.tmod 10):=tI (by decide)
theorem Mw:∀ (m k:Nat) (x:Int) (a b:yQ),0<=x->x<=9223372036854775807->x<10 ^ m->m<k->b.length+m<=1048576->∃ y b',cS N k x a b=some (y,b')/\b'.length<=b.length+m:=by
 intro m
 induction m with
 | zero =>
  intro k x a b h0 hm h1 hk hb
  obtain ⟨k,rfl⟩:∃ k',k=k'+1:=⟨k-1,oa⟩
  rw [cS,bb (by simp at h1;omega),am]
  exact ⟨x,b,rfl,oa⟩
 | succ m ih =>
  intro k x a b h0 hm h1 hk hb
  obtain ⟨k,rfl⟩:∃ k',k=k'+1:=⟨k-1,oa⟩
  rw [cS]
  by_cases hx:0<x
  ·have hd:x / 10<10 ^ m:=by rw [rg] at h1;omega
   rw [aX hx,ag,Bk,bs,bB (by decide) (by simp;omega),bs,A8 h0 hm,bs]
   obtain ⟨y,b',e,hl⟩:=ih k (x / 10) a (b++[x.tmod 10]) oa oa hd oa (by rw [b9,bU];omega)
   rw [b9,bU] at hl
   exact ⟨y,b',e,oa⟩
  ·rw [bb hx,am]
   exact ⟨x,b,rfl,oa⟩
theorem yT (hN:1073741824<=N) {n:Int} (h0:0<=n) (h1:n<=9223372036854775807):∃ b,d9 N n=some b/\b.length<=19:=by
 have hp:(10:Int) ^ 19=10000000000000000000:=by decide
 obtain ⟨y,b,e,hl⟩:=Mw (N:=N) 19 N n [] [] h0 h1 (by rw [hp];omega) oa (by rw [fH];omega)
 refine ⟨b,?_,by rw [fH] at hl;omega⟩
 unfold d9;rw [e,bs,lpB]
def vF (xs:yQ):Option Bool :=
 bif xs.all (fun v=>inR v 0 9) then
  (bif decide ((xs.length:Int)<=60) then (bif ((xs.length:Int) == 0) then some true else (sb (xs.length:Int) 1).bind fun x=>(ix xs x).bind fun y=>some (y != 0)) else some false)
 else some false
theorem AY (hN:1073741824<=N) {xs:yQ} (hx:xs.length<=1048576):gm N xs=vF xs:=by
 have h:=vP (fun k i=>fw N k xs i) xs (fun v=>inR v 0 9) hN hx
  (fun k i h=>by
   show fw N (k+1) xs (i:Int)=_
   rw [fw,dlt h,ag,bf h,bs,fh,bs,ad1 oa,bs])
  (fun k=>by
   show fw N (k+1) xs (xs.length:Int)=_
   rw [fw,dge oa,am])
 unfold gm vF
 rw [h,bs]
 cases xs.all fun v=>inR v 0 9 <;> rfl
theorem rf (hN:1073741824<=N) {xs:yQ} (hx:xs.length<=1048576):gq N xs=vF xs:=by
 have h:=vP (fun k i=>fx N k xs (xs.length:Int) xs (xs.length:Int) i) xs (fun v=>inR v 0 9) hN hx
  (fun k i h=>by
   show fx N (k+1) xs (xs.length:Int) xs (xs.length:Int) (i:Int)=_
   rw [fx,dlt h,ag,bf h,bs,gJ,bs,ad1 oa,bs])
  (fun k=>by
   show fx N (k+1) xs (xs.length:Int) xs (xs.length:Int) (xs.length:Int)=_
   rw [fx,dge oa,am])
 unfold gq vF
 rw [h,bs]
 cases xs.all fun v=>inR v 0 9 <;> rfl
theorem xn {xs:yQ} (hx:xs.length<=1048576):∃ b,vF xs=some b/\(b=true->xs.length<=60/\∀ v∈xs,0<=v/\v<=9):=by
 unfold vF
 cases ha:xs.all fun v=>inR v 0 9 with
 | false=>exact ⟨false,rfl,fun h=>by cases h⟩
 | true =>
  rw [ag]
  have hd:∀ v∈xs,0<=v/\v<=9:=fun v hv=>cg.1 ((dN.1 ha) v hv)
  by_cases h60:(xs.length:Int)<=60
  ·rw [aX h60,ag]
   by_cases h0:xs.length=0
   ·rw [show ((xs.length:Int) == 0)=true by simp [h0],ag]
    exact ⟨true,rfl,fun _=>⟨oa,hd⟩⟩
   ·rw [show ((xs.length:Int) == 0)=false by simp;simpa using h0,am,eC oa oa,bs,show (xs.length:Int)-1=((xs.length-1:Nat):Int) by omega,bf oa,bs]
    exact ⟨_,rfl,fun _=>⟨oa,hd⟩⟩
  ·rw [bb h60,am]
   exact ⟨false,rfl,fun h=>by cases h⟩
theorem MJ (N:Nat):∀ (k:Nat) (a b c:yQ) (d i:Int),iw N k a b c d i=cq N k a b c d i:=by
 intro k
 induction k with
 | zero=>intro a b c d i;rw [iw,cq]
 | succ k ih=>intro a b c d i;rw [iw,cq];simp only [ih]
theorem MB {a b:yQ}:∀ (m k:Nat) (c:Int) (out:yQ) (i:Nat),a.length<=i->0<=c->c<=1000000000->c<10 ^ m->m<k->out.length+m<=1048576->i+m<=1048576->∃ o y z,cq N k a b out c (i:Int)=some (o,y,z)/\o.length<=out.length+m:=by
 intro m
 induction m with
 | zero =>
  intro k c out i hi h0 hm h1 hk hb hi2
  obtain ⟨k,rfl⟩:∃ k',k=k'+1:=⟨k-1,oa⟩
  rw [cq,dge oa,am,bb (by simp at h1;omega),am]
  exact ⟨out,c,_,rfl,oa⟩
 | succ m ih =>
  intro k c out i hi h0 hm h1 hk hb hi2
  obtain ⟨k,rfl⟩:∃ k',k=k'+1:=⟨k-1,oa⟩
  rw [cq,dge oa,am]
  by_cases hx:0<c
  ·have hd:c / 10<10 ^ m:=by rw [rg] at h1;omega
   rw [aX hx,ag,Bk,bs,bB (by decide) (by simp;omega),bs,A8 h0 oa,bs,ad1 oa,bs]
   obtain ⟨o,y,z,e,hl⟩:=ih k (c / 10) (out++[c.tmod 10]) (i+1) oa oa oa hd oa (by rw [b9,bU];omega) oa
   rw [b9,bU] at hl
   exact ⟨o,y,z,e,oa⟩
  ·rw [bb hx,am]
   exact ⟨out,c,_,rfl,oa⟩
theorem Mx {a b:yQ} (ha:a.length<=1000) (hv:∀ v∈a,0<=v/\v<=1000000):∀ (m k:Nat) (c:Int) (out:yQ) (i:Nat),i+m=a.length->0<=c->c<=1000000->m+20<k->out.length<=i->∃ o y z,cq N k a b out c (i:Int)=some (o,y,z)/\o.length<=2000:=by
 intro m
 induction m with
 | zero =>
  intro k c out i hi h0 h1 hk hb
  have hp:(10:Int) ^ 7=10000000:=by decide
  obtain ⟨o,y,z,e,hl⟩:=MB (N:=N) (a:=a) (b:=b) 7 k c out i oa h0 oa (by rw [hp];omega) oa oa oa
  exact ⟨o,y,z,e,oa⟩
 | succ m ih =>
  intro k c out i hi h0 h1 hk hb
  obtain ⟨k,rfl⟩:∃ k',k=k'+1:=⟨k-1,oa⟩
  have h:i<a.length:=by omega
  have hx:=hv _ (bG h)
  rw [cq,dlt h,ag,bf h,bs,ci oa oa,bs,Bk,bs,bB (by decide) (by simp;omega),bs,A8 oa oa,bs,ad1 oa,bs]
  exact ih k _ _ (i+1) oa oa oa oa (by rw [b9,bU];omega)
def gc (xs:yQ):Nat->Nat
 | 0=>0
 | m+1=>if xs.getD m 0=0 then gc xs m else m+1
theorem wL (xs:yQ):∀ m,gc xs m<=m
 | 0=>bO _
 | m+1=>by
  have:=wL xs m
  unfold gc;split <;> omega
theorem GX {b xs:yQ} (hx:xs.length<=1048576):∀ m k,m<=xs.length->m<k->kc N k b xs (m:Int)=some ((gc xs m:Nat):Int):=by
 intro m
 induction m with
 | zero =>
  intro k hm hk
  obtain ⟨k,rfl⟩:∃ k',k=k'+1:=⟨k-1,oa⟩
  rw [kc,bb oa,am];rfl
 | succ m ih =>
  intro k hm hk
  obtain ⟨k,rfl⟩:∃ k',k=k'+1:=⟨k-1,oa⟩
  have h:m<xs.length:=by omega
  rw [kc,aX oa,ag,eC oa oa,bs,show ((m+1:Nat):Int)-1=(m:Int) by omega,bf h,bs,gc,bQ h]
  by_cases e:xs[m]=0
  ·rw [show (xs[m] == 0)=true by simpa using e,ag,aY e,bs,ih k oa oa]
  ·rw [show (xs[m] == 0)=false by simpa using e,am,ba e]
theorem Lj {b xs:yQ} (hx:xs.length<=1048576):∀ m k,m<=xs.length->m<k->ko N k b (xs.take m)=some (xs.take (gc xs m)):=by
 intro m
 induction m with
 | zero =>
  intro k hm hk
  obtain ⟨k,rfl⟩:∃ k',k=k'+1:=⟨k-1,oa⟩
  rw [ko,bb (by simp),am];rfl
 | succ m ih =>
  intro k hm hk
  obtain ⟨k,rfl⟩:∃ k',k=k'+1:=⟨k-1,oa⟩
  have h:m<xs.length:=by omega
  have hl:(xs.take (m+1)).length=m+1:=by rw [dk];omega
  have hg:(xs.take (m+1))[m]'oa=xs[m]:=uJ
  rw [ko,hl,aX oa,ag,eC oa oa,bs,show ((m+1:Nat):Int)-1=(m:Int) by omega,bf oa,bs,gc,bQ h,hg]
  by_cases e:xs[m]=0
  ·rw [show (xs[m] == 0)=true by simpa using e,ag,aY e,bs,show (0:Int)=((0:Nat):Int) from rfl,lC (cD _) oa,bs,gR,List.take_take,qV oa,ih k oa oa]
  ·rw [show (xs[m] == 0)=false by simpa using e,am,ba e]
theorem Fj (hN:1073741824<=N) {a:yQ} (ha:a.length<=1000) (hv:∀ v∈a,0<=v/\v<=1000000):∃ r:yQ × Bool,lE N a=some r/\iH N a=some r/\r.1.length<=60:=by
 obtain ⟨o,y,z,e,hl⟩:=Mx (N:=N) (b:=[]) ha hv a.length N 0 [] 0 oa oa oa oa (by simp)
 have e':cq N N a [] [] 0 0=_:=e
 have es:iw N N a [] [] 0 0=_:=(MJ N N a [] [] 0 0).trans e'
 have s1:=GX (N:=N) (b:=[]) (xs:=o) oa o.length N (bO _) oa
 have s2:=Lj (N:=N) (b:=[]) (xs:=o) oa o.length N (bO _) oa
 rw [fG] at s2
 have hle:=wL o o.length
 have hlen:(o.take (gc o o.length)).length=gc o o.length:=by rw [dk];omega
 have hS:lE N a=bif decide (60<((gc o o.length:Nat):Int)) then some ([],false) else some (o.take (gc o o.length),true):=by
  unfold lE
  rw [es,bs,lpB]
  simp only []
  rw [s2,bs,lpB,hlen]
 have hI:iH N a=bif decide (60<((gc o o.length:Nat):Int)) then some ([],false) else some (o.take (gc o o.length),true):=by
  unfold iH
  rw [e',bs,lpB]
  simp only []
  rw [s1,bs,lpB,show (0:Int)=((0:Nat):Int) from rfl,lC (cD _) oa,bs,gR]
 rw [hS,hI]
 by_cases h:60<((gc o o.length:Nat):Int)
 ·rw [aX h,ag];exact ⟨_,rfl,rfl,cD _⟩
 ·rw [bb h,am];exact ⟨_,rfl,rfl,by show (o.take (gc o o.length)).length<=60;omega⟩
theorem adN {i j:Nat} (h:i+j<=1000000):ad (i:Int) (j:Int)=some ((i+j:Nat):Int):=by rw [ci oa oa];congr 1
theorem EN {x y:Int} (hx:0<=x/\x<=9) (hy:0<=y/\y<=9):0<=x*y/\x*y<=81:=⟨nN hx.1 hy.1,lk hx.2 hy.2 hy.1 oa⟩
theorem Lr (hN:1073741824<=N) {a b:yQ} (ha:a.length<=60) (hb:b.length<=60) (da:∀ v∈a,0<=v/\v<=9) (db:∀ v∈b,0<=v/\v<=9) {i:Nat} (hi:i<a.length) {C:Int} (hC:C<=500000) {l:yQ} (hl:l.length=a.length+b.length) (hv:∀ v∈l,0<=v/\v<=C) :
  ∃ v:yQ × Int,f9 N N a b [] l (i:Int) 0=some v/\dB N N b [] l (i:Int) a[i] a (a.length:Int) (i:Int) b (b.length:Int) 0=some v/\(v.1.length=a.length+b.length/\∀ x∈v.1,0<=x/\x<=C+4860):=by
 have hai:=da _ (bG hi)
 exact Ap (fun k (s:yQ) j=>f9 N k a b [] s (i:Int) j) (fun k (s:yQ) j=>dB N k b [] s (i:Int) a[i] a (a.length:Int) (i:Int) b (b.length:Int) j) b.length
  (fun j s=>s.length=a.length+b.length/\∀ x∈s,0<=x/\x<=C+81*(j:Int)) (fun v=>v.1.length=a.length+b.length/\∀ x∈v.1,0<=x/\x<=C+4860)
  (fun k j s hj hI=>by
   obtain ⟨h1,h2⟩:=hI
   have hbj:=db _ (bG hj)
   obtain ⟨m1,m2⟩:=EN hai hbj
   have hij:i+j<s.length:=by omega
   have hs:=h2 _ (bG hij)
   refine .inl ⟨s.set (i+j) (s[i+j]+a[i]*b[j]),?_,?_,by simpa using h1,fun x hx=>?_⟩
   ·show f9 N (k+1) a b [] s (i:Int) (j:Int)=_
    rw [f9,dlt hj,ag,adN oa,bs,bs,bf hij,bs,bf hi,bs,bf hj,bs,el oa oa,bs,ci oa oa,bs,bs,lR hij,bs,ad1 oa,bs]
   ·show dB N (k+1) b [] s (i:Int) a[i] a (a.length:Int) (i:Int) b (b.length:Int) (j:Int)=_
    rw [dB,dlt hj,ag,bf hj,bs,adN oa,bs,bf hij,bs,el oa oa,bs,ci oa oa,bs,bs,lR hij,bs,ad1 oa,bs]
   ·rcases th hx with hx | rfl
    ·have:=h2 x hx;omega
    ·omega)
  (fun k s hI=>by
   obtain ⟨h1,h2⟩:=hI
   refine ⟨(s,(b.length:Int)),?_,?_,h1,fun x hx=>by have:=h2 x hx;omega⟩
   ·show f9 N (k+1) a b [] s (i:Int) (b.length:Int)=_
    rw [f9,dge oa,am]
   ·show dB N (k+1) b [] s (i:Int) a[i] a (a.length:Int) (i:Int) b (b.length:Int) (b.length:Int)=_
    rw [dB,dge oa,am]) N 0 l oa oa ⟨hl,fun x hx=>by have:=hv x hx;omega⟩
theorem JR (hN:1073741824<=N) {a b:yQ} (ha:a.length<=60) (hb:b.length<=60) (da:∀ v∈a,0<=v/\v<=9) (db:∀ v∈b,0<=v/\v<=9) {l:yQ} (hl:l.length=a.length+b.length) (hv:∀ v∈l,0<=v/\v<=0) :
  ∃ v:yQ × Int,f8 N N a b [] l 0=some v/\dC N N b [] l a (a.length:Int) 0=some v/\(v.1.length=a.length+b.length/\∀ x∈v.1,0<=x/\x<=500000) :=
 Ap (fun k (s:yQ) i=>f8 N k a b [] s i) (fun k (s:yQ) i=>dC N k b [] s a (a.length:Int) i) a.length
  (fun i s=>s.length=a.length+b.length/\∀ x∈s,0<=x/\x<=4860*(i:Int)) (fun v=>v.1.length=a.length+b.length/\∀ x∈v.1,0<=x/\x<=500000)
  (fun k i s hi hI=>by
   obtain ⟨h1,h2⟩:=hI
   obtain ⟨⟨v,z⟩,e1,e2,h3,h4⟩:=Lr (N:=N) hN ha hb da db hi (C:=4860*(i:Int)) oa h1 h2
   refine .inl ⟨v,?_,?_,h3,fun x hx=>by have:=h4 x hx;omega⟩
   ·show f8 N (k+1) a b [] s (i:Int)=_
    rw [f8,dlt hi,ag,e1,bs,lpB,ad1 oa];rfl
   ·show dC N (k+1) b [] s a (a.length:Int) (i:Int)=_
    rw [dC,dlt hi,ag,bf hi,bs,e2,bs,lpB,ad1 oa];rfl)
  (fun k s hI=>by
   obtain ⟨h1,h2⟩:=hI
   refine ⟨(s,(a.length:Int)),?_,?_,h1,fun x hx=>by have:=h2 x hx;omega⟩
   ·show f8 N (k+1) a b [] s (a.length:Int)=_
    rw [f8,dge oa,am]
   ·show dC N (k+1) b [] s a (a.length:Int) (a.length:Int)=_
    rw [dC,dge oa,am]) N 0 l oa oa ⟨hl,fun x hx=>by have:=hv x hx;omega⟩
theorem vG (hN:1073741824<=N) {a b:yQ} (ha:a.length<=1048576) (hb:b.length<=1048576):∃ r:yQ × Bool,iU N a b=some r/\ib N a b=some r/\r.1.length<=60:=by
 unfold iU ib
 rw [AY hN ha,rf hN ha,AY hN hb,rf hN hb]
 obtain ⟨x,ex,hx⟩:=xn ha
 obtain ⟨y,ey,hy⟩:=xn hb
 rw [ex,ey]
 cases x with
 | false=>exact ⟨([],false),rfl,rfl,cD _⟩
 | true =>
  cases y with
  | false=>exact ⟨([],false),rfl,rfl,cD _⟩
  | true =>
   obtain ⟨a1,a2⟩:=hx rfl
   obtain ⟨b1,b2⟩:=hy rfl
   obtain ⟨⟨v,z⟩,e1,e2,h3,h4⟩:=JR (N:=N) hN a1 b1 a2 b2 (l:=List.replicate (a.length+b.length) 0) (by simp) (fun v hv=>by rw [List.eq_of_mem_replicate hv];omega)
   obtain ⟨r,f1,f2,f3⟩:=Fj (N:=N) hN (a:=v) (by have h3':v.length=_:=h3;omega) (fun z hz=>by have:=h4 z hz;omega)
   refine ⟨r,?_,?_,f3⟩
   ·show (ad (a.length:Int) (b.length:Int)).bind _=_
    rw [adN oa,bs,xH (by decide) oa,bs,e1,bs,lpB]
    show (lE N v).bind _=_
    rw [f1,bs]
   ·show (ad (a.length:Int) (b.length:Int)).bind _=_
    rw [adN oa,bs,xH (by decide) oa,bs,e2,bs,lpB]
    show (iH N v).bind _=_
    rw [f2,bs]
end
abbrev Dm (n:Int):Prop:=-9223372036854775808<=n/\n<=9223372036854775807
def ME (s:Sum (yQ × Bool) (yQ × Int)):Prop:=match s with | .inl q=>q.1.length<=1048576 | .inr v=>v.1.length<=1048576
section
variable {N:Nat}
theorem vO (hN:1073741824<=N) {n k:Int} (h1:n<=9223372036854775807):∃ r:yQ × Bool,ie N n k=some r/\ia N n k=some r/\r.1.length<=1048576/\(n<0->r.2=false)/\(100<k->r.2=false):=by
 unfold ie ia
 by_cases h0:n<0
 ·rw [aX h0,ag,ag];exact ⟨_,rfl,rfl,cD _,fun _=>rfl,fun _=>rfl⟩
 rw [bb h0,am,am,fh,gJ]
 cases hk:inR k 0 100 with
 | false=>exact ⟨([],false),rfl,rfl,cD _,fun _=>rfl,fun _=>rfl⟩
 | true =>
  have hk':=cg.1 hk
  obtain ⟨m,rfl⟩:=nO hk'.1
  obtain ⟨o,eo,ho⟩:=yT (N:=N) hN (n:=1) oa oa
  obtain ⟨c,ec,hc⟩:=yT (N:=N) hN (n:=n) oa h1
  obtain ⟨s,e1,e2,hs⟩:=Ap (fun f (s:yQ) i=>dS N f n (m:Int) [] s i) (fun f (s:yQ) i=>cn N f n (m:Int) [] s i) m (fun _ s=>s.length<=1048576) ME
   (fun f i s hi hI=>by
    obtain ⟨r,m1,m2,hr⟩:=vG (N:=N) hN hI (b:=c) oa
    cases hb:r.2 with
    | true =>
     refine .inl ⟨r.1,?_,?_,oa⟩
     ·show dS N (f+1) n (m:Int) [] s (i:Int)=_
      rw [dS,dlt hi,ag,vw,ec,bs,m1,bs,hb,ag,ad1 oa,bs]
     ·show cn N (f+1) n (m:Int) [] s (i:Int)=_
      rw [cn,dlt hi,ag,ec,bs,m2,bs,hb,ag,ad1 oa,bs]
    | false =>
     refine .inr ⟨.inl ([],false),?_,?_,cD _⟩
     ·show dS N (f+1) n (m:Int) [] s (i:Int)=_
      rw [dS,dlt hi,ag,vw,ec,bs,m1,bs,hb,am]
     ·show cn N (f+1) n (m:Int) [] s (i:Int)=_
      rw [cn,dlt hi,ag,ec,bs,m2,bs,hb,am])
   (fun f s hI=>by
    refine ⟨.inr (s,(m:Int)),?_,?_,hI⟩
    ·show dS N (f+1) n (m:Int) [] s (m:Int)=_
     rw [dS,dge oa,am]
    ·show cn N (f+1) n (m:Int) [] s (m:Int)=_
     rw [cn,dge oa,am]) N 0 o oa oa oa
  have e1':dS N N n (m:Int) [] o 0=_:=e1
  have e2':cn N N n (m:Int) [] o 0=_:=e2
  rw [bs,bs,ag,ag,vw,eo,bs,bs,e1',e2',bs]
  cases s with
  | inl q=>exact ⟨q,rfl,rfl,hs,fun h=>absurd h h0,fun h=>by omega⟩
  | inr v=>exact ⟨(v.1,true),rfl,rfl,hs,fun h=>absurd h h0,fun h=>by omega⟩
def MC (xs:yQ) (s:Sum (yQ × Bool) (yQ × Int)):Prop:=match s with | .inl q=>q.1.length<=1048576/\q.2=false | .inr v=>v.1.length<=1048576/\∀ x∈xs,0<=x
theorem wE (hN:1073741824<=N) {xs ks:yQ} (hx:xs.length<=1048576) (hr:∀ v∈xs,v<=9223372036854775807):∃ r:yQ × Bool,e7 N xs ks=some r/\jh N xs ks=some r/\r.1.length<=1048576/\(r.2=true->∀ x∈xs,0<=x):=by
 unfold e7 jh
 by_cases hl:xs.length=ks.length
 ·obtain ⟨o,eo,ho⟩:=yT (N:=N) hN (n:=1) oa oa
  obtain ⟨s,e1,e2,hs⟩:=Ap (fun f (s:yQ) i=>bH N f xs ks [] s i) (fun f (s:yQ) i=>cd N f xs ks [] s (xs.length:Int) i) xs.length (fun i s=>s.length<=1048576/\∀ x∈xs.take i,0<=x) (MC xs)
   (fun f i s hi hI=>by
    obtain ⟨hI1,hI2⟩:=hI
    have hi2:i<ks.length:=by omega
    obtain ⟨p,p1,p2,hp,hp2,_⟩:=vO (N:=N) hN (n:=xs[i]) (k:=ks[i]) (hr _ (bG hi))
    obtain ⟨r,m1,m2,hr⟩:=vG (N:=N) hN hI1 (b:=p.1) hp
    cases hb:p.2 with
    | true =>
     cases hc:r.2 with
     | true =>
      refine .inl ⟨r.1,?_,?_,oa,fun x hx=>?_⟩
      ·show bH N (f+1) xs ks [] s (i:Int)=_
       rw [bH,dlt hi,ag,bf hi,bs,bf hi2,bs,p1,bs,m1,bs,hb,ag,hc,ag,ad1 oa,bs]
      ·show cd N (f+1) xs ks [] s (xs.length:Int) (i:Int)=_
       rw [cd,dlt hi,ag,bf hi,bs,bf hi2,bs,p2,bs,m2,bs,hb,ag,hc,ag,ad1 oa,bs]
      ·rw [gl hi] at hx
       rcases dj.1 hx with hx | hx
       ·exact hI2 x hx
       ·simp only [fE] at hx
        subst hx
        by_cases hneg:xs[i]<0
        ·rw [hp2 hneg] at hb;cases hb
        ·omega
     | false =>
      refine .inr ⟨.inl ([],false),?_,?_,cD _,rfl⟩
      ·show bH N (f+1) xs ks [] s (i:Int)=_
       rw [bH,dlt hi,ag,bf hi,bs,bf hi2,bs,p1,bs,m1,bs,hb,ag,hc,am]
      ·show cd N (f+1) xs ks [] s (xs.length:Int) (i:Int)=_
       rw [cd,dlt hi,ag,bf hi,bs,bf hi2,bs,p2,bs,m2,bs,hb,ag,hc,am]
    | false =>
     refine .inr ⟨.inl ([],false),?_,?_,cD _,rfl⟩
     ·show bH N (f+1) xs ks [] s (i:Int)=_
      rw [bH,dlt hi,ag,bf hi,bs,bf hi2,bs,p1,bs,m1,bs,hb,am]
     ·show cd N (f+1) xs ks [] s (xs.length:Int) (i:Int)=_
      rw [cd,dlt hi,ag,bf hi,bs,bf hi2,bs,p2,bs,m2,bs,hb,am])
   (fun f s hI=>by
    obtain ⟨hI1,hI2⟩:=hI
    rw [fG] at hI2
    refine ⟨.inr (s,(xs.length:Int)),?_,?_,hI1,hI2⟩
    ·show bH N (f+1) xs ks [] s (xs.length:Int)=_
     rw [bH,dge oa,am]
    ·show cd N (f+1) xs ks [] s (xs.length:Int) (xs.length:Int)=_
     rw [cd,dge oa,am]) N 0 o oa oa ⟨oa,fun x hx=>by simp at hx⟩
  have e1':bH N N xs ks [] o 0=_:=e1
  have e2':cd N N xs ks [] o (xs.length:Int) 0=_:=e2
  rw [show ((xs.length:Int) != (ks.length:Int))=false by simp [hl],am,am,vw,eo,bs,bs,e1',e2',bs]
  cases s with
  | inl q =>
   obtain ⟨h1,h2⟩:=hs
   exact ⟨q,rfl,rfl,h1,fun h=>by rw [h2] at h;cases h⟩
  | inr v =>
   obtain ⟨h1,h2⟩:=hs
   exact ⟨(v.1,true),rfl,rfl,h1,fun _=>h2⟩
 ·rw [show ((xs.length:Int) != (ks.length:Int))=true by simp;omega,ag,ag]
  exact ⟨_,rfl,rfl,cD _,fun h=>by cases h⟩
theorem Ln {a b:yQ} (hl:a.length=b.length) (ha:a.length<=1048576):∀ m k,m<=a.length->m<k->∃ s:Sum Int Int,gE N k a b ((m:Int)-1)=some s/\dn N k a b ((m:Int)-1)=some s:=by
 intro m
 induction m with
 | zero =>
  intro k hm hk
  obtain ⟨k,rfl⟩:∃ k',k=k'+1:=⟨k-1,oa⟩
  rw [gE,dn,bb oa,am,am]
  exact ⟨_,rfl,rfl⟩
 | succ m ih =>
  intro k hm hk
  obtain ⟨k,rfl⟩:∃ k',k=k'+1:=⟨k-1,oa⟩
  have h1:m<a.length:=by omega
  have h2:m<b.length:=by omega
  have hm1:((m+1:Nat):Int)-1=(m:Int):=by omega
  obtain ⟨s,e1,e2⟩:=ih k oa oa
  rw [hm1,gE,dn,aX oa,ag,ag,bf h1,bf h2]
  simp only [bs]
  rw [eC oa oa]
  simp only [bs,lc]
  rcases Int.lt_trichotomy a[m] b[m] with h | h | h
  ·rw [aX h,ag,show (a[m] != b[m])=true by simp;omega,ag,mg,aY h]
   exact ⟨_,rfl,rfl⟩
  ·rw [bb oa,am,bb oa,am,show (a[m] != b[m])=false by simp [h],am]
   exact ⟨s,e1,e2⟩
  ·rw [bb oa,am,aX h,ag,show (a[m] != b[m])=true by simp;omega,ag,mg,ba oa,aY h]
   exact ⟨_,rfl,rfl⟩
theorem yS (hN:1073741824<=N) {a b:yQ} (ha:a.length<=1048576) (hb:b.length<=1048576):∃ c,gO N a b=some c/\gM N a b=some c:=by
 unfold gO gM
 rw [AY hN ha,rf hN ha,AY hN hb,rf hN hb]
 obtain ⟨x,ex,_⟩:=xn ha
 obtain ⟨y,ey,_⟩:=xn hb
 rw [ex,ey]
 cases x with
 | false=>exact ⟨0,rfl,rfl⟩
 | true =>
  cases y with
  | false=>exact ⟨0,rfl,rfl⟩
  | true =>
   simp only [bs,ag,lc]
   by_cases hl:a.length=b.length
   ·obtain ⟨s,e1,e2⟩:=Ln (N:=N) hl ha a.length N (bO _) oa
    rw [show ((a.length:Int) != (b.length:Int))=false by simp [hl],am,am,eC oa oa]
    simp only [bs]
    rw [e1,e2,bs]
    cases s with
    | inl q=>exact ⟨q,rfl,rfl⟩
    | inr v=>exact ⟨0,rfl,rfl⟩
   ·rw [show ((a.length:Int) != (b.length:Int))=true by simp;omega,ag,ag]
    unfold mg
    by_cases h:(a.length:Int)<(b.length:Int)
    ·rw [aX h,ag,aY h];exact ⟨_,rfl,rfl⟩
    ·rw [bb h,am,ba h,aY oa];exact ⟨_,rfl,rfl⟩
theorem Mg (hN:1073741824<=N) {xs ns:yQ} {n f d:Int} (hx:xs.length<=1048576):eM N N xs n f ns d xs (xs.length:Int) 0=some (bif xs.all (fun v=>!decide (v<0)) then .inr (xs.length:Int) else .inl false) :=
 vP (fun k i=>eM N k xs n f ns d xs (xs.length:Int) i) xs (fun v=>!decide (v<0)) hN hx
  (fun k i h=>by
   show eM N (k+1) xs n f ns d xs (xs.length:Int) (i:Int)=_
   rw [eM,dlt h,ag,bf h,bs,ad1 oa,bs]
   cases decide (xs[i]<0)
   ·rw [am,sY,ag]
   ·rw [ag,uR,am])
  (fun k=>by
   show eM N (k+1) xs n f ns d xs (xs.length:Int) (xs.length:Int)=_
   rw [eM,dge oa,am])
theorem Hz {n:Int} {yL:List bk} {out:yQ}:0<=rT n yL out 1/\rT n yL out 1<=9223372036854775807:=by
 unfold rT
 cases hq:eu n yL out with
 | false=>exact ⟨kG _,by show (0:Int)<=_;omega⟩
 | true =>
  obtain ⟨h1,h2,h3,h4⟩:=kT hq
  obtain ⟨b1,b2,b3,b4⟩:=Bo (r:=1) ⟨h1,h2⟩ ⟨h3,h4⟩ oa
  rw [show (true&&inR 1 0 1000000)=true from rfl,ag]
  exact ⟨b3,oa⟩
theorem tR (hN:1073741824<=N) {n:Int} {yL:List bk} {out xs:yQ} {rs:List eE} {c:Int} (ha:dA yL) (ho:okI out) (hx:xs.length<=1048576) (hr:∀ v∈xs,Dm v) (hrs:rs.length<=1048576) (hc:Dm c) :
  ∃ b,d7 N n yL out xs rs c=some b/\gG N n yL out xs rs c=some b:=by
 obtain ⟨⟨ws,d⟩,s1,s2,s3⟩:=FD (N:=N) hN hrs
 obtain ⟨⟨p,pb⟩,p1,p2,p3,p4⟩:=wE (N:=N) hN (xs:=xs) (ks:=ws) hx (fun v hv=>(hr v hv).2)
 obtain ⟨⟨y,yb⟩,y1,y2,y3,y4,y5⟩:=vO (N:=N) hN (n:=c) (k:=d) hc.2
 obtain ⟨⟨f,fb⟩,f1,f2,f3,_,_⟩:=vO (N:=N) hN (n:=rT n yL out 1) (k:=d) Hz.2
 obtain ⟨⟨z,zb⟩,z1,z2,z3⟩:=vG (N:=N) hN (a:=p) (b:=f) p3 f3
 obtain ⟨q,q1,q2⟩:=yS (N:=N) hN (a:=y) (b:=z) y3 (by have h:z.length<=60:=z3;omega)
 unfold d7 gG
 rw [kQ hN ha ho,fS hN ha ho,xQ hN ha ho,xU hN ha ho,s1]
 simp only [bs]
 rw [p1,y1,f1]
 simp only [bs]
 rw [z1]
 simp only [bs]
 rw [q1]
 simp only [bs]
 have hW:kM N xs rs c (rT n yL out 1)=some (decide (0<d)&&(pb&&(yb&&(fb&&(zb&&decide (q<=0)))))):=by
  unfold kM
  rw [s2]
  simp only [bs]
  by_cases hcn:c<0
  ·rw [aX hcn,ag]
   have:yb=false:=y4 hcn
   subst this;simp
  rw [bb hcn,am]
  by_cases hd:d<1
  ·rw [aX hd,ag,bb (by omega:¬ 0<d)];rfl
  rw [bb hd,am]
  by_cases hd2:100<d
  ·rw [aX hd2,ag]
   have:yb=false:=y5 hd2
   subst this;simp
  rw [bb hd2,am,Mg hN hx,bs]
  cases hall:xs.all (fun v=>!decide (v<0)) with
  | false =>
   have:pb=false:=by
    rw [<- xa]
    intro hpb
    have h5:=p4 hpb
    rw [<- xa,dN] at hall
    exact hall fun v hv=>by have:=h5 v hv;simp;omega
   subst this
   rw [am,lM];simp
  | true =>
   rw [ag,iX,y2,bs,p2,bs,f2,bs,z2,bs,aX (by omega:0<d)]
   simp only [q2,bs]
   cases yb <;> cases pb <;> cases fb <;> cases zb <;> rfl
 rw [hW]
 cases eu n yL out with
 | false =>
  refine ⟨false,?_,rfl⟩
  cases decide (0<d) <;> cases pb <;> cases yb <;> cases fb <;> cases zb <;> rfl
 | true =>
  refine ⟨_,?_,rfl⟩
  cases decide (0<d) <;> cases pb <;> cases yb <;> cases fb <;> cases zb <;> rfl
end
def vB:yQ->Int
 | []=>0
 | x :: xs=>x+10*vB xs
theorem p10 (n:Nat):(10:Int) ^ (n+1)=10*10 ^ n:=by rw [rg,Int.mul_comm]
theorem Bu:∀ n:Nat,(0:Int)<10 ^ n
 | 0=>by decide
 | n+1=>by rw [p10];have:=Bu n;omega
theorem vf {m n:Nat} (h:m<=n):(10:Int) ^ m<=10 ^ n:=by
 induction n with
 | zero =>
  have:m=0:=by omega
  subst this;exact kG _
 | succ n ih =>
  by_cases e:m=n+1
  ·subst e;exact kG _
  ·have:=ih oa
   have:=Bu n
   rw [p10];omega
theorem Am:∀ a b:yQ,vB (a++b)=vB a+10 ^ a.length*vB b
 | [],b=>by show vB b=0+10 ^ 0*vB b;rw [show (10:Int) ^ 0=1 from rfl];omega
 | x :: a,b=>by
  show x+10*vB (a++b)=x+10*vB a+10 ^ (a.length+1)*vB b
  rw [Am a b,p10,Int.mul_add,Int.mul_assoc];omega
theorem Gr:∀ (s:yQ) (k:Nat) (h:k<s.length) (c:Int),vB (s.set k (s[k]+c))=vB s+c*10 ^ k
 | [],k,h,_=>by simp at h
 | x :: s,0,_,c=>by show x+c+10*vB s=x+10*vB s+c*10 ^ 0;rw [show (10:Int) ^ 0=1 from rfl];omega
 | x :: s,k+1,h,c=>by
  have hk:k<s.length:=by simpa using h
  have:=Gr s k hk c
  show x+10*vB (s.set k (s[k]+c))=x+10*vB s+c*10 ^ (k+1)
  rw [this,p10,Int.mul_add]
  have e:c*(10*10 ^ k)=10*(c*(10:Int) ^ k):=by ac_rfl
  rw [e];omega
def o5 (xs:yQ):Prop:=∀ v∈xs,0<=v/\v<=9
def Cn (xs:yQ):Prop:=o5 xs/\(xs=[]\/xs.getD (xs.length-1) 0≠0)
theorem Fa:∀ {xs:yQ},o5 xs->0<=vB xs
 | [],_=>kG _
 | x :: xs,h=>by
  have h1:=h x dO
  have:=Fa (xs:=xs) fun v hv=>h v (fK _ hv)
  show 0<=x+10*vB xs;omega
theorem xx:∀ {xs:yQ},o5 xs->vB xs<10 ^ xs.length
 | [],_=>by decide
 | x :: xs,h=>by
  have h1:=h x dO
  have:=xx (xs:=xs) fun v hv=>h v (fK _ hv)
  show x+10*vB xs<10 ^ (xs.length+1);rw [p10];omega
theorem Iv:∀ {xs:yQ},o5 xs->xs≠[]->xs.getD (xs.length-1) 0≠0->10 ^ (xs.length-1)<=vB xs
 | [],_,h,_=>absurd rfl h
 | [x],h,_,h2=>by
  have h1:=h x dO
  have:x≠0:=by simpa using h2
  show (10:Int) ^ 0<=x+10*0
  rw [show (10:Int) ^ 0=1 from rfl];omega
 | x :: y :: xs,h,_,h2=>by
  have h1:=h x dO
  have:=Iv (xs:=y :: xs) (fun v hv=>h v (fK _ hv)) (by simp) (by simpa using h2)
  simp only [bX,ru] at this ⊢
  show (10:Int) ^ (xs.length+1)<=x+10*vB (y :: xs)
  rw [p10];omega
theorem Cn.ge {xs:yQ} (h:Cn xs) (hn:xs≠[]):10 ^ (xs.length-1)<=vB xs:=by
 rcases h.2 with e | e
 ·exact absurd e hn
 ·exact Iv h.1 hn e
theorem Cn.len {xs:yQ} (h:Cn xs) {n:Nat} (hv:vB xs<10 ^ n):xs.length<=n:=by
 by_cases hn:xs=[]
 ·subst hn;exact cD _
 ·have:=h.ge hn
  by_cases hl:xs.length<=n
  ·exact hl
  ·have:=vf (show n<=xs.length-1 by omega)
   omega
section
variable {N:Nat}
theorem xF {xs:yQ} (h:Cn xs) (hl:xs.length<=60):vF xs=some true:=by
 unfold vF
 have h1:xs.all (fun v=>inR v 0 9)=true:=dN.2 fun v hv=>cg.2 (h.1 v hv)
 rw [h1,ag,aX oa,ag]
 by_cases h0:xs.length=0
 ·rw [show ((xs.length:Int) == 0)=true by simp [h0],ag]
 ·rw [show ((xs.length:Int) == 0)=false by simp;simpa using h0,am,eC oa oa,bs,show (xs.length:Int)-1=((xs.length-1:Nat):Int) by omega,bf oa,bs]
  rcases h.2 with e | e
  ·rw [e] at h0;simp at h0
  ·rw [bQ oa] at e
   simp [e]
theorem yk {x:Int} (h:0<=x):x.tmod 10=x % 10:=Int.tmod_eq_emod_of_nonneg h
theorem MF:∀ (m k:Nat) (x:Int) (a b:yQ),0<=x->x<=9223372036854775807->x<10 ^ m->m<k->b.length+m<=1048576->∃ y ds,cS N k x a b=some (y,b++ds)/\vB ds=x/\o5 ds/\ds.length<=m/\(x=0->ds=[])/\(0<x->ds≠[]/\ds.getD (ds.length-1) 0≠0):=by
 intro m
 induction m with
 | zero =>
  intro k x a b h0 hm h1 hk hb
  obtain ⟨k,rfl⟩:∃ k',k=k'+1:=⟨k-1,oa⟩
  have hx:x=0:=by simp at h1;omega
  rw [cS,bb oa,am]
  exact ⟨x,[],by simp,hx.symm,by intro v hv;simp at hv,by simp,fun _=>rfl,fun h=>by omega⟩
 | succ m ih =>
  intro k x a b h0 hm h1 hk hb
  obtain ⟨k,rfl⟩:∃ k',k=k'+1:=⟨k-1,oa⟩
  rw [cS]
  by_cases hx:0<x
  ·have hd:x / 10<10 ^ m:=by rw [rg] at h1;omega
   rw [aX hx,ag,Bk,bs,bB (by decide) (by simp;omega),bs,A8 h0 hm,bs]
   obtain ⟨y,ds,e,v1,v2,v3,v4,v5⟩:=ih k (x / 10) a (b++[x.tmod 10]) oa oa hd oa (by rw [b9,bU];omega)
   refine ⟨y,x.tmod 10 :: ds,by rw [e,gQ];rfl,?_,?_,by simp;omega,fun h=>by omega,fun _=>⟨by simp,?_⟩⟩
   ·show x.tmod 10+10*vB ds=x
    rw [v1,yk h0];omega
   ·intro v hv
    rcases c5.1 hv with rfl | hv
    ·rw [yk h0];omega
    ·exact v2 v hv
   ·by_cases hq:0<x / 10
    ·obtain ⟨w1,w2⟩:=v5 hq
     obtain ⟨d,t,rfl⟩:=List.exists_cons_of_ne_nil w1
     simpa using w2
    ·have:=v4 oa
     subst this
     rw [yk h0]
     show x % 10≠0
     omega
  ·have hx0:x=0:=by omega
   rw [bb hx,am]
   exact ⟨x,[],by simp,hx0.symm,by intro v hv;simp at hv,by simp,fun _=>rfl,fun h=>by omega⟩
theorem EZ (hN:1073741824<=N) {n:Int} (h0:0<=n) (h1:n<=9223372036854775807):∃ b,d9 N n=some b/\b.length<=19/\vB b=n/\Cn b:=by
 have hp:(10:Int) ^ 19=10000000000000000000:=by decide
 obtain ⟨y,b,e,v1,v2,v3,v4,v5⟩:=MF (N:=N) 19 N n [] [] h0 h1 (by rw [hp];omega) oa (by rw [fH];omega)
 refine ⟨b,?_,v3,v1,v2,?_⟩
 ·unfold d9;rw [e,bs,lpB];rfl
 ·by_cases h:0<n
  ·exact .inr (v5 h).2
  ·exact .inl (v4 oa)
theorem L0 {a b:yQ}:∀ (m k:Nat) (c:Int) (out:yQ) (i:Nat),a.length<=i->0<=c->c<=1000000000->c<10 ^ m->m<k->out.length+m<=1048576->i+m<=1048576->∃ ds y z,cq N k a b out c (i:Int)=some (out++ds,y,z)/\ds.length<=m/\vB ds=c/\o5 ds:=by
 intro m
 induction m with
 | zero =>
  intro k c out i hi h0 hm h1 hk hb hi2
  obtain ⟨k,rfl⟩:∃ k',k=k'+1:=⟨k-1,oa⟩
  have hc:c=0:=by simp at h1;omega
  rw [cq,dge oa,am,bb oa,am]
  exact ⟨[],c,_,by rw [mP],by simp,hc.symm,by intro v hv;simp at hv⟩
 | succ m ih =>
  intro k c out i hi h0 hm h1 hk hb hi2
  obtain ⟨k,rfl⟩:∃ k',k=k'+1:=⟨k-1,oa⟩
  rw [cq,dge oa,am]
  by_cases hx:0<c
  ·have hd:c / 10<10 ^ m:=by rw [rg] at h1;omega
   rw [aX hx,ag,Bk,bs,bB (by decide) (by simp;omega),bs,A8 h0 oa,bs,ad1 oa,bs]
   obtain ⟨ds,y,z,e,hl,hv,hd2⟩:=ih k (c / 10) (out++[c.tmod 10]) (i+1) oa oa oa hd oa (by rw [b9,bU];omega) oa
   refine ⟨c.tmod 10 :: ds,y,z,by rw [e,gQ];rfl,by simp;omega,?_,?_⟩
   ·show c.tmod 10+10*vB ds=c
    rw [hv,yk h0];omega
   ·intro v hv
    rcases c5.1 hv with rfl | hv
    ·rw [yk h0];omega
    ·exact hd2 v hv
  ·have hc:c=0:=by omega
   rw [bb hx,am]
   exact ⟨[],c,_,by rw [mP],by simp,hc.symm,by intro v hv;simp at hv⟩
theorem LW {a b:yQ} (ha:a.length<=1000) (hv:∀ v∈a,0<=v/\v<=1000000):∀ (m k:Nat) (c:Int) (out:yQ) (i:Nat),i+m=a.length->0<=c->c<=1000000->m+20<k->out.length<=i->∃ ds y z,cq N k a b out c (i:Int)=some (out++ds,y,z)/\ds.length<=m+7/\vB ds=c+vB (a.drop i)/\o5 ds:=by
 intro m
 induction m with
 | zero =>
  intro k c out i hi h0 h1 hk hb
  have hp:(10:Int) ^ 7=10000000:=by decide
  obtain ⟨ds,y,z,e,hl,h3,h4⟩:=L0 (N:=N) (a:=a) (b:=b) 7 k c out i oa h0 oa (by rw [hp];omega) oa oa oa
  refine ⟨ds,y,z,e,oa,?_,h4⟩
  rw [h3,li oa]
  show c=c+0;omega
 | succ m ih =>
  intro k c out i hi h0 h1 hk hb
  obtain ⟨k,rfl⟩:∃ k',k=k'+1:=⟨k-1,oa⟩
  have h:i<a.length:=by omega
  have hx:=hv _ (bG h)
  rw [cq,dlt h,ag,bf h,bs,ci oa oa,bs,Bk,bs,bB (by decide) (by simp;omega),bs,A8 oa oa,bs,ad1 oa,bs]
  obtain ⟨ds,y,z,e,hl,h3,h4⟩:=ih k ((c+a[i]) / 10) (out++[(c+a[i]).tmod 10]) (i+1) oa oa oa oa (by rw [b9,bU];omega)
  refine ⟨(c+a[i]).tmod 10 :: ds,y,z,by rw [e,gQ];rfl,by simp;omega,?_,?_⟩
  ·rw [gr h]
   show (c+a[i]).tmod 10+10*vB ds=c+(a[i]+10*vB (a.drop (i+1)))
   rw [h3,yk oa];omega
  ·intro v hv
   rcases c5.1 hv with rfl | hv
   ·rw [yk oa];omega
   ·exact h4 v hv
theorem BA {xs:yQ}:∀ m,m<=xs.length->vB (xs.take (gc xs m))=vB (xs.take m)/\(gc xs m=0\/xs.getD (gc xs m-1) 0≠0)
 | 0,_=>⟨rfl,.inl rfl⟩
 | m+1,h=>by
  obtain ⟨h1,h2⟩:=BA (xs:=xs) m oa
  unfold gc
  by_cases e:xs.getD m 0=0
  ·rw [aY e]
   refine ⟨?_,h2⟩
   rw [h1,gl (show m<xs.length by omega),Am]
   rw [bQ oa] at e
   rw [e]
   show _=_+_*(0+10*0)
   rw [show (0:Int)+10*0=0 from rfl,uH,sC]
  ·rw [ba e];exact ⟨rfl,.inr (by simpa using e)⟩
theorem GR (hN:1073741824<=N) {a:yQ} (ha:a.length<=1000) (hv:∀ v∈a,0<=v/\v<=1000000):∃ r:yQ × Bool,iH N a=some r/\(r.2=true->vB r.1=vB a/\Cn r.1/\r.1.length<=60)/\(r.2=true↔vB a<10 ^ 60):=by
 obtain ⟨o,y,z,e,hl,h3,h4⟩:=LW (N:=N) (b:=[]) ha hv a.length N 0 [] 0 oa oa oa oa (by simp)
 have e':cq N N a [] [] 0 0=some (o,y,z):=e
 have h3:vB o=vB a:=by rw [h3,gR];omega
 have s1:=GX (N:=N) (b:=[]) (xs:=o) oa o.length N (bO _) oa
 obtain ⟨g1,g2⟩:=BA (xs:=o) o.length (bO _)
 rw [fG] at g1
 have hle:=wL o o.length
 have hlen:(o.take (gc o o.length)).length=gc o o.length:=by rw [dk];omega
 have hC:Cn (o.take (gc o o.length)):=by
  refine ⟨fun v hv=>h4 v (ri hv),?_⟩
  rw [hlen]
  rcases g2 with g2 | g2
  ·exact .inl (by rw [g2];rfl)
  ·by_cases hz:gc o o.length=0
   ·exact .inl (by rw [hz];rfl)
   ·right
    rw [pF,ll,aY oa,<- pF];exact g2
 have hI:iH N a=bif decide (60<((gc o o.length:Nat):Int)) then some ([],false) else some (o.take (gc o o.length),true):=by
  unfold iH
  rw [e',bs,lpB]
  simp only []
  rw [s1,bs,lpB,show (0:Int)=((0:Nat):Int) from rfl,lC (cD _) oa,bs,gR]
 rw [hI]
 by_cases h:60<gc o o.length
 ·rw [aX oa,ag]
  refine ⟨_,rfl,(fun h=>nomatch h),⟨(fun h=>nomatch h),fun hlt=>?_⟩⟩
  rw [<- h3,<- g1] at hlt
  have:=hC.len hlt
  omega
 ·rw [bb oa,am]
  refine ⟨_,rfl,fun _=>⟨by show vB (o.take _)=_;rw [g1,h3],hC,by show (o.take _).length<=60;omega⟩,fun _=>?_,fun _=>rfl⟩
  rw [<- h3,<- g1]
  have h1:=xx hC.1
  have h2:=vf (show (o.take (gc o o.length)).length<=60 by omega)
  omega
theorem Jb {a b:yQ} (ha:a.length<=60) (hb:b.length<=60) (da:o5 a) (db:o5 b) {i:Nat} (hi:i<a.length) {C:Int} (hC:C<=500000):∀ (m j k:Nat) (s:yQ),j+m=b.length->m<k->s.length=a.length+b.length->(∀ x∈s,0<=x/\x<=C+81*(j:Int)) ->
  ∃ s',dB N k b [] s (i:Int) a[i] a (a.length:Int) (i:Int) b (b.length:Int) (j:Int)=some (s',(b.length:Int))/\s'.length=a.length+b.length/\(∀ x∈s',0<=x/\x<=C+4860)/\vB s'=vB s+a[i]*10 ^ (i+j)*vB (b.drop j):=by
 have hai:=da _ (bG hi)
 intro m
 induction m with
 | zero =>
  intro j k s hj hk hs hx
  obtain ⟨k,rfl⟩:∃ k',k=k'+1:=⟨k-1,oa⟩
  obtain rfl:j=b.length:=by omega
  rw [dB,dge oa,am]
  refine ⟨s,rfl,hs,fun x h=>by have:=hx x h;omega,?_⟩
  rw [List.drop_length]
  show _=_+_*0
  rw [uH,sC]
 | succ m ih =>
  intro j k s hj hk hs hx
  obtain ⟨k,rfl⟩:∃ k',k=k'+1:=⟨k-1,oa⟩
  have hjb:j<b.length:=by omega
  have hbj:=db _ (bG hjb)
  obtain ⟨m1,m2⟩:=EN hai hbj
  have hij:i+j<s.length:=by omega
  have hsv:=hx _ (bG hij)
  rw [dB,dlt hjb,ag,bf hjb,bs,adN oa,bs,bf hij,bs,el oa oa,bs,ci oa oa,bs,bs,lR hij,bs,ad1 oa,bs]
  obtain ⟨s',e1,e2,e3,e4⟩:=ih (j+1) k (s.set (i+j) (s[i+j]+a[i]*b[j])) oa oa (by simpa using hs) fun x h=>by
   rcases th h with h | rfl
   ·have:=hx x h;omega
   ·omega
  refine ⟨s',e1,e2,e3,?_⟩
  rw [e4,Gr,gr hjb]
  show _=vB s+a[i]*10 ^ (i+j)*(b[j]+10*vB (b.drop (j+1)))
  rw [show i+(j+1)=(i+j)+1 by omega,p10]
  have e:a[i]*10 ^ (i+j)*(b[j]+10*vB (b.drop (j+1)))=a[i]*b[j]*10 ^ (i+j)+a[i]*(10*10 ^ (i+j))*vB (b.drop (j+1)):=by
   rw [Int.mul_add]
   congr 1 <;> ac_rfl
  rw [e];omega
theorem HM (hN:1073741824<=N) {a b:yQ} (ha:a.length<=60) (hb:b.length<=60) (da:o5 a) (db:o5 b):∀ (m i k:Nat) (s:yQ),i+m=a.length->m<k->s.length=a.length+b.length->(∀ x∈s,0<=x/\x<=4860*(i:Int)) ->
  ∃ s',dC N k b [] s a (a.length:Int) (i:Int)=some (s',(a.length:Int))/\s'.length=a.length+b.length/\(∀ x∈s',0<=x/\x<=500000)/\vB s'=vB s+10 ^ i*vB (a.drop i)*vB b:=by
 intro m
 induction m with
 | zero =>
  intro i k s hi hk hs hx
  obtain ⟨k,rfl⟩:∃ k',k=k'+1:=⟨k-1,oa⟩
  obtain rfl:i=a.length:=by omega
  rw [dC,dge oa,am]
  refine ⟨s,rfl,hs,fun x h=>by have:=hx x h;omega,?_⟩
  rw [List.drop_length]
  show _=_+_*0*_
  rw [uH,Int.zero_mul,sC]
 | succ m ih =>
  intro i k s hi hk hs hx
  obtain ⟨k,rfl⟩:∃ k',k=k'+1:=⟨k-1,oa⟩
  have h:i<a.length:=by omega
  obtain ⟨s1,e1,e2,e3,e4⟩:=Jb (N:=N) ha hb da db h (C:=4860*(i:Int)) oa b.length 0 N s oa oa hs fun x hx'=>by have:=hx x hx';omega
  obtain ⟨s',f1,f2,f3,f4⟩:=ih (i+1) k s1 oa oa e2 fun x hx'=>by have:=e3 x hx';omega
  have e1':dB N N b [] s (i:Int) a[i] a (a.length:Int) (i:Int) b (b.length:Int) 0=_:=e1
  rw [dC,dlt h,ag,bf h,bs,e1',bs,lpB]
  dsimp only
  rw [ad1 oa,bs]
  refine ⟨s',f1,f2,f3,?_⟩
  rw [f4,e4,gR,lw,gr h]
  show _=vB s+10 ^ i*(a[i]+10*vB (a.drop (i+1)))*vB b
  have e:10 ^ i*(a[i]+10*vB (a.drop (i+1)))*vB b=a[i]*10 ^ i*vB b+10*10 ^ i*vB (a.drop (i+1))*vB b:=by
   rw [Int.mul_add,Int.add_mul]
   congr 1 <;> ac_rfl
  rw [p10,e];omega
theorem Dy:∀ n:Nat,vB (List.replicate n 0)=0
 | 0=>rfl
 | n+1=>by rw [zj];show 0+10*vB (List.replicate n 0)=0;rw [Dy n];rfl
theorem E4 (hN:1073741824<=N) {a b:yQ} (ha:Cn a) (hb:Cn b) (la:a.length<=60) (lb:b.length<=60):∃ r:yQ × Bool,ib N a b=some r/\(r.2=true->vB r.1=vB a*vB b/\Cn r.1/\r.1.length<=60)/\(r.2=true↔vB a*vB b<10 ^ 60):=by
 unfold ib
 rw [rf hN oa,rf hN oa,xF ha la,xF hb lb,bs,ag,bs,ag,adN oa,bs,xH (by decide) oa,bs]
 obtain ⟨s,e1,e2,e3,e4⟩:=HM hN la lb ha.1 hb.1 a.length 0 N (List.replicate (a.length+b.length) 0) oa oa (by simp) (fun v hv=>by rw [List.eq_of_mem_replicate hv];omega)
 have e1':dC N N b [] (List.replicate (a.length+b.length) 0) a (a.length:Int) 0=_:=e1
 obtain ⟨r,c1,c2,c3⟩:=GR hN (a:=s) oa (fun x hx=>by have:=e3 x hx;omega)
 have hv:vB s=vB a*vB b:=by
  rw [e4,Dy,gR,show (10:Int) ^ 0=1 from rfl,uc,Int.zero_add]
 rw [hv] at c2 c3
 rw [e1',bs,lpB]
 dsimp only
 rw [c1,bs]
 exact ⟨_,rfl,c2,c3⟩
theorem Jv (hN:1073741824<=N) {n:Int} (h0:0<=n) (h1:n<=9223372036854775807) {d:Nat} (hd:d<=100):∃ r:yQ × Bool,ia N n (d:Int)=some r/\(r.2=true->vB r.1=n ^ d/\Cn r.1/\r.1.length<=60)/\(r.2=true↔∀ j,j<d->n ^ (j+1)<10 ^ 60):=by
 obtain ⟨o,eo,ho,vo,co⟩:=EZ (N:=N) hN (n:=1) oa oa
 obtain ⟨c,ec,hc,vc,cc⟩:=EZ (N:=N) hN h0 h1
 have key:∀ (m i k:Nat) (s:yQ),i+m=d->m<k->Cn s->s.length<=60->vB s=n ^ i ->
   (∃ s',cn N k n (d:Int) [] s (i:Int)=some (.inr (s',(d:Int)))/\Cn s'/\s'.length<=60/\vB s'=n ^ d/\∀ j,i<=j->j<d->n ^ (j+1)<10 ^ 60) \/
   (cn N k n (d:Int) [] s (i:Int)=some (.inl ([],false))/\∃ j,i<=j/\j<d/\¬ n ^ (j+1)<10 ^ 60):=by
  intro m
  induction m with
  | zero =>
   intro i k s hi hk h1 h2 h3
   obtain ⟨k,rfl⟩:∃ k',k=k'+1:=⟨k-1,oa⟩
   obtain rfl:i=d:=by omega
   left
   rw [cn,dge oa,am]
   exact ⟨s,rfl,h1,h2,h3,fun j a b=>by omega⟩
  | succ m ih =>
   intro i k s hi hk k1 k2 k3
   obtain ⟨k,rfl⟩:∃ k',k=k'+1:=⟨k-1,oa⟩
   obtain ⟨r,m1,m2,m3⟩:=E4 hN k1 cc k2 oa
   have hp:vB s*vB c=n ^ (i+1):=by rw [k3,vc,rg]
   rw [hp] at m2 m3
   rw [cn,dlt oa,ag,ec,bs,m1,bs]
   cases hb:r.2 with
   | true =>
    obtain ⟨q1,q2,q3⟩:=m2 hb
    rw [ag,ad1 oa,bs]
    rcases ih (i+1) k r.1 oa oa q2 q3 q1 with ⟨s',a1,a2,a3,a4,a5⟩ | ⟨a1,j,a2,a3,a4⟩
    ·refine .inl ⟨s',a1,a2,a3,a4,fun j b1 b2=>?_⟩
     by_cases e:j=i
     ·rw [e];exact m3.1 hb
     ·exact a5 j oa b2
    ·exact .inr ⟨a1,j,oa,a3,a4⟩
   | false =>
    rw [am]
    refine .inr ⟨rfl,i,bO _,oa,fun h=>?_⟩
    rw [m3.2 h] at hb;cases hb
 unfold ia
 rw [bb oa,am,gJ,bs,show inR (d:Int) 0 100=true from cg.2 oa,ag,eo,bs]
 rcases key d 0 N o oa oa co oa (by rw [vo,Int.pow_zero]) with ⟨s',a1,a2,a3,a4,a5⟩ | ⟨a1,j,a2,a3,a4⟩
 ·have a1':cn N N n (d:Int) [] o 0=_:=a1
  rw [a1',bs,iX]
  exact ⟨_,rfl,fun _=>⟨a4,a2,a3⟩,fun _ j hj=>a5 j oa hj,fun _=>rfl⟩
 ·have a1':cn N N n (d:Int) [] o 0=_:=a1
  rw [a1',bs,lM]
  exact ⟨_,rfl,(fun h=>nomatch h),⟨(fun h=>nomatch h),fun h=>absurd (h j a3) a4⟩⟩
theorem LO {a b:yQ} (hl:a.length=b.length) (da:o5 a) (db:o5 b) (ha:a.length<=1048576):∀ m k,m<=a.length->m<k ->
  (∃ q,dn N k a b ((m:Int)-1)=some (.inl q)/\(q<0/\vB (a.take m)<vB (b.take m)\/0<q/\vB (b.take m)<vB (a.take m)))\/(∃ z,dn N k a b ((m:Int)-1)=some (.inr z))/\vB (a.take m)=vB (b.take m):=by
 intro m
 induction m with
 | zero =>
  intro k hm hk
  obtain ⟨k,rfl⟩:∃ k',k=k'+1:=⟨k-1,oa⟩
  rw [dn,bb oa,am]
  exact .inr ⟨⟨_,rfl⟩,rfl⟩
 | succ m ih =>
  intro k hm hk
  obtain ⟨k,rfl⟩:∃ k',k=k'+1:=⟨k-1,oa⟩
  have h1:m<a.length:=by omega
  have h2:m<b.length:=by omega
  have hm1:((m+1:Nat):Int)-1=(m:Int):=by omega
  have ea:vB (a.take (m+1))=vB (a.take m)+10 ^ m*a[m]:=by
   rw [gl h1,Am,dk,qV oa]
   show _+10 ^ m*(a[m]+10*0)=_
   rw [uH,sC]
  have eb:vB (b.take (m+1))=vB (b.take m)+10 ^ m*b[m]:=by
   rw [gl h2,Am,dk,qV oa]
   show _+10 ^ m*(b[m]+10*0)=_
   rw [uH,sC]
  have dta:o5 (a.take m):=fun v hv=>da v (ri hv)
  have dtb:o5 (b.take m):=fun v hv=>db v (ri hv)
  have la:=xx dta
  have lb:=xx dtb
  rw [dk,qV oa] at la lb
  have na:=Fa dta
  have nb:=Fa dtb
  have key:∀ x y:Int,x<y->(10:Int) ^ m*x+10 ^ m<=10 ^ m*y:=fun x y h=>by
   have:=zy (show x+1<=y by omega) (sI (Bu m))
   rw [Int.mul_add,sM] at this;exact this
  rw [hm1,dn,aX oa,ag,bf h1,bf h2]
  simp only [bs,lc]
  rcases Int.lt_trichotomy a[m] b[m] with h | h | h
  ·rw [show (a[m] != b[m])=true by simp;omega,ag,mg,aY h]
   have:=key _ _ h
   exact .inl ⟨_,rfl,.inl ⟨by decide,oa⟩⟩
  ·rw [show (a[m] != b[m])=false by simp [h],am,eC oa oa,bs]
   rw [ea,eb,h]
   rcases ih k oa oa with ⟨q,q1,q2⟩ | ⟨q1,q2⟩
   ·exact .inl ⟨q,q1,oa⟩
   ·exact .inr ⟨q1,oa⟩
  ·rw [show (a[m] != b[m])=true by simp;omega,ag,mg,ba oa,aY h]
   have:=key _ _ h
   exact .inl ⟨_,rfl,.inr ⟨by decide,oa⟩⟩
theorem J2 (hN:1073741824<=N) {a b:yQ} (ha:Cn a) (hb:Cn b) (la:a.length<=60) (lb:b.length<=60):∃ q,gM N a b=some q/\(q<=0↔vB a<=vB b):=by
 unfold gM
 rw [rf hN oa,rf hN oa,xF ha la,xF hb lb,bs,ag,bs,ag]
 by_cases hl:a.length=b.length
 ·rw [show ((a.length:Int) != (b.length:Int))=false by simp [hl],am,eC oa oa,bs]
  rcases LO (N:=N) hl ha.1 hb.1 oa a.length N (bO _) oa with ⟨q,q1,q2⟩ | ⟨⟨z,q1⟩,q2⟩
  ·rw [fG,show b.take a.length=b by rw [hl,fG]] at q2
   rw [q1,bs,lM]
   exact ⟨q,rfl,oa⟩
  ·rw [fG,show b.take a.length=b by rw [hl,fG]] at q2
   rw [q1,bs,iX]
   exact ⟨0,rfl,oa⟩
 ·rw [show ((a.length:Int) != (b.length:Int))=true by simp;omega,ag,lc,bs]
  unfold mg
  by_cases h:(a.length:Int)<(b.length:Int)
  ·rw [aY h]
   have hbn:b≠[]:=fun e=>by have:=a9 List.length e;rw [fH] at this;omega
   have h1:=hb.ge hbn
   have h2:=xx ha.1
   have h3:=vf (show a.length<=b.length-1 by omega)
   exact ⟨-1,rfl,oa⟩
  ·rw [ba h,aY oa]
   have han:a≠[]:=fun e=>by have:=a9 List.length e;rw [fH] at this;omega
   have h1:=ha.ge han
   have h2:=xx hb.1
   have h3:=vf (show b.length<=a.length-1 by omega)
   exact ⟨1,rfl,oa⟩
end
theorem Bn (a:Int) {m:Nat} (hm:m<=4611686018427387904):0<=jA a (m:Int)/\jA a (m:Int)<=(m:Int):=by
 have h1:(BitVec.ofInt IntKind.i64.bits a &&& BitVec.ofInt IntKind.i64.bits (m:Int)).toNat<=m:=by
  rw [BitVec.toNat_and]
  refine Nat.le_trans Nat.and_le_right ?_
  rw [BitVec.toNat_ofInt]
  have:IntKind.i64.bits=64:=rfl
  rw [this]
  omega
 unfold jA
 rw [mT (pJ oa oa)]
 omega
theorem EW (a:Int) {b:Nat}:∃ v,sr a (b:Int)=some v:=by unfold sr;rw [aY oa];exact ⟨_,rfl⟩
abbrev ig (a:yQ):Prop:=a.length<=1048576/\∀ v∈a,0<=v/\v<=255
def dr (a:yQ) (p:Int):Prop:=0<=p/\p<=(a.length:Int)
section
variable {N:Nat}
theorem JD (a:yQ) (ha:ig a):∀ (m i k:Nat) (h:Int),i+m=4000->m<k->0<=h->h<=1073741823->∃ v,kv N k a h (i:Int)=some v:=by
 intro m
 induction m with
 | zero =>
  intro i k h hi hk _ _
  obtain ⟨k,rfl⟩:∃ g,k=g+1:=⟨k-1,oa⟩
  rw [kv,bb (show ¬ (i:Int)<4000 by omega)]
  cases decide ((i:Int)<(a.length:Int)) <;> exact ⟨_,rfl⟩
 | succ m ih =>
  intro i k h hi hk h0 h1
  obtain ⟨k,rfl⟩:∃ g,k=g+1:=⟨k-1,oa⟩
  rw [kv]
  by_cases hl:i<a.length
  ·have hb:=ha.2 _ (bG hl)
   rw [dlt hl,ag,aX (show (i:Int)<4000 by omega),ag,el oa oa,bs,bf hl,bs,mT (pJ oa oa),ci oa oa,bs,ci oa oa,bs,ad1 oa,bs]
   have hi':=Bn (h*131+a[i]+7) (m:=1073741823) (by decide)
   exact ih (i+1) k _ oa oa hi'.1 hi'.2
  ·rw [dge hl,am];exact ⟨_,rfl⟩
theorem FL (hN:1073741824<=N) {a:yQ} (ha:ig a):∃ h,pG N a=some (0,h):=by
 have hl:=ha.1
 obtain ⟨v,hv⟩:=JD (N:=N) a ha 4000 0 N (10101+(a.length:Int)) oa oa oa oa
 unfold pG
 rw [ci oa oa,bs]
 have hv':kv N N a (10101+(a.length:Int)) 0=some v:=hv
 rw [hv',bs]
 exact ⟨_,rfl⟩
theorem oQ {a:yQ} (ha:ig a) {p h:Int} (hc:dr a p):∃ x q g,jL N a p h=some (x,q,g)/\0<=x/\x<=255/\dr a q:=by
 have hl:=ha.1
 have h0:=hc.1;have h1:=hc.2
 unfold jL
 obtain ⟨x1,e1⟩:=EW (IntKind.i64.wrap ((IntKind.i64.wrap (h*6364136223846793005))+1442695040888963407)) (b:=33)
 obtain ⟨x2,e2⟩:=EW (IntKind.i64.wrap ((IntKind.i64.wrap (h*6364136223846793005))+1442695040888963407)) (b:=45)
 have e1':sr (IntKind.i64.wrap ((IntKind.i64.wrap (h*6364136223846793005))+1442695040888963407)) 33=some x1:=e1
 have e2':sr (IntKind.i64.wrap ((IntKind.i64.wrap (h*6364136223846793005))+1442695040888963407)) 45=some x2:=e2
 rw [e1',bs,e2',bs]
 by_cases hp:p<(a.length:Int)
 ·rw [aX hp,ag,nW h0 hp,bs]
  have hb:=Bn (IntKind.i64.wrap ((jA (od x1 x2) 255)+(IntKind.i64.wrap a[p.toNat]))) (m:=255) (by decide)
  refine ⟨_,_,_,rfl,hb.1,hb.2,?_⟩
  rw [mT (pJ oa oa)]
  exact ⟨oa,oa⟩
 ·rw [bb hp,am]
  have hb:=Bn (od x1 x2) (m:=255) (by decide)
  exact ⟨_,_,_,rfl,hb.1,hb.2,hc⟩
theorem dv {a:yQ} (ha:ig a) {p h n:Int} (hc:dr a p):∃ x q g,cB N a p h n=some (x,q,g)/\0<=x/\(0<n->x<n)/\(n<=0->x=0)/\dr a q:=by
 unfold cB
 by_cases h0:n<=0
 ·rw [aX h0,ag]
  exact ⟨_,_,_,rfl,kG _,fun h=>by omega,fun _=>rfl,hc⟩
 ·rw [bb h0,am]
  by_cases h1:n<=256
  ·obtain ⟨x,q,g,e,b0,b1,hc'⟩:=oQ (N:=N) ha (h:=h) hc
   rw [aX h1,ag,e,bs,tI oa,bs]
   have:=Bd b0 (show 0<n by omega)
   exact ⟨_,_,_,rfl,this.1,fun _=>this.2,fun h=>by omega,hc'⟩
  ·rw [bb h1,am]
   obtain ⟨x,q,g,e,b0,b1,hc1⟩:=oQ (N:=N) ha (h:=h) hc
   rw [e,bs]
   obtain ⟨y,q2,g2,e2,c0,c1,hc2⟩:=oQ (N:=N) ha (h:=g) hc1
   dsimp only
   rw [e2,bs]
   obtain ⟨z,q3,g3,e3,d0,d1,hc3⟩:=oQ (N:=N) ha (h:=g2) hc2
   dsimp only
   rw [e3,bs]
   obtain ⟨w,q4,g4,e4,f0,f1,hc4⟩:=oQ (N:=N) ha (h:=g3) hc3
   dsimp only
   rw [e4,bs]
   dsimp only
   rw [el oa oa,bs,el oa oa,bs,ci oa oa,bs,el oa oa,bs,ci oa oa,bs,ci oa oa,bs,tI oa,bs]
   have:=Bd (show 0<=x*16777216+y*65536+z*256+w by omega) (show 0<n by omega)
   exact ⟨_,_,_,rfl,this.1,fun _=>this.2,fun h=>by omega,hc4⟩
theorem kY {a l:yQ} (ha:ig a) {p h:Int} (hc:dr a p) (hl:0<l.length):∃ x q g,gb N a p h l=some (x,q,g)/\x∈l/\dr a q:=by
 obtain ⟨x,q,g,e,b0,b1,_,hc'⟩:=dv (N:=N) ha (h:=h) (n:=(l.length:Int)) hc
 have b2:=b1 oa
 unfold gb
 rw [e,bs]
 dsimp only
 rw [nW b0 b2,bs]
 exact ⟨_,_,_,rfl,bG _,hc'⟩
end
section
variable {N:Nat}
def tc (n:Nat):yQ:=(List.range' 0 n).map fun i:Nat=>(i:Int)
theorem C6 (n:Nat):(tc n).length=n:=by simp [tc]
end
abbrev bi:=List (yQ)
def cF:Nat->bi->bi->bi
 | 0,_,_=>[]
 | _+1,[],[]=>[]
 | m+1,[],y :: b=>y :: cF m [] b
 | m+1,x :: a,[]=>x :: cF m a []
 | m+1,x :: a,y :: b=>if b7 x y<0 then x :: cF m a (y :: b) else if b7 x y=0 then x :: cF m a b else y :: cF m (x :: a) b
theorem x7:∀ (m m':Nat) (a b:bi),a.length+b.length<=m->a.length+b.length<=m'->cF m a b=cF m' a b:=by
 intro m
 induction m with
 | zero =>
  intro m' a b h1 h2
  obtain rfl:a=[]:=lV.1 oa
  obtain rfl:b=[]:=lV.1 (by simpa using h1)
  cases m' <;> rfl
 | succ m ih =>
  intro m' a b h1 h2
  cases m' with
  | zero =>
   obtain rfl:a=[]:=lV.1 oa
   obtain rfl:b=[]:=lV.1 (by simpa using h2)
   rfl
  | succ m' =>
   match a,b with
   | [],[]=>rfl
   | [],y :: b=>rw [cF,cF,ih m' [] b (by simp at h1 ⊢;omega) (by simp at h2 ⊢;omega)]
   | x :: a,[]=>rw [cF,cF,ih m' a [] (by simp at h1 ⊢;omega) (by simp at h2 ⊢;omega)]
   | x :: a,y :: b =>
    simp only [bX] at h1 h2
    rw [cF,cF,ih m' a (y :: b) (by simp only [bX];omega) (by simp only [bX];omega),ih m' a b oa oa,ih m' (x :: a) b (by simp only [bX];omega) (by simp only [bX];omega)]
theorem og:∀ (m:Nat) (a b:bi) (r:yQ),r∈cF m a b->r∈a\/r∈b:=by
 intro m
 induction m with
 | zero=>intro a b r h;simp [cF] at h
 | succ m ih =>
  intro a b r h
  match a,b with
  | [],[]=>simp [cF] at h
  | [],y :: b =>
   rw [cF,c5] at h
   rcases h with rfl | h
   ·simp
   ·rcases ih _ _ _ h with h | h
    ·simp at h
    ·simp [h]
  | x :: a,[] =>
   rw [cF,c5] at h
   rcases h with rfl | h
   ·simp
   ·rcases ih _ _ _ h with h | h
    ·simp [h]
    ·simp at h
  | x :: a,y :: b =>
   rw [cF] at h
   split at h
   ·rcases c5.1 h with rfl | h
    ·simp
    ·rcases ih _ _ _ h with h | h
     ·simp [h]
     ·exact .inr h
   ·split at h
    ·rcases c5.1 h with rfl | h
     ·simp
     ·rcases ih _ _ _ h with h | h
      ·simp [h]
      ·simp [h]
    ·rcases c5.1 h with rfl | h
     ·simp
     ·rcases ih _ _ _ h with h | h
      ·exact .inl h
      ·simp [h]
theorem FN:∀ (m:Nat) (a b:bi),(cF m a b).length<=a.length+b.length:=by
 intro m
 induction m with
 | zero=>intro a b;simp [cF]
 | succ m ih =>
  intro a b
  match a,b with
  | [],[]=>simp [cF]
  | [],y :: b=>have:=ih [] b;rw [cF];simp only [bX,fH] at *;omega
  | x :: a,[]=>have:=ih a [];rw [cF];simp only [bX,fH] at *;omega
  | x :: a,y :: b =>
   have h1:=ih a (y :: b);have h2:=ih a b;have h3:=ih (x :: a) b
   rw [cF]
   simp only [bX] at *
   split
   ·simp only [bX];omega
   ·split <;> (simp only [bX];omega)
def qC (rows:bi):Prop:=rows.Pairwise fun a b=>b7 a b<0
theorem Jr {a b:yQ} (h1:¬ b7 a b<0) (h2:¬ b7 a b=0):b7 b a<0:=by
 have:=qA a b;omega
theorem Ff:∀ (m:Nat) (a b:bi),qC a->qC b->qC (cF m a b):=by
 intro m
 induction m with
 | zero=>intro a b _ _;exact List.Pairwise.nil
 | succ m ih =>
  intro a b ha hb
  match a,b with
  | [],[]=>exact List.Pairwise.nil
  | [],y :: b =>
   rw [cF]
   obtain ⟨h1,h2⟩:=j4.1 hb
   refine j4.2 ⟨fun r hr=>?_,ih [] b ha h2⟩
   rcases og _ _ _ _ hr with h | h
   ·simp at h
   ·exact h1 r h
  | x :: a,[] =>
   rw [cF]
   obtain ⟨h1,h2⟩:=j4.1 ha
   refine j4.2 ⟨fun r hr=>?_,ih a [] h2 hb⟩
   rcases og _ _ _ _ hr with h | h
   ·exact h1 r h
   ·simp at h
  | x :: a,y :: b =>
   obtain ⟨h1,h2⟩:=j4.1 ha
   obtain ⟨g1,g2⟩:=j4.1 hb
   rw [cF]
   by_cases hlt:b7 x y<0
   ·rw [aY hlt]
    refine j4.2 ⟨fun r hr=>?_,ih a (y :: b) h2 hb⟩
    rcases og _ _ _ _ hr with h | h
    ·exact h1 r h
    ·rcases c5.1 h with rfl | h
     ·exact hlt
     ·exact l7 hlt (g1 r h)
   ·rw [ba hlt]
    by_cases heq:b7 x y=0
    ·rw [aY heq]
     have e:=l8.1 heq
     refine j4.2 ⟨fun r hr=>?_,ih a b h2 g2⟩
     rcases og _ _ _ _ hr with h | h
     ·exact h1 r h
     ·rw [e];exact g1 r h
    ·rw [ba heq]
     have hgt:=Jr hlt heq
     refine j4.2 ⟨fun r hr=>?_,ih (x :: a) b ha g2⟩
     rcases og _ _ _ _ hr with h | h
     ·rcases c5.1 h with rfl | h
      ·exact hgt
      ·exact l7 hgt (h1 r h)
     ·exact g1 r h
def eR:Nat->bi->bi
 | 0,rows=>rows
 | f+1,rows=>if rows.length<2 then rows else cF rows.length (eR f (rows.take (rows.length / 2))) (eR f (rows.drop (rows.length / 2)))
theorem iO:∀ (f:Nat) (rows:bi),(eR f rows).length<=rows.length:=by
 intro f
 induction f with
 | zero=>intro rows;exact bO _
 | succ f ih =>
  intro rows
  unfold eR
  split
  ·exact bO _
  ·have h1:=FN rows.length (eR f (rows.take (rows.length / 2))) (eR f (rows.drop (rows.length / 2)))
   have h2:=ih (rows.take (rows.length / 2))
   have h3:=ih (rows.drop (rows.length / 2))
   rw [dk] at h2
   rw [js] at h3
   omega
theorem l0:∀ (f:Nat) (rows:bi) (r:yQ),r∈eR f rows->r∈rows:=by
 intro f
 induction f with
 | zero=>intro rows r h;exact h
 | succ f ih =>
  intro rows r h
  unfold eR at h
  split at h
  ·exact h
  ·rcases og _ _ _ _ h with h | h
   ·exact ri (ih _ _ h)
   ·exact List.mem_of_mem_drop (ih _ _ h)
theorem wq:∀ (f:Nat) (rows:bi),rows.length<=2 ^ f->qC (eR f rows):=by
 intro f
 induction f with
 | zero =>
  intro rows h
  match rows,h with
  | [],_=>exact List.Pairwise.nil
  | [x],_=>exact wO _ _
  | _ :: _ :: _,h=>simp at h
 | succ f ih =>
  intro rows h
  rw [pZ] at h
  unfold eR
  by_cases h2:rows.length<2
  ·rw [aY h2]
   match rows,h2 with
   | [],_=>exact List.Pairwise.nil
   | [x],_=>exact wO _ _
   | _ :: _ :: _,h2=>simp at h2;omega
  ·rw [ba h2]
   exact Ff _ _ _ (ih _ (by rw [dk];omega)) (ih _ (by rw [js];omega))
section
variable {N:Nat}
theorem ixc {α:Type} (x:α) (a:List α):ix (x :: a) 0=some x:=by unfold ix;rw [aY oa];rfl
theorem tQ {α:Type} (x:α) (a:List α):slc (x :: a) 1 ((x :: a).length:Int)=some a:=by
 have h:=lC (xs:=x :: a) (lo:=1) (hi:=(x :: a).length) (by simp) (bO _)
 rw [fG] at h
 exact h
theorem wV {α:Type} (x:α) (a:List α):decide ((0:Int)<((x :: a).length:Int))=true:=aX (by rw [bX];omega)
theorem w8 {α:Type}:decide ((0:Int)<(([]:List α).length:Int))=false:=rfl
theorem FK {α:Type} (x:α) (a:List α):(((x :: a).length:Int) == 0)=false:=by simp;omega
theorem HT (hN:1073741824<=N) {rec:bi->Option bi}:∀ (m k:Nat) (a b out:bi),a.length+b.length<=m->m<k->(∀ r∈a,r.length<=1048576)->(∀ r∈b,r.length<=1048576)->out.length+m<=4194304 ->
  bt rec N k a b out=some ([],[],out++cF m a b):=by
 intro m
 induction m with
 | zero =>
  intro k a b out h hk ha hb ho
  obtain ⟨k,rfl⟩:∃ k',k=k'+1:=⟨k-1,oa⟩
  obtain rfl:a=[]:=lV.1 oa
  obtain rfl:b=[]:=lV.1 (by simpa using h)
  rw [bt,w8,am,am,cF,mP]
 | succ m ih =>
  intro k a b out h hk ha hb ho
  obtain ⟨k,rfl⟩:∃ k',k=k'+1:=⟨k-1,oa⟩
  match a,b with
  | [],[]=>rw [bt,w8,am,am,cF,mP]
  | [],y :: b =>
   simp only [bX,fH] at h
   rw [bt,w8,am,wV,ag,show ((([]:bi).length:Int) == 0)=true from rfl,ag,show decide ((1:Int)<=0)=false from rfl,am,show decide ((0:Int)<=1)=true from rfl,ag,show decide ((0:Int)<1)=true from rfl,ag,ixc,bs,bB (by decide) (by simp;omega),bs,tQ,bs,
    ih k [] b (out++[y]) (by simp;omega) oa ha (fun r hr=>hb r (by simp [hr])) (by rw [b9,bU];omega),cF,gQ]
   rfl
  | x :: a,[] =>
   simp only [bX,fH] at h
   rw [bt,wV,ag,FK,am,w8,am,show decide ((-1:Int)<=0)=true from rfl,ag,ixc,bs,bB (by decide) (by simp;omega),bs,tQ,bs,show decide ((0:Int)<=-1)=false from rfl,am,
    ih k a [] (out++[x]) (by simp;omega) oa (fun r hr=>ha r (by simp [hr])) hb (by rw [b9,bU];omega),cF,gQ]
   rfl
  | x :: a,y :: b =>
   simp only [bX] at h
   have hx:=ha x (by simp);have hy:=hb y (by simp)
   rw [bt,wV,ag,FK,am,wV,ag,ixc,bs,ixc,bs,lG hN hx oa,bs,cF]
   by_cases hlt:b7 x y<0
   ·rw [aY hlt,aX (by omega:b7 x y<=0),ag,bs,bB (by decide) (by simp;omega),bs,tQ,bs,bb (by omega:¬ 0<=b7 x y),am,
     ih k a (y :: b) (out++[x]) (by simp only [bX];omega) oa (fun r hr=>ha r (by simp [hr])) hb (by rw [b9,bU];omega),gQ]
    rfl
   ·rw [ba hlt]
    by_cases heq:b7 x y=0
    ·rw [aY heq,aX (by omega:b7 x y<=0),ag,bs,bB (by decide) (by simp;omega),bs,tQ,bs,aX (by omega:0<=b7 x y),ag,bb (by omega:¬ 0<b7 x y),am,tQ,bs,
      ih k a b (out++[x]) oa oa (fun r hr=>ha r (by simp [hr])) (fun r hr=>hb r (by simp [hr])) (by rw [b9,bU];omega),gQ]
     rfl
    ·rw [ba heq,bb (by omega:¬ b7 x y<=0),am,aX (by omega:0<=b7 x y),ag,aX (by omega:0<b7 x y),ag,bs,bB (by decide) (by simp;omega),bs,tQ,bs,
      ih k (x :: a) b (out++[y]) (by simp only [bX];omega) oa ha (fun r hr=>hb r (by simp [hr])) (by rw [b9,bU];omega),gQ]
     rfl
def wQ (z:Option (yQ)):bi->bi
 | []=>[]
 | y :: b=>if z=some y then b else y :: b
def ML (z:Option (yQ)) (a b:bi):Prop:=qC a/\qC b/\∀ w,z=some w->(∀ x∈a,b7 w x<0)/\∀ y∈b,b7 w y<=0
theorem tK (x:yQ):b7 x x=0:=l8.2 rfl
theorem tB {x:yQ} {b:bi} (h:∀ y∈b,b7 x y<0):wQ (some x) b=b:=by
 match b with
 | []=>rfl
 | y :: b =>
  show (if some x=some y then b else y :: b)=y :: b
  rw [ba]
  intro e
  have:=h y (by simp)
  rw [c9 e,tK] at this;omega
theorem xm {z:Option (yQ)} {y:yQ} {b:bi} (h:z=some y):wQ z (y :: b)=b:=aY h
theorem rk {z:Option (yQ)} {y:yQ} {b:bi} (h:¬ z=some y):wQ z (y :: b)=y :: b:=ba h
theorem DA {out r:bi} {x:yQ}:(out++[x])++r=out++x :: r:=by simp
theorem vd {out:bi} {x:yQ}:(out++[x]).getLast? = some x:=by simp
theorem Cm (hN:1073741824<=N) {α:Type} {out:bi} {x:yQ} {F G:Option α} (hl:∀ r∈out,r.length<=1048576) (hx:x.length<=1048576) (ho:out.length<=4194304) (f:bi->Option α) (hF:F=(apd 24 out [x]).bind f) (hG:G=(sb (out.length:Int) 1).bind fun i=>(ix out i).bind fun w=>(cp N w x).bind fun r=>bif (r != 0) then (apd 24 out [x]).bind f else f out) :
  (bif ((out.length:Int) == 0) then F else G)=f (if out.getLast? = some x then out else out++[x]):=by
 have hap:apd 24 out [x]=some (out++[x]):=bB (by decide) (by simp;omega)
 by_cases h0:out=[]
 ·subst h0
  rw [show ((([]:bi).length:Int) == 0)=true from rfl,ag,hF,hap,bs]
  rfl
 ·have hp:0<out.length:=xh.2 h0
  have hlast:out.getLast? = some out[out.length-1]:=by rw [List.getLast?_eq_getElem?,rA oa]
  rw [show ((out.length:Int) == 0)=false by simp;omega,am,hG,eC oa oa,bs,show (out.length:Int)-1=((out.length-1:Nat):Int) by omega,bf oa,bs,ny hN (hl _ (bG _)) oa,bs,hap,bs,HF,hlast]
  by_cases e:out[out.length-1]=x
  ·rw [aX e,uR,am,aY (by rw [e])]
  ·rw [bb e,sY,ag,ba (fun h=>e (c9 h))]
def yj (rows:bi):Prop:=∀ r∈rows,r.length<=1048576
theorem pr {x:yQ} {a:bi} (h:yj (x :: a)):yj a:=fun r hr=>h r (by simp [hr])
theorem u9 {out:bi} {x:yQ} (h:yj out) (hx:x.length<=1048576):yj (out++[x]):=by
 intro r hr
 rcases dj.1 hr with hr | hr
 ·exact h r hr
 ·simp only [fE] at hr;subst hr;exact hx
theorem vV {x:yQ} {a:bi} (h:qC (x :: a)):(∀ y∈a,b7 x y<0)/\qC a:=j4.1 h
theorem HP (hN:1073741824<=N) {rec:bi->Option bi}:∀ (m k:Nat) (a b out:bi),a.length+b.length<=m->m<k->yj a->yj b->yj out->out.length+m<=4194304->ML out.getLast? a b ->
  bl rec N k a b out=some ([],[],out++cF m a (wQ out.getLast? b)):=by
 intro m
 induction m with
 | zero =>
  intro k a b out h hk ha hb hl ho hI
  obtain ⟨k,rfl⟩:∃ k',k=k'+1:=⟨k-1,oa⟩
  obtain rfl:a=[]:=lV.1 oa
  obtain rfl:b=[]:=lV.1 (by simpa using h)
  rw [bl,w8,am,am,cF,mP]
 | succ m ih =>
  intro k a b out h hk ha hb hl ho hI
  obtain ⟨k,rfl⟩:∃ k',k=k'+1:=⟨k-1,oa⟩
  obtain ⟨aa,ab,iz⟩:=hI
  match a,b with
  | [],[] =>
   rw [bl,w8,am,am]
   show _=some ([],[],out++cF (m+1) [] [])
   rw [cF,mP]
  | [],y :: b =>
   simp only [bX,fH] at h
   have hy:=hb y (by simp)
   obtain ⟨b1,b2⟩:=vV ab
   rw [bl,w8,am,wV,ag,show ((([]:bi).length:Int) == 0)=true from rfl,ag,show decide ((0:Int)<1)=true from rfl,ag,ixc,bs,tQ,bs]
   refine Eq.trans (Cm (f:=fun o=>bl rec N k [] b o) hN hl hy oa rfl rfl) ?_
   by_cases e:out.getLast? = some y
   ·rw [aY e]
    show bl rec N k [] b out=_
    rw [ih k [] b out (by simp;omega) oa ha (pr hb) hl oa ⟨aa,b2,fun w hw=>⟨by simp,fun y' hy'=>(iz w hw).2 y' (by simp [hy'])⟩⟩,xm e,e,tB b1,x7 m (m+1) [] b (by simp;omega) (by simp;omega)]
   ·rw [ba e]
    show bl rec N k [] b (out++[y])=_
    rw [ih k [] b (out++[y]) (by simp;omega) oa ha (pr hb) (u9 hl hy) (by rw [b9,bU];omega) ⟨aa,b2,fun w hw=>by
      rw [vd] at hw;cases hw;exact ⟨by simp,fun y' hy'=>sI (b1 y' hy')⟩⟩,vd,tB b1,rk e,cF,DA]
  | x :: a,[] =>
   simp only [bX,fH] at h
   have hx:=ha x (by simp)
   obtain ⟨a1,a2⟩:=vV aa
   have e:¬ out.getLast? = some x:=fun e=>by have:=(iz x e).1 x (by simp);rw [tK] at this;omega
   rw [bl,wV,ag,FK,am,w8,am,show decide ((0:Int) < -1)=false from rfl,am,ixc,bs,tQ,bs]
   refine Eq.trans (Cm (f:=fun o=>bl rec N k a [] o) hN hl hx oa rfl rfl) ?_
   rw [ba e]
   show bl rec N k a [] (out++[x])=_
   rw [ih k a [] (out++[x]) (by simp;omega) oa (pr ha) hb (u9 hl hx) (by rw [b9,bU];omega) ⟨a2,ab,fun w hw=>by
     rw [vd] at hw;cases hw;exact ⟨a1,by simp⟩⟩]
   show some ([],[],(out++[x])++cF m a [])=some ([],[],out++cF (m+1) (x :: a) [])
   rw [cF,DA]
  | x :: a,y :: b =>
   simp only [bX] at h
   have hx:=ha x (by simp);have hy:=hb y (by simp)
   obtain ⟨a1,a2⟩:=vV aa
   obtain ⟨b1,b2⟩:=vV ab
   have ex:¬ out.getLast? = some x:=fun e=>by have:=(iz x e).1 x (by simp);rw [tK] at this;omega
   rw [bl,wV,ag,FK,am,wV,ag,ixc,bs,ixc,bs,ny hN hx oa,bs]
   by_cases hgt:0<b7 x y
   ·have hyx:b7 y x<0:=by have:=qA x y;omega
    rw [aX hgt,ag,bs,tQ,bs]
    refine Eq.trans (Cm (f:=fun o=>bl rec N k (x :: a) b o) hN hl hy oa rfl rfl) ?_
    by_cases e:out.getLast? = some y
    ·rw [aY e]
     show bl rec N k (x :: a) b out=_
     rw [ih k (x :: a) b out (by simp only [bX];omega) oa ha (pr hb) hl oa ⟨aa,b2,fun w hw=>⟨(iz w hw).1,fun y' hy'=>(iz w hw).2 y' (by simp [hy'])⟩⟩,xm e,e,tB b1,x7 m (m+1) (x :: a) b (by simp only [bX];omega) (by simp only [bX];omega)]
    ·rw [ba e]
     show bl rec N k (x :: a) b (out++[y])=_
     rw [ih k (x :: a) b (out++[y]) (by simp only [bX];omega) oa ha (pr hb) (u9 hl hy) (by rw [b9,bU];omega) ⟨aa,b2,fun w hw=>by
       rw [vd] at hw;cases hw
       refine ⟨fun x' hx'=>?_,fun y' hy'=>sI (b1 y' hy')⟩
       rcases c5.1 hx' with rfl | hx'
       ·exact hyx
       ·exact l7 hyx (a1 x' hx')⟩,vd,tB b1,rk e,cF,ba oa,ba oa,DA]
   ·rw [bb hgt,am,bs,tQ,bs]
    refine Eq.trans (Cm (f:=fun o=>bl rec N k a (y :: b) o) hN hl hx oa rfl rfl) ?_
    rw [ba ex]
    show bl rec N k a (y :: b) (out++[x])=_
    have ey:¬ out.getLast? = some y:=fun e=>by
     have h1:=(iz y e).1 x (by simp)
     have:=qA x y
     omega
    have hb':∀ y'∈b,b7 x y'<0:=fun y' hy'=>by
     by_cases h0:b7 x y=0
     ·rw [l8.1 h0];exact b1 y' hy'
     ·exact l7 oa (b1 y' hy')
    rw [ih k a (y :: b) (out++[x]) (by simp only [bX];omega) oa (pr ha) hb (u9 hl hx) (by rw [b9,bU];omega) ⟨a2,ab,fun w hw=>by
      rw [vd] at hw;cases hw
      refine ⟨a1,fun y' hy'=>?_⟩
      rcases c5.1 hy' with rfl | hy'
      ·omega
      ·exact sI (hb' y' hy')⟩,vd,rk ey,cF]
    by_cases h0:b7 x y=0
    ·rw [xm (by rw [l8.1 h0]),ba oa,aY h0,DA]
    ·rw [rk (fun e=>h0 (by rw [c9 e,tK])),aY oa,DA]
theorem qt2 {n:Nat} (h:n<=1048576):qt (n:Int) 2=some ((n / 2:Nat):Int):=by
 have e:(n:Int).tdiv 2=((n / 2:Nat):Int):=rfl
 unfold qt
 rw [e,aY ⟨by decide,by unfold rng;simp only [bV,dM];omega⟩]
theorem Bx:∀ (d M:Nat) (rows:bi),rows.length<=2 ^ d->1073741825+d<=M->iY rows->hZ M rows=some (eR d rows):=by
 intro d
 induction d with
 | zero =>
  intro M rows h hM hr
  obtain ⟨M,rfl⟩:∃ M',M=M'+1:=⟨M-1,oa⟩
  rw [hZ,aX (by simp at h;omega),ag,tY oa hr,bs];rfl
 | succ d ih =>
  intro M rows h hM hr
  obtain ⟨M,rfl⟩:∃ M',M=M'+1:=⟨M-1,oa⟩
  rw [pZ] at h
  have hl:=hr.1
  rw [hZ,eR]
  by_cases h2:rows.length<2
  ·rw [aX oa,ag,tY oa hr,bs,aY h2]
  ·have ht:iY (rows.take (rows.length / 2)):=⟨by rw [dk];omega,fun r h=>hr.2 r (ri h)⟩
   have hd:iY (rows.drop (rows.length / 2)):=⟨by rw [js];omega,fun r h=>hr.2 r (List.mem_of_mem_drop h)⟩
   have l1:=iO d (rows.take (rows.length / 2))
   have l2:=iO d (rows.drop (rows.length / 2))
   rw [dk] at l1
   rw [js] at l2
   rw [bb oa,am,ba h2,qt2 hl,bs,show (0:Int)=((0:Nat):Int) from rfl,lC (cD _) oa,bs,lC oa (bO _),bs,gR,fG,
    ih M _ (by rw [dk];omega) oa ht,bs,ih M _ (by rw [js];omega) oa hd,bs,
    HT oa rows.length M _ _ [] oa oa (fun r h=>(ht.2 r (l0 _ _ _ h)).1) (fun r h=>(hd.2 r (l0 _ _ _ h)).1) (by rw [fH];omega),bs,lpB]
   rfl
theorem FT:∀ (d M:Nat) (rows:bi),rows.length<=2 ^ d->1073741825+d<=M->iY rows->iZ M rows=some (eR d rows):=by
 intro d
 induction d with
 | zero =>
  intro M rows h hM hr
  obtain ⟨M,rfl⟩:∃ M',M=M'+1:=⟨M-1,oa⟩
  rw [iZ,aX (by simp at h;omega),ag];rfl
 | succ d ih =>
  intro M rows h hM hr
  obtain ⟨M,rfl⟩:∃ M',M=M'+1:=⟨M-1,oa⟩
  rw [pZ] at h
  have hl:=hr.1
  rw [iZ,eR]
  by_cases h2:rows.length<2
  ·rw [aX oa,ag,aY h2]
  ·have ht:iY (rows.take (rows.length / 2)):=⟨by rw [dk];omega,fun r h=>hr.2 r (ri h)⟩
   have hd:iY (rows.drop (rows.length / 2)):=⟨by rw [js];omega,fun r h=>hr.2 r (List.mem_of_mem_drop h)⟩
   have l1:=iO d (rows.take (rows.length / 2))
   have l2:=iO d (rows.drop (rows.length / 2))
   have ha1:=wq d (rows.take (rows.length / 2)) (by rw [dk];omega)
   have ha2:=wq d (rows.drop (rows.length / 2)) (by rw [js];omega)
   rw [dk] at l1
   rw [js] at l2
   rw [bb oa,am,ba h2,qt2 hl,bs,show (0:Int)=((0:Nat):Int) from rfl,lC (cD _) oa,bs,gR,
    ih M _ (by rw [dk];omega) oa ht,bs,lC oa (bO _),bs,fG,ih M _ (by rw [js];omega) oa hd,bs,
    HP oa rows.length M _ _ [] oa oa (fun r h=>(ht.2 r (l0 _ _ _ h)).1) (fun r h=>(hd.2 r (l0 _ _ _ h)).1) (fun r h=>by simp at h) (by rw [fH];omega) ⟨ha1,ha2,fun w hw=>by simp at hw⟩,bs,lpB]
   have hdz:wQ (([]:bi).getLast?) (eR d (rows.drop (rows.length / 2)))=eR d (rows.drop (rows.length / 2)):=by
    cases eR d (rows.drop (rows.length / 2)) with
    | nil=>rfl
    | cons y b=>exact rk (by simp)
   rw [hdz]
   rfl
end
def qz (n:Int) (rows:bi):Bool:=rows.all fun r=>decide ((r.length:Int)=n)&&cX r
def se:(Int × bi) × Bool:=((0,[]),false)
def pg (n:Int) (rows:bi):(Int × bi) × Bool:=bif qz n rows&&bP n (eR 20 rows) then ((n,eR 20 rows),true) else se
def gt (row cols:yQ):yQ:=cols.map fun c=>row.getD c.toNat 0
theorem wo (row cols:yQ):(gt row cols).length=cols.length:=by simp [gt]
theorem Fg {row cols:yQ} {i:Nat} (h:i<cols.length):gt row (cols.take i)++[row.getD cols[i].toNat 0]=gt row (cols.take (i+1)):=by
 unfold gt;rw [gl h,fL];rfl
def nt (n:Int) (cols:yQ):Bool:=cols.all fun c=>inR c 0 (n-1)
def xE (n:Int) (rows:bi) (cols:yQ):(Int × bi) × Bool :=
 bif bP n rows&&(decide ((cols.length:Int)<=5)&&nt n cols) then pg (cols.length:Int) (rows.map fun r=>gt r cols) else se
def Aq (n:Int) (rows:bi) (cols:yQ):(Int × bi) × Bool:=bif mN cols&&decide ((cols.length:Int)=n) then (bif (xE n rows cols).2 then ((xE n rows cols).1,true) else se) else se
theorem vr {rows:bi} (d:Nat) (h:iY rows):iY (eR d rows):=⟨Nat.le_trans (iO d rows) h.1,fun r hr=>h.2 r (l0 _ _ _ hr)⟩
section
variable {N:Nat}
theorem Jj (hN:1073741824<=N) {n:Int} {rows:bi} (hr:iY rows):fv N N n rows 0 [] rows (rows.length:Int) 0=some (bif qz n rows then .inr (rows.length:Int) else .inl se):=by
 have hl:=hr.1
 have h:=my (fun k i=>fv N k n rows 0 [] rows (rows.length:Int) i) rows.length oa se (fun i=>if h:i<rows.length then decide ((rows[i].length:Int)=n)&&cX rows[i] else true) (rows.length:Int)
  (fun k i h=>by
   have hx:=(hr.2 _ (bG h)).1
   show fv N (k+1) n rows 0 [] rows (rows.length:Int) (i:Int)=_
   rw [fv,dlt h,ag,bf h,bs,oJ hN hx,bs,ad1 oa,bs,jc h]
   by_cases e:(rows[i].length:Int)=n
   ·rw [show ((rows[i].length:Int) != n)=false by simpa using e,am,aX e,cW];rfl
   ·rw [show ((rows[i].length:Int) != n)=true by simpa using e,ag,bb e,jw,am];rfl)
  (fun k=>by
   show fv N (k+1) n rows 0 [] rows (rows.length:Int) (rows.length:Int)=_
   rw [fv,dge oa,am]) N 0 oa oa
 rw [iM,ma rows (fun r=>decide ((r.length:Int)=n)&&cX r) _ (fun i hi=>by rw [jc hi])] at h
 exact h
theorem IG (hN:1073741824<=N) {n:Int} {rows:bi} (hr:iY rows):fu N N n rows 0 [] 0=some (bif qz n rows then .inr (rows.length:Int) else .inl se):=by
 have hl:=hr.1
 have h:=my (fun k i=>fu N k n rows 0 [] i) rows.length oa se (fun i=>if h:i<rows.length then decide ((rows[i].length:Int)=n)&&cX rows[i] else true) (rows.length:Int)
  (fun k i h=>by
   have hx:=(hr.2 _ (bG h)).1
   show fu N (k+1) n rows 0 [] (i:Int)=_
   rw [fu,dlt h,ag,bf h,bs,bs,oL hN hx,bs,ad1 oa,bs,jc h]
   by_cases e:(rows[i].length:Int)=n
   ·rw [show ((rows[i].length:Int) != n)=false by simpa using e,am,aX e,cW];rfl
   ·rw [show ((rows[i].length:Int) != n)=true by simpa using e,ag,bb e,jw,am];rfl)
  (fun k=>by
   show fu N (k+1) n rows 0 [] (rows.length:Int)=_
   rw [fu,dge oa,am]) N 0 oa oa
 rw [iM,ma rows (fun r=>decide ((r.length:Int)=n)&&cX r) _ (fun i hi=>by rw [jc hi])] at h
 exact h
theorem wi (hM:1073742848<=N) {n:Int} {rows:bi} (hr:iY rows):jF N n rows=some (pg n rows):=by
 unfold jF pg
 rw [Jj oa hr,bs]
 cases qz n rows with
 | false=>rw [am,lM];rfl
 | true =>
  rw [ag,iX,Bx 20 N rows (by have:=hr.1;omega) oa hr,bs,jn oa (vr 20 hr),bs,cW]
  cases bP n (eR 20 rows) <;> rfl
theorem qk (hM:1073742848<=N) {n:Int} {rows:bi} (hr:iY rows):iL N n rows=some (pg n rows):=by
 unfold iL pg
 rw [IG oa hr,bs]
 cases qz n rows with
 | false=>rw [am,lM];rfl
 | true =>
  rw [ag,iX,FT 20 N rows (by have:=hr.1;omega) oa hr,bs,BX oa (vr 20 hr),bs,ow oa (vr 20 hr),bs,cW]
  cases bP n (eR 20 rows) <;> rfl
theorem Ep (hN:1073741824<=N) {row cols:yQ} (hc:cols.length<=1048576) (hin:∀ c∈cols,0<=c/\c<row.length):ph N row cols=some (gt row cols):=by
 have h:=gD (fun k (s:yQ) i=>jd N k row s cols (cols.length:Int) i) cols.length (fun i=>gt row (cols.take i)) (gt row cols,(cols.length:Int))
  (fun k i h=>by
   have hb:=hin _ (bG h)
   show jd N (k+1) row (gt row (cols.take i)) cols (cols.length:Int) (i:Int)=_
   rw [jd,dlt h,ag,bf h,bs,nW hb.1 hb.2,bs,bB (by decide) (by rw [wo];simp;omega),bs,ad1 oa,bs,<- bQ oa,Fg h])
  (fun k=>by
   show jd N (k+1) row (gt row (cols.take cols.length)) cols (cols.length:Int) (cols.length:Int)=_
   rw [jd,dge oa,am,fG]) N 0 oa oa
 have h':jd N N row [] cols (cols.length:Int) 0=_:=h
 unfold ph
 rw [h',bs,lpB]
theorem wc (hN:1073741824<=N) {n:Int} {cols:yQ} (hc:cols.length<=1048576) (hn:-1000<=n/\n<=1000):kn N n cols=some (decide ((cols.length:Int)<=5)&&nt n cols):=by
 unfold kn
 by_cases h5:5<(cols.length:Int)
 ·rw [aX h5,ag,bb oa];rfl
 rw [bb h5,am,aX oa,cW]
 have h:=vP (fun k i=>gk N k n cols (cols.length:Int) i) cols (fun c=>inR c 0 (n-1)) hN hc
  (fun k i h=>by
   show gk N (k+1) n cols (cols.length:Int) (i:Int)=_
   rw [gk,dlt h,ag,bf h,bs,eC oa oa,bs,gJ,bs,ad1 oa,bs])
  (fun k=>by
   show gk N (k+1) n cols (cols.length:Int) (cols.length:Int)=_
   rw [gk,dge oa,am])
 rw [h,bs]
 unfold nt
 cases cols.all fun c=>inR c 0 (n-1) <;> rfl
theorem B7 {rows:bi} {f:yQ->yQ} {i:Nat} (h:i<rows.length):(rows.take i).map f++[f rows[i]]=(rows.take (i+1)).map f:=by
 rw [gl h,fL];rfl
theorem J5 {n:Int} {rows:bi} {cols:yQ} (hv:bP n rows=true) (hc:nt n cols=true) {i:Nat} (h:i<rows.length):∀ c∈cols,0<=c/\c<rows[i].length:=by
 obtain ⟨_,_,_,h3⟩:=dR hv
 intro c hcm
 have h1:=(h3 i h).1
 unfold nt at hc
 have h2:=cg.1 ((dN.1 hc) c hcm)
 omega
theorem Av (hM:1073742848<=N) {n:Int} {rows:bi} {cols:yQ} (hr:iY rows) (hc:cols.length<=1048576):nU N n rows cols=some (xE n rows cols):=by
 have hl:=hr.1
 unfold nU xE
 rw [jn oa hr,bs]
 cases hv:bP n rows with
 | false=>rfl
 | true =>
  obtain ⟨n0,n5,_,_⟩:=dR hv
  rw [ag,wc oa hc oa,bs,cW]
  cases h5:decide ((cols.length:Int)<=5)&&nt n cols with
  | false=>rfl
  | true =>
   rw [bV] at h5
   have hin:=fun (i:Nat) (h:i<rows.length)=>J5 hv h5.2 h
   have h:=gD (fun k (s:bi) i=>gP N k cols 0 [] s rows (rows.length:Int) i) rows.length (fun i=>(rows.take i).map fun r=>gt r cols) (rows.map (fun r=>gt r cols),(rows.length:Int))
    (fun k i h=>by
     show gP N (k+1) cols 0 [] ((rows.take i).map fun r=>gt r cols) rows (rows.length:Int) (i:Int)=_
     rw [gP,dlt h,ag,bf h,bs,Ep oa hc (hin i h),bs,bB (by decide) (by simp;omega),bs,ad1 oa,bs,B7 (f:=fun r=>gt r cols) h])
    (fun k=>by
     show gP N (k+1) cols 0 [] ((rows.take rows.length).map fun r=>gt r cols) rows (rows.length:Int) (rows.length:Int)=_
     rw [gP,dge oa,am,fG]) N 0 oa oa
   have h':gP N N cols 0 [] [] rows (rows.length:Int) 0=_:=h
   have hok:iY (rows.map fun r=>gt r cols):=⟨by rw [cG];exact hl,fun r hr=>by
    obtain ⟨x,_,rfl⟩:=fI.1 hr
    exact ⟨by rw [wo];exact hc,fun _ _=>trivial⟩⟩
   rw [ag,h',bs,lpB]
   show (jF N (cols.length:Int) (rows.map fun r=>gt r cols)).bind _=_
   rw [wi hM hok,bs]
   rfl
theorem xI (hM:1073742848<=N) {n:Int} {rows:bi} {cols:yQ} (hr:iY rows) (hc:cols.length<=1048576):mL N n rows cols=some (Aq n rows cols):=by
 unfold mL Aq
 rw [ut oa hc,bs]
 cases mN cols with
 | false=>rfl
 | true =>
  rw [ag,cW]
  by_cases e:(cols.length:Int)=n
  ·rw [show ((cols.length:Int) != n)=false by simpa using e,am,aX e,ag,Av hM hr hc,bs]
   cases (xE n rows cols).2 <;> rfl
  ·rw [show ((cols.length:Int) != n)=true by simpa using e,ag,bb e,am];rfl
end
def bM (xs:yQ):yQ:=(tc 5).filter fun v=>decide (v∈xs)
theorem jY (xs:yQ):(bM xs).length<=5:=by
 unfold bM
 exact Nat.le_trans (rh _ _) (by rw [C6];omega)
def nz (xs:yQ) (i:Nat):yQ:=(tc i).filter fun v=>decide (v∈xs)
theorem BP (xs:yQ) (i:Nat):(nz xs i).length<=i:=by
 unfold nz
 exact Nat.le_trans (rh _ _) (by rw [C6];omega)
theorem BU (i:Nat):tc (i+1)=tc i++[(i:Int)]:=by unfold tc;rw [oR];simp
theorem Dh {xs:yQ} {i:Nat} (h:decide ((i:Int)∈xs)=true):nz xs i++[(i:Int)]=nz xs (i+1):=by
 unfold nz;rw [BU,uz];simp only [qW,List.filter_nil,h,if_true]
theorem BI {xs:yQ} {i:Nat} (h:decide ((i:Int)∈xs)=false):nz xs i=nz xs (i+1):=by
 unfold nz;rw [BU,uz];simp [h]
def kd (vars out:yQ) (v:Int):yQ:=bif decide (0<=fZ vars v)&&!decide (fZ vars v∈out) then out++[fZ vars v] else out
def mx (xs yM:yQ):yQ:=yM.foldl (kd (bM xs)) []
theorem DO (vars out:yQ) (v:Int):(kd vars out v).length<=out.length+1:=by
 unfold kd;cases decide (0<=fZ vars v)&&!decide (fZ vars v∈out) <;> simp
theorem x9 (vars:yQ):∀ (l out:yQ),(l.foldl (kd vars) out).length<=out.length+l.length
 | [],out=>by simp
 | v :: l,out=>by
  have h1:=x9 vars l (kd vars out v)
  have h2:=DO vars out v
  rw [sV,bX];omega
def oe (n:Int) (yL:List bk) (out yM:yQ):Bool:=eu n yL out&&(decide ((yM.length:Int)=n)&&jt yM n)
section
variable {N:Nat}
theorem po (hN:1073741824<=N) {s:ByteArray} {xs:yQ} (hx:okI xs):iR N s xs=some (bM xs):=by
 have h:=gD (fun k (o:yQ) i=>dG N k s xs o i) 5 (nz xs) (bM xs,5)
  (fun k i h=>by
   have hl:=BP xs i
   show dG N (k+1) s xs (nz xs i) (i:Int)=_
   rw [dG,aX oa,ag,lB hN hx,bs]
   cases hc:decide ((i:Int)∈xs) with
   | true=>rw [ag,bB (by decide) (by simp;omega),bs,ad1 oa,bs,Dh hc]
   | false=>rw [am,ad1 oa,bs,<- BI hc])
  (fun k=>by
   show dG N (k+1) s xs (nz xs 5) ((5:Nat):Int)=_
   rw [dG,bb oa,am];rfl) N 0 oa oa
 have h':dG N N s xs [] 0=_:=h
 unfold iR
 rw [h',bs,lpB]
theorem uk (hN:1073741824<=N) {s:ByteArray} {xs:yQ} (hx:okI xs):jW N s xs=some (bM xs):=by
 have h:=gD (fun k (o:yQ) i=>dH N k s xs o i) 5 (nz xs) (bM xs,5)
  (fun k i h=>by
   have hl:=BP xs i
   show dH N (k+1) s xs (nz xs i) (i:Int)=_
   rw [dH,aX oa,ag,ld hN hx,bs]
   cases hc:decide ((i:Int)∈xs) with
   | true=>rw [ag,bB (by decide) (by simp;omega),bs,ad1 oa,bs,Dh hc]
   | false=>rw [am,ad1 oa,bs,<- BI hc])
  (fun k=>by
   show dH N (k+1) s xs (nz xs 5) ((5:Nat):Int)=_
   rw [dH,bb oa,am];rfl) N 0 oa oa
 have h':dH N N s xs [] 0=_:=h
 unfold jW
 rw [h',bs,lpB]
def rN (vars yM:yQ) (i:Nat):yQ:=(yM.take i).foldl (kd vars) []
theorem G3 {vars yM:yQ} {i:Nat} (h:i<yM.length):rN vars yM (i+1)=kd vars (rN vars yM i) yM[i]:=by
 unfold rN;rw [gl h,AH];rfl
theorem If (vars yM:yQ) (i:Nat):(rN vars yM i).length<=i:=by
 have:=x9 vars (yM.take i) []
 unfold rN
 rw [dk,fH] at this
 omega
theorem tk (hN:1073741824<=N) {s:ByteArray} {xs yM:yQ} (hx:okI xs) (ho:yM.length<=1048576):jf N s xs yM=some (mx xs yM):=by
 have hv:=jY xs
 have h:=gD (fun k (o:yQ) i=>cM N k (bM xs) o yM (yM.length:Int) i) yM.length (rN (bM xs) yM) (rN (bM xs) yM yM.length,(yM.length:Int))
  (fun k i h=>by
   have hl:=If (bM xs) yM i
   show cM N (k+1) (bM xs) (rN (bM xs) yM i) yM (yM.length:Int) (i:Int)=_
   rw [cM,dlt h,ag,bf h,bs,vU hN oa,bs,w9 hN oa,bs,ad1 oa,bs,G3 h,bB (by decide) (by simp;omega),bs,bs]
   unfold kd
   cases decide (0<=fZ (bM xs) yM[i]) with
   | false=>rw [am,jw,am]
   | true =>
    rw [ag,cW]
    cases decide (fZ (bM xs) yM[i]∈rN (bM xs) yM i) with
    | false=>rw [am,sY,ag]
    | true=>rw [ag,uR,am])
  (fun k=>by
   show cM N (k+1) (bM xs) (rN (bM xs) yM yM.length) yM (yM.length:Int) (yM.length:Int)=_
   rw [cM,dge oa,am]) N 0 oa oa
 have h':cM N N (bM xs) [] yM (yM.length:Int) 0=_:=h
 unfold jf
 rw [po hN hx,bs,h',bs,lpB]
 show some (rN (bM xs) yM yM.length)=_
 unfold rN mx;rw [fG]
theorem vX (hN:1073741824<=N) {n:Int} {yL:List bk} {out yM:yQ} (ha:dA yL) (ho:okI out) (hr:okI yM):kD N n yL out yM=some (oe n yL out yM):=by
 unfold kD oe
 rw [kQ hN ha ho,bs]
 cases hq:eu n yL out with
 | false=>rfl
 | true =>
  obtain ⟨h1,h2,_,_⟩:=kT hq
  rw [ag,cW,vp hN hr.1 oa,bs]
  by_cases e:(yM.length:Int)=n
  ·rw [show ((yM.length:Int) == n)=true by simpa using e,aX e];rfl
  ·rw [show ((yM.length:Int) == n)=false by simpa using e,bb e];rfl
theorem vL (hN:1073741824<=N) {n:Int} {yL:List bk} {out yM:yQ} (ha:dA yL) (ho:okI out) (hr:okI yM):kO N n yL out yM=some (oe n yL out yM):=by
 unfold kO oe
 rw [fS hN ha ho,bs]
 cases hq:eu n yL out with
 | false=>rfl
 | true =>
  obtain ⟨h1,h2,_,_⟩:=kT hq
  rw [ag,cW,uB hN hr.1,bs]
  by_cases e:(yM.length:Int)=n
  ·rw [show ((yM.length:Int) == n)=true by simpa using e,aX e]
   unfold mN
   rw [e,aX h2];rfl
  ·rw [show ((yM.length:Int) == n)=false by simpa using e,bb e];rfl
end
def nl (ts:List bF) (a:bk):Bool:=(ce ts a.1).2&&decide ((ce ts a.1).1.1=(a.2.length:Int))
def i8 (ts:List bF) (n:Int) (yL:List bk) (out:yQ):Bool:=eu n yL out&&(o4 ts&&yL.all (nl ts))
section
variable {N:Nat}
theorem Ki (hN:1073741824<=N) {ts:List bF} {yL:List bk} (ht:o8 ts) (ha:dA yL):fT N N ts yL (yL.length:Int) 0=some (bif yL.all (nl ts) then .inr (yL.length:Int) else .inl false) :=
 vP (fun k i=>fT N k ts yL (yL.length:Int) i) yL (nl ts) hN ha.1
  (fun k i h=>by
   have hl:=ha.1
   show fT N (k+1) ts yL (yL.length:Int) (i:Int)=_
   rw [fT,dlt h,ag,bf h,bs,oO hN ht,bs,ad1 oa,bs]
   unfold nl
   cases (ce ts yL[i].1).2 with
   | false=>rw [am,jw,am]
   | true =>
    rw [ag,cW]
    by_cases e:(ce ts yL[i].1).1.1=(yL[i].2.length:Int)
    ·rw [show ((ce ts yL[i].1).1.1 != (yL[i].2.length:Int))=false by simpa using e,am,aX e,ag]
    ·rw [show ((ce ts yL[i].1).1.1 != (yL[i].2.length:Int))=true by simpa using e,ag,bb e,am])
  (fun k=>by
   show fT N (k+1) ts yL (yL.length:Int) (yL.length:Int)=_
   rw [fT,dge oa,am])
theorem KD (hN:1073741824<=N) {ts:List bF} {n:Int} {yL:List bk} {out:yQ} (ht:o8 ts) (ha:dA yL):fU N N ts n yL out 0=some (bif yL.all (nl ts) then .inr (yL.length:Int) else .inl false) :=
 vP (fun k i=>fU N k ts n yL out i) yL (nl ts) hN ha.1
  (fun k i h=>by
   have hl:=ha.1
   show fU N (k+1) ts n yL out (i:Int)=_
   rw [fU,dlt h,ag,bf h,bs,oU hN ht,bs,bs,ad1 oa,bs]
   unfold nl
   cases (ce ts yL[i].1).2 with
   | false=>rw [am,jw,am]
   | true =>
    rw [ag,cW]
    by_cases e:(ce ts yL[i].1).1.1=(yL[i].2.length:Int)
    ·rw [show ((ce ts yL[i].1).1.1 != (yL[i].2.length:Int))=false by simpa using e,am,aX e,ag]
    ·rw [show ((ce ts yL[i].1).1.1 != (yL[i].2.length:Int))=true by simpa using e,ag,bb e,am])
  (fun k=>by
   show fU N (k+1) ts n yL out (yL.length:Int)=_
   rw [fU,dge oa,am])
theorem wK (hN:1073741824<=N) {ts:List bF} {n:Int} {yL:List bk} {out:yQ} (ht:o8 ts) (ha:dA yL) (ho:okI out):lY N ts n yL out=some (i8 ts n yL out):=by
 unfold lY i8
 rw [kQ hN ha ho,bs,ov hN ht,bs,Ki hN ht ha,bs]
 cases eu n yL out <;> cases o4 ts <;> cases yL.all (nl ts) <;> rfl
theorem qU (hN:1073741824<=N) {ts:List bF} {n:Int} {yL:List bk} {out:yQ} (ht:o8 ts) (ha:dA yL) (ho:okI out):j9 N ts n yL out=some (i8 ts n yL out):=by
 unfold j9 i8
 rw [KD hN ht ha,bs,fS hN ha ho,bs,lO hN ht,bs]
 cases eu n yL out <;> cases o4 ts <;> cases yL.all (nl ts) <;> rfl
end
def xA (vs row:yQ) (i:Nat):Bool:=decide (row.getD (fZ vs (vs.getD i 0)).toNat 0=row.getD i 0)
def rH (vs row:yQ) (i:Nat):Bool:=(List.range' 0 i).all (xA vs row)
def j7 (vs row:yQ):Bool:=rH vs row vs.length
def fP (vs row:yQ):yQ:=(bM vs).map fun v=>row.getD (fZ vs v).toNat 0
theorem wW (vs row:yQ) (i:Nat):rH vs row (i+1)=(rH vs row i&&xA vs row i):=by
 unfold rH;rw [oR,List.all_append];simp
theorem re {vs:yQ} {v:Int} (h:v∈vs):∃ j:Nat,fZ vs v=(j:Int)/\j<vs.length:=by
 rcases si vs v with ⟨h1,_⟩ | ⟨j,hj,_,e,_⟩
 ·exact absurd h h1
 ·exact ⟨j,e,hj⟩
section
variable {N:Nat}
theorem K8 (hN:1073741824<=N) {p0:ByteArray} {vs row p3:yQ} {p1 p4 p8 p9:Int} {p2 p5 p6 p7:bi} (hl:row.length=vs.length) (h5:vs.length<=1000) (hv:∀ v∈vs,0<=v/\v<5) :
  ∃ val:yQ,cI N N p0 vs p1 p2 p3 p4 p5 p6 row (List.replicate 5 0) true p7 p8 p9 vs (vs.length:Int) 0=some (val,j7 vs row,(vs.length:Int))/\val.length=5/\(j7 vs row=true->∀ v∈vs,val.getD v.toNat 0=row.getD (fZ vs v).toNat 0):=by
 obtain ⟨⟨val,f,z⟩,e1,_,h1,h2,h3,h4⟩:=Ap (fun k (s:yQ × Bool) i=>cI N k p0 vs p1 p2 p3 p4 p5 p6 row s.1 s.2 p7 p8 p9 vs (vs.length:Int) i) (fun k (s:yQ × Bool) i=>cI N k p0 vs p1 p2 p3 p4 p5 p6 row s.1 s.2 p7 p8 p9 vs (vs.length:Int) i) vs.length
  (fun i s=>s.1.length=5/\s.2=rH vs row i/\(rH vs row i=true->∀ v∈vs.take i,s.1.getD v.toNat 0=row.getD (fZ vs v).toNat 0))
  (fun v=>v.1.length=5/\v.2.1=j7 vs row/\v.2.2=(vs.length:Int)/\(j7 vs row=true->∀ w∈vs,v.1.getD w.toNat 0=row.getD (fZ vs w).toNat 0))
  (fun k i s h hI=>by
   obtain ⟨i1,i2,i3⟩:=hI
   have hm:vs[i]∈vs:=bG h
   have hb:=hv _ hm
   obtain ⟨j,hj,hj2⟩:=re hm
   have hi2:i<row.length:=by omega
   have hj3:j<row.length:=by omega
   have hix:ix s.1 vs[i]=some (s.1[vs[i].toNat]'oa):=nW hb.1 oa
   have hst:sto s.1 vs[i] row[i]=some (s.1.set vs[i].toNat row[i]):=by
    have:=lR (xs:=s.1) (i:=vs[i].toNat) (y:=row[i]) oa
    rw [show ((vs[i].toNat:Nat):Int)=vs[i] by omega] at this
    exact this
   have hfa:xA vs row i=decide (row[j]=row[i]):=by
    unfold xA
    rw [bQ h,hj,show ((j:Nat):Int).toNat=j from rfl,bQ hj3,bQ hi2]
   have step:cI N (k+1) p0 vs p1 p2 p3 p4 p5 p6 row s.1 s.2 p7 p8 p9 vs (vs.length:Int) (i:Int)=cI N k p0 vs p1 p2 p3 p4 p5 p6 row (s.1.set vs[i].toNat row[i]) (rH vs row (i+1)) p7 p8 p9 vs (vs.length:Int) ((i+1:Nat):Int):=by
    rw [cI,dlt h,ag,bf h,bs,vU hN oa,bs,wW,<- i2,hfa]
    cases s.2 with
    | true=>rw [ag,hj,bf hj3,bs,bf hi2,bs,bs,hix,bs,hst,bs,ad1 oa,bs,FG,cW]
    | false=>rw [am,bf hi2,bs,hix,bs,hst,bs,ad1 oa,bs,jw]
   refine .inl ⟨(s.1.set vs[i].toNat row[i],rH vs row (i+1)),step,step,by simpa using i1,rfl,fun hf v hvm=>?_⟩
   rw [wW,bV,hfa,dM] at hf
   rw [gl h] at hvm
   by_cases e:v=vs[i]
   ·subst e
    show (s.1.set vs[i].toNat row[i]).getD vs[i].toNat 0=_
    rw [hj,show ((j:Nat):Int).toNat=j from rfl,bQ hj3,hf.2,bQ (by rw [gZ];omega),List.getElem_set_self]
   ·have hmem:v∈vs.take i:=by
     rcases dj.1 hvm with h | h
     ·exact h
     ·simp only [fE] at h;exact absurd h e
    have hbv:=hv v (ri hmem)
    rw [<- i3 hf.1 v hmem]
    show (s.1.set vs[i].toNat row[i]).getD v.toNat 0=_
    rw [bQ (by rw [gZ];omega),bQ oa,List.getElem_set_ne oa])
  (fun k s hI=>by
   obtain ⟨i1,i2,i3⟩:=hI
   have step:cI N (k+1) p0 vs p1 p2 p3 p4 p5 p6 row s.1 s.2 p7 p8 p9 vs (vs.length:Int) (vs.length:Int)=some (s.1,s.2,(vs.length:Int)):=by
    rw [cI,dge oa,am]
   rw [fG] at i3
   exact ⟨(s.1,s.2,(vs.length:Int)),step,step,i1,i2,rfl,i3⟩) N 0 (List.replicate 5 0,true) oa oa ⟨by simp,rfl,fun _ v hv=>by simp at hv⟩
 refine ⟨val,?_,h1,h4⟩
 have e1':cI N N p0 vs p1 p2 p3 p4 p5 p6 row (List.replicate 5 0) true p7 p8 p9 vs (vs.length:Int) 0=some (val,f,z):=e1
 have h2':f=j7 vs row:=h2
 have h3':z=(vs.length:Int):=h3
 rw [e1',h2',h3']
end
theorem Ht {n:Nat} {v:Int}:v∈tc n↔0<=v/\v<n:=by
 unfold tc
 rw [fI]
 constructor
 ·rintro ⟨i,hi,rfl⟩
  simp at hi;omega
 ·rintro ⟨h0,h1⟩
  exact ⟨v.toNat,by simp;omega,oa⟩
theorem pp {vs:yQ} {v:Int}:v∈bM vs↔(0<=v/\v<5)/\v∈vs:=by
 unfold bM
 rw [mc,Ht,dM];rfl
def sc (vs row:yQ) (i:Nat):yQ:=((bM vs).take i).map fun v=>row.getD (fZ vs v).toNat 0
theorem Gp (vs row:yQ) (i:Nat):(sc vs row i).length<=5:=by
 have:=jY vs
 unfold sc;rw [cG,dk];omega
theorem qL (vs row:yQ):(fP vs row).length=(bM vs).length:=by simp [fP]
section
variable {N:Nat}
theorem LS (hN:1073741824<=N) {p0:ByteArray} {vs row:yQ} {p1 p4 p6:Int} {p2 rows p5 p7:bi} {r:Nat} (hr:r<rows.length) (hrow:rows[r]=row) (hl:row.length=vs.length) (h5:vs.length<=1000) :
  eN N N p0 vs p1 p2 (bM vs) p4 rows p6 p5 p7 (r:Int) [] 0=some (fP vs row,((bM vs).length:Int)):=by
 have hv5:=jY vs
 have h:=gD (fun k (s:yQ) i=>eN N k p0 vs p1 p2 (bM vs) p4 rows p6 p5 p7 (r:Int) s i) (bM vs).length (sc vs row) (fP vs row,((bM vs).length:Int))
  (fun k i h=>by
   have hm:(bM vs)[i]∈vs:=(pp.1 (bG h)).2
   obtain ⟨j,hj,hj2⟩:=re hm
   have hj3:j<row.length:=by omega
   have hlen:=Gp vs row i
   have hs:sc vs row i++[row[j]]=sc vs row (i+1):=by
    unfold sc;rw [gl h,fL]
    simp only [fJ,n6,hj]
    rw [show ((j:Nat):Int).toNat=j from rfl,bQ hj3]
   show eN N (k+1) p0 vs p1 p2 (bM vs) p4 rows p6 p5 p7 (r:Int) (sc vs row i) (i:Int)=_
   rw [eN,dlt h,ag,bf hr,bs,bf h,bs,o9 hN oa,bs,hrow,hj,bf hj3,bs,bB (by decide) (by simp;omega),bs,ad1 oa,bs,hs])
  (fun k=>by
   show eN N (k+1) p0 vs p1 p2 (bM vs) p4 rows p6 p5 p7 (r:Int) (sc vs row (bM vs).length) ((bM vs).length:Int)=_
   rw [eN,dge oa,am]
   unfold sc fP;rw [fG]) N 0 oa oa
 exact h
theorem Kh (hN:1073741824<=N) {p0:ByteArray} {vs row:yQ} {p1 p4 p6:Int} {p2 rows p5 p7:bi} {r:Nat} (hr:r<rows.length) (hrow:rows[r]=row) (hl:row.length=vs.length) (h5:vs.length<=1000) (hv:∀ v∈vs,0<=v/\v<5) :
  c7 N N p0 vs p1 p2 (bM vs) p4 rows p6 p5 p7 (r:Int) (fP vs row) true 0=some (j7 vs row,(vs.length:Int)):=by
 have hv5:=jY vs
 have h:=gD (fun k (s:Bool) i=>c7 N k p0 vs p1 p2 (bM vs) p4 rows p6 p5 p7 (r:Int) (fP vs row) s i) vs.length (rH vs row) (j7 vs row,(vs.length:Int))
  (fun k i h=>by
   have hm:vs[i]∈vs:=bG h
   have hmv:vs[i]∈bM vs:=pp.2 ⟨hv _ hm,hm⟩
   obtain ⟨j,hj,hj2⟩:=re hm
   have hj3:j<row.length:=by omega
   have hi2:i<row.length:=by omega
   have hex:∃ q:Nat,∃ hq:q<(bM vs).length,(bM vs)[q]=vs[i]/\fZ (bM vs) vs[i]=(q:Int):=by
    rcases si (bM vs) vs[i] with ⟨h1,_⟩ | ⟨q,hq,e1,e2,_⟩
    ·exact absurd hmv h1
    ·exact ⟨q,hq,e1,e2⟩
   obtain ⟨q,hq,hq1,hq2⟩:=hex
   have hq3:q<(fP vs row).length:=by rw [qL];exact hq
   have hval:(fP vs row)[q]=row[j]:=by
    have e:(fP vs row)[q]=row.getD (fZ vs (bM vs)[q]).toNat 0:=by simp only [fP,kH]
    rw [e,hq1,hj,show ((j:Nat):Int).toNat=j from rfl,bQ hj3]
   have hfa:xA vs row i=decide (row[j]=row[i]):=by
    unfold xA
    rw [bQ h,hj,show ((j:Nat):Int).toNat=j from rfl,bQ hj3,bQ hi2]
   show c7 N (k+1) p0 vs p1 p2 (bM vs) p4 rows p6 p5 p7 (r:Int) (fP vs row) (rH vs row i) (i:Int)=_
   rw [c7,dlt h,ag,bf h,bs,o9 hN oa,bs,hq2,wW,hfa]
   cases rH vs row i with
   | true=>rw [ag,aX oa,ag,bf hq3,bs,bf hr,bs,hrow,bf hi2,bs,ad1 oa,bs,hval,FG,cW]
   | false=>rw [am,ad1 oa,bs,jw])
  (fun k=>by
   show c7 N (k+1) p0 vs p1 p2 (bM vs) p4 rows p6 p5 p7 (r:Int) (fP vs row) (rH vs row vs.length) (vs.length:Int)=_
   rw [c7,dge oa,am];rfl) N 0 oa oa
 exact h
end
def cJ (vs:yQ) (rows:bi):bi:=(rows.filter (j7 vs)).map (fP vs)
theorem wa {vs:yQ} {rows:bi} {i:Nat} (h:i<rows.length):cJ vs (rows.take (i+1))=bif j7 vs rows[i] then cJ vs (rows.take i)++[fP vs rows[i]] else cJ vs (rows.take i):=by
 unfold cJ
 rw [gl h,uz,fL]
 cases hf:j7 vs rows[i] <;> simp [hf]
theorem lA (vs:yQ) (rows:bi):(cJ vs rows).length<=rows.length:=by
 unfold cJ;rw [cG];exact rh _ _
section
variable {N:Nat}
theorem Kx (hN:1073741824<=N) {s:ByteArray} {vs:yQ} {rows:bi} {vl:Int} (hlen:∀ i (h:i<rows.length),rows[i].length=vs.length) (h5:vs.length<=1000) (hv:∀ v∈vs,0<=v/\v<5) (hr:rows.length<=1048576) :
  dX N N s vs 0 [] (bM vs) vl [] [] rows (rows.length:Int) 0=some (cJ vs rows,(rows.length:Int)):=by
 have hv5:=jY vs
 have h:=gD (fun k (o:bi) i=>dX N k s vs 0 [] (bM vs) vl [] o rows (rows.length:Int) i) rows.length (fun i=>cJ vs (rows.take i)) (cJ vs rows,(rows.length:Int))
  (fun k i h=>by
   obtain ⟨val,e,hl,hval⟩:=K8 (N:=N) hN (p0:=s) (vs:=vs) (row:=rows[i]) (p3:=bM vs) (p1:=0) (p4:=vl) (p8:=(rows.length:Int)) (p9:=(i:Int)) (p2:=[]) (p5:=[]) (p6:=cJ vs (rows.take i)) (p7:=rows) (hlen i h) h5 hv
   have hbl:=lA vs (rows.take i)
   rw [dk] at hbl
   show dX N (k+1) s vs 0 [] (bM vs) vl [] (cJ vs (rows.take i)) rows (rows.length:Int) (i:Int)=_
   rw [dX,dlt h,ag,bf h,bs,show (5:Int)=((5:Nat):Int) from rfl,xH (by decide) (by decide),bs,e,bs,lpB,wa h]
   show (bif j7 vs rows[i] then _ else _)=_
   cases hf:j7 vs rows[i] with
   | true =>
    have hp:gt val (bM vs)=fP vs rows[i]:=by
     unfold gt fP
     exact uo fun v hvm=>hval hf v (pp.1 hvm).2
    rw [ag,ag,Ep hN oa (fun c hc=>by have:=(pp.1 hc).1;omega),bs,hp,bB (by decide) (by simp;omega),bs,ad1 oa,bs]
   | false=>rw [am,am,ad1 oa,bs])
  (fun k=>by
   show dX N (k+1) s vs 0 [] (bM vs) vl [] (cJ vs (rows.take rows.length)) rows (rows.length:Int) (rows.length:Int)=_
   rw [dX,dge oa,am,fG]) N 0 oa oa
 exact h
theorem Kj (hN:1073741824<=N) {s:ByteArray} {vs:yQ} {rows:bi} {vl ar:Int} (hlen:∀ i (h:i<rows.length),rows[i].length=vs.length) (h5:vs.length<=1000) (hv:∀ v∈vs,0<=v/\v<5) (hr:rows.length<=1048576) :
  dZ N N s vs 0 [] (bM vs) ar rows vl [] [] 0=some (cJ vs rows,(rows.length:Int)):=by
 have hv5:=jY vs
 have h:=gD (fun k (o:bi) i=>dZ N k s vs 0 [] (bM vs) ar rows vl [] o i) rows.length (fun i=>cJ vs (rows.take i)) (cJ vs rows,(rows.length:Int))
  (fun k i h=>by
   have hbl:=lA vs (rows.take i)
   rw [dk] at hbl
   show dZ N (k+1) s vs 0 [] (bM vs) ar rows vl [] (cJ vs (rows.take i)) (i:Int)=_
   rw [dZ,dlt h,ag,LS hN h rfl (hlen i h) h5,bs,lpB]
   show (c7 N N s vs 0 [] (bM vs) ar rows vl [] (cJ vs (rows.take i)) (i:Int) (fP vs rows[i]) true 0).bind _=_
   rw [Kh hN h rfl (hlen i h) h5 hv,bs,lpB,wa h]
   show (bif j7 vs rows[i] then _ else _)=_
   cases hf:j7 vs rows[i] with
   | true=>rw [ag,ag,bB (by decide) (by simp;omega),bs,ad1 oa,bs]
   | false=>rw [am,am,ad1 oa,bs])
  (fun k=>by
   show dZ N (k+1) s vs 0 [] (bM vs) ar rows vl [] (cJ vs (rows.take rows.length)) (rows.length:Int)=_
   rw [dZ,dge oa,am,fG]) N 0 oa oa
 exact h
end
theorem pC {n:Int} {rows:bi} (h0:0<=n/\n<=5) (hl:rows.length<=4000) (hf:∀ r∈rows,(r.length:Int)=n/\cX r=true):pg n rows=((n,eR 20 rows),true):=by
 have hfit:qz n rows=true:=by
  unfold qz
  rw [dN]
  intro r hr
  rw [aX (hf r hr).1,(hf r hr).2];rfl
 have hlen:=iO 20 rows
 have hasc:=wq 20 rows oa
 have hv:bP n (eR 20 rows)=true:=by
  unfold bP
  rw [bV,bV,dM,dN]
  refine ⟨⟨cg.2 h0,oa⟩,fun i hi=>?_⟩
  have hi':i<(eR 20 rows).length:=by simp at hi;omega
  obtain ⟨g1,g2⟩:=hf _ (l0 20 rows _ (bG hi'))
  unfold rZ
  rw [iP hi',aX g1,g2,cW,cW]
  cases i with
  | zero=>rfl
  | succ i =>
   rw [ru,iP oa]
   have:=sX.1 hasc i (i+1) oa hi' oa
   rw [aX this,Bool.or_true]
 unfold pg
 rw [hfit,hv];rfl
theorem wy {vs row:yQ} (h:cX row=true) (hl:row.length=vs.length):cX (fP vs row)=true:=by
 unfold cX at *
 rw [dN] at *
 intro x hx
 unfold fP at hx
 obtain ⟨v,hv,rfl⟩:=fI.1 hx
 obtain ⟨j,hj,hj2⟩:=re (pp.1 hv).2
 rw [hj,show ((j:Nat):Int).toNat=j from rfl,bQ oa]
 exact h _ (bG _)
section
variable {N:Nat}
theorem Jt {a:yQ} (ha:ig a) {n m:Int} (hm:0<m):∀ (d k:Nat) (acc:yQ) (p h:Int),dr a p->acc.length+d=n.toNat->d<k->n<=1048576->(∀ v∈acc,0<=v/\v<m) ->
  ∃ q g row,lT N k a p h n m acc=some (q,g,row)/\dr a q/\row.length=n.toNat/\∀ v∈row,0<=v/\v<m:=by
 intro d
 induction d with
 | zero =>
  intro k acc p h hc hd hk _ hv
  obtain ⟨k,rfl⟩:∃ g,k=g+1:=⟨k-1,oa⟩
  rw [lT,bb (show ¬ (acc.length:Int)<n by omega),am]
  exact ⟨_,_,_,rfl,hc,oa,hv⟩
 | succ d ih =>
  intro k acc p h hc hd hk hn hv
  obtain ⟨k,rfl⟩:∃ g,k=g+1:=⟨k-1,oa⟩
  obtain ⟨x,q,g,e,b0,b1,_,hc'⟩:=dv (N:=N) ha (h:=h) (n:=m) hc
  rw [lT,aX (show (acc.length:Int)<n by omega),ag,e,bs]
  dsimp only
  rw [bB (by decide) (by simp;omega),bs]
  refine ih k _ q g hc' (by simp;omega) oa hn fun v hv'=>?_
  rcases dj.1 hv' with h | h
  ·exact hv v h
  ·rw [fE] at h;rw [h];exact ⟨b0,b1 hm⟩
theorem AW (hN:1073741824<=N) {a:yQ} (ha:ig a) {p h n m:Int} (hc:dr a p) (hm:0<m) (hn:n<=1048576) :
  ∃ row q g,oi N a p h n m=some (row,q,g)/\dr a q/\row.length=n.toNat/\∀ v∈row,0<=v/\v<m:=by
 obtain ⟨q,g,row,e,h1,h2,h3⟩:=Jt (N:=N) ha (n:=n) hm n.toNat N [] p h hc (by simp) oa hn (by simp)
 unfold oi
 rw [e]
 exact ⟨row,q,g,rfl,h1,h2,h3⟩
theorem J1 (hN:1073741824<=N) {a:yQ} (ha:ig a) {n m y:Int} {z:bi} (hm:0<m) (hn:n<=1048576):∀ (d k:Nat) (acc:bi) (p h c:Int),dr a p->c.toNat=d->c<=1048576->d<k->acc.length+d<=1048576->(∀ r∈acc,r.length=n.toNat/\∀ v∈r,0<=v/\v<m) ->
  ∃ q g rows c',lQ N k a p h n m y z acc c=some (q,g,rows,c')/\dr a q/\rows.length<=acc.length+d/\∀ r∈rows,r.length=n.toNat/\∀ v∈r,0<=v/\v<m:=by
 intro d
 induction d with
 | zero =>
  intro k acc p h c hc hd _ hk hl hv
  obtain ⟨k,rfl⟩:∃ g,k=g+1:=⟨k-1,oa⟩
  rw [lQ,bb (show ¬ 0<c by omega),am]
  exact ⟨_,_,_,_,rfl,hc,oa,hv⟩
 | succ d ih =>
  intro k acc p h c hc hd hcc hk hl hv
  obtain ⟨k,rfl⟩:∃ g,k=g+1:=⟨k-1,oa⟩
  obtain ⟨row,q,g,e,hc',h2,h3⟩:=AW hN ha (h:=h) (n:=n) hc hm hn
  rw [lQ,aX (show 0<c by omega),ag,e,bs]
  dsimp only
  rw [bB (by decide) (by simp;omega),bs,eC oa oa,bs]
  obtain ⟨q',g',rows,c',e',k1,k2,k3⟩:=ih k (acc++[row]) q g (c-1) hc' oa oa oa (by simp;omega) fun r hr=>by
   rcases dj.1 hr with h | h
   ·exact hv r h
   ·rw [fE] at h;rw [h];exact ⟨h2,h3⟩
  exact ⟨q',g',rows,c',e',k1,by simp at k2;omega,k3⟩
theorem vA (hM:1073742848<=N) {a:yQ} (ha:ig a) {p h n m y:Int} (hc:dr a p) (hm:0<m/\m<=100) (hn:0<=n/\n<=5) (hy:0<=y/\y<=100) :
  ∃ rows q g,mX N a p h n y m=some ((n,rows),q,g)/\dr a q/\(rows.length:Int)<=y/\∀ r∈rows,(r.length:Int)=n/\∀ v∈r,0<=v/\v<m:=by
 have hN:1073741824<=N:=by omega
 obtain ⟨x,q,g,e,b0,b1,_,hc'⟩:=dv (N:=N) ha (h:=h) (n:=y+1) hc
 have b1:=b1 oa
 obtain ⟨q',g',rows,c',e',k1,k2,k3⟩:=J1 hN ha (n:=n) (m:=m) (y:=0) (z:=[]) hm.1 oa x.toNat N [] q g x hc' rfl oa oa (by simp;omega) (by simp)
 unfold mX
 rw [ci oa oa,bs,e,bs]
 dsimp only
 rw [e']
 simp only [fH,e8] at k2
 have hf:∀ r∈rows,(r.length:Int)=n/\cX r=true:=fun r hr=>by
  have:=k3 r hr
  refine ⟨oa,?_⟩
  unfold cX
  refine dN.2 fun v hv=>?_
  have:=this.2 v hv
  unfold inR
  simp only [bV,dM]
  omega
 have hok:iY rows:=⟨oa,fun r hr=>⟨by have:=(k3 r hr).1;omega,fun _ _=>trivial⟩⟩
 rw [bs]
 unfold lpB
 dsimp only
 rw [qk hM hok,bs,pC hn oa hf]
 have hsl:=iO 20 rows
 refine ⟨eR 20 rows,q',g',rfl,k1,oa,fun r hr=>?_⟩
 have hr':=l0 20 rows r hr
 exact ⟨(hf r hr').1,(k3 r hr').2⟩
def Cj (r:Int × bi):Prop:=(-1<=r.1/\r.1<=6)/\r.2.length<=7/\∀ w∈r.2,w.length<=6/\∀ v∈w,-1<=v/\v<=100
theorem Fo (hM:1073742848<=N) {a:yQ} (ha:ig a) {p h:Int} (hc:dr a p):∃ r q g,pV N a p h=some (r,q,g)/\dr a q/\Cj r:=by
 have hN:1073741824<=N:=by omega
 obtain ⟨n,q,g,e,b0,b1,_,hc1⟩:=dv (N:=N) ha (h:=h) (n:=4) hc
 have b1:=b1 (by decide)
 obtain ⟨rows,q2,g2,e2,hc2,hl,hr⟩:=vA hM ha (h:=g) (n:=n) (m:=4) (y:=6) hc1 (by decide) oa (by decide)
 obtain ⟨s,q3,g3,e3,_,_,_,hc3⟩:=dv (N:=N) ha (h:=g2) (n:=14) hc2
 have hsm:∀ w∈rows,w.length<=6/\∀ v∈w,-1<=v/\v<=100:=fun w hw=>by
  have:=hr w hw
  exact ⟨oa,fun v hv=>by have:=this.2 v hv;omega⟩
 have base:Cj (n,rows):=⟨⟨by show -1<=n;omega,by show n<=6;omega⟩,by show rows.length<=7;omega,hsm⟩
 unfold pV
 rw [e,bs]
 dsimp only
 rw [e2,bs]
 dsimp only
 rw [e3,bs]
 dsimp only
 cases h0:(s == 0)
 ·rw [am]
  cases h1:(s == 1)
  ·rw [am]
   cases h2:(s == 2)
   ·exact ⟨_,_,_,rfl,hc3,base⟩
   ·rw [ag]
    by_cases hp:0<rows.length
    ·rw [aX (show (0:Int)<(rows.length:Int) by omega),ag]
     by_cases hn:0<n
     ·have hm0:=hr _ (bG hp)
      have hm1:=hsm _ (bG hp)
      have hp0:0<rows[0].length:=by omega
      obtain ⟨x,q4,g4,e4,hx,hc4⟩:=kY (N:=N) ha (h:=g3) hc3 (l:=[(-1),100,99]) (by decide)
      have i0:ix rows 0=some rows[0]:=bf hp
      have i1:ix rows[0] 0=some rows[0][0]:=bf hp0
      have s1:sto rows[0] 0 x=some (rows[0].set 0 x):=lR hp0
      have s2:sto rows 0 (rows[0].set 0 x)=some (rows.set 0 (rows[0].set 0 x)):=lR hp
      have hxb:-1<=x/\x<=100:=by
       simp only [c5,oT,ro] at hx
       omega
      rw [aX hn,ag,i0,bs,e4,bs,i1,bs,s1,bs,s2,bs]
      refine ⟨_,_,_,rfl,hc4,⟨base.1,by show (rows.set 0 _).length<=7;rw [gZ];omega,fun w hw=>?_⟩⟩
      rcases th hw with h | h
      ·exact hsm w h
      ·subst h
       refine ⟨by rw [gZ];exact hm1.1,fun v hv=>?_⟩
       rcases th hv with h | h
       ·exact hm1.2 v h
       ·rw [h];exact hxb
     ·rw [bb hn,am]
      exact ⟨_,_,_,rfl,hc3,base⟩
    ·rw [bb (show ¬ (0:Int)<(rows.length:Int) by omega),am]
     exact ⟨_,_,_,rfl,hc3,base⟩
  ·rw [ag]
   have hi:imx 0 n=n:=by unfold imx;split <;> omega
   obtain ⟨w,q4,g4,e4,hc4,hw1,hw2⟩:=AW hN ha (h:=g3) (n:=n) (m:=4) hc3 (by decide) oa
   rw [hi,e4,bs]
   dsimp only
   rw [bB (by decide) (by simp;omega),bs]
   refine ⟨_,_,_,rfl,hc4,base.1,by show (rows++[w]).length<=7;simp;omega,fun v hv=>?_⟩
   rcases dj.1 hv with h | h
   ·exact hsm v h
   ·rw [fE] at h;subst h
    exact ⟨oa,fun v hv=>by have:=hw2 v hv;omega⟩
 ·obtain ⟨x,q4,g4,e4,hx,hc4⟩:=kY (N:=N) ha (h:=g3) hc3 (l:=[(-1),6,n+1]) (Nat.zero_lt_succ _)
  rw [ag,ci oa oa,bs,e4,bs]
  refine ⟨_,_,_,rfl,hc4,⟨?_,base.2⟩⟩
  simp only [c5,oT,ro] at hx
  show -1<=x/\x<=6
  omega
end
def wU (a b:List mY):Prop:=∃ t,b=a++t
theorem wU.refl (a:List mY):wU a a:=⟨[],by simp⟩
theorem wU.trans {a b c:List mY} (h:wU a b) (k:wU b c):wU a c:=by
 obtain ⟨t,rfl⟩:=h;obtain ⟨u,rfl⟩:=k;exact ⟨t++u,by simp⟩
theorem wU.len {a b:List mY} (h:wU a b):a.length<=b.length:=by
 obtain ⟨t,rfl⟩:=h;simp
theorem DL {ts:List bF} {s:ByteArray} (h:(ce ts s).2=true):bP (ce ts s).1.1 (ce ts s).1.2=true:=by
 unfold ce at h ⊢
 cases hd:o4 ts with
 | false=>rw [hd] at h;cases h
 | true =>
  rw [hd,ag] at h
  rw [ag]
  cases hf:ts.find? (fun t=>decide (t.1=s)) with
  | none=>rw [hf] at h;cases h
  | some t =>
   have hm:=AR hf
   obtain ⟨i,hi,rfl⟩:=gW hm
   unfold o4 at hd
   rw [bV,dN] at hd
   have:=hd.2 i (by simp;omega)
   unfold sk at this
   rw [sq hi] at this
   simp only [bV] at this
   exact this.1.1.2
def pU (ts:List bF) (s:ByteArray) (vs:yQ):Int × bi :=
 bif (ce ts s).2&&decide ((ce ts s).1.1=(vs.length:Int)) then (((bM vs).length:Int),eR 20 (cJ vs (ce ts s).1.2)) else (((bM vs).length:Int),[])
theorem pE {vs:yQ} {rows:bi} {r:yQ} (h:r∈cJ vs rows):∃ x∈rows,r=fP vs x:=by
 unfold cJ at h
 obtain ⟨x,hx,rfl⟩:=fI.1 h
 exact ⟨x,(mc.1 hx).1,rfl⟩
theorem tS {vs:yQ} {rows:bi} (hr:rows.length<=1048576):iY (cJ vs rows):=by
 refine ⟨Nat.le_trans (lA vs rows) hr,fun r h=>?_⟩
 obtain ⟨x,_,rfl⟩:=pE h
 exact ⟨by rw [qL];have:=jY vs;omega,fun _ _=>trivial⟩
section
variable {N:Nat}
theorem yV {ts:List bF} {s:ByteArray} {vs:yQ} (h2:(ce ts s).2=true) (e:(ce ts s).1.1=(vs.length:Int)):(ce ts s).1.2.length<=4000/\∀ i (h:i<(ce ts s).1.2.length),(ce ts s).1.2[i].length=vs.length/\cX (ce ts s).1.2[i]=true:=by
 obtain ⟨_,_,h3,h4⟩:=dR (DL h2)
 refine ⟨h3,fun i h=>?_⟩
 obtain ⟨g1,g2,_⟩:=h4 i h
 exact ⟨oa,g2⟩
theorem vY (hM:1073742848<=N) {ts:List bF} {s:ByteArray} {vs:yQ} (ht:o8 ts) (hx:okI vs) (h5:vs.length<=5) (hv:∀ v∈vs,0<=v/\v<5):kE N ts s vs=some (pU ts s vs):=by
 unfold kE pU
 rw [po oa hx,bs,oO oa ht,bs]
 cases h2:(ce ts s).2 with
 | false=>rfl
 | true =>
  rw [ag,cW]
  by_cases e:(ce ts s).1.1=(vs.length:Int)
  ·obtain ⟨l1,l2⟩:=yV h2 e
   have hcf:(decide ((vs.length:Int)<=5)&&nt 5 vs)=true:=by
    rw [bV,dM]
    refine ⟨oa,?_⟩
    unfold nt
    rw [dN]
    exact fun c hc=>cg.2 (by have:=hv c hc;omega)
   have hb:=tS (vs:=vs) (rows:=(ce ts s).1.2) oa
   rw [show ((ce ts s).1.1 != (vs.length:Int))=false by simpa using e,am,wc oa hx.1 oa,bs,hcf,ag,Kx oa (fun i h=>(l2 i h).1) oa hv oa,bs,lpB,aX e]
   show (hZ N (cJ vs (ce ts s).1.2)).bind _=_
   rw [Bx 20 N _ (by have:=hb.1;omega) oa hb,bs]
   rfl
  ·rw [show ((ce ts s).1.1 != (vs.length:Int))=true by simpa using e,ag,bb e];rfl
theorem vq (hM:1073742848<=N) {ts:List bF} {s:ByteArray} {vs:yQ} (ht:o8 ts) (hx:okI vs) (h5:vs.length<=5) (hv:∀ v∈vs,0<=v/\v<5):kJ N ts s vs=some (pU ts s vs):=by
 unfold kJ pU
 rw [uk oa hx,bs,oU oa ht,bs]
 cases h2:(ce ts s).2 with
 | false=>rfl
 | true =>
  rw [ag,cW]
  by_cases e:(ce ts s).1.1=(vs.length:Int)
  ·obtain ⟨l1,l2⟩:=yV h2 e
   have hb:=tS (vs:=vs) (rows:=(ce ts s).1.2) oa
   have hv5:=jY vs
   have hbl:=lA vs (ce ts s).1.2
   have hnr:=pC (n:=((bM vs).length:Int)) (rows:=cJ vs (ce ts s).1.2) oa oa (fun r hr=>by
    obtain ⟨x,hxm,rfl⟩:=pE hr
    obtain ⟨i,hi,rfl⟩:=gW hxm
    exact ⟨by rw [qL],wy (l2 i hi).2 (l2 i hi).1⟩)
   rw [show ((ce ts s).1.1 != (vs.length:Int))=false by simpa using e,am,Kj oa (fun i h=>(l2 i h).1) oa hv oa,bs,lpB,aX e]
   show (iL N ((bM vs).length:Int) (cJ vs (ce ts s).1.2)).bind _=_
   rw [qk hM hb,bs,hnr]
   rfl
  ·rw [show ((ce ts s).1.1 != (vs.length:Int))=true by simpa using e,ag,bb e];rfl
end
theorem vh {n:Nat} {xs:yQ} (hn:xs.Nodup) (hl:xs.length=n) (hb:∀ x∈xs,0<=x/\x<n) (v:Int) (h0:0<=v) (h1:v<n):v∈xs:=by
 refine sU fun hv=>?_
 have:=tM n (v :: xs) (lW.2 ⟨hv,hn⟩) (fun x hx=>by
  rcases c5.1 hx with rfl | hx
  ·exact ⟨h0,h1⟩
  ·exact hb x hx)
 rw [bX] at this;omega
theorem BW {xs:yQ} (h:xs.Nodup) {i j:Nat} (hi:i<xs.length) (hj:j<xs.length) (e:xs[i]=xs[j]):i=j:=by
 rw [List.Nodup,sX] at h
 rcases Nat.lt_trichotomy i j with hl | hl | hl
 ·exact absurd e (h i j hi hj hl)
 ·exact hl
 ·exact absurd e.symm (h j i hj hi hl)
theorem Hi {xs:yQ} {n:Int} (hn:xs.Nodup) (hb:∀ x∈xs,0<=x/\x<=n-1):jt xs n=true:=by
 unfold jt
 rw [dN]
 intro i hi
 have hi':i<xs.length:=by simpa using hi
 rw [bQ hi',bV,wF,Ae]
 refine ⟨cg.2 (hb _ (bG hi')),fun hm=>?_⟩
 obtain ⟨j,hj,e⟩:=List.mem_iff_getElem.1 hm
 rw [uJ] at e
 have:=BW hn (by rw [dk] at hj;omega) hi' e
 rw [dk] at hj;omega
theorem HG {vs:yQ} (hn:vs.Nodup) {k:Nat} (h:k<vs.length):fZ vs vs[k]=(k:Int):=by
 rcases si vs vs[k] with ⟨h1,_⟩ | ⟨j,hj,e,h2,_⟩
 ·exact absurd (bG h) h1
 ·rw [h2,BW hn hj h e]
theorem Fr (n:Nat):(tc n).Nodup:=by
 unfold tc
 rw [List.Nodup,List.pairwise_map]
 exact List.Pairwise.imp (fun h=>by omega) (List.pairwise_lt_range' (s:=0) (n:=n))
theorem D1 (xs:yQ):(bM xs).Nodup:=(Fr 5).filter _
theorem vS {vs:yQ} {v:Int}:0<=fZ vs v↔v∈vs:=by
 have:=qb vs v
 rw [Bool.eq_iff_iff,dM,dM] at this;exact this
theorem Gj {vs:yQ} {v:Int} (h:v∈vs):fZ vs v<vs.length:=by
 obtain ⟨j,e,hj⟩:=re h;omega
theorem DM (vars out:yQ) (v k:Int):k∈kd vars out v↔k∈out\/(v∈vars/\fZ vars v=k):=by
 unfold kd
 by_cases h1:v∈vars
 ·rw [aX (vS.2 h1),cW]
  by_cases h2:fZ vars v∈out
  ·rw [aX h2,uR,am]
   exact ⟨.inl,fun h=>h.elim id fun ⟨_,e⟩=>e ▸ h2⟩
  ·rw [bb h2,sY,ag,dj,fE]
   exact ⟨fun h=>h.imp id fun e=>⟨h1,e.symm⟩,fun h=>h.imp id fun e=>e.2.symm⟩
 ·rw [bb (fun h=>h1 (vS.1 h)),jw,am]
  exact ⟨.inl,fun h=>h.elim id fun e=>absurd e.1 h1⟩
theorem B8 {vars out:yQ} {v:Int} (h:out.Nodup):(kd vars out v).Nodup:=by
 unfold kd
 by_cases h2:fZ vars v∈out
 ·rw [aX h2,uR,pQ,am];exact h
 ·rw [bb h2,sY,xb]
  cases decide (0<=fZ vars v)
  ·exact h
  ·rw [ag,mE]
   refine ⟨h,by simp,fun a ha b hb=>?_⟩
   rw [fE] at hb
   rintro rfl;exact h2 (hb ▸ ha)
theorem xZ (vars:yQ):∀ (l out:yQ) (k:Int),k∈l.foldl (kd vars) out↔k∈out\/∃ v∈l,v∈vars/\fZ vars v=k
 | [],out,k=>by simp
 | v :: l,out,k=>by
  rw [sV,xZ vars l,DM]
  constructor
  ·rintro ((h | h) | ⟨w,hw,h⟩)
   ·exact .inl h
   ·exact .inr ⟨v,dO,h⟩
   ·exact .inr ⟨w,fK _ hw,h⟩
  ·rintro (h | ⟨w,hw,h⟩)
   ·exact .inl (.inl h)
   ·rcases c5.1 hw with rfl | hw
    ·exact .inl (.inr h)
    ·exact .inr ⟨w,hw,h⟩
theorem we (vars:yQ):∀ (l out:yQ),out.Nodup->(l.foldl (kd vars) out).Nodup
 | [],_,h=>h
 | _ :: l,_,h=>we vars l _ (B8 h)
theorem AF {xs yM:yQ} {n:Nat} (hn:n<=5) (hx:∀ v∈xs,0<=v/\v<n) (ho:jt yM n=true) (hl:yM.length=n):mN (mx xs yM)=true/\(mx xs yM).length=(bM xs).length:=by
 obtain ⟨o1,o2⟩:=np ho
 have hnd:(mx xs yM).Nodup:=we _ _ _ List.nodup_nil
 have hmem:∀ k:Int,k∈mx xs yM↔0<=k/\k<(bM xs).length:=fun k=>by
  unfold mx
  rw [xZ]
  constructor
  ·rintro (h | ⟨v,_,h,rfl⟩)
   ·cases h
   ·exact ⟨vS.2 h,Gj h⟩
  ·rintro ⟨h0,h1⟩
   have hk:k.toNat<(bM xs).length:=by omega
   have hm:=bG hk
   refine .inr ⟨(bM xs)[k.toNat],?_,hm,by rw [HG (D1 xs) hk];omega⟩
   have:=hx _ (pp.1 hm).2
   exact vh o1 hl (fun x hx=>by have:=o2 x hx;omega) _ this.1 this.2
 have h5:=jY xs
 have le1:(mx xs yM).length<=(bM xs).length:=tM _ _ hnd fun k hk=>(hmem k).1 hk
 have le2:(bM xs).length<=(mx xs yM).length:=by
  refine sU fun hlt=>?_
  have hsub:∀ (m:Nat) (ys:yQ),(∀ k:Nat,k<m->(k:Int)∈ys)->m<=ys.length:=by
   intro m
   induction m with
   | zero=>intro ys _;omega
   | succ m ih =>
    intro ys h
    have h1:=ih (ys.erase (m:Int)) fun k hk=>(AT oa).2 (h k oa)
    rw [ww (h m oa)] at h1
    have:=A3 (h m oa)
    omega
  exact hlt (hsub _ _ fun k hk=>(hmem k).2 oa)
 have e:(mx xs yM).length=(bM xs).length:=by omega
 refine ⟨?_,e⟩
 unfold mN
 rw [aX oa,cW]
 exact Hi hnd fun k hk=>by have:=(hmem k).1 hk;omega
theorem ya {n:Int} {rows:bi} (h0:0<=n/\n<=5) (hl:rows.length<=4000) (hf:∀ r∈rows,(r.length:Int)=n/\cX r=true):bP n (eR 20 rows)=true:=by
 have h:=pC h0 hl hf
 unfold pg at h
 cases hv:bP n (eR 20 rows) with
 | true=>rfl
 | false=>rw [hv,pQ] at h;have:=a9 Prod.snd h;cases this
theorem Fl {row cols:yQ} (h:cX row=true) (hin:∀ c∈cols,0<=c/\c<row.length):cX (gt row cols)=true:=by
 unfold cX at *
 rw [dN] at *
 intro x hx
 unfold gt at hx
 obtain ⟨c,hc,rfl⟩:=fI.1 hx
 have:=hin c hc
 rw [bQ oa]
 exact h _ (bG _)
theorem Fx {n:Int} {rows:bi} {cols:yQ} (hv:bP n rows=true) (hp:mN cols=true) (hl:(cols.length:Int)=n):Aq n rows cols=((n,eR 20 (rows.map fun r=>gt r cols)),true)/\bP n (eR 20 (rows.map fun r=>gt r cols))=true:=by
 obtain ⟨v1,v2,v3,v4⟩:=dR hv
 have hp':=hp
 unfold mN at hp
 rw [bV,dM] at hp
 obtain ⟨_,o2⟩:=np hp.2
 have hc:nt n cols=true:=by
  unfold nt;rw [dN]
  exact fun c hc=>cg.2 (by have:=o2 c hc;omega)
 have hf:∀ r∈rows.map (fun r=>gt r cols),(r.length:Int)=n/\cX r=true:=fun r hr=>by
  obtain ⟨x,hx,rfl⟩:=fI.1 hr
  obtain ⟨i,hi,rfl⟩:=gW hx
  obtain ⟨g1,g2,_⟩:=v4 i hi
  exact ⟨by rw [wo];exact hl,Fl g2 fun c hc=>by have:=o2 c hc;omega⟩
 have hnr:=pC ⟨v1,v2⟩ (by rw [cG];exact v3) hf
 refine ⟨?_,ya ⟨v1,v2⟩ (by rw [cG];exact v3) hf⟩
 unfold Aq xE
 rw [hp',aX hl,cW,ag,hv,aX hp.1,hc,cW,cW,ag,hl,hnr];rfl
def jm (ts:List bF) (yM:yQ) (a:bk):Int × bi:=(((bM a.2).length:Int),eR 20 ((eR 20 (cJ a.2 (ce ts a.1).1.2)).map fun r=>gt r (mx a.2 yM)))
def c6 (ts:List bF) (yM:yQ) (yL:List bk):List (Int × bi):=yL.map (jm ts yM)
theorem yl {ts:List bF} {s:ByteArray} (h:(ce ts s).2=true):(ce ts s).1.2.length<=16:=by
 unfold ce at h ⊢
 cases hd:o4 ts with
 | false=>rw [hd] at h;cases h
 | true =>
  rw [hd,ag] at h
  rw [ag]
  cases hf:ts.find? (fun t=>decide (t.1=s)) with
  | none=>rw [hf] at h;cases h
  | some t =>
   have hm:=AR hf
   obtain ⟨i,hi,rfl⟩:=gW hm
   unfold o4 at hd
   rw [bV,dN] at hd
   have:=hd.2 i (by simp;omega)
   unfold sk at this
   rw [sq hi] at this
   simp only [bV,wF,Ae] at this
   have:=this.2
   show ts[i].2.2.length<=16
   omega
structure QFor (ts:List bF) (n:Nat) (yL:List bk) (yM:yQ):Prop where
 n1:1<=n
 n5:n<=5
 ol:yM.length=n
 os:jt yM n=true
 a1:1<=yL.length
 a4:yL.length<=4
 al:∀ a∈yL,a.2.length<=5/\1<=a.2.length/\∀ v∈a.2,0<=v/\v<n
 af:∀ a∈yL,(ce ts a.1).2=true/\(ce ts a.1).1.1=(a.2.length:Int)
 cov:∀ v:Int,0<=v->v<n->∃ a∈yL,v∈a.2
theorem IT {ts:List bF} {n:Int} {yL:List bk} {out yM:yQ} (h1:i8 ts n yL out=true) (h2:(yM.length:Int)=n) (h3:jt yM n=true):∃ m:Nat,n=(m:Int)/\QFor ts m yL yM:=by
 unfold i8 at h1
 rw [bV,bV,dN] at h1
 obtain ⟨q,_,q3⟩:=h1
 obtain ⟨n1,n5,a1,a4⟩:=kT q
 unfold eu at q
 simp only [bV,dN] at q
 obtain ⟨⟨_,qa⟩,qc⟩:=q
 have hm:(n.toNat:Int)=n:=by omega
 refine ⟨n.toNat,hm.symm,⟨oa,oa,oa,hm ▸ h3,oa,oa,fun a ha=>?_,fun a ha=>?_,fun v v0 v1=>?_⟩⟩
 ·have:=qa a ha
  unfold mB at this
  rw [bV,bV,cg,dN] at this
  exact ⟨oa,oa,fun v hv=>by have:=cg.1 (this.2 v hv);omega⟩
 ·have:=q3 a ha
  unfold nl at this
  rw [bV,dM] at this
  exact this
 ·unfold pn at qc
  rw [dN] at qc
  have:=qc v.toNat (by simp;omega)
  rw [List.any_eq_true] at this
  obtain ⟨a,ha,h⟩:=this
  rw [dM] at h
  exact ⟨a,ha,by rw [show v=((v.toNat:Nat):Int) by omega];exact h⟩
theorem qG {ts:List bF} {n:Nat} {yL:List bk} {yM:yQ} (q:QFor ts n yL yM) {a:bk} (ha:a∈yL) :
  pU ts a.1 a.2=(((bM a.2).length:Int),eR 20 (cJ a.2 (ce ts a.1).1.2))/\Aq (pU ts a.1 a.2).1 (pU ts a.1 a.2).2 (mx a.2 yM)=(jm ts yM a,true)/\bP (jm ts yM a).1 (jm ts yM a).2=true/\(jm ts yM a).2.length<=16/\bP ((bM a.2).length:Int) (eR 20 (cJ a.2 (ce ts a.1).1.2))=true:=by
 obtain ⟨h1,h2⟩:=q.af a ha
 obtain ⟨h3,h4,h5⟩:=q.al a ha
 have e:pU ts a.1 a.2=(((bM a.2).length:Int),eR 20 (cJ a.2 (ce ts a.1).1.2)):=by
  unfold pU
  rw [h1,aX h2];rfl
 obtain ⟨p1,p2⟩:=AF q.n5 h5 q.os q.ol
 obtain ⟨_,l2⟩:=yV h1 h2
 have l16:=yl h1
 have hbl:=lA a.2 (ce ts a.1).1.2
 have hv5:=jY a.2
 have hval:bP ((bM a.2).length:Int) (eR 20 (cJ a.2 (ce ts a.1).1.2))=true:=ya oa oa fun r hr=>by
  obtain ⟨x,hxm,rfl⟩:=pE hr
  obtain ⟨i,hi,rfl⟩:=gW hxm
  exact ⟨by rw [qL],wy (l2 i hi).2 (l2 i hi).1⟩
 obtain ⟨t1,t2⟩:=Fx hval p1 (by rw [p2])
 refine ⟨e,?_,t2,?_,hval⟩
 ·rw [e];exact t1
 ·have g1:=iO 20 ((eR 20 (cJ a.2 (ce ts a.1).1.2)).map fun r=>gt r (mx a.2 yM))
  have g2:=iO 20 (cJ a.2 (ce ts a.1).1.2)
  rw [cG] at g1
  exact Nat.le_trans g1 oa
abbrev xG:=Int × bi
def Ig (ts:List bF) (n:Int) (yL:List bk) (out yM:yQ):List xG × Bool :=
 bif i8 ts n yL out&&oe n yL out yM then (c6 ts yM yL,true) else ([],false)
theorem DS {ts:List bF} {yM:yQ} {yL:List bk} {i:Nat} (h:i<yL.length):c6 ts yM (yL.take (i+1))=c6 ts yM (yL.take i)++[jm ts yM yL[i]]:=by
 unfold c6;rw [gl h,fL];rfl
theorem r9 (ts:List bF) (yM:yQ) (yL:List bk):(c6 ts yM yL).length=yL.length:=by unfold c6;rw [cG]
theorem sT {yL:List bk} (ha:dA yL) {i:Nat} (h:i<yL.length):okI yL[i].2:=(ha.2 _ (bG h)).2
section
variable {N:Nat}
theorem Kw (hM:1073742848<=N) {ts:List bF} {n:Nat} {yL:List bk} {yM:yQ} (q:QFor ts n yL yM) (ht:o8 ts) (ha:dA yL) :
  fR N N yM ts [] yL (yL.length:Int) 0=some (c6 ts yM yL,(yL.length:Int)):=by
 have hol:=q.ol
 have hn5:=q.n5
 have ha4:=q.a4
 exact gD (fun k (o:List xG) i=>fR N k yM ts o yL (yL.length:Int) i) yL.length (fun i=>c6 ts yM (yL.take i)) (c6 ts yM yL,(yL.length:Int))
  (fun k i h=>by
   have hm:=bG h
   obtain ⟨g1,g2,g3,g4,g5⟩:=qG q hm
   obtain ⟨l1,l2,l3⟩:=q.al _ hm
   have hv5:=jY yL[i].2
   have hc:=(AF q.n5 l3 q.os q.ol).2
   have hok:iY (pU ts yL[i].1 yL[i].2).2:=by
    rw [g1]
    exact vr 20 (tS (by have:=yl (q.af _ hm).1;omega))
   have htl:=r9 ts yM (yL.take i)
   rw [dk] at htl
   show fR N (k+1) yM ts (c6 ts yM (yL.take i)) yL (yL.length:Int) (i:Int)=_
   rw [fR,dlt h,ag,bf h,bs,vY hM ht (sT ha h) l1 (fun v hv=>by have:=l3 v hv;omega),bs,tk oa (sT ha h) oa,bs,xI hM hok oa,bs,g2,bB (by decide) (by simp;omega),bs,ad1 oa,bs,DS h])
  (fun k=>by
   show fR N (k+1) yM ts (c6 ts yM (yL.take yL.length)) yL (yL.length:Int) (yL.length:Int)=_
   rw [fR,dge oa,am,fG]) N 0 oa oa
theorem Gq {ts:List bF} {n:Int} {yL:List bk} {out yM:yQ} (h1:i8 ts n yL out=true) (h2:oe n yL out yM=true):∃ m:Nat,n=(m:Int)/\QFor ts m yL yM:=by
 unfold oe at h2
 rw [bV,bV,dM] at h2
 exact IT h1 h2.2.1 h2.2.2
theorem rE (hM:1073742848<=N) {ts:List bF} {n:Int} {yL:List bk} {out yM:yQ} (ht:o8 ts) (ha:dA yL) (ho:okI out) (hr:okI yM):kq N ts n yL out yM=some (Ig ts n yL out yM):=by
 unfold kq Ig
 rw [wK oa ht ha ho,bs]
 cases h1:i8 ts n yL out with
 | false=>rfl
 | true =>
  rw [ag,vX oa ha ho hr,bs]
  cases h2:oe n yL out yM with
  | false=>rfl
  | true =>
   obtain ⟨m,rfl,q⟩:=Gq h1 h2
   rw [ag,Kw hM q ht ha,bs,lpB];rfl
theorem DB {n:Int} {rows:bi} (h:bP n rows=true):iY rows:=by
 obtain ⟨h1,h2,h3,h4⟩:=dR h
 refine ⟨oa,fun r hr=>?_⟩
 obtain ⟨i,hi,rfl⟩:=gW hr
 obtain ⟨g1,_⟩:=h4 i hi
 exact ⟨oa,fun _ _=>trivial⟩
end
theorem sf {α:Type} [DecidableEq α]:∀ (xs ys:List α),xs.Nodup->(∀ x∈xs,x∈ys)->xs.length<=ys.length
 | [],ys,_,_=>cD _
 | x :: xs,ys,hn,h=>by
  obtain ⟨h1,h2⟩:=lW.1 hn
  have hx:=h x dO
  have:=sf xs (ys.erase x) h2 fun z hz=>(AT (fun (e:z=x)=>h1 (by rw [e] at hz;exact hz))).2 (h z (fK _ hz))
  rw [ww hx] at this
  have:=A3 hx
  rw [bX];omega
theorem uE {n:Int} {rows:bi} (h:bP n rows=true):qC rows:=by
 rw [qC,sX]
 exact fun i j hi hj hij=>B9 h i j hij hj
theorem Hm {α:Type} (L:Nat->Int->Option Int) (xs:List α) (f:α->Bool)
  (hstep:∀ k i (h:i<xs.length),L (k+1) (i:Int)=bif f xs[i] then L k ((i+1:Nat):Int) else some (i:Int)) (hend:∀ k,L (k+1) (xs.length:Int)=some (xs.length:Int)) :
  ∀ k i,i<=xs.length->xs.length-i<k->L k (i:Int)=some ((i+((xs.drop i).takeWhile f).length:Nat):Int):=by
 intro k
 induction k with
 | zero=>intro i hi hk;omega
 | succ k ih =>
  intro i hi hk
  by_cases h:i<xs.length
  ·rw [hstep k i h,gr h,oH]
   cases f xs[i] with
   | true=>rw [ag,ih (i+1) oa oa,aY rfl,bX];congr 2;omega
   | false=>rw [am,ba (by decide)];rfl
  ·obtain rfl:i=xs.length:=by omega
   rw [hend k,List.drop_length];rfl
theorem s9 {α:Type} (f:α->Bool) (xs:List α):(xs.takeWhile f).length<=xs.length:=(List.takeWhile_prefix f).length_le
def fj (rows:bi) (p:yQ):bi:=rows.filter fun r=>decide (r.take p.length=p)
def cP (p r:yQ):Int:=b7 (r.take p.length) p
def loP (rows:bi) (p:yQ):Nat:=(rows.takeWhile fun r=>decide (cP p r<0)).length
def hiP (rows:bi) (p:yQ):Nat:=loP rows p+((rows.drop (loP rows p)).takeWhile fun r=>cP p r == 0).length
theorem Hc (rows:bi) (p:yQ):loP rows p<=rows.length:=s9 _ _
theorem LA (rows:bi) (p:yQ):hiP rows p<=rows.length:=by
 have h1:=Hc rows p
 have h2:=s9 (fun r=>cP p r == 0) (rows.drop (loP rows p))
 rw [js] at h2
 unfold hiP;omega
theorem JF (rows:bi) (p:yQ):loP rows p<=hiP rows p:=Nat.le_add_right _ _
theorem BO:∀ (n:Nat) (a b:yQ),b7 a b<0->b7 (a.take n) (b.take n)<=0
 | 0,a,b,_=>by rw [List.take_zero,List.take_zero];decide
 | n+1,[],[],h=>absurd h (by decide)
 | n+1,[],y :: b,_=>by rw [List.take_nil,uF,b7];decide
 | n+1,x :: a,[],h=>absurd h (by rw [b7];decide)
 | n+1,x :: a,y :: b,h=>by
  rw [uF,uF]
  unfold b7 at h ⊢
  by_cases h1:x<y
  ·rw [aY h1];decide
  ·rw [ba h1] at h ⊢
   by_cases h2:y<x
   ·rw [aY h2] at h;exact absurd h (by decide)
   ·rw [ba h2] at h ⊢;exact BO n a b h
theorem E5 {p a b:yQ} (h:b7 a b<0):(cP p b<0->cP p a<0)/\(0<cP p a->0<cP p b):=by
 have ht:=BO p.length a b h
 have hn:=qA (b.take p.length) p
 have hn2:=qA (a.take p.length) p
 unfold cP
 constructor
 ·intro hb
  by_cases e:b7 (a.take p.length) (b.take p.length)=0
  ·rw [l8.1 e];exact hb
  ·exact l7 oa hb
 ·intro ha
  by_cases e:b7 (a.take p.length) (b.take p.length)=0
  ·rw [<- l8.1 e];exact ha
  ·have:=l7 (a:=p) (b:=a.take p.length) (c:=b.take p.length) oa oa
   omega
theorem DR {α:Type} {f:α->Bool} {xs:List α} (h:∀ x∈xs,f x=false):xs.filter f=[]:=List.filter_eq_nil_iff.2 fun x hx=>by rw [h x hx];decide
theorem Le {rows:bi} (ha:qC rows) (p:yQ):(rows.take (hiP rows p)).drop (loP rows p)=fj rows p:=by
 have hc:∀ r:yQ,decide (r.take p.length=p)=(cP p r == 0):=fun r=>by unfold cP;rw [HD]
 have key:∀ {rows:bi},qC rows->rows.filter (fun r=>cP p r == 0)=((rows.dropWhile fun r=>decide (cP p r<0)).takeWhile fun r=>cP p r == 0):=by
  intro rows
  induction rows with
  | nil=>intro _;rfl
  | cons r rows ih =>
   intro ha
   obtain ⟨h1,h2⟩:=j4.1 ha
   rw [List.dropWhile_cons]
   by_cases hlt:cP p r<0
   ·rw [aY (by simpa using hlt),qW,ba (by simp;omega)]
    exact ih h2
   ·rw [ba (by simpa using hlt),oH,qW]
    by_cases h0:cP p r=0
    ·rw [aY (by simpa using h0),aY (by simpa using h0),ih h2]
     congr 2
     cases rows with
     | nil=>rfl
     | cons s rows =>
      have hs:¬ cP p s<0:=fun h=>hlt ((E5 (h1 s dO)).1 h)
      rw [List.dropWhile_cons,ba (by simpa using hs)]
    ·rw [ba (by simpa using h0),ba (by simpa using h0)]
     exact DR fun x hx=>by
      have:=(E5 (p:=p) (h1 x hx)).2 oa
      simp;omega
 have hd:∀ (f:yQ->Bool) (rows:bi),rows.drop (rows.takeWhile f).length=rows.dropWhile f:=by
  intro f rows
  induction rows with
  | nil=>rfl
  | cons r rows ih =>
   rw [oH,List.dropWhile_cons]
   cases f r with
   | true=>rw [aY rfl,aY rfl,bX,List.drop_succ_cons,ih]
   | false=>rw [ba (by decide),ba (by decide)];rfl
 have ht:∀ (f:yQ->Bool) (xs:bi),xs.take (xs.takeWhile f).length=xs.takeWhile f:=by
  intro f xs
  induction xs with
  | nil=>rfl
  | cons r rows ih =>
   rw [oH]
   cases f r with
   | true=>rw [aY rfl,bX,uF,ih]
   | false=>rw [ba (by decide)];rfl
 unfold fj hiP
 simp only [hc]
 rw [key ha,List.drop_take,oK,ht]
 unfold loP
 rw [hd]
def kW (n:Nat) (out r:yQ):yQ:=if out.getLast? = some (r.getD n 0) then out else out++[r.getD n 0]
def sd (rows:bi) (p:yQ):yQ:=(fj rows p).foldl (kW p.length) []
def mW (n:Int) (rows:bi) (p:yQ):yQ:=if (p.length:Int)<n then sd rows p else []
theorem DY (n:Nat) (out r:yQ):(kW n out r).length<=out.length+1:=by
 unfold kW;split
 ·omega
 ·simp
theorem qO (n:Nat):∀ (rows:bi) (out:yQ),(rows.foldl (kW n) out).length<=out.length+rows.length
 | [],out=>by simp
 | r :: rows,out=>by
  have h1:=qO n rows (kW n out r)
  have h2:=DY n out r
  rw [sV,bX];omega
theorem Hd (rows:bi) (p:yQ):(sd rows p).length<=rows.length:=by
 have h1:=qO p.length (fj rows p) []
 have h2:(fj rows p).length<=rows.length:=rh _ _
 unfold sd
 simp only [fH] at h1;omega
theorem BG (n:Int) (rows:bi) (p:yQ):(mW n rows p).length<=rows.length:=by
 unfold mW;split
 ·exact Hd rows p
 ·simp
theorem yc (n:Nat) (out r:yQ) (v:Int):v∈kW n out r↔v∈out\/v=r.getD n 0:=by
 unfold kW
 split
 ·rename_i h
  have:=List.mem_of_getLast? h
  constructor
  ·exact .inl
  ·rintro (h | rfl)
   ·exact h
   ·exact this
 ·rw [dj,fE]
theorem yd (n:Nat):∀ (rows:bi) (out:yQ) (v:Int),v∈rows.foldl (kW n) out↔v∈out\/∃ r∈rows,v=r.getD n 0
 | [],out,v=>by simp
 | r :: rows,out,v=>by
  rw [sV,yd n rows,yc]
  constructor
  ·rintro ((h | h) | ⟨x,hx,h⟩)
   ·exact .inl h
   ·exact .inr ⟨r,dO,h⟩
   ·exact .inr ⟨x,fK _ hx,h⟩
  ·rintro (h | ⟨x,hx,h⟩)
   ·exact .inl (.inl h)
   ·rcases c5.1 hx with rfl | hx
    ·exact .inl (.inr h)
    ·exact .inr ⟨x,hx,h⟩
theorem tH {rows:bi} {p:yQ} {v:Int}:v∈sd rows p↔∃ r∈rows,r.take p.length=p/\v=r.getD p.length 0:=by
 unfold sd fj
 rw [yd]
 simp only [oT,false_or,mc,dM,and_assoc]
abbrev mq (xs:yQ):Prop:=xs.Pairwise (·<·)
theorem EA:∀ (n:Nat) (a b:yQ),a.take n=b.take n->n<a.length->n<b.length->b7 a b<0->a.getD n 0<=b.getD n 0
 | _,[],_,_,h,_,_=>absurd h (by simp)
 | _,_ :: _,[],_,_,h,_=>absurd h (by simp)
 | 0,x :: a,y :: b,_,_,_,h=>by
  unfold b7 at h
  show x<=y
  by_cases h1:x<y
  ·omega
  ·rw [ba h1] at h
   by_cases h2:y<x
   ·rw [aY h2] at h;exact absurd h (by decide)
   ·omega
 | n+1,x :: a,y :: b,e,h1,h2,h=>by
  rw [uF,uF,List.cons.injEq] at e
  unfold b7 at h
  rw [ba oa,ba oa] at h
  simp only [bX] at h1 h2
  exact EA n a b e.2 oa oa h
theorem Gy {xs:yQ} {v:Int} (h:mq xs) (hl:xs.getLast? = some v):∀ x∈xs,x<=v:=by
 intro x hx
 obtain ⟨ys,rfl⟩:=List.getLast?_eq_some_iff.1 hl
 rcases dj.1 hx with hx | hx
 ·have:=(uQ.1 h).2.2 x hx v (by simp)
  omega
 ·rw [fE] at hx;omega
theorem x5 (n:Nat):∀ (rows:bi) (out:yQ),mq out->rows.Pairwise (fun a b=>a.getD n 0<=b.getD n 0)->(∀ x∈out,∀ r∈rows,x<=r.getD n 0)->mq (rows.foldl (kW n) out)
 | [],_,h,_,_=>h
 | r :: rows,out,h,hp,hb=>by
  obtain ⟨p1,p2⟩:=j4.1 hp
  rw [sV]
  refine x5 n rows _ ?_ p2 fun x hx s hs=>?_
  ·unfold kW
   split
   ·exact h
   ·rename_i hne
    refine uQ.2 ⟨h,wO _ _,fun x hx y hy=>?_⟩
    rw [fE] at hy
    have h1:=hb x hx r dO
    rcases Classical.em (x=r.getD n 0) with e | e
    ·exfalso
     obtain ⟨w,hw⟩:∃ w,out.getLast? = some w:=by
      cases hq:out.getLast? with
      | none=>rw [List.getLast?_eq_none_iff] at hq;rw [hq] at hx;simp at hx
      | some w=>exact ⟨w,rfl⟩
     have h2:=Gy h hw x hx
     have h3:=hb w (List.mem_of_getLast? hw) r dO
     exact hne (by rw [hw];congr 1;omega)
    ·omega
  ·rcases (yc n out r x).1 hx with hx | rfl
   ·exact hb x hx s (fK _ hs)
   ·exact p1 s hs
theorem GP {rows:bi} {p:yQ} (ha:qC rows) (hl:∀ r∈rows,p.length<r.length):mq (sd rows p):=by
 unfold sd
 refine x5 _ _ _ List.Pairwise.nil ?_ (by simp)
 have h1:(fj rows p).Pairwise fun a b=>b7 a b<0:=List.Pairwise.filter _ ha
 refine List.Pairwise.imp_of_mem (fun {a b} ham hbm h=>?_) h1
 unfold fj at ham hbm
 rw [mc,dM] at ham hbm
 exact EA _ a b (by rw [ham.2,hbm.2]) (hl a ham.1) (hl b hbm.1) h
theorem F6 {n:Int} {rows:bi} {p:yQ} (hv:bP n rows=true):mq (mW n rows p):=by
 obtain ⟨_,_,_,v4⟩:=dR hv
 unfold mW
 split
 ·refine GP (uE hv) fun r hr=>?_
  obtain ⟨i,hi,rfl⟩:=gW hr
  have:=(v4 i hi).1;omega
 ·exact List.Pairwise.nil
theorem FJ {n:Int} {rows:bi} {p:yQ} (hv:bP n rows=true):∀ v∈mW n rows p,0<=v/\v<=99:=by
 obtain ⟨_,_,_,v4⟩:=dR hv
 intro v h
 unfold mW at h
 split at h
 ·obtain ⟨r,hr,_,e⟩:=tH.1 h
  obtain ⟨i,hi,rfl⟩:=gW hr
  obtain ⟨g1,g2,_⟩:=v4 i hi
  rw [bQ oa] at e
  unfold cX at g2
  rw [dN] at g2
  rw [e];exact cg.1 (g2 _ (bG _))
 ·simp at h
theorem Hw {α:Type} {xs:List α} {hi:Nat} (h:hi<=xs.length):slc xs 0 (hi:Int)=some (xs.take hi):=by
 have:=lC (xs:=xs) (cD hi) h
 rw [gR] at this;exact this
theorem yx {n:Int} {rows:bi} (hv:bP n rows=true) {i:Nat} (h:i<rows.length):(rows[i].length:Int)=n/\rows[i].length<=5:=by
 obtain ⟨_,v2,_,v4⟩:=dR hv
 have:=(v4 i h).1
 exact ⟨this,oa⟩
section
variable {N:Nat}
theorem JU (hN:1073741824<=N) {n:Int} {rows:bi} {p:yQ} (hv:bP n rows=true) (hp:(p.length:Int)<=n):dK N N p n rows (p.length:Int) 0=some (loP rows p:Int):=by
 have hl:=(dR hv).2.2.1
 have h2:=(dR hv).2.1
 have h:=Hm (fun k i=>dK N k p n rows (p.length:Int) i) rows (fun r=>decide (cP p r<0))
  (fun k i h=>by
   have:=yx hv h
   show dK N (k+1) p n rows (p.length:Int) (i:Int)=_
   rw [dK,dlt h,ag,bf h,bs,Hw oa,bs,lG hN (by rw [dk];omega) oa,bs,ad1 oa,bs];rfl)
  (fun k=>by
   show dK N (k+1) p n rows (p.length:Int) (rows.length:Int)=_
   rw [dK,dge oa,am]) N 0 oa oa
 rw [gR,e8] at h;exact h
theorem I7 (hN:1073741824<=N) {n:Int} {rows:bi} {p:yQ} (hv:bP n rows=true) (hp:(p.length:Int)<=n):dg N N p n rows (p.length:Int) (loP rows p:Int) (loP rows p:Int)=some (hiP rows p:Int):=by
 have hl:=(dR hv).2.2.1
 have h2:=(dR hv).2.1
 have hlo:=Hc rows p
 exact Hm (fun k i=>dg N k p n rows (p.length:Int) (loP rows p:Int) i) rows (fun r=>cP p r == 0)
  (fun k i h=>by
   have:=yx hv h
   show dg N (k+1) p n rows (p.length:Int) (loP rows p:Int) (i:Int)=_
   rw [dg,dlt h,ag,bf h,bs,Hw oa,bs,lG hN (by rw [dk];omega) oa,bs,ad1 oa,bs];rfl)
  (fun k=>by
   show dg N (k+1) p n rows (p.length:Int) (loP rows p:Int) (rows.length:Int)=_
   rw [dg,dge oa,am]) N (loP rows p) hlo oa
theorem qn (hN:1073741824<=N) {n:Int} {rows:bi} (hr:iY rows):jG N n rows=some (bP n rows):=by
 unfold jG nA
 rw [bs]
 show (dT N n rows).bind _=_
 rw [jn hN hr,bs]
theorem Mp {α:Type} {n:Nat} {out r:yQ} (hl:out.length<=1048576) (hr:n<r.length) {f:yQ->Option α} :
  (bif ((out.length:Int) == 0) then (ix r (n:Int)).bind fun x=>(apd 8 out [x]).bind f
   else (sb (out.length:Int) 1).bind fun i=>(ix out i).bind fun y=>(ix r (n:Int)).bind fun x=>bif (y != x) then (ix r (n:Int)).bind fun x=>(apd 8 out [x]).bind f else f out)=f (kW n out r):=by
 rw [bf hr,bs]
 unfold kW
 rw [bQ hr]
 rcases List.eq_nil_or_concat out with rfl | ⟨ys,w,rfl⟩
 ·rw [show ((([]:yQ).length:Int) == 0)=true from rfl,ag,bB (by decide) (by simp),bs,ba (by simp)]
 ·rw [List.concat_eq_append] at hl ⊢
  rw [b9,bU] at hl
  rw [show (((ys++[w]).length:Int) == 0)=false by simp;omega,am,eC (by rw [b9,bU];omega) (by rw [b9,bU];omega),bs,show (((ys++[w]).length:Int)-1)=((ys.length:Nat):Int) by simp,bf (by simp),bs,bs]
  rw [List.getElem_concat_length rfl,List.getLast?_append]
  by_cases e:w=r[n]
  ·rw [show (w != r[n])=false by simpa using e,am,aY (by simp [e])]
  ·rw [show (w != r[n])=true by simpa using e,ag,bB (by decide) (by simp;omega),bs,ba (by simpa using e)]
theorem GI (rows:bi) (p:yQ):(fj rows p).length<=rows.length:=rh _ _
theorem F5 {n:Int} {rows:bi} {p:yQ} (hv:bP n rows=true):∀ r∈fj rows p,(r.length:Int)=n:=by
 intro r hr
 obtain ⟨i,hi,rfl⟩:=gW (mc.1 hr).1
 exact (yx hv hi).1
theorem vb (hN:1073741824<=N) {n:Int} {rows:bi} {p:yQ} (hv:bP n rows=true):kL N n rows p=some (mW n rows p):=by
 have hl:=(dR hv).2.2.1
 unfold kL mW
 by_cases hp:(p.length:Int)<n
 ·rw [bb oa,am,qn hN (DB hv),bs,hv,ag,aY hp]
  unfold kS
  rw [bb oa,am,qn hN (DB hv),bs,hv,ag,JU hN hv oa,bs,lpB,I7 hN hv oa,bs,lpB,bs]
  show (slc rows (loP rows p:Int) (hiP rows p:Int)).bind _=_
  rw [lC (JF rows p) (LA rows p),bs,Le (uE hv)]
  have hwl:=GI rows p
  have h:=gD (fun k (o:yQ) i=>c8 N k (p.length:Int) o (fj rows p) ((fj rows p).length:Int) i) (fj rows p).length (fun i=>((fj rows p).take i).foldl (kW p.length) []) (sd rows p,((fj rows p).length:Int))
   (fun k i h=>by
    have hk:=qO p.length ((fj rows p).take i) []
    rw [dk,fH] at hk
    have hrow:=F5 hv _ (bG h)
    show c8 N (k+1) (p.length:Int) _ (fj rows p) ((fj rows p).length:Int) (i:Int)=_
    rw [c8,dlt h,ag,bf h,bs,ad1 oa,gl h,AH]
    exact Mp (f:=fun o=>(some ((i+1:Nat):Int)).bind fun x=>c8 N k (p.length:Int) o (fj rows p) ((fj rows p).length:Int) x) oa oa)
   (fun k=>by
    show c8 N (k+1) (p.length:Int) _ (fj rows p) ((fj rows p).length:Int) ((fj rows p).length:Int)=_
    rw [c8,dge oa,am,fG];rfl) N 0 oa oa
  have h':c8 N N (p.length:Int) [] (fj rows p) ((fj rows p).length:Int) 0=_:=h
  rw [h',bs,lpB]
 ·rw [aX oa,ag,ba hp]
end
abbrev Nxt:=yQ->yQ × Int
def ua (f:Nxt) (p:yQ):bi:=(f p).1.map fun v=>p++[v]
def j0 (f:Nxt) (L:bi):Int:=(L.map fun p=>(f p).2).sum
def nv (f:Nxt):Nat->bi->Int->bi × Int
 | 0,L,c=>(L,c)
 | m+1,L,c=>nv f m (L.flatMap (ua f)) (c+j0 f L)
def dc (f:Nxt):Nat->yQ->bi × Int
 | 0,p=>([p],0)
 | m+1,p=>((f p).1.flatMap fun v=>(dc f m (p++[v])).1,(f p).2+((f p).1.map fun v=>(dc f m (p++[v])).2).sum)
theorem x6 {α β:Type} (g:α->List β) (w:β->Int):∀ L:List α,((L.flatMap g).map w).sum=(L.map fun p=>((g p).map w).sum).sum
 | []=>rfl
 | p :: L=>by rw [sA,fL,List.sum_append,x6 g w L,fJ,qX]
theorem Df {α:Type} (g h:α->Int):∀ L:List α,(L.map g).sum+(L.map h).sum=(L.map fun p=>g p+h p).sum
 | []=>rfl
 | p :: L=>by
  have:=Df g h L
  simp only [fJ,qX];omega
theorem Co (f:Nxt):∀ (m:Nat) (L:bi) (c:Int),nv f m L c=(L.flatMap fun p=>(dc f m p).1,c+(L.map fun p=>(dc f m p).2).sum)
 | 0,L,c=>by
  have h1:∀ L:bi,L.flatMap (fun p=>[p])=L:=fun L=>by induction L with | nil=>rfl | cons p L ih=>rw [sA,ih];rfl
  have h2:∀ L:bi,(L.map fun _=>(0:Int)).sum=0:=fun L=>by induction L with | nil=>rfl | cons p L ih=>rw [fJ,qX,ih];rfl
  show (L,c)=(L.flatMap (fun p=>[p]),c+(L.map fun _=>(0:Int)).sum)
  rw [h1,h2,sC]
 | m+1,L,c=>by
  rw [nv,Co f m]
  congr 1
  ·rw [List.flatMap_assoc]
   congr 1
   funext p
   show ((f p).1.map fun v=>p++[v]).flatMap _=(f p).1.flatMap _
   rw [List.flatMap_map]
  ·rw [x6,Int.add_assoc]
   unfold j0
   rw [Df]
   congr 3
   funext p
   show (f p).2+(((f p).1.map fun v=>p++[v]).map _).sum=(f p).2+((f p).1.map _).sum
   rw [ni];rfl
theorem vM (f:Nxt) (m:Nat):nv f m [[]] 0=dc f m []:=by
 rw [Co]
 simp
structure NxtOk (f:Nxt):Prop where
 len:∀ p,(f p).1.length<=16
 asc:∀ p,mq (f p).1
 val:∀ p,∀ v∈(f p).1,0<=v/\v<=99
 st0:∀ p,0<=(f p).2
 st1:∀ p,(f p).2<=1000
theorem tE {f:Nxt}:∀ {m:Nat} {p r:yQ},r∈(dc f m p).1->∃ s,r=p++s/\s.length=m
 | 0,p,r,h=>⟨[],by rw [mP];exact fE.1 h,rfl⟩
 | m+1,p,r,h=>by
  obtain ⟨v,_,hv⟩:=us.1 h
  obtain ⟨s,e,hs⟩:=tE hv
  exact ⟨v :: s,by rw [e,gQ];rfl,by rw [bX,hs]⟩
theorem oD {α β:Type} {g:α->List β} {k:Nat} (h:∀ x,(g x).length<=k):∀ L:List α,(L.flatMap g).length<=L.length*k
 | []=>by simp
 | p :: L=>by
  have h1:=h p
  have h2:=oD h L
  rw [sA,b9,bX,rr];omega
theorem H2 {f:Nxt} (hf:NxtOk f) (p:yQ):(ua f p).length<=16:=by unfold ua;rw [cG];exact hf.len p
theorem Dx {α:Type} {g:α->Int} {b:Int} (h0:∀ x,0<=g x) (h1:∀ x,g x<=b):∀ L:List α,0<=(L.map g).sum/\(L.map g).sum<=L.length*b
 | []=>by simp
 | p :: L=>by
  have h2:=Dx h0 h1 L
  have h3:=h0 p;have h4:=h1 p
  rw [fJ,qX,bX]
  have:((L.length+1:Nat):Int)*b=(L.length:Int)*b+b:=by rw [Int.natCast_add,Int.add_mul];simp
  omega
theorem BC {f:Nxt} (hf:NxtOk f):∀ (m:Nat) (p:yQ),(dc f m p).1.length<=16 ^ m
 | 0,p=>by simp [dc]
 | m+1,p=>by
  have h1:=oD (g:=fun v=>(dc f m (p++[v])).1) (fun v=>BC hf m _) (f p).1
  have h2:=lZ (16 ^ m) (hf.len p)
  show ((f p).1.flatMap fun v=>(dc f m (p++[v])).1).length<=_
  rw [pZ];omega
def sh:Nat->Int
 | 0=>0
 | m+1=>1000+16*sh m
theorem EU:∀ m,0<=sh m
 | 0=>by decide
 | m+1=>by have:=EU m;unfold sh;omega
theorem sO {f:Nxt} (hf:NxtOk f):∀ (m:Nat) (p:yQ),0<=(dc f m p).2/\(dc f m p).2<=sh m
 | 0,p=>by simp [dc,sh]
 | m+1,p=>by
  have h1:=Dx (g:=fun v=>(dc f m (p++[v])).2) (fun v=>(sO hf m _).1) (fun v=>(sO hf m _).2) (f p).1
  have h2:=hf.len p;have h3:=hf.st0 p;have h4:=hf.st1 p
  have h5:(((f p).1.length:Nat):Int)*sh m<=16*sh m:=A0 oa (EU m)
  show 0<=(f p).2+_/\(f p).2+_<=1000+16*sh m
  omega
def gX (l:yQ) (a:Nat) (v:Int):Nat:=a+((l.drop a).takeWhile fun x=>decide (x<v)).length
theorem Dw {l:yQ} {a:Nat} {v:Int} (h:a<=l.length):gX l a v<=l.length:=by
 have:=s9 (fun x=>decide (x<v)) (l.drop a)
 rw [js] at this
 unfold gX;omega
theorem EJ {f:Int->Bool}:∀ {xs:yQ} (h:(xs.takeWhile f).length<xs.length),f (xs[(xs.takeWhile f).length])=false
 | [],h=>absurd h (by simp)
 | x :: xs,h=>by
  cases hf:f x with
  | false =>
   have e:(x :: xs).takeWhile f=[]:=by rw [oH,hf];rfl
   simp only [e,fH,List.getElem_cons_zero];exact hf
  | true =>
   have e:(x :: xs).takeWhile f=x :: xs.takeWhile f:=by rw [oH,hf];rfl
   simp only [e,bX] at h ⊢
   rw [List.getElem_cons_succ]
   exact EJ oa
theorem IC {f:Int->Bool}:∀ {xs:yQ} {j:Nat} (h:j<xs.length),j<(xs.takeWhile f).length->f xs[j]=true
 | [],_,h,_=>absurd h (by simp)
 | x :: xs,j,h,hj=>by
  cases hf:f x with
  | false =>
   have e:(x :: xs).takeWhile f=[]:=by rw [oH,hf];rfl
   rw [e] at hj;exact absurd hj (by simp)
  | true =>
   have e:(x :: xs).takeWhile f=x :: xs.takeWhile f:=by rw [oH,hf];rfl
   rw [e,bX] at hj
   cases j with
   | zero=>exact hf
   | succ j=>rw [List.getElem_cons_succ];exact IC _ oa
theorem Fc {l:yQ} {a:Nat} {v:Int} (h:gX l a v<l.length):v<=l.getD (gX l a v) 0:=by
 unfold gX at h ⊢
 have:=EJ (f:=fun x=>decide (x<v)) (xs:=l.drop a) (by rw [js];omega)
 rw [List.getElem_drop,Ae] at this
 rw [bQ h];omega
theorem Ik {l:yQ} {a j:Nat} {v:Int} (h:j<l.length) (h1:a<=j) (h2:j<gX l a v):l[j]<v:=by
 unfold gX at h2
 have:=IC (f:=fun x=>decide (x<v)) (xs:=l.drop a) (j:=j-a) (by rw [js];omega) oa
 rw [List.getElem_drop,dM] at this
 simpa [show a+(j-a)=j by omega] using this
theorem H4 {l:yQ} {a:Nat} {v:Int} (h:a<l.length) (h1:l[a]<v):a<gX l a v:=by
 unfold gX
 rw [gr h,oH,aY (by simpa using h1),bX];omega
theorem uV {l:yQ} (h:mq l) {i j:Nat} (hi:i<j) (hj:j<l.length):l[i]<l[j]:=sX.1 h i j oa hj hi
def oz (Ls:bi) (A:List Nat) (k:Nat):Int:=(Ls.getD k []).getD (A.getD k 0) 0
def lkL (Ls:bi) (s:Nat):yQ:=Ls.getD (s % Ls.length) []
def lkP (Ls:bi) (A:List Nat) (s:Nat):Nat:=A.getD (s % Ls.length) 0
def lkA (Ls:bi) (A:List Nat) (most:Int) (s:Nat):Nat:=if (lkL Ls s).getD (lkP Ls A s) 0=most then lkP Ls A s+1 else gX (lkL Ls s) (lkP Ls A s) most
def lkO (Ls:bi) (A:List Nat) (most:Int) (out:yQ) (s:Nat):yQ:=if (lkL Ls s).getD (lkP Ls A s) 0=most then out++[most] else out
def lp (Ls:bi):Nat->List Nat->Int->yQ->Nat->yQ × Nat
 | 0,_,_,out,s=>(out,s)
 | m+1,A,most,out,s =>
  if lkA Ls A most s=(lkL Ls s).length then (lkO Ls A most out s,s+1) else lp Ls m (A.set (s % Ls.length) (lkA Ls A most s)) ((lkL Ls s).getD (lkA Ls A most s) 0) (lkO Ls A most out s) (s+1)
structure LInv (Ls:bi) (A:List Nat) (most:Int) (out:yQ) (s:Nat):Prop where
 pos:0<Ls.length
 len:A.length=Ls.length
 asc:∀ l∈Ls,mq l
 lt:∀ k,k<Ls.length->A.getD k 0<(Ls.getD k []).length
 cyc:∀ i j,i<=j->j<Ls.length->oz Ls A ((s+i) % Ls.length)<=oz Ls A ((s+j) % Ls.length)
 top:oz Ls A ((s+(Ls.length-1)) % Ls.length)=most
 oasc:mq out
 olt:∀ x∈out,x<most
 ocom:∀ x∈out,∀ l∈Ls,x∈l
 all:∀ x,(∀ l∈Ls,x∈l)->x∈out\/∀ k,k<Ls.length->oz Ls A k<=x
theorem E2 {s n k:Nat} (hk:k<n):∃ i,i<n/\(s+i) % n=k:=by
 have hr:s % n<n:=Nat.mod_lt _ oa
 by_cases h:s % n<=k
 ·refine ⟨k-s % n,oa,?_⟩
  rw [Nat.add_mod,pu (a:=k-s % n) oa,show s % n+(k-s % n)=k by omega,pu hk]
 ·refine ⟨k+n-s % n,oa,?_⟩
  rw [Nat.add_mod,pu (a:=k+n-s % n) oa,show s % n+(k+n-s % n)=k+n by omega,Nat.add_mod_right,pu hk]
theorem G2 {s i j n:Nat} (hi:i<j) (hj:j<n):(s+j) % n≠(s+i) % n:=by
 intro e
 have h1:=Nat.div_add_mod (s+j) n
 have h2:=Nat.div_add_mod (s+i) n
 rw [e] at h1
 have h3:n*((s+j) / n)=n*((s+i) / n)+(j-i):=by omega
 rcases Nat.lt_trichotomy ((s+j) / n) ((s+i) / n) with h | h | h
 ·have:=qQ n (Nat.le_of_lt h);omega
 ·rw [h] at h3;omega
 ·have:=qQ n (Nat.succ_le_of_lt h)
  rw [Nat.mul_succ] at this;omega
theorem CQ {A:List Nat} {k a:Nat} (h:k<A.length):(A.set k a).getD k 0=a:=by simp [h]
theorem Bm {A:List Nat} {k j a:Nat} (h:j≠k):(A.set k a).getD j 0=A.getD j 0:=by
 simp [AC (rx h)]
theorem mj {Ls:bi} {k:Nat} (h:k<Ls.length):Ls.getD k []∈Ls:=by rw [iP h];exact bG h
theorem GY {l:yQ} {x:Int} (h:x∈l):∃ j,∃ hj:j<l.length,l[j]=x:=List.mem_iff_getElem.1 h
theorem wM {Ls:bi} {A:List Nat} {most:Int} {out:yQ} {s:Nat} (I:LInv Ls A most out s) :
  let k:=s % Ls.length
  let l:=lkL Ls s
  let a:=lkP Ls A s
  let a':=lkA Ls A most s
  let out':=lkO Ls A most out s
  k<Ls.length/\a<l.length/\a<a'/\a'<=l.length/\(a'=l.length->mq out'/\∀ x,x∈out'↔∀ l∈Ls,x∈l)/\(¬ a'=l.length->LInv Ls (A.set k a') (l.getD a' 0) out' (s+1)):=by
 intro k l a a' out'
 have hk:k<Ls.length:=Nat.mod_lt _ I.pos
 have hkA:k<A.length:=by rw [I.len];exact hk
 have ha:a<l.length:=I.lt k hk
 have hla:mq l:=I.asc l (mj hk)
 have hkey:oz Ls A k=l.getD a 0:=rfl
 have hle:l.getD a 0<=most:=by
  have:=I.cyc 0 (Ls.length-1) oa (by have:=I.pos;omega)
  rw [I.top,lw] at this
  exact this
 rw [bQ ha] at hle
 -- the new place
 have hgt:a<a':=by
  show a<if l.getD a 0=most then a+1 else gX l a most
  split
  ·omega
  ·rename_i h;rw [bQ ha] at h;exact H4 ha oa
 have hle':a'<=l.length:=by
  show (if l.getD a 0=most then a+1 else gX l a most)<=l.length
  split
  ·omega
  ·exact Dw oa
 have hnew:a'<l.length->most<=l.getD a' 0/\(l.getD a 0=most->most<l.getD a' 0):=by
  intro h
  by_cases e:l.getD a 0=most
  ·have e':a'=a+1:=aY e
   rw [e'] at h ⊢
   have:=uV hla (show a<a+1 by omega) h
   rw [bQ h];rw [bQ ha] at e
   exact ⟨oa,fun _=>by omega⟩
  ·have e':a'=gX l a most:=ba e
   rw [e'] at h ⊢
   exact ⟨Fc h,fun h'=>absurd h' e⟩
 -- every key is at most 'most';on a hit all are equal
 have hmost:∀ j,j<Ls.length->oz Ls A j<=most:=by
  intro j hj
  obtain ⟨i,hi,rfl⟩:=E2 (s:=s) hj
  have:=I.cyc i (Ls.length-1) oa oa
  rwa [I.top] at this
 have hhit:l.getD a 0=most->∀ l'∈Ls,most∈l':=by
  intro e l' hl'
  obtain ⟨j,hj,rfl⟩:=gW hl'
  have h1:=hmost j hj
  obtain ⟨i,hi,ej⟩:=E2 (s:=s) hj
  have h2:=I.cyc 0 i oa hi
  rw [lw,ej] at h2
  have h3:oz Ls A j=most:=by rw [show oz Ls A (s % Ls.length)=most from e] at h2;omega
  have h4:=I.lt j hj
  unfold oz at h3
  rw [bQ h4] at h3
  have h5:=bG h4
  rw [h3] at h5
  rwa [iP hj] at h5
 -- what is common and not yet found lies at the new place or behind it
 have hback:∀ x,(∀ l'∈Ls,x∈l')->x∈out'\/(most<=x/\∃ j,∃ hj:j<l.length,l[j]=x/\a'<=j):=by
  intro x hx
  rcases I.all x hx with h | h
  ·refine .inl ?_
   show x∈if l.getD a 0=most then out++[most] else out
   split
   ·exact gS _ h
   ·exact h
  ·have hm:most<=x:=by
    have:=h ((s+(Ls.length-1)) % Ls.length) (Nat.mod_lt _ I.pos)
    rwa [I.top] at this
   obtain ⟨j,hj,e⟩:=GY (hx l (mj hk))
   by_cases hej:l.getD a 0=most
   ·have e':a'=a+1:=aY hej
    have eo:out'=out++[most]:=aY hej
    by_cases hxm:x=most
    ·exact .inl (by rw [eo,hxm];simp)
    ·refine .inr ⟨hm,j,hj,e,?_⟩
     rw [e']
     refine sU fun hc=>?_
     rcases Nat.lt_or_ge j a with hja | hja
     ·have:=uV hla hja ha
      rw [bQ ha] at hej;omega
     ·have:j=a:=by omega
      subst this
      rw [bQ ha] at hej;omega
   ·have e':a'=gX l a most:=ba hej
    refine .inr ⟨hm,j,hj,e,?_⟩
    rw [e']
    refine sU fun hc=>?_
    rcases Nat.lt_or_ge j a with hja | hja
    ·have:=uV hla hja ha
     omega
    ·have:=Ik hj hja (by omega:j<gX l a most)
     omega
 have hoasc:mq out':=by
  show mq (if l.getD a 0=most then out++[most] else out)
  split
  ·exact uQ.2 ⟨I.oasc,wO _ _,fun x hx y hy=>by rw [fE] at hy;rw [hy];exact I.olt x hx⟩
  ·exact I.oasc
 have hocom:∀ x∈out',∀ l'∈Ls,x∈l':=by
  intro x hx
  by_cases e:l.getD a 0=most
  ·have eo:out'=out++[most]:=aY e
   rw [eo] at hx
   rcases dj.1 hx with hx | hx
   ·exact I.ocom x hx
   ·rw [fE] at hx;rw [hx];exact hhit e
  ·have eo:out'=out:=ba e
   rw [eo] at hx;exact I.ocom x hx
 refine ⟨hk,ha,hgt,hle',fun he=>⟨hoasc,fun x=>⟨hocom x,fun hx=>?_⟩⟩,fun hne=>?_⟩
 ·rcases hback x hx with h | ⟨_,j,hj,_,hj2⟩
  ·exact h
  ·omega
 ·have hlt':a'<l.length:=by omega
  obtain ⟨n1,n2⟩:=hnew hlt'
  have keyNew:oz Ls (A.set k a') k=l.getD a' 0:=by unfold oz;rw [CQ hkA];rfl
  have keyOld:∀ j,j≠k->oz Ls (A.set k a') j=oz Ls A j:=fun j hj=>by unfold oz;rw [Bm hj]
  have hkk:(s+1+(Ls.length-1)) % Ls.length=k:=by
   rw [show s+1+(Ls.length-1)=s+Ls.length by have:=I.pos;omega,Nat.add_mod_right]
  have hne':∀ i,i+1<Ls.length->(s+1+i) % Ls.length≠k:=fun i hi=>by
   have:=G2 (s:=s) (i:=0) (j:=i+1) (n:=Ls.length) oa hi
   rw [lw] at this
   rw [show s+1+i=s+(i+1) by omega];exact this
  refine ⟨I.pos,by rw [gZ];exact I.len,I.asc,fun j hj=>?_,fun i j hij hj=>?_,by rw [hkk,keyNew],hoasc,fun x hx=>?_,hocom,fun x hx=>?_⟩
  ·by_cases e:j=k
   ·rw [e,CQ hkA];exact hlt'
   ·rw [Bm e];exact I.lt j hj
  ·by_cases ej:j+1<Ls.length
   ·rw [keyOld _ (hne' j ej),keyOld _ (hne' i oa),show s+1+i=s+(i+1) by omega,show s+1+j=s+(j+1) by omega]
    exact I.cyc (i+1) (j+1) oa ej
   ·have ejl:j=Ls.length-1:=by omega
    rw [ejl,hkk,keyNew]
    by_cases ei:i+1<Ls.length
    ·rw [keyOld _ (hne' i ei)]
     have:=hmost ((s+1+i) % Ls.length) (Nat.mod_lt _ I.pos)
     omega
    ·rw [show i=Ls.length-1 by omega,hkk,keyNew];exact kG _
  ·by_cases e:l.getD a 0=most
   ·have eo:out'=out++[most]:=aY e
    rw [eo] at hx
    have:=n2 e
    rcases dj.1 hx with hx | hx
    ·have:=I.olt x hx;omega
    ·rw [fE] at hx;omega
   ·have eo:out'=out:=ba e
    rw [eo] at hx
    have:=I.olt x hx;omega
  ·rcases hback x hx with h | ⟨hm,j,hj,e,hj2⟩
   ·exact .inl h
   ·refine .inr fun i hi=>?_
    by_cases ei:i=k
    ·rw [ei,keyNew,bQ hlt',<- e]
     rcases Nat.lt_or_ge a' j with h | h
     ·exact sI (uV hla h hj)
     ·have:j=a':=by omega
      subst this;exact kG _
    ·rw [keyOld i ei]
     have:=hmost i hi;omega
def o3 (Ls:bi) (A:List Nat):Nat:=(List.zipWith (fun l a=>l.length-a) Ls A).sum
theorem yi:∀ (Ls:bi) (A:List Nat) (k a':Nat),k<Ls.length->A.length=Ls.length->(Ls.getD k []).length-a'<(Ls.getD k []).length-A.getD k 0->o3 Ls (A.set k a')<o3 Ls A
 | [],_,_,_,h,_,_=>absurd h (by simp)
 | _ :: _,[],_,_,_,h,_=>absurd h (by simp)
 | l :: Ls,a :: A,0,a',_,_,h=>by
  unfold o3
  simp only [List.set_cons_zero,List.zipWith_cons_cons,qX]
  simp only [List.getD_cons_zero] at h
  omega
 | l :: Ls,a :: A,k+1,a',h1,h2,h=>by
  have:=yi Ls A k a' (by simpa using h1) (by simpa using h2) (by simpa using h)
  unfold o3 at this ⊢
  simp only [List.set_cons_succ,List.zipWith_cons_cons,qX]
  omega
theorem x8 {Ls:bi}:∀ (m:Nat) (A:List Nat) (most:Int) (out:yQ) (s:Nat),LInv Ls A most out s->o3 Ls A<m ->
  mq (lp Ls m A most out s).1/\(∀ x,x∈(lp Ls m A most out s).1↔∀ l∈Ls,x∈l)/\(lp Ls m A most out s).2<=s+m
 | 0,_,_,_,_,_,h=>absurd h oa
 | m+1,A,most,out,s,I,h=>by
  obtain ⟨hk,ha,hgt,hle,h1,h2⟩:=wM I
  rw [lp]
  by_cases he:lkA Ls A most s=(lkL Ls s).length
  ·rw [aY he]
   obtain ⟨g1,g2⟩:=h1 he
   exact ⟨g1,g2,by show s+1<=_;omega⟩
  ·rw [ba he]
   have hr:=yi Ls A (s % Ls.length) (lkA Ls A most s) hk I.len (by
    have h3:lkP Ls A s<(lkL Ls s).length:=ha
    have h4:lkP Ls A s<lkA Ls A most s:=hgt
    show (lkL Ls s).length-lkA Ls A most s<(lkL Ls s).length-lkP Ls A s
    omega)
   obtain ⟨g1,g2,g3⟩:=x8 m _ _ _ (s+1) (h2 he) oa
   exact ⟨g1,g2,oa⟩
def mv (l:yQ):Int:=l.getD 0 0
def rG (hs:yQ) (h:Int):Nat->Nat
 | 0=>0
 | k+1=>if h<hs.getD k 0 then rG hs h k else k+1
theorem En (hs:yQ) (h:Int):∀ k,rG hs h k<=k
 | 0=>bO _
 | k+1=>by
  unfold rG;split
  ·have:=En hs h k;omega
  ·exact bO _
theorem Eg (hs:yQ) (h:Int):∀ k j,rG hs h k<=j->j<k->h<hs.getD j 0
 | 0,j,_,h2=>absurd h2 oa
 | k+1,j,h1,h2=>by
  unfold rG at h1
  split at h1
  ·rename_i hh
   by_cases e:j=k
   ·rw [e];exact hh
   ·exact Eg hs h k j h1 oa
  ·omega
theorem Et (hs:yQ) (h:Int):∀ k,rG hs h k=0\/hs.getD (rG hs h k-1) 0<=h
 | 0=>.inl rfl
 | k+1=>by
  unfold rG;split
  ·exact Et hs h k
  ·rename_i hh;exact .inr (by rw [ru];omega)
def hdI (ls:bi) (j:Int):Int:=mv (ls.getD j.toNat [])
def mU (ls:bi) (O:yQ) (i:Nat):Nat:=rG (O.map (hdI ls)) (hdI ls (i:Int)) O.length
def u7 (ls:bi) (O:yQ) (i:Nat):yQ:=O.take (mU ls O i)++[(i:Int)]++O.drop (mU ls O i)
def hO (ls:bi) (i:Nat):yQ:=(List.range' 0 i).foldl (u7 ls) []
def lsO (ls:bi) (O:yQ):bi:=O.map fun j=>ls.getD j.toNat []
theorem B0 (ls:bi) (i:Nat):hO ls (i+1)=u7 ls (hO ls i) i:=by unfold hO;rw [oR,AH];simp
theorem ED (ls:bi) (O:yQ) (i:Nat):mU ls O i<=O.length:=En _ _ _
theorem BL (ls:bi) (O:yQ) (i:Nat):(u7 ls O i).Perm ((i:Int) :: O):=by
 unfold u7
 rw [gQ,List.singleton_append]
 have h:=List.perm_middle (a:=(i:Int)) (l₁:=O.take (mU ls O i)) (l₂:=O.drop (mU ls O i))
 rwa [List.take_append_drop] at h
theorem HX (ls:bi) (O:yQ) (i:Nat):(u7 ls O i).length=O.length+1:=by rw [(BL ls O i).length_eq,bX]
def leI (a b:Int):Prop:=a<=b
theorem DV {ls:bi} {O:yQ} {i:Nat} (h:(O.map (hdI ls)).Pairwise leI):((u7 ls O i).map (hdI ls)).Pairwise leI:=by
 have hk:=ED ls O i
 have hat:∀ j (hj:j<O.length),hdI ls O[j]=(O.map (hdI ls)).getD j 0:=fun j hj=>by rw [bQ (by rw [cG];exact hj),kH]
 unfold u7
 rw [fL,fL,gQ]
 have h1:(O.map (hdI ls))=(O.take (mU ls O i)).map (hdI ls)++(O.drop (mU ls O i)).map (hdI ls):=by rw [<- fL,List.take_append_drop]
 rw [h1] at h
 obtain ⟨p1,p2,p3⟩:=uQ.1 h
 refine uQ.2 ⟨p1,?_,?_⟩
 ·rw [fJ,n6,List.singleton_append]
  refine j4.2 ⟨fun y hy=>?_,p2⟩
  obtain ⟨x,hx,rfl⟩:=fI.1 hy
  obtain ⟨j,hj,rfl⟩:=gW hx
  rw [js] at hj
  rw [List.getElem_drop]
  have:=Eg (O.map (hdI ls)) (hdI ls (i:Int)) O.length (mU ls O i+j) (by unfold mU;omega) oa
  rw [<- hat _ oa] at this
  exact sI this
 ·intro x hx y hy
  have hx':leI x (hdI ls (i:Int)):=by
   obtain ⟨z,hz,rfl⟩:=fI.1 hx
   obtain ⟨j,hj,rfl⟩:=gW hz
   rw [dk] at hj
   rw [uJ]
   have hj1:j<mU ls O i:=by omega
   rcases Et (O.map (hdI ls)) (hdI ls (i:Int)) O.length with h0 | h0
   ·have:mU ls O i=0:=h0
    omega
   ·have h0':(O.map (hdI ls)).getD (mU ls O i-1) 0<=hdI ls (i:Int):=h0
    by_cases e:j=mU ls O i-1
    ·unfold leI;rw [hat j oa,e];exact h0'
    ·have hp:=sX.1 p1 j (mU ls O i-1) (by rw [cG,dk];omega) (by rw [cG,dk];omega) oa
     rw [kH,kH,uJ,uJ] at hp
     unfold leI at hp ⊢
     rw [hat (mU ls O i-1) oa] at hp
     omega
  rw [fJ,n6,List.singleton_append] at hy
  rcases c5.1 hy with rfl | hy
  ·exact hx'
  ·exact p3 x hx y hy
structure OrdOk (ls:bi) (O:yQ) (i:Nat):Prop where
 len:O.length=i
 nd:O.Nodup
 bd:∀ j∈O,0<=j/\j<i
 so:(O.map (hdI ls)).Pairwise leI
theorem uf (ls:bi):∀ i,OrdOk ls (hO ls i) i
 | 0=>⟨rfl,List.nodup_nil,fun j h=>absurd h (oT),List.Pairwise.nil⟩
 | i+1=>by
  have h:=uf ls i
  rw [B0]
  have hp:=BL ls (hO ls i) i
  refine ⟨by rw [HX,h.len],hp.nodup_iff.2 (lW.2 ⟨fun hm=>by have:=h.bd _ hm;omega,h.nd⟩),fun j hj=>?_,DV h.so⟩
  rcases c5.1 (hp.mem_iff.1 hj) with rfl | hj
  ·omega
  ·have:=h.bd j hj;omega
def shS (ls:bi) (i:Nat) (s:Int):Int:=bif Nat.beq i 0||decide (((ls.getD i []).length:Int)<s) then ((ls.getD i []).length:Int) else s
def shT (ls:bi) (i:Nat):Int:=(List.range' 0 i).foldl (fun s i=>shS ls i s) 0
theorem yh (ls:bi) (i:Nat):shT ls (i+1)=shS ls i (shT ls i):=by unfold shT;rw [oR,AH];simp
theorem Hb (ls:bi):∀ i,0<=shT ls i/\∀ j,j<i->shT ls i<=((ls.getD j []).length:Int)
 | 0=>⟨kG _,fun j h=>absurd h oa⟩
 | i+1=>by
  obtain ⟨h1,h2⟩:=Hb ls i
  rw [yh]
  unfold shS
  cases i with
  | zero=>exact ⟨by rw [show (Nat.beq 0 0)=true from rfl,Bool.true_or,ag];omega,fun j hj=>by rw [show (Nat.beq 0 0)=true from rfl,Bool.true_or,ag,show j=0 by omega];exact kG _⟩
  | succ i =>
   rw [show Nat.beq (i+1) 0=false from rfl,uO]
   by_cases h:((ls.getD (i+1) []).length:Int)<shT ls (i+1)
   ·rw [aX h,ag]
    refine ⟨oa,fun j hj=>?_⟩
    by_cases e:j=i+1
    ·rw [e];exact kG _
    ·have:=h2 j oa;omega
   ·rw [bb h,am]
    refine ⟨h1,fun j hj=>?_⟩
    by_cases e:j=i+1
    ·rw [e];omega
    ·exact h2 j oa
def jV (n:Nat):List Nat:=List.replicate n 0
def AK (ls:bi):yQ × Nat:=lp (lsO ls (hO ls ls.length)) (o3 (lsO ls (hO ls ls.length)) (jV ls.length)+1) (jV ls.length) (mv ((lsO ls (hO ls ls.length)).getD (ls.length-1) [])) [] 0
def nE (ls:bi):yQ × Int:=bif nG ls&&!(shT ls ls.length == 0) then ((AK ls).1,((AK ls).2:Int)) else ([],0)
theorem yy:∀ {xs:yQ},asc xs=true->mq xs
 | [],_=>List.Pairwise.nil
 | [_],_=>wO _ _
 | x :: y :: t,h=>by
  unfold asc at h
  rw [bV,dM] at h
  have ih:=yy h.2
  refine j4.2 ⟨fun z hz=>?_,ih⟩
  rcases c5.1 hz with rfl | hz
  ·exact h.1
  ·have:=(j4.1 ih).1 z hz;omega
theorem ux (ls:bi):(lsO ls (hO ls ls.length)).length=ls.length:=by unfold lsO;rw [cG,(uf ls ls.length).len]
theorem nr {ls:bi} {l:yQ}:l∈lsO ls (hO ls ls.length)↔l∈ls:=by
 have h:=uf ls ls.length
 unfold lsO
 rw [fI]
 constructor
 ·rintro ⟨j,hj,rfl⟩
  have:=h.bd j hj
  exact mj oa
 ·intro hl
  obtain ⟨i,hi,rfl⟩:=gW hl
  refine ⟨(i:Int),vh h.nd h.len h.bd (i:Int) oa oa,?_⟩
  rw [show ((i:Nat):Int).toNat=i from rfl,iP hi]
theorem G8 {ls:bi} {O:yQ} {i:Nat} (h:i<O.length):(lsO ls O).getD i []=ls.getD O[i].toNat []:=by unfold lsO;simp [h]
theorem y6 (n k:Nat):(jV n).getD k 0=0:=by
 unfold jV
 by_cases h:k<n <;> simp [h]
theorem vI {ls:bi} (h:(nG ls&&!(shT ls ls.length == 0))=true) :
  LInv (lsO ls (hO ls ls.length)) (jV ls.length) (mv ((lsO ls (hO ls ls.length)).getD (ls.length-1) [])) [] 0/\∀ l∈ls,0<l.length:=by
 rw [bV,wF,ra] at h
 obtain ⟨h1,h2⟩:=h
 unfold nG at h1
 rw [bV,dN,dM] at h1
 obtain ⟨h3,h4⟩:=Hb ls ls.length
 have hne:∀ l∈ls,0<l.length:=fun l hl=>by
  obtain ⟨i,hi,rfl⟩:=gW hl
  have:=h4 i hi
  rw [iP hi] at this;omega
 have ho:=uf ls ls.length
 have hlen:=ux ls
 have hkey:∀ k,oz (lsO ls (hO ls ls.length)) (jV ls.length) k=mv ((lsO ls (hO ls ls.length)).getD k []):=fun k=>by unfold oz mv;rw [y6]
 refine ⟨⟨oa,by rw [hlen];simp [jV],fun l hl=>yy (h1.1 l (nr.1 hl)),fun k hk=>?_,fun i j hij hj=>?_,?_,List.Pairwise.nil,by simp,by simp,fun x hx=>.inr fun k hk=>?_⟩,hne⟩
 ·rw [y6];exact hne _ (nr.1 (mj hk))
 ·rw [e8,e8,pu hj,pu oa,hkey,hkey]
  by_cases e:i=j
  ·rw [e];exact kG _
  ·have hs:=sX.1 ho.so i j (by rw [cG,ho.len];omega) (by rw [cG,ho.len];omega) oa
   rw [kH,kH] at hs
   rw [G8 (by rw [ho.len];omega),G8 (by rw [ho.len];omega)]
   exact hs
 ·rw [e8,pu oa,hkey,hlen]
 ·rw [hkey]
  have hl:=nr.1 (mj hk)
  obtain ⟨j,hj,e⟩:=GY (hx _ (mj hk))
  have hp:=hne _ hl
  unfold mv
  rw [bQ hp,<- e]
  rcases sH j with h0 | h0
  ·subst h0;exact kG _
  ·exact sI (uV (yy (h1.1 _ hl)) h0 hj)
theorem wX:∀ (Ls:bi) (B n:Nat),(∀ l∈Ls,l.length<=B)->o3 Ls (jV n)<=Ls.length*B
 | [],B,n,_=>by simp [o3]
 | l :: Ls,B,0,_=>by simp [o3,jV]
 | l :: Ls,B,n+1,h=>by
  have ih:=wX Ls B n fun x hx=>h x (fK _ hx)
  have hl:=h l dO
  unfold o3 jV at ih ⊢
  rw [zj,List.zipWith_cons_cons,qX,bX,rr]
  omega
theorem AQ {ls:bi} {B:Nat} (h:∀ l∈ls,l.length<=B):mq (nE ls).1/\(∀ x∈(nE ls).1,∀ l∈ls,x∈l)/\0<=(nE ls).2/\(nE ls).2<=(ls.length*B+1:Nat)/\(nG ls=true->∀ x,(∀ l∈ls,x∈l)->x∈(nE ls).1):=by
 unfold nE
 cases hc:nG ls&&!(shT ls ls.length == 0) with
 | false =>
  refine ⟨List.Pairwise.nil,by simp,kG _,by rw [am];omega,fun ha x hx=>?_⟩
  rw [ha,cW,Bool.not_eq_false',rl] at hc
  exfalso
  -- some list is empty
  have hex:∀ i,i<=ls.length->0<i->shT ls i=0->∃ j,j<i/\(ls.getD j []).length=0:=by
   intro i
   induction i with
   | zero=>intro _ h;omega
   | succ i ih =>
    intro hi _ hz
    rw [yh] at hz
    unfold shS at hz
    cases i with
    | zero =>
     rw [show (Nat.beq 0 0)=true from rfl,Bool.true_or,ag] at hz
     exact ⟨0,oa,oa⟩
    | succ i =>
     rw [show Nat.beq (i+1) 0=false from rfl,uO] at hz
     by_cases hlt:((ls.getD (i+1) []).length:Int)<shT ls (i+1)
     ·rw [aX hlt,ag] at hz
      exact ⟨i+1,oa,oa⟩
     ·rw [bb hlt,am] at hz
      obtain ⟨j,hj,e⟩:=ih oa oa hz
      exact ⟨j,oa,e⟩
  unfold nG at ha
  rw [bV,dM] at ha
  obtain ⟨j,hj,e⟩:=hex ls.length (bO _) ha.2 hc
  have hm:=hx _ (mj hj)
  rw [lV.1 e] at hm
  simp at hm
 | true =>
  rw [ag]
  obtain ⟨I,_⟩:=vI hc
  obtain ⟨g1,g2,g3⟩:=x8 (o3 (lsO ls (hO ls ls.length)) (jV ls.length)+1) _ _ _ _ I oa
  have hr:=wX (lsO ls (hO ls ls.length)) B ls.length fun l hl=>h l (nr.1 hl)
  rw [ux] at hr
  refine ⟨g1,fun x hx l hl=>(g2 x).1 hx l (nr.2 hl),As _,?_,fun _ x hx=>(g2 x).2 fun l hl=>hx l (nr.1 hl)⟩
  have g4:(AK ls).2<=ls.length*B+1:=by
   have:(AK ls).2<=0+(o3 (lsO ls (hO ls ls.length)) (jV ls.length)+1):=g3
   omega
  exact sL.2 g4
def Km (ns:List mY):Nat->Int->Int
 | 0,_=>0
 | f+1,nd=>if nd=0 then 0 else Km ns f ((ns.getD nd.toNat ([],[])).2.getD 0 0)+1
def dep (ns:List mY) (nd:Int):Int:=Km ns ns.length nd
structure NodeOk (ns:List mY) (i:Nat):Prop where
 lens:(ns.getD i ([],[])).1.length=(ns.getD i ([],[])).2.length
 vals:cX (ns.getD i ([],[])).1=true
 asc:mq (ns.getD i ([],[])).1
 ne:(ns.getD i ([],[])).1≠[]
 chs:∀ c∈(ns.getD i ([],[])).2,dep ns c=dep ns ((ns.getD i ([],[])).2.getD 0 0)
 new:∀ j,1<=j->j<i->ns.getD j ([],[])≠ns.getD i ([],[])
abbrev n7:=Int × List bk × yQ
def QGd (q:n7):Prop:=(1<=q.1/\q.1<=5)/\(1<=q.2.1.length/\q.2.1.length<=4)/\(∀ a∈q.2.1,a.1.size<=4/\1<=a.2.length/\a.2.length<=5)/\q.2.2.length<=5
def QSm (q:n7):Prop:=(0<=q.1/\q.1<=6)/\q.2.1.length<=5/\(∀ a∈q.2.1,a.1.size<=4/\a.2.length<=5)/\q.2.2.length<=6
theorem QGd.sm {q:n7} (h:QGd q):QSm q:=⟨⟨by have:=h.1;omega,by have:=h.1;omega⟩,by have:=h.2.1;omega,fun a ha=>⟨(h.2.2.1 a ha).1,(h.2.2.1 a ha).2.2⟩,by have:=h.2.2.2;omega⟩
theorem QSm.atoms {q:n7} (h:QSm q):dA q.2.1:=⟨by have:=h.2.1;omega,fun a ha=>⟨by have:=(h.2.2.1 a ha).1;omega,by have:=(h.2.2.1 a ha).2;omega,fun _ _=>trivial⟩⟩
theorem QSm.out {q:n7} (h:QSm q):okI q.2.2:=⟨by have:=h.2.2.2;omega,fun _ _=>trivial⟩
abbrev Iz:List bk:=[((⟨#[114]⟩:ByteArray),[0,1]),((⟨#[115]⟩:ByteArray),[1,2]),((⟨#[116]⟩:ByteArray),[2,3]),((⟨#[117]⟩:ByteArray),[3,4])]
def Is (n:Int) (ats:List bk):Prop:=ats.length<=4/\(∀ a∈ats,1<=a.2.length/\∀ v∈a.2,0<=v/\v<n)/\∀ v:Int,0<=v->v<n->∃ a∈ats,v∈a.2
def QV (q:n7):Prop:=(∀ a∈q.2.1,∀ v∈a.2,v<q.1)/\(q.1<=4\/q.1=5/\q.2.1=Iz)
def QB (q:n7):Prop:=Is q.1 q.2.1->q.1<=5->q.1<=4\/q.1=5/\q.2.1=Iz
theorem QV.b {q:n7} (h:QV q):QB q:=fun _ _=>h.2
theorem CK {n:Int} {yL:List bk} {out:yQ} (h:eu n yL out=true):∀ a∈yL,∀ v∈a.2,v<n:=by
 unfold eu at h
 simp only [bV,dN] at h
 intro a ha v hv
 have:=h.1.2 a ha
 unfold mB at this
 rw [bV,bV,cg,dN] at this
 have:=cg.1 (this.2 v hv)
 omega
section
variable {N:Nat}
abbrev Hn:List ByteArray:=[(⟨#[40,88,89,90,41,61,114,40,88,89,41,44,115,40,89,90,41,44,116,40,90,88,41]⟩:ByteArray),(⟨#[40,88,89,90,85,41,61,114,40,88,89,41,44,115,40,89,90,41,44,116,40,90,85,41,44,117,40,85,88,41]⟩:ByteArray),(⟨#[40,88,89,90,41,61,114,40,88,89,41,44,115,40,89,90,41]⟩:ByteArray),(⟨#[40,88,41,61,114,40,88,89,41,44,115,40,89,90,41,44,116,40,90,85,41]⟩:ByteArray),(⟨#[40,88,89,90,41,61,118,40,88,89,90,41,44,114,40,88,89,41]⟩:ByteArray),(⟨#[40,88,89,41,61,114,40,88,89,41,44,114,40,89,88,41]⟩:ByteArray),(⟨#[40,88,89,90,85,41,61,118,40,88,89,90,41,44,115,40,90,85,41,44,116,40,85,88,41]⟩:ByteArray),(⟨#[40,88,41,61,114,40,88,88,41]⟩:ByteArray),(⟨#[40,88,89,41,61,114,40,88,90,41,44,115,40,90,89,41,44,114,40,88,85,41,44,115,40,85,89,41]⟩:ByteArray),(⟨#[40,41,61,114,40,88,89,41,44,115,40,89,88,41]⟩:ByteArray),(⟨#[40,88,89,90,85,86,41,61,114,40,88,89,41,44,115,40,89,90,41,44,116,40,90,85,41,44,117,40,85,86,41]⟩:ByteArray)]
theorem Ju (M:Nat):dy (M+100) (⟨#[40,88,89,90,41,61,114,40,88,89,41,44,115,40,89,90,41,44,116,40,90,88,41]⟩:ByteArray)=some ((3,[((⟨#[114]⟩:ByteArray),[0,1]),((⟨#[115]⟩:ByteArray),[1,2]),((⟨#[116]⟩:ByteArray),[2,0])],[0,1,2]),true):=by kernel_rfl
theorem I1 (M:Nat):dy (M+100) (⟨#[40,88,89,90,85,41,61,114,40,88,89,41,44,115,40,89,90,41,44,116,40,90,85,41,44,117,40,85,88,41]⟩:ByteArray)=some ((4,[((⟨#[114]⟩:ByteArray),[0,1]),((⟨#[115]⟩:ByteArray),[1,2]),((⟨#[116]⟩:ByteArray),[2,3]),((⟨#[117]⟩:ByteArray),[3,0])],[0,1,2,3]),true):=by kernel_rfl
theorem J6 (M:Nat):dy (M+100) (⟨#[40,88,89,90,41,61,114,40,88,89,41,44,115,40,89,90,41]⟩:ByteArray)=some ((3,[((⟨#[114]⟩:ByteArray),[0,1]),((⟨#[115]⟩:ByteArray),[1,2])],[0,1,2]),true):=by kernel_rfl
theorem I3 (M:Nat):dy (M+100) (⟨#[40,88,41,61,114,40,88,89,41,44,115,40,89,90,41,44,116,40,90,85,41]⟩:ByteArray)=some ((4,[((⟨#[114]⟩:ByteArray),[0,1]),((⟨#[115]⟩:ByteArray),[1,2]),((⟨#[116]⟩:ByteArray),[2,3])],[0]),true):=by kernel_rfl
theorem JZ (M:Nat):dy (M+100) (⟨#[40,88,89,90,41,61,118,40,88,89,90,41,44,114,40,88,89,41]⟩:ByteArray)=some ((3,[((⟨#[118]⟩:ByteArray),[0,1,2]),((⟨#[114]⟩:ByteArray),[0,1])],[0,1,2]),true):=by kernel_rfl
theorem JH (M:Nat):dy (M+100) (⟨#[40,88,89,41,61,114,40,88,89,41,44,114,40,89,88,41]⟩:ByteArray)=some ((2,[((⟨#[114]⟩:ByteArray),[0,1]),((⟨#[114]⟩:ByteArray),[1,0])],[0,1]),true):=by kernel_rfl
theorem IM (M:Nat):dy (M+100) (⟨#[40,88,89,90,85,41,61,118,40,88,89,90,41,44,115,40,90,85,41,44,116,40,85,88,41]⟩:ByteArray)=some ((4,[((⟨#[118]⟩:ByteArray),[0,1,2]),((⟨#[115]⟩:ByteArray),[2,3]),((⟨#[116]⟩:ByteArray),[3,0])],[0,1,2,3]),true):=by kernel_rfl
theorem JO (M:Nat):dy (M+100) (⟨#[40,88,41,61,114,40,88,88,41]⟩:ByteArray)=some ((1,[((⟨#[114]⟩:ByteArray),[0,0])],[0]),true):=by kernel_rfl
theorem Jq (M:Nat):dy (M+100) (⟨#[40,88,89,41,61,114,40,88,90,41,44,115,40,90,89,41,44,114,40,88,85,41,44,115,40,85,89,41]⟩:ByteArray)=some ((4,[((⟨#[114]⟩:ByteArray),[0,2]),((⟨#[115]⟩:ByteArray),[2,1]),((⟨#[114]⟩:ByteArray),[0,3]),((⟨#[115]⟩:ByteArray),[3,1])],[0,1]),true):=by kernel_rfl
theorem IZ (M:Nat):dy (M+100) (⟨#[40,41,61,114,40,88,89,41,44,115,40,89,88,41]⟩:ByteArray)=some ((2,[((⟨#[114]⟩:ByteArray),[0,1]),((⟨#[115]⟩:ByteArray),[1,0])],[]),true):=by kernel_rfl
theorem Hx (M:Nat):dy (M+100) (⟨#[40,88,89,90,85,86,41,61,114,40,88,89,41,44,115,40,89,90,41,44,116,40,90,85,41,44,117,40,85,86,41]⟩:ByteArray)=some ((5,[((⟨#[114]⟩:ByteArray),[0,1]),((⟨#[115]⟩:ByteArray),[1,2]),((⟨#[116]⟩:ByteArray),[2,3]),((⟨#[117]⟩:ByteArray),[3,4])],[0,1,2,3,4]),true):=by kernel_rfl
theorem DZ (hN:1073741824<=N):∀ s∈Hn,∃ q,dy N s=some (q,true)/\QGd q/\QV q:=by
 obtain ⟨M,rfl⟩:∃ M,N=M+100:=⟨N-100,oa⟩
 intro s hs
 simp only [c5,oT,ro] at hs
 rcases hs with rfl | rfl | rfl | rfl | rfl | rfl | rfl | rfl | rfl | rfl | rfl
 ·exact ⟨_,Ju M,by unfold QGd;decide,⟨by decide,Or.inl (by decide)⟩⟩
 ·exact ⟨_,I1 M,by unfold QGd;decide,⟨by decide,Or.inl (by decide)⟩⟩
 ·exact ⟨_,J6 M,by unfold QGd;decide,⟨by decide,Or.inl (by decide)⟩⟩
 ·exact ⟨_,I3 M,by unfold QGd;decide,⟨by decide,Or.inl (by decide)⟩⟩
 ·exact ⟨_,JZ M,by unfold QGd;decide,⟨by decide,Or.inl (by decide)⟩⟩
 ·exact ⟨_,JH M,by unfold QGd;decide,⟨by decide,Or.inl (by decide)⟩⟩
 ·exact ⟨_,IM M,by unfold QGd;decide,⟨by decide,Or.inl (by decide)⟩⟩
 ·exact ⟨_,JO M,by unfold QGd;decide,⟨by decide,Or.inl (by decide)⟩⟩
 ·exact ⟨_,Jq M,by unfold QGd;decide,⟨by decide,Or.inl (by decide)⟩⟩
 ·exact ⟨_,IZ M,by unfold QGd;decide,⟨by decide,Or.inl (by decide)⟩⟩
 ·exact ⟨_,Hx M,by unfold QGd;decide,⟨by decide,Or.inr ⟨rfl,rfl⟩⟩⟩
theorem tP {a:yQ} {l:List ByteArray} (ha:ig a) {p h:Int} (hc:dr a p) (hl:0<l.length):∃ x q g,mh N a p h l=some (x,q,g)/\x∈l/\dr a q:=by
 obtain ⟨x,q,g,e,b0,b1,_,hc'⟩:=dv (N:=N) ha (h:=h) (n:=(l.length:Int)) hc
 have b2:=b1 oa
 unfold mh
 rw [e,bs]
 dsimp only
 rw [nW b0 b2,bs]
 exact ⟨_,_,_,rfl,bG _,hc'⟩
theorem qJ {a:yQ} (ha:ig a) {p h n:Int} (hc:dr a p):∃ b q g,kU N a p h n=some (b,q,g)/\dr a q:=by
 obtain ⟨x,q,g,e,_,_,_,hc'⟩:=dv (N:=N) ha (h:=h) (n:=n) hc
 unfold kU
 rw [e,bs]
 exact ⟨_,_,_,rfl,hc'⟩
theorem FC {a:yQ} (ha:ig a) {z1 z7 z9 n:Int} {z2 z5 z8:List bk} {z3 z6 z10:yQ} {s:ByteArray}:∀ (d k:Nat) (acc:yQ) (p h m:Int),dr a p->m.toNat=d->m<=10->d<k->acc.length+d<=100 ->
  ∃ q g vs m',kf N k a p h z1 z2 z3 z7 z5 z6 n z8 z10 z9 s acc m=some (q,g,vs,m')/\dr a q/\vs.length=acc.length+d:=by
 intro d
 induction d with
 | zero =>
  intro k acc p h m hc hd _ hk _
  obtain ⟨k,rfl⟩:∃ g,k=g+1:=⟨k-1,oa⟩
  rw [kf,bb (show ¬ 0<m by omega),am]
  exact ⟨_,_,_,_,rfl,hc,oa⟩
 | succ d ih =>
  intro k acc p h m hc hd hm hk hl
  obtain ⟨k,rfl⟩:∃ g,k=g+1:=⟨k-1,oa⟩
  obtain ⟨x,q,g,e,_,_,_,hc'⟩:=dv (N:=N) ha (h:=h) (n:=n) hc
  rw [kf,aX (show 0<m by omega),ag,e,bs]
  dsimp only
  rw [bB (by decide) (by simp;omega),bs,eC oa oa,bs]
  obtain ⟨q',g',vs,m',e',k1,k2⟩:=ih k (acc++[x]) q g (m-1) hc' oa oa oa (by simp;omega)
  exact ⟨q',g',vs,m',e',k1,by simp at k2;omega⟩
theorem Fi (hN:1073741824<=N) {a:yQ} (ha:ig a) {z1 z4 n:Int} {z2 z5:List bk} {z3 z6 z7:yQ}:∀ (d k:Nat) (acc:List bk) (p h m:Int),dr a p->m.toNat=d->m<=10->d<k->acc.length+d<=100->(∀ x∈acc,x.1.size<=4/\1<=x.2.length/\x.2.length<=5) ->
  ∃ q g ats m',kg N k a p h z1 z2 z3 z4 z5 z6 n acc z7 m=some (q,g,ats,m')/\dr a q/\ats.length=acc.length+d/\∀ x∈ats,x.1.size<=4/\1<=x.2.length/\x.2.length<=5:=by
 intro d
 induction d with
 | zero =>
  intro k acc p h m hc hd _ hk _ hx
  obtain ⟨k,rfl⟩:∃ g,k=g+1:=⟨k-1,oa⟩
  rw [kg,bb (show ¬ 0<m by omega),am]
  exact ⟨_,_,_,_,rfl,hc,oa,hx⟩
 | succ d ih =>
  intro k acc p h m hc hd hm hk hl hx
  obtain ⟨k,rfl⟩:∃ g,k=g+1:=⟨k-1,oa⟩
  obtain ⟨x,q,g,e,b0,b1,_,hc'⟩:=dv (N:=N) ha (h:=h) (n:=5) hc
  have b1:=b1 (by decide)
  rw [kg,aX (show 0<m by omega),ag,e,bs]
  dsimp only
  have hi:x<(([(⟨#[114]⟩:ByteArray),(⟨#[115]⟩:ByteArray),(⟨#[116]⟩:ByteArray),(⟨#[117]⟩:ByteArray),(⟨#[118]⟩:ByteArray)]:List ByteArray).length:Int):=b1
  rw [nW b0 hi,bs,Fn b0 (by decide) oa,bs]
  have ht:0<=x.tdiv 4/\x.tdiv 4<=1:=by
   rw [Int.tdiv_eq_ediv_of_nonneg b0];omega
  rw [ci oa oa,bs]
  have hs:∀ s∈([(⟨#[114]⟩:ByteArray),(⟨#[115]⟩:ByteArray),(⟨#[116]⟩:ByteArray),(⟨#[117]⟩:ByteArray),(⟨#[118]⟩:ByteArray)]:List ByteArray),s.size<=4:=by decide
  have hs':=hs _ (bG (l:=([(⟨#[114]⟩:ByteArray),(⟨#[115]⟩:ByteArray),(⟨#[116]⟩:ByteArray),(⟨#[117]⟩:ByteArray),(⟨#[118]⟩:ByteArray)]:List ByteArray)) (n:=x.toNat) oa)
  obtain ⟨q',g',vs,m',e',k1,k2⟩:=FC (N:=N) ha (z1:=z1) (z2:=z2) (z3:=z3) (z7:=z4) (z5:=z5) (z6:=z6) (n:=n) (z8:=acc) (z10:=z7) (z9:=m) (s:=([(⟨#[114]⟩:ByteArray),(⟨#[115]⟩:ByteArray),(⟨#[116]⟩:ByteArray),(⟨#[117]⟩:ByteArray),(⟨#[118]⟩:ByteArray)]:List ByteArray)[x.toNat]) (2+x.tdiv 4).toNat N [] q g (2+x.tdiv 4) hc' rfl oa oa (by simp;omega)
  rw [e',bs]
  unfold lpB
  dsimp only
  rw [bB (by decide) (by simp;omega),bs,eC oa oa,bs]
  simp only [fH,e8] at k2
  obtain ⟨q2,g2,ats,m2,e2,j1,j2,j3⟩:=ih k (acc++[(_,vs)]) q' g' (m-1) k1 oa oa oa (by simp;omega) (fun y hy=>by
   rcases dj.1 hy with h | h
   ·exact hx y h
   ·rw [fE] at h;rw [h]
    exact ⟨hs',by show 1<=vs.length;omega,by show vs.length<=5;omega⟩)
  exact ⟨q2,g2,ats,m2,e2,j1,by simp at j2;omega,j3⟩
theorem Fz {a:yQ} (ha:ig a) {z1 z4:Int} {n:Nat} {z2 z5 z8:List bk} {z3 z6:yQ} (hn:n<=10):∀ (d k:Nat) (acc:yQ) (p h:Int) (i:Nat),dr a p->i+d=n->d<k->acc.length<=i ->
  ∃ q g out v,iy N k a p h z1 z2 z3 z4 z5 z6 (n:Int) z8 acc (i:Int)=some (q,g,out,v)/\dr a q/\out.length<=n:=by
 intro d
 induction d with
 | zero =>
  intro k acc p h i hc hd hk hl
  obtain ⟨k,rfl⟩:∃ g,k=g+1:=⟨k-1,oa⟩
  rw [iy,bb (show ¬ (i:Int)<(n:Int) by omega),am]
  exact ⟨_,_,_,_,rfl,hc,oa⟩
 | succ d ih =>
  intro k acc p h i hc hd hk hl
  obtain ⟨k,rfl⟩:∃ g,k=g+1:=⟨k-1,oa⟩
  obtain ⟨b,q,g,e,hc'⟩:=qJ (N:=N) ha (h:=h) (n:=2) hc
  rw [iy,aX (show (i:Int)<(n:Int) by omega),ag,e,bs]
  dsimp only
  cases b with
  | true =>
   rw [ag,bB (by decide) (by simp;omega),bs,ad1 oa,bs]
   exact ih k _ q g (i+1) hc' oa oa (by simp;omega)
  | false =>
   rw [am,ad1 oa,bs]
   exact ih k _ q g (i+1) hc' oa oa oa
theorem wg (hN:1073741824<=N) {a:yQ} (ha:ig a) {p h:Int} (hc:dr a p):∃ r q g,mQ N a p h=some (r,q,g)/\dr a q/\QGd r/\QV r:=by
 unfold mQ
 obtain ⟨s,q,g,e,hs,hc1⟩:=tP (N:=N) ha (h:=h) (l:=Hn) hc (by decide)
 obtain ⟨r,er,hr⟩:=DZ hN s hs
 rw [e,bs]
 dsimp only
 rw [er,bs]
 obtain ⟨b,q2,g2,e2,hc2⟩:=qJ (N:=N) ha (h:=g) (n:=3) hc1
 rw [e2,bs]
 dsimp only
 cases b with
 | false=>rw [am];exact ⟨_,_,_,rfl,hc2,hr⟩
 | true =>
  obtain ⟨x,q3,g3,e3,b0,b1,_,hc3⟩:=dv (N:=N) ha (h:=g2) (n:=4) hc2
  have b1:=b1 (by decide)
  rw [ag,e3,bs]
  dsimp only
  obtain ⟨y,q4,g4,e4,c0,c1,_,hc4⟩:=dv (N:=N) ha (h:=g3) (n:=4) hc3
  have c1:=c1 (by decide)
  rw [ci oa oa,bs,e4,bs]
  dsimp only
  rw [ci oa oa,bs]
  obtain ⟨q5,g5,ats,m5,e5,hc5,l5,a5⟩:=Fi hN ha (z1:=0) (z2:=[]) (z3:=[]) (z4:=r.1) (z5:=r.2.1) (z6:=r.2.2) (n:=1+x) (z7:=[]) (1+y).toNat N [] q4 g4 (1+y) hc4 rfl oa oa (by simp;omega) (by simp)
  rw [e5,bs]
  unfold lpB
  dsimp only
  have hx:((x.toNat+1:Nat):Int)=1+x:=by omega
  obtain ⟨q6,g6,out,v6,e6,hc6,l6⟩:=Fz (N:=N) ha (z1:=0) (z2:=[]) (z3:=[]) (z4:=r.1) (z5:=r.2.1) (z6:=r.2.2) (n:=x.toNat+1) (z8:=ats) oa (x.toNat+1) N [] q5 g5 0 hc5 oa oa (by simp)
  rw [hx] at e6
  have e6':iy N N a q5 g5 0 [] [] r.1 r.2.1 r.2.2 (1+x) ats [] 0=some (q6,g6,out,v6):=e6
  simp only [fH,e8] at l5
  have hq:QGd (1+x,ats,out):=⟨⟨by show 1<=1+x;omega,by show 1+x<=5;omega⟩,⟨by show 1<=ats.length;omega,by show ats.length<=4;omega⟩,a5,by show out.length<=5;omega⟩
  rw [e6',bs]
  dsimp only
  rw [fS hN (QSm.atoms hq.sm) (QSm.out hq.sm),bs]
  cases hqo:eu (1+x) ats out with
  | true=>rw [ag];exact ⟨_,_,_,rfl,hc6,hq,CK hqo,Or.inl (by show 1+x<=4;omega)⟩
  | false=>rw [am];exact ⟨_,_,_,rfl,hc6,hr⟩
theorem DP (hN:1073741824<=N) {a:yQ} (ha:ig a) {p h:Int} (hc:dr a p):∃ r q g,pA N a p h=some (r,q,g)/\dr a q/\QSm r/\QB r:=by
 obtain ⟨⟨n,ats,out⟩,q,g,e,hc1,hr,hv⟩:=wg hN ha (h:=h) hc
 obtain ⟨hv1,hv2⟩:=hv
 dsimp only at hv1 hv2
 obtain ⟨x,q2,g2,e2,_,_,_,hc2⟩:=dv (N:=N) ha (h:=g) (n:=14) hc1
 unfold pA
 rw [e,bs]
 dsimp only
 rw [e2,bs]
 dsimp only
 have hn:=hr.1;have ha1:=hr.2.1;have ha2:=hr.2.2.1;have ho:=hr.2.2.2
 dsimp only at hn ha1 ha2 ho
 have hsm:=hr.sm
 cases h0:(x == 0) with
 | true =>
  rw [ag,ci oa oa,bs]
  obtain ⟨y,q3,g3,e3,hy,hc3⟩:=kY (N:=N) ha (h:=g2) (l:=[0,6,n+1]) hc2 (Nat.zero_lt_succ _)
  rw [e3,bs]
  simp only [c5,oT,ro] at hy
  refine ⟨_,_,_,rfl,hc3,⟨?_,hsm.2⟩,fun hg hy5=>?_⟩
  ·show 0<=y/\y<=6
   omega
  ·dsimp only at hg hy5 ⊢
   by_cases h4:y<=4
   ·exact Or.inl h4
   ·obtain ⟨b,hb1,hb2⟩:=hg.2.2 (y-1) oa oa
    have:=hv1 b hb1 _ hb2
    omega
 | false =>
 rw [am]
 cases h1:(x == 1) with
 | true =>
  rw [ag]
  obtain ⟨y,q3,g3,e3,hy,hc3⟩:=tP (N:=N) ha (h:=g2) (l:=[ByteArray.empty,(⟨#[119]⟩:ByteArray),(⟨#[114]⟩:ByteArray)]) hc2 (by decide)
  have hys:∀ s∈[ByteArray.empty,(⟨#[119]⟩:ByteArray),(⟨#[114]⟩:ByteArray)],s.size<=4:=by decide
  rw [e3,bs,bB (by decide) (by simp;omega),bs]
  refine ⟨_,_,_,rfl,hc3,⟨hsm.1,by show (ats++[_]).length<=5;simp;omega,fun b hb=>?_,hsm.2.2.2⟩,fun hg hy5=>by
   dsimp only at hg hy5 ⊢
   rcases hv2 with h4 | ⟨h5,h6⟩
   ·exact Or.inl h4
   ·have:=hg.1
    rw [h6] at this
    simp at this⟩
  rcases dj.1 hb with h | h
  ·exact hsm.2.2.1 b h
  ·rw [fE] at h;rw [h];exact ⟨hys y hy,by show ([0]:yQ).length<=5;decide⟩
 | false =>
 rw [am]
 cases h2:(x == 2) with
 | true =>
  rw [ag]
  obtain ⟨y,q3,g3,e3,b0,b1,_,hc3⟩:=dv (N:=N) ha (h:=g2) (n:=6) hc2
  have b1:=b1 (by decide)
  rw [e3,bs]
  dsimp only
  rw [eC oa oa,bs,bB (by decide) (by simp;omega),bs]
  exact ⟨_,_,_,rfl,hc3,⟨hsm.1,hsm.2.1,hsm.2.2.1,by show (out++[_]).length<=6;simp;omega⟩,fun _ _=>hv2⟩
 | false =>
 rw [am]
 have hl:0<ats.length:=by omega
 have i0:ix ats 0=some ats[0]:=bf hl
 have hm0:=ha2 _ (bG hl)
 cases h3:(x == 3) with
 | true =>
  have s0:sto ats 0 (ats[0].1,[])=some (ats.set 0 (ats[0].1,[])):=lR hl
  rw [ag,i0,bs,s0,bs]
  refine ⟨_,_,_,rfl,hc2,⟨hsm.1,by show (ats.set 0 _).length<=5;rw [gZ];omega,fun b hb=>?_,hsm.2.2.2⟩,fun hg _=>by
   have:=(hg.2.1 _ (List.mem_set hl (ats[0].1,([]:yQ)))).1
   exact absurd (show 1<=([]:yQ).length from this) (by decide)⟩
  rcases th hb with h | h
  ·exact hsm.2.2.1 b h
  ·rw [h];exact ⟨hm0.1,cD _⟩
 | false =>
 rw [am]
 cases h4:(x == 4) with
 | true =>
  obtain ⟨y,q3,g3,e3,hy,hc3⟩:=kY (N:=N) ha (h:=g2) (l:=[(-1),5]) hc2 (by decide)
  have hl1:0<ats[0].2.length:=by omega
  have i1:ix ats[0].2 0=some ats[0].2[0]:=bf hl1
  have s1:sto ats[0].2 0 y=some (ats[0].2.set 0 y):=lR hl1
  have s0:sto ats 0 (ats[0].1,ats[0].2.set 0 y)=some (ats.set 0 (ats[0].1,ats[0].2.set 0 y)):=lR hl
  rw [ag,i0,bs,e3,bs,i1,bs,s1,bs,s0,bs]
  refine ⟨_,_,_,rfl,hc3,⟨hsm.1,by show (ats.set 0 _).length<=5;rw [gZ];omega,fun b hb=>?_,hsm.2.2.2⟩,fun hg hy5=>by
   dsimp only at hg hy5 ⊢
   have:=(hg.2.1 _ (List.mem_set hl (ats[0].1,ats[0].2.set 0 y))).2 y (List.mem_set hl1 y)
   simp only [c5,oT,ro] at hy
   omega⟩
  rcases th hb with h | h
  ·exact hsm.2.2.1 b h
  ·rw [h];exact ⟨hm0.1,by show (ats[0].2.set 0 y).length<=5;rw [gZ];exact hm0.2.2⟩
 | false =>
 rw [am]
 exact ⟨_,_,_,rfl,hc2,hsm,fun _ _=>hv2⟩
end
end Go.Proofs.YteemghjjopdljaaGreat
