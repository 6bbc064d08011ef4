/- What functions of the program come to, written out by a program: none where a bound is passed. -/
import Derived.Test.YteemghjjopdljaaGreatV0
namespace Go.Proofs.YteemghjjopdljaaGreat
open Go.RowKit
def px (N:Nat) (a0:List (ByteArray×(Int×T2_))) (a1:Int) (a2:List (ByteArray×yQ)) (a3:yQ) (a4:yQ):Option Bool:=(j7 N a0 a1 a2 a3).bind fun J=>(bif J then (kB N a1 a2 a3 a4).bind fun U=>some U else some false)
def f6 (N:Nat):Nat->(List (Int×T2_))->Int->Int->Option (Sum Bool Int)
 | 0,_,_,_=>none
 | k+1,U,Y,J=>(bif decide (J<Y) then (ix U J).bind fun Z=>(bif ((Z.2.length:Int) == 0) then some (.inl true) else (ad J 1).bind fun MQ=>f6 N k U Y MQ) else some (.inr J))
def k9 (N:Nat) (a0:List (Int×T2_)):Option Bool:=(f6 N N a0 (a0.length:Int) 0).bind fun J=>lpS J (fun q=>some q) fun U=>some false
def dk (N:Nat):Nat->yQ->Int->Option (Sum Bool Int)
 | 0,_,_=>none
 | k+1,U,J=>(bif decide (J<(U.length:Int)) then (sb J 1).bind fun Y=>(ix U Y).bind fun Z=>(ix U J).bind fun MQ=>(bif decide (MQ<=Z) then some (.inl false) else (ad J 1).bind fun MR=>dk N k U MR) else some (.inr J))
def hU (N:Nat) (a0:yQ):Option Bool:=(dk N N a0 1).bind fun J=>lpS J (fun q=>some q) fun U=>some true
def fd (N:Nat):Nat->T2_->T2_->Int->Int->Option (Sum Bool Int)
 | 0,_,_,_,_=>none
 | k+1,Z,U,Y,J=>(bif decide (J<Y) then (ix U J).bind fun MQ=>(hU N MQ).bind fun MR=>(bif MR then (ad J 1).bind fun MS=>fd N k Z U Y MS else some (.inl false)) else some (.inr J))
def jo (N:Nat) (a0:T2_):Option Bool:=(fd N N a0 a0 (a0.length:Int) 0).bind fun J=>lpS J (fun q=>some q) fun U=>some (decide (0<(a0.length:Int)))
def cB (N:Nat):Nat->Int->T2_->Int->Int->Option T1_
 | 0,_,_,_,_=>none
 | k+1,Z,U,Y,J=>(bif decide (J<Y) then (ix U J).bind fun MQ=>(bif (J == 0) then (ad J 1).bind fun MR=>cB N k (MQ.length:Int) U Y MR else (bif decide ((MQ.length:Int)<Z) then (ad J 1).bind fun MS=>cB N k (MQ.length:Int) U Y MS else (ad J 1).bind fun MT=>cB N k Z U Y MT)) else some (Z,J))
def jn (N:Nat) (a0:T2_):Option Int:=(cB N N 0 a0 (a0.length:Int) 0).bind fun J=>lpB J fun (U,Y)=>some U
def kG (N:Nat):Nat->yQ->Int->Int->Option (Sum Int Int)
 | 0,_,_,_=>none
 | k+1,U,Y,J=>(bif decide (J<(U.length:Int)) then (ix U J).bind fun Z=>(bif decide (Y<=Z) then some (.inl J) else (ad J 1).bind fun MQ=>kG N k U Y MQ) else some (.inr J))
def kX (N:Nat) (a0:yQ) (a1 a2:Int):Option Int:=(kG N N a0 a2 (imx 0 a1)).bind fun J=>lpS J (fun q=>some q) fun U=>some (a0.length:Int)
def fZ (N:Nat):Nat->T2_->yQ->Int->T2_->Int->Int->Option Int
 | 0,_,_,_,_,_,_=>none
 | k+1,U,Y,J,Z,MQ,MR=>(bif decide (0<J) then (sb J 1).bind fun MS=>(ix U MS).bind fun MT=>(ix MT 0).bind fun MU=>(ix Y 0).bind fun MV=>(bif decide (MV<MU) then (sb J 1).bind fun MW=>fZ N k U Y MW Z MQ MR else some J) else some J)
def cM (N:Nat):Nat->T2_->T2_->Int->Int->Option (T2_×Int)
 | 0,_,_,_,_=>none
 | k+1,J,Y,Z,U=>(bif decide (U<Z) then (ix Y U).bind fun MQ=>(fZ N N J MQ (J.length:Int) Y Z U).bind fun MS=>lpB MS fun MR=>(slc J 0 MR).bind fun MT=>(slc J MR (J.length:Int)).bind fun MU=>(apd 24 [] MT).bind fun MV=>(apd 24 MV [MQ]).bind fun MW=>(apd 24 MW MU).bind fun MX=>(ad U 1).bind fun MY=>cM N k MX Y Z MY else some (J,U))
def eM (N:Nat):Nat->T2_->yQ->Int->yQ->Int->Option (yQ×Int)
 | 0,_,_,_,_,_=>none
 | k+1,MQ,U,MR,MS,Z=>(sb Z 1).bind fun MW=>(rm MW (MQ.length:Int)).bind fun J=>(ix MQ J).bind fun Y=>(ix U J).bind fun MX=>(ix Y MX).bind fun MY=>(bif (MY == MR) then (apd 8 MS [MR]).bind fun MV=>(ix U J).bind fun MZ=>(ad MZ 1).bind fun M1=>(ix U J).bind fun Nc=>(sto U J M1).bind fun MT=>(ix MT J).bind fun M2=>(bif (M2 == (Y.length:Int)) then some (MV,Z) else (ix MT J).bind fun M3=>(ix Y M3).bind fun M4=>(ad Z 1).bind fun M5=>eM N k MQ MT M4 MV M5) else (ix U J).bind fun M6=>(kX N Y M6 MR).bind fun M7=>(ix U J).bind fun Nd=>(sto U J M7).bind fun MU=>(ix MU J).bind fun M8=>(bif (M8 == (Y.length:Int)) then some (MS,Z) else (ix MU J).bind fun M9=>(ix Y M9).bind fun Na=>(ad Z 1).bind fun Nb=>eM N k MQ MU Na MS Nb))
def iI (N:Nat) (a0:T2_):Option (yQ×Int):=(jo N a0).bind fun U=>(bif U then (jn N a0).bind fun Y=>(bif (Y == 0) then some ([],0) else (cM N N [] a0 (a0.length:Int) 0).bind fun Z=>lpB Z fun (J,MU)=>(mk 8 (0:Int) (J.length:Int)).bind fun MQ=>(sb (J.length:Int) 1).bind fun MR=>(ix J MR).bind fun MS=>(ix MS 0).bind fun MT=>eM N N J MQ MT [] 1) else some ([],0))
def nA (N:Nat) (a0:Int) (a1:T2_):Option (Int×T2_):=some (a0,a1)
def jC (N:Nat) (a0:Int) (a1:T2_):Option Bool:=(nA N a0 a1).bind fun J=>(dY N J.1 J.2).bind fun U=>some U
def dI (N:Nat):Nat->yQ->Int->T2_->Int->Int->Option Int
 | 0,_,_,_,_,_=>none
 | k+1,Y,MQ,U,Z,J=>(bif decide (J<(U.length:Int)) then (ix U J).bind fun MR=>(slc MR 0 Z).bind fun MS=>(gx N MS Y).bind fun MT=>(bif decide (MT<0) then (ad J 1).bind fun MU=>dI N k Y MQ U Z MU else some J) else some J)
def df (N:Nat):Nat->yQ->Int->T2_->Int->Int->Int->Option Int
 | 0,_,_,_,_,_,_=>none
 | k+1,Y,MQ,U,Z,MR,J=>(bif decide (J<(U.length:Int)) then (ix U J).bind fun MS=>(slc MS 0 Z).bind fun MT=>(gx N MT Y).bind fun MU=>(bif (MU == 0) then (ad J 1).bind fun MV=>df N k Y MQ U Z MR MV else some J) else some J)
def kP (N:Nat) (a0:Int) (a1:T2_) (a2:yQ):Option T1_:=(bif decide (a0<(a2.length:Int)) then some (0,0) else (jC N a0 a1).bind fun U=>(bif U then (dI N N a2 a0 a1 (a2.length:Int) 0).bind fun Y=>lpB Y fun J=>(df N N a2 a0 a1 (a2.length:Int) J J).bind fun Z=>lpB Z fun MQ=>some (J,MQ) else some (0,0)))
def c6 (N:Nat):Nat->Int->yQ->T2_->Int->Int->Option (yQ×Int)
 | 0,_,_,_,_,_=>none
 | k+1,U,J,Z,MQ,Y=>(bif decide (Y<MQ) then (ix Z Y).bind fun MR=>(bif ((J.length:Int) == 0) then (ix MR U).bind fun MS=>(apd 8 J [MS]).bind fun MT=>(ad Y 1).bind fun MU=>c6 N k U MT Z MQ MU else (sb (J.length:Int) 1).bind fun MV=>(ix J MV).bind fun MW=>(ix MR U).bind fun MX=>(bif (MW != MX) then (ix MR U).bind fun MY=>(apd 8 J [MY]).bind fun MZ=>(ad Y 1).bind fun M1=>c6 N k U MZ Z MQ M1 else (ad Y 1).bind fun M2=>c6 N k U J Z MQ M2)) else some (J,Y))
def kA (N:Nat) (a0:Int) (a1:T2_) (a2:yQ):Option yQ:=(bif decide (a0<=(a2.length:Int)) then some [] else (jC N a0 a1).bind fun Y=>(bif Y then (kP N a0 a1 a2).bind fun J=>(slc a1 J.1 J.2).bind fun U=>(c6 N N (a2.length:Int) [] U (U.length:Int) 0).bind fun Z=>lpB Z fun (MQ,MR)=>some MQ else some []))
def eG (N:Nat):Nat->(List (Int×T2_))->yQ->yQ->T2_->Int->ByteArray->yQ->yQ->(List (ByteArray×yQ))->Int->Int->yQ->Int->Int->Option (yQ×Int)
 | 0,_,_,_,_,_,_,_,_,_,_,_,_,_,_=>none
 | k+1,MT,U,MU,MV,MW,Y,Z,MQ,MX,MY,MZ,MR,MS,J=>(bif decide (J<MS) then (ix MR J).bind fun M1=>(ix U J).bind fun M2=>(ga N Y Z M2).bind fun M3=>(bif M3 then (apd 8 MQ [M1]).bind fun M4=>(ad J 1).bind fun M5=>eG N k MT U MU MV MW Y Z M4 MX MY MZ MR MS M5 else (ad J 1).bind fun M6=>eG N k MT U MU MV MW Y Z MQ MX MY MZ MR MS M6) else some (MQ,J))
def eH (N:Nat):Nat->(List (Int×T2_))->yQ->yQ->T2_->(List (ByteArray×yQ))->Int->Int->Option (T2_×Int)
 | 0,_,_,_,_,_,_,_=>none
 | k+1,Y,Z,U,MQ,MR,MS,J=>(bif decide (J<MS) then (ix MR J).bind fun MT=>(ix Z (U.length:Int)).bind fun MV=>(ga N MT.1 MT.2 MV).bind fun MW=>(bif MW then (eG N N Y Z U MQ J MT.1 MT.2 [] MR MS J U (U.length:Int) 0).bind fun MX=>lpB MX fun (MY,M4)=>(ix Y J).bind fun MU=>(kA N MU.1 MU.2 MY).bind fun MZ=>(apd 24 MQ [MZ]).bind fun M1=>(ad J 1).bind fun M2=>eH N k Y Z U M1 MR MS M2 else (ad J 1).bind fun M3=>eH N k Y Z U MQ MR MS M3) else some (MQ,J))
def mJ (N:Nat) (a0:Int) (a1:List (ByteArray×yQ)) (a2:yQ) (a3:List (Int×T2_)) (a4 a5:yQ):Option T2_:=(eH N N a3 a4 a5 [] a1 (a1.length:Int) 0).bind fun J=>lpB J fun (U,Y)=>some U
def bD (N:Nat):Nat->(List (Int×T2_))->yQ->Int->Int->(List (ByteArray×yQ))->yQ->Int->Int->T2_->yQ->T2_->Int->Int->yQ->Int->Int->Option (T2_×Int)
 | 0,_,_,_,_,_,_,_,_,_,_,_,_,_,_,_,_=>none
 | k+1,MR,MS,MT,MU,MV,MW,MX,MY,U,Y,MZ,M1,M2,Z,MQ,J=>(bif decide (J<MQ) then (ix Z J).bind fun M3=>(kw N Y).bind fun M4=>(apd 8 M4 [M3]).bind fun M5=>(apd 24 U [M5]).bind fun M6=>(ad J 1).bind fun M7=>bD N k MR MS MT MU MV MW MX MY M6 Y MZ M1 M2 Z MQ M7 else some (U,J))
def bC (N:Nat):Nat->(List (Int×T2_))->yQ->Int->Int->(List (ByteArray×yQ))->yQ->Int->Int->T2_->T2_->Int->Int->Option (Int×T2_×Int)
 | 0,_,_,_,_,_,_,_,_,_,_,_,_=>none
 | k+1,U,Y,MV,Z,MQ,MR,MW,MX,MY,MS,MT,J=>(bif decide (J<MT) then (ix MS J).bind fun MZ=>(mJ N Z MQ MR U Y MZ).bind fun M2=>(iI N M2).bind fun MU=>(ad MW MU.2).bind fun M1=>(bD N N U Y MV Z MQ MR M1 MX MY MZ MS MT J MU.1 (MU.1.length:Int) 0).bind fun M3=>lpB M3 fun (M4,M6)=>(ad J 1).bind fun M5=>bC N k U Y MV Z MQ MR M1 MX M4 MS MT M5 else some (MW,MY,J))
def bH (N:Nat):Nat->(List (Int×T2_))->yQ->Int->Int->(List (ByteArray×yQ))->yQ->T2_->Int->Int->Option (T2_×Int×Int)
 | 0,_,_,_,_,_,_,_,_,_=>none
 | k+1,Z,MQ,U,MR,MS,MT,Y,MU,J=>(bif decide (J<U) then (bC N N Z MQ U MR MS MT MU J [] Y (Y.length:Int) 0).bind fun MV=>lpB MV fun (MW,MX,MZ)=>(ad J 1).bind fun MY=>bH N k Z MQ U MR MS MT MX MW MY else some (Y,MU,J))
def dB (N:Nat) (a0:Int) (a1:List (ByteArray×yQ)) (a2:yQ) (a3:List (Int×T2_)) (a4:yQ) (a5:Int):Option (T2_×Int×Bool):=(bH N N a3 a4 a5 a0 a1 a2 ([[]]) 0 0).bind fun U=>lpB U fun (J,Y,Z)=>some (J,Y,decide ((J.length:Int)<=4000))
def kx (N:Nat) (a0:List (ByteArray×(Int×T2_))) (a1:Int) (a2:List (ByteArray×yQ)) (a3:yQ) (a4:yQ):Option ((Int×T2_)×Int×Bool):=(j8 N a0 a1 a2 a3 a4).bind fun J=>(bif J.2 then (k9 N J.1).bind fun Y=>(bif Y then some ((a1,[]),0,true) else (dB N a1 a2 a3 J.1 a4 a1).bind fun U=>(bif U.2.2 then some ((a1,U.1),U.2.1,true) else some ((0,[]),0,false))) else some ((0,[]),0,false))
def dG (N:Nat):Nat->ByteArray->yQ->yQ->Int->Option (yQ×Int)
 | 0,_,_,_,_=>none
 | k+1,U,Y,Z,J=>(bif decide (J<5) then (gd N U Y J).bind fun MQ=>(bif MQ then (apd 8 Z [J]).bind fun MR=>(ad J 1).bind fun MS=>dG N k U Y MR MS else (ad J 1).bind fun MT=>dG N k U Y Z MT) else some (Z,J))
def jT (N:Nat) (a0:ByteArray) (a1:yQ):Option yQ:=(dG N N a0 a1 [] 0).bind fun J=>lpB J fun (U,Y)=>some U
def eN (N:Nat):Nat->ByteArray->yQ->Int->T2_->yQ->Int->T2_->Int->T2_->T2_->Int->yQ->Int->Option (yQ×Int)
 | 0,_,_,_,_,_,_,_,_,_,_,_,_,_=>none
 | k+1,MS,Y,MT,MU,U,MV,Z,MW,MX,MY,MQ,MR,J=>(bif decide (J<(U.length:Int)) then (ix Z MQ).bind fun MZ=>(ix U J).bind fun M1=>(jK N Y M1).bind fun M2=>(ix MZ M2).bind fun M3=>(apd 8 MR [M3]).bind fun M4=>(ad J 1).bind fun M5=>eN N k MS Y MT MU U MV Z MW MX MY MQ M4 M5 else some (MR,J))
def c7 (N:Nat):Nat->ByteArray->yQ->Int->T2_->yQ->Int->T2_->Int->T2_->T2_->Int->yQ->Bool->Int->Option (Bool×Int)
 | 0,_,_,_,_,_,_,_,_,_,_,_,_,_,_=>none
 | k+1,MS,U,MT,MU,Y,MV,Z,MW,MX,MY,MQ,MR,MZ,J=>(bif decide (J<(U.length:Int)) then (ix U J).bind fun M2=>(jK N Y M2).bind fun M1=>(bif MZ then (bif decide (0<=M1) then (ix MR M1).bind fun M3=>(ix Z MQ).bind fun M4=>(ix M4 J).bind fun M5=>(ad J 1).bind fun M6=>c7 N k MS U MT MU Y MV Z MW MX MY MQ MR (M3 == M5) M6 else (ad J 1).bind fun M7=>c7 N k MS U MT MU Y MV Z MW MX MY MQ MR false M7) else (ad J 1).bind fun M8=>c7 N k MS U MT MU Y MV Z MW MX MY MQ MR false M8) else some (MZ,J))
def dT (N:Nat):Nat->ByteArray->yQ->Int->T2_->yQ->Int->T2_->Int->T2_->T2_->Int->Option (T2_×Int)
 | 0,_,_,_,_,_,_,_,_,_,_,_=>none
 | k+1,Z,MQ,MR,MS,MT,MU,U,MV,MW,Y,J=>(bif decide (J<(U.length:Int)) then (eN N N Z MQ MR MS MT MU U MV MW Y J [] 0).bind fun MY=>lpB MY fun (MX,M5)=>(c7 N N Z MQ MR MS MT MU U MV MW Y J MX true 0).bind fun MZ=>lpB MZ fun (M1,M6)=>(bif M1 then (apd 24 Y [MX]).bind fun M2=>(ad J 1).bind fun M3=>dT N k Z MQ MR MS MT MU U MV MW M2 M3 else (ad J 1).bind fun M4=>dT N k Z MQ MR MS MT MU U MV MW Y M4) else some (Y,J))
def kF (N:Nat) (a0:List (ByteArray×(Int×T2_))) (a1:ByteArray) (a2:yQ):Option (Int×T2_):=(jT N a1 a2).bind fun J=>(iy N a0 a1).bind fun U=>(bif U.2 then (bif (U.1.1 != (a2.length:Int)) then some ((J.length:Int),[]) else (dT N N a1 a2 0 [] J U.1.1 U.1.2 (J.length:Int) [] [] 0).bind fun Z=>lpB Z fun (MQ,MR)=>(iK N (J.length:Int) MQ).bind fun Y=>(bif Y.2 then some (Y.1.1,Y.1.2) else some ((J.length:Int),[]))) else some ((J.length:Int),[]))
def fB (N:Nat):Nat->(List (ByteArray×(Int×T2_)))->Int->(List (ByteArray×yQ))->yQ->yQ->Int->Option (yQ×Int)
 | 0,_,_,_,_,_,_=>none
 | k+1,Y,MR,U,MS,Z,J=>(bif decide (J<(U.length:Int)) then (ix U J).bind fun MQ=>(kF N Y MQ.1 MQ.2).bind fun MT=>(apd 8 Z [(MT.2.length:Int)]).bind fun MU=>(ad J 1).bind fun MV=>fB N k Y MR U MS MU MV else some (Z,J))
def mB (N:Nat) (a0:List (ByteArray×(Int×T2_))) (a1:Int) (a2:List (ByteArray×yQ)) (a3:yQ):Option (yQ×Bool):=(j7 N a0 a1 a2 a3).bind fun J=>(bif J then (fB N N a0 a1 a2 a3 [] 0).bind fun U=>lpB U fun (Y,Z)=>some (Y,true) else some ([],false))
def dw (N:Nat):Nat->Int->(List (ByteArray×yQ))->yQ->T6_->T3_->T3_->T6_->T3_->T3_->Int->T3_->Int->Option (T3_×Int)
 | 0,_,_,_,_,_,_,_,_,_,_,_,_=>none
 | k+1,MQ,U,MR,MS,MT,MU,MV,MW,MX,Y,Z,J=>(bif decide (J<(U.length:Int)) then (ix U J).bind fun MY=>(gd N MY.1 MY.2 Y).bind fun MZ=>(bif MZ then (apd 16 Z [(1,1)]).bind fun M1=>(ad J 1).bind fun M2=>dw N k MQ U MR MS MT MU MV MW MX Y M1 M2 else (apd 16 Z [(0,1)]).bind fun M3=>(ad J 1).bind fun M4=>dw N k MQ U MR MS MT MU MV MW MX Y M3 M4) else some (Z,J))
def dU (N:Nat):Nat->Int->(List (ByteArray×yQ))->yQ->T6_->T3_->T3_->T6_->T3_->T3_->Int->Option (T6_×T3_×Int)
 | 0,_,_,_,_,_,_,_,_,_,_=>none
 | k+1,U,MQ,MR,MS,MT,MU,Y,Z,MV,J=>(bif decide (J<U) then (dw N N U MQ MR MS MT MU Y Z MV J [] 0).bind fun MW=>lpB MW fun (MX,M2)=>(apd 24 Y [MX]).bind fun MY=>(apd 16 Z [(1,1)]).bind fun MZ=>(ad J 1).bind fun M1=>dU N k U MQ MR MS MT MU MY MZ MV M1 else some (Y,Z,J))
def dV (N:Nat):Nat->Int->(List (ByteArray×yQ))->yQ->T6_->T3_->T3_->T6_->T3_->T3_->Int->Option (T3_×Int)
 | 0,_,_,_,_,_,_,_,_,_,_=>none
 | k+1,Z,U,MQ,MR,MS,MT,MU,MV,Y,J=>(bif decide (J<(U.length:Int)) then (apd 16 Y [(1,1)]).bind fun MW=>(ad J 1).bind fun MX=>dV N k Z U MQ MR MS MT MU MV MW MX else some (Y,J))
def ji (N:Nat) (a0:Int) (a1:List (ByteArray×yQ)) (a2:yQ):Option ((T6_×T3_×T3_)×Bool):=(eI N a0 a1 a2).bind fun Y=>(bif Y then (dU N N a0 a1 a2 [] [] [] [] [] [] 0).bind fun Z=>lpB Z fun (J,U,MS)=>(dV N N a0 a1 a2 [] [] [] J U [] 0).bind fun MQ=>lpB MQ fun (MR,MT)=>some ((J,U,MR),true) else some (([],[],[]),false))
def gB (N:Nat):Nat->Int->Int->Option T1_
 | 0,_,_=>none
 | k+1,U,J=>(bif (J != 0) then (rm U J).bind fun Y=>gB N k J Y else some (U,J))
def iJ (N:Nat) (a0 a1:Int):Option Int:=(gB N N a0 a1).bind fun J=>lpB J fun (U,Y)=>some U
def bw (N:Nat) (a0 a1:Int):Option Bool:=(dO N a1 1 1000000000).bind fun J=>(bif J then (dO N a0 (-1000000000) 1000000000).bind fun U=>(bif U then (sb 0 a0).bind fun Y=>(iJ N (imx a0 Y) a1).bind fun Z=>some (Z == 1) else some false) else some false)
def il (N:Nat):Nat->T6_->Int->Int->Int->Int->Option (Sum Bool Int)
 | 0,_,_,_,_,_=>none
 | k+1,U,MR,Y,Z,J=>(bif decide (J<Y) then (ix U Z).bind fun MS=>(ix MS J).bind fun MQ=>(bw N MQ.1 MQ.2).bind fun MT=>(bif MT then (ad J 1).bind fun MU=>il N k U MR Y Z MU else some (.inl false)) else some (.inr J))
def im (N:Nat):Nat->T6_->Int->Int->Int->Option (Sum Bool Int)
 | 0,_,_,_,_=>none
 | k+1,U,Z,Y,J=>(bif decide (J<(U.length:Int)) then (ix U J).bind fun MQ=>(bif ((MQ.length:Int) != Y) then some (.inl false) else (il N N U Z Y J 0).bind fun MR=>lpS MR (fun q=>some (.inl q)) fun MT=>(ad J 1).bind fun MS=>im N k U Z Y MS) else some (.inr J))
def gD (N:Nat) (a0:T6_) (a1 a2:Int):Option Bool:=(im N N a0 a1 a2 0).bind fun J=>lpS J (fun q=>some q) fun U=>some ((a0.length:Int) == a1)
def eK (N:Nat) (a0:T6_) (a1 a2:T3_):Option Bool:=(dO N (a2.length:Int) 1 5).bind fun J=>(bif J then (dO N (a1.length:Int) 1 5).bind fun U=>(bif U then (gD N a0 (a1.length:Int) (a2.length:Int)).bind fun Y=>(bif Y then (gD N ([a2]) 1 (a2.length:Int)).bind fun Z=>(bif Z then (gD N ([a1]) 1 (a1.length:Int)).bind fun MQ=>some MQ else some false) else some false) else some false) else some false)
def gg (rec:Int->Int->Int->Option T2_) (N:Nat):Nat->Int->Int->T2_->Int->T2_->Int->Option (T2_×Int)
 | 0,_,_,_,_,_,_=>none
 | k+1,MQ,MR,Y,Z,U,J=>(bif decide (J<(U.length:Int)) then (ix U J).bind fun MS=>(apd 8 ([Z]) MS).bind fun MT=>(apd 24 Y [MT]).bind fun MU=>(ad J 1).bind fun MV=>gg rec N k MQ MR MU Z U MV else some (Y,J))
def j9 (rec:Int->Int->Int->Option T2_) (N:Nat):Nat->Int->Int->T2_->Int->Option (T2_×Int)
 | 0,_,_,_,_=>none
 | k+1,U,Y,Z,J=>(ad J Y).bind fun MQ=>(bif decide (MQ<=U) then (ad J 1).bind fun MR=>(sb Y 1).bind fun MS=>(rec MR U MS).bind fun MT=>(gg rec N N U Y Z J MT 0).bind fun MU=>lpB MU fun (MV,MX)=>(ad J 1).bind fun MW=>j9 rec N k U Y MV MW else some (Z,J))
def gA:Nat->Int->Int->Int->Option T2_
 | 0,_,_,_=>none
 | N+1,a0,a1,a2=>(bif (a2 == 0) then some ([[]]) else (j9 (gA N) N N a1 a2 [] a0).bind fun J=>lpB J fun (U,Y)=>some U)
def fo (N:Nat) (a0 a1:Int):Option (T1_×Bool):=(bif (a1 == 0) then some ((0,0),false) else (sb 0 4000000000000000000).bind fun MU=>(dO N a0 MU 4000000000000000000).bind fun MV=>(bif MV then (sb 0 4000000000000000000).bind fun MW=>(dO N a1 MW 4000000000000000000).bind fun MX=>(bif MX then (bif decide (a1<0) then (sb 0 a0).bind fun J=>(sb 0 a1).bind fun U=>(sb 0 J).bind fun MY=>(iJ N (imx J MY) U).bind fun Y=>(qt J Y).bind fun Z=>(qt U Y).bind fun MQ=>(bw N Z MQ).bind fun MZ=>(bif MZ then some ((Z,MQ),true) else some ((0,0),false)) else (sb 0 a0).bind fun M1=>(iJ N (imx a0 M1) a1).bind fun MR=>(qt a0 MR).bind fun MS=>(qt a1 MR).bind fun MT=>(bw N MS MT).bind fun M2=>(bif M2 then some ((MS,MT),true) else some ((0,0),false))) else some ((0,0),false)) else some ((0,0),false)))
def jI (N:Nat) (a0 a1 a2 a3:Int):Option (T1_×Bool):=(bw N a0 a1).bind fun U=>(bif U then (bw N a2 a3).bind fun Y=>(bif Y then (ml a0 a3).bind fun Z=>(ml a1 a2).bind fun MQ=>(fo N Z MQ).bind fun J=>some ((J.1.1,J.1.2),J.2) else some ((0,0),false)) else some ((0,0),false))
def eC (N:Nat) (a0 a1 a2 a3:Int):Option (T1_×Bool):=(bw N a0 a1).bind fun U=>(bif U then (bw N a2 a3).bind fun Y=>(bif Y then (ml a0 a2).bind fun Z=>(ml a1 a3).bind fun MQ=>(fo N Z MQ).bind fun J=>some ((J.1.1,J.1.2),J.2) else some ((0,0),false)) else some ((0,0),false))
def fj (N:Nat) (a0 a1 a2 a3:Int):Option (T1_×Bool):=(bw N a0 a1).bind fun U=>(bif U then (bw N a2 a3).bind fun Y=>(bif Y then (ml a0 a3).bind fun Z=>(ml a2 a1).bind fun MQ=>(ad Z MQ).bind fun MR=>(ml a1 a3).bind fun MS=>(fo N MR MS).bind fun J=>some ((J.1.1,J.1.2),J.2) else some ((0,0),false)) else some ((0,0),false))
def lx (N:Nat) (a0 a1 a2 a3:Int):Option (T1_×Bool):=(bw N a2 a3).bind fun U=>(bif U then (sb 0 a2).bind fun Y=>(fj N a0 a1 Y a3).bind fun J=>some ((J.1.1,J.1.2),J.2) else some ((0,0),false))
def jd (N:Nat):Nat->T6_->Int->Int->Int->Int->Bool->Int->Option (T6_×Bool×Int)
 | 0,_,_,_,_,_,_,_=>none
 | k+1,U,MQ,Y,MR,MS,MT,J=>(ix U Y).bind fun MZ=>(bif decide (J<(MZ.length:Int)) then (bif MT then (ix U MQ).bind fun M1=>(ix M1 J).bind fun MV=>(eC N MR MS MV.1 MV.2).bind fun MU=>(ix U Y).bind fun M2=>(ix M2 J).bind fun MW=>(lx N MW.1 MW.2 MU.1.1 MU.1.2).bind fun Z=>(bif MU.2 then (ix U Y).bind fun MX=>(ix MX J).bind fun M9=>(sto MX J (Z.1.1,Z.1.2)).bind fun M3=>(sto U Y M3).bind fun M4=>(ad J 1).bind fun M5=>jd N k M4 MQ Y MR MS Z.2 M5 else (ix U Y).bind fun MY=>(ix MY J).bind fun Na=>(sto MY J (Z.1.1,Z.1.2)).bind fun M6=>(sto U Y M6).bind fun M7=>(ad J 1).bind fun M8=>jd N k M7 MQ Y MR MS false M8) else some (U,MT,J)) else some (U,MT,J))
def gY (N:Nat):Nat->T6_->Int->Int->Option (Sum (Bool×T6_) (T6_×Int))
 | 0,_,_,_=>none
 | k+1,Y,J,U=>(bif decide (U<(Y.length:Int)) then (bif (U == J) then (ad U 1).bind fun MT=>gY N k Y J MT else (ix Y U).bind fun MU=>(ix MU J).bind fun MV=>(bif (MV.1 == 0) then (ad U 1).bind fun MW=>gY N k Y J MW else (ix Y U).bind fun MX=>(ix MX J).bind fun MQ=>(ix Y J).bind fun MY=>(ix MY J).bind fun MR=>(jI N MQ.1 MQ.2 MR.1 MR.2).bind fun Z=>(jd N N Y J U Z.1.1 Z.1.2 Z.2 J).bind fun MZ=>lpB MZ fun (MS,M1,M3)=>(bif M1 then (ad U 1).bind fun M2=>gY N k MS J M2 else some (.inl (false,MS))))) else some (.inr (Y,U)))
def nX (N:Nat) (a0:T6_) (a1:Int):Option (Bool×T6_):=(gY N N a0 a1 0).bind fun J=>lpS J (fun q=>some q) fun (U,Y)=>some (true,U)
def eR (N:Nat):Nat->T6_->T3_->Int->T6_->Int->Option (Sum (T3_×Bool) (T6_×Int))
 | 0,_,_,_,_,_=>none
 | k+1,Y,U,Z,MQ,J=>(bif decide (J<Z) then (ix U J).bind fun MR=>(bw N MR.1 MR.2).bind fun MT=>(bif MT then (ix Y J).bind fun MU=>(ix U J).bind fun MS=>(apd 16 [] MU).bind fun MV=>(apd 16 MV [(MS.1,MS.2)]).bind fun MW=>(apd 24 MQ [MW]).bind fun MX=>(ad J 1).bind fun MY=>eR N k Y U Z MX MY else some (.inl ([],false))) else some (.inr (MQ,J)))
def fX (N:Nat):Nat->Int->T6_->Int->Int->Option Int
 | 0,_,_,_,_=>none
 | k+1,U,Y,Z,J=>(bif decide (J<U) then (ix Y J).bind fun MQ=>(ix MQ Z).bind fun MR=>(bif (MR.1 == 0) then (ad J 1).bind fun MS=>fX N k U Y Z MS else some J) else some J)
def eW (N:Nat):Nat->Int->T6_->Int->Option (Sum (T3_×Bool) (T6_×Int))
 | 0,_,_,_=>none
 | k+1,Y,U,J=>(bif decide (J<Y) then (fX N N Y U J J).bind fun MR=>lpB MR fun Z=>(bif (Z == Y) then some (.inl ([],false)) else (ix U Z).bind fun MS=>(ix U J).bind fun MT=>(ix U Z).bind fun MX=>(sto U Z MT).bind fun MU=>(sto MU J MS).bind fun MV=>(nX N MV J).bind fun MQ=>(bif MQ.1 then (ad J 1).bind fun MW=>eW N k Y MQ.2 MW else some (.inl ([],false)))) else some (.inr (U,J)))
def eZ (N:Nat):Nat->Int->T6_->T3_->Int->Option (Sum (T3_×Bool) (T3_×Int))
 | 0,_,_,_,_=>none
 | k+1,Y,Z,MS,J=>(bif decide (J<Y) then (ix Z J).bind fun MT=>(ix MT Y).bind fun MQ=>(ix Z J).bind fun MU=>(ix MU J).bind fun MR=>(jI N MQ.1 MQ.2 MR.1 MR.2).bind fun U=>(bif U.2 then (apd 16 MS [(U.1.1,U.1.2)]).bind fun MV=>(ad J 1).bind fun MW=>eZ N k Y Z MV MW else some (.inl ([],false))) else some (.inr (MS,J)))
def dZ (N:Nat) (a0:T6_) (a1:T3_):Option (T3_×Bool):=(bif decide (6<(a1.length:Int)) then some ([],false) else (gD N a0 (a1.length:Int) (a1.length:Int)).bind fun MQ=>(bif MQ then (eR N N a0 a1 (a1.length:Int) [] 0).bind fun J=>lpS J (fun q=>some q) fun (MR,MU)=>(eW N N (a1.length:Int) MR 0).bind fun U=>lpS U (fun q=>some q) fun (MS,MV)=>(eZ N N (a1.length:Int) MS [] 0).bind fun Y=>lpS Y (fun q=>some q) fun (Z,MT)=>some (Z,true) else some ([],false)))
def hH (N:Nat) (a0 a1 a2 a3:Int):Option Int:=(bw N a0 a1).bind fun Y=>(bif Y then (bw N a2 a3).bind fun Z=>(bif Z then (ml a0 a3).bind fun J=>(ml a2 a1).bind fun U=>(bif decide (J<U) then some (-1) else (bif decide (U<J) then some 1 else some 0)) else some 0) else some 0)
def cA (N:Nat):Nat->T3_->T3_->Int->Int->Int->Int->Int->Option (Sum (T1_×Bool) (Int×Int×Int))
 | 0,_,_,_,_,_,_,_=>none
 | k+1,U,MQ,MV,MW,MR,MS,J=>(bif decide (J<(U.length:Int)) then (ix U J).bind fun MT=>(ix MQ J).bind fun MU=>(eC N MT.1 MT.2 MU.1 MU.2).bind fun Y=>(bif Y.2 then (fj N MR MS Y.1.1 Y.1.2).bind fun Z=>(bif Z.2 then (ad J 1).bind fun MX=>cA N k U MQ MV MW Z.1.1 Z.1.2 MX else some (.inl ((0,0),false))) else some (.inl ((0,0),false))) else some (.inr (MR,MS,J)))
def gi (N:Nat) (a0 a1:T3_):Option (T1_×Bool):=(bif ((a0.length:Int) != (a1.length:Int)) then some ((0,0),false) else (cA N N a0 a1 0 0 0 1 0).bind fun J=>lpS J (fun q=>some q) fun (U,Y,Z)=>some ((U,Y),true))
def cu (N:Nat):Nat->T6_->T3_->T3_->Int->Option (Sum (T3_×Bool) (T3_×Int))
 | 0,_,_,_,_=>none
 | k+1,U,Z,MQ,J=>(bif decide (J<(U.length:Int)) then (ix U J).bind fun MR=>(gi N MR Z).bind fun Y=>(bif Y.2 then (apd 16 MQ [(Y.1.1,Y.1.2)]).bind fun MS=>(ad J 1).bind fun MT=>cu N k U Z MS MT else some (.inl ([],false))) else some (.inr (MQ,J)))
def i4 (N:Nat) (a0:T6_) (a1:T3_):Option (T3_×Bool):=(cu N N a0 a1 [] 0).bind fun J=>lpS J (fun q=>some q) fun (U,Y)=>some (U,true)
def i9 (N:Nat):Nat->T3_->Int->T6_->T3_->T3_->Int->Option (Sum Bool Int)
 | 0,_,_,_,_,_,_=>none
 | k+1,U,Z,MQ,MR,MS,J=>(bif decide (J<(U.length:Int)) then (ix U J).bind fun Y=>(bw N Y.1 Y.2).bind fun MT=>(bif MT then (ix U J).bind fun MU=>(bif decide (MU.1<0) then some (.inl false) else (ad J 1).bind fun MV=>i9 N k U Z MQ MR MS MV) else some (.inl false)) else some (.inr J))
def io (N:Nat):Nat->Int->T6_->T3_->T3_->T3_->Bool->Int->Option (Sum Bool Int)
 | 0,_,_,_,_,_,_,_=>none
 | k+1,Y,MS,Z,MT,U,MU,J=>(bif decide (J<(U.length:Int)) then (ix U J).bind fun MQ=>(ix Z J).bind fun MR=>(hH N MQ.1 MQ.2 MR.1 MR.2).bind fun MV=>(ml MV Y).bind fun MW=>(bif decide (MW<0) then some (.inl false) else (ad J 1).bind fun MX=>io N k Y MS Z MT U MU MX) else some (.inr J))
def jY (N:Nat) (a0:T6_) (a1 a2 a3:T3_) (a4:Int):Option Bool:=(eK N a0 a1 a2).bind fun U=>(bif U then (bif ((a3.length:Int) != (a2.length:Int)) then some false else (i9 N N a3 a4 a0 a1 a2 0).bind fun Y=>lpS Y (fun q=>some q) fun MQ=>(i4 N a0 a3).bind fun J=>(io N N a4 a0 a1 a2 J.1 J.2 0).bind fun Z=>lpS Z (fun q=>some q) fun MR=>some J.2) else some false)
def fV (N:Nat):Nat->T3_->T3_->Int->Option (Sum Bool Int)
 | 0,_,_,_=>none
 | k+1,U,Y,J=>(bif decide (J<(U.length:Int)) then (ix U J).bind fun Z=>(ix Y J).bind fun MQ=>(bif (Z.1 == MQ.1&&Z.2 == MQ.2) then (ad J 1).bind fun MR=>fV N k U Y MR else some (.inl false)) else some (.inr J))
def jp (N:Nat) (a0 a1:T3_):Option Bool:=(bif ((a0.length:Int) != (a1.length:Int)) then some false else (fV N N a0 a1 0).bind fun J=>lpS J (fun q=>some q) fun U=>some true)
def fz (N:Nat):Nat->Int->T6_->T3_->T3_->T6_->Int->Int->T2_->Int->T6_->T3_->Int->Int->T3_->Int->Option (T3_×Int)
 | 0,_,_,_,_,_,_,_,_,_,_,_,_,_,_,_=>none
 | k+1,Z,MQ,MR,MS,MT,U,MU,MV,MW,MX,MY,MZ,M1,Y,J=>(bif decide (J<U) then (apd 16 Y [(0,1)]).bind fun M2=>(ad J 1).bind fun M3=>fz N k Z MQ MR MS MT U MU MV MW MX MY MZ M1 M2 M3 else some (Y,J))
def eJ (N:Nat):Nat->Int->T6_->T3_->T3_->T6_->Int->Int->T2_->Int->T6_->T3_->Int->Option (T6_×T3_×Int)
 | 0,_,_,_,_,_,_,_,_,_,_,_,_=>none
 | k+1,MW,Z,MQ,MX,MY,MR,U,MS,MT,MU,MV,J=>(bif decide (J<MR) then (ix MS MT).bind fun M3=>(ix M3 J).bind fun Y=>(bif decide (Y<U) then (ix Z Y).bind fun M4=>(apd 24 MU [M4]).bind fun M5=>(ix MQ Y).bind fun MZ=>(apd 16 MV [(MZ.1,MZ.2)]).bind fun M6=>(ad J 1).bind fun M7=>eJ N k MW Z MQ MX MY MR U MS MT M5 M6 M7 else (fz N N MW Z MQ MX MY MR U MS MT MU MV J Y [] 0).bind fun M8=>lpB M8 fun (M1,Nd)=>(sb Y U).bind fun M2=>(ix M1 M2).bind fun Nf=>(sto M1 M2 (1,1)).bind fun M9=>(apd 24 MU [M9]).bind fun Na=>(apd 16 MV [(0,1)]).bind fun Nb=>(ad J 1).bind fun Nc=>eJ N k MW Z MQ MX MY MR U MS MT Na Nb Nc) else some (MU,MV,J))
def gG (N:Nat):Nat->Int->T6_->T3_->T3_->T6_->Int->Int->T2_->Int->T3_->Bool->Int->Option (Bool×Int)
 | 0,_,_,_,_,_,_,_,_,_,_,_,_=>none
 | k+1,Z,MQ,MR,MS,U,MT,MU,MV,MW,Y,MX,J=>(bif decide (J<(U.length:Int)) then (bif MX then (ad J 1).bind fun MY=>gG N k Z MQ MR MS U MT MU MV MW Y true MY else (ix U J).bind fun MZ=>(jp N MZ Y).bind fun M1=>(ad J 1).bind fun M2=>gG N k Z MQ MR MS U MT MU MV MW Y M1 M2) else some (MX,J))
def fA (N:Nat):Nat->Int->T6_->T3_->T3_->T6_->Int->Int->T2_->Int->Option (T6_×Int)
 | 0,_,_,_,_,_,_,_,_,_=>none
 | k+1,U,Y,Z,MQ,MR,MT,MU,MS,J=>(bif decide (J<(MS.length:Int)) then (eJ N N U Y Z MQ MR MT MU MS J [] [] 0).bind fun MW=>lpB MW fun (M3,M4,M8)=>(dZ N M3 M4).bind fun MV=>(bif MV.2 then (jY N Y Z MQ MV.1 U).bind fun M5=>(bif M5 then (gG N N U Y Z MQ MR MT MU MS J MV.1 false 0).bind fun MX=>lpB MX fun (M6,M9)=>(bif M6 then (ad J 1).bind fun M7=>fA N k U Y Z MQ MR MT MU MS M7 else (apd 24 MR [MV.1]).bind fun MY=>(ad J 1).bind fun MZ=>fA N k U Y Z MQ MY MT MU MS MZ) else (ad J 1).bind fun M1=>fA N k U Y Z MQ MR MT MU MS M1) else (ad J 1).bind fun M2=>fA N k U Y Z MQ MR MT MU MS M2) else some (MR,J))
def jE (N:Nat) (a0:T6_) (a1 a2:T3_) (a3:Int):Option T6_:=(ad (a1.length:Int) (a2.length:Int)).bind fun Y=>(gA N 0 Y (a2.length:Int)).bind fun Z=>(fA N N a3 a0 a1 a2 [] (a2.length:Int) (a1.length:Int) Z 0).bind fun J=>lpB J fun (U,MQ)=>some U
def g7 (N:Nat) (a0:T6_) (a1 a2:T3_):Option T6_:=(eK N a0 a1 a2).bind fun J=>(bif J then (jE N a0 a1 a2 1).bind fun U=>some U else some [])
def cK (N:Nat):Nat->T3_->Int->Int->Option (Sum (yQ×Int) T1_)
 | 0,_,_,_=>none
 | k+1,U,Y,J=>(bif decide (J<(U.length:Int)) then (ix U J).bind fun Z=>(bw N Z.1 Z.2).bind fun MR=>(bif MR then (ix U J).bind fun MS=>(bif decide (MS.1<0) then some (.inl ([],0)) else (ix U J).bind fun MT=>(iJ N Y MT.2).bind fun MU=>(qt Y MU).bind fun MV=>(ix U J).bind fun MW=>(ml MV MW.2).bind fun MQ=>(bif decide (1000<MQ) then some (.inl ([],0)) else (ad J 1).bind fun MX=>cK N k U MQ MX)) else some (.inl ([],0))) else some (.inr (Y,J)))
def dK (N:Nat):Nat->T3_->Int->yQ->Int->Option (yQ×Int)
 | 0,_,_,_,_=>none
 | k+1,U,Y,Z,J=>(bif decide (J<(U.length:Int)) then (ix U J).bind fun MQ=>(ix U J).bind fun MR=>(qt Y MR.2).bind fun MS=>(ml MQ.1 MS).bind fun MT=>(apd 8 Z [MT]).bind fun MU=>(ad J 1).bind fun MV=>dK N k U Y MU MV else some (Z,J))
def dv (N:Nat) (a0:T3_):Option (yQ×Int):=(cK N N a0 1 0).bind fun U=>lpS U (fun q=>some q) fun (J,MQ)=>(dK N N a0 J [] 0).bind fun Y=>lpB Y fun (Z,MR)=>some (Z,J)
def fx (N:Nat):Nat->yQ->Int->Option (Sum Bool Int)
 | 0,_,_=>none
 | k+1,U,J=>(bif decide (J<(U.length:Int)) then (ix U J).bind fun Y=>(dO N Y 0 9).bind fun Z=>(bif Z then (ad J 1).bind fun MQ=>fx N k U MQ else some (.inl false)) else some (.inr J))
def gq (N:Nat) (a0:yQ):Option Bool:=(fx N N a0 0).bind fun J=>lpS J (fun q=>some q) fun Z=>(bif decide ((a0.length:Int)<=60) then (bif ((a0.length:Int) == 0) then some true else (sb (a0.length:Int) 1).bind fun U=>(ix a0 U).bind fun Y=>some (Y != 0)) else some false)
def iv (N:Nat):Nat->yQ->yQ->yQ->Int->Int->Option (yQ×Int×Int)
 | 0,_,_,_,_,_=>none
 | k+1,Y,MQ,Z,J,U=>(bif decide (U<(Y.length:Int)) then (ix Y U).bind fun MS=>(ad J MS).bind fun MR=>(rm MR 10).bind fun MT=>(apd 8 Z [MT]).bind fun MU=>(qt MR 10).bind fun MV=>(ad U 1).bind fun MW=>iv N k Y MQ MU MV MW else (bif decide (0<J) then (rm J 10).bind fun MX=>(apd 8 Z [MX]).bind fun MY=>(qt J 10).bind fun MZ=>(ad U 1).bind fun M1=>iv N k Y MQ MY MZ M1 else some (Z,J,U)))
def kc (N:Nat):Nat->yQ->yQ->Option yQ
 | 0,_,_=>none
 | k+1,U,J=>(bif decide (0<(J.length:Int)) then (sb (J.length:Int) 1).bind fun Y=>(ix J Y).bind fun Z=>(bif (Z == 0) then (sb (J.length:Int) 1).bind fun MQ=>(slc J 0 MQ).bind fun MR=>kc N k U MR else some J) else some J)
def lk (N:Nat) (a0:yQ):Option (yQ×Bool):=(iv N N a0 [] [] 0 0).bind fun U=>lpB U fun (Y,MQ,MR)=>(kc N N [] Y).bind fun Z=>lpB Z fun J=>(bif decide (60<(J.length:Int)) then some ([],false) else some (J,true))
def f5 (N:Nat):Nat->yQ->yQ->yQ->yQ->Int->Int->Option (yQ×Int)
 | 0,_,_,_,_,_,_=>none
 | k+1,MQ,Z,MS,U,Y,J=>(bif decide (J<(Z.length:Int)) then (ad Y J).bind fun MR=>(ad Y J).bind fun MT=>(ix U MT).bind fun MU=>(ix MQ Y).bind fun MV=>(ix Z J).bind fun MW=>(ml MV MW).bind fun MX=>(ad MU MX).bind fun MY=>(ix U MR).bind fun M2=>(sto U MR MY).bind fun MZ=>(ad J 1).bind fun M1=>f5 N k MQ Z MS MZ Y M1 else some (U,J))
def f7 (N:Nat):Nat->yQ->yQ->yQ->yQ->Int->Option (yQ×Int)
 | 0,_,_,_,_,_=>none
 | k+1,U,Y,Z,MQ,J=>(bif decide (J<(U.length:Int)) then (f5 N N U Y Z MQ J 0).bind fun MR=>lpB MR fun (MS,MU)=>(ad J 1).bind fun MT=>f7 N k U Y Z MS MT else some (MQ,J))
def iO (N:Nat) (a0 a1:yQ):Option (yQ×Bool):=(gq N a0).bind fun U=>(bif U then (gq N a1).bind fun Y=>(bif Y then (ad (a0.length:Int) (a1.length:Int)).bind fun Z=>(mk 8 (0:Int) Z).bind fun MQ=>(f7 N N a0 a1 [] MQ 0).bind fun MR=>lpB MR fun (MS,MT)=>(lk N MS).bind fun J=>some (J.1,J.2) else some ([],false)) else some ([],false))
def g9 (N:Nat):Nat->Int->yQ->yQ->Option (Int×yQ)
 | 0,_,_,_=>none
 | k+1,J,Y,U=>(bif decide (0<J) then (rm J 10).bind fun Z=>(apd 8 U [Z]).bind fun MQ=>(qt J 10).bind fun MR=>g9 N k MR Y MQ else some (J,U))
def fT (N:Nat) (a0:Int):Option yQ:=(g9 N N a0 [] []).bind fun J=>lpB J fun (Y,U)=>some U
def dR (N:Nat):Nat->Int->Int->yQ->yQ->Int->Option (Sum (yQ×Bool) (yQ×Int))
 | 0,_,_,_,_,_=>none
 | k+1,U,Y,MR,Z,J=>(bif decide (J<Y) then (fT N U).bind fun MS=>(iO N Z MS).bind fun MQ=>(bif MQ.2 then (ad J 1).bind fun MT=>dR N k U Y MR MQ.1 MT else some (.inl ([],false))) else some (.inr (Z,J)))
def ib (N:Nat) (a0 a1:Int):Option (yQ×Bool):=(bif decide (a0<0) then some ([],false) else (dO N a1 0 100).bind fun J=>(bif J then (fT N 1).bind fun U=>(dR N N a0 a1 [] U 0).bind fun Y=>lpS Y (fun q=>some q) fun (Z,MQ)=>some (Z,true) else some ([],false)))
def bG (N:Nat):Nat->yQ->yQ->yQ->yQ->Int->Option (Sum (yQ×Bool) (yQ×Int))
 | 0,_,_,_,_,_=>none
 | k+1,U,Y,MS,Z,J=>(bif decide (J<(U.length:Int)) then (ix U J).bind fun MT=>(ix Y J).bind fun MU=>(ib N MT MU).bind fun MQ=>(iO N Z MQ.1).bind fun MR=>(bif MQ.2 then (bif MR.2 then (ad J 1).bind fun MV=>bG N k U Y MS MR.1 MV else some (.inl ([],false))) else some (.inl ([],false))) else some (.inr (Z,J)))
def eY (N:Nat) (a0 a1:yQ):Option (yQ×Bool):=(bif ((a0.length:Int) != (a1.length:Int)) then some ([],false) else (fT N 1).bind fun J=>(bG N N a0 a1 [] J 0).bind fun U=>lpS U (fun q=>some q) fun (Y,Z)=>some (Y,true))
def gE (N:Nat):Nat->yQ->yQ->Int->Option (Sum Int Int)
 | 0,_,_,_=>none
 | k+1,U,Y,J=>(bif decide (0<=J) then (ix U J).bind fun Z=>(ix Y J).bind fun MQ=>(bif decide (Z<MQ) then some (.inl (-1)) else (ix U J).bind fun MR=>(ix Y J).bind fun MS=>(bif decide (MS<MR) then some (.inl 1) else (sb J 1).bind fun MT=>gE N k U Y MT)) else some (.inr J))
def gN (N:Nat) (a0 a1:yQ):Option Int:=(gq N a0).bind fun J=>(bif J then (gq N a1).bind fun U=>(bif U then (bif ((a0.length:Int) != (a1.length:Int)) then (bif decide ((a0.length:Int)<(a1.length:Int)) then some (-1) else some 1) else (sb (a0.length:Int) 1).bind fun Y=>(gE N N a0 a1 Y).bind fun Z=>lpS Z (fun q=>some q) fun MQ=>some 0) else some 0) else some 0)
def fm (N:Nat):Nat->yQ->yQ->Int->yQ->Int->Int->Option (yQ×yQ×Int)
 | 0,_,_,_,_,_,_=>none
 | k+1,MR,U,Z,Y,MQ,J=>(bif decide (J<(U.length:Int)) then (ix U J).bind fun MS=>(ml MS MQ).bind fun MT=>(ix U J).bind fun MZ=>(sto U J MT).bind fun MU=>(ix Y J).bind fun MV=>(ml MV Z).bind fun MW=>(ix Y J).bind fun M1=>(sto Y J MW).bind fun MX=>(ad J 1).bind fun MY=>fm N k MR MU Z MX MQ MY else some (U,Y,J))
def iQ (N:Nat) (a0:yQ) (a1 a2:T3_):Option (Int×Bool):=(dv N a1).bind fun J=>(dv N a2).bind fun U=>(bif (J.2 == 0) then some (0,false) else (bif (U.2 == 0) then some (0,false) else (bif ((J.1.length:Int) != (a0.length:Int)) then some (0,false) else (bif ((U.1.length:Int) != (a0.length:Int)) then some (0,false) else (fm N N a0 J.1 J.2 U.1 U.2 0).bind fun MQ=>lpB MQ fun (MR,MS,MU)=>(eY N a0 MR).bind fun Y=>(eY N a0 MS).bind fun Z=>(bif Y.2 then (bif Z.2 then (gN N Y.1 Z.1).bind fun MT=>some (MT,true) else some (0,false)) else some (0,false))))))
def ik (N:Nat):Nat->yQ->T6_->T3_->T3_->Int->Option (Sum (T3_×Bool) Int)
 | 0,_,_,_,_,_=>none
 | k+1,U,Y,Z,MQ,J=>(bif decide (J<(U.length:Int)) then (ix U J).bind fun MR=>(dO N MR 0 16).bind fun MS=>(bif MS then (ad J 1).bind fun MT=>ik N k U Y Z MQ MT else some (.inl ([],false))) else some (.inr J))
def gI (N:Nat):Nat->yQ->T6_->T3_->Int->Option (T3_×Int)
 | 0,_,_,_,_=>none
 | k+1,Y,U,Z,J=>(bif decide (J<(U.length:Int)) then (ix U J).bind fun MQ=>(iQ N Y MQ Z).bind fun MR=>(bif decide (MR.1<0) then (ix U J).bind fun MS=>(ad J 1).bind fun MT=>gI N k Y U MS MT else (ad J 1).bind fun MU=>gI N k Y U Z MU) else some (Z,J))
def kY (N:Nat) (a0:Int) (a1:List (ByteArray×yQ)) (a2 a3:yQ):Option (T3_×Bool):=(ji N a0 a1 a2).bind fun J=>(bif J.2 then (bif ((a3.length:Int) != (a1.length:Int)) then some ([],false) else (ik N N a3 J.1.1 J.1.2.1 J.1.2.2 0).bind fun Y=>lpS Y (fun q=>some q) fun MS=>(g7 N J.1.1 J.1.2.1 J.1.2.2).bind fun U=>(ix U 0).bind fun Z=>(gI N N a3 U Z 1).bind fun MQ=>lpB MQ fun (MR,MT)=>some (MR,true)) else some ([],false))
def ja (N:Nat):Nat->T3_->Int->Option (Sum Bool Int)
 | 0,_,_=>none
 | k+1,U,J=>(bif decide (J<(U.length:Int)) then (ix U J).bind fun Y=>(bif decide (Y.1<0) then some (.inl false) else (ad J 1).bind fun Z=>ja N k U Z) else some (.inr J))
def nJ (N:Nat) (a0:T3_):Option Bool:=(ja N N a0 0).bind fun J=>lpS J (fun q=>some q) fun U=>some true
def gh (N:Nat):Nat->Int->T6_->T3_->T3_->Int->Int->T3_->Int->Int->T6_->Bool->Int->Option (T3_×Int×Int×Bool×Int)
 | 0,_,_,_,_,_,_,_,_,_,_,_,_=>none
 | k+1,Z,MR,MS,MQ,MT,MU,MY,MV,MW,U,MX,J=>(bif decide (J<(U.length:Int)) then (ix U J).bind fun MZ=>(gi N MQ MZ).bind fun Y=>(bif Y.2 then (bif MX then (hH N Y.1.1 Y.1.2 MV MW).bind fun M1=>(ml M1 Z).bind fun M2=>(bif decide (M2<0) then (ix U J).bind fun M3=>(ad J 1).bind fun M4=>gh N k Z MR MS MQ MT MU M3 Y.1.1 Y.1.2 U true M4 else (ad J 1).bind fun M5=>gh N k Z MR MS MQ MT MU MY MV MW U MX M5) else (ix U J).bind fun M6=>(ad J 1).bind fun M7=>gh N k Z MR MS MQ MT MU M6 Y.1.1 Y.1.2 U true M7) else (ad J 1).bind fun M8=>gh N k Z MR MS MQ MT MU MY MV MW U MX M8) else some (MY,MV,MW,MX,J))
def pz (N:Nat) (a0:T6_) (a1 a2:T3_) (a3:Int):Option (T3_×T1_×Bool):=(jE N a0 a1 a2 a3).bind fun J=>(gh N N a3 a0 a1 a2 0 0 [] 0 0 J false 0).bind fun U=>lpB U fun (Y,Z,MQ,MR,MS)=>some (Y,(Z,MQ),MR)
def oW (N:Nat) (a0:T6_) (a1 a2:T3_):Option (T3_×T1_×Bool):=(eK N a0 a1 a2).bind fun U=>(bif U then (nJ N a2).bind fun Y=>(bif Y then (pz N a0 a1 a2 1).bind fun J=>some (J.1,(J.2.1.1,J.2.1.2),J.2.2) else some ([],(0,0),false)) else some ([],(0,0),false))
def kD (N:Nat) (a0:Int) (a1:List (ByteArray×yQ)) (a2:yQ):Option (T3_×T1_×Bool):=(ji N a0 a1 a2).bind fun J=>(bif J.2 then (oW N J.1.1 J.1.2.1 J.1.2.2).bind fun U=>some (U.1,(U.2.1.1,U.2.1.2),U.2.2) else some ([],(0,0),false))
def jJ (N:Nat):Nat->Int->Int->Option T1_
 | 0,_,_=>none
 | k+1,U,J=>(bif (J != 0) then (rm U J).bind fun Y=>jJ N k J Y else some (U,J))
def me (N:Nat) (a0 a1:Int):Option Int:=(jJ N N a0 a1).bind fun J=>lpB J fun (U,Y)=>some U
def sH (N:Nat) (a0:Int):Option Int:=(sb 0 a0).bind fun J=>some (imx a0 J)
def dr (N:Nat) (a0 a1:Int):Option Bool:=(fc N a1 1 1000000000).bind fun J=>(bif J then (fc N a0 (-1000000000) 1000000000).bind fun U=>(bif U then (sH N a0).bind fun Y=>(me N Y a1).bind fun Z=>some (Z == 1) else some false) else some false)
def fM (N:Nat):Nat->T3_->Int->T3_->Int->Int->Option (Sum (yQ×Int) Int)
 | 0,_,_,_,_,_=>none
 | k+1,MQ,MR,Y,Z,J=>(bif decide (J<Z) then (ix Y J).bind fun U=>(dr N U.1 U.2).bind fun MS=>(bif MS then (bif decide (U.1<0) then some (.inl ([],0)) else (ad J 1).bind fun MT=>fM N k MQ MR Y Z MT) else some (.inl ([],0))) else some (.inr J))
def fL (N:Nat):Nat->T3_->Int->T3_->Int->Int->Option (Sum (yQ×Int) T1_)
 | 0,_,_,_,_,_=>none
 | k+1,MS,U,Y,Z,J=>(bif decide (J<Z) then (ix Y J).bind fun MQ=>(me N U MQ.2).bind fun MT=>(qt U MT).bind fun MU=>(ml MU MQ.2).bind fun MR=>(bif decide (1000<MR) then some (.inl ([],0)) else (ad J 1).bind fun MV=>fL N k MS MR Y Z MV) else some (.inr (U,J)))
def dJ (N:Nat):Nat->Int->yQ->T3_->Int->Int->Option (yQ×Int)
 | 0,_,_,_,_,_=>none
 | k+1,U,Y,Z,MQ,J=>(bif decide (J<MQ) then (ix Z J).bind fun MR=>(qt U MR.2).bind fun MS=>(ml MR.1 MS).bind fun MT=>(apd 8 Y [MT]).bind fun MU=>(ad J 1).bind fun MV=>dJ N k U MU Z MQ MV else some (Y,J))
def jh (N:Nat) (a0:T3_):Option (yQ×Int):=(fM N N a0 1 a0 (a0.length:Int) 0).bind fun U=>lpS U (fun q=>some q) fun MR=>(fL N N a0 1 a0 (a0.length:Int) 0).bind fun Y=>lpS Y (fun q=>some q) fun (J,MS)=>(dJ N N J [] a0 (a0.length:Int) 0).bind fun Z=>lpB Z fun (MQ,MT)=>some (MQ,J)
def fw (N:Nat):Nat->yQ->Int->yQ->Int->Int->Option (Sum Bool Int)
 | 0,_,_,_,_,_=>none
 | k+1,Z,MQ,U,Y,J=>(bif decide (J<Y) then (ix U J).bind fun MR=>(fc N MR 0 9).bind fun MS=>(bif MS then (ad J 1).bind fun MT=>fw N k Z MQ U Y MT else some (.inl false)) else some (.inr J))
def gm (N:Nat) (a0:yQ):Option Bool:=(fw N N a0 (a0.length:Int) a0 (a0.length:Int) 0).bind fun J=>lpS J (fun q=>some q) fun Z=>(bif decide ((a0.length:Int)<=60) then (bif ((a0.length:Int) == 0) then some true else (sb (a0.length:Int) 1).bind fun U=>(ix a0 U).bind fun Y=>some (Y != 0)) else some false)
def cp (N:Nat):Nat->yQ->yQ->yQ->Int->Int->Option (yQ×Int×Int)
 | 0,_,_,_,_,_=>none
 | k+1,Y,MQ,Z,J,U=>(bif decide (U<(Y.length:Int)) then (ix Y U).bind fun MS=>(ad J MS).bind fun MR=>(rm MR 10).bind fun MT=>(apd 8 Z [MT]).bind fun MU=>(qt MR 10).bind fun MV=>(ad U 1).bind fun MW=>cp N k Y MQ MU MV MW else (bif decide (0<J) then (rm J 10).bind fun MX=>(apd 8 Z [MX]).bind fun MY=>(qt J 10).bind fun MZ=>(ad U 1).bind fun M1=>cp N k Y MQ MY MZ M1 else some (Z,J,U)))
def km (N:Nat):Nat->yQ->yQ->Int->Option Int
 | 0,_,_,_=>none
 | k+1,Y,U,J=>(bif decide (0<J) then (sb J 1).bind fun Z=>(ix U Z).bind fun MQ=>(bif (MQ == 0) then (sb J 1).bind fun MR=>km N k Y U MR else some J) else some J)
def iH (N:Nat) (a0:yQ):Option (yQ×Bool):=(cp N N a0 [] [] 0 0).bind fun Y=>lpB Y fun (J,MR,MS)=>(km N N [] J (J.length:Int)).bind fun Z=>lpB Z fun U=>(slc J 0 U).bind fun MQ=>(bif decide (60<U) then some ([],false) else some (MQ,true))
def dA (N:Nat):Nat->yQ->yQ->yQ->Int->Int->yQ->Int->Int->yQ->Int->Int->Option (yQ×Int)
 | 0,_,_,_,_,_,_,_,_,_,_,_=>none
 | k+1,MT,MU,U,Z,MQ,MV,MW,MX,MR,MS,J=>(bif decide (J<MS) then (ix MR J).bind fun MY=>(ad Z J).bind fun Y=>(ix U Y).bind fun MZ=>(ml MQ MY).bind fun M1=>(ad MZ M1).bind fun M2=>(ix U Y).bind fun M5=>(sto U Y M2).bind fun M3=>(ad J 1).bind fun M4=>dA N k MT MU M3 Z MQ MV MW MX MR MS M4 else some (U,J))
def dy (N:Nat):Nat->yQ->yQ->yQ->yQ->Int->Int->Option (yQ×Int)
 | 0,_,_,_,_,_,_=>none
 | k+1,U,MQ,MR,Y,Z,J=>(bif decide (J<Z) then (ix Y J).bind fun MS=>(dA N N U MQ MR J MS Y Z J U (U.length:Int) 0).bind fun MT=>lpB MT fun (MU,MW)=>(ad J 1).bind fun MV=>dy N k U MQ MU Y Z MV else some (MR,J))
def ic (N:Nat) (a0 a1:yQ):Option (yQ×Bool):=(gm N a0).bind fun U=>(bif U then (gm N a1).bind fun Y=>(bif Y then (ad (a0.length:Int) (a1.length:Int)).bind fun Z=>(mk 8 (0:Int) Z).bind fun MQ=>(dy N N a1 [] MQ a0 (a0.length:Int) 0).bind fun MR=>lpB MR fun (MS,MT)=>(iH N MS).bind fun J=>some (J.1,J.2) else some ([],false)) else some ([],false))
def cS (N:Nat):Nat->Int->yQ->yQ->Option (Int×yQ)
 | 0,_,_,_=>none
 | k+1,J,Y,U=>(bif decide (0<J) then (rm J 10).bind fun Z=>(apd 8 U [Z]).bind fun MQ=>(qt J 10).bind fun MR=>cS N k MR Y MQ else some (J,U))
def d9 (N:Nat) (a0:Int):Option yQ:=(cS N N a0 [] []).bind fun J=>lpB J fun (Y,U)=>some U
def cm (N:Nat):Nat->Int->Int->yQ->yQ->Int->Option (Sum (yQ×Bool) (yQ×Int))
 | 0,_,_,_,_,_=>none
 | k+1,U,Y,MR,Z,J=>(bif decide (J<Y) then (d9 N U).bind fun MS=>(ic N Z MS).bind fun MQ=>(bif MQ.2 then (ad J 1).bind fun MT=>cm N k U Y MR MQ.1 MT else some (.inl ([],false))) else some (.inr (Z,J)))
def ig (N:Nat) (a0 a1:Int):Option (yQ×Bool):=(bif decide (a0<0) then some ([],false) else (fc N a1 0 100).bind fun J=>(bif J then (d9 N 1).bind fun U=>(cm N N a0 a1 [] U 0).bind fun Y=>lpS Y (fun q=>some q) fun (Z,MQ)=>some (Z,true) else some ([],false)))
def b9 (N:Nat):Nat->yQ->yQ->yQ->yQ->Int->Int->Option (Sum (yQ×Bool) (yQ×Int))
 | 0,_,_,_,_,_,_=>none
 | k+1,U,Y,MT,Z,MQ,J=>(bif decide (J<MQ) then (ix U J).bind fun MU=>(ix Y J).bind fun MV=>(ig N MU MV).bind fun MR=>(ic N Z MR.1).bind fun MS=>(bif MR.2 then (bif MS.2 then (ad J 1).bind fun MW=>b9 N k U Y MT MS.1 MQ MW else some (.inl ([],false))) else some (.inl ([],false))) else some (.inr (Z,J)))
def jf (N:Nat) (a0 a1:yQ):Option (yQ×Bool):=(bif ((a0.length:Int) != (a1.length:Int)) then some ([],false) else (d9 N 1).bind fun J=>(b9 N N a0 a1 [] J (a0.length:Int) 0).bind fun U=>lpS U (fun q=>some q) fun (Y,Z)=>some (Y,true))
def dl (N:Nat):Nat->yQ->yQ->Int->Option (Sum Int Int)
 | 0,_,_,_=>none
 | k+1,U,Y,J=>(bif decide (0<=J) then (ix U J).bind fun Z=>(ix Y J).bind fun MQ=>(bif (Z != MQ) then (ix U J).bind fun MR=>(ix Y J).bind fun MS=>(gw N MR MS).bind fun MT=>some (.inl MT) else (sb J 1).bind fun MU=>dl N k U Y MU) else some (.inr J))
def gL (N:Nat) (a0 a1:yQ):Option Int:=(gm N a0).bind fun J=>(bif J then (gm N a1).bind fun U=>(bif U then (bif ((a0.length:Int) != (a1.length:Int)) then (gw N (a0.length:Int) (a1.length:Int)).bind fun Y=>some Y else (sb (a0.length:Int) 1).bind fun Z=>(dl N N a0 a1 Z).bind fun MQ=>lpS MQ (fun q=>some q) fun MR=>some 0) else some 0) else some 0)
def eT (N:Nat):Nat->yQ->Int->Int->yQ->Int->yQ->Int->Int->Option (Sum Bool Int)
 | 0,_,_,_,_,_,_,_,_=>none
 | k+1,Z,MQ,MR,MS,MT,U,Y,J=>(bif decide (J<Y) then (ix U J).bind fun MU=>(bif decide (MU<0) then some (.inl false) else (ad J 1).bind fun MV=>eT N k Z MQ MR MS MT U Y MV) else some (.inr J))
def kH (N:Nat) (a0:yQ) (a1:T3_) (a2 a3:Int):Option Bool:=(jh N a1).bind fun J=>(bif decide (a2<0) then some false else (bif decide (J.2<1) then some false else (bif decide (100<J.2) then some false else (eT N N a0 a2 a3 J.1 J.2 a0 (a0.length:Int) 0).bind fun MR=>lpS MR (fun q=>some q) fun MT=>(ig N a2 J.2).bind fun U=>(jf N a0 J.1).bind fun Y=>(ig N a3 J.2).bind fun Z=>(ic N Y.1 Z.1).bind fun MQ=>(bif U.2 then (bif Y.2 then (bif Z.2 then (bif MQ.2 then (gL N U.1 MQ.1).bind fun MS=>some (decide (MS<=0)) else some false) else some false) else some false) else some false))))
def mC (N:Nat) (a0:Int) (a1:List (ByteArray×yQ)) (a2:yQ) (a3:Int):Option Int:=(gH N a0 a1 a2).bind fun J=>(bif J then (fc N a3 0 1000000).bind fun U=>(bif U then (ml 2 a0).bind fun Y=>(ml Y (a1.length:Int)).bind fun Z=>(ml Z a3).bind fun MQ=>some MQ else some 0) else some 0)
def gF (N:Nat) (a0:Int) (a1:List (ByteArray×yQ)) (a2 a3:yQ) (a4:T3_) (a5:Int):Option Bool:=(gH N a0 a1 a2).bind fun J=>(bif J then (mC N a0 a1 a2 1).bind fun U=>(kH N a3 a4 a5 U).bind fun Y=>some Y else some false)
def jG (N:Nat) (a0:Int) (a1:List (ByteArray×yQ)) (a2:yQ) (a3:Int):Option Int:=(eI N a0 a1 a2).bind fun J=>(bif J then (dO N a3 0 1000000).bind fun U=>(bif U then (ml 2 a0).bind fun Y=>(ml Y (a1.length:Int)).bind fun Z=>(ml Z a3).bind fun MQ=>some MQ else some 0) else some 0)
def dS (N:Nat) (a0:Int) (a1:List (ByteArray×yQ)) (a2 a3:yQ) (a4:T3_) (a5:Int):Option Bool:=(dv N a4).bind fun J=>(eY N a3 J.1).bind fun U=>(ib N a5 J.2).bind fun Y=>(jG N a0 a1 a2 1).bind fun MR=>(ib N MR J.2).bind fun Z=>(iO N U.1 Z.1).bind fun MQ=>(bif decide (0<J.2) then (bif U.2 then (bif Y.2 then (bif Z.2 then (bif MQ.2 then (eI N a0 a1 a2).bind fun MS=>(bif MS then (gN N Y.1 MQ.1).bind fun MT=>some (decide (MT<=0)) else some false) else some false) else some false) else some false) else some false) else some false)
def mY (N:Nat) (a0:yQ):Option Bool:=(vn N a0).bind fun MQ=>(bif MQ then some true else (js N a0).bind fun J=>(j8 N J.1 J.2.1.1 J.2.1.2.1 J.2.1.2.2 J.2.2).bind fun U=>(px N J.1 J.2.1.1 J.2.1.2.1 J.2.1.2.2 J.2.2).bind fun MR=>(bif MR then (kx N J.1 J.2.1.1 J.2.1.2.1 J.2.1.2.2 J.2.2).bind fun Y=>(mB N J.1 J.2.1.1 J.2.1.2.1 J.2.1.2.2).bind fun Z=>(kY N J.2.1.1 J.2.1.2.1 J.2.1.2.2 Z.1).bind fun MS=>(kD N J.2.1.1 J.2.1.2.1 J.2.1.2.2).bind fun MT=>(bif U.2 then (bif ((U.1.length:Int) == (J.2.1.2.1.length:Int)) then (bif Y.2.2 then (gF N J.2.1.1 J.2.1.2.1 J.2.1.2.2 Z.1 MS.1 Y.2.1).bind fun MU=>(bif MU then (dS N J.2.1.1 J.2.1.2.1 J.2.1.2.2 Z.1 MT.1 Y.2.1).bind fun MV=>some MV else some false) else some false) else some false) else some false) else (bif U.2 then some false else some ((U.1.length:Int) == 0))))
def inR (n lo hi:Int):Bool:=decide (lo<=n)&&decide (n<=hi)
theorem gK (N:Nat) (n lo hi:Int):fc N n lo hi=some (inR n lo hi):=by
 unfold fc inR;cases decide (lo<=n) <;> rfl
theorem fg (N:Nat) (n lo hi:Int):dO N n lo hi=some (inR n lo hi):=by
 unfold dO inR;cases decide (lo<=n) <;> rfl
theorem cg {n lo hi:Int}:inR n lo hi=true↔lo<=n/\n<=hi:=by unfold inR;simp
def mm (a b:Int):Int:=if a<b then -1 else if b<a then 1 else 0
def bZ:yQ->yQ->Int
 | [],[]=>0
 | [],_ :: _=>-1
 | _ :: _,[]=>1
 | a :: xs,b :: ys=>if a<b then -1 else if b<a then 1 else bZ xs ys
theorem lX:∀ {xs ys:yQ},bZ xs ys=0↔xs=ys
 | [],[]=>by simp [bZ]
 | [],_ :: _=>by simp [bZ]
 | _ :: _,[]=>by simp [bZ]
 | a :: xs,b :: ys=>by
  unfold bZ
  by_cases h1:a<b
  ·rw [aX h1];simp;omega
  ·rw [a9 h1]
   by_cases h2:b<a
   ·rw [aX h2];simp;omega
   ·rw [a9 h2,lX,List.cons.injEq]
    constructor
    ·rintro rfl;exact ⟨oa,rfl⟩
    ·exact fun h=>h.2
theorem C6 (xs:yQ):bZ xs []=if xs.length=0 then 0 else 1:=by cases xs <;> simp [bZ]
theorem Dt (xs:yQ):bZ [] xs=if xs.length=0 then 0 else -1:=by cases xs <;> simp [bZ]
theorem kV (N:Nat) (a b:Int):gw N a b=some (mm a b):=by
 unfold gw mm
 by_cases h1:a<b
 ·rw [aW h1,aX h1];rfl
 ·rw [ba h1,a9 h1]
  by_cases h2:b<a
  ·rw [aW h2,aX h2];rfl
  ·rw [ba h2,a9 h2];rfl
theorem gj {α:Type} {xs:List α} {i:Nat} (h:i<xs.length):xs.drop i=xs[i] :: xs.drop (i+1):=List.drop_eq_getElem_cons h
section
variable {N:Nat} {xs ys:yQ}
theorem HO (hx:xs.length<=1048576) (hy:ys.length<=9223372036854775807):∀ k i,i<=xs.length->i<=ys.length->xs.length-i<k ->
  ∃ s,jt N k xs ys (i:Int)=some s/\(match s with | .inl r=>bZ (xs.drop i) (ys.drop i)=r | .inr _=>bZ (xs.drop i) (ys.drop i)=mm xs.length ys.length):=by
 intro k
 induction k with
 | zero=>intro i h1 h2 h3;omega
 | succ k ih =>
  intro i h1 h2 h3
  rw [jt]
  by_cases h:i<xs.length
  ·by_cases h':i<ys.length
   ·rw [dlt h,ag,dlt h',ag,be h,bs,be h',bs,gj h,gj h',bZ]
    by_cases he:xs[i]=ys[i]
    ·rw [show (xs[i] != ys[i])=false by simpa using he,am,ad1 oa,bs,a9 oa,a9 oa]
     exact ih (i+1) oa oa oa
    ·rw [show (xs[i] != ys[i])=true by simpa using he,ag,bs,bs,kV,bs]
     refine ⟨_,rfl,?_⟩
     show _=mm xs[i] ys[i]
     unfold mm
     by_cases h1:xs[i]<ys[i]
     ·rw [aX h1,aX h1]
     ·rw [a9 h1,a9 h1,aX oa,aX oa]
   ·rw [dlt h,ag,dge h',am]
    refine ⟨_,rfl,?_⟩
    show _=mm _ _
    rw [lu (l:=ys) oa,C6,a9 (by simp;omega)]
    unfold mm;rw [a9 oa,aX oa]
  ·rw [dge h,am]
   refine ⟨_,rfl,?_⟩
   show _=mm _ _
   rw [lu (l:=xs) oa,Dt]
   unfold mm
   by_cases h':i<ys.length
   ·rw [a9 (by simp;omega),aX oa]
   ·rw [aX (by simp;omega),a9 oa,a9 oa]
theorem lE (hN:1073741824<=N) (hx:xs.length<=1048576) (hy:ys.length<=9223372036854775807):gx N xs ys=some (bZ xs ys):=by
 obtain ⟨s,h1,h2⟩:=HO (N:=N) hx hy N 0 oa oa oa
 unfold gx
 rw [show ((0:Int))=((0:Nat):Int) from rfl,h1,bs]
 simp only [gS] at h2
 cases s with
 | inl r=>rw [h2];rfl
 | inr v=>show (gw N _ _).bind _=_;rw [kV,bs,h2]
theorem Hv (hx:xs.length<=1048576) (hy:ys.length<=9223372036854775807):∀ k i,i<=xs.length->i<=ys.length->xs.length-i<k ->
  ∃ s,jr N k xs ys (i:Int)=some s/\(match s with | .inl r=>bZ (xs.drop i) (ys.drop i)=r | .inr _=>bZ (xs.drop i) (ys.drop i)=mm xs.length ys.length):=by
 intro k
 induction k with
 | zero=>intro i h1 h2 h3;omega
 | succ k ih =>
  intro i h1 h2 h3
  rw [jr]
  by_cases h:i<xs.length
  ·by_cases h':i<ys.length
   ·rw [dlt h,ag,dlt h',ag,be h,bs,be h',bs,gj h,gj h',bZ]
    by_cases he:xs[i]<ys[i]
    ·rw [aW he,ag,aX he];exact ⟨_,rfl,rfl⟩
    ·rw [ba he,am,a9 he,bs,bs]
     by_cases he2:ys[i]<xs[i]
     ·rw [aW he2,ag,aX he2];exact ⟨_,rfl,rfl⟩
     ·rw [ba he2,am,a9 he2,ad1 oa,bs]
      exact ih (i+1) oa oa oa
   ·rw [dlt h,ag,dge h',am]
    refine ⟨_,rfl,?_⟩
    show _=mm _ _
    rw [lu (l:=ys) oa,C6,a9 (by simp;omega)]
    unfold mm;rw [a9 oa,aX oa]
  ·rw [dge h,am]
   refine ⟨_,rfl,?_⟩
   show _=mm _ _
   rw [lu (l:=xs) oa,Dt]
   unfold mm
   by_cases h':i<ys.length
   ·rw [a9 (by simp;omega),aX oa]
   ·rw [aX (by simp;omega),a9 oa,a9 oa]
theorem nx (hN:1073741824<=N) (hx:xs.length<=1048576) (hy:ys.length<=9223372036854775807):cn N xs ys=some (bZ xs ys):=by
 obtain ⟨s,h1,h2⟩:=Hv (N:=N) hx hy N 0 oa oa oa
 unfold cn
 rw [show ((0:Int))=((0:Nat):Int) from rfl,h1,bs]
 simp only [gS] at h2
 cases s with
 | inl r=>rw [h2];rfl
 | inr v =>
  rw [h2]
  show (bif decide ((xs.length:Int)<(ys.length:Int)) then _ else _)=_
  unfold mm
  by_cases h1:(xs.length:Int)<ys.length
  ·rw [aW h1,aX h1];rfl
  ·rw [ba h1,a9 h1,am]
   by_cases h2:(ys.length:Int)<xs.length
   ·rw [aW h2,aX h2];rfl
   ·rw [ba h2,a9 h2];rfl
def fnd (v:Int):yQ->Int->Int
 | [],_=>-1
 | x :: xs,i=>if x=v then i else fnd v xs (i+1)
def fY (xs:yQ) (v:Int):Int:=fnd v xs 0
theorem Dw (v:Int):∀ (xs:yQ) (i:Nat),(v∉xs/\fnd v xs i=-1)\/∃ j,∃ h:j<xs.length,xs[j]=v/\fnd v xs i=((i+j:Nat):Int)/\v∉xs.take j
 | [],i=>.inl ⟨by simp,rfl⟩
 | x :: xs,i=>by
  unfold fnd
  by_cases h:x=v
  ·rw [aX h];exact .inr ⟨0,by simp,by simpa using h,by simp,by simp⟩
  ·rw [a9 h]
   rcases Dw v xs (i+1) with ⟨h1,h2⟩ | ⟨j,hj,h1,h2,h3⟩
   ·exact .inl ⟨by simp [h1,qT h],by simpa using h2⟩
   ·exact .inr ⟨j+1,by simpa using hj,by simpa using h1,by rw [show ((i:Int)+1)=((i+1:Nat):Int) by simp,h2];congr 1;omega,by simp [h3,qT h]⟩
theorem rY (xs:yQ) (v:Int):(v∉xs/\fY xs v=-1)\/∃ j,∃ h:j<xs.length,xs[j]=v/\fY xs v=(j:Int)/\v∉xs.take j:=by
 have:=Dw v xs 0
 simpa [fY] using this
theorem pN (xs:yQ) (v:Int):decide (0<=fY xs v)=decide (v∈xs):=by
 rcases rY xs v with ⟨h1,h2⟩ | ⟨j,hj,h1,h2,_⟩
 ·rw [h2,ba oa,ba h1]
 ·rw [h2,aW oa,aW (h1 ▸ bF hj)]
theorem vY (hN:1073741824<=N) (hx:xs.length<=1048576) (v:Int):li N xs v=some (fY xs v):=by
 have key:∀ k i,i<=xs.length->xs.length-i<k->∃ s,l0 N k v xs (xs.length:Int) (i:Int)=some s/\(match s with | .inl r=>fnd v (xs.drop i) i=r | .inr _=>fnd v (xs.drop i) i=-1):=by
  intro k
  induction k with
  | zero=>intro i h1 h2;omega
  | succ k ih =>
   intro i h1 h2
   rw [l0]
   by_cases h:i<xs.length
   ·rw [dlt h,ag,be h,bs,gj h,fnd]
    by_cases he:xs[i]=v
    ·rw [show (xs[i] == v)=true by simpa using he,ag,aX he];exact ⟨_,rfl,rfl⟩
    ·rw [show (xs[i] == v)=false by simpa using he,am,a9 he,ad1 oa,bs]
     have:=ih (i+1) oa oa
     simpa using this
   ·rw [dge h,am,lu oa];exact ⟨_,rfl,rfl⟩
 obtain ⟨s,h1,h2⟩:=key N 0 oa oa
 unfold li fY
 rw [show ((0:Int))=((0:Nat):Int) from rfl,h1,bs]
 simp only [gS] at h2
 cases s with
 | inl r=>rw [h2];rfl
 | inr r=>rw [h2];rfl
theorem pj (hN:1073741824<=N) (hx:xs.length<=1048576) (v:Int):jK N xs v=some (fY xs v):=by
 have key:∀ k i,i<=xs.length->xs.length-i<k->∃ s,mO N k xs v (i:Int)=some s/\(match s with | .inl r=>fnd v (xs.drop i) i=r | .inr _=>fnd v (xs.drop i) i=-1):=by
  intro k
  induction k with
  | zero=>intro i h1 h2;omega
  | succ k ih =>
   intro i h1 h2
   rw [mO]
   by_cases h:i<xs.length
   ·rw [dlt h,ag,be h,bs,gj h,fnd]
    by_cases he:xs[i]=v
    ·rw [show (xs[i] == v)=true by simpa using he,ag,aX he];exact ⟨_,rfl,rfl⟩
    ·rw [show (xs[i] == v)=false by simpa using he,am,a9 he,ad1 oa,bs]
     have:=ih (i+1) oa oa
     simpa using this
   ·rw [dge h,am,lu oa];exact ⟨_,rfl,rfl⟩
 obtain ⟨s,h1,h2⟩:=key N 0 oa oa
 unfold jK fY
 rw [show ((0:Int))=((0:Nat):Int) from rfl,h1,bs]
 simp only [gS] at h2
 cases s with
 | inl r=>rw [h2];rfl
 | inr r=>rw [h2];rfl
theorem wV (hN:1073741824<=N) (hx:xs.length<=1048576) (v:Int):mg N xs v=some (decide (v∈xs)):=by
 unfold mg;rw [vY hN hx,bs,pN]
def cV (xs:yQ):Bool:=xs.all fun x=>inR x 0 99
theorem oL (hN:1073741824<=N) (hx:xs.length<=1048576):iA N xs=some (cV xs):=by
 have:=mw (L:=fun k i=>e8 N k xs (xs.length:Int) i) xs.length oa false (fun i=>if h:i<xs.length then inR xs[i] 0 99 else true) (xs.length:Int)
  (fun k i h=>by
   show e8 N (k+1) xs _ (i:Int)=_
   rw [e8,dlt h,ag,be h,bs,gK,bs,ad1 oa,bs]
   simp only [jg h])
  (fun k=>by
   show e8 N (k+1) xs _ (xs.length:Int)=_
   rw [e8,dge oa,am]) N 0 oa oa
 unfold iA cV
 rw [show ((0:Int))=((0:Nat):Int) from rfl,this,bs,iP,mb xs (fun x=>inR x 0 99) _ (fun i hi=>by rw [jg hi])]
 cases xs.all fun x=>inR x 0 99 <;> rfl
theorem oR (hN:1073741824<=N) (hx:xs.length<=1048576):iF N xs=some (cV xs):=by
 have:=mw (L:=fun k i=>e7 N k xs i) xs.length oa false (fun i=>if h:i<xs.length then inR xs[i] 0 99 else true) (xs.length:Int)
  (fun k i h=>by
   show e7 N (k+1) xs (i:Int)=_
   rw [e7,dlt h,ag,be h,bs,fg,bs,ad1 oa,bs]
   simp only [jg h])
  (fun k=>by
   show e7 N (k+1) xs (xs.length:Int)=_
   rw [e7,dge oa,am]) N 0 oa oa
 unfold iF cV
 rw [show ((0:Int))=((0:Nat):Int) from rfl,this,bs,iP,mb xs (fun x=>inR x 0 99) _ (fun i hi=>by rw [jg hi])]
 cases xs.all fun x=>inR x 0 99 <;> rfl
def asc:yQ->Bool
 | []=>true
 | [_]=>true
 | x :: y :: t=>decide (x<y)&&asc (y :: t)
theorem Mu {L:Nat->Int->Option (Sum Bool Int)} (hx:xs.length<=1048576)
  (hs:∀ k i (h:i+1<xs.length),L (k+1) ((i+1:Nat):Int)=bif decide (xs[i+1]<=xs[i]) then some (.inl false) else L k ((i+2:Nat):Int)) (he:∀ k i,xs.length<=i->L (k+1) (i:Int)=some (.inr (i:Int))) :
  ∀ k i,xs.length-i<k->L k ((i+1:Nat):Int)=some (if asc (xs.drop i) then .inr ((max xs.length (i+1):Nat):Int) else .inl false):=by
 intro k
 induction k with
 | zero=>intro i hk;omega
 | succ k ih =>
  intro i hk
  by_cases h:i+1<xs.length
  ·rw [hs k i h,gj (by omega:i<xs.length),gj h,asc]
   by_cases hle:xs[i+1]<=xs[i]
   ·rw [aW hle,ag,ba oa];rfl
   ·rw [ba hle,am,aW (by omega:xs[i]<xs[i+1]),cW,<- gj h]
    have:=ih (i+1) oa
    rw [this]
    congr 2
    rw [Nat.max_eq_left oa,Nat.max_eq_left oa]
  ·rw [he k (i+1) oa]
   have ha:asc (xs.drop i)=true:=by
    by_cases h2:i<xs.length
    ·rw [gj h2,lu oa];rfl
    ·rw [lu oa];rfl
   rw [ha,aX rfl,Nat.max_eq_right oa]
theorem qZ (hN:1073741824<=N) (hx:xs.length<=1048576):hU N xs=some (asc xs):=by
 have:=Mu (L:=fun k i=>dk N k xs i) hx
  (fun k i h=>by
   show dk N (k+1) xs ((i+1:Nat):Int)=_
   rw [dk,dlt h,ag,eu oa oa,bs,show (((i+1:Nat):Int)-1)=(i:Int) by omega,be oa,bs,be h,bs,ad1 oa,bs])
  (fun k i h=>by
   show dk N (k+1) xs (i:Int)=_
   rw [dk,dge oa,am]) N 0 oa
 unfold hU
 rw [show ((1:Int))=((0+1:Nat):Int) from rfl,this,bs,gS]
 cases asc xs <;> rfl
def jx (xs:yQ) (n:Int):Bool:=(List.range' 0 xs.length).all fun i=>inR (xs.getD i 0) 0 (n-1)&&!decide (xs.getD i 0∈xs.take i)
theorem bP {xs:yQ} {i:Nat} (h:i<xs.length):xs.getD i 0=xs[i]:=by simp [h]
theorem vi (hN:1073741824<=N) (hx:xs.length<=1048576) {n:Int} (hn:-1099511627776<=n/\n<=1099511627776):lC N xs n=some (jx xs n):=by
 have:=mw (L:=fun k i=>iq N k xs n xs (xs.length:Int) i) xs.length oa false (fun i=>inR (xs.getD i 0) 0 (n-1)&&!decide (xs.getD i 0∈xs.take i)) (xs.length:Int)
  (fun k i h=>by
   show iq N (k+1) xs n xs _ (i:Int)=_
   rw [iq,dlt h,ag,be h,bs,eu oa oa,bs,gK,bs,show ((0:Int))=((0:Nat):Int) from rfl,lc (cE _) oa,bs,gS,wV hN (by simp;omega),bs,ad1 oa,bs]
   simp only [show ((0:Nat):Int)=0 from rfl,bP h]
   cases inR xs[i] 0 (n-1)
   ·rfl
   ·cases decide (xs[i]∈xs.take i) <;> rfl)
  (fun k=>by
   show iq N (k+1) xs n xs _ (xs.length:Int)=_
   rw [iq,dge oa,am]) N 0 oa oa
 unfold lC jx
 rw [show ((0:Int))=((0:Nat):Int) from rfl,this,bs,iP]
 simp only [show ((0:Nat):Int)=0 from rfl]
 cases (List.range' 0 xs.length).all fun i=>inR (xs.getD i 0) 0 (n-1)&&!decide (xs.getD i 0∈xs.take i) <;> rfl
def mA (xs:yQ):Bool:=decide ((xs.length:Int)<=5)&&jx xs xs.length
theorem uo (hN:1073741824<=N) (hx:xs.length<=1048576):jQ N xs=some (mA xs):=by
 unfold jQ mA
 rw [vi hN hx oa,bs]
 cases decide ((xs.length:Int)<=5) <;> rfl
theorem ud (hN:1073741824<=N) (hx:xs.length<=1048576):jR N xs=some (mA xs):=by
 have:=mw (L:=fun k i=>fv N k xs i) xs.length oa false (fun i=>inR (xs.getD i 0) 0 ((xs.length:Int)-1)&&!decide (xs.getD i 0∈xs.take i)) (xs.length:Int)
  (fun k i h=>by
   show fv N (k+1) xs (i:Int)=_
   rw [fv,dlt h,ag,be h,bs,eu oa oa,bs,fg,bs,show ((0:Int))=((0:Nat):Int) from rfl,lc (cE _) oa,bs,bs,gS,pj hN (by simp;omega),bs,ad1 oa,bs]
   simp only [bP h,pN,show ((0:Nat):Int)=0 from rfl]
   cases inR xs[i] 0 ((xs.length:Int)-1)
   ·rfl
   ·cases decide (xs[i]∈xs.take i) <;> rfl)
  (fun k=>by
   show fv N (k+1) xs (xs.length:Int)=_
   rw [fv,dge oa,am]) N 0 oa oa
 unfold jR mA jx
 rw [show ((0:Int))=((0:Nat):Int) from rfl,this,bs,iP]
 simp only [show ((0:Nat):Int)=0 from rfl]
 cases (List.range' 0 xs.length).all fun i=>inR (xs.getD i 0) 0 ((xs.length:Int)-1)&&!decide (xs.getD i 0∈xs.take i)
 ·cases decide ((xs.length:Int)<=5) <;> rfl
 ·cases decide ((xs.length:Int)<=5) <;> rfl
end
abbrev okI (xs:yQ):Prop:=td (fun _=>True) 1048576 xs
abbrev iX (xs:List (yQ)):Prop:=td (td (fun _=>True) 1048576) 1048576 xs
section
variable {N:Nat}
theorem HQ (xs ys:yQ):(bZ xs ys != 0)=!decide (xs=ys):=by
 rw [Hu];congr 1;rw [decide_eq_decide];exact lX
theorem H0 (xs ys:yQ):(bZ xs ys == 0)=decide (xs=ys):=by
 rw [Fj,decide_eq_decide];exact lX
end
def rV (n:Int) (rows:List (yQ)) (i:Nat):Bool :=
 decide (((rows.getD i []).length:Int)=n)&&cV (rows.getD i [])&&(Nat.beq i 0||decide (bZ (rows.getD (i-1) []) (rows.getD i [])<0))
def bO (n:Int) (rows:List (yQ)):Bool:=inR n 0 5&&decide ((rows.length:Int)<=4000)&&(List.range' 0 rows.length).all (rV n rows)
theorem iT {rows:List (yQ)} {i:Nat} (h:i<rows.length):rows.getD i []=rows[i]:=by simp [h]
section
variable {N:Nat}
theorem BM (a:Int):decide (0<=a)=!decide (a<0):=by by_cases h:a<0 <;> simp [h];omega
theorem CD (hN:1073741824<=N) {n:Int} {rows:List (yQ)} (hx:iX rows):mQ N n rows=some (bO n rows):=by
 have hl:=hx.1
 have:=mw (L:=fun k i=>f8 N k n rows rows (rows.length:Int) i) rows.length oa false (rV n rows) (rows.length:Int)
  (fun k i h=>by
   have h1:=(hx.2 _ (bF h)).1
   show f8 N (k+1) n rows rows _ (i:Int)=_
   rw [f8,dlt h,ag,be h,bs,Hu,oL hN h1,bs]
   unfold rV
   rw [iT h]
   cases decide ((rows[i].length:Int)=n)
   ·rfl
   cases cV rows[i]
   ·rfl
   cases i with
   | zero=>rw [ad1 oa];rfl
   | succ j =>
    rw [show decide (0<((j+1:Nat):Int))=true from aW oa,eu oa oa,bs,show (((j+1:Nat):Int)-1)=(j:Int) by omega,be oa,bs,lE hN (hx.2 _ (bF oa)).1 oa,bs,ad1 oa,bs,BM,qX,iT oa]
    cases decide (bZ rows[j] rows[j+1]<0) <;> rfl)
  (fun k=>by
   show f8 N (k+1) n rows rows _ (rows.length:Int)=_
   rw [f8,dge oa,am]) N 0 oa oa
 unfold mQ bO
 rw [gK,bs,show ((0:Int))=((0:Nat):Int) from rfl,this,bs,iP]
 by_cases h4:(rows.length:Int)<=4000
 ·rw [aW h4,ba (by omega:¬ (4000:Int)<rows.length)]
  simp only [show ((0:Nat):Int)=0 from rfl]
  cases inR n 0 5 <;> cases (List.range' 0 rows.length).all (rV n rows) <;> rfl
 ·rw [ba h4,aW (by omega:(4000:Int)<rows.length)]
  simp only [show ((0:Nat):Int)=0 from rfl]
  cases inR n 0 5 <;> rfl
theorem jm (hN:1073741824<=N) {n:Int} {rows:List (yQ)} (hx:iX rows):dY N n rows=some (bO n rows):=by
 unfold dY;rw [CD hN hx,bs]
theorem ot (hN:1073741824<=N) {n:Int} {rows:List (yQ)} (hx:iX rows):gt N n rows=some (bO n rows):=by
 have hl:=hx.1
 have:=mw (L:=fun k i=>dH N k n rows i) rows.length oa false (rV n rows) (rows.length:Int)
  (fun k i h=>by
   have h1:=(hx.2 _ (bF h)).1
   show dH N (k+1) n rows (i:Int)=_
   rw [dH,dlt h,ag,be h,bs,Hu,bs,oR hN h1,bs]
   unfold rV
   rw [iT h]
   cases decide ((rows[i].length:Int)=n)
   ·rfl
   cases cV rows[i]
   ·rfl
   cases i with
   | zero=>rw [ad1 oa];rfl
   | succ j =>
    rw [show decide (0<((j+1:Nat):Int))=true from aW oa,eu oa oa,bs,show (((j+1:Nat):Int)-1)=(j:Int) by omega,be oa,bs,bs,nx hN (hx.2 _ (bF oa)).1 oa,bs,ad1 oa,bs,BM,qX,iT oa]
    cases decide (bZ rows[j] rows[j+1]<0) <;> rfl)
  (fun k=>by
   show dH N (k+1) n rows (rows.length:Int)=_
   rw [dH,dge oa,am]) N 0 oa oa
 unfold gt bO
 rw [fg,bs,show ((0:Int))=((0:Nat):Int) from rfl,this,bs,iP]
 by_cases h4:(rows.length:Int)<=4000
 ·rw [aW h4,ba (by omega:¬ (4000:Int)<rows.length)]
  simp only [show ((0:Nat):Int)=0 from rfl]
  cases inR n 0 5 <;> cases (List.range' 0 rows.length).all (rV n rows) <;> rfl
 ·rw [ba h4,aW (by omega:(4000:Int)<rows.length)]
  simp only [show ((0:Nat):Int)=0 from rfl]
  cases inR n 0 5 <;> rfl
theorem dQ {n:Int} {rows:List (yQ)} (h:bO n rows=true):0<=n/\n<=5/\rows.length<=4000/\∀ i (hi:i<rows.length),(rows[i].length:Int)=n/\cV rows[i]=true/\(∀ j (hj:j+1=i),bZ (rows[j]'oa) rows[i]<0):=by
 unfold bO at h
 simp only [bU,cg,dN,dL] at h
 refine ⟨h.1.1.1,h.1.1.2,oa,fun i hi=>?_⟩
 have:=h.2 i (by simp;omega)
 unfold rV at this
 rw [iT hi] at this
 simp only [bU,dN,rj] at this
 refine ⟨this.1.1,this.1.2,?_⟩
 rintro j rfl
 rcases this.2 with h2 | h2
 ·exact absurd (sS h2) oa
 ·rw [qX,iT oa] at h2;exact h2

theorem tt {a b:Int} (h:b≠0):rm a b=some (a.tmod b):=by unfold rm;rw [aX h]
theorem Bf {a b:Int} (ha:0<=a) (hb:0<b):0<=a.tmod b/\a.tmod b<b:=⟨Int.tmod_nonneg _ ha,Int.tmod_lt_of_pos _ hb⟩
end
abbrev mR:=yQ × yQ
def In (far:yQ) (i:Nat) (ch:yQ) (j:Nat):Bool:=inR (ch.getD j 0) 0 ((i:Int)-1)&&decide (far.getD (ch.getD j 0).toNat 0=far.getD (ch.getD 0 0).toNat 0)
def D8 (nodes:List mR) (i:Nat) (x:mR):Bool:=((nodes.take i).drop 1).all fun m=>!decide (m=x)
def Iv (nodes:List mR) (olen:Nat) (far:yQ) (i:Nat) (x:mR):Option Int :=
 bif decide (x.1.length=x.2.length)&&cV x.1&&asc x.1 then
  bif decide (x.1.length=0) then (bif decide (i+1=nodes.length) then some (olen:Int) else none)
  else bif (List.range' 0 x.2.length).all (In far i x.2)&&D8 nodes i x then some (far.getD (x.2.getD 0 0).toNat 0+1) else none
 else none
structure VF (olen:Nat) (nodes:List mR) (far:yQ):Prop where
 pos:1<=nodes.length
 le:nodes.length<=4000
 z1:(nodes.getD 0 ([],[])).1=[]
 z2:(nodes.getD 0 ([],[])).2=[]
 len:far.length=nodes.length
 f0:far.getD 0 0=0
 last:far.getD (nodes.length-1) 0=(olen:Int)
 nd:∀ i,1<=i->i<nodes.length->Iv nodes olen (far.take i) i (nodes.getD i ([],[]))=some (far.getD i 0)
theorem GL {xs:yQ} {i j:Nat} (h:j<i):(xs.take i).getD j 0=xs.getD j 0:=by
 rw [pL,pL,lm,aX h]
theorem VF.node {olen:Nat} {nodes:List mR} {far:yQ} (V:VF olen nodes far) {i:Nat} (h1:1<=i) (h2:i<nodes.length) :
    (nodes.getD i ([],[])).1.length=(nodes.getD i ([],[])).2.length/\asc (nodes.getD i ([],[])).1=true /\
    ((nodes.getD i ([],[])).1=[]/\i+1=nodes.length/\far.getD i 0=olen \/
     (nodes.getD i ([],[])).1≠[]/\∀ j,j<(nodes.getD i ([],[])).2.length->0<=(nodes.getD i ([],[])).2.getD j 0/\(nodes.getD i ([],[])).2.getD j 0<i/\far.getD ((nodes.getD i ([],[])).2.getD j 0).toNat 0+1=far.getD i 0):=by
  have h:=V.nd i h1 h2
  generalize nodes.getD i ([],[])=x at *
  unfold Iv at h
  cases e1:(decide (x.1.length=x.2.length)&&cV x.1&&asc x.1) with
  | false=>rw [e1] at h;cases h
  | true =>
    rw [e1,ag] at h
    simp only [bU,dN] at e1
    refine ⟨e1.1.1,e1.2,?_⟩
    by_cases hz:x.1.length=0
    · rw [aW hz,ag] at h
      by_cases hi:i+1=nodes.length
      · rw [aW hi,ag] at h
        exact .inl ⟨ma.1 hz,hi,(c8 h).symm⟩
      · rw [ba hi] at h;cases h
    · rw [ba hz,am] at h
      cases ha:(List.range' 0 x.2.length).all (In (far.take i) i x.2) with
      | false=>rw [ha] at h;cases h
      | true =>
        rw [ha,cW] at h
        cases hb:D8 nodes i x with
        | false=>rw [hb] at h;cases h
        | true =>
          rw [hb,ag] at h
          refine .inr ⟨fun e=>hz (by simp [e]),fun j hj=>?_⟩
          have hc:∀ j,j<x.2.length->0<=x.2.getD j 0/\x.2.getD j 0<i/\far.getD (x.2.getD j 0).toNat 0=(far.take i).getD (x.2.getD 0 0).toNat 0:=by
            intro j hj
            have:=(dL.1 ha) j (by simp;omega)
            unfold In at this
            simp only [bU,dN] at this
            have g:=cg.1 this.1
            refine ⟨g.1,oa,?_⟩
            rw [<- this.2,GL oa]
          obtain ⟨q1,q2,q3⟩:=hc j hj
          exact ⟨q1,q2,by rw [q3];exact c8 h⟩
theorem gC {σ V:Type} (L:Nat->σ->Int->Option V) (n:Nat) (A:Nat->σ) (v:V)
  (hstep:∀ k i,i<n->L (k+1) (A i) (i:Int)=L k (A (i+1)) ((i+1:Nat):Int)) (hend:∀ k,L (k+1) (A n) (n:Int)=some v) :
  ∀ k i,i<=n->n-i<k->L k (A i) (i:Int)=some v:=by
 intro k
 induction k with
 | zero=>intro i hi hk;omega
 | succ k ih =>
  intro i hi hk
  by_cases h:i<n
  ·rw [hstep k i h];exact ih (i+1) oa oa
  ·obtain rfl:i=n:=by omega
   exact hend k
theorem VF.lens {olen:Nat} {nodes:List mR} {far:yQ} (V:VF olen nodes far) {i:Nat} (h2:i<nodes.length):(nodes.getD i ([],[])).1.length=(nodes.getD i ([],[])).2.length:=by
 by_cases h1:1<=i
 ·exact (V.node h1 h2).1
 ·obtain rfl:i=0:=by omega
  rw [V.z1,V.z2]
theorem VF.asc {olen:Nat} {nodes:List mR} {far:yQ} (V:VF olen nodes far) {i:Nat} (h2:i<nodes.length):Go.Proofs.YteemghjjopdljaaGreat.asc (nodes.getD i ([],[])).1=true:=by
 by_cases h1:1<=i
 ·exact (V.node h1 h2).2.1
 ·obtain rfl:i=0:=by omega
  rw [V.z1];rfl
section
variable {N:Nat}
theorem Bg {b:Nat} {α:Type} {xs:List α} (hb:b<=64) (h:xs.length<=1048576):apd b [] xs=some xs:=by
 rw [bA hb (by simp;omega)];rfl
theorem CQ {b:Nat} {α:Type} {xs:List α} {i:Nat} (hb:b<=64) (h:i<xs.length) (hl:xs.length<=1048576):apd b (xs.take i) [xs[i]]=some (xs.take (i+1)):=by
 rw [bA hb (by simp;omega),gk h]
theorem Bk {rows:List (yQ)} (h:iX rows) {i:Nat} (hi:i<rows.length):rows[i].length<=1048576:=(h.2 _ (bF hi)).1
theorem B1 (hN:1073741824<=N) {a:Int} {rows:List (yQ)} (h:iX rows):np N a rows=some (a,rows):=by
 have hl:=h.1
 unfold np
 have hL:=gC (fun k (s:List (yQ)) i=>ii N k a rows 0 [] a s i) rows.length (fun i=>rows.take i) (rows,(rows.length:Int))
  (fun k i hi=>by
   show ii N (k+1) a rows 0 [] a (rows.take i) (i:Int)=_
   rw [ii,dlt hi,ag,be hi,bs,Bg (by decide) (Bk h hi),bs,CQ (by decide) hi hl,bs,ad1 oa,bs])
  (fun k=>by
   show ii N (k+1) a rows 0 [] a (rows.take rows.length) (rows.length:Int)=_
   rw [ii,dge oa,am,fC]) N 0 oa oa
 have hL':ii N N a rows 0 [] a [] 0=_:=hL
 rw [hL',bs,lpB]
theorem tQ (hN:1073741824<=N) {rows:List (yQ)} (h:iX rows):lQ N rows=some rows:=by
 have hl:=h.1
 unfold lQ
 have hL:=gC (fun k (s:List (yQ)) i=>gv N k s rows (rows.length:Int) i) rows.length (fun i=>rows.take i) (rows,(rows.length:Int))
  (fun k i hi=>by
   show gv N (k+1) (rows.take i) rows (rows.length:Int) (i:Int)=_
   rw [gv,dlt hi,ag,be hi,bs,kw,Bg (by decide) (Bk h hi),bs,bs,CQ (by decide) hi hl,bs,ad1 oa,bs])
  (fun k=>by
   show gv N (k+1) (rows.take rows.length) rows (rows.length:Int) (rows.length:Int)=_
   rw [gv,dge oa,am,fC]) N 0 oa oa
 have hL':gv N N [] rows (rows.length:Int) 0=_:=hL
 rw [hL',bs,lpB]
theorem AA (hN:1073741824<=N) {a:Int} {rows:List (yQ)} (h:iX rows):kI N a rows=some (a,rows):=by
 unfold kI
 rw [tQ hN h,bs]
end
def nU (ls:List (yQ)):Bool:=ls.all asc&&decide (0<ls.length)
section
variable {N:Nat}
theorem HV {L:Nat->Int->Option (Sum Bool Int)} {ls:List (yQ)} (hN:1073741824<=N) (h:iX ls)
  (hs:∀ k i (hi:i<ls.length),L (k+1) (i:Int)=bif asc ls[i] then L k ((i+1:Nat):Int) else some (.inl false)) (he:∀ k,L (k+1) (ls.length:Int)=some (.inr (ls.length:Int))) :
  (L N 0).bind (fun s=>lpS s (fun q=>some q) fun _=>some (decide (0<(ls.length:Int))))=some (nU ls):=by
 have hl:=h.1
 have:=mw L ls.length oa false (fun i=>if h:i<ls.length then asc ls[i] else true) (ls.length:Int)
  (fun k i hi=>by rw [hs k i hi];simp only [jg hi]) he N 0 oa oa
 rw [show ((0:Int))=((0:Nat):Int) from rfl,this,bs,iP,mb ls asc _ (fun i hi=>by rw [jg hi])]
 unfold nU
 cases ls.all asc
 ·rfl
 ·simp only [ag,lpS,cW];simp
theorem xJ (hN:1073741824<=N) {ls:List (yQ)} (h:iX ls):jo N ls=some (nU ls):=by
 have hl:=h.1
 unfold jo
 exact HV hN h (L:=fun k i=>fd N k ls ls (ls.length:Int) i)
  (fun k i hi=>by
   show fd N (k+1) ls ls (ls.length:Int) (i:Int)=_
   rw [fd,dlt hi,ag,be hi,bs,qZ hN (Bk h hi),bs,ad1 oa,bs])
  (fun k=>by
   show fd N (k+1) ls ls (ls.length:Int) (ls.length:Int)=_
   rw [fd,dge oa,am])
end
theorem yW {α R V:Type} (L:Nat->Int->Option (Sum R V)) (xs:List α) (q:α->Bool) (g:α->R) (v:V) (hl:xs.length<1099511627776)
  (hstep:∀ k i (h:i<xs.length),L (k+1) (i:Int)=bif q xs[i] then some (.inl (g xs[i])) else L k ((i+1:Nat):Int)) (hend:∀ k,L (k+1) (xs.length:Int)=some (.inr v)) :
  ∀ k i,i<=xs.length->xs.length-i<k->L k (i:Int)=some (match (xs.drop i).find? q with | some x=>.inl (g x) | none=>.inr v):=by
 intro k
 induction k with
 | zero=>intro i h1 h2;omega
 | succ k ih =>
  intro i h1 h2
  by_cases h:i<xs.length
  ·rw [hstep k i h,gj h,List.find?_cons]
   cases hq:q xs[i]
   ·rw [am];exact ih (i+1) oa oa
   ·rfl
  ·obtain rfl:i=xs.length:=by omega
   rw [hend,List.drop_length];rfl
abbrev bE:=ByteArray × (Int × List (yQ))
abbrev oZ (ts:List bE):Prop:=td (fun x=>x.1.size<=1048576/\td (td (fun _=>True) 1048576) 1048576 x.2.2) 1048576 ts
def uu (s:ByteArray) (i:Nat):Int:=match s[i]? with | some b=>(b.toNat:Int) | none=>0
theorem Ky {s:ByteArray} {i:Nat} (h:i<s.size):bx s (i:Int)=some (uu s i):=by
 unfold bx uu
 rw [aX oa,iR,getElem?_pos s i h];rfl
def qy (s:ByteArray) (i:Nat):Bool:=!decide (uu s i<97)&&!decide (122<uu s i)
def oM (s:ByteArray):Bool:=inR s.size 1 4&&(List.range' 0 s.size).all (qy s)
def sj (ts:List bE) (i:Nat):Bool :=
 let t:=ts.getD i (ByteArray.empty,0,[])
 oM t.1&&(Nat.beq i 0||ltS (ts.getD (i-1) (ByteArray.empty,0,[])).1 t.1)&&bO t.2.1 t.2.2&&!decide (t.2.1<1)&&!decide (16<(t.2.2.length:Int))
def o0 (ts:List bE):Bool:=decide ((ts.length:Int)<=6)&&(List.range' 0 ts.length).all (sj ts)
def cd (ts:List bE) (s:ByteArray):(Int × List (yQ)) × Bool :=
 bif o0 ts then (match ts.find? (fun t=>decide (t.1=s)) with | some t=>(t.2,true) | none=>((0,[]),false)) else ((0,[]),false)
theorem sv {ts:List bE} {i:Nat} (h:i<ts.length):ts.getD i (ByteArray.empty,0,[])=ts[i]:=by simp [h]
section
variable {N:Nat}
theorem LP {L:Nat->Int->Option (Sum Bool Int)} {s:ByteArray} (hs:s.size<=1048576) (hN:1073741824<=N)
  (hstep:∀ k i,L (k+1) i=(bif decide (i<(s.size:Int)) then (bx s i).bind fun a=>(bif decide (a<97) then some (.inl false) else (bx s i).bind fun b=>(bif decide (122<b) then some (.inl false) else (ad i 1).bind fun j=>L k j)) else some (.inr i))) :
  L N 0=some (bif (List.range' 0 s.size).all (qy s) then .inr (s.size:Int) else .inl false):=by
 have:=mw L s.size oa false (qy s) (s.size:Int)
  (fun k i h=>by
   rw [hstep,dlt h,ag,Ky h,bs,bs,ad1 oa,bs]
   unfold qy
   cases decide (uu s i<97)
   ·cases decide (122<uu s i) <;> rfl
   ·rfl)
  (fun k=>by rw [hstep,dge oa,am]) N 0 oa oa
 rw [iP] at this
 exact this
theorem qk (hN:1073741824<=N) {s:ByteArray} (hs:s.size<=1048576):jF N s=some (oM s):=by
 unfold jF oo oM
 by_cases h1:(s.size:Int)<1
 ·rw [aW h1,show inR (s.size:Int) 1 4=false by rw [<- w5,cg];omega];rfl
 by_cases h4:(4:Int)<s.size
 ·rw [ba h1,aW h4,show inR (s.size:Int) 1 4=false by rw [<- w5,cg];omega];rfl
 rw [ba h1,ba h4,show inR (s.size:Int) 1 4=true by rw [cg];omega,am,am,LP (L:=fun k i=>jj N k s i) hs hN (fun k i=>by
  show jj N (k+1) s i=_
  rw [jj]),bs]
 cases (List.range' 0 s.size).all (qy s) <;> rfl
theorem qj (hN:1073741824<=N) {s:ByteArray} (hs:s.size<=1048576):jz N s=some (oM s):=by
 unfold jz oM
 rw [LP (L:=fun k i=>iB N k s i) hs hN (fun k i=>by
  show iB N (k+1) s i=_
  rw [iB]),bs]
 cases (List.range' 0 s.size).all (qy s)
 ·cases inR (s.size:Int) 1 4 <;> rfl
 ·simp only [ag,lpS,fg,bs,wL]
theorem ov (hN:1073741824<=N) {ts:List bE} (hx:oZ ts):ia N ts=some (o0 ts):=by
 have hl:=hx.1
 have:=mw (L:=fun k i=>dc N k ts ts (ts.length:Int) i) ts.length oa false (sj ts) (ts.length:Int)
  (fun k i h=>by
   obtain ⟨g1,g2⟩:=hx.2 _ (bF h)
   show dc N (k+1) ts ts (ts.length:Int) (i:Int)=_
   rw [dc,dlt h,ag,be h,bs,qk hN g1,bs]
   unfold sj
   rw [sv h]
   simp only []
   cases oM ts[i].1
   ·rfl
   rw [jm hN g2,bs]
   cases i with
   | zero =>
    rw [ad1 oa]
    simp only [bs]
    cases bO ts[0].2.1 ts[0].2.2
    ·rfl
    ·show (bif decide _ then _ else _)=_
     cases decide (ts[0].2.1<1)
     ·cases decide (16<(ts[0].2.2.length:Int)) <;> rfl
     ·cases decide (16<(ts[0].2.2.length:Int)) <;> rfl
   | succ j =>
    rw [show decide (0<((j+1:Nat):Int))=true from aW oa,eu oa oa,bs,show (((j+1:Nat):Int)-1)=(j:Int) by omega,be oa,bs,ad1 oa,qX,sv oa]
    simp only [bs]
    cases ltS ts[j].1 ts[j+1].1
    ·rfl
    cases bO ts[j+1].2.1 ts[j+1].2.2
    ·rfl
    ·show (bif decide _ then _ else _)=_
     cases decide (ts[j+1].2.1<1)
     ·cases decide (16<(ts[j+1].2.2.length:Int)) <;> rfl
     ·cases decide (16<(ts[j+1].2.2.length:Int)) <;> rfl)
  (fun k=>by
   show dc N (k+1) ts ts (ts.length:Int) (ts.length:Int)=_
   rw [dc,dge oa,am]) N 0 oa oa
 rw [iP] at this
 unfold ia o0
 by_cases h6:(6:Int)<ts.length
 ·rw [aW h6,ba (by omega:¬ (ts.length:Int)<=6)];rfl
 rw [ba h6,aW (by omega:(ts.length:Int)<=6),am,cW]
 have this':dc N N ts ts (ts.length:Int) 0=_:=this
 rw [this',bs]
 cases (List.range' 0 ts.length).all (sj ts) <;> rfl
theorem lL (hN:1073741824<=N) {ts:List bE} (hx:oZ ts):ie N ts=some (o0 ts):=by
 have hl:=hx.1
 have:=mw (L:=fun k i=>de N k ts i) ts.length oa false (sj ts) (ts.length:Int)
  (fun k i h=>by
   obtain ⟨g1,g2⟩:=hx.2 _ (bF h)
   show de N (k+1) ts (i:Int)=_
   rw [de,dlt h,ag,be h,bs,qj hN g1,bs]
   unfold sj
   rw [sv h]
   simp only []
   cases oM ts[i].1
   ·rfl
   rw [ot hN g2,bs]
   cases i with
   | zero =>
    rw [ad1 oa]
    simp only [bs]
    cases bO ts[0].2.1 ts[0].2.2
    ·rfl
    ·show (bif decide _ then _ else _)=_
     cases decide (ts[0].2.1<1)
     ·cases decide (16<(ts[0].2.2.length:Int)) <;> rfl
     ·cases decide (16<(ts[0].2.2.length:Int)) <;> rfl
   | succ j =>
    rw [show decide (0<((j+1:Nat):Int))=true from aW oa,eu oa oa,bs,show (((j+1:Nat):Int)-1)=(j:Int) by omega,be oa,bs,ad1 oa,qX,sv oa]
    simp only [bs]
    cases ltS ts[j].1 ts[j+1].1
    ·rfl
    cases bO ts[j+1].2.1 ts[j+1].2.2
    ·rfl
    ·show (bif decide _ then _ else _)=_
     cases decide (ts[j+1].2.1<1)
     ·cases decide (16<(ts[j+1].2.2.length:Int)) <;> rfl
     ·cases decide (16<(ts[j+1].2.2.length:Int)) <;> rfl)
  (fun k=>by
   show de N (k+1) ts (ts.length:Int)=_
   rw [de,dge oa,am]) N 0 oa oa
 rw [iP] at this
 unfold ie o0
 have this':de N N ts 0=_:=this
 rw [this',bs]
 cases (List.range' 0 ts.length).all (sj ts)
 ·simp only [am,lpS,pO]
 ·simp only [ag,lpS,wL]
theorem oO (hN:1073741824<=N) {ts:List bE} {s:ByteArray} (hx:oZ ts):iC N ts s=some (cd ts s):=by
 have hl:=hx.1
 unfold iC cd
 rw [ov hN hx,bs]
 cases o0 ts
 ·rfl
 rw [ag,ag]
 have:=yW (fun k i=>dW N k s 0 [] ts (ts.length:Int) i) ts (fun t=>decide (t.1=s)) (fun t=>(t.2,true)) (ts.length:Int) oa
  (fun k i h=>by
   obtain ⟨g1,g2⟩:=hx.2 _ (bF h)
   show dW N (k+1) s 0 [] ts _ (i:Int)=_
   rw [dW,dlt h,ag,be h,bs,AA hN g2,bs,ad1 oa,bs,Ez])
  (fun k=>by
   show dW N (k+1) s 0 [] ts _ (ts.length:Int)=_
   rw [dW,dge oa,am]) N 0 oa oa
 rw [gS] at this
 have this':dW N N s 0 [] ts (ts.length:Int) 0=_:=this
 rw [this',bs]
 cases ts.find? (fun t=>decide (t.1=s)) <;> rfl
theorem oH (hN:1073741824<=N) {ts:List bE} {s:ByteArray} (hx:oZ ts):iy N ts s=some (cd ts s):=by
 have hl:=hx.1
 unfold iy cd
 cases hv:o0 ts
 ·obtain ⟨M,rfl⟩:∃ M,N=M+1:=⟨N-1,oa⟩
  rw [dm,lL hN hx,bs,hv]
  cases decide ((0:Int)<(ts.length:Int)) <;> rfl
 rw [ag]
 have:=yW (fun k i=>dm N k s ts 0 [] i) ts (fun t=>decide (t.1=s)) (fun t=>(t.2,true)) (ts.length:Int) oa
  (fun k i h=>by
   obtain ⟨g1,g2⟩:=hx.2 _ (bF h)
   show dm N (k+1) s ts 0 [] (i:Int)=_
   rw [dm,dlt h,ag,lL hN hx,bs,hv,ag,be h,bs,bs,B1 hN g2,bs,ad1 oa,bs,Ez])
  (fun k=>by
   show dm N (k+1) s ts 0 [] (ts.length:Int)=_
   rw [dm,dge oa,am]) N 0 oa oa
 rw [gS] at this
 have this':dm N N s ts 0 [] 0=_:=this
 rw [this',bs]
 cases ts.find? (fun t=>decide (t.1=s)) <;> rfl
end
theorem qD:∀ (a b:yQ),bZ b a=- bZ a b
 | [],[]=>by simp [bZ]
 | [],_ :: _=>by simp [bZ]
 | _ :: _,[]=>by simp [bZ]
 | x :: a,y :: b=>by
  unfold bZ
  have:=qD a b
  (repeat' split) <;> omega
theorem md:∀ {a b c:yQ},bZ a b<0->bZ b c<0->bZ a c<0
 | [],[],_,h,_=>by simp [bZ] at h
 | [],_ :: _,[],_,h=>by simp [bZ] at h
 | [],_ :: _,_ :: _,_,_=>by simp [bZ]
 | _ :: _,[],_,h,_=>by simp [bZ] at h
 | _ :: _,_ :: _,[],_,h=>by simp [bZ] at h
 | x :: a,y :: b,z :: c,h1,h2=>by
  unfold bZ at h1 h2 ⊢
  have:=@md a b c
  split at h1
  ·split at h2
   ·rw [aX oa];omega
   ·split at h2
    ·omega
    ·rw [aX oa];omega
  ·split at h1
   ·omega
   ·split at h2
    ·rw [aX oa];omega
    ·split at h2
     ·omega
     ·rw [a9 oa,a9 oa];exact this h1 h2
def Km (rows:List (yQ)):Prop:=∀ i j (_:i<j) (hj:j<rows.length),bZ (rows[i]'oa) rows[j]<0
theorem IN {rows:List (yQ)} (h:∀ i (hi:i<rows.length) j (hj:j+1=i),bZ (rows[j]'oa) rows[i]<0):Km rows:=by
 intro i j hij hj
 induction j with
 | zero=>omega
 | succ j ih =>
  have h1:=h (j+1) hj j rfl
  by_cases e:i=j
  ·subst e;exact h1
  ·exact md (ih oa oa) h1
theorem Cd {n:Int} {rows:List (yQ)} (h:bO n rows=true):Km rows:=by
 obtain ⟨_,_,_,h4⟩:=dQ h
 exact IN fun i hi j hj=>(h4 i hi).2.2 j hj
section
variable {N:Nat}
theorem vU {α:Type} {N:Nat} (L:Nat->Int->Option (Sum Bool Int)) (xs:List α) (q:α->Bool) (hN:1073741824<=N) (hl:xs.length<=1048576)
  (hstep:∀ k i (h:i<xs.length),L (k+1) (i:Int)=bif q xs[i] then L k ((i+1:Nat):Int) else some (.inl false)) (hend:∀ k,L (k+1) (xs.length:Int)=some (.inr (xs.length:Int))) :
  L N 0=some (bif xs.all q then .inr (xs.length:Int) else .inl false):=by
 have:=mw L xs.length oa false (fun i=>if h:i<xs.length then q xs[i] else true) (xs.length:Int) (fun k i h=>by rw [hstep k i h];simp only [jg h]) hend N 0 oa oa
 rw [iP,mb xs q _ (fun i hi=>by rw [jg hi])] at this
 exact this
end
theorem F0 {σ R V:Type} (L:Nat->σ->Int->Option (Sum R V)) (n:Nat) (b:R) (p:Nat->Bool) (A:Nat->σ) (v:V)
  (hstep:∀ k i,i<n->L (k+1) (A i) (i:Int)=bif p i then L k (A (i+1)) ((i+1:Nat):Int) else some (.inl b)) (hend:∀ k,L (k+1) (A n) (n:Int)=some (.inr v)) :
  ∀ k i,i<=n->n-i<k->L k (A i) (i:Int)=some (bif (List.range' i (n-i)).all p then .inr v else .inl b):=by
 intro k
 induction k with
 | zero=>intro i hi hk;omega
 | succ k ih =>
  intro i hi hk
  by_cases h:i<n
  ·rw [hstep k i h,show n-i=(n-(i+1))+1 by omega,wv,uj]
   cases hp:p i with
   | true=>rw [ag,cW];exact ih (i+1) oa oa
   | false=>rfl
  ·obtain rfl:i=n:=by omega
   rw [hend k,Nat.sub_self];rfl
theorem iW {R V S:Type} {v:V} {f:R->Option S} {g:V->Option S}:lpS (.inr v) f g=g v:=rfl
theorem lN {R V S:Type} {v:R} {f:R->Option S} {g:V->Option S}:lpS (.inl v) f g=f v:=rfl
abbrev bj:=ByteArray × yQ
abbrev dz (xs:List bj):Prop:=td (fun x=>x.1.size<=1048576/\(td (fun _=>True) 1048576) x.2) 1048576 xs
def my (n:Int) (a:bj):Bool:=oM a.1&&inR a.2.length 1 5&&a.2.all fun v=>inR v 0 (n-1)
def pc (n:Int) (yL:List bj):Bool:=(List.range' 0 n.toNat).all fun v=>yL.any fun a=>decide ((v:Int)∈a.2)
def et (n:Int) (yL:List bj) (out:yQ):Bool:=inR n 1 5&&inR yL.length 1 4&&jx out n&&yL.all (my n)&&pc n yL
theorem t9:∀ (n:Nat) (xs:yQ),xs.Nodup->(∀ x∈xs,0<=x/\x<n)->xs.length<=n:=by
 intro n
 induction n with
 | zero =>
  intro xs _ h
  cases xs with
  | nil=>simp
  | cons x xs=>have:=h x (by simp);omega
 | succ n ih =>
  intro xs hn h
  by_cases hm:(n:Int)∈xs
  ·have h1:=ih (xs.erase (n:Int)) (hn.erase _) (fun x hx=>by
    have h2:=h x (List.mem_of_mem_erase hx)
    have h3:x≠n:=by rintro rfl;exact (hn.mem_erase_iff.1 hx).1 rfl
    omega)
   rw [wZ hm] at h1
   omega
  ·have:=ih xs hn (fun x hx=>by
    have h2:=h x hx
    have h3:x≠n:=by rintro rfl;exact hm hx
    omega)
   omega
theorem nl {xs:yQ} {n:Int} (h:jx xs n=true):xs.Nodup/\∀ x∈xs,0<=x/\x<=n-1:=by
 unfold jx at h
 rw [dL] at h
 have hk:∀ i (hi:i<xs.length),(0<=xs[i]/\xs[i]<=n-1)/\xs[i]∉xs.take i:=by
  intro i hi
  have:=h i (by simp;omega)
  simp only [bP hi,bU,cg,xc,AZ] at this
  exact this
 refine ⟨?_,fun x hx=>?_⟩
 ·rw [List.nodup_iff_pairwise_ne,sQ]
  intro i j hi hj hij e
  refine (hk j hj).2 ?_
  rw [<- e]
  have:(xs.take j)[i]'(by simp;omega)=xs[i]:=uh
  rw [<- this];exact bF _
 ·obtain ⟨i,hi,rfl⟩:=gR hx
  exact (hk i hi).1
theorem FK {xs:yQ} {n:Int} (h0:0<=n) (h:jx xs n=true):(xs.length:Int)<=n:=by
 obtain ⟨h1,h2⟩:=nl h
 have:=t9 n.toNat xs h1 (fun x hx=>by have:=h2 x hx;omega)
 omega
def ox (m:Nat) (g:Nat->Bool):List Bool:=(List.range' 0 m).map g
theorem y6 (m:Nat) (g:Nat->Bool):(ox m g).length=m:=by simp [ox]
theorem J3 {m:Nat} {g:Nat->Bool} {i:Nat} (h:i<m):ix (ox m g) (i:Int)=some (g i):=by
 rw [be (by rw [y6];exact h)];simp [ox]
theorem Ia {m:Nat} {g:Nat->Bool} {c:Nat} (h:c<m):sto (ox m g) (c:Int) true=some (ox m fun v=>g v||decide (v=c)):=by
 rw [lS (by rw [y6];exact h)]
 congr 1
 refine sM (by simp [ox]) fun i h1 h2=>?_
 simp only [ox,List.getElem_set,ky,w9]
 simp only [e9,lw]
 by_cases e:c=i
 ·subst e;simp
 ·have e2:¬ i=c:=fun h=>e h.symm
  rw [a9 e,ba e2,Bool.or_false]
theorem yr {m:Nat} {f g:Nat->Bool} (h:∀ v,f v=g v):ox m f=ox m g:=by rw [show f=g from funext h]
theorem Ht (m:Nat) (g:Nat->Bool):(ox m g).all id=(List.range' 0 m).all g:=by simp [ox,List.all_map]
theorem wb {α:Type} {p:α->Bool} {xs:List α} {i:Nat} (h:i<xs.length):(xs.take (i+1)).any p=((xs.take i).any p||p xs[i]):=by
 rw [gk h,List.any_append];simp
theorem B8 {xs:yQ} {i:Nat} (h:i<xs.length) (v:Int):decide (v∈xs.take (i+1))=(decide (v∈xs.take i)||decide (v=xs[i])):=by
 have e:v∈xs.take (i+1)↔v∈xs.take i\/v=xs[i]:=by
  rw [gk h,dj,fD]
 rw [Bool.eq_iff_iff];simp only [dN,rj];exact e
section
variable {N:Nat}
def nB (m:Nat) (yL:List bj) (i:Nat):List Bool:=ox m fun v=>(yL.take i).any fun a=>decide ((v:Int)∈a.2)
def pK (m:Nat) (yL:List bj) (i:Nat) (xs:yQ) (j:Nat):List Bool:=ox m fun v=>(yL.take i).any (fun a=>decide ((v:Int)∈a.2))||decide ((v:Int)∈xs.take j)
theorem Jm (m:Nat) (yL:List bj) (i:Nat) (xs:yQ):pK m yL i xs 0=nB m yL i:=yr fun v=>by simp
theorem Gl (m:Nat) (yL:List bj) {i:Nat} (h:i<yL.length):pK m yL i yL[i].2 yL[i].2.length=nB m yL (i+1):=yr fun v=>by rw [fC,wb h]
theorem Fc {m:Nat} {yL:List bj} {i:Nat} {xs:yQ} {j c:Nat} (hj:j<xs.length) (hc:xs[j]=(c:Int)) (hm:c<m):sto (pK m yL i xs j) (c:Int) true=some (pK m yL i xs (j+1)):=by
 unfold pK
 rw [Ia hm]
 congr 1
 refine yr fun v=>?_
 rw [B8 hj,hc,Bool.or_assoc]
 congr 2
 rw [decide_eq_decide];omega
theorem HH {m:Nat} {yL:List bj} {i:Nat} {xs:yQ} {j c:Nat} (hm:c<m):∃ b,ix (pK m yL i xs j) (c:Int)=some b:=⟨_,J3 hm⟩
theorem JM (m:Nat) (yL:List bj):List.replicate m false=nB m yL 0:=by
 refine sM (by simp [nB,ox]) fun i h1 h2=>?_
 simp [nB,ox]
theorem DK {m:Nat} {yL:List bj} {i:Nat} {xs:yQ} {t:List bj} {tl ti:Int} (hx:xs.length<=1048576) (hm:m<=5) (k j:Nat) (hj:j<xs.length) :
  d6 N (k+1) (m:Int) (pK m yL i xs j) t tl ti xs (xs.length:Int) (j:Int)=bif (if h:j<xs.length then inR xs[j] 0 ((m:Int)-1) else true) then d6 N k (m:Int) (pK m yL i xs (j+1)) t tl ti xs (xs.length:Int) ((j+1:Nat):Int) else some (.inl false):=by
 rw [d6,dlt hj,ag,be hj,bs,eu oa oa,bs,gK,bs,jg hj]
 cases hc:inR xs[j] 0 ((m:Int)-1) with
 | false=>rw [am,am]
 | true =>
  have hc':=cg.1 hc
  obtain ⟨c,hcc⟩:=nV hc'.1
  obtain ⟨b,hb⟩:=HH (m:=m) (yL:=yL) (i:=i) (xs:=xs) (j:=j) (c:=c) oa
  rw [ag,ag,hcc,hb,bs,Fc hj hcc oa,bs,ad1 oa,bs]
theorem KZ (hN:1073741824<=N) {m:Nat} {yL:List bj} {i:Nat} {xs:yQ} {t:List bj} {tl ti:Int} (hx:xs.length<=1048576) (hm:m<=5) :
  d6 N N (m:Int) (nB m yL i) t tl ti xs (xs.length:Int) 0=some (bif xs.all (fun v=>inR v 0 ((m:Int)-1)) then .inr (pK m yL i xs xs.length,(xs.length:Int)) else .inl false):=by
 have h:=F0 (fun k (s:List Bool) j=>d6 N k (m:Int) s t tl ti xs (xs.length:Int) j) xs.length false (fun j=>if h:j<xs.length then inR xs[j] 0 ((m:Int)-1) else true) (pK m yL i xs) (pK m yL i xs xs.length,(xs.length:Int))
  (fun k j hj=>DK hx hm k j hj)
  (fun k=>by
   show d6 N (k+1) (m:Int) _ t tl ti xs _ (xs.length:Int)=_
   rw [d6,dge oa,am]) N 0 oa oa
 rw [iP,mb xs (fun v=>inR v 0 ((m:Int)-1)) _ (fun j hj=>by rw [jg hj]),Jm] at h
 exact h
theorem DL (hN:1073741824<=N) {m:Nat} {yL:List bj} (ha:dz yL) (hm:m<=5) (k i:Nat) (h:i<yL.length) :
  d7 N (k+1) (m:Int) (nB m yL i) yL (yL.length:Int) (i:Int)=bif (if h:i<yL.length then my m yL[i] else true) then d7 N k (m:Int) (nB m yL (i+1)) yL (yL.length:Int) ((i+1:Nat):Int) else some (.inl false):=by
 have hl:=ha.1
 obtain ⟨g1,g2⟩:=ha.2 _ (bF h)
 rw [d7,dlt h,ag,be h,bs,qk hN g1,bs,gK,bs,jg h]
 unfold my
 cases oM yL[i].1 with
 | false=>simp only [jv,pO,cW,am,ag]
 | true =>
  cases inR (yL[i].2.length:Int) 1 5 with
  | false=>simp only [jv,pO,cW,am,ag]
  | true =>
   simp only [ag,cW]
   rw [KZ hN g2.1 hm,bs]
   cases yL[i].2.all fun v=>inR v 0 ((m:Int)-1) with
   | false=>simp only [am,lpS]
   | true =>
    rw [ag,iW,ad1 oa,bs,Gl m yL h,ag]
theorem Kc (hN:1073741824<=N) {m:Nat} {yL:List bj} (ha:dz yL) (hm:m<=5) :
  d7 N N (m:Int) (List.replicate m false) yL (yL.length:Int) 0=some (bif yL.all (my m) then .inr (nB m yL yL.length,(yL.length:Int)) else .inl false):=by
 have hl:=ha.1
 have h:=F0 (fun k (s:List Bool) i=>d7 N k (m:Int) s yL (yL.length:Int) i) yL.length false (fun i=>if h:i<yL.length then my m yL[i] else true) (nB m yL) (nB m yL yL.length,(yL.length:Int))
  (fun k i h=>DL hN ha hm k i h)
  (fun k=>by
   show d7 N (k+1) (m:Int) _ yL _ (yL.length:Int)=_
   rw [d7,dge oa,am]) N 0 oa oa
 rw [iP,mb yL (my m) _ (fun i hi=>by rw [jg hi]),<- JM] at h
 exact h
theorem LI (hN:1073741824<=N) {xs:List Bool} (hx:xs.length<=1048576):eX N N xs (xs.length:Int) 0=some (bif xs.all id then .inr (xs.length:Int) else .inl false) :=
 vU (fun k i=>eX N k xs (xs.length:Int) i) xs id hN hx
  (fun k i h=>by
   show eX N (k+1) _ _ (i:Int)=_
   rw [eX,dlt h,ag,be h,bs,ad1 oa,bs];rfl)
  (fun k=>by
   show eX N (k+1) _ _ (xs.length:Int)=_
   rw [eX,dge oa,am])
theorem GB {m:Nat} {yL:List bj}:(nB m yL yL.length).all id=pc m yL:=by
 unfold nB pc
 rw [Ht,iR,fC]
theorem AW {n:Int} {yL:List bj} {out:yQ} (h:inR n 1 5=false):et n yL out=false:=by unfold et;rw [h];rfl
theorem kQ (hN:1073741824<=N) {n:Int} {yL:List bj} {out:yQ} (ha:dz yL) (ho:okI out):gH N n yL out=some (et n yL out):=by
 have hl:=ha.1
 unfold gH
 rw [gK,bs,gK,bs]
 cases hn:inR n 1 5 with
 | false=>rw [AW hn];rfl
 | true =>
  have hn':=cg.1 hn
  unfold et
  rw [hn,ag,vi hN ho.1 oa,bs]
  cases inR (yL.length:Int) 1 4 with
  | false=>rfl
  | true =>
   cases jx out n with
   | false=>rfl
   | true =>
    obtain ⟨m,rfl⟩:=nV (by omega:0<=n)
    simp only [ag,Bool.and_self,cW]
    rw [xB (by decide) oa,bs,Kc hN ha oa,bs]
    cases yL.all (my m) with
    | false=>rfl
    | true =>
     simp only [ag,lpS,cW]
     rw [LI hN (by unfold nB;rw [y6];omega),bs,GB]
     cases pc m yL <;> rfl
theorem lj (hN:1073741824<=N) {s:ByteArray} {xs:yQ} {v:Int} (hx:okI xs):gd N s xs v=some (decide (v∈xs)):=by
 have hl:=hx.1
 have:=yW (fun k i=>du N k v s xs i) xs (fun x=>decide (x=v)) (fun _=>true) (xs.length:Int) oa
  (fun k i h=>by
   show du N (k+1) v s xs (i:Int)=_
   rw [du,dlt h,ag,be h,bs,ad1 oa,bs,Fj])
  (fun k=>by
   show du N (k+1) v s xs (xs.length:Int)=_
   rw [du,dge oa,am]) N 0 oa oa
 rw [gS] at this
 have this':du N N v s xs 0=_:=this
 unfold gd
 rw [this',bs]
 cases hf:xs.find? (fun x=>decide (x=v)) with
 | none =>
  have:v∉xs:=fun hm=>by have:=(List.find?_eq_none.1 hf) v hm;simp at this
  simp [lpS,this]
 | some y =>
  have h1:=List.find?_some hf
  have h2:=AK hf
  have:v∈xs:=by simp at h1;rw [<- h1];exact h2
  simp [lpS,this]
theorem lD (hN:1073741824<=N) {s:ByteArray} {xs:yQ} {v:Int} (hx:okI xs):ga N s xs v=some (decide (v∈xs)):=by
 unfold ga;rw [wV hN hx.1,bs]
theorem KS (hN:1073741824<=N) {n:Int} {yL:List bj} {out:yQ} {i:Nat} (h:i<yL.length) (hn:n<=5) (h0:0<=n) (hx:yL[i].2.length<=1048576) :
  eL N N n yL out (i:Int) 0=some (bif yL[i].2.all (fun v=>inR v 0 (n-1)) then .inr (yL[i].2.length:Int) else .inl false) :=
 vU (fun k2 j=>eL N k2 n yL out (i:Int) j) yL[i].2 (fun v=>inR v 0 (n-1)) hN hx
  (fun k2 j hj=>by
   show eL N (k2+1) n yL out (i:Int) (j:Int)=_
   rw [eL,be h,bs,dlt hj,ag,bs,be hj,bs,eu oa oa,bs,fg,bs,ad1 oa,bs])
  (fun k2=>by
   show eL N (k2+1) n yL out (i:Int) (yL[i].2.length:Int)=_
   rw [eL,be h,bs,dge oa,am])
theorem K5 (hN:1073741824<=N) {n:Int} {yL:List bj} {out:yQ} (ha:dz yL) (hn:n<=5) (h0:0<=n) :
  eV N N n yL out 0=some (bif yL.all (my n) then .inr (yL.length:Int) else .inl false) :=
 vU (fun k i=>eV N k n yL out i) yL (my n) hN ha.1
  (fun k i h=>by
   have hl:=ha.1
   obtain ⟨g1,g2⟩:=ha.2 _ (bF h)
   show eV N (k+1) n yL out (i:Int)=_
   rw [eV,dlt h,ag,be h,bs,qj hN g1,bs,bs,fg,bs]
   unfold my
   cases oM yL[i].1 with
   | false=>simp only [jv,pO,cW,am,ag]
   | true =>
    cases inR (yL[i].2.length:Int) 1 5 with
    | false=>simp only [jv,pO,cW,am,ag]
    | true =>
     simp only [ag,cW]
     rw [KS hN h hn h0 g2.1,bs]
     cases yL[i].2.all fun v=>inR v 0 (n-1) with
     | false=>simp only [am,lpS]
     | true =>
      rw [ag,iW,ad1 oa,bs,ag])
  (fun k=>by
   show eV N (k+1) n yL out (yL.length:Int)=_
   rw [eV,dge oa,am])
theorem KX (hN:1073741824<=N) {n v:Int} {yL:List bj} {out:yQ} (ha:dz yL) :
  dX N N n yL out v false 0=some (yL.any (fun a=>decide (v∈a.2)),(yL.length:Int)):=by
 have hl:=ha.1
 exact gC (fun k2 (s:Bool) j=>dX N k2 n yL out v s j) yL.length (fun j=>(yL.take j).any fun a=>decide (v∈a.2)) (yL.any (fun a=>decide (v∈a.2)),(yL.length:Int))
  (fun k2 j hj=>by
   obtain ⟨g1,g2⟩:=ha.2 _ (bF hj)
   show dX N (k2+1) n yL out v _ (j:Int)=_
   rw [dX,dlt hj,ag,wb hj,ad1 oa,bs,be hj,bs,lj hN g2,bs,bs]
   cases (yL.take j).any fun a=>decide (v∈a.2) <;> rfl)
  (fun k2=>by
   show dX N (k2+1) n yL out v _ (yL.length:Int)=_
   rw [dX,dge oa,am,fC]) N 0 oa oa
theorem LH (hN:1073741824<=N) {m:Nat} {yL:List bj} {out:yQ} (ha:dz yL) (hm:m<=5) :
  eS N N (m:Int) yL out 0=some (bif pc m yL then .inr (m:Int) else .inl false):=by
 have h:=mw (fun k i=>eS N k (m:Int) yL out i) m oa false (fun v=>yL.any fun a=>decide ((v:Int)∈a.2)) (m:Int)
  (fun k v h=>by
   show eS N (k+1) (m:Int) yL out (v:Int)=_
   rw [eS,dlt h,ag,KX hN ha,bs,lpB]
   simp only []
   rw [ad1 oa,bs])
  (fun k=>by
   show eS N (k+1) (m:Int) yL out (m:Int)=_
   rw [eS,dge oa,am]) N 0 oa oa
 unfold pc
 rw [iR]
 rw [iP] at h
 exact h
theorem KW (hN:1073741824<=N) {n:Int} {yL:List bj} {out:yQ} (ho:out.length<=1048576) (hn:n<=5) (h0:0<=n) :
  eU N N n yL out 0=some (bif jx out n then .inr (out.length:Int) else .inl false):=by
 have h:=mw (fun k i=>eU N k n yL out i) out.length oa false (fun i=>inR (out.getD i 0) 0 (n-1)&&!decide (out.getD i 0∈out.take i)) (out.length:Int)
  (fun k i h=>by
   show eU N (k+1) n yL out (i:Int)=_
   rw [eU,dlt h,ag,be h,bs,eu oa oa,bs,fg,bs,show ((0:Int))=((0:Nat):Int) from rfl,lc (cE _) oa,bs,bs,gS,pj hN (by simp;omega),bs,ad1 oa,bs]
   simp only [bP h,pN,show ((0:Nat):Int)=0 from rfl]
   cases inR out[i] 0 (n-1)
   ·rfl
   ·cases decide (out[i]∈out.take i) <;> rfl)
  (fun k=>by
   show eU N (k+1) n yL out (out.length:Int)=_
   rw [eU,dge oa,am]) N 0 oa oa
 rw [iP] at h
 exact h
theorem fU (hN:1073741824<=N) {n:Int} {yL:List bj} {out:yQ} (ha:dz yL) (ho:okI out):eI N n yL out=some (et n yL out):=by
 have hl:=ha.1
 have hol:=ho.1
 unfold eI
 rw [fg,bs,fg,bs]
 cases hn:inR n 1 5 with
 | false=>rw [AW hn];rfl
 | true =>
  have hn':=cg.1 hn
  unfold et
  rw [hn]
  cases inR (yL.length:Int) 1 4 with
  | false=>rfl
  | true =>
   simp only [ag,cW]
   by_cases hlen:n<(out.length:Int)
   ·have:jx out n=false:=by
     rw [<- w5];intro h
     have:=FK oa h;omega
    rw [aW hlen,ag,this];rfl
   ·obtain ⟨m,rfl⟩:=nV (by omega:0<=n)
    rw [ba hlen,am,K5 hN ha oa oa,bs]
    cases yL.all (my m) with
    | false=>rw [pO,jv];rfl
    | true =>
     simp only [ag,lpS,wL]
     rw [LH hN ha oa,bs]
     cases pc m yL with
     | false=>rw [pO];rfl
     | true =>
      simp only [ag,lpS,wL]
      rw [KW hN hol oa oa,bs]
      cases jx out m <;> rfl
def rP (n:Int) (yL:List bj) (out:yQ) (rows:Int):Int:=bif et n yL out&&inR rows 0 1000000 then 2*n*yL.length*rows else 0
theorem kU {n:Int} {yL:List bj} {out:yQ} (h:et n yL out=true):1<=n/\n<=5/\1<=(yL.length:Int)/\(yL.length:Int)<=4:=by
 unfold et at h
 simp only [bU,cg] at h
 exact ⟨h.1.1.1.1.1,h.1.1.1.1.2,h.1.1.1.2.1,h.1.1.1.2.2⟩
theorem Bj {n l r:Int} (h1:1<=n/\n<=5) (h2:1<=l/\l<=4) (h3:0<=r/\r<=1000000):0<=2*n*l/\2*n*l<=40/\0<=2*n*l*r/\2*n*l*r<=40000000:=by
 have a:0<=2*n*l/\2*n*l<=40:=by
  have:=lB (show 2*n<=10 by omega) h2.2 oa oa
  exact ⟨nY oa oa,oa⟩
 refine ⟨a.1,a.2,nY a.1 h3.1,?_⟩
 have:=lB a.2 h3.2 h3.1 oa
 omega
theorem xI (hN:1073741824<=N) {n:Int} {yL:List bj} {out:yQ} {rows:Int} (ha:dz yL) (ho:okI out):mC N n yL out rows=some (rP n yL out rows):=by
 unfold mC rP
 rw [kQ hN ha ho,bs,gK,bs]
 cases hq:et n yL out
 ·rfl
 cases hr:inR rows 0 1000000
 ·rfl
 obtain ⟨h1,h2,h3,h4⟩:=kU hq
 have h5:=cg.1 hr
 obtain ⟨b1,b2,b3,b4⟩:=Bj ⟨h1,h2⟩ ⟨h3,h4⟩ h5
 simp only [ag,Bool.and_self]
 rw [eh oa oa,bs,eh oa oa,bs,eh oa oa,bs]
theorem xR (hN:1073741824<=N) {n:Int} {yL:List bj} {out:yQ} {rows:Int} (ha:dz yL) (ho:okI out):jG N n yL out rows=some (rP n yL out rows):=by
 unfold jG rP
 rw [fU hN ha ho,bs,fg,bs]
 cases hq:et n yL out
 ·rfl
 cases hr:inR rows 0 1000000
 ·rfl
 obtain ⟨h1,h2,h3,h4⟩:=kU hq
 have h5:=cg.1 hr
 obtain ⟨b1,b2,b3,b4⟩:=Bj ⟨h1,h2⟩ ⟨h3,h4⟩ h5
 simp only [ag,Bool.and_self]
 rw [eh oa oa,bs,eh oa oa,bs,eh oa oa,bs]
end
section
variable {N:Nat}
theorem Mx (N:Nat):∀ (k:Nat) (x y:Int),gB N k x y=jJ N k x y:=by
 intro k
 induction k with
 | zero=>intro x y;rw [gB,jJ]
 | succ k ih=>intro x y;rw [gB,jJ];simp only [ih]
theorem CZ (N:Nat) (x y:Int):iJ N x y=me N x y:=by unfold iJ me;rw [Mx]
theorem E9 {a b:Int} (ha:0<=a) (hb:0<b) (h:a<=4611686018427387904):qt a b=some (a.tdiv b):=by
 have h1:0<=a.tdiv b:=Int.tdiv_nonneg ha oa
 have h2:a.tdiv b<=a:=Int.tdiv_le_self b ha
 unfold qt;rw [aX ⟨oa,pQ oa oa⟩]
theorem EU {a b:Int} (ha:0<=a) (hb:0<b):0<=a.tdiv b/\a.tdiv b<=a:=⟨Int.tdiv_nonneg ha oa,Int.tdiv_le_self b ha⟩
theorem GD:∀ (m k:Nat) (x y:Int),0<=x->0<=y->y<=m->m<k->(0<x\/0<y)->∃ g z,jJ N k x y=some (g,z)/\0<g:=by
 intro m
 induction m with
 | zero =>
  intro k x y hx hy hm hk h
  obtain ⟨k,rfl⟩:∃ k',k=k'+1:=⟨k-1,oa⟩
  obtain rfl:y=0:=by omega
  rw [jJ,show ((0:Int) != 0)=false from rfl,am]
  exact ⟨x,0,rfl,oa⟩
 | succ m ih =>
  intro k x y hx hy hm hk h
  obtain ⟨k,rfl⟩:∃ k',k=k'+1:=⟨k-1,oa⟩
  rw [jJ]
  by_cases h0:y=0
  ·subst h0
   rw [show ((0:Int) != 0)=false from rfl,am]
   exact ⟨x,0,rfl,oa⟩
  ·rw [show (y != 0)=true by simpa using h0,ag,tt h0,bs]
   obtain ⟨t1,t2⟩:=Bf (b:=y) hx oa
   exact ih k y (x.tmod y) hy t1 oa oa (.inl oa)
theorem C4 (hN:1073741824<=N) {x y:Int} (hx:0<=x) (hy:0<=y) (h1:y<=1000000000) (h:0<x\/0<y):∃ g,me N x y=some g/\0<g:=by
 obtain ⟨g,z,e,hg⟩:=GD (N:=N) 1000000000 N x y hx hy oa oa h
 refine ⟨g,?_,hg⟩
 unfold me;rw [e,bs,lpB]
abbrev eD:=Int × Int
theorem Db (N:Nat) (n d:Int):bw N n d=dr N n d:=by
 unfold bw dr
 rw [fg,gK,bs,bs,fg,gK,bs,bs]
 unfold sH
 cases inR d 1 1000000000
 ·rfl
 cases inR n (-1000000000) 1000000000
 ·rfl
 rw [ag,ag,ag,ag]
 cases sb 0 n with
 | none=>rfl
 | some z=>rw [bs,bs,bs,CZ]
theorem CU (hN:1073741824<=N) (n d:Int):∃ b,dr N n d=some b/\(b=true->1<=d/\d<=1000000000/\-1000000000<=n/\n<=1000000000):=by
 unfold dr
 rw [gK,bs,gK,bs]
 cases h1:inR d 1 1000000000
 ·exact ⟨false,rfl,fun h=>by cases h⟩
 cases h2:inR n (-1000000000) 1000000000
 ·exact ⟨false,rfl,fun h=>by cases h⟩
 have h1':=cg.1 h1
 have h2':=cg.1 h2
 have hab:0<=imx n (0-n):=by unfold imx;split <;> omega
 obtain ⟨g,e,_⟩:=C4 (N:=N) hN hab (by omega:0<=d) oa (.inr oa)
 unfold sH
 rw [ag,ag,eu oa oa,bs,bs,e,bs]
 exact ⟨_,rfl,fun _=>⟨h1'.1,h1'.2,h2'.1,h2'.2⟩⟩
def wOk (N:Nat) (r:eD):Bool:=(dr N r.1 r.2).getD false&&decide (0<=r.1)
theorem vG (hN:1073741824<=N) {r:eD} (h:wOk N r=true):dr N r.1 r.2=some true/\0<=r.1/\r.1<=1000000000/\1<=r.2/\r.2<=1000000000:=by
 obtain ⟨b,e,hb⟩:=CU hN r.1 r.2
 unfold wOk at h
 rw [e,Option.getD_some,bU,dN] at h
 obtain ⟨rfl,h2⟩:=h
 have:=hb rfl
 exact ⟨e,h2,this.2.2.2,this.1,this.2.1⟩
theorem B3 (hN:1073741824<=N) (r:eD):wOk N r=true\/(wOk N r=false/\(dr N r.1 r.2=some false\/dr N r.1 r.2=some true/\r.1<0)):=by
 obtain ⟨b,e,hb⟩:=CU hN r.1 r.2
 unfold wOk
 rw [e,Option.getD_some]
 cases b with
 | false=>exact .inr ⟨rfl,.inl rfl⟩
 | true =>
  by_cases h:0<=r.1
  ·exact .inl (by rw [aW h];rfl)
  ·exact .inr ⟨by rw [ba h];rfl,.inr ⟨rfl,oa⟩⟩
def sd (N:Nat) (d:Int) (r:eD):Int:=(d.tdiv ((me N d r.2).getD 1))*r.2
theorem yt (hN:1073741824<=N) {d:Int} {r:eD} (h:wOk N r=true) (h0:0<=d) (h1:d<=1000):∃ g,me N d r.2=some g/\qt d g=some (d.tdiv g)/\ml (d.tdiv g) r.2=some (sd N d r)/\0<=sd N d r:=by
 obtain ⟨_,_,_,k1,k2⟩:=vG hN h
 obtain ⟨g,e,hg⟩:=C4 (N:=N) hN h0 (by omega:0<=r.2) k2 (.inr oa)
 obtain ⟨t1,t2⟩:=EU h0 hg
 have hm:0<=d.tdiv g*r.2:=nY t1 oa
 have hm2:d.tdiv g*r.2<=1000*1000000000:=lB oa k2 oa oa
 have es:sd N d r=d.tdiv g*r.2:=by unfold sd;rw [e];rfl
 refine ⟨g,e,E9 h0 hg oa,?_,?_⟩
 ·rw [es,eh oa oa]
 ·rw [es];exact hm
def sD (N:Nat) (rs:List eD):Nat->Nat->Int->Option Int
 | 0,_,d=>some d
 | m+1,i,d=>if 1000<sd N d (rs.getD i (0,0)) then none else sD N rs m (i+1) (sd N d (rs.getD i (0,0)))
theorem Mi (hN:1073741824<=N) {rs:List eD} (ha:∀ i,i<rs.length->wOk N (rs.getD i (0,0))=true):∀ m i d d',i+m=rs.length->0<=d->d<=1000->sD N rs m i d=some d'->0<=d'/\d'<=1000:=by
 intro m
 induction m with
 | zero=>intro i d d' _ h0 h1 h;unfold sD at h;cases h;exact ⟨h0,h1⟩
 | succ m ih =>
  intro i d d' hi h0 h1 h
  unfold sD at h
  obtain ⟨g,_,_,_,g4⟩:=yt hN (ha i oa) h0 h1
  by_cases hc:1000<sd N d (rs.getD i (0,0))
  ·rw [aX hc] at h;cases h
  ·rw [a9 hc] at h;exact ih (i+1) _ d' oa g4 oa h
theorem sq {rs:List eD} {i:Nat} (h:i<rs.length):rs[i]=rs.getD i (0,0):=by simp [h]
def Dl (rs:List eD) (o:Option Int):Sum (yQ × Int) (Int × Int):=match o with | none=>.inl ([],0) | some d=>.inr (d,(rs.length:Int))
theorem Gg (hN:1073741824<=N) {rs:List eD} (hl:rs.length<=1048576):∀ m i k d,i+m=rs.length->m<k->0<=d->d<=1000 ->
  cK N k rs d (i:Int)=some (bif (List.range' i m).all (fun j=>wOk N (rs.getD j (0,0))) then Dl rs (sD N rs m i d) else .inl ([],0)):=by
 intro m
 induction m with
 | zero =>
  intro i k d hi hk h0 h1
  obtain ⟨k,rfl⟩:∃ k',k=k'+1:=⟨k-1,oa⟩
  obtain rfl:i=rs.length:=by omega
  rw [cK,dge oa,am];rfl
 | succ m ih =>
  intro i k d hi hk h0 h1
  obtain ⟨k,rfl⟩:∃ k',k=k'+1:=⟨k-1,oa⟩
  have h:i<rs.length:=by omega
  rw [cK,dlt h,ag,be h,bs,sq h,Db,wv,uj]
  rcases B3 hN (rs.getD i (0,0)) with hw | ⟨hw,hw2 | ⟨hw2,hw3⟩⟩
  ·obtain ⟨k1,k2,k3,k4,k5⟩:=vG hN hw
   obtain ⟨g,g1,g2,g3,g4⟩:=yt hN hw h0 h1
   rw [hw,k1,bs,ag,bs,ba oa,am,bs,CZ,g1,bs,g2,bs,bs,g3,bs,cW,sD]
   by_cases hc:1000<sd N d (rs.getD i (0,0))
   ·rw [aW hc,ag,aX hc]
    cases (List.range' (i+1) m).all (fun j=>wOk N (rs.getD j (0,0))) <;> rfl
   ·rw [ba hc,am,a9 hc,ad1 oa,bs,ih (i+1) k _ oa oa g4 oa]
  ·rw [hw,hw2,bs,am,jv,am]
  ·rw [hw,hw2,bs,ag,bs,aW hw3,ag,jv,am]
theorem Gc (hN:1073741824<=N) {rs:List eD} (hl:rs.length<=1048576):∀ m i k d,i+m=rs.length->m<k ->
  fM N k rs d rs (rs.length:Int) (i:Int)=some (bif (List.range' i m).all (fun j=>wOk N (rs.getD j (0,0))) then .inr (rs.length:Int) else .inl ([],0)):=by
 intro m
 induction m with
 | zero =>
  intro i k d hi hk
  obtain ⟨k,rfl⟩:∃ k',k=k'+1:=⟨k-1,oa⟩
  obtain rfl:i=rs.length:=by omega
  rw [fM,dge oa,am];rfl
 | succ m ih =>
  intro i k d hi hk
  obtain ⟨k,rfl⟩:∃ k',k=k'+1:=⟨k-1,oa⟩
  have h:i<rs.length:=by omega
  rw [fM,dlt h,ag,be h,bs,sq h,wv,uj]
  rcases B3 hN (rs.getD i (0,0)) with hw | ⟨hw,hw2 | ⟨hw2,hw3⟩⟩
  ·obtain ⟨k1,k2,k3,k4,k5⟩:=vG hN hw
   rw [hw,k1,bs,ag,ba oa,am,cW,ad1 oa,bs,ih (i+1) k d oa oa]
  ·rw [hw,hw2,bs,am,jv,am]
  ·rw [hw,hw2,bs,ag,aW hw3,ag,jv,am]
theorem Hm (hN:1073741824<=N) {rs:List eD} (hl:rs.length<=1048576) (ha:∀ i,i<rs.length->wOk N (rs.getD i (0,0))=true):∀ m i k d,i+m=rs.length->m<k->0<=d->d<=1000 ->
  fL N k rs d rs (rs.length:Int) (i:Int)=some (Dl rs (sD N rs m i d)):=by
 intro m
 induction m with
 | zero =>
  intro i k d hi hk h0 h1
  obtain ⟨k,rfl⟩:∃ k',k=k'+1:=⟨k-1,oa⟩
  obtain rfl:i=rs.length:=by omega
  rw [fL,dge oa,am];rfl
 | succ m ih =>
  intro i k d hi hk h0 h1
  obtain ⟨k,rfl⟩:∃ k',k=k'+1:=⟨k-1,oa⟩
  have h:i<rs.length:=by omega
  obtain ⟨g,g1,g2,g3,g4⟩:=yt hN (ha i h) h0 h1
  rw [fL,dlt h,ag,be h,bs,sq h,g1,bs,g2,bs,g3,bs,sD]
  by_cases hc:1000<sd N d (rs.getD i (0,0))
  ·rw [aW hc,ag,aX hc];rfl
  ·rw [ba hc,am,a9 hc,ad1 oa,bs,ih (i+1) k _ oa oa g4 oa]
def ku (rs:List eD) (d:Int) (i:Nat):yQ:=(rs.take i).map fun r=>r.1*d.tdiv r.2
theorem BK {rs:List eD} {d:Int} {i:Nat} (h:i<rs.length):ku rs d i++[(rs.getD i (0,0)).1*d.tdiv (rs.getD i (0,0)).2]=ku rs d (i+1):=by
 unfold ku;rw [gk h,fE,sq h];rfl
theorem yq {rs:List eD} {d:Int} {i:Nat}:(ku rs d i).length<=rs.length:=by unfold ku;simp;omega
theorem Em (hN:1073741824<=N) {d:Int} {r:eD} (h:wOk N r=true) (h0:0<=d) (h1:d<=1000):qt d r.2=some (d.tdiv r.2)/\ml r.1 (d.tdiv r.2)=some (r.1*d.tdiv r.2):=by
 obtain ⟨_,k0,k1,k2,k3⟩:=vG hN h
 obtain ⟨t1,t2⟩:=EU h0 (by omega:0<r.2)
 have hm:0<=r.1*d.tdiv r.2:=nY k0 t1
 have hm2:r.1*d.tdiv r.2<=1000000000*1000:=lB k1 oa t1 oa
 exact ⟨E9 h0 oa oa,eh oa oa⟩
theorem BF (hN:1073741824<=N) {rs:List eD} (hl:rs.length<=1048576) (ha:∀ i,i<rs.length->wOk N (rs.getD i (0,0))=true) {d:Int} (h0:0<=d) (h1:d<=1000) :
  dK N N rs d [] 0=some (ku rs d rs.length,(rs.length:Int)) :=
 gC (fun k (s:yQ) i=>dK N k rs d s i) rs.length (ku rs d) (ku rs d rs.length,(rs.length:Int))
  (fun k i h=>by
   obtain ⟨q1,q2⟩:=Em hN (ha i h) h0 h1
   have ho:=yq (rs:=rs) (d:=d) (i:=i)
   show dK N (k+1) rs d (ku rs d i) (i:Int)=_
   rw [dK,dlt h,ag,be h,bs,bs,sq h,q1,bs,q2,bs,bA (by decide) (by simp;omega),bs,BK h,ad1 oa,bs])
  (fun k=>by
   show dK N (k+1) rs d (ku rs d rs.length) (rs.length:Int)=_
   rw [dK,dge oa,am]) N 0 oa oa
theorem Gd (hN:1073741824<=N) {rs:List eD} (hl:rs.length<=1048576) (ha:∀ i,i<rs.length->wOk N (rs.getD i (0,0))=true) {d:Int} (h0:0<=d) (h1:d<=1000) :
  dJ N N d [] rs (rs.length:Int) 0=some (ku rs d rs.length,(rs.length:Int)) :=
 gC (fun k (s:yQ) i=>dJ N k d s rs (rs.length:Int) i) rs.length (ku rs d) (ku rs d rs.length,(rs.length:Int))
  (fun k i h=>by
   obtain ⟨q1,q2⟩:=Em hN (ha i h) h0 h1
   have ho:=yq (rs:=rs) (d:=d) (i:=i)
   show dJ N (k+1) d (ku rs d i) rs (rs.length:Int) (i:Int)=_
   rw [dJ,dlt h,ag,be h,bs,sq h,q1,bs,q2,bs,bA (by decide) (by simp;omega),bs,BK h,ad1 oa,bs])
  (fun k=>by
   show dJ N (k+1) d (ku rs d rs.length) rs (rs.length:Int) (rs.length:Int)=_
   rw [dJ,dge oa,am]) N 0 oa oa
theorem FM (hN:1073741824<=N) {rs:List eD} (hl:rs.length<=1048576):∃ v:yQ × Int,dv N rs=some v/\jh N rs=some v/\v.1.length<=1048576:=by
 have s1:=Gg hN hl rs.length 0 N 1 oa oa oa oa
 have i1:=Gc hN hl rs.length 0 N 1 oa oa
 have s1':cK N N rs 1 0=_:=s1
 have i1':fM N N rs 1 rs (rs.length:Int) 0=_:=i1
 unfold dv jh
 rw [s1',i1',bs,bs]
 cases ha:(List.range' 0 rs.length).all (fun j=>wOk N (rs.getD j (0,0))) with
 | false=>exact ⟨([],0),by rw [am,lN],by rw [am,lN],cE _⟩
 | true =>
  have ha':∀ i,i<rs.length->wOk N (rs.getD i (0,0))=true:=fun i h=>(dL.1 ha) i (by simp;omega)
  have i2:=Hm hN hl ha' rs.length 0 N 1 oa oa oa oa
  have i2':fL N N rs 1 rs (rs.length:Int) 0=_:=i2
  rw [ag,ag,iW,i2',bs]
  cases hd:sD N rs rs.length 0 1 with
  | none=>exact ⟨([],0),by unfold Dl;rw [lN],by unfold Dl;rw [lN],cE _⟩
  | some d =>
   obtain ⟨d0,d1⟩:=Mi hN ha' rs.length 0 1 d oa oa oa hd
   unfold Dl
   rw [iW,iW]
   simp only []
   rw [BF hN hl ha' d0 d1,Gd hN hl ha' d0 d1,bs,lpB]
   exact ⟨_,rfl,rfl,by have:=yq (rs:=rs) (d:=d) (i:=rs.length);show (ku rs d rs.length).length<=_;omega⟩
end
theorem AM {σ V:Type} (L1 L2:Nat->σ->Int->Option V) (n:Nat) (I:Nat->σ->Prop) (P:V->Prop)
  (hstep:∀ k i s,i<n->I i s->(∃ s',L1 (k+1) s (i:Int)=L1 k s' ((i+1:Nat):Int)/\L2 (k+1) s (i:Int)=L2 k s' ((i+1:Nat):Int)/\I (i+1) s')\/∃ v,L1 (k+1) s (i:Int)=some v/\L2 (k+1) s (i:Int)=some v/\P v)
  (hend:∀ k s,I n s->∃ v,L1 (k+1) s (n:Int)=some v/\L2 (k+1) s (n:Int)=some v/\P v) :
  ∀ k i s,i<=n->n-i<k->I i s->∃ v,L1 k s (i:Int)=some v/\L2 k s (i:Int)=some v/\P v:=by
 intro k
 induction k with
 | zero=>intro i s hi hk;omega
 | succ k ih =>
  intro i s hi hk hI
  by_cases h:i<n
  ·rcases hstep k i s h hI with ⟨s',e1,e2,hI'⟩ | ⟨v,e1,e2,hP⟩
   ·rw [e1,e2];exact ih (i+1) s' oa oa hI'
   ·exact ⟨v,e1,e2,hP⟩
  ·obtain rfl:i=n:=by omega
   exact hend k s hI
section
variable {N:Nat}
theorem Mz (N:Nat):∀ (k:Nat) (x:Int) (a b:yQ),g9 N k x a b=cS N k x a b:=by
 intro k
 induction k with
 | zero=>intro x a b;rw [g9,cS]
 | succ k ih=>intro x a b;rw [g9,cS];simp only [ih]
theorem u9 (N:Nat) (n:Int):fT N n=d9 N n:=by unfold fT d9;rw [Mz]
theorem A9 {x:Int} (h0:0<=x) (h1:x<=9223372036854775807):qt x 10=some (x / 10):=by
 have e:x.tdiv 10=x / 10:=Int.tdiv_eq_ediv_of_nonneg h0
 unfold qt
 rw [aX ⟨by decide,by rw [e];unfold rng;simp only [bU,dN];omega⟩,e]
theorem A5 (x:Int):rm x 10=some (x.tmod 10):=tt (by decide)
theorem MG:∀ (m k:Nat) (x:Int) (a b:yQ),0<=x->x<=9223372036854775807->x<10 ^ m->m<k->b.length+m<=1048576->∃ y b',cS N k x a b=some (y,b')/\b'.length<=b.length+m:=by
 intro m
 induction m with
 | zero =>
  intro k x a b h0 hm h1 hk hb
  obtain ⟨k,rfl⟩:∃ k',k=k'+1:=⟨k-1,oa⟩
  rw [cS,ba (by simp at h1;omega),am]
  exact ⟨x,b,rfl,oa⟩
 | succ m ih =>
  intro k x a b h0 hm h1 hk hb
  obtain ⟨k,rfl⟩:∃ k',k=k'+1:=⟨k-1,oa⟩
  rw [cS]
  by_cases hx:0<x
  ·have hd:x / 10<10 ^ m:=by rw [rk] at h1;omega
   rw [aW hx,ag,A5,bs,bA (by decide) (by simp;omega),bs,A9 h0 hm,bs]
   obtain ⟨y,b',e,hl⟩:=ih k (x / 10) a (b++[x.tmod 10]) oa oa hd oa (by rw [b8,bT];omega)
   rw [b8,bT] at hl
   exact ⟨y,b',e,oa⟩
  ·rw [ba hx,am]
   exact ⟨x,b,rfl,oa⟩
theorem yy (hN:1073741824<=N) {n:Int} (h0:0<=n) (h1:n<=9223372036854775807):∃ b,d9 N n=some b/\b.length<=19:=by
 have hp:(10:Int) ^ 19=10000000000000000000:=by decide
 obtain ⟨y,b,e,hl⟩:=MG (N:=N) 19 N n [] [] h0 h1 (by rw [hp];omega) oa (by rw [fH];omega)
 refine ⟨b,?_,by rw [fH] at hl;omega⟩
 unfold d9;rw [e,bs,lpB]
def vF (xs:yQ):Option Bool :=
 bif xs.all (fun v=>inR v 0 9) then
  (bif decide ((xs.length:Int)<=60) then (bif ((xs.length:Int) == 0) then some true else (sb (xs.length:Int) 1).bind fun x=>(ix xs x).bind fun y=>some (y != 0)) else some false)
 else some false
theorem AC (hN:1073741824<=N) {xs:yQ} (hx:xs.length<=1048576):gq N xs=vF xs:=by
 have h:=vU (fun k i=>fx N k xs i) xs (fun v=>inR v 0 9) hN hx
  (fun k i h=>by
   show fx N (k+1) xs (i:Int)=_
   rw [fx,dlt h,ag,be h,bs,fg,bs,ad1 oa,bs])
  (fun k=>by
   show fx N (k+1) xs (xs.length:Int)=_
   rw [fx,dge oa,am])
 unfold gq vF
 rw [h,bs]
 cases xs.all fun v=>inR v 0 9 <;> rfl
theorem rz (hN:1073741824<=N) {xs:yQ} (hx:xs.length<=1048576):gm N xs=vF xs:=by
 have h:=vU (fun k i=>fw N k xs (xs.length:Int) xs (xs.length:Int) i) xs (fun v=>inR v 0 9) hN hx
  (fun k i h=>by
   show fw N (k+1) xs (xs.length:Int) xs (xs.length:Int) (i:Int)=_
   rw [fw,dlt h,ag,be h,bs,gK,bs,ad1 oa,bs])
  (fun k=>by
   show fw N (k+1) xs (xs.length:Int) xs (xs.length:Int) (xs.length:Int)=_
   rw [fw,dge oa,am])
 unfold gm vF
 rw [h,bs]
 cases xs.all fun v=>inR v 0 9 <;> rfl
theorem xq {xs:yQ} (hx:xs.length<=1048576):∃ b,vF xs=some b/\(b=true->xs.length<=60/\∀ v∈xs,0<=v/\v<=9):=by
 unfold vF
 cases ha:xs.all fun v=>inR v 0 9 with
 | false=>exact ⟨false,rfl,fun h=>by cases h⟩
 | true =>
  rw [ag]
  have hd:∀ v∈xs,0<=v/\v<=9:=fun v hv=>cg.1 ((dL.1 ha) v hv)
  by_cases h60:(xs.length:Int)<=60
  ·rw [aW h60,ag]
   by_cases h0:xs.length=0
   ·rw [show ((xs.length:Int) == 0)=true by simp [h0],ag]
    exact ⟨true,rfl,fun _=>⟨oa,hd⟩⟩
   ·rw [show ((xs.length:Int) == 0)=false by simp;simpa using h0,am,eu oa oa,bs,show (xs.length:Int)-1=((xs.length-1:Nat):Int) by omega,be oa,bs]
    exact ⟨_,rfl,fun _=>⟨oa,hd⟩⟩
  ·rw [ba h60,am]
   exact ⟨false,rfl,fun h=>by cases h⟩
theorem Mv (N:Nat):∀ (k:Nat) (a b c:yQ) (d i:Int),iv N k a b c d i=cp N k a b c d i:=by
 intro k
 induction k with
 | zero=>intro a b c d i;rw [iv,cp]
 | succ k ih=>intro a b c d i;rw [iv,cp];simp only [ih]
theorem MC {a b:yQ}:∀ (m k:Nat) (c:Int) (out:yQ) (i:Nat),a.length<=i->0<=c->c<=1000000000->c<10 ^ m->m<k->out.length+m<=1048576->i+m<=1048576->∃ o y z,cp N k a b out c (i:Int)=some (o,y,z)/\o.length<=out.length+m:=by
 intro m
 induction m with
 | zero =>
  intro k c out i hi h0 hm h1 hk hb hi2
  obtain ⟨k,rfl⟩:∃ k',k=k'+1:=⟨k-1,oa⟩
  rw [cp,dge oa,am,ba (by simp at h1;omega),am]
  exact ⟨out,c,_,rfl,oa⟩
 | succ m ih =>
  intro k c out i hi h0 hm h1 hk hb hi2
  obtain ⟨k,rfl⟩:∃ k',k=k'+1:=⟨k-1,oa⟩
  rw [cp,dge oa,am]
  by_cases hx:0<c
  ·have hd:c / 10<10 ^ m:=by rw [rk] at h1;omega
   rw [aW hx,ag,A5,bs,bA (by decide) (by simp;omega),bs,A9 h0 oa,bs,ad1 oa,bs]
   obtain ⟨o,y,z,e,hl⟩:=ih k (c / 10) (out++[c.tmod 10]) (i+1) oa oa oa hd oa (by rw [b8,bT];omega) oa
   rw [b8,bT] at hl
   exact ⟨o,y,z,e,oa⟩
  ·rw [ba hx,am]
   exact ⟨out,c,_,rfl,oa⟩
theorem My {a b:yQ} (ha:a.length<=1000) (hv:∀ v∈a,0<=v/\v<=1000000):∀ (m k:Nat) (c:Int) (out:yQ) (i:Nat),i+m=a.length->0<=c->c<=1000000->m+20<k->out.length<=i->∃ o y z,cp N k a b out c (i:Int)=some (o,y,z)/\o.length<=2000:=by
 intro m
 induction m with
 | zero =>
  intro k c out i hi h0 h1 hk hb
  have hp:(10:Int) ^ 7=10000000:=by decide
  obtain ⟨o,y,z,e,hl⟩:=MC (N:=N) (a:=a) (b:=b) 7 k c out i oa h0 oa (by rw [hp];omega) oa oa oa
  exact ⟨o,y,z,e,oa⟩
 | succ m ih =>
  intro k c out i hi h0 h1 hk hb
  obtain ⟨k,rfl⟩:∃ k',k=k'+1:=⟨k-1,oa⟩
  have h:i<a.length:=by omega
  have hx:=hv _ (bF h)
  rw [cp,dlt h,ag,be h,bs,ce oa oa,bs,A5,bs,bA (by decide) (by simp;omega),bs,A9 oa oa,bs,ad1 oa,bs]
  exact ih k _ _ (i+1) oa oa oa oa (by rw [b8,bT];omega)
def f9 (xs:yQ):Nat->Nat
 | 0=>0
 | m+1=>if xs.getD m 0=0 then f9 xs m else m+1
theorem wu (xs:yQ):∀ m,f9 xs m<=m
 | 0=>bN _
 | m+1=>by
  have:=wu xs m
  unfold f9;split <;> omega
theorem GO {b xs:yQ} (hx:xs.length<=1048576):∀ m k,m<=xs.length->m<k->km N k b xs (m:Int)=some ((f9 xs m:Nat):Int):=by
 intro m
 induction m with
 | zero =>
  intro k hm hk
  obtain ⟨k,rfl⟩:∃ k',k=k'+1:=⟨k-1,oa⟩
  rw [km,ba oa,am];rfl
 | succ m ih =>
  intro k hm hk
  obtain ⟨k,rfl⟩:∃ k',k=k'+1:=⟨k-1,oa⟩
  have h:m<xs.length:=by omega
  rw [km,aW oa,ag,eu oa oa,bs,show ((m+1:Nat):Int)-1=(m:Int) by omega,be h,bs,f9,bP h]
  by_cases e:xs[m]=0
  ·rw [show (xs[m] == 0)=true by simpa using e,ag,aX e,bs,ih k oa oa]
  ·rw [show (xs[m] == 0)=false by simpa using e,am,a9 e]
theorem Ko {b xs:yQ} (hx:xs.length<=1048576):∀ m k,m<=xs.length->m<k->kc N k b (xs.take m)=some (xs.take (f9 xs m)):=by
 intro m
 induction m with
 | zero =>
  intro k hm hk
  obtain ⟨k,rfl⟩:∃ k',k=k'+1:=⟨k-1,oa⟩
  rw [kc,ba (by simp),am];rfl
 | succ m ih =>
  intro k hm hk
  obtain ⟨k,rfl⟩:∃ k',k=k'+1:=⟨k-1,oa⟩
  have h:m<xs.length:=by omega
  have hl:(xs.take (m+1)).length=m+1:=by rw [dh];omega
  have hg:(xs.take (m+1))[m]'oa=xs[m]:=uh
  rw [kc,hl,aW oa,ag,eu oa oa,bs,show ((m+1:Nat):Int)-1=(m:Int) by omega,be oa,bs,f9,bP h,hg]
  by_cases e:xs[m]=0
  ·rw [show (xs[m] == 0)=true by simpa using e,ag,aX e,bs,show (0:Int)=((0:Nat):Int) from rfl,lc (cE _) oa,bs,gS,List.take_take,ru oa,ih k oa oa]
  ·rw [show (xs[m] == 0)=false by simpa using e,am,a9 e]
theorem FN (hN:1073741824<=N) {a:yQ} (ha:a.length<=1000) (hv:∀ v∈a,0<=v/\v<=1000000):∃ r:yQ × Bool,lk N a=some r/\iH N a=some r/\r.1.length<=60:=by
 obtain ⟨o,y,z,e,hl⟩:=My (N:=N) (b:=[]) ha hv a.length N 0 [] 0 oa oa oa oa (by simp)
 have e':cp N N a [] [] 0 0=_:=e
 have es:iv N N a [] [] 0 0=_:=(Mv N N a [] [] 0 0).trans e'
 have s1:=GO (N:=N) (b:=[]) (xs:=o) oa o.length N (bN _) oa
 have s2:=Ko (N:=N) (b:=[]) (xs:=o) oa o.length N (bN _) oa
 rw [fC] at s2
 have hle:=wu o o.length
 have hlen:(o.take (f9 o o.length)).length=f9 o o.length:=by rw [dh];omega
 have hS:lk N a=bif decide (60<((f9 o o.length:Nat):Int)) then some ([],false) else some (o.take (f9 o o.length),true):=by
  unfold lk
  rw [es,bs,lpB]
  simp only []
  rw [s2,bs,lpB,hlen]
 have hI:iH N a=bif decide (60<((f9 o o.length:Nat):Int)) then some ([],false) else some (o.take (f9 o o.length),true):=by
  unfold iH
  rw [e',bs,lpB]
  simp only []
  rw [s1,bs,lpB,show (0:Int)=((0:Nat):Int) from rfl,lc (cE _) oa,bs,gS]
 rw [hS,hI]
 by_cases h:60<((f9 o o.length:Nat):Int)
 ·rw [aW h,ag];exact ⟨_,rfl,rfl,cE _⟩
 ·rw [ba h,am];exact ⟨_,rfl,rfl,by show (o.take (f9 o o.length)).length<=60;omega⟩
theorem adN {i j:Nat} (h:i+j<=1000000):ad (i:Int) (j:Int)=some ((i+j:Nat):Int):=by rw [ce oa oa];congr 1
theorem D6 {x y:Int} (hx:0<=x/\x<=9) (hy:0<=y/\y<=9):0<=x*y/\x*y<=81:=⟨nY hx.1 hy.1,lB hx.2 hy.2 hy.1 oa⟩
theorem Kw (hN:1073741824<=N) {a b:yQ} (ha:a.length<=60) (hb:b.length<=60) (da:∀ v∈a,0<=v/\v<=9) (db:∀ v∈b,0<=v/\v<=9) {i:Nat} (hi:i<a.length) {C:Int} (hC:C<=500000) {l:yQ} (hl:l.length=a.length+b.length) (hv:∀ v∈l,0<=v/\v<=C) :
  ∃ v:yQ × Int,f5 N N a b [] l (i:Int) 0=some v/\dA N N b [] l (i:Int) a[i] a (a.length:Int) (i:Int) b (b.length:Int) 0=some v/\(v.1.length=a.length+b.length/\∀ x∈v.1,0<=x/\x<=C+4860):=by
 have hai:=da _ (bF hi)
 exact AM (fun k (s:yQ) j=>f5 N k a b [] s (i:Int) j) (fun k (s:yQ) j=>dA N k b [] s (i:Int) a[i] a (a.length:Int) (i:Int) b (b.length:Int) j) b.length
  (fun j s=>s.length=a.length+b.length/\∀ x∈s,0<=x/\x<=C+81*(j:Int)) (fun v=>v.1.length=a.length+b.length/\∀ x∈v.1,0<=x/\x<=C+4860)
  (fun k j s hj hI=>by
   obtain ⟨h1,h2⟩:=hI
   have hbj:=db _ (bF hj)
   obtain ⟨m1,m2⟩:=D6 hai hbj
   have hij:i+j<s.length:=by omega
   have hs:=h2 _ (bF hij)
   refine .inl ⟨s.set (i+j) (s[i+j]+a[i]*b[j]),?_,?_,by simpa using h1,fun x hx=>?_⟩
   ·show f5 N (k+1) a b [] s (i:Int) (j:Int)=_
    rw [f5,dlt hj,ag,adN oa,bs,bs,be hij,bs,be hi,bs,be hj,bs,eh oa oa,bs,ce oa oa,bs,bs,lS hij,bs,ad1 oa,bs]
   ·show dA N (k+1) b [] s (i:Int) a[i] a (a.length:Int) (i:Int) b (b.length:Int) (j:Int)=_
    rw [dA,dlt hj,ag,be hj,bs,adN oa,bs,be hij,bs,eh oa oa,bs,ce oa oa,bs,bs,lS hij,bs,ad1 oa,bs]
   ·rcases s6 hx with hx | rfl
    ·have:=h2 x hx;omega
    ·omega)
  (fun k s hI=>by
   obtain ⟨h1,h2⟩:=hI
   refine ⟨(s,(b.length:Int)),?_,?_,h1,fun x hx=>by have:=h2 x hx;omega⟩
   ·show f5 N (k+1) a b [] s (i:Int) (b.length:Int)=_
    rw [f5,dge oa,am]
   ·show dA N (k+1) b [] s (i:Int) a[i] a (a.length:Int) (i:Int) b (b.length:Int) (b.length:Int)=_
    rw [dA,dge oa,am]) N 0 l oa oa ⟨hl,fun x hx=>by have:=hv x hx;omega⟩
theorem JB (hN:1073741824<=N) {a b:yQ} (ha:a.length<=60) (hb:b.length<=60) (da:∀ v∈a,0<=v/\v<=9) (db:∀ v∈b,0<=v/\v<=9) {l:yQ} (hl:l.length=a.length+b.length) (hv:∀ v∈l,0<=v/\v<=0) :
  ∃ v:yQ × Int,f7 N N a b [] l 0=some v/\dy N N b [] l a (a.length:Int) 0=some v/\(v.1.length=a.length+b.length/\∀ x∈v.1,0<=x/\x<=500000) :=
 AM (fun k (s:yQ) i=>f7 N k a b [] s i) (fun k (s:yQ) i=>dy N k b [] s a (a.length:Int) i) a.length
  (fun i s=>s.length=a.length+b.length/\∀ x∈s,0<=x/\x<=4860*(i:Int)) (fun v=>v.1.length=a.length+b.length/\∀ x∈v.1,0<=x/\x<=500000)
  (fun k i s hi hI=>by
   obtain ⟨h1,h2⟩:=hI
   obtain ⟨⟨v,z⟩,e1,e2,h3,h4⟩:=Kw (N:=N) hN ha hb da db hi (C:=4860*(i:Int)) oa h1 h2
   refine .inl ⟨v,?_,?_,h3,fun x hx=>by have:=h4 x hx;omega⟩
   ·show f7 N (k+1) a b [] s (i:Int)=_
    rw [f7,dlt hi,ag,e1,bs,lpB,ad1 oa];rfl
   ·show dy N (k+1) b [] s a (a.length:Int) (i:Int)=_
    rw [dy,dlt hi,ag,be hi,bs,e2,bs,lpB,ad1 oa];rfl)
  (fun k s hI=>by
   obtain ⟨h1,h2⟩:=hI
   refine ⟨(s,(a.length:Int)),?_,?_,h1,fun x hx=>by have:=h2 x hx;omega⟩
   ·show f7 N (k+1) a b [] s (a.length:Int)=_
    rw [f7,dge oa,am]
   ·show dy N (k+1) b [] s a (a.length:Int) (a.length:Int)=_
    rw [dy,dge oa,am]) N 0 l oa oa ⟨hl,fun x hx=>by have:=hv x hx;omega⟩
theorem uZ (hN:1073741824<=N) {a b:yQ} (ha:a.length<=1048576) (hb:b.length<=1048576):∃ r:yQ × Bool,iO N a b=some r/\ic N a b=some r/\r.1.length<=60:=by
 unfold iO ic
 rw [AC hN ha,rz hN ha,AC hN hb,rz hN hb]
 obtain ⟨x,ex,hx⟩:=xq ha
 obtain ⟨y,ey,hy⟩:=xq hb
 rw [ex,ey]
 cases x with
 | false=>exact ⟨([],false),rfl,rfl,cE _⟩
 | true =>
  cases y with
  | false=>exact ⟨([],false),rfl,rfl,cE _⟩
  | true =>
   obtain ⟨a1,a2⟩:=hx rfl
   obtain ⟨b1,b2⟩:=hy rfl
   obtain ⟨⟨v,z⟩,e1,e2,h3,h4⟩:=JB (N:=N) hN a1 b1 a2 b2 (l:=List.replicate (a.length+b.length) 0) (by simp) (fun v hv=>by rw [List.eq_of_mem_replicate hv];omega)
   obtain ⟨r,f1,f2,f3⟩:=FN (N:=N) hN (a:=v) (by have h3':v.length=_:=h3;omega) (fun z hz=>by have:=h4 z hz;omega)
   refine ⟨r,?_,?_,f3⟩
   ·show (ad (a.length:Int) (b.length:Int)).bind _=_
    rw [adN oa,bs,xB (by decide) oa,bs,e1,bs,lpB]
    show (lk N v).bind _=_
    rw [f1,bs]
   ·show (ad (a.length:Int) (b.length:Int)).bind _=_
    rw [adN oa,bs,xB (by decide) oa,bs,e2,bs,lpB]
    show (iH N v).bind _=_
    rw [f2,bs]
end
abbrev CJ (n:Int):Prop:=-9223372036854775808<=n/\n<=9223372036854775807
def MD (s:Sum (yQ × Bool) (yQ × Int)):Prop:=match s with | .inl q=>q.1.length<=1048576 | .inr v=>v.1.length<=1048576
section
variable {N:Nat}
theorem vd (hN:1073741824<=N) {n k:Int} (h1:n<=9223372036854775807):∃ r:yQ × Bool,ib N n k=some r/\ig N n k=some r/\r.1.length<=1048576/\(n<0->r.2=false)/\(100<k->r.2=false):=by
 unfold ib ig
 by_cases h0:n<0
 ·rw [aW h0,ag,ag];exact ⟨_,rfl,rfl,cE _,fun _=>rfl,fun _=>rfl⟩
 rw [ba h0,am,am,fg,gK]
 cases hk:inR k 0 100 with
 | false=>exact ⟨([],false),rfl,rfl,cE _,fun _=>rfl,fun _=>rfl⟩
 | true =>
  have hk':=cg.1 hk
  obtain ⟨m,rfl⟩:=nV hk'.1
  obtain ⟨o,eo,ho⟩:=yy (N:=N) hN (n:=1) oa oa
  obtain ⟨c,ec,hc⟩:=yy (N:=N) hN (n:=n) oa h1
  obtain ⟨s,e1,e2,hs⟩:=AM (fun f (s:yQ) i=>dR N f n (m:Int) [] s i) (fun f (s:yQ) i=>cm N f n (m:Int) [] s i) m (fun _ s=>s.length<=1048576) MD
   (fun f i s hi hI=>by
    obtain ⟨r,m1,m2,hr⟩:=uZ (N:=N) hN hI (b:=c) oa
    cases hb:r.2 with
    | true =>
     refine .inl ⟨r.1,?_,?_,oa⟩
     ·show dR N (f+1) n (m:Int) [] s (i:Int)=_
      rw [dR,dlt hi,ag,u9,ec,bs,m1,bs,hb,ag,ad1 oa,bs]
     ·show cm N (f+1) n (m:Int) [] s (i:Int)=_
      rw [cm,dlt hi,ag,ec,bs,m2,bs,hb,ag,ad1 oa,bs]
    | false =>
     refine .inr ⟨.inl ([],false),?_,?_,cE _⟩
     ·show dR N (f+1) n (m:Int) [] s (i:Int)=_
      rw [dR,dlt hi,ag,u9,ec,bs,m1,bs,hb,am]
     ·show cm N (f+1) n (m:Int) [] s (i:Int)=_
      rw [cm,dlt hi,ag,ec,bs,m2,bs,hb,am])
   (fun f s hI=>by
    refine ⟨.inr (s,(m:Int)),?_,?_,hI⟩
    ·show dR N (f+1) n (m:Int) [] s (m:Int)=_
     rw [dR,dge oa,am]
    ·show cm N (f+1) n (m:Int) [] s (m:Int)=_
     rw [cm,dge oa,am]) N 0 o oa oa oa
  have e1':dR N N n (m:Int) [] o 0=_:=e1
  have e2':cm N N n (m:Int) [] o 0=_:=e2
  rw [bs,bs,ag,ag,u9,eo,bs,bs,e1',e2',bs]
  cases s with
  | inl q=>exact ⟨q,rfl,rfl,hs,fun h=>absurd h h0,fun h=>by omega⟩
  | inr v=>exact ⟨(v.1,true),rfl,rfl,hs,fun h=>absurd h h0,fun h=>by omega⟩
def MM (xs:yQ) (s:Sum (yQ × Bool) (yQ × Int)):Prop:=match s with | .inl q=>q.1.length<=1048576/\q.2=false | .inr v=>v.1.length<=1048576/\∀ x∈xs,0<=x
theorem wM (hN:1073741824<=N) {xs ks:yQ} (hx:xs.length<=1048576) (hr:∀ v∈xs,v<=9223372036854775807):∃ r:yQ × Bool,eY N xs ks=some r/\jf N xs ks=some r/\r.1.length<=1048576/\(r.2=true->∀ x∈xs,0<=x):=by
 unfold eY jf
 by_cases hl:xs.length=ks.length
 ·obtain ⟨o,eo,ho⟩:=yy (N:=N) hN (n:=1) oa oa
  obtain ⟨s,e1,e2,hs⟩:=AM (fun f (s:yQ) i=>bG N f xs ks [] s i) (fun f (s:yQ) i=>b9 N f xs ks [] s (xs.length:Int) i) xs.length (fun i s=>s.length<=1048576/\∀ x∈xs.take i,0<=x) (MM xs)
   (fun f i s hi hI=>by
    obtain ⟨hI1,hI2⟩:=hI
    have hi2:i<ks.length:=by omega
    obtain ⟨p,p1,p2,hp,hp2,_⟩:=vd (N:=N) hN (n:=xs[i]) (k:=ks[i]) (hr _ (bF hi))
    obtain ⟨r,m1,m2,hr⟩:=uZ (N:=N) hN hI1 (b:=p.1) hp
    cases hb:p.2 with
    | true =>
     cases hc:r.2 with
     | true =>
      refine .inl ⟨r.1,?_,?_,oa,fun x hx=>?_⟩
      ·show bG N (f+1) xs ks [] s (i:Int)=_
       rw [bG,dlt hi,ag,be hi,bs,be hi2,bs,p1,bs,m1,bs,hb,ag,hc,ag,ad1 oa,bs]
      ·show b9 N (f+1) xs ks [] s (xs.length:Int) (i:Int)=_
       rw [b9,dlt hi,ag,be hi,bs,be hi2,bs,p2,bs,m2,bs,hb,ag,hc,ag,ad1 oa,bs]
      ·rw [gk hi] at hx
       rcases dj.1 hx with hx | hx
       ·exact hI2 x hx
       ·simp only [fD] at hx
        subst hx
        by_cases hneg:xs[i]<0
        ·rw [hp2 hneg] at hb;cases hb
        ·omega
     | false =>
      refine .inr ⟨.inl ([],false),?_,?_,cE _,rfl⟩
      ·show bG N (f+1) xs ks [] s (i:Int)=_
       rw [bG,dlt hi,ag,be hi,bs,be hi2,bs,p1,bs,m1,bs,hb,ag,hc,am]
      ·show b9 N (f+1) xs ks [] s (xs.length:Int) (i:Int)=_
       rw [b9,dlt hi,ag,be hi,bs,be hi2,bs,p2,bs,m2,bs,hb,ag,hc,am]
    | false =>
     refine .inr ⟨.inl ([],false),?_,?_,cE _,rfl⟩
     ·show bG N (f+1) xs ks [] s (i:Int)=_
      rw [bG,dlt hi,ag,be hi,bs,be hi2,bs,p1,bs,m1,bs,hb,am]
     ·show b9 N (f+1) xs ks [] s (xs.length:Int) (i:Int)=_
      rw [b9,dlt hi,ag,be hi,bs,be hi2,bs,p2,bs,m2,bs,hb,am])
   (fun f s hI=>by
    obtain ⟨hI1,hI2⟩:=hI
    rw [fC] at hI2
    refine ⟨.inr (s,(xs.length:Int)),?_,?_,hI1,hI2⟩
    ·show bG N (f+1) xs ks [] s (xs.length:Int)=_
     rw [bG,dge oa,am]
    ·show b9 N (f+1) xs ks [] s (xs.length:Int) (xs.length:Int)=_
     rw [b9,dge oa,am]) N 0 o oa oa ⟨oa,fun x hx=>by simp at hx⟩
  have e1':bG N N xs ks [] o 0=_:=e1
  have e2':b9 N N xs ks [] o (xs.length:Int) 0=_:=e2
  rw [show ((xs.length:Int) != (ks.length:Int))=false by simp [hl],am,am,u9,eo,bs,bs,e1',e2',bs]
  cases s with
  | inl q =>
   obtain ⟨h1,h2⟩:=hs
   exact ⟨q,rfl,rfl,h1,fun h=>by rw [h2] at h;cases h⟩
  | inr v =>
   obtain ⟨h1,h2⟩:=hs
   exact ⟨(v.1,true),rfl,rfl,h1,fun _=>h2⟩
 ·rw [show ((xs.length:Int) != (ks.length:Int))=true by simp;omega,ag,ag]
  exact ⟨_,rfl,rfl,cE _,fun h=>by cases h⟩
theorem Kq {a b:yQ} (hl:a.length=b.length) (ha:a.length<=1048576):∀ m k,m<=a.length->m<k->∃ s:Sum Int Int,gE N k a b ((m:Int)-1)=some s/\dl N k a b ((m:Int)-1)=some s:=by
 intro m
 induction m with
 | zero =>
  intro k hm hk
  obtain ⟨k,rfl⟩:∃ k',k=k'+1:=⟨k-1,oa⟩
  rw [gE,dl,ba oa,am,am]
  exact ⟨_,rfl,rfl⟩
 | succ m ih =>
  intro k hm hk
  obtain ⟨k,rfl⟩:∃ k',k=k'+1:=⟨k-1,oa⟩
  have h1:m<a.length:=by omega
  have h2:m<b.length:=by omega
  have hm1:((m+1:Nat):Int)-1=(m:Int):=by omega
  obtain ⟨s,e1,e2⟩:=ih k oa oa
  rw [hm1,gE,dl,aW oa,ag,ag,be h1,be h2]
  simp only [bs]
  rw [eu oa oa]
  simp only [bs,kV]
  rcases Int.lt_trichotomy a[m] b[m] with h | h | h
  ·rw [aW h,ag,show (a[m] != b[m])=true by simp;omega,ag,mm,aX h]
   exact ⟨_,rfl,rfl⟩
  ·rw [ba oa,am,ba oa,am,show (a[m] != b[m])=false by simp [h],am]
   exact ⟨s,e1,e2⟩
  ·rw [ba oa,am,aW h,ag,show (a[m] != b[m])=true by simp;omega,ag,mm,a9 oa,aX h]
   exact ⟨_,rfl,rfl⟩
theorem ye (hN:1073741824<=N) {a b:yQ} (ha:a.length<=1048576) (hb:b.length<=1048576):∃ c,gN N a b=some c/\gL N a b=some c:=by
 unfold gN gL
 rw [AC hN ha,rz hN ha,AC hN hb,rz hN hb]
 obtain ⟨x,ex,_⟩:=xq ha
 obtain ⟨y,ey,_⟩:=xq hb
 rw [ex,ey]
 cases x with
 | false=>exact ⟨0,rfl,rfl⟩
 | true =>
  cases y with
  | false=>exact ⟨0,rfl,rfl⟩
  | true =>
   simp only [bs,ag,kV]
   by_cases hl:a.length=b.length
   ·obtain ⟨s,e1,e2⟩:=Kq (N:=N) hl ha a.length N (bN _) oa
    rw [show ((a.length:Int) != (b.length:Int))=false by simp [hl],am,am,eu oa oa]
    simp only [bs]
    rw [e1,e2,bs]
    cases s with
    | inl q=>exact ⟨q,rfl,rfl⟩
    | inr v=>exact ⟨0,rfl,rfl⟩
   ·rw [show ((a.length:Int) != (b.length:Int))=true by simp;omega,ag,ag]
    unfold mm
    by_cases h:(a.length:Int)<(b.length:Int)
    ·rw [aW h,ag,aX h];exact ⟨_,rfl,rfl⟩
    ·rw [ba h,am,a9 h,aX oa];exact ⟨_,rfl,rfl⟩
theorem LY (hN:1073741824<=N) {xs ns:yQ} {n f d:Int} (hx:xs.length<=1048576):eT N N xs n f ns d xs (xs.length:Int) 0=some (bif xs.all (fun v=>!decide (v<0)) then .inr (xs.length:Int) else .inl false) :=
 vU (fun k i=>eT N k xs n f ns d xs (xs.length:Int) i) xs (fun v=>!decide (v<0)) hN hx
  (fun k i h=>by
   show eT N (k+1) xs n f ns d xs (xs.length:Int) (i:Int)=_
   rw [eT,dlt h,ag,be h,bs,ad1 oa,bs]
   cases decide (xs[i]<0)
   ·rw [am,tc,ag]
   ·rw [ag,uv,am])
  (fun k=>by
   show eT N (k+1) xs n f ns d xs (xs.length:Int) (xs.length:Int)=_
   rw [eT,dge oa,am])
theorem HG {n:Int} {yL:List bj} {out:yQ}:0<=rP n yL out 1/\rP n yL out 1<=9223372036854775807:=by
 unfold rP
 cases hq:et n yL out with
 | false=>exact ⟨kL _,by show (0:Int)<=_;omega⟩
 | true =>
  obtain ⟨h1,h2,h3,h4⟩:=kU hq
  obtain ⟨b1,b2,b3,b4⟩:=Bj (r:=1) ⟨h1,h2⟩ ⟨h3,h4⟩ oa
  rw [show (true&&inR 1 0 1000000)=true from rfl,ag]
  exact ⟨b3,oa⟩
theorem tU (hN:1073741824<=N) {n:Int} {yL:List bj} {out xs:yQ} {rs:List eD} {c:Int} (ha:dz yL) (ho:okI out) (hx:xs.length<=1048576) (hr:∀ v∈xs,CJ v) (hrs:rs.length<=1048576) (hc:CJ c) :
  ∃ b,dS N n yL out xs rs c=some b/\gF N n yL out xs rs c=some b:=by
 obtain ⟨⟨ws,d⟩,s1,s2,s3⟩:=FM (N:=N) hN hrs
 obtain ⟨⟨p,pb⟩,p1,p2,p3,p4⟩:=wM (N:=N) hN (xs:=xs) (ks:=ws) hx (fun v hv=>(hr v hv).2)
 obtain ⟨⟨y,yb⟩,y1,y2,y3,y4,y5⟩:=vd (N:=N) hN (n:=c) (k:=d) hc.2
 obtain ⟨⟨f,fb⟩,f1,f2,f3,_,_⟩:=vd (N:=N) hN (n:=rP n yL out 1) (k:=d) HG.2
 obtain ⟨⟨z,zb⟩,z1,z2,z3⟩:=uZ (N:=N) hN (a:=p) (b:=f) p3 f3
 obtain ⟨q,q1,q2⟩:=ye (N:=N) hN (a:=y) (b:=z) y3 (by have h:z.length<=60:=z3;omega)
 unfold dS gF
 rw [kQ hN ha ho,fU hN ha ho,xR hN ha ho,xI hN ha ho,s1]
 simp only [bs]
 rw [p1,y1,f1]
 simp only [bs]
 rw [z1]
 simp only [bs]
 rw [q1]
 simp only [bs]
 have hW:kH N xs rs c (rP n yL out 1)=some (decide (0<d)&&(pb&&(yb&&(fb&&(zb&&decide (q<=0)))))):=by
  unfold kH
  rw [s2]
  simp only [bs]
  by_cases hcn:c<0
  ·rw [aW hcn,ag]
   have:yb=false:=y4 hcn
   subst this;simp
  rw [ba hcn,am]
  by_cases hd:d<1
  ·rw [aW hd,ag,ba (by omega:¬ 0<d)];rfl
  rw [ba hd,am]
  by_cases hd2:100<d
  ·rw [aW hd2,ag]
   have:yb=false:=y5 hd2
   subst this;simp
  rw [ba hd2,am,LY hN hx,bs]
  cases hall:xs.all (fun v=>!decide (v<0)) with
  | false =>
   have:pb=false:=by
    rw [<- w5]
    intro hpb
    have h5:=p4 hpb
    rw [<- w5,dL] at hall
    exact hall fun v hv=>by have:=h5 v hv;simp;omega
   subst this
   rw [am,lN];simp
  | true =>
   rw [ag,iW,y2,bs,p2,bs,f2,bs,z2,bs,aW (by omega:0<d)]
   simp only [q2,bs]
   cases yb <;> cases pb <;> cases fb <;> cases zb <;> rfl
 rw [hW]
 cases et n yL out with
 | false =>
  refine ⟨false,?_,rfl⟩
  cases decide (0<d) <;> cases pb <;> cases yb <;> cases fb <;> cases zb <;> rfl
 | true =>
  refine ⟨_,?_,rfl⟩
  cases decide (0<d) <;> cases pb <;> cases yb <;> cases fb <;> cases zb <;> rfl
end
def vB:yQ->Int
 | []=>0
 | x :: xs=>x+10*vB xs
theorem p10 (n:Nat):(10:Int) ^ (n+1)=10*10 ^ n:=by rw [rk,Int.mul_comm]
theorem A6:∀ n:Nat,(0:Int)<10 ^ n
 | 0=>by decide
 | n+1=>by rw [p10];have:=A6 n;omega
theorem vb {m n:Nat} (h:m<=n):(10:Int) ^ m<=10 ^ n:=by
 induction n with
 | zero =>
  have:m=0:=by omega
  subst this;exact kL _
 | succ n ih =>
  by_cases e:m=n+1
  ·subst e;exact kL _
  ·have:=ih oa
   have:=A6 n
   rw [p10];omega
theorem Az:∀ a b:yQ,vB (a++b)=vB a+10 ^ a.length*vB b
 | [],b=>by show vB b=0+10 ^ 0*vB b;rw [show (10:Int) ^ 0=1 from rfl];omega
 | x :: a,b=>by
  show x+10*vB (a++b)=x+10*vB a+10 ^ (a.length+1)*vB b
  rw [Az a b,p10,Int.mul_add,Int.mul_assoc];omega
theorem GC:∀ (s:yQ) (k:Nat) (h:k<s.length) (c:Int),vB (s.set k (s[k]+c))=vB s+c*10 ^ k
 | [],k,h,_=>by simp at h
 | x :: s,0,_,c=>by show x+c+10*vB s=x+10*vB s+c*10 ^ 0;rw [show (10:Int) ^ 0=1 from rfl];omega
 | x :: s,k+1,h,c=>by
  have hk:k<s.length:=by simpa using h
  have:=GC s k hk c
  show x+10*vB (s.set k (s[k]+c))=x+10*vB s+c*10 ^ (k+1)
  rw [this,p10,Int.mul_add]
  have e:c*(10*10 ^ k)=10*(c*(10:Int) ^ k):=by ac_rfl
  rw [e];omega
def oY (xs:yQ):Prop:=∀ v∈xs,0<=v/\v<=9
def Cn (xs:yQ):Prop:=oY xs/\(xs=[]\/xs.getD (xs.length-1) 0≠0)
theorem FP:∀ {xs:yQ},oY xs->0<=vB xs
 | [],_=>kL _
 | x :: xs,h=>by
  have h1:=h x dM
  have:=FP (xs:=xs) fun v hv=>h v (fJ _ hv)
  show 0<=x+10*vB xs;omega
theorem xG:∀ {xs:yQ},oY xs->vB xs<10 ^ xs.length
 | [],_=>by decide
 | x :: xs,h=>by
  have h1:=h x dM
  have:=xG (xs:=xs) fun v hv=>h v (fJ _ hv)
  show x+10*vB xs<10 ^ (xs.length+1);rw [p10];omega
theorem Iz:∀ {xs:yQ},oY xs->xs≠[]->xs.getD (xs.length-1) 0≠0->10 ^ (xs.length-1)<=vB xs
 | [],_,h,_=>absurd rfl h
 | [x],h,_,h2=>by
  have h1:=h x dM
  have:x≠0:=by simpa using h2
  show (10:Int) ^ 0<=x+10*0
  rw [show (10:Int) ^ 0=1 from rfl];omega
 | x :: y :: xs,h,_,h2=>by
  have h1:=h x dM
  have:=Iz (xs:=y :: xs) (fun v hv=>h v (fJ _ hv)) (by simp) (by simpa using h2)
  simp only [bW,qX] at this ⊢
  show (10:Int) ^ (xs.length+1)<=x+10*vB (y :: xs)
  rw [p10];omega
theorem Cn.ge {xs:yQ} (h:Cn xs) (hn:xs≠[]):10 ^ (xs.length-1)<=vB xs:=by
 rcases h.2 with e | e
 ·exact absurd e hn
 ·exact Iz h.1 hn e
theorem Cn.len {xs:yQ} (h:Cn xs) {n:Nat} (hv:vB xs<10 ^ n):xs.length<=n:=by
 by_cases hn:xs=[]
 ·subst hn;exact cE _
 ·have:=h.ge hn
  by_cases hl:xs.length<=n
  ·exact hl
  ·have:=vb (show n<=xs.length-1 by omega)
   omega
section
variable {N:Nat}
theorem xw {xs:yQ} (h:Cn xs) (hl:xs.length<=60):vF xs=some true:=by
 unfold vF
 have h1:xs.all (fun v=>inR v 0 9)=true:=dL.2 fun v hv=>cg.2 (h.1 v hv)
 rw [h1,ag,aW oa,ag]
 by_cases h0:xs.length=0
 ·rw [show ((xs.length:Int) == 0)=true by simp [h0],ag]
 ·rw [show ((xs.length:Int) == 0)=false by simp;simpa using h0,am,eu oa oa,bs,show (xs.length:Int)-1=((xs.length-1:Nat):Int) by omega,be oa,bs]
  rcases h.2 with e | e
  ·rw [e] at h0;simp at h0
  ·rw [bP oa] at e
   simp [e]
theorem yZ {x:Int} (h:0<=x):x.tmod 10=x % 10:=Int.tmod_eq_emod_of_nonneg h
theorem MJ:∀ (m k:Nat) (x:Int) (a b:yQ),0<=x->x<=9223372036854775807->x<10 ^ m->m<k->b.length+m<=1048576->∃ y ds,cS N k x a b=some (y,b++ds)/\vB ds=x/\oY ds/\ds.length<=m/\(x=0->ds=[])/\(0<x->ds≠[]/\ds.getD (ds.length-1) 0≠0):=by
 intro m
 induction m with
 | zero =>
  intro k x a b h0 hm h1 hk hb
  obtain ⟨k,rfl⟩:∃ k',k=k'+1:=⟨k-1,oa⟩
  have hx:x=0:=by simp at h1;omega
  rw [cS,ba oa,am]
  exact ⟨x,[],by simp,hx.symm,by intro v hv;simp at hv,by simp,fun _=>rfl,fun h=>by omega⟩
 | succ m ih =>
  intro k x a b h0 hm h1 hk hb
  obtain ⟨k,rfl⟩:∃ k',k=k'+1:=⟨k-1,oa⟩
  rw [cS]
  by_cases hx:0<x
  ·have hd:x / 10<10 ^ m:=by rw [rk] at h1;omega
   rw [aW hx,ag,A5,bs,bA (by decide) (by simp;omega),bs,A9 h0 hm,bs]
   obtain ⟨y,ds,e,v1,v2,v3,v4,v5⟩:=ih k (x / 10) a (b++[x.tmod 10]) oa oa hd oa (by rw [b8,bT];omega)
   refine ⟨y,x.tmod 10 :: ds,by rw [e,gT];rfl,?_,?_,by simp;omega,fun h=>by omega,fun _=>⟨by simp,?_⟩⟩
   ·show x.tmod 10+10*vB ds=x
    rw [v1,yZ h0];omega
   ·intro v hv
    rcases cZ.1 hv with rfl | hv
    ·rw [yZ h0];omega
    ·exact v2 v hv
   ·by_cases hq:0<x / 10
    ·obtain ⟨w1,w2⟩:=v5 hq
     obtain ⟨d,t,rfl⟩:=List.exists_cons_of_ne_nil w1
     simpa using w2
    ·have:=v4 oa
     subst this
     rw [yZ h0]
     show x % 10≠0
     omega
  ·have hx0:x=0:=by omega
   rw [ba hx,am]
   exact ⟨x,[],by simp,hx0.symm,by intro v hv;simp at hv,by simp,fun _=>rfl,fun h=>by omega⟩
theorem EB (hN:1073741824<=N) {n:Int} (h0:0<=n) (h1:n<=9223372036854775807):∃ b,d9 N n=some b/\b.length<=19/\vB b=n/\Cn b:=by
 have hp:(10:Int) ^ 19=10000000000000000000:=by decide
 obtain ⟨y,b,e,v1,v2,v3,v4,v5⟩:=MJ (N:=N) 19 N n [] [] h0 h1 (by rw [hp];omega) oa (by rw [fH];omega)
 refine ⟨b,?_,v3,v1,v2,?_⟩
 ·unfold d9;rw [e,bs,lpB];rfl
 ·by_cases h:0<n
  ·exact .inr (v5 h).2
  ·exact .inl (v4 oa)
theorem LX {a b:yQ}:∀ (m k:Nat) (c:Int) (out:yQ) (i:Nat),a.length<=i->0<=c->c<=1000000000->c<10 ^ m->m<k->out.length+m<=1048576->i+m<=1048576->∃ ds y z,cp N k a b out c (i:Int)=some (out++ds,y,z)/\ds.length<=m/\vB ds=c/\oY ds:=by
 intro m
 induction m with
 | zero =>
  intro k c out i hi h0 hm h1 hk hb hi2
  obtain ⟨k,rfl⟩:∃ k',k=k'+1:=⟨k-1,oa⟩
  have hc:c=0:=by simp at h1;omega
  rw [cp,dge oa,am,ba oa,am]
  exact ⟨[],c,_,by rw [mP],by simp,hc.symm,by intro v hv;simp at hv⟩
 | succ m ih =>
  intro k c out i hi h0 hm h1 hk hb hi2
  obtain ⟨k,rfl⟩:∃ k',k=k'+1:=⟨k-1,oa⟩
  rw [cp,dge oa,am]
  by_cases hx:0<c
  ·have hd:c / 10<10 ^ m:=by rw [rk] at h1;omega
   rw [aW hx,ag,A5,bs,bA (by decide) (by simp;omega),bs,A9 h0 oa,bs,ad1 oa,bs]
   obtain ⟨ds,y,z,e,hl,hv,hd2⟩:=ih k (c / 10) (out++[c.tmod 10]) (i+1) oa oa oa hd oa (by rw [b8,bT];omega) oa
   refine ⟨c.tmod 10 :: ds,y,z,by rw [e,gT];rfl,by simp;omega,?_,?_⟩
   ·show c.tmod 10+10*vB ds=c
    rw [hv,yZ h0];omega
   ·intro v hv
    rcases cZ.1 hv with rfl | hv
    ·rw [yZ h0];omega
    ·exact hd2 v hv
  ·have hc:c=0:=by omega
   rw [ba hx,am]
   exact ⟨[],c,_,by rw [mP],by simp,hc.symm,by intro v hv;simp at hv⟩
theorem Mg {a b:yQ} (ha:a.length<=1000) (hv:∀ v∈a,0<=v/\v<=1000000):∀ (m k:Nat) (c:Int) (out:yQ) (i:Nat),i+m=a.length->0<=c->c<=1000000->m+20<k->out.length<=i->∃ ds y z,cp N k a b out c (i:Int)=some (out++ds,y,z)/\ds.length<=m+7/\vB ds=c+vB (a.drop i)/\oY ds:=by
 intro m
 induction m with
 | zero =>
  intro k c out i hi h0 h1 hk hb
  have hp:(10:Int) ^ 7=10000000:=by decide
  obtain ⟨ds,y,z,e,hl,h3,h4⟩:=LX (N:=N) (a:=a) (b:=b) 7 k c out i oa h0 oa (by rw [hp];omega) oa oa oa
  refine ⟨ds,y,z,e,oa,?_,h4⟩
  rw [h3,lu oa]
  show c=c+0;omega
 | succ m ih =>
  intro k c out i hi h0 h1 hk hb
  obtain ⟨k,rfl⟩:∃ k',k=k'+1:=⟨k-1,oa⟩
  have h:i<a.length:=by omega
  have hx:=hv _ (bF h)
  rw [cp,dlt h,ag,be h,bs,ce oa oa,bs,A5,bs,bA (by decide) (by simp;omega),bs,A9 oa oa,bs,ad1 oa,bs]
  obtain ⟨ds,y,z,e,hl,h3,h4⟩:=ih k ((c+a[i]) / 10) (out++[(c+a[i]).tmod 10]) (i+1) oa oa oa oa (by rw [b8,bT];omega)
  refine ⟨(c+a[i]).tmod 10 :: ds,y,z,by rw [e,gT];rfl,by simp;omega,?_,?_⟩
  ·rw [gj h]
   show (c+a[i]).tmod 10+10*vB ds=c+(a[i]+10*vB (a.drop (i+1)))
   rw [h3,yZ oa];omega
  ·intro v hv
   rcases cZ.1 hv with rfl | hv
   ·rw [yZ oa];omega
   ·exact h4 v hv
theorem BO {xs:yQ}:∀ m,m<=xs.length->vB (xs.take (f9 xs m))=vB (xs.take m)/\(f9 xs m=0\/xs.getD (f9 xs m-1) 0≠0)
 | 0,_=>⟨rfl,.inl rfl⟩
 | m+1,h=>by
  obtain ⟨h1,h2⟩:=BO (xs:=xs) m oa
  unfold f9
  by_cases e:xs.getD m 0=0
  ·rw [aX e]
   refine ⟨?_,h2⟩
   rw [h1,gk (show m<xs.length by omega),Az]
   rw [bP oa] at e
   rw [e]
   show _=_+_*(0+10*0)
   rw [show (0:Int)+10*0=0 from rfl,uD,sV]
  ·rw [a9 e];exact ⟨rfl,.inr (by simpa using e)⟩
theorem Gs (hN:1073741824<=N) {a:yQ} (ha:a.length<=1000) (hv:∀ v∈a,0<=v/\v<=1000000):∃ r:yQ × Bool,iH N a=some r/\(r.2=true->vB r.1=vB a/\Cn r.1/\r.1.length<=60)/\(r.2=true↔vB a<10 ^ 60):=by
 obtain ⟨o,y,z,e,hl,h3,h4⟩:=Mg (N:=N) (b:=[]) ha hv a.length N 0 [] 0 oa oa oa oa (by simp)
 have e':cp N N a [] [] 0 0=some (o,y,z):=e
 have h3:vB o=vB a:=by rw [h3,gS];omega
 have s1:=GO (N:=N) (b:=[]) (xs:=o) oa o.length N (bN _) oa
 obtain ⟨g1,g2⟩:=BO (xs:=o) o.length (bN _)
 rw [fC] at g1
 have hle:=wu o o.length
 have hlen:(o.take (f9 o o.length)).length=f9 o o.length:=by rw [dh];omega
 have hC:Cn (o.take (f9 o o.length)):=by
  refine ⟨fun v hv=>h4 v (qV hv),?_⟩
  rw [hlen]
  rcases g2 with g2 | g2
  ·exact .inl (by rw [g2];rfl)
  ·by_cases hz:f9 o o.length=0
   ·exact .inl (by rw [hz];rfl)
   ·right
    rw [pL,lm,aX oa,<- pL];exact g2
 have hI:iH N a=bif decide (60<((f9 o o.length:Nat):Int)) then some ([],false) else some (o.take (f9 o o.length),true):=by
  unfold iH
  rw [e',bs,lpB]
  simp only []
  rw [s1,bs,lpB,show (0:Int)=((0:Nat):Int) from rfl,lc (cE _) oa,bs,gS]
 rw [hI]
 by_cases h:60<f9 o o.length
 ·rw [aW oa,ag]
  refine ⟨_,rfl,(fun h=>nomatch h),⟨(fun h=>nomatch h),fun hlt=>?_⟩⟩
  rw [<- h3,<- g1] at hlt
  have:=hC.len hlt
  omega
 ·rw [ba oa,am]
  refine ⟨_,rfl,fun _=>⟨by show vB (o.take _)=_;rw [g1,h3],hC,by show (o.take _).length<=60;omega⟩,fun _=>?_,fun _=>rfl⟩
  rw [<- h3,<- g1]
  have h1:=xG hC.1
  have h2:=vb (show (o.take (f9 o o.length)).length<=60 by omega)
  omega
theorem IV {a b:yQ} (ha:a.length<=60) (hb:b.length<=60) (da:oY a) (db:oY b) {i:Nat} (hi:i<a.length) {C:Int} (hC:C<=500000):∀ (m j k:Nat) (s:yQ),j+m=b.length->m<k->s.length=a.length+b.length->(∀ x∈s,0<=x/\x<=C+81*(j:Int)) ->
  ∃ s',dA N k b [] s (i:Int) a[i] a (a.length:Int) (i:Int) b (b.length:Int) (j:Int)=some (s',(b.length:Int))/\s'.length=a.length+b.length/\(∀ x∈s',0<=x/\x<=C+4860)/\vB s'=vB s+a[i]*10 ^ (i+j)*vB (b.drop j):=by
 have hai:=da _ (bF hi)
 intro m
 induction m with
 | zero =>
  intro j k s hj hk hs hx
  obtain ⟨k,rfl⟩:∃ k',k=k'+1:=⟨k-1,oa⟩
  obtain rfl:j=b.length:=by omega
  rw [dA,dge oa,am]
  refine ⟨s,rfl,hs,fun x h=>by have:=hx x h;omega,?_⟩
  rw [List.drop_length]
  show _=_+_*0
  rw [uD,sV]
 | succ m ih =>
  intro j k s hj hk hs hx
  obtain ⟨k,rfl⟩:∃ k',k=k'+1:=⟨k-1,oa⟩
  have hjb:j<b.length:=by omega
  have hbj:=db _ (bF hjb)
  obtain ⟨m1,m2⟩:=D6 hai hbj
  have hij:i+j<s.length:=by omega
  have hsv:=hx _ (bF hij)
  rw [dA,dlt hjb,ag,be hjb,bs,adN oa,bs,be hij,bs,eh oa oa,bs,ce oa oa,bs,bs,lS hij,bs,ad1 oa,bs]
  obtain ⟨s',e1,e2,e3,e4⟩:=ih (j+1) k (s.set (i+j) (s[i+j]+a[i]*b[j])) oa oa (by simpa using hs) fun x h=>by
   rcases s6 h with h | rfl
   ·have:=hx x h;omega
   ·omega
  refine ⟨s',e1,e2,e3,?_⟩
  rw [e4,GC,gj hjb]
  show _=vB s+a[i]*10 ^ (i+j)*(b[j]+10*vB (b.drop (j+1)))
  rw [show i+(j+1)=(i+j)+1 by omega,p10]
  have e:a[i]*10 ^ (i+j)*(b[j]+10*vB (b.drop (j+1)))=a[i]*b[j]*10 ^ (i+j)+a[i]*(10*10 ^ (i+j))*vB (b.drop (j+1)):=by
   rw [Int.mul_add]
   congr 1 <;> ac_rfl
  rw [e];omega
theorem If (hN:1073741824<=N) {a b:yQ} (ha:a.length<=60) (hb:b.length<=60) (da:oY a) (db:oY b):∀ (m i k:Nat) (s:yQ),i+m=a.length->m<k->s.length=a.length+b.length->(∀ x∈s,0<=x/\x<=4860*(i:Int)) ->
  ∃ s',dy N k b [] s a (a.length:Int) (i:Int)=some (s',(a.length:Int))/\s'.length=a.length+b.length/\(∀ x∈s',0<=x/\x<=500000)/\vB s'=vB s+10 ^ i*vB (a.drop i)*vB b:=by
 intro m
 induction m with
 | zero =>
  intro i k s hi hk hs hx
  obtain ⟨k,rfl⟩:∃ k',k=k'+1:=⟨k-1,oa⟩
  obtain rfl:i=a.length:=by omega
  rw [dy,dge oa,am]
  refine ⟨s,rfl,hs,fun x h=>by have:=hx x h;omega,?_⟩
  rw [List.drop_length]
  show _=_+_*0*_
  rw [uD,Int.zero_mul,sV]
 | succ m ih =>
  intro i k s hi hk hs hx
  obtain ⟨k,rfl⟩:∃ k',k=k'+1:=⟨k-1,oa⟩
  have h:i<a.length:=by omega
  obtain ⟨s1,e1,e2,e3,e4⟩:=IV (N:=N) ha hb da db h (C:=4860*(i:Int)) oa b.length 0 N s oa oa hs fun x hx'=>by have:=hx x hx';omega
  obtain ⟨s',f1,f2,f3,f4⟩:=ih (i+1) k s1 oa oa e2 fun x hx'=>by have:=e3 x hx';omega
  have e1':dA N N b [] s (i:Int) a[i] a (a.length:Int) (i:Int) b (b.length:Int) 0=_:=e1
  rw [dy,dlt h,ag,be h,bs,e1',bs,lpB]
  dsimp only
  rw [ad1 oa,bs]
  refine ⟨s',f1,f2,f3,?_⟩
  rw [f4,e4,gS,lh,gj h]
  show _=vB s+10 ^ i*(a[i]+10*vB (a.drop (i+1)))*vB b
  have e:10 ^ i*(a[i]+10*vB (a.drop (i+1)))*vB b=a[i]*10 ^ i*vB b+10*10 ^ i*vB (a.drop (i+1))*vB b:=by
   rw [Int.mul_add,Int.add_mul]
   congr 1 <;> ac_rfl
  rw [p10,e];omega
theorem Dr:∀ n:Nat,vB (List.replicate n 0)=0
 | 0=>rfl
 | n+1=>by rw [Ab];show 0+10*vB (List.replicate n 0)=0;rw [Dr n];rfl
theorem EY (hN:1073741824<=N) {a b:yQ} (ha:Cn a) (hb:Cn b) (la:a.length<=60) (lb:b.length<=60):∃ r:yQ × Bool,ic N a b=some r/\(r.2=true->vB r.1=vB a*vB b/\Cn r.1/\r.1.length<=60)/\(r.2=true↔vB a*vB b<10 ^ 60):=by
 unfold ic
 rw [rz hN oa,rz hN oa,xw ha la,xw hb lb,bs,ag,bs,ag,adN oa,bs,xB (by decide) oa,bs]
 obtain ⟨s,e1,e2,e3,e4⟩:=If hN la lb ha.1 hb.1 a.length 0 N (List.replicate (a.length+b.length) 0) oa oa (by simp) (fun v hv=>by rw [List.eq_of_mem_replicate hv];omega)
 have e1':dy N N b [] (List.replicate (a.length+b.length) 0) a (a.length:Int) 0=_:=e1
 obtain ⟨r,c1,c2,c3⟩:=Gs hN (a:=s) oa (fun x hx=>by have:=e3 x hx;omega)
 have hv:vB s=vB a*vB b:=by
  rw [e4,Dr,gS,show (10:Int) ^ 0=1 from rfl,uO,Int.zero_add]
 rw [hv] at c2 c3
 rw [e1',bs,lpB]
 dsimp only
 rw [c1,bs]
 exact ⟨_,rfl,c2,c3⟩
theorem IP (hN:1073741824<=N) {n:Int} (h0:0<=n) (h1:n<=9223372036854775807) {d:Nat} (hd:d<=100):∃ r:yQ × Bool,ig N n (d:Int)=some r/\(r.2=true->vB r.1=n ^ d/\Cn r.1/\r.1.length<=60)/\(r.2=true↔∀ j,j<d->n ^ (j+1)<10 ^ 60):=by
 obtain ⟨o,eo,ho,vo,co⟩:=EB (N:=N) hN (n:=1) oa oa
 obtain ⟨c,ec,hc,vc,cc⟩:=EB (N:=N) hN h0 h1
 have key:∀ (m i k:Nat) (s:yQ),i+m=d->m<k->Cn s->s.length<=60->vB s=n ^ i ->
   (∃ s',cm N k n (d:Int) [] s (i:Int)=some (.inr (s',(d:Int)))/\Cn s'/\s'.length<=60/\vB s'=n ^ d/\∀ j,i<=j->j<d->n ^ (j+1)<10 ^ 60) \/
   (cm N k n (d:Int) [] s (i:Int)=some (.inl ([],false))/\∃ j,i<=j/\j<d/\¬ n ^ (j+1)<10 ^ 60):=by
  intro m
  induction m with
  | zero =>
   intro i k s hi hk h1 h2 h3
   obtain ⟨k,rfl⟩:∃ k',k=k'+1:=⟨k-1,oa⟩
   obtain rfl:i=d:=by omega
   left
   rw [cm,dge oa,am]
   exact ⟨s,rfl,h1,h2,h3,fun j a b=>by omega⟩
  | succ m ih =>
   intro i k s hi hk k1 k2 k3
   obtain ⟨k,rfl⟩:∃ k',k=k'+1:=⟨k-1,oa⟩
   obtain ⟨r,m1,m2,m3⟩:=EY hN k1 cc k2 oa
   have hp:vB s*vB c=n ^ (i+1):=by rw [k3,vc,rk]
   rw [hp] at m2 m3
   rw [cm,dlt oa,ag,ec,bs,m1,bs]
   cases hb:r.2 with
   | true =>
    obtain ⟨q1,q2,q3⟩:=m2 hb
    rw [ag,ad1 oa,bs]
    rcases ih (i+1) k r.1 oa oa q2 q3 q1 with ⟨s',a1,a2,a3,a4,a5⟩ | ⟨a1,j,a2,a3,a4⟩
    ·refine .inl ⟨s',a1,a2,a3,a4,fun j b1 b2=>?_⟩
     by_cases e:j=i
     ·rw [e];exact m3.1 hb
     ·exact a5 j oa b2
    ·exact .inr ⟨a1,j,oa,a3,a4⟩
   | false =>
    rw [am]
    refine .inr ⟨rfl,i,bN _,oa,fun h=>?_⟩
    rw [m3.2 h] at hb;cases hb
 unfold ig
 rw [ba oa,am,gK,bs,show inR (d:Int) 0 100=true from cg.2 oa,ag,eo,bs]
 rcases key d 0 N o oa oa co oa (by rw [vo,Int.pow_zero]) with ⟨s',a1,a2,a3,a4,a5⟩ | ⟨a1,j,a2,a3,a4⟩
 ·have a1':cm N N n (d:Int) [] o 0=_:=a1
  rw [a1',bs,iW]
  exact ⟨_,rfl,fun _=>⟨a4,a2,a3⟩,fun _ j hj=>a5 j oa hj,fun _=>rfl⟩
 ·have a1':cm N N n (d:Int) [] o 0=_:=a1
  rw [a1',bs,lN]
  exact ⟨_,rfl,(fun h=>nomatch h),⟨(fun h=>nomatch h),fun h=>absurd (h j a3) a4⟩⟩
theorem Ln {a b:yQ} (hl:a.length=b.length) (da:oY a) (db:oY b) (ha:a.length<=1048576):∀ m k,m<=a.length->m<k ->
  (∃ q,dl N k a b ((m:Int)-1)=some (.inl q)/\(q<0/\vB (a.take m)<vB (b.take m)\/0<q/\vB (b.take m)<vB (a.take m)))\/(∃ z,dl N k a b ((m:Int)-1)=some (.inr z))/\vB (a.take m)=vB (b.take m):=by
 intro m
 induction m with
 | zero =>
  intro k hm hk
  obtain ⟨k,rfl⟩:∃ k',k=k'+1:=⟨k-1,oa⟩
  rw [dl,ba oa,am]
  exact .inr ⟨⟨_,rfl⟩,rfl⟩
 | succ m ih =>
  intro k hm hk
  obtain ⟨k,rfl⟩:∃ k',k=k'+1:=⟨k-1,oa⟩
  have h1:m<a.length:=by omega
  have h2:m<b.length:=by omega
  have hm1:((m+1:Nat):Int)-1=(m:Int):=by omega
  have ea:vB (a.take (m+1))=vB (a.take m)+10 ^ m*a[m]:=by
   rw [gk h1,Az,dh,ru oa]
   show _+10 ^ m*(a[m]+10*0)=_
   rw [uD,sV]
  have eb:vB (b.take (m+1))=vB (b.take m)+10 ^ m*b[m]:=by
   rw [gk h2,Az,dh,ru oa]
   show _+10 ^ m*(b[m]+10*0)=_
   rw [uD,sV]
  have dta:oY (a.take m):=fun v hv=>da v (qV hv)
  have dtb:oY (b.take m):=fun v hv=>db v (qV hv)
  have la:=xG dta
  have lb:=xG dtb
  rw [dh,ru oa] at la lb
  have na:=FP dta
  have nb:=FP dtb
  have key:∀ x y:Int,x<y->(10:Int) ^ m*x+10 ^ m<=10 ^ m*y:=fun x y h=>by
   have:=A3 (show x+1<=y by omega) (sL (A6 m))
   rw [Int.mul_add,sw] at this;exact this
  rw [hm1,dl,aW oa,ag,be h1,be h2]
  simp only [bs,kV]
  rcases Int.lt_trichotomy a[m] b[m] with h | h | h
  ·rw [show (a[m] != b[m])=true by simp;omega,ag,mm,aX h]
   have:=key _ _ h
   exact .inl ⟨_,rfl,.inl ⟨by decide,oa⟩⟩
  ·rw [show (a[m] != b[m])=false by simp [h],am,eu oa oa,bs]
   rw [ea,eb,h]
   rcases ih k oa oa with ⟨q,q1,q2⟩ | ⟨q1,q2⟩
   ·exact .inl ⟨q,q1,oa⟩
   ·exact .inr ⟨q1,oa⟩
  ·rw [show (a[m] != b[m])=true by simp;omega,ag,mm,a9 oa,aX h]
   have:=key _ _ h
   exact .inl ⟨_,rfl,.inr ⟨by decide,oa⟩⟩
theorem Jf (hN:1073741824<=N) {a b:yQ} (ha:Cn a) (hb:Cn b) (la:a.length<=60) (lb:b.length<=60):∃ q,gL N a b=some q/\(q<=0↔vB a<=vB b):=by
 unfold gL
 rw [rz hN oa,rz hN oa,xw ha la,xw hb lb,bs,ag,bs,ag]
 by_cases hl:a.length=b.length
 ·rw [show ((a.length:Int) != (b.length:Int))=false by simp [hl],am,eu oa oa,bs]
  rcases Ln (N:=N) hl ha.1 hb.1 oa a.length N (bN _) oa with ⟨q,q1,q2⟩ | ⟨⟨z,q1⟩,q2⟩
  ·rw [fC,show b.take a.length=b by rw [hl,fC]] at q2
   rw [q1,bs,lN]
   exact ⟨q,rfl,oa⟩
  ·rw [fC,show b.take a.length=b by rw [hl,fC]] at q2
   rw [q1,bs,iW]
   exact ⟨0,rfl,oa⟩
 ·rw [show ((a.length:Int) != (b.length:Int))=true by simp;omega,ag,kV,bs]
  unfold mm
  by_cases h:(a.length:Int)<(b.length:Int)
  ·rw [aX h]
   have hbn:b≠[]:=fun e=>by have:=aZ List.length e;rw [fH] at this;omega
   have h1:=hb.ge hbn
   have h2:=xG ha.1
   have h3:=vb (show a.length<=b.length-1 by omega)
   exact ⟨-1,rfl,oa⟩
  ·rw [a9 h,aX oa]
   have han:a≠[]:=fun e=>by have:=aZ List.length e;rw [fH] at this;omega
   have h1:=ha.ge han
   have h2:=xG hb.1
   have h3:=vb (show b.length<=a.length-1 by omega)
   exact ⟨1,rfl,oa⟩
end
theorem Bn (a:Int) {m:Nat} (hm:m<=4611686018427387904):0<=jH a (m:Int)/\jH a (m:Int)<=(m:Int):=by
 have h1:(BitVec.ofInt IntKind.i64.bits a &&& BitVec.ofInt IntKind.i64.bits (m:Int)).toNat<=m:=by
  rw [BitVec.toNat_and]
  refine Nat.le_trans Nat.and_le_right ?_
  rw [BitVec.toNat_ofInt]
  have:IntKind.i64.bits=64:=rfl
  rw [this]
  omega
 unfold jH
 rw [mS (pQ oa oa)]
 omega
theorem EG (a:Int) {b:Nat}:∃ v,sr a (b:Int)=some v:=by unfold sr;rw [aX oa];exact ⟨_,rfl⟩
abbrev hZ (a:yQ):Prop:=a.length<=1048576/\∀ v∈a,0<=v/\v<=255
def dp (a:yQ) (p:Int):Prop:=0<=p/\p<=(a.length:Int)
section
variable {N:Nat}
theorem JW (a:yQ) (ha:hZ a):∀ (m i k:Nat) (h:Int),i+m=4000->m<k->0<=h->h<=1073741823->∃ v,kv N k a h (i:Int)=some v:=by
 intro m
 induction m with
 | zero =>
  intro i k h hi hk _ _
  obtain ⟨k,rfl⟩:∃ g,k=g+1:=⟨k-1,oa⟩
  rw [kv,ba (show ¬ (i:Int)<4000 by omega)]
  cases decide ((i:Int)<(a.length:Int)) <;> exact ⟨_,rfl⟩
 | succ m ih =>
  intro i k h hi hk h0 h1
  obtain ⟨k,rfl⟩:∃ g,k=g+1:=⟨k-1,oa⟩
  rw [kv]
  by_cases hl:i<a.length
  ·have hb:=ha.2 _ (bF hl)
   rw [dlt hl,ag,aW (show (i:Int)<4000 by omega),ag,eh oa oa,bs,be hl,bs,mS (pQ oa oa),ce oa oa,bs,ce oa oa,bs,ad1 oa,bs]
   have hi':=Bn (h*131+a[i]+7) (m:=1073741823) (by decide)
   exact ih (i+1) k _ oa oa hi'.1 hi'.2
  ·rw [dge hl,am];exact ⟨_,rfl⟩
theorem Fm (hN:1073741824<=N) {a:yQ} (ha:hZ a):∃ h,pv N a=some (0,h):=by
 have hl:=ha.1
 obtain ⟨v,hv⟩:=JW (N:=N) a ha 4000 0 N (10101+(a.length:Int)) oa oa oa oa
 unfold pv
 rw [ce oa oa,bs]
 have hv':kv N N a (10101+(a.length:Int)) 0=some v:=hv
 rw [hv',bs]
 exact ⟨_,rfl⟩
theorem oJ {a:yQ} (ha:hZ a) {p h:Int} (hc:dp a p):∃ x q g,jL N a p h=some (x,q,g)/\0<=x/\x<=255/\dp a q:=by
 have hl:=ha.1
 have h0:=hc.1;have h1:=hc.2
 unfold jL
 obtain ⟨x1,e1⟩:=EG (IntKind.i64.wrap ((IntKind.i64.wrap (h*6364136223846793005))+1442695040888963407)) (b:=33)
 obtain ⟨x2,e2⟩:=EG (IntKind.i64.wrap ((IntKind.i64.wrap (h*6364136223846793005))+1442695040888963407)) (b:=45)
 have e1':sr (IntKind.i64.wrap ((IntKind.i64.wrap (h*6364136223846793005))+1442695040888963407)) 33=some x1:=e1
 have e2':sr (IntKind.i64.wrap ((IntKind.i64.wrap (h*6364136223846793005))+1442695040888963407)) 45=some x2:=e2
 rw [e1',bs,e2',bs]
 by_cases hp:p<(a.length:Int)
 ·rw [aW hp,ag,nG h0 hp,bs]
  have hb:=Bn (IntKind.i64.wrap ((jH (nZ x1 x2) 255)+(IntKind.i64.wrap a[p.toNat]))) (m:=255) (by decide)
  refine ⟨_,_,_,rfl,hb.1,hb.2,?_⟩
  rw [mS (pQ oa oa)]
  exact ⟨oa,oa⟩
 ·rw [ba hp,am]
  have hb:=Bn (nZ x1 x2) (m:=255) (by decide)
  exact ⟨_,_,_,rfl,hb.1,hb.2,hc⟩
theorem dq {a:yQ} (ha:hZ a) {p h n:Int} (hc:dp a p):∃ x q g,cw N a p h n=some (x,q,g)/\0<=x/\(0<n->x<n)/\(n<=0->x=0)/\dp a q:=by
 unfold cw
 by_cases h0:n<=0
 ·rw [aW h0,ag]
  exact ⟨_,_,_,rfl,kL _,fun h=>by omega,fun _=>rfl,hc⟩
 ·rw [ba h0,am]
  by_cases h1:n<=256
  ·obtain ⟨x,q,g,e,b0,b1,hc'⟩:=oJ (N:=N) ha (h:=h) hc
   rw [aW h1,ag,e,bs,tt oa,bs]
   have:=Bf b0 (show 0<n by omega)
   exact ⟨_,_,_,rfl,this.1,fun _=>this.2,fun h=>by omega,hc'⟩
  ·rw [ba h1,am]
   obtain ⟨x,q,g,e,b0,b1,hc1⟩:=oJ (N:=N) ha (h:=h) hc
   rw [e,bs]
   obtain ⟨y,q2,g2,e2,c0,c1,hc2⟩:=oJ (N:=N) ha (h:=g) hc1
   dsimp only
   rw [e2,bs]
   obtain ⟨z,q3,g3,e3,d0,d1,hc3⟩:=oJ (N:=N) ha (h:=g2) hc2
   dsimp only
   rw [e3,bs]
   obtain ⟨w,q4,g4,e4,f0,f1,hc4⟩:=oJ (N:=N) ha (h:=g3) hc3
   dsimp only
   rw [e4,bs]
   dsimp only
   rw [eh oa oa,bs,eh oa oa,bs,ce oa oa,bs,eh oa oa,bs,ce oa oa,bs,ce oa oa,bs,tt oa,bs]
   have:=Bf (show 0<=x*16777216+y*65536+z*256+w by omega) (show 0<n by omega)
   exact ⟨_,_,_,rfl,this.1,fun _=>this.2,fun h=>by omega,hc4⟩
theorem kZ {a l:yQ} (ha:hZ a) {p h:Int} (hc:dp a p) (hl:0<l.length):∃ x q g,gc N a p h l=some (x,q,g)/\x∈l/\dp a q:=by
 obtain ⟨x,q,g,e,b0,b1,_,hc'⟩:=dq (N:=N) ha (h:=h) (n:=(l.length:Int)) hc
 have b2:=b1 oa
 unfold gc
 rw [e,bs]
 dsimp only
 rw [nG b0 b2,bs]
 exact ⟨_,_,_,rfl,bF _,hc'⟩
end
section
variable {N:Nat}
def sT (n:Nat):yQ:=(List.range' 0 n).map fun i:Nat=>(i:Int)
theorem CT (n:Nat):(sT n).length=n:=by simp [sT]
end
abbrev bh:=List (yQ)
def cC:Nat->bh->bh->bh
 | 0,_,_=>[]
 | _+1,[],[]=>[]
 | m+1,[],y :: b=>y :: cC m [] b
 | m+1,x :: a,[]=>x :: cC m a []
 | m+1,x :: a,y :: b=>if bZ x y<0 then x :: cC m a (y :: b) else if bZ x y=0 then x :: cC m a b else y :: cC m (x :: a) b
theorem yc:∀ (m m':Nat) (a b:bh),a.length+b.length<=m->a.length+b.length<=m'->cC m a b=cC m' a b:=by
 intro m
 induction m with
 | zero =>
  intro m' a b h1 h2
  obtain rfl:a=[]:=ma.1 oa
  obtain rfl:b=[]:=ma.1 (by simpa using h1)
  cases m' <;> rfl
 | succ m ih =>
  intro m' a b h1 h2
  cases m' with
  | zero =>
   obtain rfl:a=[]:=ma.1 oa
   obtain rfl:b=[]:=ma.1 (by simpa using h2)
   rfl
  | succ m' =>
   match a,b with
   | [],[]=>rfl
   | [],y :: b=>rw [cC,cC,ih m' [] b (by simp at h1 ⊢;omega) (by simp at h2 ⊢;omega)]
   | x :: a,[]=>rw [cC,cC,ih m' a [] (by simp at h1 ⊢;omega) (by simp at h2 ⊢;omega)]
   | x :: a,y :: b =>
    simp only [bW] at h1 h2
    rw [cC,cC,ih m' a (y :: b) (by simp only [bW];omega) (by simp only [bW];omega),ih m' a b oa oa,ih m' (x :: a) b (by simp only [bW];omega) (by simp only [bW];omega)]
theorem oi:∀ (m:Nat) (a b:bh) (r:yQ),r∈cC m a b->r∈a\/r∈b:=by
 intro m
 induction m with
 | zero=>intro a b r h;simp [cC] at h
 | succ m ih =>
  intro a b r h
  match a,b with
  | [],[]=>simp [cC] at h
  | [],y :: b =>
   rw [cC,cZ] at h
   rcases h with rfl | h
   ·simp
   ·rcases ih _ _ _ h with h | h
    ·simp at h
    ·simp [h]
  | x :: a,[] =>
   rw [cC,cZ] at h
   rcases h with rfl | h
   ·simp
   ·rcases ih _ _ _ h with h | h
    ·simp [h]
    ·simp at h
  | x :: a,y :: b =>
   rw [cC] at h
   split at h
   ·rcases cZ.1 h with rfl | h
    ·simp
    ·rcases ih _ _ _ h with h | h
     ·simp [h]
     ·exact .inr h
   ·split at h
    ·rcases cZ.1 h with rfl | h
     ·simp
     ·rcases ih _ _ _ h with h | h
      ·simp [h]
      ·simp [h]
    ·rcases cZ.1 h with rfl | h
     ·simp
     ·rcases ih _ _ _ h with h | h
      ·exact .inl h
      ·simp [h]
theorem Fd:∀ (m:Nat) (a b:bh),(cC m a b).length<=a.length+b.length:=by
 intro m
 induction m with
 | zero=>intro a b;simp [cC]
 | succ m ih =>
  intro a b
  match a,b with
  | [],[]=>simp [cC]
  | [],y :: b=>have:=ih [] b;rw [cC];simp only [bW,fH] at *;omega
  | x :: a,[]=>have:=ih a [];rw [cC];simp only [bW,fH] at *;omega
  | x :: a,y :: b =>
   have h1:=ih a (y :: b);have h2:=ih a b;have h3:=ih (x :: a) b
   rw [cC]
   simp only [bW] at *
   split
   ·simp only [bW];omega
   ·split <;> (simp only [bW];omega)
def qE (rows:bh):Prop:=rows.Pairwise fun a b=>bZ a b<0
theorem Jk {a b:yQ} (h1:¬ bZ a b<0) (h2:¬ bZ a b=0):bZ b a<0:=by
 have:=qD a b;omega
theorem FH:∀ (m:Nat) (a b:bh),qE a->qE b->qE (cC m a b):=by
 intro m
 induction m with
 | zero=>intro a b _ _;exact List.Pairwise.nil
 | succ m ih =>
  intro a b ha hb
  match a,b with
  | [],[]=>exact List.Pairwise.nil
  | [],y :: b =>
   rw [cC]
   obtain ⟨h1,h2⟩:=jU.1 hb
   refine jU.2 ⟨fun r hr=>?_,ih [] b ha h2⟩
   rcases oi _ _ _ _ hr with h | h
   ·simp at h
   ·exact h1 r h
  | x :: a,[] =>
   rw [cC]
   obtain ⟨h1,h2⟩:=jU.1 ha
   refine jU.2 ⟨fun r hr=>?_,ih a [] h2 hb⟩
   rcases oi _ _ _ _ hr with h | h
   ·exact h1 r h
   ·simp at h
  | x :: a,y :: b =>
   obtain ⟨h1,h2⟩:=jU.1 ha
   obtain ⟨g1,g2⟩:=jU.1 hb
   rw [cC]
   by_cases hlt:bZ x y<0
   ·rw [aX hlt]
    refine jU.2 ⟨fun r hr=>?_,ih a (y :: b) h2 hb⟩
    rcases oi _ _ _ _ hr with h | h
    ·exact h1 r h
    ·rcases cZ.1 h with rfl | h
     ·exact hlt
     ·exact md hlt (g1 r h)
   ·rw [a9 hlt]
    by_cases heq:bZ x y=0
    ·rw [aX heq]
     have e:=lX.1 heq
     refine jU.2 ⟨fun r hr=>?_,ih a b h2 g2⟩
     rcases oi _ _ _ _ hr with h | h
     ·exact h1 r h
     ·rw [e];exact g1 r h
    ·rw [a9 heq]
     have hgt:=Jk hlt heq
     refine jU.2 ⟨fun r hr=>?_,ih (x :: a) b ha g2⟩
     rcases oi _ _ _ _ hr with h | h
     ·rcases cZ.1 h with rfl | h
      ·exact hgt
      ·exact md hgt (h1 r h)
     ·exact g1 r h
def eQ:Nat->bh->bh
 | 0,rows=>rows
 | f+1,rows=>if rows.length<2 then rows else cC rows.length (eQ f (rows.take (rows.length / 2))) (eQ f (rows.drop (rows.length / 2)))
theorem iS:∀ (f:Nat) (rows:bh),(eQ f rows).length<=rows.length:=by
 intro f
 induction f with
 | zero=>intro rows;exact bN _
 | succ f ih =>
  intro rows
  unfold eQ
  split
  ·exact bN _
  ·have h1:=Fd rows.length (eQ f (rows.take (rows.length / 2))) (eQ f (rows.drop (rows.length / 2)))
   have h2:=ih (rows.take (rows.length / 2))
   have h3:=ih (rows.drop (rows.length / 2))
   rw [dh] at h2
   rw [jq] at h3
   omega
theorem lT:∀ (f:Nat) (rows:bh) (r:yQ),r∈eQ f rows->r∈rows:=by
 intro f
 induction f with
 | zero=>intro rows r h;exact h
 | succ f ih =>
  intro rows r h
  unfold eQ at h
  split at h
  ·exact h
  ·rcases oi _ _ _ _ h with h | h
   ·exact qV (ih _ _ h)
   ·exact List.mem_of_mem_drop (ih _ _ h)
theorem xk:∀ (f:Nat) (rows:bh),rows.length<=2 ^ f->qE (eQ f rows):=by
 intro f
 induction f with
 | zero =>
  intro rows h
  match rows,h with
  | [],_=>exact List.Pairwise.nil
  | [x],_=>exact wP _ _
  | _ :: _ :: _,h=>simp at h
 | succ f ih =>
  intro rows h
  rw [pZ] at h
  unfold eQ
  by_cases h2:rows.length<2
  ·rw [aX h2]
   match rows,h2 with
   | [],_=>exact List.Pairwise.nil
   | [x],_=>exact wP _ _
   | _ :: _ :: _,h2=>simp at h2;omega
  ·rw [a9 h2]
   exact FH _ _ _ (ih _ (by rw [dh];omega)) (ih _ (by rw [jq];omega))
section
variable {N:Nat}
theorem ixc {α:Type} (x:α) (a:List α):ix (x :: a) 0=some x:=by unfold ix;rw [aX oa];rfl
theorem tS {α:Type} (x:α) (a:List α):slc (x :: a) 1 ((x :: a).length:Int)=some a:=by
 have h:=lc (xs:=x :: a) (lo:=1) (hi:=(x :: a).length) (by simp) (bN _)
 rw [fC] at h
 exact h
theorem wE {α:Type} (x:α) (a:List α):decide ((0:Int)<((x :: a).length:Int))=true:=aW (by rw [bW];omega)
theorem w4 {α:Type}:decide ((0:Int)<(([]:List α).length:Int))=false:=rfl
theorem Fs {α:Type} (x:α) (a:List α):(((x :: a).length:Int) == 0)=false:=by simp;omega
theorem HE (hN:1073741824<=N) {rec:bh->Option bh}:∀ (m k:Nat) (a b out:bh),a.length+b.length<=m->m<k->(∀ r∈a,r.length<=1048576)->(∀ r∈b,r.length<=1048576)->out.length+m<=4194304 ->
  bq rec N k a b out=some ([],[],out++cC m a b):=by
 intro m
 induction m with
 | zero =>
  intro k a b out h hk ha hb ho
  obtain ⟨k,rfl⟩:∃ k',k=k'+1:=⟨k-1,oa⟩
  obtain rfl:a=[]:=ma.1 oa
  obtain rfl:b=[]:=ma.1 (by simpa using h)
  rw [bq,w4,am,am,cC,mP]
 | succ m ih =>
  intro k a b out h hk ha hb ho
  obtain ⟨k,rfl⟩:∃ k',k=k'+1:=⟨k-1,oa⟩
  match a,b with
  | [],[]=>rw [bq,w4,am,am,cC,mP]
  | [],y :: b =>
   simp only [bW,fH] at h
   rw [bq,w4,am,wE,ag,show ((([]:bh).length:Int) == 0)=true from rfl,ag,show decide ((1:Int)<=0)=false from rfl,am,show decide ((0:Int)<=1)=true from rfl,ag,show decide ((0:Int)<1)=true from rfl,ag,ixc,bs,bA (by decide) (by simp;omega),bs,tS,bs,
    ih k [] b (out++[y]) (by simp;omega) oa ha (fun r hr=>hb r (by simp [hr])) (by rw [b8,bT];omega),cC,gT]
   rfl
  | x :: a,[] =>
   simp only [bW,fH] at h
   rw [bq,wE,ag,Fs,am,w4,am,show decide ((-1:Int)<=0)=true from rfl,ag,ixc,bs,bA (by decide) (by simp;omega),bs,tS,bs,show decide ((0:Int)<=-1)=false from rfl,am,
    ih k a [] (out++[x]) (by simp;omega) oa (fun r hr=>ha r (by simp [hr])) hb (by rw [b8,bT];omega),cC,gT]
   rfl
  | x :: a,y :: b =>
   simp only [bW] at h
   have hx:=ha x (by simp);have hy:=hb y (by simp)
   rw [bq,wE,ag,Fs,am,wE,ag,ixc,bs,ixc,bs,lE hN hx oa,bs,cC]
   by_cases hlt:bZ x y<0
   ·rw [aX hlt,aW (by omega:bZ x y<=0),ag,bs,bA (by decide) (by simp;omega),bs,tS,bs,ba (by omega:¬ 0<=bZ x y),am,
     ih k a (y :: b) (out++[x]) (by simp only [bW];omega) oa (fun r hr=>ha r (by simp [hr])) hb (by rw [b8,bT];omega),gT]
    rfl
   ·rw [a9 hlt]
    by_cases heq:bZ x y=0
    ·rw [aX heq,aW (by omega:bZ x y<=0),ag,bs,bA (by decide) (by simp;omega),bs,tS,bs,aW (by omega:0<=bZ x y),ag,ba (by omega:¬ 0<bZ x y),am,tS,bs,
      ih k a b (out++[x]) oa oa (fun r hr=>ha r (by simp [hr])) (fun r hr=>hb r (by simp [hr])) (by rw [b8,bT];omega),gT]
     rfl
    ·rw [a9 heq,ba (by omega:¬ bZ x y<=0),am,aW (by omega:0<=bZ x y),ag,aW (by omega:0<bZ x y),ag,bs,bA (by decide) (by simp;omega),bs,tS,bs,
      ih k (x :: a) b (out++[y]) (by simp only [bW];omega) oa ha (fun r hr=>hb r (by simp [hr])) (by rw [b8,bT];omega),gT]
     rfl
def w8 (z:Option (yQ)):bh->bh
 | []=>[]
 | y :: b=>if z=some y then b else y :: b
def Mw (z:Option (yQ)) (a b:bh):Prop:=qE a/\qE b/\∀ w,z=some w->(∀ x∈a,bZ w x<0)/\∀ y∈b,bZ w y<=0
theorem tK (x:yQ):bZ x x=0:=lX.2 rfl
theorem tF {x:yQ} {b:bh} (h:∀ y∈b,bZ x y<0):w8 (some x) b=b:=by
 match b with
 | []=>rfl
 | y :: b =>
  show (if some x=some y then b else y :: b)=y :: b
  rw [a9]
  intro e
  have:=h y (by simp)
  rw [c8 e,tK] at this;omega
theorem xi {z:Option (yQ)} {y:yQ} {b:bh} (h:z=some y):w8 z (y :: b)=b:=aX h
theorem rx {z:Option (yQ)} {y:yQ} {b:bh} (h:¬ z=some y):w8 z (y :: b)=y :: b:=a9 h
theorem Dd {out r:bh} {x:yQ}:(out++[x])++r=out++x :: r:=by simp
theorem vS {out:bh} {x:yQ}:(out++[x]).getLast? = some x:=by simp
theorem Cf (hN:1073741824<=N) {α:Type} {out:bh} {x:yQ} {F G:Option α} (hl:∀ r∈out,r.length<=1048576) (hx:x.length<=1048576) (ho:out.length<=4194304) (f:bh->Option α) (hF:F=(apd 24 out [x]).bind f) (hG:G=(sb (out.length:Int) 1).bind fun i=>(ix out i).bind fun w=>(cn N w x).bind fun r=>bif (r != 0) then (apd 24 out [x]).bind f else f out) :
  (bif ((out.length:Int) == 0) then F else G)=f (if out.getLast? = some x then out else out++[x]):=by
 have hap:apd 24 out [x]=some (out++[x]):=bA (by decide) (by simp;omega)
 by_cases h0:out=[]
 ·subst h0
  rw [show ((([]:bh).length:Int) == 0)=true from rfl,ag,hF,hap,bs]
  rfl
 ·have hp:0<out.length:=wn.2 h0
  have hlast:out.getLast? = some out[out.length-1]:=by rw [List.getLast?_eq_getElem?,qY oa]
  rw [show ((out.length:Int) == 0)=false by simp;omega,am,hG,eu oa oa,bs,show (out.length:Int)-1=((out.length-1:Nat):Int) by omega,be oa,bs,nx hN (hl _ (bF _)) oa,bs,hap,bs,HQ,hlast]
  by_cases e:out[out.length-1]=x
  ·rw [aW e,uv,am,aX (by rw [e])]
  ·rw [ba e,tc,ag,a9 (fun h=>e (c8 h))]
def yj (rows:bh):Prop:=∀ r∈rows,r.length<=1048576
theorem o8 {x:yQ} {a:bh} (h:yj (x :: a)):yj a:=fun r hr=>h r (by simp [hr])
theorem vT {out:bh} {x:yQ} (h:yj out) (hx:x.length<=1048576):yj (out++[x]):=by
 intro r hr
 rcases dj.1 hr with hr | hr
 ·exact h r hr
 ·simp only [fD] at hr;subst hr;exact hx
theorem vr {x:yQ} {a:bh} (h:qE (x :: a)):(∀ y∈a,bZ x y<0)/\qE a:=jU.1 h
theorem Ik (hN:1073741824<=N) {rec:bh->Option bh}:∀ (m k:Nat) (a b out:bh),a.length+b.length<=m->m<k->yj a->yj b->yj out->out.length+m<=4194304->Mw out.getLast? a b ->
  bk rec N k a b out=some ([],[],out++cC m a (w8 out.getLast? b)):=by
 intro m
 induction m with
 | zero =>
  intro k a b out h hk ha hb hl ho hI
  obtain ⟨k,rfl⟩:∃ k',k=k'+1:=⟨k-1,oa⟩
  obtain rfl:a=[]:=ma.1 oa
  obtain rfl:b=[]:=ma.1 (by simpa using h)
  rw [bk,w4,am,am,cC,mP]
 | succ m ih =>
  intro k a b out h hk ha hb hl ho hI
  obtain ⟨k,rfl⟩:∃ k',k=k'+1:=⟨k-1,oa⟩
  obtain ⟨aa,ab,iz⟩:=hI
  match a,b with
  | [],[] =>
   rw [bk,w4,am,am]
   show _=some ([],[],out++cC (m+1) [] [])
   rw [cC,mP]
  | [],y :: b =>
   simp only [bW,fH] at h
   have hy:=hb y (by simp)
   obtain ⟨b1,b2⟩:=vr ab
   rw [bk,w4,am,wE,ag,show ((([]:bh).length:Int) == 0)=true from rfl,ag,show decide ((0:Int)<1)=true from rfl,ag,ixc,bs,tS,bs]
   refine Eq.trans (Cf (f:=fun o=>bk rec N k [] b o) hN hl hy oa rfl rfl) ?_
   by_cases e:out.getLast? = some y
   ·rw [aX e]
    show bk rec N k [] b out=_
    rw [ih k [] b out (by simp;omega) oa ha (o8 hb) hl oa ⟨aa,b2,fun w hw=>⟨by simp,fun y' hy'=>(iz w hw).2 y' (by simp [hy'])⟩⟩,xi e,e,tF b1,yc m (m+1) [] b (by simp;omega) (by simp;omega)]
   ·rw [a9 e]
    show bk rec N k [] b (out++[y])=_
    rw [ih k [] b (out++[y]) (by simp;omega) oa ha (o8 hb) (vT hl hy) (by rw [b8,bT];omega) ⟨aa,b2,fun w hw=>by
      rw [vS] at hw;cases hw;exact ⟨by simp,fun y' hy'=>sL (b1 y' hy')⟩⟩,vS,tF b1,rx e,cC,Dd]
  | x :: a,[] =>
   simp only [bW,fH] at h
   have hx:=ha x (by simp)
   obtain ⟨a1,a2⟩:=vr aa
   have e:¬ out.getLast? = some x:=fun e=>by have:=(iz x e).1 x (by simp);rw [tK] at this;omega
   rw [bk,wE,ag,Fs,am,w4,am,show decide ((0:Int) < -1)=false from rfl,am,ixc,bs,tS,bs]
   refine Eq.trans (Cf (f:=fun o=>bk rec N k a [] o) hN hl hx oa rfl rfl) ?_
   rw [a9 e]
   show bk rec N k a [] (out++[x])=_
   rw [ih k a [] (out++[x]) (by simp;omega) oa (o8 ha) hb (vT hl hx) (by rw [b8,bT];omega) ⟨a2,ab,fun w hw=>by
     rw [vS] at hw;cases hw;exact ⟨a1,by simp⟩⟩]
   show some ([],[],(out++[x])++cC m a [])=some ([],[],out++cC (m+1) (x :: a) [])
   rw [cC,Dd]
  | x :: a,y :: b =>
   simp only [bW] at h
   have hx:=ha x (by simp);have hy:=hb y (by simp)
   obtain ⟨a1,a2⟩:=vr aa
   obtain ⟨b1,b2⟩:=vr ab
   have ex:¬ out.getLast? = some x:=fun e=>by have:=(iz x e).1 x (by simp);rw [tK] at this;omega
   rw [bk,wE,ag,Fs,am,wE,ag,ixc,bs,ixc,bs,nx hN hx oa,bs]
   by_cases hgt:0<bZ x y
   ·have hyx:bZ y x<0:=by have:=qD x y;omega
    rw [aW hgt,ag,bs,tS,bs]
    refine Eq.trans (Cf (f:=fun o=>bk rec N k (x :: a) b o) hN hl hy oa rfl rfl) ?_
    by_cases e:out.getLast? = some y
    ·rw [aX e]
     show bk rec N k (x :: a) b out=_
     rw [ih k (x :: a) b out (by simp only [bW];omega) oa ha (o8 hb) hl oa ⟨aa,b2,fun w hw=>⟨(iz w hw).1,fun y' hy'=>(iz w hw).2 y' (by simp [hy'])⟩⟩,xi e,e,tF b1,yc m (m+1) (x :: a) b (by simp only [bW];omega) (by simp only [bW];omega)]
    ·rw [a9 e]
     show bk rec N k (x :: a) b (out++[y])=_
     rw [ih k (x :: a) b (out++[y]) (by simp only [bW];omega) oa ha (o8 hb) (vT hl hy) (by rw [b8,bT];omega) ⟨aa,b2,fun w hw=>by
       rw [vS] at hw;cases hw
       refine ⟨fun x' hx'=>?_,fun y' hy'=>sL (b1 y' hy')⟩
       rcases cZ.1 hx' with rfl | hx'
       ·exact hyx
       ·exact md hyx (a1 x' hx')⟩,vS,tF b1,rx e,cC,a9 oa,a9 oa,Dd]
   ·rw [ba hgt,am,bs,tS,bs]
    refine Eq.trans (Cf (f:=fun o=>bk rec N k a (y :: b) o) hN hl hx oa rfl rfl) ?_
    rw [a9 ex]
    show bk rec N k a (y :: b) (out++[x])=_
    have ey:¬ out.getLast? = some y:=fun e=>by
     have h1:=(iz y e).1 x (by simp)
     have:=qD x y
     omega
    have hb':∀ y'∈b,bZ x y'<0:=fun y' hy'=>by
     by_cases h0:bZ x y=0
     ·rw [lX.1 h0];exact b1 y' hy'
     ·exact md oa (b1 y' hy')
    rw [ih k a (y :: b) (out++[x]) (by simp only [bW];omega) oa (o8 ha) hb (vT hl hx) (by rw [b8,bT];omega) ⟨a2,ab,fun w hw=>by
      rw [vS] at hw;cases hw
      refine ⟨a1,fun y' hy'=>?_⟩
      rcases cZ.1 hy' with rfl | hy'
      ·omega
      ·exact sL (hb' y' hy')⟩,vS,rx ey,cC]
    by_cases h0:bZ x y=0
    ·rw [xi (by rw [lX.1 h0]),a9 oa,aX h0,Dd]
    ·rw [rx (fun e=>h0 (by rw [c8 e,tK])),aX oa,Dd]
theorem qt2 {n:Nat} (h:n<=1048576):qt (n:Int) 2=some ((n / 2:Nat):Int):=by
 have e:(n:Int).tdiv 2=((n / 2:Nat):Int):=rfl
 unfold qt
 rw [e,aX ⟨by decide,by unfold rng;simp only [bU,dN];omega⟩]
theorem BQ:∀ (d M:Nat) (rows:bh),rows.length<=2 ^ d->1073741825+d<=M->iX rows->hY M rows=some (eQ d rows):=by
 intro d
 induction d with
 | zero =>
  intro M rows h hM hr
  obtain ⟨M,rfl⟩:∃ M',M=M'+1:=⟨M-1,oa⟩
  rw [hY,aW (by simp at h;omega),ag,tQ oa hr,bs];rfl
 | succ d ih =>
  intro M rows h hM hr
  obtain ⟨M,rfl⟩:∃ M',M=M'+1:=⟨M-1,oa⟩
  rw [pZ] at h
  have hl:=hr.1
  rw [hY,eQ]
  by_cases h2:rows.length<2
  ·rw [aW oa,ag,tQ oa hr,bs,aX h2]
  ·have ht:iX (rows.take (rows.length / 2)):=⟨by rw [dh];omega,fun r h=>hr.2 r (qV h)⟩
   have hd:iX (rows.drop (rows.length / 2)):=⟨by rw [jq];omega,fun r h=>hr.2 r (List.mem_of_mem_drop h)⟩
   have l1:=iS d (rows.take (rows.length / 2))
   have l2:=iS d (rows.drop (rows.length / 2))
   rw [dh] at l1
   rw [jq] at l2
   rw [ba oa,am,a9 h2,qt2 hl,bs,show (0:Int)=((0:Nat):Int) from rfl,lc (cE _) oa,bs,lc oa (bN _),bs,gS,fC,
    ih M _ (by rw [dh];omega) oa ht,bs,ih M _ (by rw [jq];omega) oa hd,bs,
    HE oa rows.length M _ _ [] oa oa (fun r h=>(ht.2 r (lT _ _ _ h)).1) (fun r h=>(hd.2 r (lT _ _ _ h)).1) (by rw [fH];omega),bs,lpB]
   rfl
theorem Gy:∀ (d M:Nat) (rows:bh),rows.length<=2 ^ d->1073741825+d<=M->iX rows->iZ M rows=some (eQ d rows):=by
 intro d
 induction d with
 | zero =>
  intro M rows h hM hr
  obtain ⟨M,rfl⟩:∃ M',M=M'+1:=⟨M-1,oa⟩
  rw [iZ,aW (by simp at h;omega),ag];rfl
 | succ d ih =>
  intro M rows h hM hr
  obtain ⟨M,rfl⟩:∃ M',M=M'+1:=⟨M-1,oa⟩
  rw [pZ] at h
  have hl:=hr.1
  rw [iZ,eQ]
  by_cases h2:rows.length<2
  ·rw [aW oa,ag,aX h2]
  ·have ht:iX (rows.take (rows.length / 2)):=⟨by rw [dh];omega,fun r h=>hr.2 r (qV h)⟩
   have hd:iX (rows.drop (rows.length / 2)):=⟨by rw [jq];omega,fun r h=>hr.2 r (List.mem_of_mem_drop h)⟩
   have l1:=iS d (rows.take (rows.length / 2))
   have l2:=iS d (rows.drop (rows.length / 2))
   have ha1:=xk d (rows.take (rows.length / 2)) (by rw [dh];omega)
   have ha2:=xk d (rows.drop (rows.length / 2)) (by rw [jq];omega)
   rw [dh] at l1
   rw [jq] at l2
   rw [ba oa,am,a9 h2,qt2 hl,bs,show (0:Int)=((0:Nat):Int) from rfl,lc (cE _) oa,bs,gS,
    ih M _ (by rw [dh];omega) oa ht,bs,lc oa (bN _),bs,fC,ih M _ (by rw [jq];omega) oa hd,bs,
    Ik oa rows.length M _ _ [] oa oa (fun r h=>(ht.2 r (lT _ _ _ h)).1) (fun r h=>(hd.2 r (lT _ _ _ h)).1) (fun r h=>by simp at h) (by rw [fH];omega) ⟨ha1,ha2,fun w hw=>by simp at hw⟩,bs,lpB]
   have hdz:w8 (([]:bh).getLast?) (eQ d (rows.drop (rows.length / 2)))=eQ d (rows.drop (rows.length / 2)):=by
    cases eQ d (rows.drop (rows.length / 2)) with
    | nil=>rfl
    | cons y b=>exact rx (by simp)
   rw [hdz]
   rfl
end
def qC (n:Int) (rows:bh):Bool:=rows.all fun r=>decide ((r.length:Int)=n)&&cV r
def rU:(Int × bh) × Bool:=((0,[]),false)
def po (n:Int) (rows:bh):(Int × bh) × Bool:=bif qC n rows&&bO n (eQ 20 rows) then ((n,eQ 20 rows),true) else rU
def gr (row cols:yQ):yQ:=cols.map fun c=>row.getD c.toNat 0
theorem wG (row cols:yQ):(gr row cols).length=cols.length:=by simp [gr]
theorem FB {row cols:yQ} {i:Nat} (h:i<cols.length):gr row (cols.take i)++[row.getD cols[i].toNat 0]=gr row (cols.take (i+1)):=by
 unfold gr;rw [gk h,fE];rfl
def nm (n:Int) (cols:yQ):Bool:=cols.all fun c=>inR c 0 (n-1)
def xE (n:Int) (rows:bh) (cols:yQ):(Int × bh) × Bool :=
 bif bO n rows&&(decide ((cols.length:Int)<=5)&&nm n cols) then po (cols.length:Int) (rows.map fun r=>gr r cols) else rU
def Af (n:Int) (rows:bh) (cols:yQ):(Int × bh) × Bool:=bif mA cols&&decide ((cols.length:Int)=n) then (bif (xE n rows cols).2 then ((xE n rows cols).1,true) else rU) else rU
theorem vO {rows:bh} (d:Nat) (h:iX rows):iX (eQ d rows):=⟨Nat.le_trans (iS d rows) h.1,fun r hr=>h.2 r (lT _ _ _ hr)⟩
section
variable {N:Nat}
theorem Jr (hN:1073741824<=N) {n:Int} {rows:bh} (hr:iX rows):fu N N n rows 0 [] rows (rows.length:Int) 0=some (bif qC n rows then .inr (rows.length:Int) else .inl rU):=by
 have hl:=hr.1
 have h:=mw (fun k i=>fu N k n rows 0 [] rows (rows.length:Int) i) rows.length oa rU (fun i=>if h:i<rows.length then decide ((rows[i].length:Int)=n)&&cV rows[i] else true) (rows.length:Int)
  (fun k i h=>by
   have hx:=(hr.2 _ (bF h)).1
   show fu N (k+1) n rows 0 [] rows (rows.length:Int) (i:Int)=_
   rw [fu,dlt h,ag,be h,bs,oL hN hx,bs,ad1 oa,bs,jg h]
   by_cases e:(rows[i].length:Int)=n
   ·rw [show ((rows[i].length:Int) != n)=false by simpa using e,am,aW e,cW];rfl
   ·rw [show ((rows[i].length:Int) != n)=true by simpa using e,ag,ba e,jv,am];rfl)
  (fun k=>by
   show fu N (k+1) n rows 0 [] rows (rows.length:Int) (rows.length:Int)=_
   rw [fu,dge oa,am]) N 0 oa oa
 rw [iP,mb rows (fun r=>decide ((r.length:Int)=n)&&cV r) _ (fun i hi=>by rw [jg hi])] at h
 exact h
theorem Ji (hN:1073741824<=N) {n:Int} {rows:bh} (hr:iX rows):fq N N n rows 0 [] 0=some (bif qC n rows then .inr (rows.length:Int) else .inl rU):=by
 have hl:=hr.1
 have h:=mw (fun k i=>fq N k n rows 0 [] i) rows.length oa rU (fun i=>if h:i<rows.length then decide ((rows[i].length:Int)=n)&&cV rows[i] else true) (rows.length:Int)
  (fun k i h=>by
   have hx:=(hr.2 _ (bF h)).1
   show fq N (k+1) n rows 0 [] (i:Int)=_
   rw [fq,dlt h,ag,be h,bs,bs,oR hN hx,bs,ad1 oa,bs,jg h]
   by_cases e:(rows[i].length:Int)=n
   ·rw [show ((rows[i].length:Int) != n)=false by simpa using e,am,aW e,cW];rfl
   ·rw [show ((rows[i].length:Int) != n)=true by simpa using e,ag,ba e,jv,am];rfl)
  (fun k=>by
   show fq N (k+1) n rows 0 [] (rows.length:Int)=_
   rw [fq,dge oa,am]) N 0 oa oa
 rw [iP,mb rows (fun r=>decide ((r.length:Int)=n)&&cV r) _ (fun i hi=>by rw [jg hi])] at h
 exact h
theorem wh (hM:1073742848<=N) {n:Int} {rows:bh} (hr:iX rows):jy N n rows=some (po n rows):=by
 unfold jy po
 rw [Jr oa hr,bs]
 cases qC n rows with
 | false=>rw [am,lN];rfl
 | true =>
  rw [ag,iW,BQ 20 N rows (by have:=hr.1;omega) oa hr,bs,jm oa (vO 20 hr),bs,cW]
  cases bO n (eQ 20 rows) <;> rfl
theorem qf (hM:1073742848<=N) {n:Int} {rows:bh} (hr:iX rows):iK N n rows=some (po n rows):=by
 unfold iK po
 rw [Ji oa hr,bs]
 cases qC n rows with
 | false=>rw [am,lN];rfl
 | true =>
  rw [ag,iW,Gy 20 N rows (by have:=hr.1;omega) oa hr,bs,B1 oa (vO 20 hr),bs,ot oa (vO 20 hr),bs,cW]
  cases bO n (eQ 20 rows) <;> rfl
theorem E6 (hN:1073741824<=N) {row cols:yQ} (hc:cols.length<=1048576) (hin:∀ c∈cols,0<=c/\c<row.length):pp N row cols=some (gr row cols):=by
 have h:=gC (fun k (s:yQ) i=>je N k row s cols (cols.length:Int) i) cols.length (fun i=>gr row (cols.take i)) (gr row cols,(cols.length:Int))
  (fun k i h=>by
   have hb:=hin _ (bF h)
   show je N (k+1) row (gr row (cols.take i)) cols (cols.length:Int) (i:Int)=_
   rw [je,dlt h,ag,be h,bs,nG hb.1 hb.2,bs,bA (by decide) (by rw [wG];simp;omega),bs,ad1 oa,bs,<- bP oa,FB h])
  (fun k=>by
   show je N (k+1) row (gr row (cols.take cols.length)) cols (cols.length:Int) (cols.length:Int)=_
   rw [je,dge oa,am,fC]) N 0 oa oa
 have h':je N N row [] cols (cols.length:Int) 0=_:=h
 unfold pp
 rw [h',bs,lpB]
theorem we (hN:1073741824<=N) {n:Int} {cols:yQ} (hc:cols.length<=1048576) (hn:-1000<=n/\n<=1000):kg N n cols=some (decide ((cols.length:Int)<=5)&&nm n cols):=by
 unfold kg
 by_cases h5:5<(cols.length:Int)
 ·rw [aW h5,ag,ba oa];rfl
 rw [ba h5,am,aW oa,cW]
 have h:=vU (fun k i=>gl N k n cols (cols.length:Int) i) cols (fun c=>inR c 0 (n-1)) hN hc
  (fun k i h=>by
   show gl N (k+1) n cols (cols.length:Int) (i:Int)=_
   rw [gl,dlt h,ag,be h,bs,eu oa oa,bs,gK,bs,ad1 oa,bs])
  (fun k=>by
   show gl N (k+1) n cols (cols.length:Int) (cols.length:Int)=_
   rw [gl,dge oa,am])
 rw [h,bs]
 unfold nm
 cases cols.all fun c=>inR c 0 (n-1) <;> rfl
theorem B7 {rows:bh} {f:yQ->yQ} {i:Nat} (h:i<rows.length):(rows.take i).map f++[f rows[i]]=(rows.take (i+1)).map f:=by
 rw [gk h,fE];rfl
theorem IF {n:Int} {rows:bh} {cols:yQ} (hv:bO n rows=true) (hc:nm n cols=true) {i:Nat} (h:i<rows.length):∀ c∈cols,0<=c/\c<rows[i].length:=by
 obtain ⟨_,_,_,h3⟩:=dQ hv
 intro c hcm
 have h1:=(h3 i h).1
 unfold nm at hc
 have h2:=cg.1 ((dL.1 hc) c hcm)
 omega
theorem zh (hM:1073742848<=N) {n:Int} {rows:bh} {cols:yQ} (hr:iX rows) (hc:cols.length<=1048576):nW N n rows cols=some (xE n rows cols):=by
 have hl:=hr.1
 unfold nW xE
 rw [jm oa hr,bs]
 cases hv:bO n rows with
 | false=>rfl
 | true =>
  obtain ⟨n0,n5,_,_⟩:=dQ hv
  rw [ag,we oa hc oa,bs,cW]
  cases h5:decide ((cols.length:Int)<=5)&&nm n cols with
  | false=>rfl
  | true =>
   rw [bU] at h5
   have hin:=fun (i:Nat) (h:i<rows.length)=>IF hv h5.2 h
   have h:=gC (fun k (s:bh) i=>gO N k cols 0 [] s rows (rows.length:Int) i) rows.length (fun i=>(rows.take i).map fun r=>gr r cols) (rows.map (fun r=>gr r cols),(rows.length:Int))
    (fun k i h=>by
     show gO N (k+1) cols 0 [] ((rows.take i).map fun r=>gr r cols) rows (rows.length:Int) (i:Int)=_
     rw [gO,dlt h,ag,be h,bs,E6 oa hc (hin i h),bs,bA (by decide) (by simp;omega),bs,ad1 oa,bs,B7 (f:=fun r=>gr r cols) h])
    (fun k=>by
     show gO N (k+1) cols 0 [] ((rows.take rows.length).map fun r=>gr r cols) rows (rows.length:Int) (rows.length:Int)=_
     rw [gO,dge oa,am,fC]) N 0 oa oa
   have h':gO N N cols 0 [] [] rows (rows.length:Int) 0=_:=h
   have hok:iX (rows.map fun r=>gr r cols):=⟨by rw [cD];exact hl,fun r hr=>by
    obtain ⟨x,_,rfl⟩:=fK.1 hr
    exact ⟨by rw [wG];exact hc,fun _ _=>trivial⟩⟩
   rw [ag,h',bs,lpB]
   show (jy N (cols.length:Int) (rows.map fun r=>gr r cols)).bind _=_
   rw [wh hM hok,bs]
   rfl
theorem xK (hM:1073742848<=N) {n:Int} {rows:bh} {cols:yQ} (hr:iX rows) (hc:cols.length<=1048576):mL N n rows cols=some (Af n rows cols):=by
 unfold mL Af
 rw [uo oa hc,bs]
 cases mA cols with
 | false=>rfl
 | true =>
  rw [ag,cW]
  by_cases e:(cols.length:Int)=n
  ·rw [show ((cols.length:Int) != n)=false by simpa using e,am,aW e,ag,zh hM hr hc,bs]
   cases (xE n rows cols).2 <;> rfl
  ·rw [show ((cols.length:Int) != n)=true by simpa using e,ag,ba e,am];rfl
end
def bL (xs:yQ):yQ:=(sT 5).filter fun v=>decide (v∈xs)
theorem j4 (xs:yQ):(bL xs).length<=5:=by
 unfold bL
 exact Nat.le_trans (qS _ _) (by rw [CT];omega)
def nz (xs:yQ) (i:Nat):yQ:=(sT i).filter fun v=>decide (v∈xs)
theorem BY (xs:yQ) (i:Nat):(nz xs i).length<=i:=by
 unfold nz
 exact Nat.le_trans (qS _ _) (by rw [CT];omega)
theorem BZ (i:Nat):sT (i+1)=sT i++[(i:Int)]:=by unfold sT;rw [oD];simp
theorem CE {xs:yQ} {i:Nat} (h:decide ((i:Int)∈xs)=true):nz xs i++[(i:Int)]=nz xs (i+1):=by
 unfold nz;rw [BZ,uY];simp only [rr,List.filter_nil,h,if_true]
theorem BJ {xs:yQ} {i:Nat} (h:decide ((i:Int)∈xs)=false):nz xs i=nz xs (i+1):=by
 unfold nz;rw [BZ,uY];simp [h]
def kn (vars out:yQ) (v:Int):yQ:=bif decide (0<=fY vars v)&&!decide (fY vars v∈out) then out++[fY vars v] else out
def mr (xs yM:yQ):yQ:=yM.foldl (kn (bL xs)) []
theorem D1 (vars out:yQ) (v:Int):(kn vars out v).length<=out.length+1:=by
 unfold kn;cases decide (0<=fY vars v)&&!decide (fY vars v∈out) <;> simp
theorem x4 (vars:yQ):∀ (l out:yQ),(l.foldl (kn vars) out).length<=out.length+l.length
 | [],out=>by simp
 | v :: l,out=>by
  have h1:=x4 vars l (kn vars out v)
  have h2:=D1 vars out v
  rw [sY,bW];omega
def oq (n:Int) (yL:List bj) (out yM:yQ):Bool:=et n yL out&&(decide ((yM.length:Int)=n)&&jx yM n)
section
variable {N:Nat}
theorem ph (hN:1073741824<=N) {s:ByteArray} {xs:yQ} (hx:okI xs):iL N s xs=some (bL xs):=by
 have h:=gC (fun k (o:yQ) i=>dF N k s xs o i) 5 (nz xs) (bL xs,5)
  (fun k i h=>by
   have hl:=BY xs i
   show dF N (k+1) s xs (nz xs i) (i:Int)=_
   rw [dF,aW oa,ag,lD hN hx,bs]
   cases hc:decide ((i:Int)∈xs) with
   | true=>rw [ag,bA (by decide) (by simp;omega),bs,ad1 oa,bs,CE hc]
   | false=>rw [am,ad1 oa,bs,<- BJ hc])
  (fun k=>by
   show dF N (k+1) s xs (nz xs 5) ((5:Nat):Int)=_
   rw [dF,ba oa,am];rfl) N 0 oa oa
 have h':dF N N s xs [] 0=_:=h
 unfold iL
 rw [h',bs,lpB]
theorem uH (hN:1073741824<=N) {s:ByteArray} {xs:yQ} (hx:okI xs):jT N s xs=some (bL xs):=by
 have h:=gC (fun k (o:yQ) i=>dG N k s xs o i) 5 (nz xs) (bL xs,5)
  (fun k i h=>by
   have hl:=BY xs i
   show dG N (k+1) s xs (nz xs i) (i:Int)=_
   rw [dG,aW oa,ag,lj hN hx,bs]
   cases hc:decide ((i:Int)∈xs) with
   | true=>rw [ag,bA (by decide) (by simp;omega),bs,ad1 oa,bs,CE hc]
   | false=>rw [am,ad1 oa,bs,<- BJ hc])
  (fun k=>by
   show dG N (k+1) s xs (nz xs 5) ((5:Nat):Int)=_
   rw [dG,ba oa,am];rfl) N 0 oa oa
 have h':dG N N s xs [] 0=_:=h
 unfold jT
 rw [h',bs,lpB]
def rH (vars yM:yQ) (i:Nat):yQ:=(yM.take i).foldl (kn vars) []
theorem Gf {vars yM:yQ} {i:Nat} (h:i<yM.length):rH vars yM (i+1)=kn vars (rH vars yM i) yM[i]:=by
 unfold rH;rw [gk h,zt];rfl
theorem HY (vars yM:yQ) (i:Nat):(rH vars yM i).length<=i:=by
 have:=x4 vars (yM.take i) []
 unfold rH
 rw [dh,fH] at this
 omega
theorem tp (hN:1073741824<=N) {s:ByteArray} {xs yM:yQ} (hx:okI xs) (ho:yM.length<=1048576):i8 N s xs yM=some (mr xs yM):=by
 have hv:=j4 xs
 have h:=gC (fun k (o:yQ) i=>cL N k (bL xs) o yM (yM.length:Int) i) yM.length (rH (bL xs) yM) (rH (bL xs) yM yM.length,(yM.length:Int))
  (fun k i h=>by
   have hl:=HY (bL xs) yM i
   show cL N (k+1) (bL xs) (rH (bL xs) yM i) yM (yM.length:Int) (i:Int)=_
   rw [cL,dlt h,ag,be h,bs,vY hN oa,bs,wV hN oa,bs,ad1 oa,bs,Gf h,bA (by decide) (by simp;omega),bs,bs]
   unfold kn
   cases decide (0<=fY (bL xs) yM[i]) with
   | false=>rw [am,jv,am]
   | true =>
    rw [ag,cW]
    cases decide (fY (bL xs) yM[i]∈rH (bL xs) yM i) with
    | false=>rw [am,tc,ag]
    | true=>rw [ag,uv,am])
  (fun k=>by
   show cL N (k+1) (bL xs) (rH (bL xs) yM yM.length) yM (yM.length:Int) (yM.length:Int)=_
   rw [cL,dge oa,am]) N 0 oa oa
 have h':cL N N (bL xs) [] yM (yM.length:Int) 0=_:=h
 unfold i8
 rw [ph hN hx,bs,h',bs,lpB]
 show some (rH (bL xs) yM yM.length)=_
 unfold rH mr;rw [fC]
theorem vx (hN:1073741824<=N) {n:Int} {yL:List bj} {out yM:yQ} (ha:dz yL) (ho:okI out) (hr:okI yM):kJ N n yL out yM=some (oq n yL out yM):=by
 unfold kJ oq
 rw [kQ hN ha ho,bs]
 cases hq:et n yL out with
 | false=>rfl
 | true =>
  obtain ⟨h1,h2,_,_⟩:=kU hq
  rw [ag,cW,vi hN hr.1 oa,bs]
  by_cases e:(yM.length:Int)=n
  ·rw [show ((yM.length:Int) == n)=true by simpa using e,aW e];rfl
  ·rw [show ((yM.length:Int) == n)=false by simpa using e,ba e];rfl
theorem vg (hN:1073741824<=N) {n:Int} {yL:List bj} {out yM:yQ} (ha:dz yL) (ho:okI out) (hr:okI yM):kB N n yL out yM=some (oq n yL out yM):=by
 unfold kB oq
 rw [fU hN ha ho,bs]
 cases hq:et n yL out with
 | false=>rfl
 | true =>
  obtain ⟨h1,h2,_,_⟩:=kU hq
  rw [ag,cW,ud hN hr.1,bs]
  by_cases e:(yM.length:Int)=n
  ·rw [show ((yM.length:Int) == n)=true by simpa using e,aW e]
   unfold mA
   rw [e,aW h2];rfl
  ·rw [show ((yM.length:Int) == n)=false by simpa using e,ba e];rfl
end
def nt (ts:List bE) (a:bj):Bool:=(cd ts a.1).2&&decide ((cd ts a.1).1.1=(a.2.length:Int))
def i5 (ts:List bE) (n:Int) (yL:List bj) (out:yQ):Bool:=et n yL out&&(o0 ts&&yL.all (nt ts))
section
variable {N:Nat}
theorem KA (hN:1073741824<=N) {ts:List bE} {yL:List bj} (ht:oZ ts) (ha:dz yL):fR N N ts yL (yL.length:Int) 0=some (bif yL.all (nt ts) then .inr (yL.length:Int) else .inl false) :=
 vU (fun k i=>fR N k ts yL (yL.length:Int) i) yL (nt ts) hN ha.1
  (fun k i h=>by
   have hl:=ha.1
   show fR N (k+1) ts yL (yL.length:Int) (i:Int)=_
   rw [fR,dlt h,ag,be h,bs,oO hN ht,bs,ad1 oa,bs]
   unfold nt
   cases (cd ts yL[i].1).2 with
   | false=>rw [am,jv,am]
   | true =>
    rw [ag,cW]
    by_cases e:(cd ts yL[i].1).1.1=(yL[i].2.length:Int)
    ·rw [show ((cd ts yL[i].1).1.1 != (yL[i].2.length:Int))=false by simpa using e,am,aW e,ag]
    ·rw [show ((cd ts yL[i].1).1.1 != (yL[i].2.length:Int))=true by simpa using e,ag,ba e,am])
  (fun k=>by
   show fR N (k+1) ts yL (yL.length:Int) (yL.length:Int)=_
   rw [fR,dge oa,am])
theorem Lt (hN:1073741824<=N) {ts:List bE} {n:Int} {yL:List bj} {out:yQ} (ht:oZ ts) (ha:dz yL):fQ N N ts n yL out 0=some (bif yL.all (nt ts) then .inr (yL.length:Int) else .inl false) :=
 vU (fun k i=>fQ N k ts n yL out i) yL (nt ts) hN ha.1
  (fun k i h=>by
   have hl:=ha.1
   show fQ N (k+1) ts n yL out (i:Int)=_
   rw [fQ,dlt h,ag,be h,bs,oH hN ht,bs,bs,ad1 oa,bs]
   unfold nt
   cases (cd ts yL[i].1).2 with
   | false=>rw [am,jv,am]
   | true =>
    rw [ag,cW]
    by_cases e:(cd ts yL[i].1).1.1=(yL[i].2.length:Int)
    ·rw [show ((cd ts yL[i].1).1.1 != (yL[i].2.length:Int))=false by simpa using e,am,aW e,ag]
    ·rw [show ((cd ts yL[i].1).1.1 != (yL[i].2.length:Int))=true by simpa using e,ag,ba e,am])
  (fun k=>by
   show fQ N (k+1) ts n yL out (yL.length:Int)=_
   rw [fQ,dge oa,am])
theorem wH (hN:1073741824<=N) {ts:List bE} {n:Int} {yL:List bj} {out:yQ} (ht:oZ ts) (ha:dz yL) (ho:okI out):l7 N ts n yL out=some (i5 ts n yL out):=by
 unfold l7 i5
 rw [kQ hN ha ho,bs,ov hN ht,bs,KA hN ht ha,bs]
 cases et n yL out <;> cases o0 ts <;> cases yL.all (nt ts) <;> rfl
theorem rg (hN:1073741824<=N) {ts:List bE} {n:Int} {yL:List bj} {out:yQ} (ht:oZ ts) (ha:dz yL) (ho:okI out):j7 N ts n yL out=some (i5 ts n yL out):=by
 unfold j7 i5
 rw [Lt hN ht ha,bs,fU hN ha ho,bs,lL hN ht,bs]
 cases et n yL out <;> cases o0 ts <;> cases yL.all (nt ts) <;> rfl
end
def xm (vs row:yQ) (i:Nat):Bool:=decide (row.getD (fY vs (vs.getD i 0)).toNat 0=row.getD i 0)
def rL (vs row:yQ) (i:Nat):Bool:=(List.range' 0 i).all (xm vs row)
def kj (vs row:yQ):Bool:=rL vs row vs.length
def fP (vs row:yQ):yQ:=(bL vs).map fun v=>row.getD (fY vs v).toNat 0
theorem xg (vs row:yQ) (i:Nat):rL vs row (i+1)=(rL vs row i&&xm vs row i):=by
 unfold rL;rw [oD,List.all_append];simp
theorem qO {vs:yQ} {v:Int} (h:v∈vs):∃ j:Nat,fY vs v=(j:Int)/\j<vs.length:=by
 rcases rY vs v with ⟨h1,_⟩ | ⟨j,hj,_,e,_⟩
 ·exact absurd h h1
 ·exact ⟨j,e,hj⟩
section
variable {N:Nat}
theorem KP (hN:1073741824<=N) {p0:ByteArray} {vs row p3:yQ} {p1 p4 p8 p9:Int} {p2 p5 p6 p7:bh} (hl:row.length=vs.length) (h5:vs.length<=1000) (hv:∀ v∈vs,0<=v/\v<5) :
  ∃ val:yQ,cG N N p0 vs p1 p2 p3 p4 p5 p6 row (List.replicate 5 0) true p7 p8 p9 vs (vs.length:Int) 0=some (val,kj vs row,(vs.length:Int))/\val.length=5/\(kj vs row=true->∀ v∈vs,val.getD v.toNat 0=row.getD (fY vs v).toNat 0):=by
 obtain ⟨⟨val,f,z⟩,e1,_,h1,h2,h3,h4⟩:=AM (fun k (s:yQ × Bool) i=>cG N k p0 vs p1 p2 p3 p4 p5 p6 row s.1 s.2 p7 p8 p9 vs (vs.length:Int) i) (fun k (s:yQ × Bool) i=>cG N k p0 vs p1 p2 p3 p4 p5 p6 row s.1 s.2 p7 p8 p9 vs (vs.length:Int) i) vs.length
  (fun i s=>s.1.length=5/\s.2=rL vs row i/\(rL vs row i=true->∀ v∈vs.take i,s.1.getD v.toNat 0=row.getD (fY vs v).toNat 0))
  (fun v=>v.1.length=5/\v.2.1=kj vs row/\v.2.2=(vs.length:Int)/\(kj vs row=true->∀ w∈vs,v.1.getD w.toNat 0=row.getD (fY vs w).toNat 0))
  (fun k i s h hI=>by
   obtain ⟨i1,i2,i3⟩:=hI
   have hm:vs[i]∈vs:=bF h
   have hb:=hv _ hm
   obtain ⟨j,hj,hj2⟩:=qO hm
   have hi2:i<row.length:=by omega
   have hj3:j<row.length:=by omega
   have hix:ix s.1 vs[i]=some (s.1[vs[i].toNat]'oa):=nG hb.1 oa
   have hst:sto s.1 vs[i] row[i]=some (s.1.set vs[i].toNat row[i]):=by
    have:=lS (xs:=s.1) (i:=vs[i].toNat) (y:=row[i]) oa
    rw [show ((vs[i].toNat:Nat):Int)=vs[i] by omega] at this
    exact this
   have hfa:xm vs row i=decide (row[j]=row[i]):=by
    unfold xm
    rw [bP h,hj,show ((j:Nat):Int).toNat=j from rfl,bP hj3,bP hi2]
   have step:cG N (k+1) p0 vs p1 p2 p3 p4 p5 p6 row s.1 s.2 p7 p8 p9 vs (vs.length:Int) (i:Int)=cG N k p0 vs p1 p2 p3 p4 p5 p6 row (s.1.set vs[i].toNat row[i]) (rL vs row (i+1)) p7 p8 p9 vs (vs.length:Int) ((i+1:Nat):Int):=by
    rw [cG,dlt h,ag,be h,bs,vY hN oa,bs,xg,<- i2,hfa]
    cases s.2 with
    | true=>rw [ag,hj,be hj3,bs,be hi2,bs,bs,hix,bs,hst,bs,ad1 oa,bs,Fj,cW]
    | false=>rw [am,be hi2,bs,hix,bs,hst,bs,ad1 oa,bs,jv]
   refine .inl ⟨(s.1.set vs[i].toNat row[i],rL vs row (i+1)),step,step,by simpa using i1,rfl,fun hf v hvm=>?_⟩
   rw [xg,bU,hfa,dN] at hf
   rw [gk h] at hvm
   by_cases e:v=vs[i]
   ·subst e
    show (s.1.set vs[i].toNat row[i]).getD vs[i].toNat 0=_
    rw [hj,show ((j:Nat):Int).toNat=j from rfl,bP hj3,hf.2,bP (by rw [gP];omega),List.getElem_set_self]
   ·have hmem:v∈vs.take i:=by
     rcases dj.1 hvm with h | h
     ·exact h
     ·simp only [fD] at h;exact absurd h e
    have hbv:=hv v (qV hmem)
    rw [<- i3 hf.1 v hmem]
    show (s.1.set vs[i].toNat row[i]).getD v.toNat 0=_
    rw [bP (by rw [gP];omega),bP oa,List.getElem_set_ne oa])
  (fun k s hI=>by
   obtain ⟨i1,i2,i3⟩:=hI
   have step:cG N (k+1) p0 vs p1 p2 p3 p4 p5 p6 row s.1 s.2 p7 p8 p9 vs (vs.length:Int) (vs.length:Int)=some (s.1,s.2,(vs.length:Int)):=by
    rw [cG,dge oa,am]
   rw [fC] at i3
   exact ⟨(s.1,s.2,(vs.length:Int)),step,step,i1,i2,rfl,i3⟩) N 0 (List.replicate 5 0,true) oa oa ⟨by simp,rfl,fun _ v hv=>by simp at hv⟩
 refine ⟨val,?_,h1,h4⟩
 have e1':cG N N p0 vs p1 p2 p3 p4 p5 p6 row (List.replicate 5 0) true p7 p8 p9 vs (vs.length:Int) 0=some (val,f,z):=e1
 have h2':f=kj vs row:=h2
 have h3':z=(vs.length:Int):=h3
 rw [e1',h2',h3']
end
theorem HM {n:Nat} {v:Int}:v∈sT n↔0<=v/\v<n:=by
 unfold sT
 rw [fK]
 constructor
 ·rintro ⟨i,hi,rfl⟩
  simp at hi;omega
 ·rintro ⟨h0,h1⟩
  exact ⟨v.toNat,by simp;omega,oa⟩
theorem pg {vs:yQ} {v:Int}:v∈bL vs↔(0<=v/\v<5)/\v∈vs:=by
 unfold bL
 rw [lW,HM,dN];rfl
def rQ (vs row:yQ) (i:Nat):yQ:=((bL vs).take i).map fun v=>row.getD (fY vs v).toNat 0
theorem Gx (vs row:yQ) (i:Nat):(rQ vs row i).length<=5:=by
 have:=j4 vs
 unfold rQ;rw [cD,dh];omega
theorem qN (vs row:yQ):(fP vs row).length=(bL vs).length:=by simp [fP]
section
variable {N:Nat}
theorem LG (hN:1073741824<=N) {p0:ByteArray} {vs row:yQ} {p1 p4 p6:Int} {p2 rows p5 p7:bh} {r:Nat} (hr:r<rows.length) (hrow:rows[r]=row) (hl:row.length=vs.length) (h5:vs.length<=1000) :
  eN N N p0 vs p1 p2 (bL vs) p4 rows p6 p5 p7 (r:Int) [] 0=some (fP vs row,((bL vs).length:Int)):=by
 have hv5:=j4 vs
 have h:=gC (fun k (s:yQ) i=>eN N k p0 vs p1 p2 (bL vs) p4 rows p6 p5 p7 (r:Int) s i) (bL vs).length (rQ vs row) (fP vs row,((bL vs).length:Int))
  (fun k i h=>by
   have hm:(bL vs)[i]∈vs:=(pg.1 (bF h)).2
   obtain ⟨j,hj,hj2⟩:=qO hm
   have hj3:j<row.length:=by omega
   have hlen:=Gx vs row i
   have hs:rQ vs row i++[row[j]]=rQ vs row (i+1):=by
    unfold rQ;rw [gk h,fE]
    simp only [fI,nS,hj]
    rw [show ((j:Nat):Int).toNat=j from rfl,bP hj3]
   show eN N (k+1) p0 vs p1 p2 (bL vs) p4 rows p6 p5 p7 (r:Int) (rQ vs row i) (i:Int)=_
   rw [eN,dlt h,ag,be hr,bs,be h,bs,pj hN oa,bs,hrow,hj,be hj3,bs,bA (by decide) (by simp;omega),bs,ad1 oa,bs,hs])
  (fun k=>by
   show eN N (k+1) p0 vs p1 p2 (bL vs) p4 rows p6 p5 p7 (r:Int) (rQ vs row (bL vs).length) ((bL vs).length:Int)=_
   rw [eN,dge oa,am]
   unfold rQ fP;rw [fC]) N 0 oa oa
 exact h
theorem KH (hN:1073741824<=N) {p0:ByteArray} {vs row:yQ} {p1 p4 p6:Int} {p2 rows p5 p7:bh} {r:Nat} (hr:r<rows.length) (hrow:rows[r]=row) (hl:row.length=vs.length) (h5:vs.length<=1000) (hv:∀ v∈vs,0<=v/\v<5) :
  c7 N N p0 vs p1 p2 (bL vs) p4 rows p6 p5 p7 (r:Int) (fP vs row) true 0=some (kj vs row,(vs.length:Int)):=by
 have hv5:=j4 vs
 have h:=gC (fun k (s:Bool) i=>c7 N k p0 vs p1 p2 (bL vs) p4 rows p6 p5 p7 (r:Int) (fP vs row) s i) vs.length (rL vs row) (kj vs row,(vs.length:Int))
  (fun k i h=>by
   have hm:vs[i]∈vs:=bF h
   have hmv:vs[i]∈bL vs:=pg.2 ⟨hv _ hm,hm⟩
   obtain ⟨j,hj,hj2⟩:=qO hm
   have hj3:j<row.length:=by omega
   have hi2:i<row.length:=by omega
   have hex:∃ q:Nat,∃ hq:q<(bL vs).length,(bL vs)[q]=vs[i]/\fY (bL vs) vs[i]=(q:Int):=by
    rcases rY (bL vs) vs[i] with ⟨h1,_⟩ | ⟨q,hq,e1,e2,_⟩
    ·exact absurd hmv h1
    ·exact ⟨q,hq,e1,e2⟩
   obtain ⟨q,hq,hq1,hq2⟩:=hex
   have hq3:q<(fP vs row).length:=by rw [qN];exact hq
   have hval:(fP vs row)[q]=row[j]:=by
    have e:(fP vs row)[q]=row.getD (fY vs (bL vs)[q]).toNat 0:=by simp only [fP,ky]
    rw [e,hq1,hj,show ((j:Nat):Int).toNat=j from rfl,bP hj3]
   have hfa:xm vs row i=decide (row[j]=row[i]):=by
    unfold xm
    rw [bP h,hj,show ((j:Nat):Int).toNat=j from rfl,bP hj3,bP hi2]
   show c7 N (k+1) p0 vs p1 p2 (bL vs) p4 rows p6 p5 p7 (r:Int) (fP vs row) (rL vs row i) (i:Int)=_
   rw [c7,dlt h,ag,be h,bs,pj hN oa,bs,hq2,xg,hfa]
   cases rL vs row i with
   | true=>rw [ag,aW oa,ag,be hq3,bs,be hr,bs,hrow,be hi2,bs,ad1 oa,bs,hval,Fj,cW]
   | false=>rw [am,ad1 oa,bs,jv])
  (fun k=>by
   show c7 N (k+1) p0 vs p1 p2 (bL vs) p4 rows p6 p5 p7 (r:Int) (fP vs row) (rL vs row vs.length) (vs.length:Int)=_
   rw [c7,dge oa,am];rfl) N 0 oa oa
 exact h
end
def cI (vs:yQ) (rows:bh):bh:=(rows.filter (kj vs)).map (fP vs)
theorem wa {vs:yQ} {rows:bh} {i:Nat} (h:i<rows.length):cI vs (rows.take (i+1))=bif kj vs rows[i] then cI vs (rows.take i)++[fP vs rows[i]] else cI vs (rows.take i):=by
 unfold cI
 rw [gk h,uY,fE]
 cases hf:kj vs rows[i] <;> simp [hf]
theorem ll (vs:yQ) (rows:bh):(cI vs rows).length<=rows.length:=by
 unfold cI;rw [cD];exact qS _ _
section
variable {N:Nat}
theorem KY (hN:1073741824<=N) {s:ByteArray} {vs:yQ} {rows:bh} {vl:Int} (hlen:∀ i (h:i<rows.length),rows[i].length=vs.length) (h5:vs.length<=1000) (hv:∀ v∈vs,0<=v/\v<5) (hr:rows.length<=1048576) :
  d5 N N s vs 0 [] (bL vs) vl [] [] rows (rows.length:Int) 0=some (cI vs rows,(rows.length:Int)):=by
 have hv5:=j4 vs
 have h:=gC (fun k (o:bh) i=>d5 N k s vs 0 [] (bL vs) vl [] o rows (rows.length:Int) i) rows.length (fun i=>cI vs (rows.take i)) (cI vs rows,(rows.length:Int))
  (fun k i h=>by
   obtain ⟨val,e,hl,hval⟩:=KP (N:=N) hN (p0:=s) (vs:=vs) (row:=rows[i]) (p3:=bL vs) (p1:=0) (p4:=vl) (p8:=(rows.length:Int)) (p9:=(i:Int)) (p2:=[]) (p5:=[]) (p6:=cI vs (rows.take i)) (p7:=rows) (hlen i h) h5 hv
   have hbl:=ll vs (rows.take i)
   rw [dh] at hbl
   show d5 N (k+1) s vs 0 [] (bL vs) vl [] (cI vs (rows.take i)) rows (rows.length:Int) (i:Int)=_
   rw [d5,dlt h,ag,be h,bs,show (5:Int)=((5:Nat):Int) from rfl,xB (by decide) (by decide),bs,e,bs,lpB,wa h]
   show (bif kj vs rows[i] then _ else _)=_
   cases hf:kj vs rows[i] with
   | true =>
    have hp:gr val (bL vs)=fP vs rows[i]:=by
     unfold gr fP
     exact ua fun v hvm=>hval hf v (pg.1 hvm).2
    rw [ag,ag,E6 hN oa (fun c hc=>by have:=(pg.1 hc).1;omega),bs,hp,bA (by decide) (by simp;omega),bs,ad1 oa,bs]
   | false=>rw [am,am,ad1 oa,bs])
  (fun k=>by
   show d5 N (k+1) s vs 0 [] (bL vs) vl [] (cI vs (rows.take rows.length)) rows (rows.length:Int) (rows.length:Int)=_
   rw [d5,dge oa,am,fC]) N 0 oa oa
 exact h
theorem LU (hN:1073741824<=N) {s:ByteArray} {vs:yQ} {rows:bh} {vl ar:Int} (hlen:∀ i (h:i<rows.length),rows[i].length=vs.length) (h5:vs.length<=1000) (hv:∀ v∈vs,0<=v/\v<5) (hr:rows.length<=1048576) :
  dT N N s vs 0 [] (bL vs) ar rows vl [] [] 0=some (cI vs rows,(rows.length:Int)):=by
 have hv5:=j4 vs
 have h:=gC (fun k (o:bh) i=>dT N k s vs 0 [] (bL vs) ar rows vl [] o i) rows.length (fun i=>cI vs (rows.take i)) (cI vs rows,(rows.length:Int))
  (fun k i h=>by
   have hbl:=ll vs (rows.take i)
   rw [dh] at hbl
   show dT N (k+1) s vs 0 [] (bL vs) ar rows vl [] (cI vs (rows.take i)) (i:Int)=_
   rw [dT,dlt h,ag,LG hN h rfl (hlen i h) h5,bs,lpB]
   show (c7 N N s vs 0 [] (bL vs) ar rows vl [] (cI vs (rows.take i)) (i:Int) (fP vs rows[i]) true 0).bind _=_
   rw [KH hN h rfl (hlen i h) h5 hv,bs,lpB,wa h]
   show (bif kj vs rows[i] then _ else _)=_
   cases hf:kj vs rows[i] with
   | true=>rw [ag,ag,bA (by decide) (by simp;omega),bs,ad1 oa,bs]
   | false=>rw [am,am,ad1 oa,bs])
  (fun k=>by
   show dT N (k+1) s vs 0 [] (bL vs) ar rows vl [] (cI vs (rows.take rows.length)) (rows.length:Int)=_
   rw [dT,dge oa,am,fC]) N 0 oa oa
 exact h
end
theorem qd {n:Int} {rows:bh} (h0:0<=n/\n<=5) (hl:rows.length<=4000) (hf:∀ r∈rows,(r.length:Int)=n/\cV r=true):po n rows=((n,eQ 20 rows),true):=by
 have hfit:qC n rows=true:=by
  unfold qC
  rw [dL]
  intro r hr
  rw [aW (hf r hr).1,(hf r hr).2];rfl
 have hlen:=iS 20 rows
 have hasc:=xk 20 rows oa
 have hv:bO n (eQ 20 rows)=true:=by
  unfold bO
  rw [bU,bU,dN,dL]
  refine ⟨⟨cg.2 h0,oa⟩,fun i hi=>?_⟩
  have hi':i<(eQ 20 rows).length:=by simp at hi;omega
  obtain ⟨g1,g2⟩:=hf _ (lT 20 rows _ (bF hi'))
  unfold rV
  rw [iT hi',aW g1,g2,cW,cW]
  cases i with
  | zero=>rfl
  | succ i =>
   rw [qX,iT oa]
   have:=sQ.1 hasc i (i+1) oa hi' oa
   rw [aW this,Bool.or_true]
 unfold po
 rw [hfit,hv];rfl
theorem wK {vs row:yQ} (h:cV row=true) (hl:row.length=vs.length):cV (fP vs row)=true:=by
 unfold cV at *
 rw [dL] at *
 intro x hx
 unfold fP at hx
 obtain ⟨v,hv,rfl⟩:=fK.1 hx
 obtain ⟨j,hj,hj2⟩:=qO (pg.1 hv).2
 rw [hj,show ((j:Nat):Int).toNat=j from rfl,bP oa]
 exact h _ (bF _)
section
variable {N:Nat}
theorem JD {a:yQ} (ha:hZ a) {n m:Int} (hm:0<m):∀ (d k:Nat) (acc:yQ) (p h:Int),dp a p->acc.length+d=n.toNat->d<k->n<=1048576->(∀ v∈acc,0<=v/\v<m) ->
  ∃ q g row,lR N k a p h n m acc=some (q,g,row)/\dp a q/\row.length=n.toNat/\∀ v∈row,0<=v/\v<m:=by
 intro d
 induction d with
 | zero =>
  intro k acc p h hc hd hk _ hv
  obtain ⟨k,rfl⟩:∃ g,k=g+1:=⟨k-1,oa⟩
  rw [lR,ba (show ¬ (acc.length:Int)<n by omega),am]
  exact ⟨_,_,_,rfl,hc,oa,hv⟩
 | succ d ih =>
  intro k acc p h hc hd hk hn hv
  obtain ⟨k,rfl⟩:∃ g,k=g+1:=⟨k-1,oa⟩
  obtain ⟨x,q,g,e,b0,b1,_,hc'⟩:=dq (N:=N) ha (h:=h) (n:=m) hc
  rw [lR,aW (show (acc.length:Int)<n by omega),ag,e,bs]
  dsimp only
  rw [bA (by decide) (by simp;omega),bs]
  refine ih k _ q g hc' (by simp;omega) oa hn fun v hv'=>?_
  rcases dj.1 hv' with h | h
  ·exact hv v h
  ·rw [fD] at h;rw [h];exact ⟨b0,b1 hm⟩
theorem Av (hN:1073741824<=N) {a:yQ} (ha:hZ a) {p h n m:Int} (hc:dp a p) (hm:0<m) (hn:n<=1048576) :
  ∃ row q g,og N a p h n m=some (row,q,g)/\dp a q/\row.length=n.toNat/\∀ v∈row,0<=v/\v<m:=by
 obtain ⟨q,g,row,e,h1,h2,h3⟩:=JD (N:=N) ha (n:=n) hm n.toNat N [] p h hc (by simp) oa hn (by simp)
 unfold og
 rw [e]
 exact ⟨row,q,g,rfl,h1,h2,h3⟩
theorem IQ (hN:1073741824<=N) {a:yQ} (ha:hZ a) {n m y:Int} {z:bh} (hm:0<m) (hn:n<=1048576):∀ (d k:Nat) (acc:bh) (p h c:Int),dp a p->c.toNat=d->c<=1048576->d<k->acc.length+d<=1048576->(∀ r∈acc,r.length=n.toNat/\∀ v∈r,0<=v/\v<m) ->
  ∃ q g rows c',lP N k a p h n m y z acc c=some (q,g,rows,c')/\dp a q/\rows.length<=acc.length+d/\∀ r∈rows,r.length=n.toNat/\∀ v∈r,0<=v/\v<m:=by
 intro d
 induction d with
 | zero =>
  intro k acc p h c hc hd _ hk hl hv
  obtain ⟨k,rfl⟩:∃ g,k=g+1:=⟨k-1,oa⟩
  rw [lP,ba (show ¬ 0<c by omega),am]
  exact ⟨_,_,_,_,rfl,hc,oa,hv⟩
 | succ d ih =>
  intro k acc p h c hc hd hcc hk hl hv
  obtain ⟨k,rfl⟩:∃ g,k=g+1:=⟨k-1,oa⟩
  obtain ⟨row,q,g,e,hc',h2,h3⟩:=Av hN ha (h:=h) (n:=n) hc hm hn
  rw [lP,aW (show 0<c by omega),ag,e,bs]
  dsimp only
  rw [bA (by decide) (by simp;omega),bs,eu oa oa,bs]
  obtain ⟨q',g',rows,c',e',k1,k2,k3⟩:=ih k (acc++[row]) q g (c-1) hc' oa oa oa (by simp;omega) fun r hr=>by
   rcases dj.1 hr with h | h
   ·exact hv r h
   ·rw [fD] at h;rw [h];exact ⟨h2,h3⟩
  exact ⟨q',g',rows,c',e',k1,by simp at k2;omega,k3⟩
theorem vV (hM:1073742848<=N) {a:yQ} (ha:hZ a) {p h n m y:Int} (hc:dp a p) (hm:0<m/\m<=100) (hn:0<=n/\n<=5) (hy:0<=y/\y<=100) :
  ∃ rows q g,mV N a p h n y m=some ((n,rows),q,g)/\dp a q/\(rows.length:Int)<=y/\∀ r∈rows,(r.length:Int)=n/\∀ v∈r,0<=v/\v<m:=by
 have hN:1073741824<=N:=by omega
 obtain ⟨x,q,g,e,b0,b1,_,hc'⟩:=dq (N:=N) ha (h:=h) (n:=y+1) hc
 have b1:=b1 oa
 obtain ⟨q',g',rows,c',e',k1,k2,k3⟩:=IQ hN ha (n:=n) (m:=m) (y:=0) (z:=[]) hm.1 oa x.toNat N [] q g x hc' rfl oa oa (by simp;omega) (by simp)
 unfold mV
 rw [ce oa oa,bs,e,bs]
 dsimp only
 rw [e']
 simp only [fH,e9] at k2
 have hf:∀ r∈rows,(r.length:Int)=n/\cV r=true:=fun r hr=>by
  have:=k3 r hr
  refine ⟨oa,?_⟩
  unfold cV
  refine dL.2 fun v hv=>?_
  have:=this.2 v hv
  unfold inR
  simp only [bU,dN]
  omega
 have hok:iX rows:=⟨oa,fun r hr=>⟨by have:=(k3 r hr).1;omega,fun _ _=>trivial⟩⟩
 rw [bs]
 unfold lpB
 dsimp only
 rw [qf hM hok,bs,qd hn oa hf]
 have hsl:=iS 20 rows
 refine ⟨eQ 20 rows,q',g',rfl,k1,oa,fun r hr=>?_⟩
 have hr':=lT 20 rows r hr
 exact ⟨(hf r hr').1,(k3 r hr').2⟩
def Ch (r:Int × bh):Prop:=(-1<=r.1/\r.1<=6)/\r.2.length<=7/\∀ w∈r.2,w.length<=6/\∀ v∈w,-1<=v/\v<=100
theorem FL (hM:1073742848<=N) {a:yQ} (ha:hZ a) {p h:Int} (hc:dp a p):∃ r q g,pr N a p h=some (r,q,g)/\dp a q/\Ch r:=by
 have hN:1073741824<=N:=by omega
 obtain ⟨n,q,g,e,b0,b1,_,hc1⟩:=dq (N:=N) ha (h:=h) (n:=4) hc
 have b1:=b1 (by decide)
 obtain ⟨rows,q2,g2,e2,hc2,hl,hr⟩:=vV hM ha (h:=g) (n:=n) (m:=4) (y:=6) hc1 (by decide) oa (by decide)
 obtain ⟨s,q3,g3,e3,_,_,_,hc3⟩:=dq (N:=N) ha (h:=g2) (n:=14) hc2
 have hsm:∀ w∈rows,w.length<=6/\∀ v∈w,-1<=v/\v<=100:=fun w hw=>by
  have:=hr w hw
  exact ⟨oa,fun v hv=>by have:=this.2 v hv;omega⟩
 have base:Ch (n,rows):=⟨⟨by show -1<=n;omega,by show n<=6;omega⟩,by show rows.length<=7;omega,hsm⟩
 unfold pr
 rw [e,bs]
 dsimp only
 rw [e2,bs]
 dsimp only
 rw [e3,bs]
 dsimp only
 cases h0:(s == 0)
 ·rw [am]
  cases h1:(s == 1)
  ·rw [am]
   cases h2:(s == 2)
   ·exact ⟨_,_,_,rfl,hc3,base⟩
   ·rw [ag]
    by_cases hp:0<rows.length
    ·rw [aW (show (0:Int)<(rows.length:Int) by omega),ag]
     by_cases hn:0<n
     ·have hm0:=hr _ (bF hp)
      have hm1:=hsm _ (bF hp)
      have hp0:0<rows[0].length:=by omega
      obtain ⟨x,q4,g4,e4,hx,hc4⟩:=kZ (N:=N) ha (h:=g3) hc3 (l:=[(-1),100,99]) (by decide)
      have i0:ix rows 0=some rows[0]:=be hp
      have i1:ix rows[0] 0=some rows[0][0]:=be hp0
      have s1:sto rows[0] 0 x=some (rows[0].set 0 x):=lS hp0
      have s2:sto rows 0 (rows[0].set 0 x)=some (rows.set 0 (rows[0].set 0 x)):=lS hp
      have hxb:-1<=x/\x<=100:=by
       simp only [cZ,oK,ra] at hx
       omega
      rw [aW hn,ag,i0,bs,e4,bs,i1,bs,s1,bs,s2,bs]
      refine ⟨_,_,_,rfl,hc4,⟨base.1,by show (rows.set 0 _).length<=7;rw [gP];omega,fun w hw=>?_⟩⟩
      rcases s6 hw with h | h
      ·exact hsm w h
      ·subst h
       refine ⟨by rw [gP];exact hm1.1,fun v hv=>?_⟩
       rcases s6 hv with h | h
       ·exact hm1.2 v h
       ·rw [h];exact hxb
     ·rw [ba hn,am]
      exact ⟨_,_,_,rfl,hc3,base⟩
    ·rw [ba (show ¬ (0:Int)<(rows.length:Int) by omega),am]
     exact ⟨_,_,_,rfl,hc3,base⟩
  ·rw [ag]
   have hi:imx 0 n=n:=by unfold imx;split <;> omega
   obtain ⟨w,q4,g4,e4,hc4,hw1,hw2⟩:=Av hN ha (h:=g3) (n:=n) (m:=4) hc3 (by decide) oa
   rw [hi,e4,bs]
   dsimp only
   rw [bA (by decide) (by simp;omega),bs]
   refine ⟨_,_,_,rfl,hc4,base.1,by show (rows++[w]).length<=7;simp;omega,fun v hv=>?_⟩
   rcases dj.1 hv with h | h
   ·exact hsm v h
   ·rw [fD] at h;subst h
    exact ⟨oa,fun v hv=>by have:=hw2 v hv;omega⟩
 ·obtain ⟨x,q4,g4,e4,hx,hc4⟩:=kZ (N:=N) ha (h:=g3) hc3 (l:=[(-1),6,n+1]) (Nat.zero_lt_succ _)
  rw [ag,ce oa oa,bs,e4,bs]
  refine ⟨_,_,_,rfl,hc4,⟨?_,base.2⟩⟩
  simp only [cZ,oK,ra] at hx
  show -1<=x/\x<=6
  omega
end
def wq (a b:List mR):Prop:=∃ t,b=a++t
theorem wq.refl (a:List mR):wq a a:=⟨[],by simp⟩
theorem wq.trans {a b c:List mR} (h:wq a b) (k:wq b c):wq a c:=by
 obtain ⟨t,rfl⟩:=h;obtain ⟨u,rfl⟩:=k;exact ⟨t++u,by simp⟩
theorem wq.len {a b:List mR} (h:wq a b):a.length<=b.length:=by
 obtain ⟨t,rfl⟩:=h;simp
theorem D4 {ts:List bE} {s:ByteArray} (h:(cd ts s).2=true):bO (cd ts s).1.1 (cd ts s).1.2=true:=by
 unfold cd at h ⊢
 cases hd:o0 ts with
 | false=>rw [hd] at h;cases h
 | true =>
  rw [hd,ag] at h
  rw [ag]
  cases hf:ts.find? (fun t=>decide (t.1=s)) with
  | none=>rw [hf] at h;cases h
  | some t =>
   have hm:=AK hf
   obtain ⟨i,hi,rfl⟩:=gR hm
   unfold o0 at hd
   rw [bU,dL] at hd
   have:=hd.2 i (by simp;omega)
   unfold sj at this
   rw [sv hi] at this
   simp only [bU] at this
   exact this.1.1.2
def qb (ts:List bE) (s:ByteArray) (vs:yQ):Int × bh :=
 bif (cd ts s).2&&decide ((cd ts s).1.1=(vs.length:Int)) then (((bL vs).length:Int),eQ 20 (cI vs (cd ts s).1.2)) else (((bL vs).length:Int),[])
theorem pS {vs:yQ} {rows:bh} {r:yQ} (h:r∈cI vs rows):∃ x∈rows,r=fP vs x:=by
 unfold cI at h
 obtain ⟨x,hx,rfl⟩:=fK.1 h
 exact ⟨x,(lW.1 hx).1,rfl⟩
theorem tP {vs:yQ} {rows:bh} (hr:rows.length<=1048576):iX (cI vs rows):=by
 refine ⟨Nat.le_trans (ll vs rows) hr,fun r h=>?_⟩
 obtain ⟨x,_,rfl⟩:=pS h
 exact ⟨by rw [qN];have:=j4 vs;omega,fun _ _=>trivial⟩
section
variable {N:Nat}
theorem ym {ts:List bE} {s:ByteArray} {vs:yQ} (h2:(cd ts s).2=true) (e:(cd ts s).1.1=(vs.length:Int)):(cd ts s).1.2.length<=4000/\∀ i (h:i<(cd ts s).1.2.length),(cd ts s).1.2[i].length=vs.length/\cV (cd ts s).1.2[i]=true:=by
 obtain ⟨_,_,h3,h4⟩:=dQ (D4 h2)
 refine ⟨h3,fun i h=>?_⟩
 obtain ⟨g1,g2,_⟩:=h4 i h
 exact ⟨oa,g2⟩
theorem vu (hM:1073742848<=N) {ts:List bE} {s:ByteArray} {vs:yQ} (ht:oZ ts) (hx:okI vs) (h5:vs.length<=5) (hv:∀ v∈vs,0<=v/\v<5):kM N ts s vs=some (qb ts s vs):=by
 unfold kM qb
 rw [ph oa hx,bs,oO oa ht,bs]
 cases h2:(cd ts s).2 with
 | false=>rfl
 | true =>
  rw [ag,cW]
  by_cases e:(cd ts s).1.1=(vs.length:Int)
  ·obtain ⟨l1,l2⟩:=ym h2 e
   have hcf:(decide ((vs.length:Int)<=5)&&nm 5 vs)=true:=by
    rw [bU,dN]
    refine ⟨oa,?_⟩
    unfold nm
    rw [dL]
    exact fun c hc=>cg.2 (by have:=hv c hc;omega)
   have hb:=tP (vs:=vs) (rows:=(cd ts s).1.2) oa
   rw [show ((cd ts s).1.1 != (vs.length:Int))=false by simpa using e,am,we oa hx.1 oa,bs,hcf,ag,KY oa (fun i h=>(l2 i h).1) oa hv oa,bs,lpB,aW e]
   show (hY N (cI vs (cd ts s).1.2)).bind _=_
   rw [BQ 20 N _ (by have:=hb.1;omega) oa hb,bs]
   rfl
  ·rw [show ((cd ts s).1.1 != (vs.length:Int))=true by simpa using e,ag,ba e];rfl
theorem vW (hM:1073742848<=N) {ts:List bE} {s:ByteArray} {vs:yQ} (ht:oZ ts) (hx:okI vs) (h5:vs.length<=5) (hv:∀ v∈vs,0<=v/\v<5):kF N ts s vs=some (qb ts s vs):=by
 unfold kF qb
 rw [uH oa hx,bs,oH oa ht,bs]
 cases h2:(cd ts s).2 with
 | false=>rfl
 | true =>
  rw [ag,cW]
  by_cases e:(cd ts s).1.1=(vs.length:Int)
  ·obtain ⟨l1,l2⟩:=ym h2 e
   have hb:=tP (vs:=vs) (rows:=(cd ts s).1.2) oa
   have hv5:=j4 vs
   have hbl:=ll vs (cd ts s).1.2
   have hnr:=qd (n:=((bL vs).length:Int)) (rows:=cI vs (cd ts s).1.2) oa oa (fun r hr=>by
    obtain ⟨x,hxm,rfl⟩:=pS hr
    obtain ⟨i,hi,rfl⟩:=gR hxm
    exact ⟨by rw [qN],wK (l2 i hi).2 (l2 i hi).1⟩)
   rw [show ((cd ts s).1.1 != (vs.length:Int))=false by simpa using e,am,LU oa (fun i h=>(l2 i h).1) oa hv oa,bs,lpB,aW e]
   show (iK N ((bL vs).length:Int) (cI vs (cd ts s).1.2)).bind _=_
   rw [qf hM hb,bs,hnr]
   rfl
  ·rw [show ((cd ts s).1.1 != (vs.length:Int))=true by simpa using e,ag,ba e];rfl
end
theorem vX {n:Nat} {xs:yQ} (hn:xs.Nodup) (hl:xs.length=n) (hb:∀ x∈xs,0<=x/\x<n) (v:Int) (h0:0<=v) (h1:v<n):v∈xs:=by
 refine s7 fun hv=>?_
 have:=t9 n (v :: xs) (lV.2 ⟨hv,hn⟩) (fun x hx=>by
  rcases cZ.1 hx with rfl | hx
  ·exact ⟨h0,h1⟩
  ·exact hb x hx)
 rw [bW] at this;omega
theorem BR {xs:yQ} (h:xs.Nodup) {i j:Nat} (hi:i<xs.length) (hj:j<xs.length) (e:xs[i]=xs[j]):i=j:=by
 rw [List.Nodup,sQ] at h
 rcases Nat.lt_trichotomy i j with hl | hl | hl
 ·exact absurd e (h i j hi hj hl)
 ·exact hl
 ·exact absurd e.symm (h j i hj hi hl)
theorem G6 {xs:yQ} {n:Int} (hn:xs.Nodup) (hb:∀ x∈xs,0<=x/\x<=n-1):jx xs n=true:=by
 unfold jx
 rw [dL]
 intro i hi
 have hi':i<xs.length:=by simpa using hi
 rw [bP hi',bU,xc,AZ]
 refine ⟨cg.2 (hb _ (bF hi')),fun hm=>?_⟩
 obtain ⟨j,hj,e⟩:=List.mem_iff_getElem.1 hm
 rw [uh] at e
 have:=BR hn (by rw [dh] at hj;omega) hi' e
 rw [dh] at hj;omega
theorem Hz {vs:yQ} (hn:vs.Nodup) {k:Nat} (h:k<vs.length):fY vs vs[k]=(k:Int):=by
 rcases rY vs vs[k] with ⟨h1,_⟩ | ⟨j,hj,e,h2,_⟩
 ·exact absurd (bF h) h1
 ·rw [h2,BR hn hj h e]
theorem Fx (n:Nat):(sT n).Nodup:=by
 unfold sT
 rw [List.Nodup,List.pairwise_map]
 exact List.Pairwise.imp (fun h=>by omega) (List.pairwise_lt_range' (s:=0) (n:=n))
theorem DV (xs:yQ):(bL xs).Nodup:=(Fx 5).filter _
theorem vw {vs:yQ} {v:Int}:0<=fY vs v↔v∈vs:=by
 have:=pN vs v
 rw [Bool.eq_iff_iff,dN,dN] at this;exact this
theorem Hj {vs:yQ} {v:Int} (h:v∈vs):fY vs v<vs.length:=by
 obtain ⟨j,e,hj⟩:=qO h;omega
theorem D2 (vars out:yQ) (v k:Int):k∈kn vars out v↔k∈out\/(v∈vars/\fY vars v=k):=by
 unfold kn
 by_cases h1:v∈vars
 ·rw [aW (vw.2 h1),cW]
  by_cases h2:fY vars v∈out
  ·rw [aW h2,uv,am]
   exact ⟨.inl,fun h=>h.elim id fun ⟨_,e⟩=>e ▸ h2⟩
  ·rw [ba h2,tc,ag,dj,fD]
   exact ⟨fun h=>h.imp id fun e=>⟨h1,e.symm⟩,fun h=>h.imp id fun e=>e.2.symm⟩
 ·rw [ba (fun h=>h1 (vw.1 h)),jv,am]
  exact ⟨.inl,fun h=>h.elim id fun e=>absurd e.1 h1⟩
theorem Ca {vars out:yQ} {v:Int} (h:out.Nodup):(kn vars out v).Nodup:=by
 unfold kn
 by_cases h2:fY vars v∈out
 ·rw [aW h2,uv,pO,am];exact h
 ·rw [ba h2,tc,wL]
  cases decide (0<=fY vars v)
  ·exact h
  ·rw [ag,mE]
   refine ⟨h,by simp,fun a ha b hb=>?_⟩
   rw [fD] at hb
   rintro rfl;exact h2 (hb ▸ ha)
theorem x7 (vars:yQ):∀ (l out:yQ) (k:Int),k∈l.foldl (kn vars) out↔k∈out\/∃ v∈l,v∈vars/\fY vars v=k
 | [],out,k=>by simp
 | v :: l,out,k=>by
  rw [sY,x7 vars l,D2]
  constructor
  ·rintro ((h | h) | ⟨w,hw,h⟩)
   ·exact .inl h
   ·exact .inr ⟨v,dM,h⟩
   ·exact .inr ⟨w,fJ _ hw,h⟩
  ·rintro (h | ⟨w,hw,h⟩)
   ·exact .inl (.inl h)
   ·rcases cZ.1 hw with rfl | hw
    ·exact .inl (.inr h)
    ·exact .inr ⟨w,hw,h⟩
theorem v7 (vars:yQ):∀ (l out:yQ),out.Nodup->(l.foldl (kn vars) out).Nodup
 | [],_,h=>h
 | _ :: l,_,h=>v7 vars l _ (Ca h)
theorem AR {xs yM:yQ} {n:Nat} (hn:n<=5) (hx:∀ v∈xs,0<=v/\v<n) (ho:jx yM n=true) (hl:yM.length=n):mA (mr xs yM)=true/\(mr xs yM).length=(bL xs).length:=by
 obtain ⟨o1,o2⟩:=nl ho
 have hnd:(mr xs yM).Nodup:=v7 _ _ _ List.nodup_nil
 have hmem:∀ k:Int,k∈mr xs yM↔0<=k/\k<(bL xs).length:=fun k=>by
  unfold mr
  rw [x7]
  constructor
  ·rintro (h | ⟨v,_,h,rfl⟩)
   ·cases h
   ·exact ⟨vw.2 h,Hj h⟩
  ·rintro ⟨h0,h1⟩
   have hk:k.toNat<(bL xs).length:=by omega
   have hm:=bF hk
   refine .inr ⟨(bL xs)[k.toNat],?_,hm,by rw [Hz (DV xs) hk];omega⟩
   have:=hx _ (pg.1 hm).2
   exact vX o1 hl (fun x hx=>by have:=o2 x hx;omega) _ this.1 this.2
 have h5:=j4 xs
 have le1:(mr xs yM).length<=(bL xs).length:=t9 _ _ hnd fun k hk=>(hmem k).1 hk
 have le2:(bL xs).length<=(mr xs yM).length:=by
  refine s7 fun hlt=>?_
  have hsub:∀ (m:Nat) (ys:yQ),(∀ k:Nat,k<m->(k:Int)∈ys)->m<=ys.length:=by
   intro m
   induction m with
   | zero=>intro ys _;omega
   | succ m ih =>
    intro ys h
    have h1:=ih (ys.erase (m:Int)) fun k hk=>(AJ oa).2 (h k oa)
    rw [wZ (h m oa)] at h1
    have:=Ar (h m oa)
    omega
  exact hlt (hsub _ _ fun k hk=>(hmem k).2 oa)
 have e:(mr xs yM).length=(bL xs).length:=by omega
 refine ⟨?_,e⟩
 unfold mA
 rw [aW oa,cW]
 exact G6 hnd fun k hk=>by have:=(hmem k).1 hk;omega
theorem x8 {n:Int} {rows:bh} (h0:0<=n/\n<=5) (hl:rows.length<=4000) (hf:∀ r∈rows,(r.length:Int)=n/\cV r=true):bO n (eQ 20 rows)=true:=by
 have h:=qd h0 hl hf
 unfold po at h
 cases hv:bO n (eQ 20 rows) with
 | true=>rfl
 | false=>rw [hv,pO] at h;have:=aZ Prod.snd h;cases this
theorem Fq {row cols:yQ} (h:cV row=true) (hin:∀ c∈cols,0<=c/\c<row.length):cV (gr row cols)=true:=by
 unfold cV at *
 rw [dL] at *
 intro x hx
 unfold gr at hx
 obtain ⟨c,hc,rfl⟩:=fK.1 hx
 have:=hin c hc
 rw [bP oa]
 exact h _ (bF _)
theorem FC {n:Int} {rows:bh} {cols:yQ} (hv:bO n rows=true) (hp:mA cols=true) (hl:(cols.length:Int)=n):Af n rows cols=((n,eQ 20 (rows.map fun r=>gr r cols)),true)/\bO n (eQ 20 (rows.map fun r=>gr r cols))=true:=by
 obtain ⟨v1,v2,v3,v4⟩:=dQ hv
 have hp':=hp
 unfold mA at hp
 rw [bU,dN] at hp
 obtain ⟨_,o2⟩:=nl hp.2
 have hc:nm n cols=true:=by
  unfold nm;rw [dL]
  exact fun c hc=>cg.2 (by have:=o2 c hc;omega)
 have hf:∀ r∈rows.map (fun r=>gr r cols),(r.length:Int)=n/\cV r=true:=fun r hr=>by
  obtain ⟨x,hx,rfl⟩:=fK.1 hr
  obtain ⟨i,hi,rfl⟩:=gR hx
  obtain ⟨g1,g2,_⟩:=v4 i hi
  exact ⟨by rw [wG];exact hl,Fq g2 fun c hc=>by have:=o2 c hc;omega⟩
 have hnr:=qd ⟨v1,v2⟩ (by rw [cD];exact v3) hf
 refine ⟨?_,x8 ⟨v1,v2⟩ (by rw [cD];exact v3) hf⟩
 unfold Af xE
 rw [hp',aW hl,cW,ag,hv,aW hp.1,hc,cW,cW,ag,hl,hnr];rfl
def jl (ts:List bE) (yM:yQ) (a:bj):Int × bh:=(((bL a.2).length:Int),eQ 20 ((eQ 20 (cI a.2 (cd ts a.1).1.2)).map fun r=>gr r (mr a.2 yM)))
def c4 (ts:List bE) (yM:yQ) (yL:List bj):List (Int × bh):=yL.map (jl ts yM)
theorem yk {ts:List bE} {s:ByteArray} (h:(cd ts s).2=true):(cd ts s).1.2.length<=16:=by
 unfold cd at h ⊢
 cases hd:o0 ts with
 | false=>rw [hd] at h;cases h
 | true =>
  rw [hd,ag] at h
  rw [ag]
  cases hf:ts.find? (fun t=>decide (t.1=s)) with
  | none=>rw [hf] at h;cases h
  | some t =>
   have hm:=AK hf
   obtain ⟨i,hi,rfl⟩:=gR hm
   unfold o0 at hd
   rw [bU,dL] at hd
   have:=hd.2 i (by simp;omega)
   unfold sj at this
   rw [sv hi] at this
   simp only [bU,xc,AZ] at this
   have:=this.2
   show ts[i].2.2.length<=16
   omega
structure QFor (ts:List bE) (n:Nat) (yL:List bj) (yM:yQ):Prop where
 n1:1<=n
 n5:n<=5
 ol:yM.length=n
 os:jx yM n=true
 a1:1<=yL.length
 a4:yL.length<=4
 al:∀ a∈yL,a.2.length<=5/\1<=a.2.length/\∀ v∈a.2,0<=v/\v<n
 af:∀ a∈yL,(cd ts a.1).2=true/\(cd ts a.1).1.1=(a.2.length:Int)
 cov:∀ v:Int,0<=v->v<n->∃ a∈yL,v∈a.2
theorem JZ {ts:List bE} {n:Int} {yL:List bj} {out yM:yQ} (h1:i5 ts n yL out=true) (h2:(yM.length:Int)=n) (h3:jx yM n=true):∃ m:Nat,n=(m:Int)/\QFor ts m yL yM:=by
 unfold i5 at h1
 rw [bU,bU,dL] at h1
 obtain ⟨q,_,q3⟩:=h1
 obtain ⟨n1,n5,a1,a4⟩:=kU q
 unfold et at q
 simp only [bU,dL] at q
 obtain ⟨⟨_,qa⟩,qc⟩:=q
 have hm:(n.toNat:Int)=n:=by omega
 refine ⟨n.toNat,hm.symm,⟨oa,oa,oa,hm ▸ h3,oa,oa,fun a ha=>?_,fun a ha=>?_,fun v v0 v1=>?_⟩⟩
 ·have:=qa a ha
  unfold my at this
  rw [bU,bU,cg,dL] at this
  exact ⟨oa,oa,fun v hv=>by have:=cg.1 (this.2 v hv);omega⟩
 ·have:=q3 a ha
  unfold nt at this
  rw [bU,dN] at this
  exact this
 ·unfold pc at qc
  rw [dL] at qc
  have:=qc v.toNat (by simp;omega)
  rw [List.any_eq_true] at this
  obtain ⟨a,ha,h⟩:=this
  rw [dN] at h
  exact ⟨a,ha,by rw [show v=((v.toNat:Nat):Int) by omega];exact h⟩
theorem qG {ts:List bE} {n:Nat} {yL:List bj} {yM:yQ} (q:QFor ts n yL yM) {a:bj} (ha:a∈yL) :
  qb ts a.1 a.2=(((bL a.2).length:Int),eQ 20 (cI a.2 (cd ts a.1).1.2))/\Af (qb ts a.1 a.2).1 (qb ts a.1 a.2).2 (mr a.2 yM)=(jl ts yM a,true)/\bO (jl ts yM a).1 (jl ts yM a).2=true/\(jl ts yM a).2.length<=16/\bO ((bL a.2).length:Int) (eQ 20 (cI a.2 (cd ts a.1).1.2))=true:=by
 obtain ⟨h1,h2⟩:=q.af a ha
 obtain ⟨h3,h4,h5⟩:=q.al a ha
 have e:qb ts a.1 a.2=(((bL a.2).length:Int),eQ 20 (cI a.2 (cd ts a.1).1.2)):=by
  unfold qb
  rw [h1,aW h2];rfl
 obtain ⟨p1,p2⟩:=AR q.n5 h5 q.os q.ol
 obtain ⟨_,l2⟩:=ym h1 h2
 have l16:=yk h1
 have hbl:=ll a.2 (cd ts a.1).1.2
 have hv5:=j4 a.2
 have hval:bO ((bL a.2).length:Int) (eQ 20 (cI a.2 (cd ts a.1).1.2))=true:=x8 oa oa fun r hr=>by
  obtain ⟨x,hxm,rfl⟩:=pS hr
  obtain ⟨i,hi,rfl⟩:=gR hxm
  exact ⟨by rw [qN],wK (l2 i hi).2 (l2 i hi).1⟩
 obtain ⟨t1,t2⟩:=FC hval p1 (by rw [p2])
 refine ⟨e,?_,t2,?_,hval⟩
 ·rw [e];exact t1
 ·have g1:=iS 20 ((eQ 20 (cI a.2 (cd ts a.1).1.2)).map fun r=>gr r (mr a.2 yM))
  have g2:=iS 20 (cI a.2 (cd ts a.1).1.2)
  rw [cD] at g1
  exact Nat.le_trans g1 oa
abbrev xx:=Int × bh
def Hr (ts:List bE) (n:Int) (yL:List bj) (out yM:yQ):List xx × Bool :=
 bif i5 ts n yL out&&oq n yL out yM then (c4 ts yM yL,true) else ([],false)
theorem DO {ts:List bE} {yM:yQ} {yL:List bj} {i:Nat} (h:i<yL.length):c4 ts yM (yL.take (i+1))=c4 ts yM (yL.take i)++[jl ts yM yL[i]]:=by
 unfold c4;rw [gk h,fE];rfl
theorem sf (ts:List bE) (yM:yQ) (yL:List bj):(c4 ts yM yL).length=yL.length:=by unfold c4;rw [cD]
theorem sN {yL:List bj} (ha:dz yL) {i:Nat} (h:i<yL.length):okI yL[i].2:=(ha.2 _ (bF h)).2
section
variable {N:Nat}
theorem KI (hM:1073742848<=N) {ts:List bE} {n:Nat} {yL:List bj} {yM:yQ} (q:QFor ts n yL yM) (ht:oZ ts) (ha:dz yL) :
  fS N N yM ts [] yL (yL.length:Int) 0=some (c4 ts yM yL,(yL.length:Int)):=by
 have hol:=q.ol
 have hn5:=q.n5
 have ha4:=q.a4
 exact gC (fun k (o:List xx) i=>fS N k yM ts o yL (yL.length:Int) i) yL.length (fun i=>c4 ts yM (yL.take i)) (c4 ts yM yL,(yL.length:Int))
  (fun k i h=>by
   have hm:=bF h
   obtain ⟨g1,g2,g3,g4,g5⟩:=qG q hm
   obtain ⟨l1,l2,l3⟩:=q.al _ hm
   have hv5:=j4 yL[i].2
   have hc:=(AR q.n5 l3 q.os q.ol).2
   have hok:iX (qb ts yL[i].1 yL[i].2).2:=by
    rw [g1]
    exact vO 20 (tP (by have:=yk (q.af _ hm).1;omega))
   have htl:=sf ts yM (yL.take i)
   rw [dh] at htl
   show fS N (k+1) yM ts (c4 ts yM (yL.take i)) yL (yL.length:Int) (i:Int)=_
   rw [fS,dlt h,ag,be h,bs,vu hM ht (sN ha h) l1 (fun v hv=>by have:=l3 v hv;omega),bs,tp oa (sN ha h) oa,bs,xK hM hok oa,bs,g2,bA (by decide) (by simp;omega),bs,ad1 oa,bs,DO h])
  (fun k=>by
   show fS N (k+1) yM ts (c4 ts yM (yL.take yL.length)) yL (yL.length:Int) (yL.length:Int)=_
   rw [fS,dge oa,am,fC]) N 0 oa oa
theorem Hf {ts:List bE} {n:Int} {yL:List bj} {out yM:yQ} (h1:i5 ts n yL out=true) (h2:oq n yL out yM=true):∃ m:Nat,n=(m:Int)/\QFor ts m yL yM:=by
 unfold oq at h2
 rw [bU,bU,dN] at h2
 exact JZ h1 h2.2.1 h2.2.2
theorem rh (hM:1073742848<=N) {ts:List bE} {n:Int} {yL:List bj} {out yM:yQ} (ht:oZ ts) (ha:dz yL) (ho:okI out) (hr:okI yM):j8 N ts n yL out yM=some (Hr ts n yL out yM):=by
 unfold j8 Hr
 rw [wH oa ht ha ho,bs]
 cases h1:i5 ts n yL out with
 | false=>rfl
 | true =>
  rw [ag,vx oa ha ho hr,bs]
  cases h2:oq n yL out yM with
  | false=>rfl
  | true =>
   obtain ⟨m,rfl,q⟩:=Hf h1 h2
   rw [ag,KI hM q ht ha,bs,lpB];rfl
theorem DA {n:Int} {rows:bh} (h:bO n rows=true):iX rows:=by
 obtain ⟨h1,h2,h3,h4⟩:=dQ h
 refine ⟨oa,fun r hr=>?_⟩
 obtain ⟨i,hi,rfl⟩:=gR hr
 obtain ⟨g1,_⟩:=h4 i hi
 exact ⟨oa,fun _ _=>trivial⟩
end
theorem sc {α:Type} [DecidableEq α]:∀ (xs ys:List α),xs.Nodup->(∀ x∈xs,x∈ys)->xs.length<=ys.length
 | [],ys,_,_=>cE _
 | x :: xs,ys,hn,h=>by
  obtain ⟨h1,h2⟩:=lV.1 hn
  have hx:=h x dM
  have:=sc xs (ys.erase x) h2 fun z hz=>(AJ (fun (e:z=x)=>h1 (by rw [e] at hz;exact hz))).2 (h z (fJ _ hz))
  rw [wZ hx] at this
  have:=Ar hx
  rw [bW];omega
theorem uq {n:Int} {rows:bh} (h:bO n rows=true):qE rows:=by
 rw [qE,sQ]
 exact fun i j hi hj hij=>Cd h i j hij hj
theorem Hg {α:Type} (L:Nat->Int->Option Int) (xs:List α) (f:α->Bool)
  (hstep:∀ k i (h:i<xs.length),L (k+1) (i:Int)=bif f xs[i] then L k ((i+1:Nat):Int) else some (i:Int)) (hend:∀ k,L (k+1) (xs.length:Int)=some (xs.length:Int)) :
  ∀ k i,i<=xs.length->xs.length-i<k->L k (i:Int)=some ((i+((xs.drop i).takeWhile f).length:Nat):Int):=by
 intro k
 induction k with
 | zero=>intro i hi hk;omega
 | succ k ih =>
  intro i hi hk
  by_cases h:i<xs.length
  ·rw [hstep k i h,gj h,oA]
   cases f xs[i] with
   | true=>rw [ag,ih (i+1) oa oa,aX rfl,bW];congr 2;omega
   | false=>rw [am,a9 (by decide)];rfl
  ·obtain rfl:i=xs.length:=by omega
   rw [hend k,List.drop_length];rfl
theorem ta {α:Type} (f:α->Bool) (xs:List α):(xs.takeWhile f).length<=xs.length:=(List.takeWhile_prefix f).length_le
def fi (rows:bh) (p:yQ):bh:=rows.filter fun r=>decide (r.take p.length=p)
def cP (p r:yQ):Int:=bZ (r.take p.length) p
def loP (rows:bh) (p:yQ):Nat:=(rows.takeWhile fun r=>decide (cP p r<0)).length
def hiP (rows:bh) (p:yQ):Nat:=loP rows p+((rows.drop (loP rows p)).takeWhile fun r=>cP p r == 0).length
theorem Hd (rows:bh) (p:yQ):loP rows p<=rows.length:=ta _ _
theorem LQ (rows:bh) (p:yQ):hiP rows p<=rows.length:=by
 have h1:=Hd rows p
 have h2:=ta (fun r=>cP p r == 0) (rows.drop (loP rows p))
 rw [jq] at h2
 unfold hiP;omega
theorem IT (rows:bh) (p:yQ):loP rows p<=hiP rows p:=Nat.le_add_right _ _
theorem BB:∀ (n:Nat) (a b:yQ),bZ a b<0->bZ (a.take n) (b.take n)<=0
 | 0,a,b,_=>by rw [List.take_zero,List.take_zero];decide
 | n+1,[],[],h=>absurd h (by decide)
 | n+1,[],y :: b,_=>by rw [List.take_nil,uK,bZ];decide
 | n+1,x :: a,[],h=>absurd h (by rw [bZ];decide)
 | n+1,x :: a,y :: b,h=>by
  rw [uK,uK]
  unfold bZ at h ⊢
  by_cases h1:x<y
  ·rw [aX h1];decide
  ·rw [a9 h1] at h ⊢
   by_cases h2:y<x
   ·rw [aX h2] at h;exact absurd h (by decide)
   ·rw [a9 h2] at h ⊢;exact BB n a b h
theorem ED {p a b:yQ} (h:bZ a b<0):(cP p b<0->cP p a<0)/\(0<cP p a->0<cP p b):=by
 have ht:=BB p.length a b h
 have hn:=qD (b.take p.length) p
 have hn2:=qD (a.take p.length) p
 unfold cP
 constructor
 ·intro hb
  by_cases e:bZ (a.take p.length) (b.take p.length)=0
  ·rw [lX.1 e];exact hb
  ·exact md oa hb
 ·intro ha
  by_cases e:bZ (a.take p.length) (b.take p.length)=0
  ·rw [<- lX.1 e];exact ha
  ·have:=md (a:=p) (b:=a.take p.length) (c:=b.take p.length) oa oa
   omega
theorem DP {α:Type} {f:α->Bool} {xs:List α} (h:∀ x∈xs,f x=false):xs.filter f=[]:=List.filter_eq_nil_iff.2 fun x hx=>by rw [h x hx];decide
theorem Kd {rows:bh} (ha:qE rows) (p:yQ):(rows.take (hiP rows p)).drop (loP rows p)=fi rows p:=by
 have hc:∀ r:yQ,decide (r.take p.length=p)=(cP p r == 0):=fun r=>by unfold cP;rw [H0]
 have key:∀ {rows:bh},qE rows->rows.filter (fun r=>cP p r == 0)=((rows.dropWhile fun r=>decide (cP p r<0)).takeWhile fun r=>cP p r == 0):=by
  intro rows
  induction rows with
  | nil=>intro _;rfl
  | cons r rows ih =>
   intro ha
   obtain ⟨h1,h2⟩:=jU.1 ha
   rw [List.dropWhile_cons]
   by_cases hlt:cP p r<0
   ·rw [aX (by simpa using hlt),rr,a9 (by simp;omega)]
    exact ih h2
   ·rw [a9 (by simpa using hlt),oA,rr]
    by_cases h0:cP p r=0
    ·rw [aX (by simpa using h0),aX (by simpa using h0),ih h2]
     congr 2
     cases rows with
     | nil=>rfl
     | cons s rows =>
      have hs:¬ cP p s<0:=fun h=>hlt ((ED (h1 s dM)).1 h)
      rw [List.dropWhile_cons,a9 (by simpa using hs)]
    ·rw [a9 (by simpa using h0),a9 (by simpa using h0)]
     exact DP fun x hx=>by
      have:=(ED (p:=p) (h1 x hx)).2 oa
      simp;omega
 have hd:∀ (f:yQ->Bool) (rows:bh),rows.drop (rows.takeWhile f).length=rows.dropWhile f:=by
  intro f rows
  induction rows with
  | nil=>rfl
  | cons r rows ih =>
   rw [oA,List.dropWhile_cons]
   cases f r with
   | true=>rw [aX rfl,aX rfl,bW,List.drop_succ_cons,ih]
   | false=>rw [a9 (by decide),a9 (by decide)];rfl
 have ht:∀ (f:yQ->Bool) (xs:bh),xs.take (xs.takeWhile f).length=xs.takeWhile f:=by
  intro f xs
  induction xs with
  | nil=>rfl
  | cons r rows ih =>
   rw [oA]
   cases f r with
   | true=>rw [aX rfl,bW,uK,ih]
   | false=>rw [a9 (by decide)];rfl
 unfold fi hiP
 simp only [hc]
 rw [key ha,List.drop_take,oz,ht]
 unfold loP
 rw [hd]
def kW (n:Nat) (out r:yQ):yQ:=if out.getLast? = some (r.getD n 0) then out else out++[r.getD n 0]
def r9 (rows:bh) (p:yQ):yQ:=(fi rows p).foldl (kW p.length) []
def mT (n:Int) (rows:bh) (p:yQ):yQ:=if (p.length:Int)<n then r9 rows p else []
theorem DX (n:Nat) (out r:yQ):(kW n out r).length<=out.length+1:=by
 unfold kW;split
 ·omega
 ·simp
theorem qI (n:Nat):∀ (rows:bh) (out:yQ),(rows.foldl (kW n) out).length<=out.length+rows.length
 | [],out=>by simp
 | r :: rows,out=>by
  have h1:=qI n rows (kW n out r)
  have h2:=DX n out r
  rw [sY,bW];omega
theorem FQ (rows:bh) (p:yQ):(r9 rows p).length<=rows.length:=by
 have h1:=qI p.length (fi rows p) []
 have h2:(fi rows p).length<=rows.length:=qS _ _
 unfold r9
 simp only [fH] at h1;omega
theorem B2 (n:Int) (rows:bh) (p:yQ):(mT n rows p).length<=rows.length:=by
 unfold mT;split
 ·exact FQ rows p
 ·simp
theorem x5 (n:Nat) (out r:yQ) (v:Int):v∈kW n out r↔v∈out\/v=r.getD n 0:=by
 unfold kW
 split
 ·rename_i h
  have:=List.mem_of_getLast? h
  constructor
  ·exact .inl
  ·rintro (h | rfl)
   ·exact h
   ·exact this
 ·rw [dj,fD]
theorem x9 (n:Nat):∀ (rows:bh) (out:yQ) (v:Int),v∈rows.foldl (kW n) out↔v∈out\/∃ r∈rows,v=r.getD n 0
 | [],out,v=>by simp
 | r :: rows,out,v=>by
  rw [sY,x9 n rows,x5]
  constructor
  ·rintro ((h | h) | ⟨x,hx,h⟩)
   ·exact .inl h
   ·exact .inr ⟨r,dM,h⟩
   ·exact .inr ⟨x,fJ _ hx,h⟩
  ·rintro (h | ⟨x,hx,h⟩)
   ·exact .inl (.inl h)
   ·rcases cZ.1 hx with rfl | hx
    ·exact .inl (.inr h)
    ·exact .inr ⟨x,hx,h⟩
theorem tE {rows:bh} {p:yQ} {v:Int}:v∈r9 rows p↔∃ r∈rows,r.take p.length=p/\v=r.getD p.length 0:=by
 unfold r9 fi
 rw [x9]
 simp only [oK,false_or,lW,dN,and_assoc]
abbrev mj (xs:yQ):Prop:=xs.Pairwise (·<·)
theorem Ej:∀ (n:Nat) (a b:yQ),a.take n=b.take n->n<a.length->n<b.length->bZ a b<0->a.getD n 0<=b.getD n 0
 | _,[],_,_,h,_,_=>absurd h (by simp)
 | _,_ :: _,[],_,_,h,_=>absurd h (by simp)
 | 0,x :: a,y :: b,_,_,_,h=>by
  unfold bZ at h
  show x<=y
  by_cases h1:x<y
  ·omega
  ·rw [a9 h1] at h
   by_cases h2:y<x
   ·rw [aX h2] at h;exact absurd h (by decide)
   ·omega
 | n+1,x :: a,y :: b,e,h1,h2,h=>by
  rw [uK,uK,List.cons.injEq] at e
  unfold bZ at h
  rw [a9 oa,a9 oa] at h
  simp only [bW] at h1 h2
  exact Ej n a b e.2 oa oa h
theorem Gq {xs:yQ} {v:Int} (h:mj xs) (hl:xs.getLast? = some v):∀ x∈xs,x<=v:=by
 intro x hx
 obtain ⟨ys,rfl⟩:=List.getLast?_eq_some_iff.1 hl
 rcases dj.1 hx with hx | hx
 ·have:=(um.1 h).2.2 x hx v (by simp)
  omega
 ·rw [fD] at hx;omega
theorem xX (n:Nat):∀ (rows:bh) (out:yQ),mj out->rows.Pairwise (fun a b=>a.getD n 0<=b.getD n 0)->(∀ x∈out,∀ r∈rows,x<=r.getD n 0)->mj (rows.foldl (kW n) out)
 | [],_,h,_,_=>h
 | r :: rows,out,h,hp,hb=>by
  obtain ⟨p1,p2⟩:=jU.1 hp
  rw [sY]
  refine xX n rows _ ?_ p2 fun x hx s hs=>?_
  ·unfold kW
   split
   ·exact h
   ·rename_i hne
    refine um.2 ⟨h,wP _ _,fun x hx y hy=>?_⟩
    rw [fD] at hy
    have h1:=hb x hx r dM
    rcases Classical.em (x=r.getD n 0) with e | e
    ·exfalso
     obtain ⟨w,hw⟩:∃ w,out.getLast? = some w:=by
      cases hq:out.getLast? with
      | none=>rw [List.getLast?_eq_none_iff] at hq;rw [hq] at hx;simp at hx
      | some w=>exact ⟨w,rfl⟩
     have h2:=Gq h hw x hx
     have h3:=hb w (List.mem_of_getLast? hw) r dM
     exact hne (by rw [hw];congr 1;omega)
    ·omega
  ·rcases (x5 n out r x).1 hx with hx | rfl
   ·exact hb x hx s (fJ _ hs)
   ·exact p1 s hs
theorem GU {rows:bh} {p:yQ} (ha:qE rows) (hl:∀ r∈rows,p.length<r.length):mj (r9 rows p):=by
 unfold r9
 refine xX _ _ _ List.Pairwise.nil ?_ (by simp)
 have h1:(fi rows p).Pairwise fun a b=>bZ a b<0:=List.Pairwise.filter _ ha
 refine List.Pairwise.imp_of_mem (fun {a b} ham hbm h=>?_) h1
 unfold fi at ham hbm
 rw [lW,dN] at ham hbm
 exact Ej _ a b (by rw [ham.2,hbm.2]) (hl a ham.1) (hl b hbm.1) h
theorem F9 {n:Int} {rows:bh} {p:yQ} (hv:bO n rows=true):mj (mT n rows p):=by
 obtain ⟨_,_,_,v4⟩:=dQ hv
 unfold mT
 split
 ·refine GU (uq hv) fun r hr=>?_
  obtain ⟨i,hi,rfl⟩:=gR hr
  have:=(v4 i hi).1;omega
 ·exact List.Pairwise.nil
theorem Fo {n:Int} {rows:bh} {p:yQ} (hv:bO n rows=true):∀ v∈mT n rows p,0<=v/\v<=99:=by
 obtain ⟨_,_,_,v4⟩:=dQ hv
 intro v h
 unfold mT at h
 split at h
 ·obtain ⟨r,hr,_,e⟩:=tE.1 h
  obtain ⟨i,hi,rfl⟩:=gR hr
  obtain ⟨g1,g2,_⟩:=v4 i hi
  rw [bP oa] at e
  unfold cV at g2
  rw [dL] at g2
  rw [e];exact cg.1 (g2 _ (bF _))
 ·simp at h
theorem H7 {α:Type} {xs:List α} {hi:Nat} (h:hi<=xs.length):slc xs 0 (hi:Int)=some (xs.take hi):=by
 have:=lc (xs:=xs) (cE hi) h
 rw [gS] at this;exact this
theorem yx {n:Int} {rows:bh} (hv:bO n rows=true) {i:Nat} (h:i<rows.length):(rows[i].length:Int)=n/\rows[i].length<=5:=by
 obtain ⟨_,v2,_,v4⟩:=dQ hv
 have:=(v4 i h).1
 exact ⟨this,oa⟩
section
variable {N:Nat}
theorem JF (hN:1073741824<=N) {n:Int} {rows:bh} {p:yQ} (hv:bO n rows=true) (hp:(p.length:Int)<=n):dI N N p n rows (p.length:Int) 0=some (loP rows p:Int):=by
 have hl:=(dQ hv).2.2.1
 have h2:=(dQ hv).2.1
 have h:=Hg (fun k i=>dI N k p n rows (p.length:Int) i) rows (fun r=>decide (cP p r<0))
  (fun k i h=>by
   have:=yx hv h
   show dI N (k+1) p n rows (p.length:Int) (i:Int)=_
   rw [dI,dlt h,ag,be h,bs,H7 oa,bs,lE hN (by rw [dh];omega) oa,bs,ad1 oa,bs];rfl)
  (fun k=>by
   show dI N (k+1) p n rows (p.length:Int) (rows.length:Int)=_
   rw [dI,dge oa,am]) N 0 oa oa
 rw [gS,e9] at h;exact h
theorem Ja (hN:1073741824<=N) {n:Int} {rows:bh} {p:yQ} (hv:bO n rows=true) (hp:(p.length:Int)<=n):df N N p n rows (p.length:Int) (loP rows p:Int) (loP rows p:Int)=some (hiP rows p:Int):=by
 have hl:=(dQ hv).2.2.1
 have h2:=(dQ hv).2.1
 have hlo:=Hd rows p
 exact Hg (fun k i=>df N k p n rows (p.length:Int) (loP rows p:Int) i) rows (fun r=>cP p r == 0)
  (fun k i h=>by
   have:=yx hv h
   show df N (k+1) p n rows (p.length:Int) (loP rows p:Int) (i:Int)=_
   rw [df,dlt h,ag,be h,bs,H7 oa,bs,lE hN (by rw [dh];omega) oa,bs,ad1 oa,bs];rfl)
  (fun k=>by
   show df N (k+1) p n rows (p.length:Int) (loP rows p:Int) (rows.length:Int)=_
   rw [df,dge oa,am]) N (loP rows p) hlo oa
theorem qq (hN:1073741824<=N) {n:Int} {rows:bh} (hr:iX rows):jC N n rows=some (bO n rows):=by
 unfold jC nA
 rw [bs]
 show (dY N n rows).bind _=_
 rw [jm hN hr,bs]
theorem Mp {α:Type} {n:Nat} {out r:yQ} (hl:out.length<=1048576) (hr:n<r.length) {f:yQ->Option α} :
  (bif ((out.length:Int) == 0) then (ix r (n:Int)).bind fun x=>(apd 8 out [x]).bind f
   else (sb (out.length:Int) 1).bind fun i=>(ix out i).bind fun y=>(ix r (n:Int)).bind fun x=>bif (y != x) then (ix r (n:Int)).bind fun x=>(apd 8 out [x]).bind f else f out)=f (kW n out r):=by
 rw [be hr,bs]
 unfold kW
 rw [bP hr]
 rcases List.eq_nil_or_concat out with rfl | ⟨ys,w,rfl⟩
 ·rw [show ((([]:yQ).length:Int) == 0)=true from rfl,ag,bA (by decide) (by simp),bs,a9 (by simp)]
 ·rw [List.concat_eq_append] at hl ⊢
  rw [b8,bT] at hl
  rw [show (((ys++[w]).length:Int) == 0)=false by simp;omega,am,eu (by rw [b8,bT];omega) (by rw [b8,bT];omega),bs,show (((ys++[w]).length:Int)-1)=((ys.length:Nat):Int) by simp,be (by simp),bs,bs]
  rw [List.getElem_concat_length rfl,List.getLast?_append]
  by_cases e:w=r[n]
  ·rw [show (w != r[n])=false by simpa using e,am,aX (by simp [e])]
  ·rw [show (w != r[n])=true by simpa using e,ag,bA (by decide) (by simp;omega),bs,a9 (by simpa using e)]
theorem GJ (rows:bh) (p:yQ):(fi rows p).length<=rows.length:=qS _ _
theorem Gb {n:Int} {rows:bh} {p:yQ} (hv:bO n rows=true):∀ r∈fi rows p,(r.length:Int)=n:=by
 intro r hr
 obtain ⟨i,hi,rfl⟩:=gR (lW.1 hr).1
 exact (yx hv hi).1
theorem vH (hN:1073741824<=N) {n:Int} {rows:bh} {p:yQ} (hv:bO n rows=true):kA N n rows p=some (mT n rows p):=by
 have hl:=(dQ hv).2.2.1
 unfold kA mT
 by_cases hp:(p.length:Int)<n
 ·rw [ba oa,am,qq hN (DA hv),bs,hv,ag,aX hp]
  unfold kP
  rw [ba oa,am,qq hN (DA hv),bs,hv,ag,JF hN hv oa,bs,lpB,Ja hN hv oa,bs,lpB,bs]
  show (slc rows (loP rows p:Int) (hiP rows p:Int)).bind _=_
  rw [lc (IT rows p) (LQ rows p),bs,Kd (uq hv)]
  have hwl:=GJ rows p
  have h:=gC (fun k (o:yQ) i=>c6 N k (p.length:Int) o (fi rows p) ((fi rows p).length:Int) i) (fi rows p).length (fun i=>((fi rows p).take i).foldl (kW p.length) []) (r9 rows p,((fi rows p).length:Int))
   (fun k i h=>by
    have hk:=qI p.length ((fi rows p).take i) []
    rw [dh,fH] at hk
    have hrow:=Gb hv _ (bF h)
    show c6 N (k+1) (p.length:Int) _ (fi rows p) ((fi rows p).length:Int) (i:Int)=_
    rw [c6,dlt h,ag,be h,bs,ad1 oa,gk h,zt]
    exact Mp (f:=fun o=>(some ((i+1:Nat):Int)).bind fun x=>c6 N k (p.length:Int) o (fi rows p) ((fi rows p).length:Int) x) oa oa)
   (fun k=>by
    show c6 N (k+1) (p.length:Int) _ (fi rows p) ((fi rows p).length:Int) ((fi rows p).length:Int)=_
    rw [c6,dge oa,am,fC];rfl) N 0 oa oa
  have h':c6 N N (p.length:Int) [] (fi rows p) ((fi rows p).length:Int) 0=_:=h
  rw [h',bs,lpB]
 ·rw [aW oa,ag,a9 hp]
end
abbrev Nxt:=yQ->yQ × Int
def tZ (f:Nxt) (p:yQ):bh:=(f p).1.map fun v=>p++[v]
def jP (f:Nxt) (L:bh):Int:=(L.map fun p=>(f p).2).sum
def nu (f:Nxt):Nat->bh->Int->bh × Int
 | 0,L,c=>(L,c)
 | m+1,L,c=>nu f m (L.flatMap (tZ f)) (c+jP f L)
def c9 (f:Nxt):Nat->yQ->bh × Int
 | 0,p=>([p],0)
 | m+1,p=>((f p).1.flatMap fun v=>(c9 f m (p++[v])).1,(f p).2+((f p).1.map fun v=>(c9 f m (p++[v])).2).sum)
theorem x6 {α β:Type} (g:α->List β) (w:β->Int):∀ L:List α,((L.flatMap g).map w).sum=(L.map fun p=>((g p).map w).sum).sum
 | []=>rfl
 | p :: L=>by rw [sO,fE,List.sum_append,x6 g w L,fI,rq]
theorem CS {α:Type} (g h:α->Int):∀ L:List α,(L.map g).sum+(L.map h).sum=(L.map fun p=>g p+h p).sum
 | []=>rfl
 | p :: L=>by
  have:=CS g h L
  simp only [fI,rq];omega
theorem Cm (f:Nxt):∀ (m:Nat) (L:bh) (c:Int),nu f m L c=(L.flatMap fun p=>(c9 f m p).1,c+(L.map fun p=>(c9 f m p).2).sum)
 | 0,L,c=>by
  have h1:∀ L:bh,L.flatMap (fun p=>[p])=L:=fun L=>by induction L with | nil=>rfl | cons p L ih=>rw [sO,ih];rfl
  have h2:∀ L:bh,(L.map fun _=>(0:Int)).sum=0:=fun L=>by induction L with | nil=>rfl | cons p L ih=>rw [fI,rq,ih];rfl
  show (L,c)=(L.flatMap (fun p=>[p]),c+(L.map fun _=>(0:Int)).sum)
  rw [h1,h2,sV]
 | m+1,L,c=>by
  rw [nu,Cm f m]
  congr 1
  ·rw [List.flatMap_assoc]
   congr 1
   funext p
   show ((f p).1.map fun v=>p++[v]).flatMap _=(f p).1.flatMap _
   rw [List.flatMap_map]
  ·rw [x6,Int.add_assoc]
   unfold jP
   rw [CS]
   congr 3
   funext p
   show (f p).2+(((f p).1.map fun v=>p++[v]).map _).sum=(f p).2+((f p).1.map _).sum
   rw [ni];rfl
theorem vh (f:Nxt) (m:Nat):nu f m [[]] 0=c9 f m []:=by
 rw [Cm]
 simp
structure NxtOk (f:Nxt):Prop where
 len:∀ p,(f p).1.length<=16
 asc:∀ p,mj (f p).1
 val:∀ p,∀ v∈(f p).1,0<=v/\v<=99
 st0:∀ p,0<=(f p).2
 st1:∀ p,(f p).2<=1000
theorem tz {f:Nxt}:∀ {m:Nat} {p r:yQ},r∈(c9 f m p).1->∃ s,r=p++s/\s.length=m
 | 0,p,r,h=>⟨[],by rw [mP];exact fD.1 h,rfl⟩
 | m+1,p,r,h=>by
  obtain ⟨v,_,hv⟩:=uA.1 h
  obtain ⟨s,e,hs⟩:=tz hv
  exact ⟨v :: s,by rw [e,gT];rfl,by rw [bW,hs]⟩
theorem oN {α β:Type} {g:α->List β} {k:Nat} (h:∀ x,(g x).length<=k):∀ L:List α,(L.flatMap g).length<=L.length*k
 | []=>by simp
 | p :: L=>by
  have h1:=h p
  have h2:=oN h L
  rw [sO,b8,bW,rp];omega
theorem Ie {f:Nxt} (hf:NxtOk f) (p:yQ):(tZ f p).length<=16:=by unfold tZ;rw [cD];exact hf.len p
theorem Do {α:Type} {g:α->Int} {b:Int} (h0:∀ x,0<=g x) (h1:∀ x,g x<=b):∀ L:List α,0<=(L.map g).sum/\(L.map g).sum<=L.length*b
 | []=>by simp
 | p :: L=>by
  have h2:=Do h0 h1 L
  have h3:=h0 p;have h4:=h1 p
  rw [fI,rq,bW]
  have:((L.length+1:Nat):Int)*b=(L.length:Int)*b+b:=by rw [Int.natCast_add,Int.add_mul];simp
  omega
theorem BT {f:Nxt} (hf:NxtOk f):∀ (m:Nat) (p:yQ),(c9 f m p).1.length<=16 ^ m
 | 0,p=>by simp [c9]
 | m+1,p=>by
  have h1:=oN (g:=fun v=>(c9 f m (p++[v])).1) (fun v=>BT hf m _) (f p).1
  have h2:=mc (16 ^ m) (hf.len p)
  show ((f p).1.flatMap fun v=>(c9 f m (p++[v])).1).length<=_
  rw [pZ];omega
def se:Nat->Int
 | 0=>0
 | m+1=>1000+16*se m
theorem EC:∀ m,0<=se m
 | 0=>by decide
 | m+1=>by have:=EC m;unfold se;omega
theorem sB {f:Nxt} (hf:NxtOk f):∀ (m:Nat) (p:yQ),0<=(c9 f m p).2/\(c9 f m p).2<=se m
 | 0,p=>by simp [c9,se]
 | m+1,p=>by
  have h1:=Do (g:=fun v=>(c9 f m (p++[v])).2) (fun v=>(sB hf m _).1) (fun v=>(sB hf m _).2) (f p).1
  have h2:=hf.len p;have h3:=hf.st0 p;have h4:=hf.st1 p
  have h5:(((f p).1.length:Nat):Int)*se m<=16*se m:=AY oa (EC m)
  show 0<=(f p).2+_/\(f p).2+_<=1000+16*se m
  omega
def gQ (l:yQ) (a:Nat) (v:Int):Nat:=a+((l.drop a).takeWhile fun x=>decide (x<v)).length
theorem CX {l:yQ} {a:Nat} {v:Int} (h:a<=l.length):gQ l a v<=l.length:=by
 have:=ta (fun x=>decide (x<v)) (l.drop a)
 rw [jq] at this
 unfold gQ;omega
theorem E4 {f:Int->Bool}:∀ {xs:yQ} (h:(xs.takeWhile f).length<xs.length),f (xs[(xs.takeWhile f).length])=false
 | [],h=>absurd h (by simp)
 | x :: xs,h=>by
  cases hf:f x with
  | false =>
   have e:(x :: xs).takeWhile f=[]:=by rw [oA,hf];rfl
   simp only [e,fH,List.getElem_cons_zero];exact hf
  | true =>
   have e:(x :: xs).takeWhile f=x :: xs.takeWhile f:=by rw [oA,hf];rfl
   simp only [e,bW] at h ⊢
   rw [List.getElem_cons_succ]
   exact E4 oa
theorem Iw {f:Int->Bool}:∀ {xs:yQ} {j:Nat} (h:j<xs.length),j<(xs.takeWhile f).length->f xs[j]=true
 | [],_,h,_=>absurd h (by simp)
 | x :: xs,j,h,hj=>by
  cases hf:f x with
  | false =>
   have e:(x :: xs).takeWhile f=[]:=by rw [oA,hf];rfl
   rw [e] at hj;exact absurd hj (by simp)
  | true =>
   have e:(x :: xs).takeWhile f=x :: xs.takeWhile f:=by rw [oA,hf];rfl
   rw [e,bW] at hj
   cases j with
   | zero=>exact hf
   | succ j=>rw [List.getElem_cons_succ];exact Iw _ oa
theorem Fi {l:yQ} {a:Nat} {v:Int} (h:gQ l a v<l.length):v<=l.getD (gQ l a v) 0:=by
 unfold gQ at h ⊢
 have:=E4 (f:=fun x=>decide (x<v)) (xs:=l.drop a) (by rw [jq];omega)
 rw [List.getElem_drop,AZ] at this
 rw [bP h];omega
theorem Hx {l:yQ} {a j:Nat} {v:Int} (h:j<l.length) (h1:a<=j) (h2:j<gQ l a v):l[j]<v:=by
 unfold gQ at h2
 have:=Iw (f:=fun x=>decide (x<v)) (xs:=l.drop a) (j:=j-a) (by rw [jq];omega) oa
 rw [List.getElem_drop,dN] at this
 simpa [show a+(j-a)=j by omega] using this
theorem HC {l:yQ} {a:Nat} {v:Int} (h:a<l.length) (h1:l[a]<v):a<gQ l a v:=by
 unfold gQ
 rw [gj h,oA,aX (by simpa using h1),bW];omega
theorem uL {l:yQ} (h:mj l) {i j:Nat} (hi:i<j) (hj:j<l.length):l[i]<l[j]:=sQ.1 h i j oa hj hi
def oy (Ls:bh) (A:List Nat) (k:Nat):Int:=(Ls.getD k []).getD (A.getD k 0) 0
def lkL (Ls:bh) (s:Nat):yQ:=Ls.getD (s % Ls.length) []
def lkP (Ls:bh) (A:List Nat) (s:Nat):Nat:=A.getD (s % Ls.length) 0
def lkA (Ls:bh) (A:List Nat) (most:Int) (s:Nat):Nat:=if (lkL Ls s).getD (lkP Ls A s) 0=most then lkP Ls A s+1 else gQ (lkL Ls s) (lkP Ls A s) most
def lkO (Ls:bh) (A:List Nat) (most:Int) (out:yQ) (s:Nat):yQ:=if (lkL Ls s).getD (lkP Ls A s) 0=most then out++[most] else out
def lq (Ls:bh):Nat->List Nat->Int->yQ->Nat->yQ × Nat
 | 0,_,_,out,s=>(out,s)
 | m+1,A,most,out,s =>
  if lkA Ls A most s=(lkL Ls s).length then (lkO Ls A most out s,s+1) else lq Ls m (A.set (s % Ls.length) (lkA Ls A most s)) ((lkL Ls s).getD (lkA Ls A most s) 0) (lkO Ls A most out s) (s+1)
structure LInv (Ls:bh) (A:List Nat) (most:Int) (out:yQ) (s:Nat):Prop where
 pos:0<Ls.length
 len:A.length=Ls.length
 asc:∀ l∈Ls,mj l
 lt:∀ k,k<Ls.length->A.getD k 0<(Ls.getD k []).length
 cyc:∀ i j,i<=j->j<Ls.length->oy Ls A ((s+i) % Ls.length)<=oy Ls A ((s+j) % Ls.length)
 top:oy Ls A ((s+(Ls.length-1)) % Ls.length)=most
 oasc:mj out
 olt:∀ x∈out,x<most
 ocom:∀ x∈out,∀ l∈Ls,x∈l
 all:∀ x,(∀ l∈Ls,x∈l)->x∈out\/∀ k,k<Ls.length->oy Ls A k<=x
theorem Eo {s n k:Nat} (hk:k<n):∃ i,i<n/\(s+i) % n=k:=by
 have hr:s % n<n:=Nat.mod_lt _ oa
 by_cases h:s % n<=k
 ·refine ⟨k-s % n,oa,?_⟩
  rw [Nat.add_mod,pI (a:=k-s % n) oa,show s % n+(k-s % n)=k by omega,pI hk]
 ·refine ⟨k+n-s % n,oa,?_⟩
  rw [Nat.add_mod,pI (a:=k+n-s % n) oa,show s % n+(k+n-s % n)=k+n by omega,Nat.add_mod_right,pI hk]
theorem G5 {s i j n:Nat} (hi:i<j) (hj:j<n):(s+j) % n≠(s+i) % n:=by
 intro e
 have h1:=Nat.div_add_mod (s+j) n
 have h2:=Nat.div_add_mod (s+i) n
 rw [e] at h1
 have h3:n*((s+j) / n)=n*((s+i) / n)+(j-i):=by omega
 rcases Nat.lt_trichotomy ((s+j) / n) ((s+i) / n) with h | h | h
 ·have:=rn n (Nat.le_of_lt h);omega
 ·rw [h] at h3;omega
 ·have:=rn n (Nat.succ_le_of_lt h)
  rw [Nat.mul_succ] at this;omega
theorem Dh {A:List Nat} {k a:Nat} (h:k<A.length):(A.set k a).getD k 0=a:=by simp [h]
theorem Bh {A:List Nat} {k j a:Nat} (h:j≠k):(A.set k a).getD j 0=A.getD j 0:=by
 simp [zj (qT h)]
theorem mi {Ls:bh} {k:Nat} (h:k<Ls.length):Ls.getD k []∈Ls:=by rw [iT h];exact bF h
theorem GP {l:yQ} {x:Int} (h:x∈l):∃ j,∃ hj:j<l.length,l[j]=x:=List.mem_iff_getElem.1 h
theorem xa {Ls:bh} {A:List Nat} {most:Int} {out:yQ} {s:Nat} (I:LInv Ls A most out s) :
  let k:=s % Ls.length
  let l:=lkL Ls s
  let a:=lkP Ls A s
  let a':=lkA Ls A most s
  let out':=lkO Ls A most out s
  k<Ls.length/\a<l.length/\a<a'/\a'<=l.length/\(a'=l.length->mj out'/\∀ x,x∈out'↔∀ l∈Ls,x∈l)/\(¬ a'=l.length->LInv Ls (A.set k a') (l.getD a' 0) out' (s+1)):=by
 intro k l a a' out'
 have hk:k<Ls.length:=Nat.mod_lt _ I.pos
 have hkA:k<A.length:=by rw [I.len];exact hk
 have ha:a<l.length:=I.lt k hk
 have hla:mj l:=I.asc l (mi hk)
 have hkey:oy Ls A k=l.getD a 0:=rfl
 have hle:l.getD a 0<=most:=by
  have:=I.cyc 0 (Ls.length-1) oa (by have:=I.pos;omega)
  rw [I.top,lh] at this
  exact this
 rw [bP ha] at hle
 -- the new place
 have hgt:a<a':=by
  show a<if l.getD a 0=most then a+1 else gQ l a most
  split
  ·omega
  ·rename_i h;rw [bP ha] at h;exact HC ha oa
 have hle':a'<=l.length:=by
  show (if l.getD a 0=most then a+1 else gQ l a most)<=l.length
  split
  ·omega
  ·exact CX oa
 have hnew:a'<l.length->most<=l.getD a' 0/\(l.getD a 0=most->most<l.getD a' 0):=by
  intro h
  by_cases e:l.getD a 0=most
  ·have e':a'=a+1:=aX e
   rw [e'] at h ⊢
   have:=uL hla (show a<a+1 by omega) h
   rw [bP h];rw [bP ha] at e
   exact ⟨oa,fun _=>by omega⟩
  ·have e':a'=gQ l a most:=a9 e
   rw [e'] at h ⊢
   exact ⟨Fi h,fun h'=>absurd h' e⟩
 -- every key is at most 'most';on a hit all are equal
 have hmost:∀ j,j<Ls.length->oy Ls A j<=most:=by
  intro j hj
  obtain ⟨i,hi,rfl⟩:=Eo (s:=s) hj
  have:=I.cyc i (Ls.length-1) oa oa
  rwa [I.top] at this
 have hhit:l.getD a 0=most->∀ l'∈Ls,most∈l':=by
  intro e l' hl'
  obtain ⟨j,hj,rfl⟩:=gR hl'
  have h1:=hmost j hj
  obtain ⟨i,hi,ej⟩:=Eo (s:=s) hj
  have h2:=I.cyc 0 i oa hi
  rw [lh,ej] at h2
  have h3:oy Ls A j=most:=by rw [show oy Ls A (s % Ls.length)=most from e] at h2;omega
  have h4:=I.lt j hj
  unfold oy at h3
  rw [bP h4] at h3
  have h5:=bF h4
  rw [h3] at h5
  rwa [iT hj] at h5
 -- what is common and not yet found lies at the new place or behind it
 have hback:∀ x,(∀ l'∈Ls,x∈l')->x∈out'\/(most<=x/\∃ j,∃ hj:j<l.length,l[j]=x/\a'<=j):=by
  intro x hx
  rcases I.all x hx with h | h
  ·refine .inl ?_
   show x∈if l.getD a 0=most then out++[most] else out
   split
   ·exact gV _ h
   ·exact h
  ·have hm:most<=x:=by
    have:=h ((s+(Ls.length-1)) % Ls.length) (Nat.mod_lt _ I.pos)
    rwa [I.top] at this
   obtain ⟨j,hj,e⟩:=GP (hx l (mi hk))
   by_cases hej:l.getD a 0=most
   ·have e':a'=a+1:=aX hej
    have eo:out'=out++[most]:=aX hej
    by_cases hxm:x=most
    ·exact .inl (by rw [eo,hxm];simp)
    ·refine .inr ⟨hm,j,hj,e,?_⟩
     rw [e']
     refine s7 fun hc=>?_
     rcases Nat.lt_or_ge j a with hja | hja
     ·have:=uL hla hja ha
      rw [bP ha] at hej;omega
     ·have:j=a:=by omega
      subst this
      rw [bP ha] at hej;omega
   ·have e':a'=gQ l a most:=a9 hej
    refine .inr ⟨hm,j,hj,e,?_⟩
    rw [e']
    refine s7 fun hc=>?_
    rcases Nat.lt_or_ge j a with hja | hja
    ·have:=uL hla hja ha
     omega
    ·have:=Hx hj hja (by omega:j<gQ l a most)
     omega
 have hoasc:mj out':=by
  show mj (if l.getD a 0=most then out++[most] else out)
  split
  ·exact um.2 ⟨I.oasc,wP _ _,fun x hx y hy=>by rw [fD] at hy;rw [hy];exact I.olt x hx⟩
  ·exact I.oasc
 have hocom:∀ x∈out',∀ l'∈Ls,x∈l':=by
  intro x hx
  by_cases e:l.getD a 0=most
  ·have eo:out'=out++[most]:=aX e
   rw [eo] at hx
   rcases dj.1 hx with hx | hx
   ·exact I.ocom x hx
   ·rw [fD] at hx;rw [hx];exact hhit e
  ·have eo:out'=out:=a9 e
   rw [eo] at hx;exact I.ocom x hx
 refine ⟨hk,ha,hgt,hle',fun he=>⟨hoasc,fun x=>⟨hocom x,fun hx=>?_⟩⟩,fun hne=>?_⟩
 ·rcases hback x hx with h | ⟨_,j,hj,_,hj2⟩
  ·exact h
  ·omega
 ·have hlt':a'<l.length:=by omega
  obtain ⟨n1,n2⟩:=hnew hlt'
  have keyNew:oy Ls (A.set k a') k=l.getD a' 0:=by unfold oy;rw [Dh hkA];rfl
  have keyOld:∀ j,j≠k->oy Ls (A.set k a') j=oy Ls A j:=fun j hj=>by unfold oy;rw [Bh hj]
  have hkk:(s+1+(Ls.length-1)) % Ls.length=k:=by
   rw [show s+1+(Ls.length-1)=s+Ls.length by have:=I.pos;omega,Nat.add_mod_right]
  have hne':∀ i,i+1<Ls.length->(s+1+i) % Ls.length≠k:=fun i hi=>by
   have:=G5 (s:=s) (i:=0) (j:=i+1) (n:=Ls.length) oa hi
   rw [lh] at this
   rw [show s+1+i=s+(i+1) by omega];exact this
  refine ⟨I.pos,by rw [gP];exact I.len,I.asc,fun j hj=>?_,fun i j hij hj=>?_,by rw [hkk,keyNew],hoasc,fun x hx=>?_,hocom,fun x hx=>?_⟩
  ·by_cases e:j=k
   ·rw [e,Dh hkA];exact hlt'
   ·rw [Bh e];exact I.lt j hj
  ·by_cases ej:j+1<Ls.length
   ·rw [keyOld _ (hne' j ej),keyOld _ (hne' i oa),show s+1+i=s+(i+1) by omega,show s+1+j=s+(j+1) by omega]
    exact I.cyc (i+1) (j+1) oa ej
   ·have ejl:j=Ls.length-1:=by omega
    rw [ejl,hkk,keyNew]
    by_cases ei:i+1<Ls.length
    ·rw [keyOld _ (hne' i ei)]
     have:=hmost ((s+1+i) % Ls.length) (Nat.mod_lt _ I.pos)
     omega
    ·rw [show i=Ls.length-1 by omega,hkk,keyNew];exact kL _
  ·by_cases e:l.getD a 0=most
   ·have eo:out'=out++[most]:=aX e
    rw [eo] at hx
    have:=n2 e
    rcases dj.1 hx with hx | hx
    ·have:=I.olt x hx;omega
    ·rw [fD] at hx;omega
   ·have eo:out'=out:=a9 e
    rw [eo] at hx
    have:=I.olt x hx;omega
  ·rcases hback x hx with h | ⟨hm,j,hj,e,hj2⟩
   ·exact .inl h
   ·refine .inr fun i hi=>?_
    by_cases ei:i=k
    ·rw [ei,keyNew,bP hlt',<- e]
     rcases Nat.lt_or_ge a' j with h | h
     ·exact sL (uL hla h hj)
     ·have:j=a':=by omega
      subst this;exact kL _
    ·rw [keyOld i ei]
     have:=hmost i hi;omega
def o6 (Ls:bh) (A:List Nat):Nat:=(List.zipWith (fun l a=>l.length-a) Ls A).sum
theorem yU:∀ (Ls:bh) (A:List Nat) (k a':Nat),k<Ls.length->A.length=Ls.length->(Ls.getD k []).length-a'<(Ls.getD k []).length-A.getD k 0->o6 Ls (A.set k a')<o6 Ls A
 | [],_,_,_,h,_,_=>absurd h (by simp)
 | _ :: _,[],_,_,_,h,_=>absurd h (by simp)
 | l :: Ls,a :: A,0,a',_,_,h=>by
  unfold o6
  simp only [List.set_cons_zero,List.zipWith_cons_cons,rq]
  simp only [List.getD_cons_zero] at h
  omega
 | l :: Ls,a :: A,k+1,a',h1,h2,h=>by
  have:=yU Ls A k a' (by simpa using h1) (by simpa using h2) (by simpa using h)
  unfold o6 at this ⊢
  simp only [List.set_cons_succ,List.zipWith_cons_cons,rq]
  omega
theorem xY {Ls:bh}:∀ (m:Nat) (A:List Nat) (most:Int) (out:yQ) (s:Nat),LInv Ls A most out s->o6 Ls A<m ->
  mj (lq Ls m A most out s).1/\(∀ x,x∈(lq Ls m A most out s).1↔∀ l∈Ls,x∈l)/\(lq Ls m A most out s).2<=s+m
 | 0,_,_,_,_,_,h=>absurd h oa
 | m+1,A,most,out,s,I,h=>by
  obtain ⟨hk,ha,hgt,hle,h1,h2⟩:=xa I
  rw [lq]
  by_cases he:lkA Ls A most s=(lkL Ls s).length
  ·rw [aX he]
   obtain ⟨g1,g2⟩:=h1 he
   exact ⟨g1,g2,by show s+1<=_;omega⟩
  ·rw [a9 he]
   have hr:=yU Ls A (s % Ls.length) (lkA Ls A most s) hk I.len (by
    have h3:lkP Ls A s<(lkL Ls s).length:=ha
    have h4:lkP Ls A s<lkA Ls A most s:=hgt
    show (lkL Ls s).length-lkA Ls A most s<(lkL Ls s).length-lkP Ls A s
    omega)
   obtain ⟨g1,g2,g3⟩:=xY m _ _ _ (s+1) (h2 he) oa
   exact ⟨g1,g2,oa⟩
def ms (l:yQ):Int:=l.getD 0 0
def rK (hs:yQ) (h:Int):Nat->Nat
 | 0=>0
 | k+1=>if h<hs.getD k 0 then rK hs h k else k+1
theorem E7 (hs:yQ) (h:Int):∀ k,rK hs h k<=k
 | 0=>bN _
 | k+1=>by
  unfold rK;split
  ·have:=E7 hs h k;omega
  ·exact bN _
theorem Eu (hs:yQ) (h:Int):∀ k j,rK hs h k<=j->j<k->h<hs.getD j 0
 | 0,j,_,h2=>absurd h2 oa
 | k+1,j,h1,h2=>by
  unfold rK at h1
  split at h1
  ·rename_i hh
   by_cases e:j=k
   ·rw [e];exact hh
   ·exact Eu hs h k j h1 oa
  ·omega
theorem E1 (hs:yQ) (h:Int):∀ k,rK hs h k=0\/hs.getD (rK hs h k-1) 0<=h
 | 0=>.inl rfl
 | k+1=>by
  unfold rK;split
  ·exact E1 hs h k
  ·rename_i hh;exact .inr (by rw [qX];omega)
def hdI (ls:bh) (j:Int):Int:=ms (ls.getD j.toNat [])
def mX (ls:bh) (O:yQ) (i:Nat):Nat:=rK (O.map (hdI ls)) (hdI ls (i:Int)) O.length
def vy (ls:bh) (O:yQ) (i:Nat):yQ:=O.take (mX ls O i)++[(i:Int)]++O.drop (mX ls O i)
def hJ (ls:bh) (i:Nat):yQ:=(List.range' 0 i).foldl (vy ls) []
def lsO (ls:bh) (O:yQ):bh:=O.map fun j=>ls.getD j.toNat []
theorem B0 (ls:bh) (i:Nat):hJ ls (i+1)=vy ls (hJ ls i) i:=by unfold hJ;rw [oD,zt];simp
theorem Ec (ls:bh) (O:yQ) (i:Nat):mX ls O i<=O.length:=E7 _ _ _
theorem BX (ls:bh) (O:yQ) (i:Nat):(vy ls O i).Perm ((i:Int) :: O):=by
 unfold vy
 rw [gT,List.singleton_append]
 have h:=List.perm_middle (a:=(i:Int)) (l₁:=O.take (mX ls O i)) (l₂:=O.drop (mX ls O i))
 rwa [List.take_append_drop] at h
theorem HK (ls:bh) (O:yQ) (i:Nat):(vy ls O i).length=O.length+1:=by rw [(BX ls O i).length_eq,bW]
def leI (a b:Int):Prop:=a<=b
theorem DU {ls:bh} {O:yQ} {i:Nat} (h:(O.map (hdI ls)).Pairwise leI):((vy ls O i).map (hdI ls)).Pairwise leI:=by
 have hk:=Ec ls O i
 have hat:∀ j (hj:j<O.length),hdI ls O[j]=(O.map (hdI ls)).getD j 0:=fun j hj=>by rw [bP (by rw [cD];exact hj),ky]
 unfold vy
 rw [fE,fE,gT]
 have h1:(O.map (hdI ls))=(O.take (mX ls O i)).map (hdI ls)++(O.drop (mX ls O i)).map (hdI ls):=by rw [<- fE,List.take_append_drop]
 rw [h1] at h
 obtain ⟨p1,p2,p3⟩:=um.1 h
 refine um.2 ⟨p1,?_,?_⟩
 ·rw [fI,nS,List.singleton_append]
  refine jU.2 ⟨fun y hy=>?_,p2⟩
  obtain ⟨x,hx,rfl⟩:=fK.1 hy
  obtain ⟨j,hj,rfl⟩:=gR hx
  rw [jq] at hj
  rw [List.getElem_drop]
  have:=Eu (O.map (hdI ls)) (hdI ls (i:Int)) O.length (mX ls O i+j) (by unfold mX;omega) oa
  rw [<- hat _ oa] at this
  exact sL this
 ·intro x hx y hy
  have hx':leI x (hdI ls (i:Int)):=by
   obtain ⟨z,hz,rfl⟩:=fK.1 hx
   obtain ⟨j,hj,rfl⟩:=gR hz
   rw [dh] at hj
   rw [uh]
   have hj1:j<mX ls O i:=by omega
   rcases E1 (O.map (hdI ls)) (hdI ls (i:Int)) O.length with h0 | h0
   ·have:mX ls O i=0:=h0
    omega
   ·have h0':(O.map (hdI ls)).getD (mX ls O i-1) 0<=hdI ls (i:Int):=h0
    by_cases e:j=mX ls O i-1
    ·unfold leI;rw [hat j oa,e];exact h0'
    ·have hp:=sQ.1 p1 j (mX ls O i-1) (by rw [cD,dh];omega) (by rw [cD,dh];omega) oa
     rw [ky,ky,uh,uh] at hp
     unfold leI at hp ⊢
     rw [hat (mX ls O i-1) oa] at hp
     omega
  rw [fI,nS,List.singleton_append] at hy
  rcases cZ.1 hy with rfl | hy
  ·exact hx'
  ·exact p3 x hx y hy
structure OrdOk (ls:bh) (O:yQ) (i:Nat):Prop where
 len:O.length=i
 nd:O.Nodup
 bd:∀ j∈O,0<=j/\j<i
 so:(O.map (hdI ls)).Pairwise leI
theorem uX (ls:bh):∀ i,OrdOk ls (hJ ls i) i
 | 0=>⟨rfl,List.nodup_nil,fun j h=>absurd h (oK),List.Pairwise.nil⟩
 | i+1=>by
  have h:=uX ls i
  rw [B0]
  have hp:=BX ls (hJ ls i) i
  refine ⟨by rw [HK,h.len],hp.nodup_iff.2 (lV.2 ⟨fun hm=>by have:=h.bd _ hm;omega,h.nd⟩),fun j hj=>?_,DU h.so⟩
  rcases cZ.1 (hp.mem_iff.1 hj) with rfl | hj
  ·omega
  ·have:=h.bd j hj;omega
def shS (ls:bh) (i:Nat) (s:Int):Int:=bif Nat.beq i 0||decide (((ls.getD i []).length:Int)<s) then ((ls.getD i []).length:Int) else s
def shT (ls:bh) (i:Nat):Int:=(List.range' 0 i).foldl (fun s i=>shS ls i s) 0
theorem yn (ls:bh) (i:Nat):shT ls (i+1)=shS ls i (shT ls i):=by unfold shT;rw [oD,zt];simp
theorem He (ls:bh):∀ i,0<=shT ls i/\∀ j,j<i->shT ls i<=((ls.getD j []).length:Int)
 | 0=>⟨kL _,fun j h=>absurd h oa⟩
 | i+1=>by
  obtain ⟨h1,h2⟩:=He ls i
  rw [yn]
  unfold shS
  cases i with
  | zero=>exact ⟨by rw [show (Nat.beq 0 0)=true from rfl,Bool.true_or,ag];omega,fun j hj=>by rw [show (Nat.beq 0 0)=true from rfl,Bool.true_or,ag,show j=0 by omega];exact kL _⟩
  | succ i =>
   rw [show Nat.beq (i+1) 0=false from rfl,ue]
   by_cases h:((ls.getD (i+1) []).length:Int)<shT ls (i+1)
   ·rw [aW h,ag]
    refine ⟨oa,fun j hj=>?_⟩
    by_cases e:j=i+1
    ·rw [e];exact kL _
    ·have:=h2 j oa;omega
   ·rw [ba h,am]
    refine ⟨h1,fun j hj=>?_⟩
    by_cases e:j=i+1
    ·rw [e];omega
    ·exact h2 j oa
def jV (n:Nat):List Nat:=List.replicate n 0
def At (ls:bh):yQ × Nat:=lq (lsO ls (hJ ls ls.length)) (o6 (lsO ls (hJ ls ls.length)) (jV ls.length)+1) (jV ls.length) (ms ((lsO ls (hJ ls ls.length)).getD (ls.length-1) [])) [] 0
def nD (ls:bh):yQ × Int:=bif nU ls&&!(shT ls ls.length == 0) then ((At ls).1,((At ls).2:Int)) else ([],0)
theorem yT:∀ {xs:yQ},asc xs=true->mj xs
 | [],_=>List.Pairwise.nil
 | [_],_=>wP _ _
 | x :: y :: t,h=>by
  unfold asc at h
  rw [bU,dN] at h
  have ih:=yT h.2
  refine jU.2 ⟨fun z hz=>?_,ih⟩
  rcases cZ.1 hz with rfl | hz
  ·exact h.1
  ·have:=(jU.1 ih).1 z hz;omega
theorem uw (ls:bh):(lsO ls (hJ ls ls.length)).length=ls.length:=by unfold lsO;rw [cD,(uX ls ls.length).len]
theorem nk {ls:bh} {l:yQ}:l∈lsO ls (hJ ls ls.length)↔l∈ls:=by
 have h:=uX ls ls.length
 unfold lsO
 rw [fK]
 constructor
 ·rintro ⟨j,hj,rfl⟩
  have:=h.bd j hj
  exact mi oa
 ·intro hl
  obtain ⟨i,hi,rfl⟩:=gR hl
  refine ⟨(i:Int),vX h.nd h.len h.bd (i:Int) oa oa,?_⟩
  rw [show ((i:Nat):Int).toNat=i from rfl,iT hi]
theorem Gi {ls:bh} {O:yQ} {i:Nat} (h:i<O.length):(lsO ls O).getD i []=ls.getD O[i].toNat []:=by unfold lsO;simp [h]
theorem yw (n k:Nat):(jV n).getD k 0=0:=by
 unfold jV
 by_cases h:k<n <;> simp [h]
theorem vj {ls:bh} (h:(nU ls&&!(shT ls ls.length == 0))=true) :
  LInv (lsO ls (hJ ls ls.length)) (jV ls.length) (ms ((lsO ls (hJ ls ls.length)).getD (ls.length-1) [])) [] 0/\∀ l∈ls,0<l.length:=by
 rw [bU,xc,qU] at h
 obtain ⟨h1,h2⟩:=h
 unfold nU at h1
 rw [bU,dL,dN] at h1
 obtain ⟨h3,h4⟩:=He ls ls.length
 have hne:∀ l∈ls,0<l.length:=fun l hl=>by
  obtain ⟨i,hi,rfl⟩:=gR hl
  have:=h4 i hi
  rw [iT hi] at this;omega
 have ho:=uX ls ls.length
 have hlen:=uw ls
 have hkey:∀ k,oy (lsO ls (hJ ls ls.length)) (jV ls.length) k=ms ((lsO ls (hJ ls ls.length)).getD k []):=fun k=>by unfold oy ms;rw [yw]
 refine ⟨⟨oa,by rw [hlen];simp [jV],fun l hl=>yT (h1.1 l (nk.1 hl)),fun k hk=>?_,fun i j hij hj=>?_,?_,List.Pairwise.nil,by simp,by simp,fun x hx=>.inr fun k hk=>?_⟩,hne⟩
 ·rw [yw];exact hne _ (nk.1 (mi hk))
 ·rw [e9,e9,pI hj,pI oa,hkey,hkey]
  by_cases e:i=j
  ·rw [e];exact kL _
  ·have hs:=sQ.1 ho.so i j (by rw [cD,ho.len];omega) (by rw [cD,ho.len];omega) oa
   rw [ky,ky] at hs
   rw [Gi (by rw [ho.len];omega),Gi (by rw [ho.len];omega)]
   exact hs
 ·rw [e9,pI oa,hkey,hlen]
 ·rw [hkey]
  have hl:=nk.1 (mi hk)
  obtain ⟨j,hj,e⟩:=GP (hx _ (mi hk))
  have hp:=hne _ hl
  unfold ms
  rw [bP hp,<- e]
  rcases tf j with h0 | h0
  ·subst h0;exact kL _
  ·exact sL (uL (yT (h1.1 _ hl)) h0 hj)
theorem wQ:∀ (Ls:bh) (B n:Nat),(∀ l∈Ls,l.length<=B)->o6 Ls (jV n)<=Ls.length*B
 | [],B,n,_=>by simp [o6]
 | l :: Ls,B,0,_=>by simp [o6,jV]
 | l :: Ls,B,n+1,h=>by
  have ih:=wQ Ls B n fun x hx=>h x (fJ _ hx)
  have hl:=h l dM
  unfold o6 jV at ih ⊢
  rw [Ab,List.zipWith_cons_cons,rq,bW,rp]
  omega
theorem zq {ls:bh} {B:Nat} (h:∀ l∈ls,l.length<=B):mj (nD ls).1/\(∀ x∈(nD ls).1,∀ l∈ls,x∈l)/\0<=(nD ls).2/\(nD ls).2<=(ls.length*B+1:Nat)/\(nU ls=true->∀ x,(∀ l∈ls,x∈l)->x∈(nD ls).1):=by
 unfold nD
 cases hc:nU ls&&!(shT ls ls.length == 0) with
 | false =>
  refine ⟨List.Pairwise.nil,by simp,kL _,by rw [am];omega,fun ha x hx=>?_⟩
  rw [ha,cW,Bool.not_eq_false',qR] at hc
  exfalso
  -- some list is empty
  have hex:∀ i,i<=ls.length->0<i->shT ls i=0->∃ j,j<i/\(ls.getD j []).length=0:=by
   intro i
   induction i with
   | zero=>intro _ h;omega
   | succ i ih =>
    intro hi _ hz
    rw [yn] at hz
    unfold shS at hz
    cases i with
    | zero =>
     rw [show (Nat.beq 0 0)=true from rfl,Bool.true_or,ag] at hz
     exact ⟨0,oa,oa⟩
    | succ i =>
     rw [show Nat.beq (i+1) 0=false from rfl,ue] at hz
     by_cases hlt:((ls.getD (i+1) []).length:Int)<shT ls (i+1)
     ·rw [aW hlt,ag] at hz
      exact ⟨i+1,oa,oa⟩
     ·rw [ba hlt,am] at hz
      obtain ⟨j,hj,e⟩:=ih oa oa hz
      exact ⟨j,oa,e⟩
  unfold nU at ha
  rw [bU,dN] at ha
  obtain ⟨j,hj,e⟩:=hex ls.length (bN _) ha.2 hc
  have hm:=hx _ (mi hj)
  rw [ma.1 e] at hm
  simp at hm
 | true =>
  rw [ag]
  obtain ⟨I,_⟩:=vj hc
  obtain ⟨g1,g2,g3⟩:=xY (o6 (lsO ls (hJ ls ls.length)) (jV ls.length)+1) _ _ _ _ I oa
  have hr:=wQ (lsO ls (hJ ls ls.length)) B ls.length fun l hl=>h l (nk.1 hl)
  rw [uw] at hr
  refine ⟨g1,fun x hx l hl=>(g2 x).1 hx l (nk.2 hl),zx _,?_,fun _ x hx=>(g2 x).2 fun l hl=>hx l (nk.1 hl)⟩
  have g4:(At ls).2<=ls.length*B+1:=by
   have:(At ls).2<=0+(o6 (lsO ls (hJ ls ls.length)) (jV ls.length)+1):=g3
   omega
  exact sx.2 g4
def Ld (ns:List mR):Nat->Int->Int
 | 0,_=>0
 | f+1,nd=>if nd=0 then 0 else Ld ns f ((ns.getD nd.toNat ([],[])).2.getD 0 0)+1
def dep (ns:List mR) (nd:Int):Int:=Ld ns ns.length nd
structure NodeOk (ns:List mR) (i:Nat):Prop where
 lens:(ns.getD i ([],[])).1.length=(ns.getD i ([],[])).2.length
 vals:cV (ns.getD i ([],[])).1=true
 asc:mj (ns.getD i ([],[])).1
 ne:(ns.getD i ([],[])).1≠[]
 chs:∀ c∈(ns.getD i ([],[])).2,dep ns c=dep ns ((ns.getD i ([],[])).2.getD 0 0)
 new:∀ j,1<=j->j<i->ns.getD j ([],[])≠ns.getD i ([],[])
abbrev n9:=Int × List bj × yQ
def QGd (q:n9):Prop:=(1<=q.1/\q.1<=5)/\(1<=q.2.1.length/\q.2.1.length<=4)/\(∀ a∈q.2.1,a.1.size<=4/\1<=a.2.length/\a.2.length<=5)/\q.2.2.length<=5
def QSm (q:n9):Prop:=(0<=q.1/\q.1<=6)/\q.2.1.length<=5/\(∀ a∈q.2.1,a.1.size<=4/\a.2.length<=5)/\q.2.2.length<=6
theorem QGd.sm {q:n9} (h:QGd q):QSm q:=⟨⟨by have:=h.1;omega,by have:=h.1;omega⟩,by have:=h.2.1;omega,fun a ha=>⟨(h.2.2.1 a ha).1,(h.2.2.1 a ha).2.2⟩,by have:=h.2.2.2;omega⟩
theorem QSm.atoms {q:n9} (h:QSm q):dz q.2.1:=⟨by have:=h.2.1;omega,fun a ha=>⟨by have:=(h.2.2.1 a ha).1;omega,by have:=(h.2.2.1 a ha).2;omega,fun _ _=>trivial⟩⟩
theorem QSm.out {q:n9} (h:QSm q):okI q.2.2:=⟨by have:=h.2.2.2;omega,fun _ _=>trivial⟩
abbrev Iq:List bj:=[((⟨#[114]⟩:ByteArray),[0,1]),((⟨#[115]⟩:ByteArray),[1,2]),((⟨#[116]⟩:ByteArray),[2,3]),((⟨#[117]⟩:ByteArray),[3,4])]
def Ix (n:Int) (ats:List bj):Prop:=ats.length<=4/\(∀ a∈ats,1<=a.2.length/\∀ v∈a.2,0<=v/\v<n)/\∀ v:Int,0<=v->v<n->∃ a∈ats,v∈a.2
def QV (q:n9):Prop:=(∀ a∈q.2.1,∀ v∈a.2,v<q.1)/\(q.1<=4\/q.1=5/\q.2.1=Iq)
def QB (q:n9):Prop:=Ix q.1 q.2.1->q.1<=5->q.1<=4\/q.1=5/\q.2.1=Iq
theorem QV.b {q:n9} (h:QV q):QB q:=fun _ _=>h.2
theorem Dc {n:Int} {yL:List bj} {out:yQ} (h:et n yL out=true):∀ a∈yL,∀ v∈a.2,v<n:=by
 unfold et at h
 simp only [bU,dL] at h
 intro a ha v hv
 have:=h.1.2 a ha
 unfold my at this
 rw [bU,bU,cg,dL] at this
 have:=cg.1 (this.2 v hv)
 omega
section
variable {N:Nat}
abbrev GT:List ByteArray:=[(⟨#[40,88,89,90,41,61,114,40,88,89,41,44,115,40,89,90,41,44,116,40,90,88,41]⟩:ByteArray),(⟨#[40,88,89,90,85,41,61,114,40,88,89,41,44,115,40,89,90,41,44,116,40,90,85,41,44,117,40,85,88,41]⟩:ByteArray),(⟨#[40,88,89,90,41,61,114,40,88,89,41,44,115,40,89,90,41]⟩:ByteArray),(⟨#[40,88,41,61,114,40,88,89,41,44,115,40,89,90,41,44,116,40,90,85,41]⟩:ByteArray),(⟨#[40,88,89,90,41,61,118,40,88,89,90,41,44,114,40,88,89,41]⟩:ByteArray),(⟨#[40,88,89,41,61,114,40,88,89,41,44,114,40,89,88,41]⟩:ByteArray),(⟨#[40,88,89,90,85,41,61,118,40,88,89,90,41,44,115,40,90,85,41,44,116,40,85,88,41]⟩:ByteArray),(⟨#[40,88,41,61,114,40,88,88,41]⟩:ByteArray),(⟨#[40,88,89,41,61,114,40,88,90,41,44,115,40,90,89,41,44,114,40,88,85,41,44,115,40,85,89,41]⟩:ByteArray),(⟨#[40,41,61,114,40,88,89,41,44,115,40,89,88,41]⟩:ByteArray),(⟨#[40,88,89,90,85,86,41,61,114,40,88,89,41,44,115,40,89,90,41,44,116,40,90,85,41,44,117,40,85,86,41]⟩:ByteArray)]
theorem I5 (M:Nat):dn (M+100) (⟨#[40,88,89,90,41,61,114,40,88,89,41,44,115,40,89,90,41,44,116,40,90,88,41]⟩:ByteArray)=some ((3,[((⟨#[114]⟩:ByteArray),[0,1]),((⟨#[115]⟩:ByteArray),[1,2]),((⟨#[116]⟩:ByteArray),[2,0])],[0,1,2]),true):=by kernel_rfl
theorem Jh (M:Nat):dn (M+100) (⟨#[40,88,89,90,85,41,61,114,40,88,89,41,44,115,40,89,90,41,44,116,40,90,85,41,44,117,40,85,88,41]⟩:ByteArray)=some ((4,[((⟨#[114]⟩:ByteArray),[0,1]),((⟨#[115]⟩:ByteArray),[1,2]),((⟨#[116]⟩:ByteArray),[2,3]),((⟨#[117]⟩:ByteArray),[3,0])],[0,1,2,3]),true):=by kernel_rfl
theorem JU (M:Nat):dn (M+100) (⟨#[40,88,89,90,41,61,114,40,88,89,41,44,115,40,89,90,41]⟩:ByteArray)=some ((3,[((⟨#[114]⟩:ByteArray),[0,1]),((⟨#[115]⟩:ByteArray),[1,2])],[0,1,2]),true):=by kernel_rfl
theorem Je (M:Nat):dn (M+100) (⟨#[40,88,41,61,114,40,88,89,41,44,115,40,89,90,41,44,116,40,90,85,41]⟩:ByteArray)=some ((4,[((⟨#[114]⟩:ByteArray),[0,1]),((⟨#[115]⟩:ByteArray),[1,2]),((⟨#[116]⟩:ByteArray),[2,3])],[0]),true):=by kernel_rfl
theorem IS (M:Nat):dn (M+100) (⟨#[40,88,89,90,41,61,118,40,88,89,90,41,44,114,40,88,89,41]⟩:ByteArray)=some ((3,[((⟨#[118]⟩:ByteArray),[0,1,2]),((⟨#[114]⟩:ByteArray),[0,1])],[0,1,2]),true):=by kernel_rfl
theorem Jv (M:Nat):dn (M+100) (⟨#[40,88,89,41,61,114,40,88,89,41,44,114,40,89,88,41]⟩:ByteArray)=some ((2,[((⟨#[114]⟩:ByteArray),[0,1]),((⟨#[114]⟩:ByteArray),[1,0])],[0,1]),true):=by kernel_rfl
theorem JX (M:Nat):dn (M+100) (⟨#[40,88,89,90,85,41,61,118,40,88,89,90,41,44,115,40,90,85,41,44,116,40,85,88,41]⟩:ByteArray)=some ((4,[((⟨#[118]⟩:ByteArray),[0,1,2]),((⟨#[115]⟩:ByteArray),[2,3]),((⟨#[116]⟩:ByteArray),[3,0])],[0,1,2,3]),true):=by kernel_rfl
theorem I8 (M:Nat):dn (M+100) (⟨#[40,88,41,61,114,40,88,88,41]⟩:ByteArray)=some ((1,[((⟨#[114]⟩:ByteArray),[0,0])],[0]),true):=by kernel_rfl
theorem JN (M:Nat):dn (M+100) (⟨#[40,88,89,41,61,114,40,88,90,41,44,115,40,90,89,41,44,114,40,88,85,41,44,115,40,85,89,41]⟩:ByteArray)=some ((4,[((⟨#[114]⟩:ByteArray),[0,2]),((⟨#[115]⟩:ByteArray),[2,1]),((⟨#[114]⟩:ByteArray),[0,3]),((⟨#[115]⟩:ByteArray),[3,1])],[0,1]),true):=by kernel_rfl
theorem JP (M:Nat):dn (M+100) (⟨#[40,41,61,114,40,88,89,41,44,115,40,89,88,41]⟩:ByteArray)=some ((2,[((⟨#[114]⟩:ByteArray),[0,1]),((⟨#[115]⟩:ByteArray),[1,0])],[]),true):=by kernel_rfl
theorem HL (M:Nat):dn (M+100) (⟨#[40,88,89,90,85,86,41,61,114,40,88,89,41,44,115,40,89,90,41,44,116,40,90,85,41,44,117,40,85,86,41]⟩:ByteArray)=some ((5,[((⟨#[114]⟩:ByteArray),[0,1]),((⟨#[115]⟩:ByteArray),[1,2]),((⟨#[116]⟩:ByteArray),[2,3]),((⟨#[117]⟩:ByteArray),[3,4])],[0,1,2,3,4]),true):=by kernel_rfl
theorem DQ (hN:1073741824<=N):∀ s∈GT,∃ q,dn N s=some (q,true)/\QGd q/\QV q:=by
 obtain ⟨M,rfl⟩:∃ M,N=M+100:=⟨N-100,oa⟩
 intro s hs
 simp only [cZ,oK,ra] at hs
 rcases hs with rfl | rfl | rfl | rfl | rfl | rfl | rfl | rfl | rfl | rfl | rfl
 ·exact ⟨_,I5 M,by unfold QGd;decide,⟨by decide,Or.inl (by decide)⟩⟩
 ·exact ⟨_,Jh M,by unfold QGd;decide,⟨by decide,Or.inl (by decide)⟩⟩
 ·exact ⟨_,JU M,by unfold QGd;decide,⟨by decide,Or.inl (by decide)⟩⟩
 ·exact ⟨_,Je M,by unfold QGd;decide,⟨by decide,Or.inl (by decide)⟩⟩
 ·exact ⟨_,IS M,by unfold QGd;decide,⟨by decide,Or.inl (by decide)⟩⟩
 ·exact ⟨_,Jv M,by unfold QGd;decide,⟨by decide,Or.inl (by decide)⟩⟩
 ·exact ⟨_,JX M,by unfold QGd;decide,⟨by decide,Or.inl (by decide)⟩⟩
 ·exact ⟨_,I8 M,by unfold QGd;decide,⟨by decide,Or.inl (by decide)⟩⟩
 ·exact ⟨_,JN M,by unfold QGd;decide,⟨by decide,Or.inl (by decide)⟩⟩
 ·exact ⟨_,JP M,by unfold QGd;decide,⟨by decide,Or.inl (by decide)⟩⟩
 ·exact ⟨_,HL M,by unfold QGd;decide,⟨by decide,Or.inr ⟨rfl,rfl⟩⟩⟩
theorem tO {a:yQ} {l:List ByteArray} (ha:hZ a) {p h:Int} (hc:dp a p) (hl:0<l.length):∃ x q g,mo N a p h l=some (x,q,g)/\x∈l/\dp a q:=by
 obtain ⟨x,q,g,e,b0,b1,_,hc'⟩:=dq (N:=N) ha (h:=h) (n:=(l.length:Int)) hc
 have b2:=b1 oa
 unfold mo
 rw [e,bs]
 dsimp only
 rw [nG b0 b2,bs]
 exact ⟨_,_,_,rfl,bF _,hc'⟩
theorem qL {a:yQ} (ha:hZ a) {p h n:Int} (hc:dp a p):∃ b q g,kS N a p h n=some (b,q,g)/\dp a q:=by
 obtain ⟨x,q,g,e,_,_,_,hc'⟩:=dq (N:=N) ha (h:=h) (n:=n) hc
 unfold kS
 rw [e,bs]
 exact ⟨_,_,_,rfl,hc'⟩
theorem Fe {a:yQ} (ha:hZ a) {z1 z7 z9 n:Int} {z2 z5 z8:List bj} {z3 z6 z10:yQ} {s:ByteArray}:∀ (d k:Nat) (acc:yQ) (p h m:Int),dp a p->m.toNat=d->m<=10->d<k->acc.length+d<=100 ->
  ∃ q g vs m',kd N k a p h z1 z2 z3 z7 z5 z6 n z8 z10 z9 s acc m=some (q,g,vs,m')/\dp a q/\vs.length=acc.length+d:=by
 intro d
 induction d with
 | zero =>
  intro k acc p h m hc hd _ hk _
  obtain ⟨k,rfl⟩:∃ g,k=g+1:=⟨k-1,oa⟩
  rw [kd,ba (show ¬ 0<m by omega),am]
  exact ⟨_,_,_,_,rfl,hc,oa⟩
 | succ d ih =>
  intro k acc p h m hc hd hm hk hl
  obtain ⟨k,rfl⟩:∃ g,k=g+1:=⟨k-1,oa⟩
  obtain ⟨x,q,g,e,_,_,_,hc'⟩:=dq (N:=N) ha (h:=h) (n:=n) hc
  rw [kd,aW (show 0<m by omega),ag,e,bs]
  dsimp only
  rw [bA (by decide) (by simp;omega),bs,eu oa oa,bs]
  obtain ⟨q',g',vs,m',e',k1,k2⟩:=ih k (acc++[x]) q g (m-1) hc' oa oa oa (by simp;omega)
  exact ⟨q',g',vs,m',e',k1,by simp at k2;omega⟩
theorem FE (hN:1073741824<=N) {a:yQ} (ha:hZ a) {z1 z4 n:Int} {z2 z5:List bj} {z3 z6 z7:yQ}:∀ (d k:Nat) (acc:List bj) (p h m:Int),dp a p->m.toNat=d->m<=10->d<k->acc.length+d<=100->(∀ x∈acc,x.1.size<=4/\1<=x.2.length/\x.2.length<=5) ->
  ∃ q g ats m',kf N k a p h z1 z2 z3 z4 z5 z6 n acc z7 m=some (q,g,ats,m')/\dp a q/\ats.length=acc.length+d/\∀ x∈ats,x.1.size<=4/\1<=x.2.length/\x.2.length<=5:=by
 intro d
 induction d with
 | zero =>
  intro k acc p h m hc hd _ hk _ hx
  obtain ⟨k,rfl⟩:∃ g,k=g+1:=⟨k-1,oa⟩
  rw [kf,ba (show ¬ 0<m by omega),am]
  exact ⟨_,_,_,_,rfl,hc,oa,hx⟩
 | succ d ih =>
  intro k acc p h m hc hd hm hk hl hx
  obtain ⟨k,rfl⟩:∃ g,k=g+1:=⟨k-1,oa⟩
  obtain ⟨x,q,g,e,b0,b1,_,hc'⟩:=dq (N:=N) ha (h:=h) (n:=5) hc
  have b1:=b1 (by decide)
  rw [kf,aW (show 0<m by omega),ag,e,bs]
  dsimp only
  have hi:x<(([(⟨#[114]⟩:ByteArray),(⟨#[115]⟩:ByteArray),(⟨#[116]⟩:ByteArray),(⟨#[117]⟩:ByteArray),(⟨#[118]⟩:ByteArray)]:List ByteArray).length:Int):=b1
  rw [nG b0 hi,bs,E9 b0 (by decide) oa,bs]
  have ht:0<=x.tdiv 4/\x.tdiv 4<=1:=by
   rw [Int.tdiv_eq_ediv_of_nonneg b0];omega
  rw [ce oa oa,bs]
  have hs:∀ s∈([(⟨#[114]⟩:ByteArray),(⟨#[115]⟩:ByteArray),(⟨#[116]⟩:ByteArray),(⟨#[117]⟩:ByteArray),(⟨#[118]⟩:ByteArray)]:List ByteArray),s.size<=4:=by decide
  have hs':=hs _ (bF (l:=([(⟨#[114]⟩:ByteArray),(⟨#[115]⟩:ByteArray),(⟨#[116]⟩:ByteArray),(⟨#[117]⟩:ByteArray),(⟨#[118]⟩:ByteArray)]:List ByteArray)) (n:=x.toNat) oa)
  obtain ⟨q',g',vs,m',e',k1,k2⟩:=Fe (N:=N) ha (z1:=z1) (z2:=z2) (z3:=z3) (z7:=z4) (z5:=z5) (z6:=z6) (n:=n) (z8:=acc) (z10:=z7) (z9:=m) (s:=([(⟨#[114]⟩:ByteArray),(⟨#[115]⟩:ByteArray),(⟨#[116]⟩:ByteArray),(⟨#[117]⟩:ByteArray),(⟨#[118]⟩:ByteArray)]:List ByteArray)[x.toNat]) (2+x.tdiv 4).toNat N [] q g (2+x.tdiv 4) hc' rfl oa oa (by simp;omega)
  rw [e',bs]
  unfold lpB
  dsimp only
  rw [bA (by decide) (by simp;omega),bs,eu oa oa,bs]
  simp only [fH,e9] at k2
  obtain ⟨q2,g2,ats,m2,e2,j1,j2,j3⟩:=ih k (acc++[(_,vs)]) q' g' (m-1) k1 oa oa oa (by simp;omega) (fun y hy=>by
   rcases dj.1 hy with h | h
   ·exact hx y h
   ·rw [fD] at h;rw [h]
    exact ⟨hs',by show 1<=vs.length;omega,by show vs.length<=5;omega⟩)
  exact ⟨q2,g2,ats,m2,e2,j1,by simp at j2;omega,j3⟩
theorem Fw {a:yQ} (ha:hZ a) {z1 z4:Int} {n:Nat} {z2 z5 z8:List bj} {z3 z6:yQ} (hn:n<=10):∀ (d k:Nat) (acc:yQ) (p h:Int) (i:Nat),dp a p->i+d=n->d<k->acc.length<=i ->
  ∃ q g out v,ip N k a p h z1 z2 z3 z4 z5 z6 (n:Int) z8 acc (i:Int)=some (q,g,out,v)/\dp a q/\out.length<=n:=by
 intro d
 induction d with
 | zero =>
  intro k acc p h i hc hd hk hl
  obtain ⟨k,rfl⟩:∃ g,k=g+1:=⟨k-1,oa⟩
  rw [ip,ba (show ¬ (i:Int)<(n:Int) by omega),am]
  exact ⟨_,_,_,_,rfl,hc,oa⟩
 | succ d ih =>
  intro k acc p h i hc hd hk hl
  obtain ⟨k,rfl⟩:∃ g,k=g+1:=⟨k-1,oa⟩
  obtain ⟨b,q,g,e,hc'⟩:=qL (N:=N) ha (h:=h) (n:=2) hc
  rw [ip,aW (show (i:Int)<(n:Int) by omega),ag,e,bs]
  dsimp only
  cases b with
  | true =>
   rw [ag,bA (by decide) (by simp;omega),bs,ad1 oa,bs]
   exact ih k _ q g (i+1) hc' oa oa (by simp;omega)
  | false =>
   rw [am,ad1 oa,bs]
   exact ih k _ q g (i+1) hc' oa oa oa
theorem wd (hN:1073741824<=N) {a:yQ} (ha:hZ a) {p h:Int} (hc:dp a p):∃ r q g,mK N a p h=some (r,q,g)/\dp a q/\QGd r/\QV r:=by
 unfold mK
 obtain ⟨s,q,g,e,hs,hc1⟩:=tO (N:=N) ha (h:=h) (l:=GT) hc (by decide)
 obtain ⟨r,er,hr⟩:=DQ hN s hs
 rw [e,bs]
 dsimp only
 rw [er,bs]
 obtain ⟨b,q2,g2,e2,hc2⟩:=qL (N:=N) ha (h:=g) (n:=3) hc1
 rw [e2,bs]
 dsimp only
 cases b with
 | false=>rw [am];exact ⟨_,_,_,rfl,hc2,hr⟩
 | true =>
  obtain ⟨x,q3,g3,e3,b0,b1,_,hc3⟩:=dq (N:=N) ha (h:=g2) (n:=4) hc2
  have b1:=b1 (by decide)
  rw [ag,e3,bs]
  dsimp only
  obtain ⟨y,q4,g4,e4,c0,c1,_,hc4⟩:=dq (N:=N) ha (h:=g3) (n:=4) hc3
  have c1:=c1 (by decide)
  rw [ce oa oa,bs,e4,bs]
  dsimp only
  rw [ce oa oa,bs]
  obtain ⟨q5,g5,ats,m5,e5,hc5,l5,a5⟩:=FE hN ha (z1:=0) (z2:=[]) (z3:=[]) (z4:=r.1) (z5:=r.2.1) (z6:=r.2.2) (n:=1+x) (z7:=[]) (1+y).toNat N [] q4 g4 (1+y) hc4 rfl oa oa (by simp;omega) (by simp)
  rw [e5,bs]
  unfold lpB
  dsimp only
  have hx:((x.toNat+1:Nat):Int)=1+x:=by omega
  obtain ⟨q6,g6,out,v6,e6,hc6,l6⟩:=Fw (N:=N) ha (z1:=0) (z2:=[]) (z3:=[]) (z4:=r.1) (z5:=r.2.1) (z6:=r.2.2) (n:=x.toNat+1) (z8:=ats) oa (x.toNat+1) N [] q5 g5 0 hc5 oa oa (by simp)
  rw [hx] at e6
  have e6':ip N N a q5 g5 0 [] [] r.1 r.2.1 r.2.2 (1+x) ats [] 0=some (q6,g6,out,v6):=e6
  simp only [fH,e9] at l5
  have hq:QGd (1+x,ats,out):=⟨⟨by show 1<=1+x;omega,by show 1+x<=5;omega⟩,⟨by show 1<=ats.length;omega,by show ats.length<=4;omega⟩,a5,by show out.length<=5;omega⟩
  rw [e6',bs]
  dsimp only
  rw [fU hN (QSm.atoms hq.sm) (QSm.out hq.sm),bs]
  cases hqo:et (1+x) ats out with
  | true=>rw [ag];exact ⟨_,_,_,rfl,hc6,hq,Dc hqo,Or.inl (by show 1+x<=4;omega)⟩
  | false=>rw [am];exact ⟨_,_,_,rfl,hc6,hr⟩
theorem DY (hN:1073741824<=N) {a:yQ} (ha:hZ a) {p h:Int} (hc:dp a p):∃ r q g,pJ N a p h=some (r,q,g)/\dp a q/\QSm r/\QB r:=by
 obtain ⟨⟨n,ats,out⟩,q,g,e,hc1,hr,hv⟩:=wd hN ha (h:=h) hc
 obtain ⟨hv1,hv2⟩:=hv
 dsimp only at hv1 hv2
 obtain ⟨x,q2,g2,e2,_,_,_,hc2⟩:=dq (N:=N) ha (h:=g) (n:=14) hc1
 unfold pJ
 rw [e,bs]
 dsimp only
 rw [e2,bs]
 dsimp only
 have hn:=hr.1;have ha1:=hr.2.1;have ha2:=hr.2.2.1;have ho:=hr.2.2.2
 dsimp only at hn ha1 ha2 ho
 have hsm:=hr.sm
 cases h0:(x == 0) with
 | true =>
  rw [ag,ce oa oa,bs]
  obtain ⟨y,q3,g3,e3,hy,hc3⟩:=kZ (N:=N) ha (h:=g2) (l:=[0,6,n+1]) hc2 (Nat.zero_lt_succ _)
  rw [e3,bs]
  simp only [cZ,oK,ra] at hy
  refine ⟨_,_,_,rfl,hc3,⟨?_,hsm.2⟩,fun hg hy5=>?_⟩
  ·show 0<=y/\y<=6
   omega
  ·dsimp only at hg hy5 ⊢
   by_cases h4:y<=4
   ·exact Or.inl h4
   ·obtain ⟨b,hb1,hb2⟩:=hg.2.2 (y-1) oa oa
    have:=hv1 b hb1 _ hb2
    omega
 | false =>
 rw [am]
 cases h1:(x == 1) with
 | true =>
  rw [ag]
  obtain ⟨y,q3,g3,e3,hy,hc3⟩:=tO (N:=N) ha (h:=g2) (l:=[ByteArray.empty,(⟨#[119]⟩:ByteArray),(⟨#[114]⟩:ByteArray)]) hc2 (by decide)
  have hys:∀ s∈[ByteArray.empty,(⟨#[119]⟩:ByteArray),(⟨#[114]⟩:ByteArray)],s.size<=4:=by decide
  rw [e3,bs,bA (by decide) (by simp;omega),bs]
  refine ⟨_,_,_,rfl,hc3,⟨hsm.1,by show (ats++[_]).length<=5;simp;omega,fun b hb=>?_,hsm.2.2.2⟩,fun hg hy5=>by
   dsimp only at hg hy5 ⊢
   rcases hv2 with h4 | ⟨h5,h6⟩
   ·exact Or.inl h4
   ·have:=hg.1
    rw [h6] at this
    simp at this⟩
  rcases dj.1 hb with h | h
  ·exact hsm.2.2.1 b h
  ·rw [fD] at h;rw [h];exact ⟨hys y hy,by show ([0]:yQ).length<=5;decide⟩
 | false =>
 rw [am]
 cases h2:(x == 2) with
 | true =>
  rw [ag]
  obtain ⟨y,q3,g3,e3,b0,b1,_,hc3⟩:=dq (N:=N) ha (h:=g2) (n:=6) hc2
  have b1:=b1 (by decide)
  rw [e3,bs]
  dsimp only
  rw [eu oa oa,bs,bA (by decide) (by simp;omega),bs]
  exact ⟨_,_,_,rfl,hc3,⟨hsm.1,hsm.2.1,hsm.2.2.1,by show (out++[_]).length<=6;simp;omega⟩,fun _ _=>hv2⟩
 | false =>
 rw [am]
 have hl:0<ats.length:=by omega
 have i0:ix ats 0=some ats[0]:=be hl
 have hm0:=ha2 _ (bF hl)
 cases h3:(x == 3) with
 | true =>
  have s0:sto ats 0 (ats[0].1,[])=some (ats.set 0 (ats[0].1,[])):=lS hl
  rw [ag,i0,bs,s0,bs]
  refine ⟨_,_,_,rfl,hc2,⟨hsm.1,by show (ats.set 0 _).length<=5;rw [gP];omega,fun b hb=>?_,hsm.2.2.2⟩,fun hg _=>by
   have:=(hg.2.1 _ (List.mem_set hl (ats[0].1,([]:yQ)))).1
   exact absurd (show 1<=([]:yQ).length from this) (by decide)⟩
  rcases s6 hb with h | h
  ·exact hsm.2.2.1 b h
  ·rw [h];exact ⟨hm0.1,cE _⟩
 | false =>
 rw [am]
 cases h4:(x == 4) with
 | true =>
  obtain ⟨y,q3,g3,e3,hy,hc3⟩:=kZ (N:=N) ha (h:=g2) (l:=[(-1),5]) hc2 (by decide)
  have hl1:0<ats[0].2.length:=by omega
  have i1:ix ats[0].2 0=some ats[0].2[0]:=be hl1
  have s1:sto ats[0].2 0 y=some (ats[0].2.set 0 y):=lS hl1
  have s0:sto ats 0 (ats[0].1,ats[0].2.set 0 y)=some (ats.set 0 (ats[0].1,ats[0].2.set 0 y)):=lS hl
  rw [ag,i0,bs,e3,bs,i1,bs,s1,bs,s0,bs]
  refine ⟨_,_,_,rfl,hc3,⟨hsm.1,by show (ats.set 0 _).length<=5;rw [gP];omega,fun b hb=>?_,hsm.2.2.2⟩,fun hg hy5=>by
   dsimp only at hg hy5 ⊢
   have:=(hg.2.1 _ (List.mem_set hl (ats[0].1,ats[0].2.set 0 y))).2 y (List.mem_set hl1 y)
   simp only [cZ,oK,ra] at hy
   omega⟩
  rcases s6 hb with h | h
  ·exact hsm.2.2.1 b h
  ·rw [h];exact ⟨hm0.1,by show (ats[0].2.set 0 y).length<=5;rw [gP];exact hm0.2.2⟩
 | false =>
 rw [am]
 exact ⟨_,_,_,rfl,hc2,hsm,fun _ _=>hv2⟩
end
end Go.Proofs.YteemghjjopdljaaGreat
