/- What functions of the program come to, written out by a program: none where a bound is passed. -/
import Derived.Test.YtijmbnbnojicjaaGreatDoorV0
namespace Go.Proofs.YtijmbnbnojicjaaGreatDoor
open Go.RowKit
def iK (N:Nat):Nat->yP->Int->yP->Int->Int->Option (Sum Bool Int)
 | 0,_,_,_,_,_=>none
 | k+1,U,OJ,OK,OL,J=>(bif decide (J<OL) then (ix OK J).bind fun OM=>(sb OJ 1).bind fun ON=>(dv N OM 0 ON).bind fun OO=>(bif OO then (slc U 0 J).bind fun OP=>(nL N OP OM).bind fun OQ=>(bif OQ then some (.inl false) else (ad J 1).bind fun OR=>iK N k U OJ OK OL OR) else some (.inl false)) else some (.inr J))
def ov (N:Nat) (a0:yP) (a1:Int):Option Bool:=(iK N N a0 a1 a0 (a0.length:Int) 0).bind fun J=>lpS J (fun q=>some q) fun U=>some true
def jB (N:Nat):Nat->ByteArray->Int->Option (Sum Bool Int)
 | 0,_,_=>none
 | k+1,U,J=>(bif decide (J<(U.size:Int)) then (bx U J).bind fun OJ=>(bif decide (OJ<97) then some (.inl false) else (bx U J).bind fun OK=>(bif decide (122<OK) then some (.inl false) else (ad J 1).bind fun OL=>jB N k U OL)) else some (.inr J))
def oQ (N:Nat) (a0:ByteArray) (a1:Int):Option Bool:=(bif decide ((a0.size:Int)<1) then some false else (bif decide (a1<(a0.size:Int)) then some false else (jB N N a0 0).bind fun J=>lpS J (fun q=>some q) fun U=>some true))
def jR (N:Nat) (a0:ByteArray):Option Bool:=(oQ N a0 4).bind fun J=>some J
def eD (N:Nat):Nat->Int->(List Bool)->(List (ByteArray×yP))->Int->Int->yP->Int->Int->Option (Sum Bool ((List Bool)×Int))
 | 0,_,_,_,_,_,_,_,_=>none
 | k+1,OK,U,ON,OO,OP,OL,OM,J=>(bif decide (J<OM) then (ix OL J).bind fun OJ=>(sb OK 1).bind fun OQ=>(dv N OJ 0 OQ).bind fun OR=>(bif OR then (ix U OJ).bind fun OU=>(sto U OJ true).bind fun OS=>(ad J 1).bind fun OT=>eD N k OK OS ON OO OP OL OM OT else some (.inl false)) else some (.inr (U,J)))
def eh (N:Nat):Nat->Int->(List Bool)->(List (ByteArray×yP))->Int->Int->Option (Sum Bool ((List Bool)×Int))
 | 0,_,_,_,_,_=>none
 | k+1,OL,OM,OJ,OK,J=>(bif decide (J<OK) then (ix OJ J).bind fun U=>(jR N U.1).bind fun ON=>(bif ON then (dv N (U.2.length:Int) 1 5).bind fun OO=>(bif OO then (eD N N OL OM OJ OK J U.2 (U.2.length:Int) 0).bind fun OP=>lpS OP (fun q=>some (.inl q)) fun (OQ,OS)=>(ad J 1).bind fun OR=>eh N k OL OQ OJ OK OR else some (.inl false)) else some (.inl false)) else some (.inr (OM,J)))
def e7 (N:Nat):Nat->(List Bool)->Int->Int->Option (Sum Bool Int)
 | 0,_,_,_=>none
 | k+1,U,OJ,J=>(bif decide (J<OJ) then (ix U J).bind fun OK=>(bif OK then (ad J 1).bind fun OL=>e7 N k U OJ OL else some (.inl false)) else some (.inr J))
def hJ (N:Nat) (a0:Int) (a1:List (ByteArray×yP)) (a2:yP):Option Bool:=(dv N a0 1 5).bind fun U=>(bif U then (dv N (a1.length:Int) 1 4).bind fun OJ=>(bif OJ then (ov N a2 a0).bind fun OK=>(bif OK then (mk 1 (false:Bool) a0).bind fun OL=>(eh N N a0 OL a1 (a1.length:Int) 0).bind fun OM=>lpS OM (fun q=>some q) fun (J,OO)=>(e7 N N J (J.length:Int) 0).bind fun ON=>lpS ON (fun q=>some q) fun OP=>some true else some false) else some false) else some false)
def rp (N:Nat) (a0:Bool):Option Int:=(bif a0 then some 1 else some 0)
def ij (N:Nat) (a0:ByteArray) (a1:yP) (a2:Int):Option Bool:=(nL N a1 a2).bind fun J=>some J
def gz (N:Nat):Nat->Int->(List (ByteArray×yP))->yP->T6_->T3_->T3_->T6_->T3_->T3_->Int->T3_->yP->Int->Int->(List (ByteArray×yP))->Int->Int->Option (T3_×Int)
 | 0,_,_,_,_,_,_,_,_,_,_,_,_,_,_,_,_,_=>none
 | k+1,ON,OO,OP,OQ,OR,OS,OT,OU,OV,U,OJ,OW,OX,OY,OK,OL,J=>(bif decide (J<OL) then (ix OK J).bind fun OM=>(ij N OM.1 OM.2 U).bind fun OZ=>(rp N OZ).bind fun O0=>(apd 16 OJ [(O0,1)]).bind fun O1=>(ad J 1).bind fun O2=>gz N k ON OO OP OQ OR OS OT OU OV U O1 OW OX OY OK OL O2 else some (OJ,J))
def gA (N:Nat):Nat->Int->(List (ByteArray×yP))->yP->T6_->T3_->T3_->T6_->T3_->T3_->yP->Int->Int->Option (T6_×T3_×Int)
 | 0,_,_,_,_,_,_,_,_,_,_,_,_=>none
 | k+1,ON,U,OO,OP,OQ,OR,OJ,OK,OS,OL,OM,J=>(bif decide (J<OM) then (ix OL J).bind fun OT=>(gz N N ON U OO OP OQ OR OJ OK OS OT [] OL OM J U (U.length:Int) 0).bind fun OU=>lpB OU fun (OV,OZ)=>(apd 24 OJ [OV]).bind fun OW=>(apd 16 OK [(1,1)]).bind fun OX=>(ad J 1).bind fun OY=>gA N k ON U OO OP OQ OR OW OX OS OL OM OY else some (OJ,OK,J))
def gB (N:Nat):Nat->T6_->T3_->T3_->T6_->T3_->T3_->Int->Int->Option (T3_×Int)
 | 0,_,_,_,_,_,_,_,_=>none
 | k+1,OK,OL,OM,ON,OO,U,OJ,J=>(bif decide (J<OJ) then (apd 16 U [(1,1)]).bind fun OP=>(ad J 1).bind fun OQ=>gB N k OK OL OM ON OO OP OJ OQ else some (U,J))
def qG (N:Nat) (a0:Int) (a1:List (ByteArray×yP)) (a2 a3:yP):Option (T6_×T3_×T3_):=(gA N N a0 a1 a2 [] [] [] [] [] [] a3 (a3.length:Int) 0).bind fun OJ=>lpB OJ fun (J,U,OM)=>(gB N N [] [] [] J U [] (a1.length:Int) 0).bind fun OK=>lpB OK fun (OL,ON)=>some (J,U,OL)
def ef (N:Nat):Nat->Int->(List (ByteArray×yP))->yP->yP->Int->Option (yP×Int)
 | 0,_,_,_,_,_=>none
 | k+1,U,OK,OL,OJ,J=>(bif decide (J<U) then (apd 8 OJ [J]).bind fun OM=>(ad J 1).bind fun ON=>ef N k U OK OL OM ON else some (OJ,J))
def kQ (N:Nat) (a0:Int) (a1:List (ByteArray×yP)) (a2:yP):Option yP:=(hJ N a0 a1 a2).bind fun J=>(bif J then (ef N N a0 a1 a2 [] 0).bind fun U=>lpB U fun (OJ,OK)=>some OJ else some [])
def jA (N:Nat) (a0:Int) (a1:List (ByteArray×yP)) (a2:yP):Option ((T6_×T3_×T3_)×Bool):=(hJ N a0 a1 a2).bind fun U=>(bif U then (kQ N a0 a1 a2).bind fun OJ=>(qG N a0 a1 a2 OJ).bind fun J=>some ((J.1,J.2.1,J.2.2),true) else some (([],[],[]),false))
def jV (N:Nat):Nat->T3_->Int->Int->Option (Sum Bool Int)
 | 0,_,_,_=>none
 | k+1,U,OJ,J=>(bif decide (J<OJ) then (ix U J).bind fun OK=>(bU N OK.1 OK.2).bind fun OL=>(bif OL then (ad J 1).bind fun OM=>jV N k U OJ OM else some (.inl false)) else some (.inr J))
def gS (N:Nat) (a0:T3_):Option Bool:=(jV N N a0 (a0.length:Int) 0).bind fun J=>lpS J (fun q=>some q) fun U=>some true
def fj (N:Nat):Nat->Int->T6_->Int->Int->Option (Sum Bool Int)
 | 0,_,_,_,_=>none
 | k+1,U,OJ,OK,J=>(bif decide (J<OK) then (ix OJ J).bind fun OL=>(bif ((OL.length:Int) != U) then some (.inl false) else (gS N OL).bind fun OM=>(bif OM then (ad J 1).bind fun ON=>fj N k U OJ OK ON else some (.inl false))) else some (.inr J))
def dZ (N:Nat) (a0:T6_) (a1 a2:T3_):Option Bool:=(dv N (a2.length:Int) 1 5).bind fun J=>(bif J then (dv N (a1.length:Int) 1 5).bind fun U=>(bif U then (bif ((a0.length:Int) != (a1.length:Int)) then some false else (gS N a1).bind fun OJ=>(bif OJ then (gS N a2).bind fun OK=>(bif OK then (fj N N (a2.length:Int) a0 (a0.length:Int) 0).bind fun OL=>lpS OL (fun q=>some q) fun OM=>some true else some false) else some false)) else some false) else some false)
def jb (N:Nat) (a0:T3_):Option T3_:=(apd 16 [] a0).bind fun J=>some J
def kP (N:Nat) (a0:yP):Option yP:=(apd 8 [] a0).bind fun J=>some J
def iE (N:Nat) (a0 a1 a2 a3:Int):Option Bool:=(bU N a0 a1).bind fun J=>(bif J then (bU N a2 a3).bind fun U=>some U else some false)
def iY (N:Nat) (a0 a1:Int):Option (T1_×Bool):=(bif (a1 == 0) then some ((0,0),false) else (dv N a0 (-4000000000000000000) 4000000000000000000).bind fun OP=>(bif OP then (dv N a1 (-4000000000000000000) 4000000000000000000).bind fun OQ=>(bif OQ then (bif decide (a1<0) then (sb 0 a0).bind fun J=>(sb 0 a1).bind fun U=>(nq N J).bind fun OR=>(kO N OR U).bind fun OJ=>(qt J OJ).bind fun OK=>(qt U OJ).bind fun OL=>(bU N OK OL).bind fun OS=>(bif OS then some ((OK,OL),true) else some ((0,0),false)) else (nq N a0).bind fun OT=>(kO N OT a1).bind fun OM=>(qt a0 OM).bind fun ON=>(qt a1 OM).bind fun OO=>(bU N ON OO).bind fun OU=>(bif OU then some ((ON,OO),true) else some ((0,0),false))) else some ((0,0),false)) else some ((0,0),false)))
def jN (N:Nat) (a0 a1 a2 a3:Int):Option (T1_×Bool):=(iE N a0 a1 a2 a3).bind fun U=>(bif U then (bif (a2 == 0) then some ((0,0),false) else (ml a0 a3).bind fun OJ=>(ml a1 a2).bind fun OK=>(iY N OJ OK).bind fun J=>some ((J.1.1,J.1.2),J.2)) else some ((0,0),false))
def jT (N:Nat) (a0 a1 a2 a3:Int):Option (T1_×Bool):=(iE N a0 a1 a2 a3).bind fun U=>(bif U then (ml a0 a2).bind fun OJ=>(ml a1 a3).bind fun OK=>(iY N OJ OK).bind fun J=>some ((J.1.1,J.1.2),J.2) else some ((0,0),false))
def jQ (N:Nat) (a0 a1 a2 a3:Int):Option (T1_×Bool):=(iE N a0 a1 a2 a3).bind fun U=>(bif U then (ml a0 a3).bind fun OJ=>(ml a2 a1).bind fun OK=>(ad OJ OK).bind fun OL=>(ml a1 a3).bind fun OM=>(iY N OL OM).bind fun J=>some ((J.1.1,J.1.2),J.2) else some ((0,0),false))
def lF (N:Nat) (a0 a1 a2 a3:Int):Option (T1_×Bool):=(sb 0 a2).bind fun U=>(jQ N a0 a1 U a3).bind fun J=>some ((J.1.1,J.1.2),J.2)
def jz (N:Nat):Nat->T3_->T3_->Int->Int->Int->Option (Sum (Bool×T3_) (T3_×Int))
 | 0,_,_,_,_,_=>none
 | k+1,J,OL,OM,ON,U=>(bif decide (U<(J.length:Int)) then (ix OL U).bind fun OO=>(jT N OM ON OO.1 OO.2).bind fun OJ=>(ix J U).bind fun OP=>(lF N OP.1 OP.2 OJ.1.1 OJ.1.2).bind fun OK=>(bif OJ.2 then (bif OK.2 then (ix J U).bind fun OS=>(sto J U (OK.1.1,OK.1.2)).bind fun OQ=>(ad U 1).bind fun OR=>jz N k OQ OL OM ON OR else some (.inl (false,J))) else some (.inl (false,J))) else some (.inr (J,U)))
def oT (N:Nat) (a0 a1:T3_) (a2:Int):Option (Bool×T3_):=(ix a0 a2).bind fun U=>(ix a1 a2).bind fun OJ=>(jN N U.1 U.2 OJ.1 OJ.2).bind fun J=>(bif J.2 then (jz N N a0 a1 J.1.1 J.1.2 a2).bind fun OK=>lpS OK (fun q=>some q) fun (OL,OM)=>some (true,OL) else some (false,a0))
def hZ (N:Nat):Nat->T3_->Int->T6_->T6_->Int->Int->Option (Sum (T3_×Bool) (T6_×Int))
 | 0,_,_,_,_,_,_=>none
 | k+1,OJ,OK,OL,OM,ON,J=>(bif decide (J<ON) then (ix OM J).bind fun U=>(bif ((U.length:Int) != OK) then some (.inl ([],false)) else (gS N U).bind fun OP=>(bif OP then (ix OJ J).bind fun OO=>(jb N U).bind fun OQ=>(apd 16 OQ [(OO.1,OO.2)]).bind fun OR=>(apd 24 OL [OR]).bind fun OS=>(ad J 1).bind fun OT=>hZ N k OJ OK OS OM ON OT else some (.inl ([],false)))) else some (.inr (OL,J)))
def ia (N:Nat):Nat->Int->T6_->Int->Int->Option Int
 | 0,_,_,_,_=>none
 | k+1,U,OJ,OK,J=>(bif decide (J<U) then (ix OJ J).bind fun OL=>(ix OL OK).bind fun OM=>(bif (OM.1 == 0) then (ad J 1).bind fun ON=>ia N k U OJ OK ON else some J) else some J)
def dB (N:Nat):Nat->Int->T6_->Int->Int->Option (Sum (T3_×Bool) (T6_×Int))
 | 0,_,_,_,_=>none
 | k+1,OK,U,OJ,J=>(bif decide (J<OK) then (bif (J != OJ) then (ix U J).bind fun OM=>(ix OM OJ).bind fun ON=>(bif (ON.1 != 0) then (ix U J).bind fun OO=>(ix U OJ).bind fun OP=>(oT N OO OP OJ).bind fun OL=>(sto U J OL.2).bind fun OQ=>(bif OL.1 then (ad J 1).bind fun OR=>dB N k OK OQ OJ OR else some (.inl ([],false))) else (ad J 1).bind fun OS=>dB N k OK U OJ OS) else (ad J 1).bind fun OT=>dB N k OK U OJ OT) else some (.inr (U,J)))
def ic (N:Nat):Nat->Int->T6_->Int->Option (Sum (T3_×Bool) (T6_×Int))
 | 0,_,_,_=>none
 | k+1,OJ,U,J=>(bif decide (J<OJ) then (ia N N OJ U J J).bind fun OL=>lpB OL fun OK=>(bif (OK == OJ) then some (.inl ([],false)) else (ix U OK).bind fun OM=>(ix U J).bind fun ON=>(ix U J).bind fun OT=>(sto U J OM).bind fun OO=>(sto OO OK ON).bind fun OP=>(dB N N OJ OP J 0).bind fun OQ=>lpS OQ (fun q=>some (.inl q)) fun (OR,OU)=>(ad J 1).bind fun OS=>ic N k OJ OR OS) else some (.inr (U,J)))
def hY (N:Nat):Nat->Int->T6_->T3_->Int->Option (Sum (T3_×Bool) (T3_×Int))
 | 0,_,_,_,_=>none
 | k+1,U,OJ,OL,J=>(bif decide (J<U) then (ix OJ J).bind fun OO=>(ix OO U).bind fun OM=>(ix OJ J).bind fun OP=>(ix OP J).bind fun ON=>(jN N OM.1 OM.2 ON.1 ON.2).bind fun OK=>(bif OK.2 then (apd 16 OL [(OK.1.1,OK.1.2)]).bind fun OQ=>(ad J 1).bind fun OR=>hY N k U OJ OQ OR else some (.inl ([],false))) else some (.inr (OL,J)))
def iV (N:Nat) (a0:T6_) (a1:T3_):Option (T3_×Bool):=(bif decide (6<(a1.length:Int)) then some ([],false) else (bif ((a0.length:Int) != (a1.length:Int)) then some ([],false) else (gS N a1).bind fun OL=>(bif OL then (hZ N N a1 (a1.length:Int) [] a0 (a0.length:Int) 0).bind fun J=>lpS J (fun q=>some q) fun (OM,OP)=>(ic N N (a1.length:Int) OM 0).bind fun U=>lpS U (fun q=>some q) fun (ON,OQ)=>(hY N N (a1.length:Int) ON [] 0).bind fun OJ=>lpS OJ (fun q=>some q) fun (OK,OO)=>some (OK,true) else some ([],false))))
def ig (N:Nat) (a0 a1 a2 a3:Int):Option Int:=(iE N a0 a1 a2 a3).bind fun J=>(bif J then (ml a0 a3).bind fun U=>(ml a2 a1).bind fun OJ=>(f9 N U OJ).bind fun OK=>some OK else some 0)
def j9 (N:Nat):Nat->T3_->T3_->Int->Int->Int->Int->Int->Int->Option (Sum (T1_×Bool) (Int×Int×Int))
 | 0,_,_,_,_,_,_,_,_=>none
 | k+1,OK,OL,OR,OS,OM,ON,OO,J=>(bif decide (J<OO) then (ix OK J).bind fun OP=>(ix OL J).bind fun OQ=>(jT N OP.1 OP.2 OQ.1 OQ.2).bind fun U=>(jQ N OM ON U.1.1 U.1.2).bind fun OJ=>(bif U.2 then (bif OJ.2 then (ad J 1).bind fun OT=>j9 N k OK OL OR OS OJ.1.1 OJ.1.2 OO OT else some (.inl ((0,0),false))) else some (.inl ((0,0),false))) else some (.inr (OM,ON,J)))
def kA (N:Nat) (a0 a1:T3_):Option (T1_×Bool):=(bif ((a0.length:Int) != (a1.length:Int)) then some ((0,0),false) else (j9 N N a0 a1 0 0 0 1 (a0.length:Int) 0).bind fun J=>lpS J (fun q=>some q) fun (U,OJ,OK)=>some ((U,OJ),true))
def gC (N:Nat):Nat->T3_->T3_->T6_->Int->Int->Option (Sum (T3_×Bool) (T3_×Int))
 | 0,_,_,_,_,_=>none
 | k+1,OJ,OK,OL,OM,J=>(bif decide (J<OM) then (ix OL J).bind fun ON=>(kA N ON OJ).bind fun U=>(bif U.2 then (apd 16 OK [(U.1.1,U.1.2)]).bind fun OO=>(ad J 1).bind fun OP=>gC N k OJ OO OL OM OP else some (.inl ([],false))) else some (.inr (OK,J)))
def ip (N:Nat) (a0:T6_) (a1:T3_):Option (T3_×Bool):=(gC N N a1 [] a0 (a0.length:Int) 0).bind fun J=>lpS J (fun q=>some q) fun (U,OJ)=>some (U,true)
def lC (N:Nat):Nat->T3_->Int->T6_->T3_->T3_->T3_->Int->Int->Option (Sum Bool Int)
 | 0,_,_,_,_,_,_,_,_=>none
 | k+1,OK,OL,OM,ON,OO,U,OJ,J=>(bif decide (J<OJ) then (ix U J).bind fun OP=>(bif decide (OP.1<0) then some (.inl false) else (ad J 1).bind fun OQ=>lC N k OK OL OM ON OO U OJ OQ) else some (.inr J))
def lw (N:Nat):Nat->Int->T6_->T3_->T3_->T3_->Int->Int->Option (Sum Bool Int)
 | 0,_,_,_,_,_,_,_=>none
 | k+1,U,OO,OJ,OP,OK,OL,J=>(bif decide (J<OL) then (ix OK J).bind fun OM=>(ix OJ J).bind fun ON=>(ig N OM.1 OM.2 ON.1 ON.2).bind fun OQ=>(ml U OQ).bind fun OR=>(bif decide (OR<0) then some (.inl false) else (ad J 1).bind fun OS=>lw N k U OO OJ OP OK OL OS) else some (.inr J))
def nz (N:Nat) (a0:T6_) (a1 a2 a3:T3_) (a4:Int):Option Bool:=(dZ N a0 a1 a2).bind fun U=>(bif U then (bif ((a3.length:Int) != (a2.length:Int)) then some false else (gS N a3).bind fun OJ=>(bif OJ then (lC N N a3 a4 a0 a1 a2 a3 (a3.length:Int) 0).bind fun OK=>lpS OK (fun q=>some q) fun OM=>(ip N a0 a3).bind fun J=>(bif J.2 then (lw N N a4 a0 a1 a2 J.1 (J.1.length:Int) 0).bind fun OL=>lpS OL (fun q=>some q) fun ON=>some true else some false) else some false)) else some false)
def gV (N:Nat):Nat->T3_->T3_->Int->Int->Option (Sum Bool Int)
 | 0,_,_,_,_=>none
 | k+1,U,OJ,OK,J=>(bif decide (J<OK) then (ix U J).bind fun OL=>(ix OJ J).bind fun OM=>(bif (OL.1 == OM.1&&OL.2 == OM.2) then (ad J 1).bind fun ON=>gV N k U OJ OK ON else some (.inl false)) else some (.inr J))
def jD (N:Nat) (a0 a1:T3_):Option Bool:=(bif ((a0.length:Int) != (a1.length:Int)) then some false else (gV N N a0 a1 (a0.length:Int) 0).bind fun J=>lpS J (fun q=>some q) fun U=>some true)
def ja (rec:Int->yP->Int->T6_->T3_->T6_->T3_->T3_->Int->T6_->Option T6_) (N:Nat):Nat->yP->Int->T6_->T3_->T6_->T3_->T3_->Int->T6_->Int->Option (T6_×Int)
 | 0,_,_,_,_,_,_,_,_,_,_=>none
 | k+1,OJ,OK,U,OL,OM,ON,OO,OP,OQ,J=>(bif decide (J<(U.length:Int)) then (ad J 1).bind fun OR=>(kP N OJ).bind fun OS=>(apd 8 OS [J]).bind fun OT=>(rec OR OT OK U OL OM ON OO OP OQ).bind fun OU=>(ad J 1).bind fun OV=>ja rec N k OJ OK U OL OM ON OO OP OU OV else some (OQ,J))
def fg (rec:Int->yP->Int->T6_->T3_->T6_->T3_->T3_->Int->T6_->Option T6_) (N:Nat):Nat->yP->Int->T6_->T3_->T6_->T3_->T3_->Int->T6_->T6_->T3_->yP->Int->Int->Option (T6_×T3_×Int)
 | 0,_,_,_,_,_,_,_,_,_,_,_,_,_,_=>none
 | k+1,OQ,OR,U,OJ,OS,OT,OU,OV,OW,OK,OL,OM,ON,J=>(bif decide (J<ON) then (ix OM J).bind fun OO=>(ix U OO).bind fun OX=>(apd 24 OK [OX]).bind fun OY=>(ix OJ OO).bind fun OP=>(apd 16 OL [(OP.1,OP.2)]).bind fun OZ=>(ad J 1).bind fun O0=>fg rec N k OQ OR U OJ OS OT OU OV OW OY OZ OM ON O0 else some (OK,OL,J))
def je (rec:Int->yP->Int->T6_->T3_->T6_->T3_->T3_->Int->T6_->Option T6_) (N:Nat):Nat->yP->Int->T6_->T3_->T6_->T3_->T3_->Int->T6_->T3_->T6_->Int->Int->Option (Sum T6_ Int)
 | 0,_,_,_,_,_,_,_,_,_,_,_,_,_=>none
 | k+1,OM,ON,OO,OP,OQ,OR,OS,OT,U,OJ,OK,OL,J=>(bif decide (J<OL) then (ix OK J).bind fun OU=>(jD N OJ OU).bind fun OV=>(bif OV then some (.inl U) else (ad J 1).bind fun OW=>je rec N k OM ON OO OP OQ OR OS OT U OJ OK OL OW) else some (.inr J))
def dI:Nat->Int->yP->Int->T6_->T3_->T6_->T3_->T3_->Int->T6_->Option T6_
 | 0,_,_,_,_,_,_,_,_,_,_=>none
 | N+1,a0,a1,a2,a3,a5,a6,a7,a8,a9,J=>(bif decide ((a1.length:Int)<a2) then (ja (dI N) N N a1 a2 a3 a5 a6 a7 a8 a9 J a0).bind fun OJ=>lpB OJ fun (OK,OR)=>some OK else (fg (dI N) N N a1 a2 a3 a5 a6 a7 a8 a9 J [] [] a1 (a1.length:Int) 0).bind fun OL=>lpB OL fun (OM,ON,OS)=>(iV N OM ON).bind fun U=>(bif U.2 then (nz N a6 a7 a8 U.1 a9).bind fun OO=>(bif OO then (je (dI N) N N a1 a2 a3 a5 a6 a7 a8 a9 J U.1 J (J.length:Int) 0).bind fun OP=>lpS OP (fun q=>some q) fun OT=>(apd 24 J [U.1]).bind fun OQ=>some OQ else some J) else some J))
def ga (N:Nat):Nat->T6_->T3_->T3_->Int->Int->T6_->T3_->Int->T3_->Int->Option (T3_×Int)
 | 0,_,_,_,_,_,_,_,_,_,_=>none
 | k+1,OL,OM,ON,OO,U,OP,OQ,OJ,OK,J=>(bif decide (J<U) then (rp N (OJ == J)).bind fun OR=>(apd 16 OK [(OR,1)]).bind fun OS=>(ad J 1).bind fun OT=>ga N k OL OM ON OO U OP OQ OJ OS OT else some (OK,J))
def gb (N:Nat):Nat->T6_->T3_->T3_->Int->Int->T6_->T3_->Int->Option (T6_×T3_×Int)
 | 0,_,_,_,_,_,_,_,_=>none
 | k+1,OL,OM,ON,OO,U,OJ,OK,J=>(bif decide (J<U) then (ga N N OL OM ON OO U OJ OK J [] 0).bind fun OP=>lpB OP fun (OQ,OU)=>(apd 24 OJ [OQ]).bind fun OR=>(apd 16 OK [(0,1)]).bind fun OS=>(ad J 1).bind fun OT=>gb N k OL OM ON OO U OR OS OT else some (OJ,OK,J))
def lZ (N:Nat) (a0:T6_) (a1 a2:T3_) (a3:Int):Option T6_:=(apd 24 [] a0).bind fun J=>(jb N a1).bind fun U=>(gb N N a0 a1 a2 a3 (a2.length:Int) J U 0).bind fun OJ=>lpB OJ fun (OK,OL,ON)=>(dI N 0 [] (a2.length:Int) OK OL a0 a1 a2 a3 []).bind fun OM=>some OM
def jd (N:Nat) (a0:T6_) (a1 a2:T3_):Option T6_:=(dZ N a0 a1 a2).bind fun J=>(bif J then (lZ N a0 a1 a2 1).bind fun U=>some U else some [])
def k9 (N:Nat):Nat->yP->Int->(List (ByteArray×yP))->yP->yP->Int->Int->Option (Sum (T3_×Bool) Int)
 | 0,_,_,_,_,_,_,_=>none
 | k+1,OK,OL,OM,ON,U,OJ,J=>(bif decide (J<OJ) then (ix U J).bind fun OO=>(dv N OO 0 16).bind fun OP=>(bif OP then (ad J 1).bind fun OQ=>k9 N k OK OL OM ON U OJ OQ else some (.inl ([],false))) else some (.inr J))
def eR (N:Nat):Nat->yP->T3_->T6_->Int->Int->Option (T3_×Int)
 | 0,_,_,_,_,_=>none
 | k+1,U,OJ,OK,OL,J=>(bif decide (J<OL) then (ix OK J).bind fun OM=>(i7 N U OM OJ).bind fun ON=>(bif (ON.1 == (-1)) then (ad J 1).bind fun OO=>eR N k U OM OK OL OO else (ad J 1).bind fun OP=>eR N k U OJ OK OL OP) else some (OJ,J))
def jc (N:Nat) (a0:Int) (a1:List (ByteArray×yP)) (a2 a3:yP):Option (T3_×Bool):=(hJ N a0 a1 a2).bind fun OK=>(bif OK then (bif ((a3.length:Int) != (a1.length:Int)) then some ([],false) else (k9 N N a3 a0 a1 a2 a3 (a3.length:Int) 0).bind fun OL=>lpS OL (fun q=>some q) fun OP=>(jA N a0 a1 a2).bind fun U=>(jd N U.1.1 U.1.2.1 U.1.2.2).bind fun J=>(bif ((J.length:Int) == 0) then some ([],false) else (ix J 0).bind fun OM=>(slc J 1 (J.length:Int)).bind fun OJ=>(eR N N a3 OM OJ (OJ.length:Int) 0).bind fun ON=>lpB ON fun (OO,OQ)=>some (OO,true))) else some ([],false))
def vM (N:Nat) (a0:yP):Option Bool:=some (decide (1048576<(a0.length:Int)))
def kM (N:Nat):Nat->yP->Int->Int->Option T1_
 | 0,_,_,_=>none
 | k+1,U,OJ,J=>(bif decide (J<(U.length:Int)) then (bif decide (J<4000) then (ml OJ 131).bind fun OK=>(ix U J).bind fun OL=>(ad OK (IntKind.i64.wrap OL)).bind fun OM=>(ad OM 7).bind fun ON=>(ad J 1).bind fun OO=>kM N k U (jZ ON 1073741823) OO else some (OJ,J)) else some (OJ,J))
def qq (N:Nat) (a0:yP):Option T1_:=(ad 10101 (a0.length:Int)).bind fun J=>(kM N N a0 J 0).bind fun U=>lpB U fun (OJ,OK)=>some (0,OJ)
def j5 (N:Nat) (a0:yP) (a1 a2:Int):Option (Int×Int×Int):=(sr (IntKind.i64.wrap ((IntKind.i64.wrap (a2*6364136223846793005))+1442695040888963407)) 33).bind fun J=>(sr (IntKind.i64.wrap ((IntKind.i64.wrap (a2*6364136223846793005))+1442695040888963407)) 45).bind fun U=>(bif decide (a1<(a0.length:Int)) then (ix a0 a1).bind fun OJ=>some ((jZ (IntKind.i64.wrap ((jZ (og J U) 255)+(IntKind.i64.wrap OJ))) 255),(IntKind.i64.wrap (a1+1)),(IntKind.i64.wrap ((IntKind.i64.wrap (a2*6364136223846793005))+1442695040888963407))) else some ((jZ (og J U) 255),a1,(IntKind.i64.wrap ((IntKind.i64.wrap (a2*6364136223846793005))+1442695040888963407))))
def dk (N:Nat) (a0:yP) (a1 a2 a3:Int):Option (Int×Int×Int):=(bif decide (a3<=0) then some (0,a1,a2) else (bif decide (a3<=256) then (j5 N a0 a1 a2).bind fun J=>(rm J.1 a3).bind fun OM=>some (OM,J.2.1,J.2.2) else (j5 N a0 a1 a2).bind fun U=>(j5 N a0 U.2.1 U.2.2).bind fun OJ=>(j5 N a0 OJ.2.1 OJ.2.2).bind fun OK=>(j5 N a0 OK.2.1 OK.2.2).bind fun OL=>(ml U.1 16777216).bind fun ON=>(ml OJ.1 65536).bind fun OO=>(ad ON OO).bind fun OP=>(ml OK.1 256).bind fun OQ=>(ad OP OQ).bind fun OR=>(ad OR OL.1).bind fun OS=>(rm OS a3).bind fun OT=>some (OT,OL.2.1,OL.2.2)))
def gt (N:Nat) (a0:yP) (a1 a2:Int) (a3:yP):Option (Int×Int×Int):=(dk N a0 a1 a2 (a3.length:Int)).bind fun J=>(ix a3 J.1).bind fun U=>some (U,J.2.1,J.2.2)
def mv (N:Nat) (a0:yP) (a1 a2 a3:Int):Option (Bool×Int×Int):=(dk N a0 a1 a2 a3).bind fun J=>some ((J.1 == 0),J.2.1,J.2.2)
def mw (N:Nat) (a0:yP) (a1 a2:Int) (a3:List ByteArray):Option (ByteArray×Int×Int):=(dk N a0 a1 a2 (a3.length:Int)).bind fun J=>(ix a3 J.1).bind fun U=>some (U,J.2.1,J.2.2)
def pG (N:Nat):Nat->ByteArray->Int->(List ByteArray)->Int->Int->Option ((List ByteArray)×Int×Int)
 | 0,_,_,_,_,_=>none
 | k+1,U,OJ,OK,OL,J=>(bif decide (J<(U.size:Int)) then (bx U J).bind fun OM=>(bif (OM == OJ) then (ssl U OL J).bind fun ON=>(apd 16 OK [ON]).bind fun OO=>(ad J 1).bind fun OP=>(ad J 1).bind fun OQ=>pG N k U OJ OO OP OQ else (ad J 1).bind fun OR=>pG N k U OJ OK OL OR) else some (OK,OL,J))
def qC (N:Nat) (a0:ByteArray) (a1:Int):Option (List ByteArray):=(pG N N a0 a1 [] 0 0).bind fun J=>lpB J fun (U,OJ,OM)=>(ssl a0 OJ (a0.size:Int)).bind fun OK=>(apd 16 U [OK]).bind fun OL=>some OL
def kU (N:Nat) (a0:Int):Option ByteArray:=(dy N a0 0 4).bind fun J=>(bif J then (ad a0 1).bind fun U=>(ssl (⟨#[88,89,90,85,86]⟩:ByteArray) a0 U).bind fun OJ=>some OJ else some ByteArray.empty)
def oN (N:Nat):Nat->ByteArray->yP->Int->Int->Option (yP×Int)
 | 0,_,_,_,_=>none
 | k+1,OJ,OK,U,J=>(bif decide (J<5) then (kU N J).bind fun OL=>(ad U 1).bind fun OM=>(ssl OJ U OM).bind fun ON=>(bif (eqS OL ON) then (apd 8 OK [J]).bind fun OO=>(ad J 1).bind fun OP=>oN N k OJ OO U OP else (ad J 1).bind fun OQ=>oN N k OJ OK U OQ) else some (OK,J))
def qZ (N:Nat):Nat->ByteArray->yP->Int->Option (yP×Int)
 | 0,_,_,_=>none
 | k+1,U,OJ,J=>(bif decide (J<(U.size:Int)) then (oN N N U OJ J 0).bind fun OK=>lpB OK fun (OL,ON)=>(ad J 1).bind fun OM=>qZ N k U OL OM else some (OJ,J))
def rq (N:Nat) (a0:ByteArray):Option yP:=(qZ N N a0 [] 0).bind fun J=>lpB J fun (U,OJ)=>some U
def re (N:Nat):Nat->yP->ByteArray->Int->Option (ByteArray×Int)
 | 0,_,_,_=>none
 | k+1,U,OJ,J=>(bif decide (J<(U.length:Int)) then (ix U J).bind fun OK=>(kU N OK).bind fun OL=>(sx OJ OL).bind fun OM=>(ad J 1).bind fun ON=>re N k U OM ON else some (OJ,J))
def pz (N:Nat) (a0:yP):Option ByteArray:=(re N N a0 (⟨#[40]⟩:ByteArray) 0).bind fun J=>lpB J fun (U,OK)=>(sx U (⟨#[41]⟩:ByteArray)).bind fun OJ=>some OJ
def lN (N:Nat):Nat->Int->(List (ByteArray×yP))->yP->ByteArray->Int->Option (ByteArray×Int)
 | 0,_,_,_,_,_=>none
 | k+1,OK,U,OL,OJ,J=>(bif decide (J<(U.length:Int)) then (bif decide (0<J) then (sx OJ (⟨#[44]⟩:ByteArray)).bind fun OM=>(ix U J).bind fun ON=>(sx OM ON.1).bind fun OO=>(ix U J).bind fun OP=>(pz N OP.2).bind fun OQ=>(sx OO OQ).bind fun OR=>(ad J 1).bind fun OS=>lN N k OK U OL OR OS else (ix U J).bind fun OT=>(sx OJ OT.1).bind fun OU=>(ix U J).bind fun OV=>(pz N OV.2).bind fun OW=>(sx OU OW).bind fun OX=>(ad J 1).bind fun OY=>lN N k OK U OL OX OY) else some (OJ,J))
def pN (N:Nat) (a0:Int) (a1:List (ByteArray×yP)) (a2:yP):Option ByteArray:=(g7 N a0 a1 a2).bind fun J=>(bif J then (pz N a2).bind fun U=>(sx U (⟨#[61]⟩:ByteArray)).bind fun OJ=>(lN N N a0 a1 a2 OJ 0).bind fun OK=>lpB OK fun (OL,OM)=>some OL else some ByteArray.empty)
def mf (N:Nat):Nat->ByteArray->Int->(List (ByteArray×yP))->yP->Int->(List (ByteArray×yP))->yP->(List ByteArray)->Int->Int->Int->Option T1_
 | 0,_,_,_,_,_,_,_,_,_,_,_=>none
 | k+1,OL,OM,ON,OO,OP,OQ,OR,OJ,OK,U,J=>(bif decide (J<5) then (kU N J).bind fun OS=>(ix OJ OK).bind fun OT=>(ad U 1).bind fun OU=>(ssl OT U OU).bind fun OV=>(bif (eqS OS OV) then (ad J 1).bind fun OW=>(ad J 1).bind fun OX=>mf N k OL OM ON OO OW OQ OR OJ OK U OX else (ad J 1).bind fun OY=>mf N k OL OM ON OO OP OQ OR OJ OK U OY) else some (OP,J))
def oH (N:Nat):Nat->ByteArray->Int->(List (ByteArray×yP))->yP->Int->(List (ByteArray×yP))->yP->(List ByteArray)->Int->Int->Option T1_
 | 0,_,_,_,_,_,_,_,_,_,_=>none
 | k+1,OL,OM,ON,OO,U,OP,OQ,OJ,OK,J=>(ix OJ OK).bind fun OR=>(bif decide (J<(OR.size:Int)) then (mf N N OL OM ON OO U OP OQ OJ OK J U).bind fun OS=>lpB OS fun (OT,OV)=>(ad J 1).bind fun OU=>oH N k OL OM ON OO OT OP OQ OJ OK OU else some (U,J))
def ot (N:Nat):Nat->ByteArray->Int->(List (ByteArray×yP))->yP->Int->(List (ByteArray×yP))->yP->(List ByteArray)->Int->Option (Int×(List (ByteArray×yP))×Int)
 | 0,_,_,_,_,_,_,_,_,_=>none
 | k+1,OJ,OK,OL,OM,ON,OO,OP,U,J=>(bif decide (J<(U.length:Int)) then (ix U J).bind fun OR=>(qC N OR 40).bind fun OS=>(ix OS 0).bind fun OT=>(ix U J).bind fun OU=>(rq N OU).bind fun OV=>(apd 40 OO [(OT,OV)]).bind fun OQ=>(oH N N OJ OK OL OM ON OQ OP U J 0).bind fun OW=>lpB OW fun (OX,OZ)=>(ad J 1).bind fun OY=>ot N k OJ OK OL OM OX OQ OP U OY else some (ON,OO,J))
def dF (N:Nat) (a0:ByteArray):Option ((Int×List (ByteArray×yP)×yP)×Bool):=(qC N a0 61).bind fun J=>(bif ((J.length:Int) != 2) then some ((0,[],[]),false) else (ix J 0).bind fun OL=>(rq N OL).bind fun U=>(ix J 1).bind fun OM=>(qC N OM 44).bind fun ON=>(ot N N a0 0 [] [] 0 [] U ON 0).bind fun OO=>lpB OO fun (OJ,OK,OQ)=>(pN N OJ OK U).bind fun OP=>(bif (eqS OP a0) then (bif (eqS a0 ByteArray.empty) then some ((0,[],[]),false) else some ((OJ,OK,U),true)) else some ((0,[],[]),false)))
def kC (N:Nat):Nat->yP->Int->Int->Int->(List (ByteArray×yP))->yP->Int->(List (ByteArray×yP))->yP->Int->(List (ByteArray×yP))->yP->Int->ByteArray->yP->Int->Option (Int×Int×yP×Int)
 | 0,_,_,_,_,_,_,_,_,_,_,_,_,_,_,_,_=>none
 | k+1,OJ,OK,OL,OO,OP,OQ,OR,OS,OT,OM,OU,OV,OW,OX,ON,J=>(bif decide (0<J) then (dk N OJ OK OL OM).bind fun U=>(apd 8 ON [U.1]).bind fun OY=>(sb J 1).bind fun OZ=>kC N k OJ U.2.1 U.2.2 OO OP OQ OR OS OT OM OU OV OW OX OY OZ else some (OK,OL,ON,J))
def ku (N:Nat):Nat->yP->Int->Int->Int->(List (ByteArray×yP))->yP->Int->(List (ByteArray×yP))->yP->Int->(List (ByteArray×yP))->yP->Int->Option (Int×Int×(List (ByteArray×yP))×Int)
 | 0,_,_,_,_,_,_,_,_,_,_,_,_,_=>none
 | k+1,OJ,OL,OM,ON,OO,OP,OQ,OR,OS,OT,OK,OU,J=>(bif decide (0<J) then (dk N OJ OL OM 5).bind fun U=>(ix ([(⟨#[114]⟩:ByteArray),(⟨#[115]⟩:ByteArray),(⟨#[116]⟩:ByteArray),(⟨#[117]⟩:ByteArray),(⟨#[118]⟩:ByteArray)]:List ByteArray) U.1).bind fun OV=>(qt U.1 4).bind fun OW=>(ad 2 OW).bind fun OX=>(kC N N OJ U.2.1 U.2.2 ON OO OP OQ OR OS OT OK OU J OV [] OX).bind fun OY=>lpB OY fun (OZ,O0,O1,O4)=>(apd 40 OK [(OV,O1)]).bind fun O2=>(sb J 1).bind fun O3=>ku N k OJ OZ O0 ON OO OP OQ OR OS OT O2 OU O3 else some (OL,OM,OK,J))
def iJ (N:Nat):Nat->yP->Int->Int->Int->(List (ByteArray×yP))->yP->Int->(List (ByteArray×yP))->yP->Int->(List (ByteArray×yP))->yP->Int->Option (Int×Int×yP×Int)
 | 0,_,_,_,_,_,_,_,_,_,_,_,_,_=>none
 | k+1,OJ,OM,ON,OO,OP,OQ,OR,OS,OT,OK,OU,OL,J=>(bif decide (J<OK) then (mv N OJ OM ON 2).bind fun U=>(bif U.1 then (apd 8 ([J]) OL).bind fun OV=>(ad J 1).bind fun OW=>iJ N k OJ U.2.1 U.2.2 OO OP OQ OR OS OT OK OU OV OW else (ad J 1).bind fun OX=>iJ N k OJ U.2.1 U.2.2 OO OP OQ OR OS OT OK OU OL OX) else some (OM,ON,OL,J))
def mR (N:Nat) (a0:yP) (a1 a2:Int):Option ((Int×List (ByteArray×yP)×yP)×Int×Int):=(mw N a0 a1 a2 ([(⟨#[40,88,89,90,41,61,114,40,88,89,41,44,115,40,89,90,41,44,116,40,90,88,41]⟩:ByteArray),(⟨#[40,88,89,90,85,41,61,114,40,88,89,41,44,115,40,89,90,41,44,116,40,90,85,41,44,117,40,85,88,41]⟩:ByteArray),(⟨#[40,88,89,90,41,61,114,40,88,89,41,44,115,40,89,90,41]⟩:ByteArray),(⟨#[40,88,41,61,114,40,88,89,41,44,115,40,89,90,41,44,116,40,90,85,41]⟩:ByteArray),(⟨#[40,88,89,90,41,61,118,40,88,89,90,41,44,114,40,88,89,41]⟩:ByteArray),(⟨#[40,88,89,41,61,114,40,88,89,41,44,114,40,89,88,41]⟩:ByteArray),(⟨#[40,88,89,90,85,41,61,118,40,88,89,90,41,44,115,40,90,85,41,44,116,40,85,88,41]⟩:ByteArray),(⟨#[40,88,41,61,114,40,88,88,41]⟩:ByteArray),(⟨#[40,88,89,41,61,114,40,88,90,41,44,115,40,90,89,41,44,114,40,88,85,41,44,115,40,85,89,41]⟩:ByteArray),(⟨#[40,41,61,114,40,88,89,41,44,115,40,89,88,41]⟩:ByteArray),(⟨#[40,88,89,90,85,86,41,61,114,40,88,89,41,44,115,40,89,90,41,44,116,40,90,85,41,44,117,40,85,86,41]⟩:ByteArray)]:List ByteArray)).bind fun OK=>(dF N OK.1).bind fun J=>(mv N a0 OK.2.1 OK.2.2 3).bind fun U=>(bif U.1 then (dk N a0 U.2.1 U.2.2 4).bind fun OL=>(ad 1 OL.1).bind fun OJ=>(dk N a0 OL.2.1 OL.2.2 4).bind fun OM=>(ad 1 OM.1).bind fun OR=>(ku N N a0 OM.2.1 OM.2.2 0 [] [] J.1.1 J.1.2.1 J.1.2.2 OJ [] [] OR).bind fun OS=>lpB OS fun (OT,OU,ON,OX)=>(iJ N N a0 OT OU 0 [] [] J.1.1 J.1.2.1 J.1.2.2 OJ ON [] 0).bind fun OV=>lpB OV fun (OO,OP,OQ,OY)=>(g7 N OJ ON OQ).bind fun OW=>(bif OW then some ((OJ,ON,OQ),OO,OP) else some ((J.1.1,J.1.2.1,J.1.2.2),OO,OP)) else some ((J.1.1,J.1.2.1,J.1.2.2),U.2.1,U.2.2))
def qr (N:Nat) (a0:yP) (a1 a2:Int):Option ((Int×List (ByteArray×yP)×yP)×Int×Int):=(mR N a0 a1 a2).bind fun J=>(dk N a0 J.2.1 J.2.2 14).bind fun U=>(bif (U.1 == 0) then (ad J.1.1 1).bind fun OO=>(gt N a0 U.2.1 U.2.2 ([0,6,OO]:yP)).bind fun OJ=>some ((OJ.1,J.1.2.1,J.1.2.2),OJ.2.1,OJ.2.2) else (bif (U.1 == 1) then (mw N a0 U.2.1 U.2.2 ([ByteArray.empty,(⟨#[119]⟩:ByteArray),(⟨#[114]⟩:ByteArray)]:List ByteArray)).bind fun OK=>(apd 40 J.1.2.1 [(OK.1,[0])]).bind fun OP=>some ((J.1.1,OP,J.1.2.2),OK.2.1,OK.2.2) else (bif (U.1 == 2) then (dk N a0 U.2.1 U.2.2 6).bind fun OL=>(sb OL.1 1).bind fun OQ=>(apd 8 J.1.2.2 [OQ]).bind fun OR=>some ((J.1.1,J.1.2.1,OR),OL.2.1,OL.2.2) else (bif (U.1 == 3) then (ix J.1.2.1 0).bind fun OS=>(sto J.1.2.1 0 (OS.1,[])).bind fun OT=>some ((J.1.1,OT,J.1.2.2),U.2.1,U.2.2) else (bif (U.1 == 4) then (ix J.1.2.1 0).bind fun OM=>(gt N a0 U.2.1 U.2.2 ([(-1),5]:yP)).bind fun ON=>(ix OM.2 0).bind fun OW=>(sto OM.2 0 ON.1).bind fun OU=>(sto J.1.2.1 0 (OM.1,OU)).bind fun OV=>some ((J.1.1,OV,J.1.2.2),ON.2.1,ON.2.2) else some ((J.1.1,J.1.2.1,J.1.2.2),U.2.1,U.2.2))))))
def iB (N:Nat):Nat->Int->T2_->Int->T2_->Int->T2_->Int->Option (T2_×Int)
 | 0,_,_,_,_,_,_,_=>none
 | k+1,OK,U,OL,OM,ON,OJ,J=>(bif decide (J<(U.length:Int)) then (ix U J).bind fun OO=>(apd 8 [] OO).bind fun OP=>(apd 24 OJ [OP]).bind fun OQ=>(ad J 1).bind fun OR=>iB N k OK U OL OM ON OQ OR else some (OJ,J))
def nF (N:Nat) (a0:Int) (a1:T2_):Option (Int×T2_):=(iB N N a0 a1 0 [] a0 [] 0).bind fun J=>lpB J fun (U,OJ)=>some (a0,U)
def ff (N:Nat):Nat->yP->Int->Option (Sum Bool Int)
 | 0,_,_=>none
 | k+1,U,J=>(bif decide (J<(U.length:Int)) then (ix U J).bind fun OJ=>(dy N OJ 0 99).bind fun OK=>(bif OK then (ad J 1).bind fun OL=>ff N k U OL else some (.inl false)) else some (.inr J))
def iM (N:Nat) (a0:yP):Option Bool:=(ff N N a0 0).bind fun J=>lpS J (fun q=>some q) fun U=>some true
def jE (N:Nat):Nat->yP->yP->Int->Option (Sum Int Int)
 | 0,_,_,_=>none
 | k+1,U,OJ,J=>(bif decide (J<(U.length:Int)) then (bif decide (J<(OJ.length:Int)) then (ix U J).bind fun OK=>(ix OJ J).bind fun OL=>(bif decide (OK<OL) then some (.inl (-1)) else (ix U J).bind fun OM=>(ix OJ J).bind fun ON=>(bif decide (ON<OM) then some (.inl 1) else (ad J 1).bind fun OO=>jE N k U OJ OO)) else some (.inr J)) else some (.inr J))
def cN (N:Nat) (a0 a1:yP):Option Int:=(jE N N a0 a1 0).bind fun J=>lpS J (fun q=>some q) fun U=>(bif decide ((a0.length:Int)<(a1.length:Int)) then some (-1) else (bif decide ((a1.length:Int)<(a0.length:Int)) then some 1 else some 0))
def dW (N:Nat):Nat->Int->T2_->Int->Option (Sum Bool Int)
 | 0,_,_,_=>none
 | k+1,OJ,U,J=>(bif decide (J<(U.length:Int)) then (ix U J).bind fun OK=>(bif ((OK.length:Int) != OJ) then some (.inl false) else (ix U J).bind fun OL=>(iM N OL).bind fun OM=>(bif OM then (bif decide (0<J) then (sb J 1).bind fun ON=>(ix U ON).bind fun OO=>(ix U J).bind fun OP=>(cN N OO OP).bind fun OQ=>(bif decide (0<=OQ) then some (.inl false) else (ad J 1).bind fun OR=>dW N k OJ U OR) else (ad J 1).bind fun OS=>dW N k OJ U OS) else some (.inl false))) else some (.inr J))
def gL (N:Nat) (a0:Int) (a1:T2_):Option Bool:=(dy N a0 0 5).bind fun J=>(bif J then (bif decide (4000<(a1.length:Int)) then some false else (dW N N a0 a1 0).bind fun U=>lpS U (fun q=>some q) fun OJ=>some true) else some false)
def bj (rec:T2_->Option T2_) (N:Nat):Nat->T2_->T2_->T2_->Option (T2_×T2_×T2_)
 | 0,_,_,_=>none
 | k+1,U,OJ,J=>(bif decide (0<(U.length:Int)) then (bif ((U.length:Int) == 0) then (bif decide (0<(1:Int)) then (ix OJ 0).bind fun OK=>(slc OJ 1 (OJ.length:Int)).bind fun OL=>(bif ((J.length:Int) == 0) then (apd 24 J [OK]).bind fun O4=>bj rec N k U OL O4 else (sb (J.length:Int) 1).bind fun O5=>(ix J O5).bind fun O6=>(cN N O6 OK).bind fun O7=>(bif (O7 != 0) then (apd 24 J [OK]).bind fun O8=>bj rec N k U OL O8 else bj rec N k U OL J)) else (ix U 0).bind fun OM=>(slc U 1 (U.length:Int)).bind fun ON=>(bif ((J.length:Int) == 0) then (apd 24 J [OM]).bind fun O9=>bj rec N k ON OJ O9 else (sb (J.length:Int) 1).bind fun Pa=>(ix J Pa).bind fun Pb=>(cN N Pb OM).bind fun Pc=>(bif (Pc != 0) then (apd 24 J [OM]).bind fun Pd=>bj rec N k ON OJ Pd else bj rec N k ON OJ J))) else (bif decide (0<(OJ.length:Int)) then (ix U 0).bind fun Pe=>(ix OJ 0).bind fun Pf=>(cN N Pe Pf).bind fun Pg=>(bif decide (0<Pg) then (ix OJ 0).bind fun OO=>(slc OJ 1 (OJ.length:Int)).bind fun OP=>(bif ((J.length:Int) == 0) then (apd 24 J [OO]).bind fun Ph=>bj rec N k U OP Ph else (sb (J.length:Int) 1).bind fun Pi=>(ix J Pi).bind fun Pj=>(cN N Pj OO).bind fun Pk=>(bif (Pk != 0) then (apd 24 J [OO]).bind fun Pl=>bj rec N k U OP Pl else bj rec N k U OP J)) else (ix U 0).bind fun OQ=>(slc U 1 (U.length:Int)).bind fun OR=>(bif ((J.length:Int) == 0) then (apd 24 J [OQ]).bind fun Pm=>bj rec N k OR OJ Pm else (sb (J.length:Int) 1).bind fun Pn=>(ix J Pn).bind fun Po=>(cN N Po OQ).bind fun Pp=>(bif (Pp != 0) then (apd 24 J [OQ]).bind fun Pq=>bj rec N k OR OJ Pq else bj rec N k OR OJ J))) else (bif decide (0<((-1):Int)) then (ix OJ 0).bind fun OS=>(slc OJ 1 (OJ.length:Int)).bind fun OT=>(bif ((J.length:Int) == 0) then (apd 24 J [OS]).bind fun Pr=>bj rec N k U OT Pr else (sb (J.length:Int) 1).bind fun Ps=>(ix J Ps).bind fun Pt=>(cN N Pt OS).bind fun Pu=>(bif (Pu != 0) then (apd 24 J [OS]).bind fun Pv=>bj rec N k U OT Pv else bj rec N k U OT J)) else (ix U 0).bind fun OU=>(slc U 1 (U.length:Int)).bind fun OV=>(bif ((J.length:Int) == 0) then (apd 24 J [OU]).bind fun Pw=>bj rec N k OV OJ Pw else (sb (J.length:Int) 1).bind fun Px=>(ix J Px).bind fun Py=>(cN N Py OU).bind fun Pz=>(bif (Pz != 0) then (apd 24 J [OU]).bind fun PA=>bj rec N k OV OJ PA else bj rec N k OV OJ J))))) else (bif decide (0<(OJ.length:Int)) then (bif ((U.length:Int) == 0) then (bif decide (0<(1:Int)) then (ix OJ 0).bind fun OW=>(slc OJ 1 (OJ.length:Int)).bind fun OX=>(bif ((J.length:Int) == 0) then (apd 24 J [OW]).bind fun PB=>bj rec N k U OX PB else (sb (J.length:Int) 1).bind fun PC=>(ix J PC).bind fun PD=>(cN N PD OW).bind fun PE=>(bif (PE != 0) then (apd 24 J [OW]).bind fun PF=>bj rec N k U OX PF else bj rec N k U OX J)) else (ix U 0).bind fun OY=>(slc U 1 (U.length:Int)).bind fun OZ=>(bif ((J.length:Int) == 0) then (apd 24 J [OY]).bind fun PG=>bj rec N k OZ OJ PG else (sb (J.length:Int) 1).bind fun PH=>(ix J PH).bind fun PI=>(cN N PI OY).bind fun PJ=>(bif (PJ != 0) then (apd 24 J [OY]).bind fun PK=>bj rec N k OZ OJ PK else bj rec N k OZ OJ J))) else (ix U 0).bind fun PL=>(ix OJ 0).bind fun PM=>(cN N PL PM).bind fun PN=>(bif decide (0<PN) then (ix OJ 0).bind fun O0=>(slc OJ 1 (OJ.length:Int)).bind fun O1=>(bif ((J.length:Int) == 0) then (apd 24 J [O0]).bind fun PO=>bj rec N k U O1 PO else (sb (J.length:Int) 1).bind fun PP=>(ix J PP).bind fun PQ=>(cN N PQ O0).bind fun PR=>(bif (PR != 0) then (apd 24 J [O0]).bind fun PS=>bj rec N k U O1 PS else bj rec N k U O1 J)) else (ix U 0).bind fun O2=>(slc U 1 (U.length:Int)).bind fun O3=>(bif ((J.length:Int) == 0) then (apd 24 J [O2]).bind fun PT=>bj rec N k O3 OJ PT else (sb (J.length:Int) 1).bind fun PU=>(ix J PU).bind fun PW=>(cN N PW O2).bind fun PX=>(bif (PX != 0) then (apd 24 J [O2]).bind fun PY=>bj rec N k O3 OJ PY else bj rec N k O3 OJ J)))) else some (U,OJ,J)))
def jj:Nat->T2_->Option T2_
 | 0,_=>none
 | N+1,a0=>(bif decide ((a0.length:Int)<2) then some a0 else (qt (a0.length:Int) 2).bind fun J=>(slc a0 0 J).bind fun OK=>(jj N OK).bind fun OL=>(slc a0 J (a0.length:Int)).bind fun OM=>(jj N OM).bind fun ON=>(bj (jj N) N N OL ON []).bind fun U=>lpB U fun (OO,OP,OJ)=>some OJ)
def fz (N:Nat):Nat->Int->T2_->Int->T2_->Int->Option (Sum ((Int×T2_)×Bool) Int)
 | 0,_,_,_,_,_=>none
 | k+1,OJ,U,OK,OL,J=>(bif decide (J<(U.length:Int)) then (ix U J).bind fun OM=>(bif ((OM.length:Int) != OJ) then some (.inl ((0,[]),false)) else (ix U J).bind fun ON=>(iM N ON).bind fun OO=>(bif OO then (ad J 1).bind fun OP=>fz N k OJ U OK OL OP else some (.inl ((0,[]),false)))) else some (.inr J))
def j0 (N:Nat) (a0:Int) (a1:T2_):Option ((Int×T2_)×Bool):=(fz N N a0 a1 0 [] 0).bind fun U=>lpS U (fun q=>some q) fun OL=>(jj N a1).bind fun OJ=>(nF N a0 OJ).bind fun J=>(gL N J.1 J.2).bind fun OK=>(bif OK then some ((J.1,J.2),true) else some ((0,[]),false))
def lV (N:Nat):Nat->yP->Int->Int->Int->Int->yP->Option (Int×Int×yP)
 | 0,_,_,_,_,_,_=>none
 | k+1,OJ,OK,OL,OM,ON,J=>(bif decide ((J.length:Int)<OM) then (dk N OJ OK OL ON).bind fun U=>(apd 8 J [U.1]).bind fun OO=>lV N k OJ U.2.1 U.2.2 OM ON OO else some (OK,OL,J))
def oM (N:Nat) (a0:yP) (a1 a2 a3 a4:Int):Option (yP×Int×Int):=(lV N N a0 a1 a2 a3 a4 []).bind fun J=>lpB J fun (U,OJ,OK)=>some (OK,U,OJ)
def lW (N:Nat):Nat->yP->Int->Int->Int->Int->Int->T2_->T2_->Int->Option (Int×Int×T2_×Int)
 | 0,_,_,_,_,_,_,_,_,_=>none
 | k+1,OJ,OK,OL,OM,ON,OP,OQ,OO,J=>(bif decide (0<J) then (oM N OJ OK OL OM ON).bind fun U=>(apd 24 OO [U.1]).bind fun OR=>(sb J 1).bind fun OS=>lW N k OJ U.2.1 U.2.2 OM ON OP OQ OR OS else some (OK,OL,OO,J))
def ni (N:Nat) (a0:yP) (a1 a2 a3 a4 a5:Int):Option ((Int×T2_)×Int×Int):=(ad a4 1).bind fun OJ=>(dk N a0 a1 a2 OJ).bind fun J=>(lW N N a0 J.2.1 J.2.2 a3 a5 0 [] [] J.1).bind fun OK=>lpB OK fun (OL,OM,ON,OO)=>(j0 N a3 ON).bind fun U=>some ((U.1.1,U.1.2),OL,OM)
def kd (N:Nat):Nat->yP->Int->Int->(List (ByteArray×(Int×T2_)))->Int->(List (ByteArray×(Int×T2_)))->(List ByteArray)->Int->Int->Option (Int×Int×(List (ByteArray×(Int×T2_)))×Int)
 | 0,_,_,_,_,_,_,_,_,_=>none
 | k+1,J,OM,ON,OU,OJ,OO,OP,OQ,U=>(bif decide (U<OQ) then (ix OP U).bind fun OR=>(bif (eqS OR (⟨#[118]⟩:ByteArray)) then (gt N J OM ON ([3,6,9]:yP)).bind fun OS=>(ni N J OS.2.1 OS.2.2 3 OS.1 OJ).bind fun OK=>(apd 48 OO [(OR,(OK.1.1,OK.1.2))]).bind fun OV=>(ad U 1).bind fun OW=>kd N k J OK.2.1 OK.2.2 OU OJ OV OP OQ OW else (gt N J OM ON ([3,6,9]:yP)).bind fun OT=>(ni N J OT.2.1 OT.2.2 2 OT.1 OJ).bind fun OL=>(apd 48 OO [(OR,(OL.1.1,OL.1.2))]).bind fun OX=>(ad U 1).bind fun OY=>kd N k J OL.2.1 OL.2.2 OU OJ OX OP OQ OY) else some (OM,ON,OO,U))
def pZ (N:Nat) (a0:yP) (a1 a2:Int):Option ((List (ByteArray×(Int×T2_)))×Int×Int):=(gt N a0 a1 a2 ([2,3,4,6]:yP)).bind fun OJ=>(kd N N a0 OJ.2.1 OJ.2.2 [] OJ.1 [] ([(⟨#[114]⟩:ByteArray),(⟨#[115]⟩:ByteArray),(⟨#[116]⟩:ByteArray),(⟨#[117]⟩:ByteArray),(⟨#[118]⟩:ByteArray)]:List ByteArray) (([(⟨#[114]⟩:ByteArray),(⟨#[115]⟩:ByteArray),(⟨#[116]⟩:ByteArray),(⟨#[117]⟩:ByteArray),(⟨#[118]⟩:ByteArray)]:List ByteArray).length:Int) 0).bind fun OM=>lpB OM fun (ON,OO,OK,OQ)=>(mv N a0 ON OO 8).bind fun J=>(bif J.1 then (dk N a0 J.2.1 J.2.2 5).bind fun U=>(ix OK U.1).bind fun OL=>(sto OK U.1 (OL.1,(OL.2.1,[]))).bind fun OP=>some (OP,U.2.1,U.2.2) else some (OK,J.2.1,J.2.2))
def qI (N:Nat) (a0:yP) (a1 a2:Int):Option ((Int×T2_)×Int×Int):=(dk N a0 a1 a2 4).bind fun OJ=>(ni N a0 OJ.2.1 OJ.2.2 OJ.1 6 4).bind fun J=>(dk N a0 J.2.1 J.2.2 14).bind fun U=>(bif (U.1 == 0) then (ad J.1.1 1).bind fun OO=>(gt N a0 U.2.1 U.2.2 ([(-1),6,OO]:yP)).bind fun OK=>some ((OK.1,J.1.2),OK.2.1,OK.2.2) else (bif (U.1 == 1) then (oM N a0 U.2.1 U.2.2 (imx 0 J.1.1) 4).bind fun OL=>(apd 24 J.1.2 [OL.1]).bind fun OP=>some ((J.1.1,OP),OL.2.1,OL.2.2) else (bif (U.1 == 2) then (bif decide (0<(J.1.2.length:Int)) then (bif decide (0<J.1.1) then (ix J.1.2 0).bind fun ON=>(gt N a0 U.2.1 U.2.2 ([(-1),100,99]:yP)).bind fun OM=>(ix ON 0).bind fun OS=>(sto ON 0 OM.1).bind fun OQ=>(sto J.1.2 0 OQ).bind fun OR=>some ((J.1.1,OR),OM.2.1,OM.2.2) else some ((J.1.1,J.1.2),U.2.1,U.2.2)) else some ((J.1.1,J.1.2),U.2.1,U.2.2)) else some ((J.1.1,J.1.2),U.2.1,U.2.2))))
def qv (N:Nat) (a0:yP) (a1 a2:Int):Option ((List (ByteArray×(Int×T2_)))×Int×Int):=(pZ N a0 a1 a2).bind fun U=>(dk N a0 U.2.1 U.2.2 5).bind fun OJ=>(dk N a0 OJ.2.1 OJ.2.2 14).bind fun J=>(bif (J.1 == 0) then (mw N a0 J.2.1 J.2.2 ([ByteArray.empty,(⟨#[82]⟩:ByteArray),(⟨#[97,98,99,100,101]⟩:ByteArray),(⟨#[97]⟩:ByteArray),(⟨#[122]⟩:ByteArray)]:List ByteArray)).bind fun OL=>(ix U.1 OJ.1).bind fun ON=>(sto U.1 OJ.1 (OL.1,(ON.2.1,ON.2.2))).bind fun OO=>some (OO,OL.2.1,OL.2.2) else (bif (J.1 == 1) then (qI N a0 J.2.1 J.2.2).bind fun OK=>(ix U.1 OJ.1).bind fun OP=>(sto U.1 OJ.1 (OP.1,(OK.1.1,OK.1.2))).bind fun OQ=>some (OQ,OK.2.1,OK.2.2) else (bif (J.1 == 2) then (ix U.1 OJ.1).bind fun OM=>(apd 48 U.1 [(OM.1,(OM.2.1,OM.2.2))]).bind fun OR=>some (OR,J.2.1,J.2.2) else (bif (J.1 == 3) then (slc U.1 0 OJ.1).bind fun OS=>some (OS,J.2.1,J.2.2) else some (U.1,J.2.1,J.2.2)))))
def pc (N:Nat) (a0:yP) (a1 a2:Int):Option ((List (ByteArray×(Int×T2_)))×(Int×List (ByteArray×yP)×yP)×Int×Int):=(pZ N a0 a1 a2).bind fun OK=>(mR N a0 OK.2.1 OK.2.2).bind fun J=>(dk N a0 J.2.1 J.2.2 24).bind fun U=>(bif (U.1 == 0) then (qv N a0 U.2.1 U.2.2).bind fun OL=>some (OL.1,(J.1.1,J.1.2.1,J.1.2.2),OL.2.1,OL.2.2) else (bif (U.1 == 1) then (qr N a0 U.2.1 U.2.2).bind fun OJ=>some (OK.1,(OJ.1.1,OJ.1.2.1,OJ.1.2.2),OJ.2.1,OJ.2.2) else some (OK.1,(J.1.1,J.1.2.1,J.1.2.2),U.2.1,U.2.2)))
def kc (N:Nat) (a0:yP):Option ((List (ByteArray×(Int×T2_)))×Int×List (ByteArray×yP)×yP):=(qq N a0).bind fun U=>(pc N a0 U.1 U.2).bind fun J=>some (J.1,(J.2.1.1,J.2.1.2.1,J.2.1.2.2))
def jF (N:Nat):Nat->yP->yP->Int->Option (Sum Int Int)
 | 0,_,_,_=>none
 | k+1,U,OJ,J=>(bif decide (J<(U.length:Int)) then (bif decide (J<(OJ.length:Int)) then (ix U J).bind fun OK=>(ix OJ J).bind fun OL=>(bif (OK != OL) then (ix U J).bind fun OM=>(ix OJ J).bind fun ON=>(f9 N OM ON).bind fun OO=>some (.inl OO) else (ad J 1).bind fun OP=>jF N k U OJ OP) else some (.inr J)) else some (.inr J))
def iZ (N:Nat) (a0 a1:yP):Option Int:=(jF N N a0 a1 0).bind fun J=>lpS J (fun q=>some q) fun OJ=>(f9 N (a0.length:Int) (a1.length:Int)).bind fun U=>some U
def fi (N:Nat):Nat->yP->Int->Int->Option (Sum Bool Int)
 | 0,_,_,_=>none
 | k+1,U,OJ,J=>(bif decide (J<OJ) then (ix U J).bind fun OK=>(dv N OK 0 99).bind fun OL=>(bif OL then (ad J 1).bind fun OM=>fi N k U OJ OM else some (.inl false)) else some (.inr J))
def jG (N:Nat) (a0:yP):Option Bool:=(fi N N a0 (a0.length:Int) 0).bind fun J=>lpS J (fun q=>some q) fun U=>some true
def gk (N:Nat):Nat->Int->T2_->T2_->Int->Int->Option (Sum Bool Int)
 | 0,_,_,_,_,_=>none
 | k+1,U,OJ,OK,OL,J=>(bif decide (J<OL) then (ix OK J).bind fun OM=>(bif ((OM.length:Int) != U) then some (.inl false) else (jG N OM).bind fun ON=>(bif ON then (bif decide (0<J) then (sb J 1).bind fun OO=>(ix OJ OO).bind fun OP=>(iZ N OP OM).bind fun OQ=>(bif decide (0<=OQ) then some (.inl false) else (ad J 1).bind fun OR=>gk N k U OJ OK OL OR) else (ad J 1).bind fun OS=>gk N k U OJ OK OL OS) else some (.inl false))) else some (.inr J))
def mC (N:Nat) (a0:Int) (a1:T2_):Option Bool:=(dv N a0 0 5).bind fun J=>(bif J then (bif decide (4000<(a1.length:Int)) then some false else (gk N N a0 a1 a1 (a1.length:Int) 0).bind fun U=>lpS U (fun q=>some q) fun OJ=>some true) else some false)
def iv (N:Nat) (a0:Int) (a1:T2_):Option Bool:=(mC N a0 a1).bind fun J=>some J
def du (N:Nat):Nat->(List (ByteArray×(Int×T2_)))->(List (ByteArray×(Int×T2_)))->Int->Int->Option (Sum Bool Int)
 | 0,_,_,_,_=>none
 | k+1,OJ,OK,OL,U=>(bif decide (U<OL) then (ix OK U).bind fun J=>(jR N J.1).bind fun OM=>(bif OM then (bif decide (0<U) then (sb U 1).bind fun ON=>(ix OJ ON).bind fun OO=>(bif (ltS OO.1 J.1) then (iv N J.2.1 J.2.2).bind fun OP=>(bif OP then (bif decide (J.2.1<1) then some (.inl false) else (bif decide (16<(J.2.2.length:Int)) then some (.inl false) else (ad U 1).bind fun OQ=>du N k OJ OK OL OQ)) else some (.inl false)) else some (.inl false)) else (iv N J.2.1 J.2.2).bind fun OR=>(bif OR then (bif decide (J.2.1<1) then some (.inl false) else (bif decide (16<(J.2.2.length:Int)) then some (.inl false) else (ad U 1).bind fun OS=>du N k OJ OK OL OS)) else some (.inl false))) else some (.inl false)) else some (.inr U))
def iw (N:Nat) (a0:List (ByteArray×(Int×T2_))):Option Bool:=(bif decide (6<(a0.length:Int)) then some false else (du N N a0 a0 (a0.length:Int) 0).bind fun J=>lpS J (fun q=>some q) fun U=>some true)
def gN (N:Nat):Nat->T2_->T2_->Int->Int->Option (T2_×Int)
 | 0,_,_,_,_=>none
 | k+1,U,OJ,OK,J=>(bif decide (J<OK) then (ix OJ J).bind fun OL=>(kP N OL).bind fun OM=>(apd 24 U [OM]).bind fun ON=>(ad J 1).bind fun OO=>gN N k ON OJ OK OO else some (U,J))
def lU (N:Nat) (a0:T2_):Option T2_:=(gN N N [] a0 (a0.length:Int) 0).bind fun J=>lpB J fun (U,OJ)=>some U
def kX (N:Nat) (a0:Int) (a1:T2_):Option (Int×T2_):=(lU N a1).bind fun J=>some (a0,J)
def eE (N:Nat):Nat->ByteArray->Int->T2_->(List (ByteArray×(Int×T2_)))->Int->Int->Option (Sum ((Int×T2_)×Bool) Int)
 | 0,_,_,_,_,_,_=>none
 | k+1,OJ,ON,OO,OK,OL,J=>(bif decide (J<OL) then (ix OK J).bind fun U=>(bif (eqS U.1 OJ) then (kX N U.2.1 U.2.2).bind fun OM=>some (.inl ((OM.1,OM.2),true)) else (ad J 1).bind fun OP=>eE N k OJ ON OO OK OL OP) else some (.inr J))
def iO (N:Nat) (a0:List (ByteArray×(Int×T2_))) (a1:ByteArray):Option ((Int×T2_)×Bool):=(iw N a0).bind fun J=>(bif J then (eE N N a1 0 [] a0 (a0.length:Int) 0).bind fun U=>lpS U (fun q=>some q) fun OJ=>some ((0,[]),false) else some ((0,[]),false))
def f6 (N:Nat):Nat->(List (ByteArray×(Int×T2_)))->(List (ByteArray×yP))->Int->Int->Option (Sum Bool Int)
 | 0,_,_,_,_=>none
 | k+1,U,OJ,OK,J=>(bif decide (J<OK) then (ix OJ J).bind fun OL=>(iO N U OL.1).bind fun OM=>(bif OM.2 then (bif (OM.1.1 != (OL.2.length:Int)) then some (.inl false) else (ad J 1).bind fun ON=>f6 N k U OJ OK ON) else some (.inl false)) else some (.inr J))
def mm (N:Nat) (a0:List (ByteArray×(Int×T2_))) (a1:Int) (a2:List (ByteArray×yP)) (a3:yP):Option Bool:=(hJ N a1 a2 a3).bind fun J=>(bif J then (iw N a0).bind fun U=>(bif U then (f6 N N a0 a2 (a2.length:Int) 0).bind fun OJ=>lpS OJ (fun q=>some q) fun OK=>some true else some false) else some false)
def dT (N:Nat):Nat->ByteArray->yP->yP->Int->Option (yP×Int)
 | 0,_,_,_,_=>none
 | k+1,U,OJ,OK,J=>(bif decide (J<5) then (ij N U OJ J).bind fun OL=>(bif OL then (apd 8 OK [J]).bind fun OM=>(ad J 1).bind fun ON=>dT N k U OJ OM ON else (ad J 1).bind fun OO=>dT N k U OJ OK OO) else some (OK,J))
def kt (N:Nat) (a0:ByteArray) (a1:yP):Option yP:=(dT N N a0 a1 [] 0).bind fun J=>lpB J fun (U,OJ)=>some U
def gF (N:Nat):Nat->Int->yP->Int->Int->Option (Sum Bool Int)
 | 0,_,_,_,_=>none
 | k+1,U,OJ,OK,J=>(bif decide (J<OK) then (ix OJ J).bind fun OL=>(sb U 1).bind fun OM=>(dv N OL 0 OM).bind fun ON=>(bif ON then (ad J 1).bind fun OO=>gF N k U OJ OK OO else some (.inl false)) else some (.inr J))
def mq (N:Nat) (a0:Int) (a1:yP):Option Bool:=(bif decide (5<(a1.length:Int)) then some false else (gF N N a0 a1 (a1.length:Int) 0).bind fun J=>lpS J (fun q=>some q) fun U=>some true)
def ju (N:Nat):Nat->yP->yP->yP->Int->Int->Option (yP×Int)
 | 0,_,_,_,_,_=>none
 | k+1,U,OJ,OK,OL,J=>(bif decide (J<OL) then (ix OK J).bind fun OM=>(ix U OM).bind fun ON=>(apd 8 OJ [ON]).bind fun OO=>(ad J 1).bind fun OP=>ju N k U OO OK OL OP else some (OJ,J))
def sd (N:Nat) (a0 a1:yP):Option yP:=(ju N N a0 [] a1 (a1.length:Int) 0).bind fun J=>lpB J fun (U,OJ)=>some U
def bt (rec:T2_->Option T2_) (N:Nat):Nat->T2_->T2_->T2_->Option (T2_×T2_×T2_)
 | 0,_,_,_=>none
 | k+1,U,J,OJ=>(bif decide (0<(U.length:Int)) then (bif ((U.length:Int) == 0) then (bif decide ((1:Int)<=0) then (ix U 0).bind fun OW=>(apd 24 OJ [OW]).bind fun OM=>(slc U 1 (U.length:Int)).bind fun ON=>(bif decide (0<=(1:Int)) then (bif decide (0<(1:Int)) then (ix J 0).bind fun OX=>(apd 24 OM [OX]).bind fun OY=>(slc J 1 (J.length:Int)).bind fun OZ=>bt rec N k ON OZ OY else (slc J 1 (J.length:Int)).bind fun O0=>bt rec N k ON O0 OM) else bt rec N k ON J OM) else (bif decide (0<=(1:Int)) then (bif decide (0<(1:Int)) then (ix J 0).bind fun O1=>(apd 24 OJ [O1]).bind fun O2=>(slc J 1 (J.length:Int)).bind fun O3=>bt rec N k U O3 O2 else (slc J 1 (J.length:Int)).bind fun O4=>bt rec N k U O4 OJ) else bt rec N k U J OJ)) else (bif decide (0<(J.length:Int)) then (ix U 0).bind fun O5=>(ix J 0).bind fun O6=>(iZ N O5 O6).bind fun OK=>(bif decide (OK<=0) then (ix U 0).bind fun O7=>(apd 24 OJ [O7]).bind fun OO=>(slc U 1 (U.length:Int)).bind fun OP=>(bif decide (0<=OK) then (bif decide (0<OK) then (ix J 0).bind fun O8=>(apd 24 OO [O8]).bind fun O9=>(slc J 1 (J.length:Int)).bind fun Pa=>bt rec N k OP Pa O9 else (slc J 1 (J.length:Int)).bind fun Pb=>bt rec N k OP Pb OO) else bt rec N k OP J OO) else (bif decide (0<=OK) then (bif decide (0<OK) then (ix J 0).bind fun Pc=>(apd 24 OJ [Pc]).bind fun Pd=>(slc J 1 (J.length:Int)).bind fun Pe=>bt rec N k U Pe Pd else (slc J 1 (J.length:Int)).bind fun Pf=>bt rec N k U Pf OJ) else bt rec N k U J OJ)) else (bif decide (((-1):Int)<=0) then (ix U 0).bind fun Pg=>(apd 24 OJ [Pg]).bind fun OQ=>(slc U 1 (U.length:Int)).bind fun OR=>(bif decide (0<=((-1):Int)) then (bif decide (0<((-1):Int)) then (ix J 0).bind fun Ph=>(apd 24 OQ [Ph]).bind fun Pi=>(slc J 1 (J.length:Int)).bind fun Pj=>bt rec N k OR Pj Pi else (slc J 1 (J.length:Int)).bind fun Pk=>bt rec N k OR Pk OQ) else bt rec N k OR J OQ) else (bif decide (0<=((-1):Int)) then (bif decide (0<((-1):Int)) then (ix J 0).bind fun Pl=>(apd 24 OJ [Pl]).bind fun Pm=>(slc J 1 (J.length:Int)).bind fun Pn=>bt rec N k U Pn Pm else (slc J 1 (J.length:Int)).bind fun Po=>bt rec N k U Po OJ) else bt rec N k U J OJ)))) else (bif decide (0<(J.length:Int)) then (bif ((U.length:Int) == 0) then (bif decide ((1:Int)<=0) then (ix U 0).bind fun Pp=>(apd 24 OJ [Pp]).bind fun OS=>(slc U 1 (U.length:Int)).bind fun OT=>(bif decide (0<=(1:Int)) then (bif decide (0<(1:Int)) then (ix J 0).bind fun Pq=>(apd 24 OS [Pq]).bind fun Pr=>(slc J 1 (J.length:Int)).bind fun Ps=>bt rec N k OT Ps Pr else (slc J 1 (J.length:Int)).bind fun Pt=>bt rec N k OT Pt OS) else bt rec N k OT J OS) else (bif decide (0<=(1:Int)) then (bif decide (0<(1:Int)) then (ix J 0).bind fun Pu=>(apd 24 OJ [Pu]).bind fun Pv=>(slc J 1 (J.length:Int)).bind fun Pw=>bt rec N k U Pw Pv else (slc J 1 (J.length:Int)).bind fun Px=>bt rec N k U Px OJ) else bt rec N k U J OJ)) else (ix U 0).bind fun Py=>(ix J 0).bind fun Pz=>(iZ N Py Pz).bind fun OL=>(bif decide (OL<=0) then (ix U 0).bind fun PA=>(apd 24 OJ [PA]).bind fun OU=>(slc U 1 (U.length:Int)).bind fun OV=>(bif decide (0<=OL) then (bif decide (0<OL) then (ix J 0).bind fun PB=>(apd 24 OU [PB]).bind fun PC=>(slc J 1 (J.length:Int)).bind fun PD=>bt rec N k OV PD PC else (slc J 1 (J.length:Int)).bind fun PE=>bt rec N k OV PE OU) else bt rec N k OV J OU) else (bif decide (0<=OL) then (bif decide (0<OL) then (ix J 0).bind fun PF=>(apd 24 OJ [PF]).bind fun PG=>(slc J 1 (J.length:Int)).bind fun PH=>bt rec N k U PH PG else (slc J 1 (J.length:Int)).bind fun PI=>bt rec N k U PI OJ) else bt rec N k U J OJ))) else some (U,J,OJ)))
def iU:Nat->T2_->Option T2_
 | 0,_=>none
 | N+1,a0=>(bif decide ((a0.length:Int)<2) then (lU N a0).bind fun OK=>some OK else (qt (a0.length:Int) 2).bind fun J=>(slc a0 0 J).bind fun OL=>(slc a0 J (a0.length:Int)).bind fun OM=>(iU N OL).bind fun ON=>(iU N OM).bind fun OO=>(bt (iU N) N N ON OO []).bind fun U=>lpB U fun (OP,OQ,OJ)=>some OJ)
def cX (N:Nat):Nat->ByteArray->yP->Int->T2_->yP->Int->T2_->T2_->yP->yP->Bool->T2_->Int->Int->yP->Int->Int->Option (yP×Bool×Int)
 | 0,_,_,_,_,_,_,_,_,_,_,_,_,_,_,_,_,_=>none
 | k+1,OO,OL,OP,OQ,OR,OS,OT,OU,U,OJ,OV,OW,OX,OY,OM,ON,J=>(bif decide (J<ON) then (ix OM J).bind fun OK=>(mQ N OL OK).bind fun OZ=>(bif OV then (ix U OZ).bind fun O0=>(ix U J).bind fun O1=>(ix U J).bind fun O2=>(ix OJ OK).bind fun O8=>(sto OJ OK O2).bind fun O3=>(ad J 1).bind fun O4=>cX N k OO OL OP OQ OR OS OT OU U O3 (O0 == O1) OW OX OY OM ON O4 else (ix U J).bind fun O5=>(ix OJ OK).bind fun O9=>(sto OJ OK O5).bind fun O6=>(ad J 1).bind fun O7=>cX N k OO OL OP OQ OR OS OT OU U O6 false OW OX OY OM ON O7) else some (OJ,OV,J))
def el (N:Nat):Nat->ByteArray->yP->Int->T2_->yP->Int->T2_->T2_->T2_->Int->Int->Option (T2_×Int)
 | 0,_,_,_,_,_,_,_,_,_,_,_=>none
 | k+1,ON,U,OO,OP,OJ,OQ,OR,OK,OL,OM,J=>(bif decide (J<OM) then (ix OL J).bind fun OS=>(mk 8 (0:Int) 5).bind fun OT=>(cX N N ON U OO OP OJ OQ OR OK OS OT true OL OM J U (U.length:Int) 0).bind fun OU=>lpB OU fun (OV,OW,O1)=>(bif OW then (sd N OV OJ).bind fun OX=>(apd 24 OK [OX]).bind fun OY=>(ad J 1).bind fun OZ=>el N k ON U OO OP OJ OQ OR OY OL OM OZ else (ad J 1).bind fun O0=>el N k ON U OO OP OJ OQ OR OK OL OM O0) else some (OK,J))
def kW (N:Nat) (a0:List (ByteArray×(Int×T2_))) (a1:ByteArray) (a2:yP):Option (Int×T2_):=(kt N a1 a2).bind fun J=>(iO N a0 a1).bind fun U=>(bif U.2 then (bif (U.1.1 != (a2.length:Int)) then some ((J.length:Int),[]) else (mq N 5 a2).bind fun OJ=>(bif OJ then (el N N a1 a2 0 [] J (J.length:Int) [] [] U.1.2 (U.1.2.length:Int) 0).bind fun OK=>lpB OK fun (OL,ON)=>(iU N OL).bind fun OM=>some ((J.length:Int),OM) else some ((J.length:Int),[]))) else some ((J.length:Int),[]))
def fI (N:Nat):Nat->(List (ByteArray×(Int×T2_)))->yP->(List (ByteArray×yP))->Int->Int->Option (yP×Int)
 | 0,_,_,_,_,_=>none
 | k+1,U,OJ,OK,OL,J=>(bif decide (J<OL) then (ix OK J).bind fun OM=>(kW N U OM.1 OM.2).bind fun ON=>(apd 8 OJ [(ON.2.length:Int)]).bind fun OO=>(ad J 1).bind fun OP=>fI N k U OO OK OL OP else some (OJ,J))
def j4 (N:Nat) (a0:List (ByteArray×(Int×T2_))) (a1:Int) (a2:List (ByteArray×yP)) (a3:yP):Option (yP×Bool):=(mm N a0 a1 a2 a3).bind fun J=>(bif J then (fI N N a0 [] a2 (a2.length:Int) 0).bind fun U=>lpB U fun (OJ,OK)=>some (OJ,true) else some ([],false))
def dw (N:Nat):Nat->(List (ByteArray×(Int×T2_)))->Int->Option (Sum Bool Int)
 | 0,_,_=>none
 | k+1,OJ,U=>(bif decide (U<(OJ.length:Int)) then (ix OJ U).bind fun J=>(jM N J.1).bind fun OK=>(bif OK then (bif decide (0<U) then (sb U 1).bind fun OL=>(ix OJ OL).bind fun OM=>(bif (ltS OM.1 J.1) then (gL N J.2.1 J.2.2).bind fun ON=>(bif ON then (bif decide (16<(J.2.2.length:Int)) then some (.inl false) else (bif decide (J.2.1<1) then some (.inl false) else (ad U 1).bind fun OO=>dw N k OJ OO)) else some (.inl false)) else some (.inl false)) else (gL N J.2.1 J.2.2).bind fun OP=>(bif OP then (bif decide (16<(J.2.2.length:Int)) then some (.inl false) else (bif decide (J.2.1<1) then some (.inl false) else (ad U 1).bind fun OQ=>dw N k OJ OQ)) else some (.inl false))) else some (.inl false)) else some (.inr U))
def iA (N:Nat) (a0:List (ByteArray×(Int×T2_))):Option Bool:=(dw N N a0 0).bind fun J=>lpS J (fun q=>some q) fun U=>some (decide ((a0.length:Int)<=6))
def dC (N:Nat):Nat->ByteArray->(List (ByteArray×(Int×T2_)))->Int->T2_->Int->Option (Sum ((Int×T2_)×Bool) Int)
 | 0,_,_,_,_,_=>none
 | k+1,OJ,U,OM,ON,J=>(bif decide (J<(U.length:Int)) then (iA N U).bind fun OO=>(bif OO then (ix U J).bind fun OP=>(bif (eqS OP.1 OJ) then (ix U J).bind fun OK=>(nF N OK.2.1 OK.2.2).bind fun OL=>some (.inl ((OL.1,OL.2),true)) else (ad J 1).bind fun OQ=>dC N k OJ U OM ON OQ) else some (.inr J)) else some (.inr J))
def iP (N:Nat) (a0:List (ByteArray×(Int×T2_))) (a1:ByteArray):Option ((Int×T2_)×Bool):=(dC N N a1 a0 0 [] 0).bind fun J=>lpS J (fun q=>some q) fun U=>some ((0,[]),false)
def fZ (N:Nat):Nat->(List (ByteArray×(Int×T2_)))->Int->(List (ByteArray×yP))->yP->Int->Option (Sum Bool Int)
 | 0,_,_,_,_,_=>none
 | k+1,OJ,OL,U,OM,J=>(bif decide (J<(U.length:Int)) then (ix U J).bind fun ON=>(iP N OJ ON.1).bind fun OK=>(bif OK.2 then (ix U J).bind fun OO=>(bif (OK.1.1 != (OO.2.length:Int)) then some (.inl false) else (ad J 1).bind fun OP=>fZ N k OJ OL U OM OP) else some (.inl false)) else some (.inr J))
def kz (N:Nat) (a0:List (ByteArray×(Int×T2_))) (a1:Int) (a2:List (ByteArray×yP)) (a3:yP):Option Bool:=(fZ N N a0 a1 a2 a3 0).bind fun J=>lpS J (fun q=>some q) fun OK=>(g7 N a1 a2 a3).bind fun U=>(bif U then (iA N a0).bind fun OJ=>some OJ else some false)
def iG (rec:(List (ByteArray×(Int×T2_)))->Int->(List (ByteArray×yP))->yP->Int->yP->Option T2_) (N:Nat):Nat->Int->yP->(List (ByteArray×(Int×T2_)))->Int->(List (ByteArray×yP))->yP->T2_->Int->T2_->Int->yP->Bool->Int->Option (yP×Bool×Int)
 | 0,_,_,_,_,_,_,_,_,_,_,_,_,_=>none
 | k+1,OM,OQ,OR,OS,ON,OT,OU,OO,OK,OL,U,OP,J=>(bif decide (J<OO) then (bif OP then (ix ON OM).bind fun OV=>(ix OV.2 J).bind fun OJ=>(ix U OJ).bind fun OW=>(bif (OW == (-1)) then (ix OK OL).bind fun OX=>(ix OX J).bind fun OY=>(ix U OJ).bind fun O8=>(sto U OJ OY).bind fun OZ=>(ad J 1).bind fun O0=>iG rec N k OM OQ OR OS ON OT OU OO OK OL OZ true O0 else (ix U OJ).bind fun O1=>(ix OK OL).bind fun O2=>(ix O2 J).bind fun O3=>(ix OK OL).bind fun O4=>(ix O4 J).bind fun O5=>(ix U OJ).bind fun O9=>(sto U OJ O5).bind fun O6=>(ad J 1).bind fun O7=>iG rec N k OM OQ OR OS ON OT OU OO OK OL O6 (O1 == O3) O7) else some (U,OP,J)) else some (U,OP,J))
def jS (rec:(List (ByteArray×(Int×T2_)))->Int->(List (ByteArray×yP))->yP->Int->yP->Option T2_) (N:Nat):Nat->Int->yP->(List (ByteArray×(Int×T2_)))->Int->(List (ByteArray×yP))->yP->T2_->Int->T2_->Int->Option (T2_×Int)
 | 0,_,_,_,_,_,_,_,_,_,_=>none
 | k+1,U,OJ,OK,OL,OM,ON,OO,OQ,OP,J=>(bif decide (J<(OP.length:Int)) then (apd 8 [] OJ).bind fun OR=>(iG rec N N U OJ OK OL OM ON OO OQ OP J OR true 0).bind fun OS=>lpB OS fun (OT,OU,O0)=>(bif OU then (ad U 1).bind fun OV=>(rec OK OL OM ON OV OT).bind fun OW=>(apd 24 OO OW).bind fun OX=>(ad J 1).bind fun OY=>jS rec N k U OJ OK OL OM ON OX OQ OP OY else (ad J 1).bind fun OZ=>jS rec N k U OJ OK OL OM ON OO OQ OP OZ) else some (OO,J))
def iQ:Nat->(List (ByteArray×(Int×T2_)))->Int->(List (ByteArray×yP))->yP->Int->yP->Option T2_
 | 0,_,_,_,_,_,_=>none
 | N+1,a0,a1,a2,a3,a4,a5=>(bif (a4 == (a2.length:Int)) then (apd 8 [] a5).bind fun U=>some ([U]) else (ix a2 a4).bind fun OJ=>(iP N a0 OJ.1).bind fun J=>(jS (iQ N) N N a4 a5 a0 a1 a2 a3 [] J.1.1 J.1.2 0).bind fun OK=>lpB OK fun (OL,OM)=>some OL)
def hQ (N:Nat):Nat->(List (ByteArray×(Int×T2_)))->Int->(List (ByteArray×yP))->yP->Int->T2_->yP->Option yP
 | 0,_,_,_,_,_,_,_=>none
 | k+1,OJ,U,OK,OL,OM,ON,J=>(bif decide ((J.length:Int)<U) then (apd 8 J [(-1)]).bind fun OO=>hQ N k OJ U OK OL OM ON OO else some J)
def lG (N:Nat) (a0:List (ByteArray×(Int×T2_))) (a1:Int) (a2:List (ByteArray×yP)) (a3:yP):Option (Int×T2_):=(kz N a0 a1 a2 a3).bind fun U=>(bif U then (hQ N N a0 a1 a2 a3 0 [] []).bind fun OJ=>lpB OJ fun OK=>(iQ N a0 a1 a2 a3 0 OK).bind fun OL=>(j0 N a1 OL).bind fun J=>(bif J.2 then some (J.1.1,J.1.2) else some (0,[])) else some (0,[]))
def iT (N:Nat):Nat->Int->T6_->T3_->T3_->Int->Int->T3_->Int->Int->Bool->T6_->Int->Int->Option (T3_×Int×Int×Bool×Int)
 | 0,_,_,_,_,_,_,_,_,_,_,_,_,_=>none
 | k+1,OJ,ON,OO,OK,OP,OQ,OU,OR,OS,OT,OL,OM,J=>(bif decide (J<OM) then (ix OL J).bind fun OV=>(kA N OK OV).bind fun U=>(bif U.2 then (bif OT then (ig N U.1.1 U.1.2 OR OS).bind fun OW=>(ml OJ OW).bind fun OX=>(bif decide (OX<0) then (ad J 1).bind fun OY=>iT N k OJ ON OO OK OP OQ OV U.1.1 U.1.2 true OL OM OY else (ad J 1).bind fun OZ=>iT N k OJ ON OO OK OP OQ OU OR OS OT OL OM OZ) else (ad J 1).bind fun O0=>iT N k OJ ON OO OK OP OQ OV U.1.1 U.1.2 true OL OM O0) else (ad J 1).bind fun O1=>iT N k OJ ON OO OK OP OQ OU OR OS OT OL OM O1) else some (OU,OR,OS,OT,J))
def ui (N:Nat) (a0:T6_) (a1 a2:T3_) (a3:Int):Option (T3_×T1_×Bool):=(lZ N a0 a1 a2 a3).bind fun J=>(iT N N a3 a0 a1 a2 0 0 [] 0 0 false J (J.length:Int) 0).bind fun U=>lpB U fun (OJ,OK,OL,OM,ON)=>some (OJ,(OK,OL),OM)
def i5 (N:Nat):Nat->T6_->T3_->T3_->Int->Int->T3_->Int->Int->Option (Sum (T3_×T1_×Bool) Int)
 | 0,_,_,_,_,_,_,_,_=>none
 | k+1,OK,OL,OM,ON,OO,U,OJ,J=>(bif decide (J<OJ) then (ix U J).bind fun OP=>(bif decide (OP.1<0) then some (.inl ([],(0,0),false)) else (ad J 1).bind fun OQ=>i5 N k OK OL OM ON OO U OJ OQ) else some (.inr J))
def pD (N:Nat) (a0:T6_) (a1 a2:T3_):Option (T3_×T1_×Bool):=(dZ N a0 a1 a2).bind fun U=>(bif U then (i5 N N a0 a1 a2 0 0 a2 (a2.length:Int) 0).bind fun OJ=>lpS OJ (fun q=>some q) fun OK=>(ui N a0 a1 a2 1).bind fun J=>some (J.1,(J.2.1.1,J.2.1.2),J.2.2) else some ([],(0,0),false))
def lc (N:Nat) (a0:Int) (a1:List (ByteArray×yP)) (a2:yP):Option (T3_×T1_×Bool):=(jA N a0 a1 a2).bind fun U=>(pD N U.1.1 U.1.2.1 U.1.2.2).bind fun J=>some (J.1,(J.2.1.1,J.2.1.2),J.2.2)
def gJ (N:Nat):Nat->yP->Int->Int->yP->Int->yP->Int->Int->Option (Sum Bool Int)
 | 0,_,_,_,_,_,_,_,_=>none
 | k+1,OK,OL,OM,ON,OO,U,OJ,J=>(bif decide (J<OJ) then (ix U J).bind fun OP=>(bif decide (OP<0) then some (.inl false) else (ad J 1).bind fun OQ=>gJ N k OK OL OM ON OO U OJ OQ) else some (.inr J))
def mx (N:Nat) (a0:yP) (a1:T3_) (a2 a3:Int):Option Bool:=(fU N a1).bind fun J=>(bif decide (a2<0) then some false else (bif decide (J.2<1) then some false else (bif decide (100<J.2) then some false else (gJ N N a0 a2 a3 J.1 J.2 a0 (a0.length:Int) 0).bind fun OM=>lpS OM (fun q=>some q) fun OO=>(gW N a2 J.2).bind fun U=>(f8 N a0 J.1).bind fun OJ=>(gW N a3 J.2).bind fun OK=>(gU N OJ.1 OK.1).bind fun OL=>(bif U.2 then (bif OJ.2 then (bif OK.2 then (bif OL.2 then (eO N U.1 OL.1).bind fun ON=>some (decide (ON<=0)) else some false) else some false) else some false) else some false))))
def dS (N:Nat) (a0:yP) (a1:T3_) (a2:Int):Option Bool:=(mx N a0 a1 a2 1).bind fun J=>some J
def eX (N:Nat):Nat->yP->T3_->Int->Int->Option T1_
 | 0,_,_,_,_=>none
 | k+1,OJ,OK,J,U=>(bif decide (J<U) then (ad J U).bind fun OM=>(ad OM 1).bind fun ON=>(qt ON 2).bind fun OL=>(dS N OJ OK OL).bind fun OO=>(bif OO then eX N k OJ OK OL U else (sb OL 1).bind fun OP=>eX N k OJ OK J OP) else some (J,U))
def kY (N:Nat) (a0:Int) (a1:List (ByteArray×yP)) (a2 a3:yP):Option (Int×Bool):=(jc N a0 a1 a2 a3).bind fun J=>(bif J.2 then (dS N a3 J.1 0).bind fun U=>(bif U then (eX N N a3 J.1 0 100000).bind fun OJ=>lpB OJ fun (OK,OL)=>some (OK,true) else some (0,false)) else some (0,false))
def cE (N:Nat) (a0:yP) (a1:T3_) (a2:Int):Option Bool:=(cB N a1).bind fun J=>(dl N a0 J.1).bind fun U=>(gX N a2 J.2).bind fun OJ=>(bif decide (0<J.2) then (bif U.2 then (bif OJ.2 then (fx N OJ.1 U.1).bind fun OK=>some (decide (OK<=0)) else some false) else some false) else some false)
def nT (N:Nat) (a0:yP):Option Bool:=(vM N a0).bind fun ON=>(bif ON then some true else (kc N a0).bind fun J=>(j4 N J.1 J.2.1 J.2.2.1 J.2.2.2).bind fun U=>(kz N J.1 J.2.1 J.2.2.1 J.2.2.2).bind fun OO=>(bif OO then (lG N J.1 J.2.1 J.2.2.1 J.2.2.2).bind fun OL=>(jc N J.2.1 J.2.2.1 J.2.2.2 U.1).bind fun OJ=>(lc N J.2.1 J.2.2.1 J.2.2.2).bind fun OM=>(kY N J.2.1 J.2.2.1 J.2.2.2 U.1).bind fun OK=>(bif U.2 then (bif OJ.2 then (bif OM.2.2 then (bif OK.2 then (dS N U.1 OJ.1 (OL.2.length:Int)).bind fun OP=>(bif OP then (cE N U.1 OM.1 (OL.2.length:Int)).bind fun OQ=>(bif OQ then (bif decide ((OL.2.length:Int)<=OK.1) then (cE N U.1 OJ.1 OK.1).bind fun OR=>(bif OR then (ad OK.1 1).bind fun OS=>(cE N U.1 OJ.1 OS).bind fun OT=>some (!OT) else some false) else some false) else some false) else some false) else some false) else some false) else some false) else some false) else some (!U.2)))
def inR (n lo hi:Int):Bool:=decide (lo<=n)&&decide (n<=hi)
theorem gi (N:Nat) (n lo hi:Int):dv N n lo hi=some (inR n lo hi):=by
 unfold dv inR;cases decide (lo<=n) <;> rfl
theorem fQ (N:Nat) (n lo hi:Int):dy N n lo hi=some (inR n lo hi):=by
 unfold dy inR;cases decide (lo<=n) <;> rfl
theorem ck {n lo hi:Int}:inR n lo hi=true↔lo<=n/\n<=hi:=by unfold inR;simp
def lP (a b:Int):Int:=if a<b then -1 else if b<a then 1 else 0
def cw:yP->yP->Int
 | [],[]=>0
 | [],_ :: _=>-1
 | _ :: _,[]=>1
 | a :: xs,b :: ys=>if a<b then -1 else if b<a then 1 else cw xs ys
theorem oE:∀ {xs ys:yP},cw xs ys=0↔xs=ys
 | [],[]=>by simp [cw]
 | [],_ :: _=>by simp [cw]
 | _ :: _,[]=>by simp [cw]
 | a :: xs,b :: ys=>by
  unfold cw
  by_cases h1:a<b
  ·rw [aK h1];simp;omega
  ·rw [aS h1]
   by_cases h2:b<a
   ·rw [aK h2];simp;omega
   ·rw [aS h2,oE,xJ]
    constructor
    ·rintro rfl;exact ⟨oa,rfl⟩
    ·exact fun h=>h.2
theorem EF (xs:yP):cw xs []=if xs.length=0 then 0 else 1:=by cases xs <;> simp [cw]
theorem Ea (xs:yP):cw [] xs=if xs.length=0 then 0 else -1:=by cases xs <;> simp [cw]
theorem jW (N:Nat) (a b:Int):f9 N a b=some (lP a b):=by
 unfold f9 lP
 by_cases h1:a<b
 ·rw [aJ h1,aK h1];rfl
 ·rw [aN h1,aS h1]
  by_cases h2:b<a
  ·rw [aJ h2,aK h2];rfl
  ·rw [aN h2,aS h2];rfl
theorem km {α:Type} {xs:List α} {i:Nat} (h:i<xs.length):xs.drop i=xs[i] :: xs.drop (i+1):=tQ h
section
variable {N:Nat} {xs ys:yP}
theorem JM (hx:xs.length<=1048576) (hy:ys.length<=9223372036854775807):∀ k i,i<=xs.length->i<=ys.length->xs.length-i<k ->
  ∃ s,jF N k xs ys (i:Int)=some s/\(match s with | .inl r=>cw (xs.drop i) (ys.drop i)=r | .inr _=>cw (xs.drop i) (ys.drop i)=lP xs.length ys.length):=by
 intro k
 induction k with
 | zero=>intro i h1 h2 h3;omega
 | succ k ih =>
  intro i h1 h2 h3
  rw [jF]
  by_cases h:i<xs.length
  ·by_cases h':i<ys.length
   ·rw [dlt h,ae,dlt h',ae,bh h,bs,bh h',bs,km h,km h',cw]
    by_cases he:xs[i]=ys[i]
    ·rw [show (xs[i] != ys[i])=false by simpa using he,ai,ad1 oa,bs,aS oa,aS oa]
     exact ih (i+1) oa oa oa
    ·rw [show (xs[i] != ys[i])=true by simpa using he,ae,bs,bs,jW,bs]
     refine ⟨_,rfl,?_⟩
     show _=lP xs[i] ys[i]
     unfold lP
     by_cases h1:xs[i]<ys[i]
     ·rw [aK h1,aK h1]
     ·rw [aS h1,aS h1,aK oa,aK oa]
   ·rw [dlt h,ae,dge h',ai]
    refine ⟨_,rfl,?_⟩
    show _=lP _ _
    rw [mN (l:=ys) oa,EF,aS (by simp;omega)]
    unfold lP;rw [aS oa,aK oa]
  ·rw [dge h,ai]
   refine ⟨_,rfl,?_⟩
   show _=lP _ _
   rw [mN (l:=xs) oa,Ea]
   unfold lP
   by_cases h':i<ys.length
   ·rw [aS (by simp;omega),aK oa]
   ·rw [aK (by simp;omega),aS oa,aS oa]
theorem qR (hN:1073741824<=N) (hx:xs.length<=1048576) (hy:ys.length<=9223372036854775807):iZ N xs ys=some (cw xs ys):=by
 obtain ⟨s,h1,h2⟩:=JM (N:=N) hx hy N 0 oa oa oa
 unfold iZ
 rw [show ((0:Int))=((0:Nat):Int) from rfl,h1,bs]
 simp only [gE] at h2
 cases s with
 | inl r=>rw [h2];rfl
 | inr v=>show (f9 N _ _).bind _=_;rw [jW,bs,h2]
theorem Jh (hx:xs.length<=1048576) (hy:ys.length<=9223372036854775807):∀ k i,i<=xs.length->i<=ys.length->xs.length-i<k ->
  ∃ s,jE N k xs ys (i:Int)=some s/\(match s with | .inl r=>cw (xs.drop i) (ys.drop i)=r | .inr _=>cw (xs.drop i) (ys.drop i)=lP xs.length ys.length):=by
 intro k
 induction k with
 | zero=>intro i h1 h2 h3;omega
 | succ k ih =>
  intro i h1 h2 h3
  rw [jE]
  by_cases h:i<xs.length
  ·by_cases h':i<ys.length
   ·rw [dlt h,ae,dlt h',ae,bh h,bs,bh h',bs,km h,km h',cw]
    by_cases he:xs[i]<ys[i]
    ·rw [aJ he,ae,aK he];exact ⟨_,rfl,rfl⟩
    ·rw [aN he,ai,aS he,bs,bs]
     by_cases he2:ys[i]<xs[i]
     ·rw [aJ he2,ae,aK he2];exact ⟨_,rfl,rfl⟩
     ·rw [aN he2,ai,aS he2,ad1 oa,bs]
      exact ih (i+1) oa oa oa
   ·rw [dlt h,ae,dge h',ai]
    refine ⟨_,rfl,?_⟩
    show _=lP _ _
    rw [mN (l:=ys) oa,EF,aS (by simp;omega)]
    unfold lP;rw [aS oa,aK oa]
  ·rw [dge h,ai]
   refine ⟨_,rfl,?_⟩
   show _=lP _ _
   rw [mN (l:=xs) oa,Ea]
   unfold lP
   by_cases h':i<ys.length
   ·rw [aS (by simp;omega),aK oa]
   ·rw [aK (by simp;omega),aS oa,aS oa]
theorem nP (hN:1073741824<=N) (hx:xs.length<=1048576) (hy:ys.length<=9223372036854775807):cN N xs ys=some (cw xs ys):=by
 obtain ⟨s,h1,h2⟩:=Jh (N:=N) hx hy N 0 oa oa oa
 unfold cN
 rw [show ((0:Int))=((0:Nat):Int) from rfl,h1,bs]
 simp only [gE] at h2
 cases s with
 | inl r=>rw [h2];rfl
 | inr v =>
  rw [h2]
  show (bif decide ((xs.length:Int)<(ys.length:Int)) then _ else _)=_
  unfold lP
  by_cases h1:(xs.length:Int)<ys.length
  ·rw [aJ h1,aK h1];rfl
  ·rw [aN h1,aS h1,ai]
   by_cases h2:(ys.length:Int)<xs.length
   ·rw [aJ h2,aK h2];rfl
   ·rw [aN h2,aS h2];rfl
def fnd (v:Int):yP->Int->Int
 | [],_=>-1
 | x :: xs,i=>if x=v then i else fnd v xs (i+1)
def fW (xs:yP) (v:Int):Int:=fnd v xs 0
theorem EI (v:Int):∀ (xs:yP) (i:Nat),(v∉xs/\fnd v xs i=-1)\/∃ j,∃ h:j<xs.length,xs[j]=v/\fnd v xs i=((i+j:Nat):Int)/\v∉xs.take j
 | [],i=>.inl ⟨by simp,rfl⟩
 | x :: xs,i=>by
  unfold fnd
  by_cases h:x=v
  ·rw [aK h];exact .inr ⟨0,by simp,by simpa using h,by simp,by simp⟩
  ·rw [aS h]
   rcases EI v xs (i+1) with ⟨h1,h2⟩ | ⟨j,hj,h1,h2,h3⟩
   ·exact .inl ⟨by simp [h1,qz h],by simpa using h2⟩
   ·exact .inr ⟨j+1,by simpa using hj,by simpa using h1,by rw [show ((i:Int)+1)=((i+1:Nat):Int) by simp,h2];congr 1;omega,by simp [h3,qz h]⟩
theorem sF (xs:yP) (v:Int):(v∉xs/\fW xs v=-1)\/∃ j,∃ h:j<xs.length,xs[j]=v/\fW xs v=(j:Int)/\v∉xs.take j:=by
 have:=EI v xs 0
 simpa [fW] using this
theorem tA (xs:yP) (v:Int):decide (0<=fW xs v)=decide (v∈xs):=by
 rcases sF xs v with ⟨h1,h2⟩ | ⟨j,hj,h1,h2,_⟩
 ·rw [h2,aN oa,aN h1]
 ·rw [h2,aJ oa,aJ (h1 ▸ bA hj)]
theorem By (hN:1073741824<=N) (hx:xs.length<=1048576) (v:Int):mQ N xs v=some (fW xs v):=by
 have key:∀ k i,i<=xs.length->xs.length-i<k->∃ s,mg N k v xs (xs.length:Int) (i:Int)=some s/\(match s with | .inl r=>fnd v (xs.drop i) i=r | .inr _=>fnd v (xs.drop i) i=-1):=by
  intro k
  induction k with
  | zero=>intro i h1 h2;omega
  | succ k ih =>
   intro i h1 h2
   rw [mg]
   by_cases h:i<xs.length
   ·rw [dlt h,ae,bh h,bs,km h,fnd]
    by_cases he:xs[i]=v
    ·rw [show (xs[i] == v)=true by simpa using he,ae,aK he];exact ⟨_,rfl,rfl⟩
    ·rw [show (xs[i] == v)=false by simpa using he,ai,aS he,ad1 oa,bs]
     have:=ih (i+1) oa oa
     simpa using this
   ·rw [dge h,ai,mN oa];exact ⟨_,rfl,rfl⟩
 obtain ⟨s,h1,h2⟩:=key N 0 oa oa
 unfold mQ fW
 rw [show ((0:Int))=((0:Nat):Int) from rfl,h1,bs]
 simp only [gE] at h2
 cases s with
 | inl r=>rw [h2];rfl
 | inr r=>rw [h2];rfl
theorem HJ (hN:1073741824<=N) (hx:xs.length<=1048576) (v:Int):po N xs v=some (fW xs v):=by
 have key:∀ k i,i<=xs.length->xs.length-i<k->∃ s,mD N k xs v (i:Int)=some s/\(match s with | .inl r=>fnd v (xs.drop i) i=r | .inr _=>fnd v (xs.drop i) i=-1):=by
  intro k
  induction k with
  | zero=>intro i h1 h2;omega
  | succ k ih =>
   intro i h1 h2
   rw [mD]
   by_cases h:i<xs.length
   ·rw [dlt h,ae,bh h,bs,km h,fnd]
    by_cases he:xs[i]=v
    ·rw [show (xs[i] == v)=true by simpa using he,ae,aK he];exact ⟨_,rfl,rfl⟩
    ·rw [show (xs[i] == v)=false by simpa using he,ai,aS he,ad1 oa,bs]
     have:=ih (i+1) oa oa
     simpa using this
   ·rw [dge h,ai,mN oa];exact ⟨_,rfl,rfl⟩
 obtain ⟨s,h1,h2⟩:=key N 0 oa oa
 unfold po fW
 rw [show ((0:Int))=((0:Nat):Int) from rfl,h1,bs]
 simp only [gE] at h2
 cases s with
 | inl r=>rw [h2];rfl
 | inr r=>rw [h2];rfl
theorem Co (hN:1073741824<=N) (hx:xs.length<=1048576) (v:Int):nL N xs v=some (decide (v∈xs)):=by
 unfold nL;rw [By hN hx,bs,tA]
def bW (xs:yP):Bool:=xs.all fun x=>inR x 0 99
theorem uj (hN:1073741824<=N) (hx:xs.length<=1048576):jG N xs=some (bW xs):=by
 have:=pF (L:=fun k i=>fi N k xs (xs.length:Int) i) xs.length oa false (fun i=>if h:i<xs.length then inR xs[i] 0 99 else true) (xs.length:Int)
  (fun k i h=>by
   show fi N (k+1) xs _ (i:Int)=_
   rw [fi,dlt h,ae,bh h,bs,gi,bs,ad1 oa,bs]
   simp only [mG h])
  (fun k=>by
   show fi N (k+1) xs _ (xs.length:Int)=_
   rw [fi,dge oa,ai]) N 0 oa oa
 unfold jG bW
 rw [show ((0:Int))=((0:Nat):Int) from rfl,this,bs,lB,pU xs (fun x=>inR x 0 99) _ (fun i hi=>by rw [mG hi])]
 cases xs.all fun x=>inR x 0 99 <;> rfl
theorem pq (hN:1073741824<=N) (hx:xs.length<=1048576):iM N xs=some (bW xs):=by
 have:=pF (L:=fun k i=>ff N k xs i) xs.length oa false (fun i=>if h:i<xs.length then inR xs[i] 0 99 else true) (xs.length:Int)
  (fun k i h=>by
   show ff N (k+1) xs (i:Int)=_
   rw [ff,dlt h,ae,bh h,bs,fQ,bs,ad1 oa,bs]
   simp only [mG h])
  (fun k=>by
   show ff N (k+1) xs (xs.length:Int)=_
   rw [ff,dge oa,ai]) N 0 oa oa
 unfold iM bW
 rw [show ((0:Int))=((0:Nat):Int) from rfl,this,bs,lB,pU xs (fun x=>inR x 0 99) _ (fun i hi=>by rw [mG hi])]
 cases xs.all fun x=>inR x 0 99 <;> rfl
def asc:yP->Bool
 | []=>true
 | [_]=>true
 | x :: y :: t=>decide (x<y)&&asc (y :: t)
def kj (xs:yP) (n:Int):Bool:=(List.range' 0 xs.length).all fun i=>inR (xs.getD i 0) 0 (n-1)&&!decide (xs.getD i 0∈xs.take i)
theorem bu {xs:yP} {i:Nat} (h:i<xs.length):xs.getD i 0=xs[i]:=by simp [h]
theorem GA (hN:1073741824<=N) (hx:xs.length<=1048576) {n:Int} (hn:-1099511627776<=n/\n<=1099511627776):ov N xs n=some (kj xs n):=by
 have:=pF (L:=fun k i=>iK N k xs n xs (xs.length:Int) i) xs.length oa false (fun i=>inR (xs.getD i 0) 0 (n-1)&&!decide (xs.getD i 0∈xs.take i)) (xs.length:Int)
  (fun k i h=>by
   show iK N (k+1) xs n xs _ (i:Int)=_
   rw [iK,dlt h,ae,bh h,bs,fL oa oa,bs,gi,bs,show ((0:Int))=((0:Nat):Int) from rfl,ow (cV _) oa,bs,gE,Co hN (by simp;omega),bs,ad1 oa,bs]
   simp only [show ((0:Nat):Int)=0 from rfl,bu h]
   cases inR xs[i] 0 (n-1)
   ·rfl
   ·cases decide (xs[i]∈xs.take i) <;> rfl)
  (fun k=>by
   show iK N (k+1) xs n xs _ (xs.length:Int)=_
   rw [iK,dge oa,ai]) N 0 oa oa
 unfold ov kj
 rw [show ((0:Int))=((0:Nat):Int) from rfl,this,bs,lB]
 simp only [show ((0:Nat):Int)=0 from rfl]
 cases (List.range' 0 xs.length).all fun i=>inR (xs.getD i 0) 0 (n-1)&&!decide (xs.getD i 0∈xs.take i) <;> rfl
def vg (xs:yP):Bool:=decide ((xs.length:Int)<=5)&&kj xs xs.length
end
abbrev okI (xs:yP):Prop:=s8 (fun _=>True) 1048576 xs
abbrev mH (xs:List (yP)):Prop:=s8 (s8 (fun _=>True) 1048576) 1048576 xs
section
variable {N:Nat}
theorem JN (xs ys:yP):(cw xs ys != 0)=!decide (xs=ys):=by
 rw [Jc];congr 1;rw [xz];exact oE
end
def sG (n:Int) (rows:List (yP)) (i:Nat):Bool :=
 decide (((rows.getD i []).length:Int)=n)&&bW (rows.getD i [])&&(Nat.beq i 0||decide (cw (rows.getD (i-1) []) (rows.getD i [])<0))
def cI (n:Int) (rows:List (yP)):Bool:=inR n 0 5&&decide ((rows.length:Int)<=4000)&&(List.range' 0 rows.length).all (sG n rows)
theorem lX {rows:List (yP)} {i:Nat} (h:i<rows.length):rows.getD i []=rows[i]:=by simp [h]
section
variable {N:Nat}
theorem Cw (a:Int):decide (0<=a)=!decide (a<0):=by by_cases h:a<0 <;> simp [h];omega
theorem DH (hN:1073741824<=N) {n:Int} {rows:List (yP)} (hx:mH rows):mC N n rows=some (cI n rows):=by
 have hl:=hx.1
 have:=pF (L:=fun k i=>gk N k n rows rows (rows.length:Int) i) rows.length oa false (sG n rows) (rows.length:Int)
  (fun k i h=>by
   have h1:=(hx.2 _ (bA h)).1
   show gk N (k+1) n rows rows _ (i:Int)=_
   rw [gk,dlt h,ae,bh h,bs,Jc,uj hN h1,bs]
   unfold sG
   rw [lX h]
   cases decide ((rows[i].length:Int)=n)
   ·rfl
   cases bW rows[i]
   ·rfl
   cases i with
   | zero=>rw [ad1 oa];rfl
   | succ j =>
    rw [show decide (0<((j+1:Nat):Int))=true from aJ oa,fL oa oa,bs,show (((j+1:Nat):Int)-1)=(j:Int) by omega,bh oa,bs,qR hN (hx.2 _ (bA oa)).1 oa,bs,ad1 oa,bs,Cw,rP,lX oa]
    cases decide (cw rows[j] rows[j+1]<0) <;> rfl)
  (fun k=>by
   show gk N (k+1) n rows rows _ (rows.length:Int)=_
   rw [gk,dge oa,ai]) N 0 oa oa
 unfold mC cI
 rw [gi,bs,show ((0:Int))=((0:Nat):Int) from rfl,this,bs,lB]
 by_cases h4:(rows.length:Int)<=4000
 ·rw [aJ h4,aN (by omega:¬ (4000:Int)<rows.length)]
  simp only [show ((0:Nat):Int)=0 from rfl]
  cases inR n 0 5 <;> cases (List.range' 0 rows.length).all (sG n rows) <;> rfl
 ·rw [aN h4,aJ (by omega:(4000:Int)<rows.length)]
  simp only [show ((0:Nat):Int)=0 from rfl]
  cases inR n 0 5 <;> rfl
theorem tS (hN:1073741824<=N) {n:Int} {rows:List (yP)} (hx:mH rows):iv N n rows=some (cI n rows):=by
 unfold iv;rw [DH hN hx,bs]
theorem oZ (hN:1073741824<=N) {n:Int} {rows:List (yP)} (hx:mH rows):gL N n rows=some (cI n rows):=by
 have hl:=hx.1
 have:=pF (L:=fun k i=>dW N k n rows i) rows.length oa false (sG n rows) (rows.length:Int)
  (fun k i h=>by
   have h1:=(hx.2 _ (bA h)).1
   show dW N (k+1) n rows (i:Int)=_
   rw [dW,dlt h,ae,bh h,bs,Jc,bs,pq hN h1,bs]
   unfold sG
   rw [lX h]
   cases decide ((rows[i].length:Int)=n)
   ·rfl
   cases bW rows[i]
   ·rfl
   cases i with
   | zero=>rw [ad1 oa];rfl
   | succ j =>
    rw [show decide (0<((j+1:Nat):Int))=true from aJ oa,fL oa oa,bs,show (((j+1:Nat):Int)-1)=(j:Int) by omega,bh oa,bs,bs,nP hN (hx.2 _ (bA oa)).1 oa,bs,ad1 oa,bs,Cw,rP,lX oa]
    cases decide (cw rows[j] rows[j+1]<0) <;> rfl)
  (fun k=>by
   show dW N (k+1) n rows (rows.length:Int)=_
   rw [dW,dge oa,ai]) N 0 oa oa
 unfold gL cI
 rw [fQ,bs,show ((0:Int))=((0:Nat):Int) from rfl,this,bs,lB]
 by_cases h4:(rows.length:Int)<=4000
 ·rw [aJ h4,aN (by omega:¬ (4000:Int)<rows.length)]
  simp only [show ((0:Nat):Int)=0 from rfl]
  cases inR n 0 5 <;> cases (List.range' 0 rows.length).all (sG n rows) <;> rfl
 ·rw [aN h4,aJ (by omega:(4000:Int)<rows.length)]
  simp only [show ((0:Nat):Int)=0 from rfl]
  cases inR n 0 5 <;> rfl
theorem iy {n:Int} {rows:List (yP)} (h:cI n rows=true):0<=n/\n<=5/\rows.length<=4000/\∀ i (hi:i<rows.length),(rows[i].length:Int)=n/\bW rows[i]=true/\(∀ j (hj:j+1=i),cw (rows[j]'oa) rows[i]<0):=by
 unfold cI at h
 simp only [ce,ck,dm,df] at h
 refine ⟨h.1.1.1,h.1.1.2,oa,fun i hi=>?_⟩
 have:=h.2 i (by simp;omega)
 unfold sG at this
 rw [lX hi] at this
 simp only [ce,dm,rQ] at this
 refine ⟨this.1.1,this.1.2,?_⟩
 rintro j rfl
 rcases this.2 with h2 | h2
 ·exact absurd (tv h2) oa
 ·rw [rP,lX oa] at h2;exact h2

theorem yj {a b:Int} (h:b≠0):rm a b=some (a.tmod b):=by unfold rm;rw [aK h]
theorem BY {a b:Int} (ha:0<=a) (hb:0<b):0<=a.tmod b/\a.tmod b<b:=⟨Int.tmod_nonneg _ ha,Int.tmod_lt_of_pos _ hb⟩
end
abbrev nt:=yP × yP
def Js (far:yP) (i:Nat) (ch:yP) (j:Nat):Bool:=inR (ch.getD j 0) 0 ((i:Int)-1)&&decide (far.getD (ch.getD j 0).toNat 0=far.getD (ch.getD 0 0).toNat 0)
def FV (nodes:List nt) (i:Nat) (x:nt):Bool:=((nodes.take i).drop 1).all fun m=>!decide (m=x)
def J2 (nodes:List nt) (olen:Nat) (far:yP) (i:Nat) (x:nt):Option Int :=
 bif decide (x.1.length=x.2.length)&&bW x.1&&asc x.1 then
  bif decide (x.1.length=0) then (bif decide (i+1=nodes.length) then some (olen:Int) else none)
  else bif (List.range' 0 x.2.length).all (Js far i x.2)&&FV nodes i x then some (far.getD (x.2.getD 0 0).toNat 0+1) else none
 else none
structure VF (olen:Nat) (nodes:List nt) (far:yP):Prop where
 pos:1<=nodes.length
 le:nodes.length<=4000
 z1:(nodes.getD 0 ([],[])).1=[]
 z2:(nodes.getD 0 ([],[])).2=[]
 len:far.length=nodes.length
 f0:far.getD 0 0=0
 last:far.getD (nodes.length-1) 0=(olen:Int)
 nd:∀ i,1<=i->i<nodes.length->J2 nodes olen (far.take i) i (nodes.getD i ([],[]))=some (far.getD i 0)
theorem Hl {xs:yP} {i j:Nat} (h:j<i):(xs.take i).getD j 0=xs.getD j 0:=by
 rw [nD,nD,jr,aK h]
theorem VF.node {olen:Nat} {nodes:List nt} {far:yP} (V:VF olen nodes far) {i:Nat} (h1:1<=i) (h2:i<nodes.length) :
    (nodes.getD i ([],[])).1.length=(nodes.getD i ([],[])).2.length/\asc (nodes.getD i ([],[])).1=true /\
    ((nodes.getD i ([],[])).1=[]/\i+1=nodes.length/\far.getD i 0=olen \/
     (nodes.getD i ([],[])).1≠[]/\∀ j,j<(nodes.getD i ([],[])).2.length->0<=(nodes.getD i ([],[])).2.getD j 0/\(nodes.getD i ([],[])).2.getD j 0<i/\far.getD ((nodes.getD i ([],[])).2.getD j 0).toNat 0+1=far.getD i 0):=by
  have h:=V.nd i h1 h2
  generalize nodes.getD i ([],[])=x at *
  unfold J2 at h
  cases e1:(decide (x.1.length=x.2.length)&&bW x.1&&asc x.1) with
  | false=>rw [e1] at h;cases h
  | true =>
    rw [e1,ae] at h
    simp only [ce,dm] at e1
    refine ⟨e1.1.1,e1.2,?_⟩
    by_cases hz:x.1.length=0
    · rw [aJ hz,ae] at h
      by_cases hi:i+1=nodes.length
      · rw [aJ hi,ae] at h
        exact .inl ⟨ko.1 hz,hi,(bL h).symm⟩
      · rw [aN hi] at h;cases h
    · rw [aN hz,ai] at h
      cases ha:(List.range' 0 x.2.length).all (Js (far.take i) i x.2) with
      | false=>rw [ha] at h;cases h
      | true =>
        rw [ha,eG] at h
        cases hb:FV nodes i x with
        | false=>rw [hb] at h;cases h
        | true =>
          rw [hb,ae] at h
          refine .inr ⟨fun e=>hz (by simp [e]),fun j hj=>?_⟩
          have hc:∀ j,j<x.2.length->0<=x.2.getD j 0/\x.2.getD j 0<i/\far.getD (x.2.getD j 0).toNat 0=(far.take i).getD (x.2.getD 0 0).toNat 0:=by
            intro j hj
            have:=(df.1 ha) j (by simp;omega)
            unfold Js at this
            simp only [ce,dm] at this
            have g:=ck.1 this.1
            refine ⟨g.1,oa,?_⟩
            rw [<- this.2,Hl oa]
          obtain ⟨q1,q2,q3⟩:=hc j hj
          exact ⟨q1,q2,by rw [q3];exact bL h⟩
theorem jv {σ V:Type} (L:Nat->σ->Int->Option V) (n:Nat) (A:Nat->σ) (v:V)
  (hstep:∀ k i,i<n->L (k+1) (A i) (i:Int)=L k (A (i+1)) ((i+1:Nat):Int)) (hend:∀ k,L (k+1) (A n) (n:Int)=some v) :
  ∀ k i,i<=n->n-i<k->L k (A i) (i:Int)=some v:=by
 intro k
 induction k with
 | zero=>intro i hi hk;omega
 | succ k ih =>
  intro i hi hk
  by_cases h:i<n
  ·rw [hstep k i h];exact ih (i+1) oa oa
  ·obtain rfl:i=n:=by omega
   exact hend k
theorem VF.lens {olen:Nat} {nodes:List nt} {far:yP} (V:VF olen nodes far) {i:Nat} (h2:i<nodes.length):(nodes.getD i ([],[])).1.length=(nodes.getD i ([],[])).2.length:=by
 by_cases h1:1<=i
 ·exact (V.node h1 h2).1
 ·obtain rfl:i=0:=by omega
  rw [V.z1,V.z2]
theorem VF.asc {olen:Nat} {nodes:List nt} {far:yP} (V:VF olen nodes far) {i:Nat} (h2:i<nodes.length):Go.Proofs.YtijmbnbnojicjaaGreatDoor.asc (nodes.getD i ([],[])).1=true:=by
 by_cases h1:1<=i
 ·exact (V.node h1 h2).2.1
 ·obtain rfl:i=0:=by omega
  rw [V.z1];rfl
section
variable {N:Nat}
theorem Gi {b:Nat} {α:Type} {xs:List α} (hb:b<=64) (h:xs.length<=1048576):apd b [] xs=some xs:=by
 rw [bB hb (by simp;omega)];rfl
theorem Ep {b:Nat} {α:Type} {xs:List α} {i:Nat} (hb:b<=64) (h:i<xs.length) (hl:xs.length<=1048576):apd b (xs.take i) [xs[i]]=some (xs.take (i+1)):=by
 rw [bB hb (by simp;omega),gR h]
theorem Fx {rows:List (yP)} (h:mH rows) {i:Nat} (hi:i<rows.length):rows[i].length<=1048576:=(h.2 _ (bA hi)).1
theorem CT (hN:1073741824<=N) {a:Int} {rows:List (yP)} (h:mH rows):nF N a rows=some (a,rows):=by
 have hl:=h.1
 unfold nF
 have hL:=jv (fun k (s:List (yP)) i=>iB N k a rows 0 [] a s i) rows.length (fun i=>rows.take i) (rows,(rows.length:Int))
  (fun k i hi=>by
   show iB N (k+1) a rows 0 [] a (rows.take i) (i:Int)=_
   rw [iB,dlt hi,ae,bh hi,bs,Gi (by decide) (Fx h hi),bs,Ep (by decide) hi hl,bs,ad1 oa,bs])
  (fun k=>by
   show iB N (k+1) a rows 0 [] a (rows.take rows.length) (rows.length:Int)=_
   rw [iB,dge oa,ai,gP]) N 0 oa oa
 have hL':iB N N a rows 0 [] a [] 0=_:=hL
 rw [hL',bs,lpB]
theorem uo (hN:1073741824<=N) {rows:List (yP)} (h:mH rows):lU N rows=some rows:=by
 have hl:=h.1
 unfold lU
 have hL:=jv (fun k (s:List (yP)) i=>gN N k s rows (rows.length:Int) i) rows.length (fun i=>rows.take i) (rows,(rows.length:Int))
  (fun k i hi=>by
   show gN N (k+1) (rows.take i) rows (rows.length:Int) (i:Int)=_
   rw [gN,dlt hi,ae,bh hi,bs,kP,Gi (by decide) (Fx h hi),bs,bs,Ep (by decide) hi hl,bs,ad1 oa,bs])
  (fun k=>by
   show gN N (k+1) (rows.take rows.length) rows (rows.length:Int) (rows.length:Int)=_
   rw [gN,dge oa,ai,gP]) N 0 oa oa
 have hL':gN N N [] rows (rows.length:Int) 0=_:=hL
 rw [hL',bs,lpB]
theorem AW (hN:1073741824<=N) {a:Int} {rows:List (yP)} (h:mH rows):kX N a rows=some (a,rows):=by
 unfold kX
 rw [uo hN h,bs]
end
def si (ls:List (yP)):Bool:=ls.all asc&&decide (0<ls.length)
theorem Al {α R V:Type} (L:Nat->Int->Option (Sum R V)) (xs:List α) (q:α->Bool) (g:α->R) (v:V) (hl:xs.length<1099511627776)
  (hstep:∀ k i (h:i<xs.length),L (k+1) (i:Int)=bif q xs[i] then some (.inl (g xs[i])) else L k ((i+1:Nat):Int)) (hend:∀ k,L (k+1) (xs.length:Int)=some (.inr v)) :
  ∀ k i,i<=xs.length->xs.length-i<k->L k (i:Int)=some (match (xs.drop i).find? q with | some x=>.inl (g x) | none=>.inr v):=by
 intro k
 induction k with
 | zero=>intro i h1 h2;omega
 | succ k ih =>
  intro i h1 h2
  by_cases h:i<xs.length
  ·rw [hstep k i h,km h,List.find?_cons]
   cases hq:q xs[i]
   ·rw [ai];exact ih (i+1) oa oa
   ·rfl
  ·obtain rfl:i=xs.length:=by omega
   rw [hend,List.drop_length];rfl
abbrev bE:=ByteArray × (Int × List (yP))
abbrev q9 (ts:List bE):Prop:=s8 (fun x=>x.1.size<=1048576/\s8 (s8 (fun _=>True) 1048576) 1048576 x.2.2) 1048576 ts
def vi (s:ByteArray) (i:Nat):Int:=match s[i]? with | some b=>(b.toNat:Int) | none=>0
theorem Mp {s:ByteArray} {i:Nat} (h:i<s.size):bx s (i:Int)=some (vi s i):=by
 unfold bx vi
 rw [aK oa,eJ,getElem?_pos s i h];rfl
def ri (s:ByteArray) (i:Nat):Bool:=!decide (vi s i<97)&&!decide (122<vi s i)
def pi (s:ByteArray):Bool:=inR s.size 1 4&&(List.range' 0 s.size).all (ri s)
def sH (ts:List bE) (i:Nat):Bool :=
 let t:=ts.getD i (ByteArray.empty,0,[])
 pi t.1&&(Nat.beq i 0||ltS (ts.getD (i-1) (ByteArray.empty,0,[])).1 t.1)&&cI t.2.1 t.2.2&&!decide (t.2.1<1)&&!decide (16<(t.2.2.length:Int))
def pH (ts:List bE):Bool:=decide ((ts.length:Int)<=6)&&(List.range' 0 ts.length).all (sH ts)
def cT (ts:List bE) (s:ByteArray):(Int × List (yP)) × Bool :=
 bif pH ts then (match ts.find? (fun t=>decide (t.1=s)) with | some t=>(t.2,true) | none=>((0,[]),false)) else ((0,[]),false)
theorem sV {ts:List bE} {i:Nat} (h:i<ts.length):ts.getD i (ByteArray.empty,0,[])=ts[i]:=by simp [h]
section
variable {N:Nat}
theorem Nl {L:Nat->Int->Option (Sum Bool Int)} {s:ByteArray} (hs:s.size<=1048576) (hN:1073741824<=N)
  (hstep:∀ k i,L (k+1) i=(bif decide (i<(s.size:Int)) then (bx s i).bind fun a=>(bif decide (a<97) then some (.inl false) else (bx s i).bind fun b=>(bif decide (122<b) then some (.inl false) else (ad i 1).bind fun j=>L k j)) else some (.inr i))) :
  L N 0=some (bif (List.range' 0 s.size).all (ri s) then .inr (s.size:Int) else .inl false):=by
 have:=pF L s.size oa false (ri s) (s.size:Int)
  (fun k i h=>by
   rw [hstep,dlt h,ae,Mp h,bs,bs,ad1 oa,bs]
   unfold ri
   cases decide (vi s i<97)
   ·cases decide (122<vi s i) <;> rfl
   ·rfl)
  (fun k=>by rw [hstep,dge oa,ai]) N 0 oa oa
 rw [lB] at this
 exact this
theorem qU (hN:1073741824<=N) {s:ByteArray} (hs:s.size<=1048576):jR N s=some (pi s):=by
 unfold jR oQ pi
 by_cases h1:(s.size:Int)<1
 ·rw [aJ h1,show inR (s.size:Int) 1 4=false by rw [<- Bool.not_eq_true,ck];omega];rfl
 by_cases h4:(4:Int)<s.size
 ·rw [aN h1,aJ h4,show inR (s.size:Int) 1 4=false by rw [<- Bool.not_eq_true,ck];omega];rfl
 rw [aN h1,aN h4,show inR (s.size:Int) 1 4=true by rw [ck];omega,ai,ai,Nl (L:=fun k i=>jB N k s i) hs hN (fun k i=>by
  show jB N (k+1) s i=_
  rw [jB]),bs]
 cases (List.range' 0 s.size).all (ri s) <;> rfl
theorem qL (hN:1073741824<=N) {s:ByteArray} (hs:s.size<=1048576):jM N s=some (pi s):=by
 unfold jM pi
 rw [Nl (L:=fun k i=>iL N k s i) hs hN (fun k i=>by
  show iL N (k+1) s i=_
  rw [iL]),bs]
 cases (List.range' 0 s.size).all (ri s)
 ·cases inR (s.size:Int) 1 4 <;> rfl
 ·simp only [ae,lpS,fQ,bs,vr]
theorem o0 (hN:1073741824<=N) {ts:List bE} (hx:q9 ts):iw N ts=some (pH ts):=by
 have hl:=hx.1
 have:=pF (L:=fun k i=>du N k ts ts (ts.length:Int) i) ts.length oa false (sH ts) (ts.length:Int)
  (fun k i h=>by
   obtain ⟨g1,g2⟩:=hx.2 _ (bA h)
   show du N (k+1) ts ts (ts.length:Int) (i:Int)=_
   rw [du,dlt h,ae,bh h,bs,qU hN g1,bs]
   unfold sH
   rw [sV h]
   simp only []
   cases pi ts[i].1
   ·rfl
   rw [tS hN g2,bs]
   cases i with
   | zero =>
    rw [ad1 oa]
    simp only [bs]
    cases cI ts[0].2.1 ts[0].2.2
    ·rfl
    ·show (bif decide _ then _ else _)=_
     cases decide (ts[0].2.1<1)
     ·cases decide (16<(ts[0].2.2.length:Int)) <;> rfl
     ·cases decide (16<(ts[0].2.2.length:Int)) <;> rfl
   | succ j =>
    rw [show decide (0<((j+1:Nat):Int))=true from aJ oa,fL oa oa,bs,show (((j+1:Nat):Int)-1)=(j:Int) by omega,bh oa,bs,ad1 oa,rP,sV oa]
    simp only [bs]
    cases ltS ts[j].1 ts[j+1].1
    ·rfl
    cases cI ts[j+1].2.1 ts[j+1].2.2
    ·rfl
    ·show (bif decide _ then _ else _)=_
     cases decide (ts[j+1].2.1<1)
     ·cases decide (16<(ts[j+1].2.2.length:Int)) <;> rfl
     ·cases decide (16<(ts[j+1].2.2.length:Int)) <;> rfl)
  (fun k=>by
   show du N (k+1) ts ts (ts.length:Int) (ts.length:Int)=_
   rw [du,dge oa,ai]) N 0 oa oa
 rw [lB] at this
 unfold iw pH
 by_cases h6:(6:Int)<ts.length
 ·rw [aJ h6,aN (by omega:¬ (ts.length:Int)<=6)];rfl
 rw [aN h6,aJ (by omega:(ts.length:Int)<=6),ai,eG]
 have this':du N N ts ts (ts.length:Int) 0=_:=this
 rw [this',bs]
 cases (List.range' 0 ts.length).all (sH ts) <;> rfl
theorem lT (hN:1073741824<=N) {ts:List bE} (hx:q9 ts):iA N ts=some (pH ts):=by
 have hl:=hx.1
 have:=pF (L:=fun k i=>dw N k ts i) ts.length oa false (sH ts) (ts.length:Int)
  (fun k i h=>by
   obtain ⟨g1,g2⟩:=hx.2 _ (bA h)
   show dw N (k+1) ts (i:Int)=_
   rw [dw,dlt h,ae,bh h,bs,qL hN g1,bs]
   unfold sH
   rw [sV h]
   simp only []
   cases pi ts[i].1
   ·rfl
   rw [oZ hN g2,bs]
   cases i with
   | zero =>
    rw [ad1 oa]
    simp only [bs]
    cases cI ts[0].2.1 ts[0].2.2
    ·rfl
    ·show (bif decide _ then _ else _)=_
     cases decide (ts[0].2.1<1)
     ·cases decide (16<(ts[0].2.2.length:Int)) <;> rfl
     ·cases decide (16<(ts[0].2.2.length:Int)) <;> rfl
   | succ j =>
    rw [show decide (0<((j+1:Nat):Int))=true from aJ oa,fL oa oa,bs,show (((j+1:Nat):Int)-1)=(j:Int) by omega,bh oa,bs,ad1 oa,rP,sV oa]
    simp only [bs]
    cases ltS ts[j].1 ts[j+1].1
    ·rfl
    cases cI ts[j+1].2.1 ts[j+1].2.2
    ·rfl
    ·show (bif decide _ then _ else _)=_
     cases decide (ts[j+1].2.1<1)
     ·cases decide (16<(ts[j+1].2.2.length:Int)) <;> rfl
     ·cases decide (16<(ts[j+1].2.2.length:Int)) <;> rfl)
  (fun k=>by
   show dw N (k+1) ts (ts.length:Int)=_
   rw [dw,dge oa,ai]) N 0 oa oa
 rw [lB] at this
 unfold iA pH
 have this':dw N N ts 0=_:=this
 rw [this',bs]
 cases (List.range' 0 ts.length).all (sH ts)
 ·simp only [ai,lpS,qD]
 ·simp only [ae,lpS,vr]
theorem pj (hN:1073741824<=N) {ts:List bE} {s:ByteArray} (hx:q9 ts):iO N ts s=some (cT ts s):=by
 have hl:=hx.1
 unfold iO cT
 rw [o0 hN hx,bs]
 cases pH ts
 ·rfl
 rw [ae,ae]
 have:=Al (fun k i=>eE N k s 0 [] ts (ts.length:Int) i) ts (fun t=>decide (t.1=s)) (fun t=>(t.2,true)) (ts.length:Int) oa
  (fun k i h=>by
   obtain ⟨g1,g2⟩:=hx.2 _ (bA h)
   show eE N (k+1) s 0 [] ts _ (i:Int)=_
   rw [eE,dlt h,ae,bh h,bs,AW hN g2,bs,ad1 oa,bs,Fc])
  (fun k=>by
   show eE N (k+1) s 0 [] ts _ (ts.length:Int)=_
   rw [eE,dge oa,ai]) N 0 oa oa
 rw [gE] at this
 have this':eE N N s 0 [] ts (ts.length:Int) 0=_:=this
 rw [this',bs]
 cases ts.find? (fun t=>decide (t.1=s)) <;> rfl
theorem ph (hN:1073741824<=N) {ts:List bE} {s:ByteArray} (hx:q9 ts):iP N ts s=some (cT ts s):=by
 have hl:=hx.1
 unfold iP cT
 cases hv:pH ts
 ·obtain ⟨M,rfl⟩:∃ M,N=M+1:=⟨N-1,oa⟩
  rw [dC,lT hN hx,bs,hv]
  cases decide ((0:Int)<(ts.length:Int)) <;> rfl
 rw [ae]
 have:=Al (fun k i=>dC N k s ts 0 [] i) ts (fun t=>decide (t.1=s)) (fun t=>(t.2,true)) (ts.length:Int) oa
  (fun k i h=>by
   obtain ⟨g1,g2⟩:=hx.2 _ (bA h)
   show dC N (k+1) s ts 0 [] (i:Int)=_
   rw [dC,dlt h,ae,lT hN hx,bs,hv,ae,bh h,bs,bs,CT hN g2,bs,ad1 oa,bs,Fc])
  (fun k=>by
   show dC N (k+1) s ts 0 [] (ts.length:Int)=_
   rw [dC,dge oa,ai]) N 0 oa oa
 rw [gE] at this
 have this':dC N N s ts 0 [] 0=_:=this
 rw [this',bs]
 cases ts.find? (fun t=>decide (t.1=s)) <;> rfl
end
theorem vW:∀ (a b:yP),cw b a=- cw a b
 | [],[]=>by simp [cw]
 | [],_ :: _=>by simp [cw]
 | _ :: _,[]=>by simp [cw]
 | x :: a,y :: b=>by
  unfold cw
  have:=vW a b
  (repeat' split) <;> omega
theorem np:∀ {a b c:yP},cw a b<0->cw b c<0->cw a c<0
 | [],[],_,h,_=>by simp [cw] at h
 | [],_ :: _,[],_,h=>by simp [cw] at h
 | [],_ :: _,_ :: _,_,_=>by simp [cw]
 | _ :: _,[],_,h,_=>by simp [cw] at h
 | _ :: _,_ :: _,[],_,h=>by simp [cw] at h
 | x :: a,y :: b,z :: c,h1,h2=>by
  unfold cw at h1 h2 ⊢
  have:=@np a b c
  split at h1
  ·split at h2
   ·rw [aK oa];omega
   ·split at h2
    ·omega
    ·rw [aK oa];omega
  ·split at h1
   ·omega
   ·split at h2
    ·rw [aK oa];omega
    ·split at h2
     ·omega
     ·rw [aS oa,aS oa];exact this h1 h2
def MI (rows:List (yP)):Prop:=∀ i j (_:i<j) (hj:j<rows.length),cw (rows[i]'oa) rows[j]<0
theorem Lb {rows:List (yP)} (h:∀ i (hi:i<rows.length) j (hj:j+1=i),cw (rows[j]'oa) rows[i]<0):MI rows:=by
 intro i j hij hj
 induction j with
 | zero=>omega
 | succ j ih =>
  have h1:=h (j+1) hj j rfl
  by_cases e:i=j
  ·subst e;exact h1
  ·exact np (ih oa oa) h1
theorem C4 {n:Int} {rows:List (yP)} (h:cI n rows=true):MI rows:=by
 obtain ⟨_,_,_,h4⟩:=iy h
 exact Lb fun i hi j hj=>(h4 i hi).2.2 j hj
section
variable {N:Nat}
theorem xD {α:Type} {N:Nat} (L:Nat->Int->Option (Sum Bool Int)) (xs:List α) (q:α->Bool) (hN:1073741824<=N) (hl:xs.length<=1048576)
  (hstep:∀ k i (h:i<xs.length),L (k+1) (i:Int)=bif q xs[i] then L k ((i+1:Nat):Int) else some (.inl false)) (hend:∀ k,L (k+1) (xs.length:Int)=some (.inr (xs.length:Int))) :
  L N 0=some (bif xs.all q then .inr (xs.length:Int) else .inl false):=by
 have:=pF L xs.length oa false (fun i=>if h:i<xs.length then q xs[i] else true) (xs.length:Int) (fun k i h=>by rw [hstep k i h];simp only [mG h]) hend N 0 oa oa
 rw [lB,pU xs q _ (fun i hi=>by rw [mG hi])] at this
 exact this
end
theorem HQ {σ R V:Type} (L:Nat->σ->Int->Option (Sum R V)) (n:Nat) (b:R) (p:Nat->Bool) (A:Nat->σ) (v:V)
  (hstep:∀ k i,i<n->L (k+1) (A i) (i:Int)=bif p i then L k (A (i+1)) ((i+1:Nat):Int) else some (.inl b)) (hend:∀ k,L (k+1) (A n) (n:Int)=some (.inr v)) :
  ∀ k i,i<=n->n-i<k->L k (A i) (i:Int)=some (bif (List.range' i (n-i)).all p then .inr v else .inl b):=by
 intro k
 induction k with
 | zero=>intro i hi hk;omega
 | succ k ih =>
  intro i hi hk
  by_cases h:i<n
  ·rw [hstep k i h,show n-i=(n-(i+1))+1 by omega,vt,uE]
   cases hp:p i with
   | true=>rw [ae,eG];exact ih (i+1) oa oa
   | false=>rfl
  ·obtain rfl:i=n:=by omega
   rw [hend k,Nat.sub_self];rfl
theorem jh {R V S:Type} {v:V} {f:R->Option S} {g:V->Option S}:lpS (.inr v) f g=g v:=rfl
theorem nh {R V S:Type} {v:R} {f:R->Option S} {g:V->Option S}:lpS (.inl v) f g=f v:=rfl
abbrev aV:=ByteArray × yP
abbrev fB (xs:List aV):Prop:=s8 (fun x=>x.1.size<=1048576/\(s8 (fun _=>True) 1048576) x.2) 1048576 xs
def mV (n:Int) (a:aV):Bool:=pi a.1&&inR a.2.length 1 5&&a.2.all fun v=>inR v 0 (n-1)
def oU (n:Int) (yK:List aV):Bool:=(List.range' 0 n.toNat).all fun v=>yK.any fun a=>decide ((v:Int)∈a.2)
def fR (n:Int) (yK:List aV) (out:yP):Bool:=inR n 1 5&&inR yK.length 1 4&&kj out n&&yK.all (mV n)&&oU n yK
theorem rx:∀ (n:Nat) (xs:yP),xs.Nodup->(∀ x∈xs,0<=x/\x<n)->xs.length<=n:=by
 intro n
 induction n with
 | zero =>
  intro xs _ h
  cases xs with
  | nil=>simp
  | cons x xs=>have:=h x (by simp);omega
 | succ n ih =>
  intro xs hn h
  by_cases hm:(n:Int)∈xs
  ·have h1:=ih (xs.erase (n:Int)) (hn.erase _) (fun x hx=>by
    have h2:=h x (List.mem_of_mem_erase hx)
    have h3:x≠n:=by rintro rfl;exact (hn.mem_erase_iff.1 hx).1 rfl
    omega)
   rw [Az hm] at h1
   omega
  ·have:=ih xs hn (fun x hx=>by
    have h2:=h x hx
    have h3:x≠n:=by rintro rfl;exact hm hx
    omega)
   omega
theorem iW {xs:yP} {n:Int} (h:kj xs n=true):xs.Nodup/\∀ x∈xs,0<=x/\x<=n-1:=by
 unfold kj at h
 rw [df] at h
 have hk:∀ i (hi:i<xs.length),(0<=xs[i]/\xs[i]<=n-1)/\xs[i]∉xs.take i:=by
  intro i hi
  have:=h i (by simp;omega)
  simp only [bu hi,ce,ck,wZ,AM] at this
  exact this
 refine ⟨?_,fun x hx=>?_⟩
 ·rw [List.nodup_iff_pairwise_ne,tw]
  intro i j hi hj hij e
  refine (hk j hj).2 ?_
  rw [<- e]
  have:(xs.take j)[i]'(by simp;omega)=xs[i]:=se
  rw [<- this];exact bA _
 ·obtain ⟨i,hi,rfl⟩:=gg hx
  exact (hk i hi).1
theorem G5 {xs:yP} {n:Int} (h0:0<=n) (h:kj xs n=true):(xs.length:Int)<=n:=by
 obtain ⟨h1,h2⟩:=iW h
 have:=rx n.toNat xs h1 (fun x hx=>by have:=h2 x hx;omega)
 omega
def o7 (m:Nat) (g:Nat->Bool):List Bool:=(List.range' 0 m).map g
theorem y7 (m:Nat) (g:Nat->Bool):(o7 m g).length=m:=by simp [o7]
theorem Kk {m:Nat} {g:Nat->Bool} {i:Nat} (h:i<m):ix (o7 m g) (i:Int)=some (g i):=by
 rw [bh (by rw [y7];exact h)];simp [o7]
theorem JH {m:Nat} {g:Nat->Bool} {c:Nat} (h:c<m):sto (o7 m g) (c:Int) true=some (o7 m fun v=>g v||decide (v=c)):=by
 rw [mY (by rw [y7];exact h)]
 congr 1
 refine kS (by simp [o7]) fun i h1 h2=>?_
 simp only [o7,List.getElem_set,iS,pu]
 simp only [dA,jL]
 by_cases e:c=i
 ·subst e;simp
 ·have e2:¬ i=c:=fun h=>e h.symm
  rw [aS e,aN e2,Bool.or_false]
theorem zu {m:Nat} {f g:Nat->Bool} (h:∀ v,f v=g v):o7 m f=o7 m g:=by rw [show f=g from funext h]
theorem JO (m:Nat) (g:Nat->Bool):(o7 m g).all id=(List.range' 0 m).all g:=by simp [o7,List.all_map]
theorem wI {α:Type} {p:α->Bool} {xs:List α} {i:Nat} (h:i<xs.length):(xs.take (i+1)).any p=((xs.take i).any p||p xs[i]):=by
 rw [gR h,List.any_append];simp
theorem C2 {xs:yP} {i:Nat} (h:i<xs.length) (v:Int):decide (v∈xs.take (i+1))=(decide (v∈xs.take i)||decide (v=xs[i])):=by
 have e:v∈xs.take (i+1)↔v∈xs.take i\/v=xs[i]:=by
  rw [gR h,cU,d7]
 rw [Bool.eq_iff_iff];simp only [dm,rQ];exact e
section
variable {N:Nat}
def nS (m:Nat) (yK:List aV) (i:Nat):List Bool:=o7 m fun v=>(yK.take i).any fun a=>decide ((v:Int)∈a.2)
def qu (m:Nat) (yK:List aV) (i:Nat) (xs:yP) (j:Nat):List Bool:=o7 m fun v=>(yK.take i).any (fun a=>decide ((v:Int)∈a.2))||decide ((v:Int)∈xs.take j)
theorem LN (m:Nat) (yK:List aV) (i:Nat) (xs:yP):qu m yK i xs 0=nS m yK i:=zu fun v=>by simp
theorem HO (m:Nat) (yK:List aV) {i:Nat} (h:i<yK.length):qu m yK i yK[i].2 yK[i].2.length=nS m yK (i+1):=zu fun v=>by rw [gP,wI h]
theorem GE {m:Nat} {yK:List aV} {i:Nat} {xs:yP} {j c:Nat} (hj:j<xs.length) (hc:xs[j]=(c:Int)) (hm:c<m):sto (qu m yK i xs j) (c:Int) true=some (qu m yK i xs (j+1)):=by
 unfold qu
 rw [JH hm]
 congr 1
 refine zu fun v=>?_
 rw [C2 hj,hc,Bool.or_assoc]
 congr 2
 rw [xz];omega
theorem IZ {m:Nat} {yK:List aV} {i:Nat} {xs:yP} {j c:Nat} (hm:c<m):∃ b,ix (qu m yK i xs j) (c:Int)=some b:=⟨_,Kk hm⟩
theorem LD (m:Nat) (yK:List aV):List.replicate m false=nS m yK 0:=by
 refine kS (by simp [nS,o7]) fun i h1 h2=>?_
 simp [nS,o7]
theorem EY {m:Nat} {yK:List aV} {i:Nat} {xs:yP} {t:List aV} {tl ti:Int} (hx:xs.length<=1048576) (hm:m<=5) (k j:Nat) (hj:j<xs.length) :
  eD N (k+1) (m:Int) (qu m yK i xs j) t tl ti xs (xs.length:Int) (j:Int)=bif (if h:j<xs.length then inR xs[j] 0 ((m:Int)-1) else true) then eD N k (m:Int) (qu m yK i xs (j+1)) t tl ti xs (xs.length:Int) ((j+1:Nat):Int) else some (.inl false):=by
 rw [eD,dlt hj,ae,bh hj,bs,fL oa oa,bs,gi,bs,mG hj]
 cases hc:inR xs[j] 0 ((m:Int)-1) with
 | false=>rw [ai,ai]
 | true =>
  have hc':=ck.1 hc
  obtain ⟨c,hcc⟩:=kf hc'.1
  obtain ⟨b,hb⟩:=IZ (m:=m) (yK:=yK) (i:=i) (xs:=xs) (j:=j) (c:=c) oa
  rw [ae,ae,hcc,hb,bs,GE hj hcc oa,bs,ad1 oa,bs]
theorem MO (hN:1073741824<=N) {m:Nat} {yK:List aV} {i:Nat} {xs:yP} {t:List aV} {tl ti:Int} (hx:xs.length<=1048576) (hm:m<=5) :
  eD N N (m:Int) (nS m yK i) t tl ti xs (xs.length:Int) 0=some (bif xs.all (fun v=>inR v 0 ((m:Int)-1)) then .inr (qu m yK i xs xs.length,(xs.length:Int)) else .inl false):=by
 have h:=HQ (fun k (s:List Bool) j=>eD N k (m:Int) s t tl ti xs (xs.length:Int) j) xs.length false (fun j=>if h:j<xs.length then inR xs[j] 0 ((m:Int)-1) else true) (qu m yK i xs) (qu m yK i xs xs.length,(xs.length:Int))
  (fun k j hj=>EY hx hm k j hj)
  (fun k=>by
   show eD N (k+1) (m:Int) _ t tl ti xs _ (xs.length:Int)=_
   rw [eD,dge oa,ai]) N 0 oa oa
 rw [lB,pU xs (fun v=>inR v 0 ((m:Int)-1)) _ (fun j hj=>by rw [mG hj]),LN] at h
 exact h
theorem EV (hN:1073741824<=N) {m:Nat} {yK:List aV} (ha:fB yK) (hm:m<=5) (k i:Nat) (h:i<yK.length) :
  eh N (k+1) (m:Int) (nS m yK i) yK (yK.length:Int) (i:Int)=bif (if h:i<yK.length then mV m yK[i] else true) then eh N k (m:Int) (nS m yK (i+1)) yK (yK.length:Int) ((i+1:Nat):Int) else some (.inl false):=by
 have hl:=ha.1
 obtain ⟨g1,g2⟩:=ha.2 _ (bA h)
 rw [eh,dlt h,ae,bh h,bs,qU hN g1,bs,gi,bs,mG h]
 unfold mV
 cases pi yK[i].1 with
 | false=>simp only [kT,qD,eG,ai,ae]
 | true =>
  cases inR (yK[i].2.length:Int) 1 5 with
  | false=>simp only [kT,qD,eG,ai,ae]
  | true =>
   simp only [ae,eG]
   rw [MO hN g2.1 hm,bs]
   cases yK[i].2.all fun v=>inR v 0 ((m:Int)-1) with
   | false=>simp only [ai,lpS]
   | true =>
    rw [ae,jh,ad1 oa,bs,HO m yK h,ae]
theorem Ns (hN:1073741824<=N) {m:Nat} {yK:List aV} (ha:fB yK) (hm:m<=5) :
  eh N N (m:Int) (List.replicate m false) yK (yK.length:Int) 0=some (bif yK.all (mV m) then .inr (nS m yK yK.length,(yK.length:Int)) else .inl false):=by
 have hl:=ha.1
 have h:=HQ (fun k (s:List Bool) i=>eh N k (m:Int) s yK (yK.length:Int) i) yK.length false (fun i=>if h:i<yK.length then mV m yK[i] else true) (nS m yK) (nS m yK yK.length,(yK.length:Int))
  (fun k i h=>EV hN ha hm k i h)
  (fun k=>by
   show eh N (k+1) (m:Int) _ yK _ (yK.length:Int)=_
   rw [eh,dge oa,ai]) N 0 oa oa
 rw [lB,pU yK (mV m) _ (fun i hi=>by rw [mG hi]),<- LD] at h
 exact h
theorem NK (hN:1073741824<=N) {xs:List Bool} (hx:xs.length<=1048576):e7 N N xs (xs.length:Int) 0=some (bif xs.all id then .inr (xs.length:Int) else .inl false) :=
 xD (fun k i=>e7 N k xs (xs.length:Int) i) xs id hN hx
  (fun k i h=>by
   show e7 N (k+1) _ _ (i:Int)=_
   rw [e7,dlt h,ae,bh h,bs,ad1 oa,bs];rfl)
  (fun k=>by
   show e7 N (k+1) _ _ (xs.length:Int)=_
   rw [e7,dge oa,ai])
theorem ID {m:Nat} {yK:List aV}:(nS m yK yK.length).all id=oU m yK:=by
 unfold nS oU
 rw [JO,eJ,gP]
theorem AO {n:Int} {yK:List aV} {out:yP} (h:inR n 1 5=false):fR n yK out=false:=by unfold fR;rw [h];rfl
theorem jt (hN:1073741824<=N) {n:Int} {yK:List aV} {out:yP} (ha:fB yK) (ho:okI out):hJ N n yK out=some (fR n yK out):=by
 have hl:=ha.1
 unfold hJ
 rw [gi,bs,gi,bs]
 cases hn:inR n 1 5 with
 | false=>rw [AO hn];rfl
 | true =>
  have hn':=ck.1 hn
  unfold fR
  rw [hn,ae,GA hN ho.1 oa,bs]
  cases inR (yK.length:Int) 1 4 with
  | false=>rfl
  | true =>
   cases kj out n with
   | false=>rfl
   | true =>
    obtain ⟨m,rfl⟩:=kf (by omega:0<=n)
    simp only [ae,Bool.and_self,eG]
    rw [Bc (by decide) oa,bs,Ns hN ha oa,bs]
    cases yK.all (mV m) with
    | false=>rfl
    | true =>
     simp only [ae,lpS,eG]
     rw [NK hN (by unfold nS;rw [y7];omega),bs,ID]
     cases oU m yK <;> rfl
theorem oG (hN:1073741824<=N) {s:ByteArray} {xs:yP} {v:Int} (hx:okI xs):ii N s xs v=some (decide (v∈xs)):=by
 have hl:=hx.1
 have:=Al (fun k i=>dE N k v s xs i) xs (fun x=>decide (x=v)) (fun _=>true) (xs.length:Int) oa
  (fun k i h=>by
   show dE N (k+1) v s xs (i:Int)=_
   rw [dE,dlt h,ae,bh h,bs,ad1 oa,bs,Md])
  (fun k=>by
   show dE N (k+1) v s xs (xs.length:Int)=_
   rw [dE,dge oa,ai]) N 0 oa oa
 rw [gE] at this
 have this':dE N N v s xs 0=_:=this
 unfold ii
 rw [this',bs]
 cases hf:xs.find? (fun x=>decide (x=v)) with
 | none =>
  have:v∉xs:=fun hm=>by have:=(List.find?_eq_none.1 hf) v hm;simp at this
  simp [lpS,this]
 | some y =>
  have h1:=List.find?_some hf
  have h2:=AY hf
  have:v∈xs:=by simp at h1;rw [<- h1];exact h2
  simp [lpS,this]
theorem oA (hN:1073741824<=N) {s:ByteArray} {xs:yP} {v:Int} (hx:okI xs):ij N s xs v=some (decide (v∈xs)):=by
 unfold ij;rw [Co hN hx.1,bs]
theorem Mn (hN:1073741824<=N) {n:Int} {yK:List aV} {out:yP} {i:Nat} (h:i<yK.length) (hn:n<=5) (h0:0<=n) (hx:yK[i].2.length<=1048576) :
  eY N N n yK out (i:Int) 0=some (bif yK[i].2.all (fun v=>inR v 0 (n-1)) then .inr (yK[i].2.length:Int) else .inl false) :=
 xD (fun k2 j=>eY N k2 n yK out (i:Int) j) yK[i].2 (fun v=>inR v 0 (n-1)) hN hx
  (fun k2 j hj=>by
   show eY N (k2+1) n yK out (i:Int) (j:Int)=_
   rw [eY,bh h,bs,dlt hj,ae,bs,bh hj,bs,fL oa oa,bs,fQ,bs,ad1 oa,bs])
  (fun k2=>by
   show eY N (k2+1) n yK out (i:Int) (yK[i].2.length:Int)=_
   rw [eY,bh h,bs,dge oa,ai])
theorem Nh (hN:1073741824<=N) {n:Int} {yK:List aV} {out:yP} (ha:fB yK) (hn:n<=5) (h0:0<=n) :
  eZ N N n yK out 0=some (bif yK.all (mV n) then .inr (yK.length:Int) else .inl false) :=
 xD (fun k i=>eZ N k n yK out i) yK (mV n) hN ha.1
  (fun k i h=>by
   have hl:=ha.1
   obtain ⟨g1,g2⟩:=ha.2 _ (bA h)
   show eZ N (k+1) n yK out (i:Int)=_
   rw [eZ,dlt h,ae,bh h,bs,qL hN g1,bs,bs,fQ,bs]
   unfold mV
   cases pi yK[i].1 with
   | false=>simp only [kT,qD,eG,ai,ae]
   | true =>
    cases inR (yK[i].2.length:Int) 1 5 with
    | false=>simp only [kT,qD,eG,ai,ae]
    | true =>
     simp only [ae,eG]
     rw [Mn hN h hn h0 g2.1,bs]
     cases yK[i].2.all fun v=>inR v 0 (n-1) with
     | false=>simp only [ai,lpS]
     | true =>
      rw [ae,jh,ad1 oa,bs,ae])
  (fun k=>by
   show eZ N (k+1) n yK out (yK.length:Int)=_
   rw [eZ,dge oa,ai])
theorem MT (hN:1073741824<=N) {n v:Int} {yK:List aV} {out:yP} (ha:fB yK) :
  eC N N n yK out v false 0=some (yK.any (fun a=>decide (v∈a.2)),(yK.length:Int)):=by
 have hl:=ha.1
 exact jv (fun k2 (s:Bool) j=>eC N k2 n yK out v s j) yK.length (fun j=>(yK.take j).any fun a=>decide (v∈a.2)) (yK.any (fun a=>decide (v∈a.2)),(yK.length:Int))
  (fun k2 j hj=>by
   obtain ⟨g1,g2⟩:=ha.2 _ (bA hj)
   show eC N (k2+1) n yK out v _ (j:Int)=_
   rw [eC,dlt hj,ae,wI hj,ad1 oa,bs,bh hj,bs,oG hN g2,bs,bs]
   cases (yK.take j).any fun a=>decide (v∈a.2) <;> rfl)
  (fun k2=>by
   show eC N (k2+1) n yK out v _ (yK.length:Int)=_
   rw [eC,dge oa,ai,gP]) N 0 oa oa
theorem MG (hN:1073741824<=N) {m:Nat} {yK:List aV} {out:yP} (ha:fB yK) (hm:m<=5) :
  e9 N N (m:Int) yK out 0=some (bif oU m yK then .inr (m:Int) else .inl false):=by
 have h:=pF (fun k i=>e9 N k (m:Int) yK out i) m oa false (fun v=>yK.any fun a=>decide ((v:Int)∈a.2)) (m:Int)
  (fun k v h=>by
   show e9 N (k+1) (m:Int) yK out (v:Int)=_
   rw [e9,dlt h,ae,MT hN ha,bs,lpB]
   simp only []
   rw [ad1 oa,bs])
  (fun k=>by
   show e9 N (k+1) (m:Int) yK out (m:Int)=_
   rw [e9,dge oa,ai]) N 0 oa oa
 unfold oU
 rw [eJ]
 rw [lB] at h
 exact h
theorem Nj (hN:1073741824<=N) {n:Int} {yK:List aV} {out:yP} (ho:out.length<=1048576) (hn:n<=5) (h0:0<=n) :
  fb N N n yK out 0=some (bif kj out n then .inr (out.length:Int) else .inl false):=by
 have h:=pF (fun k i=>fb N k n yK out i) out.length oa false (fun i=>inR (out.getD i 0) 0 (n-1)&&!decide (out.getD i 0∈out.take i)) (out.length:Int)
  (fun k i h=>by
   show fb N (k+1) n yK out (i:Int)=_
   rw [fb,dlt h,ae,bh h,bs,fL oa oa,bs,fQ,bs,show ((0:Int))=((0:Nat):Int) from rfl,ow (cV _) oa,bs,bs,gE,HJ hN (by simp;omega),bs,ad1 oa,bs]
   simp only [bu h,tA,show ((0:Nat):Int)=0 from rfl]
   cases inR out[i] 0 (n-1)
   ·rfl
   ·cases decide (out[i]∈out.take i) <;> rfl)
  (fun k=>by
   show fb N (k+1) n yK out (out.length:Int)=_
   rw [fb,dge oa,ai]) N 0 oa oa
 rw [lB] at h
 exact h
theorem lf (hN:1073741824<=N) {n:Int} {yK:List aV} {out:yP} (ha:fB yK) (ho:okI out):g7 N n yK out=some (fR n yK out):=by
 have hl:=ha.1
 have hol:=ho.1
 unfold g7
 rw [fQ,bs,fQ,bs]
 cases hn:inR n 1 5 with
 | false=>rw [AO hn];rfl
 | true =>
  have hn':=ck.1 hn
  unfold fR
  rw [hn]
  cases inR (yK.length:Int) 1 4 with
  | false=>rfl
  | true =>
   simp only [ae,eG]
   by_cases hlen:n<(out.length:Int)
   ·have:kj out n=false:=by
     rw [<- Bool.not_eq_true];intro h
     have:=G5 oa h;omega
    rw [aJ hlen,ae,this];rfl
   ·obtain ⟨m,rfl⟩:=kf (by omega:0<=n)
    rw [aN hlen,ai,Nh hN ha oa oa,bs]
    cases yK.all (mV m) with
    | false=>rw [qD,kT];rfl
    | true =>
     simp only [ae,lpS,vr]
     rw [MG hN ha oa,bs]
     cases oU m yK with
     | false=>rw [qD];rfl
     | true =>
      simp only [ae,lpS,vr]
      rw [Nj hN hol oa oa,bs]
      cases kj out m <;> rfl
theorem lk {n:Int} {yK:List aV} {out:yP} (h:fR n yK out=true):1<=n/\n<=5/\1<=(yK.length:Int)/\(yK.length:Int)<=4:=by
 unfold fR at h
 simp only [ce,ck] at h
 exact ⟨h.1.1.1.1.1,h.1.1.1.1.2,h.1.1.1.2.1,h.1.1.1.2.2⟩
end
section
variable {N:Nat}
theorem Oy (N:Nat):∀ (k:Nat) (x y:Int),eQ N k x y=j8 N k x y:=by
 intro k
 induction k with
 | zero=>intro x y;rw [eQ,j8]
 | succ k ih=>intro x y;rw [eQ,j8];simp only [ih]
theorem zy (N:Nat) (x y:Int):gO N x y=kO N x y:=by unfold gO kO;rw [Oy]
theorem GV {a b:Int} (ha:0<=a) (hb:0<b) (h:a<=4611686018427387904):qt a b=some (a.tdiv b):=by
 have h1:0<=a.tdiv b:=Int.tdiv_nonneg ha oa
 have h2:a.tdiv b<=a:=Int.tdiv_le_self b ha
 unfold qt;rw [aK ⟨oa,qJ oa oa⟩]
theorem FK {a b:Int} (ha:0<=a) (hb:0<b):0<=a.tdiv b/\a.tdiv b<=a:=⟨Int.tdiv_nonneg ha oa,Int.tdiv_le_self b ha⟩
theorem Il:∀ (m k:Nat) (x y:Int),0<=x->0<=y->y<=m->m<k->(0<x\/0<y)->∃ g z,j8 N k x y=some (g,z)/\0<g:=by
 intro m
 induction m with
 | zero =>
  intro k x y hx hy hm hk h
  obtain ⟨k,rfl⟩:∃ k',k=k'+1:=⟨k-1,oa⟩
  obtain rfl:y=0:=by omega
  rw [j8,show ((0:Int) != 0)=false from rfl,ai]
  exact ⟨x,0,rfl,oa⟩
 | succ m ih =>
  intro k x y hx hy hm hk h
  obtain ⟨k,rfl⟩:∃ k',k=k'+1:=⟨k-1,oa⟩
  rw [j8]
  by_cases h0:y=0
  ·subst h0
   rw [show ((0:Int) != 0)=false from rfl,ai]
   exact ⟨x,0,rfl,oa⟩
  ·rw [show (y != 0)=true by simpa using h0,ae,yj h0,bs]
   obtain ⟨t1,t2⟩:=BY (b:=y) hx oa
   exact ih k y (x.tmod y) hy t1 oa oa (.inl oa)
theorem EB (hN:1073741824<=N) {x y:Int} (hx:0<=x) (hy:0<=y) (h1:y<=1000000000) (h:0<x\/0<y):∃ g,kO N x y=some g/\0<g:=by
 obtain ⟨g,z,e,hg⟩:=Il (N:=N) 1000000000 N x y hx hy oa oa h
 refine ⟨g,?_,hg⟩
 unfold kO;rw [e,bs,lpB]
abbrev dK:=Int × Int
theorem s7 (N:Nat) (n d:Int):aR N n d=bU N n d:=by
 unfold aR bU
 rw [fQ,gi,bs,bs,fQ,gi,bs,bs]
 unfold nq
 cases inR d 1 1000000000
 ·rfl
 cases inR n (-1000000000) 1000000000
 ·rfl
 rw [ae,ae,ae,ae]
 cases sb 0 n with
 | none=>rfl
 | some z=>rw [bs,bs,bs,zy]
theorem Ey (hN:1073741824<=N) (n d:Int):∃ b,bU N n d=some b/\(b=true->1<=d/\d<=1000000000/\-1000000000<=n/\n<=1000000000):=by
 unfold bU
 rw [gi,bs,gi,bs]
 cases h1:inR d 1 1000000000
 ·exact ⟨false,rfl,fun h=>by cases h⟩
 cases h2:inR n (-1000000000) 1000000000
 ·exact ⟨false,rfl,fun h=>by cases h⟩
 have h1':=ck.1 h1
 have h2':=ck.1 h2
 have hab:0<=imx n (0-n):=by unfold imx;split <;> omega
 obtain ⟨g,e,_⟩:=EB (N:=N) hN hab (by omega:0<=d) oa (.inr oa)
 unfold nq
 rw [ae,ae,fL oa oa,bs,bs,e,bs]
 exact ⟨_,rfl,fun _=>⟨h1'.1,h1'.2,h2'.1,h2'.2⟩⟩
def wOk (N:Nat) (r:dK):Bool:=(bU N r.1 r.2).getD false&&decide (0<=r.1)
theorem vT (hN:1073741824<=N) {r:dK} (h:wOk N r=true):bU N r.1 r.2=some true/\0<=r.1/\r.1<=1000000000/\1<=r.2/\r.2<=1000000000:=by
 obtain ⟨b,e,hb⟩:=Ey hN r.1 r.2
 unfold wOk at h
 rw [e,wY,ce,dm] at h
 obtain ⟨rfl,h2⟩:=h
 have:=hb rfl
 exact ⟨e,h2,this.2.2.2,this.1,this.2.1⟩
theorem CE (hN:1073741824<=N) (r:dK):wOk N r=true\/(wOk N r=false/\(bU N r.1 r.2=some false\/bU N r.1 r.2=some true/\r.1<0)):=by
 obtain ⟨b,e,hb⟩:=Ey hN r.1 r.2
 unfold wOk
 rw [e,wY]
 cases b with
 | false=>exact .inr ⟨rfl,.inl rfl⟩
 | true =>
  by_cases h:0<=r.1
  ·exact .inl (by rw [aJ h];rfl)
  ·exact .inr ⟨by rw [aN h];rfl,.inr ⟨rfl,oa⟩⟩
def sL (N:Nat) (d:Int) (r:dK):Int:=(d.tdiv ((kO N d r.2).getD 1))*r.2
theorem zi (hN:1073741824<=N) {d:Int} {r:dK} (h:wOk N r=true) (h0:0<=d) (h1:d<=1000):∃ g,kO N d r.2=some g/\qt d g=some (d.tdiv g)/\ml (d.tdiv g) r.2=some (sL N d r)/\0<=sL N d r:=by
 obtain ⟨_,_,_,k1,k2⟩:=vT hN h
 obtain ⟨g,e,hg⟩:=EB (N:=N) hN h0 (by omega:0<=r.2) k2 (.inr oa)
 obtain ⟨t1,t2⟩:=FK h0 hg
 have hm:0<=d.tdiv g*r.2:=qH t1 oa
 have hm2:d.tdiv g*r.2<=1000*1000000000:=mM oa k2 oa oa
 have es:sL N d r=d.tdiv g*r.2:=by unfold sL;rw [e];rfl
 refine ⟨g,e,GV h0 hg oa,?_,?_⟩
 ·rw [es,fv oa oa]
 ·rw [es];exact hm
def sD (N:Nat) (rs:List dK):Nat->Nat->Int->Option Int
 | 0,_,d=>some d
 | m+1,i,d=>if 1000<sL N d (rs.getD i (0,0)) then none else sD N rs m (i+1) (sL N d (rs.getD i (0,0)))
theorem NQ (hN:1073741824<=N) {rs:List dK} (ha:∀ i,i<rs.length->wOk N (rs.getD i (0,0))=true):∀ m i d d',i+m=rs.length->0<=d->d<=1000->sD N rs m i d=some d'->0<=d'/\d'<=1000:=by
 intro m
 induction m with
 | zero=>intro i d d' _ h0 h1 h;unfold sD at h;cases h;exact ⟨h0,h1⟩
 | succ m ih =>
  intro i d d' hi h0 h1 h
  unfold sD at h
  obtain ⟨g,_,_,_,g4⟩:=zi hN (ha i oa) h0 h1
  by_cases hc:1000<sL N d (rs.getD i (0,0))
  ·rw [aK hc] at h;cases h
  ·rw [aS hc] at h;exact ih (i+1) _ d' oa g4 oa h
theorem sT {rs:List dK} {i:Nat} (h:i<rs.length):rs[i]=rs.getD i (0,0):=by simp [h]
def Do (rs:List dK) (o:Option Int):Sum (yP × Int) (Int × Int):=match o with | none=>.inl ([],0) | some d=>.inr (d,(rs.length:Int))
theorem Im (hN:1073741824<=N) {rs:List dK} (hl:rs.length<=1048576):∀ m i k d,i+m=rs.length->m<k->0<=d->d<=1000 ->
  c4 N k rs d (i:Int)=some (bif (List.range' i m).all (fun j=>wOk N (rs.getD j (0,0))) then Do rs (sD N rs m i d) else .inl ([],0)):=by
 intro m
 induction m with
 | zero =>
  intro i k d hi hk h0 h1
  obtain ⟨k,rfl⟩:∃ k',k=k'+1:=⟨k-1,oa⟩
  obtain rfl:i=rs.length:=by omega
  rw [c4,dge oa,ai];rfl
 | succ m ih =>
  intro i k d hi hk h0 h1
  obtain ⟨k,rfl⟩:∃ k',k=k'+1:=⟨k-1,oa⟩
  have h:i<rs.length:=by omega
  rw [c4,dlt h,ae,bh h,bs,sT h,s7,vt,uE]
  rcases CE hN (rs.getD i (0,0)) with hw | ⟨hw,hw2 | ⟨hw2,hw3⟩⟩
  ·obtain ⟨k1,k2,k3,k4,k5⟩:=vT hN hw
   obtain ⟨g,g1,g2,g3,g4⟩:=zi hN hw h0 h1
   rw [hw,k1,bs,ae,bs,aN oa,ai,bs,zy,g1,bs,g2,bs,bs,g3,bs,eG,sD]
   by_cases hc:1000<sL N d (rs.getD i (0,0))
   ·rw [aJ hc,ae,aK hc]
    cases (List.range' (i+1) m).all (fun j=>wOk N (rs.getD j (0,0))) <;> rfl
   ·rw [aN hc,ai,aS hc,ad1 oa,bs,ih (i+1) k _ oa oa g4 oa]
  ·rw [hw,hw2,bs,ai,kT,ai]
  ·rw [hw,hw2,bs,ae,bs,aJ hw3,ae,kT,ai]
theorem H8 (hN:1073741824<=N) {rs:List dK} (hl:rs.length<=1048576):∀ m i k d,i+m=rs.length->m<k ->
  fP N k rs d rs (rs.length:Int) (i:Int)=some (bif (List.range' i m).all (fun j=>wOk N (rs.getD j (0,0))) then .inr (rs.length:Int) else .inl ([],0)):=by
 intro m
 induction m with
 | zero =>
  intro i k d hi hk
  obtain ⟨k,rfl⟩:∃ k',k=k'+1:=⟨k-1,oa⟩
  obtain rfl:i=rs.length:=by omega
  rw [fP,dge oa,ai];rfl
 | succ m ih =>
  intro i k d hi hk
  obtain ⟨k,rfl⟩:∃ k',k=k'+1:=⟨k-1,oa⟩
  have h:i<rs.length:=by omega
  rw [fP,dlt h,ae,bh h,bs,sT h,vt,uE]
  rcases CE hN (rs.getD i (0,0)) with hw | ⟨hw,hw2 | ⟨hw2,hw3⟩⟩
  ·obtain ⟨k1,k2,k3,k4,k5⟩:=vT hN hw
   rw [hw,k1,bs,ae,aN oa,ai,eG,ad1 oa,bs,ih (i+1) k d oa oa]
  ·rw [hw,hw2,bs,ai,kT,ai]
  ·rw [hw,hw2,bs,ae,aJ hw3,ae,kT,ai]
theorem HR (hN:1073741824<=N) {rs:List dK} (hl:rs.length<=1048576) (ha:∀ i,i<rs.length->wOk N (rs.getD i (0,0))=true):∀ m i k d,i+m=rs.length->m<k->0<=d->d<=1000 ->
  fN N k rs d rs (rs.length:Int) (i:Int)=some (Do rs (sD N rs m i d)):=by
 intro m
 induction m with
 | zero =>
  intro i k d hi hk h0 h1
  obtain ⟨k,rfl⟩:∃ k',k=k'+1:=⟨k-1,oa⟩
  obtain rfl:i=rs.length:=by omega
  rw [fN,dge oa,ai];rfl
 | succ m ih =>
  intro i k d hi hk h0 h1
  obtain ⟨k,rfl⟩:∃ k',k=k'+1:=⟨k-1,oa⟩
  have h:i<rs.length:=by omega
  obtain ⟨g,g1,g2,g3,g4⟩:=zi hN (ha i h) h0 h1
  rw [fN,dlt h,ae,bh h,bs,sT h,g1,bs,g2,bs,g3,bs,sD]
  by_cases hc:1000<sL N d (rs.getD i (0,0))
  ·rw [aJ hc,ae,aK hc];rfl
  ·rw [aN hc,ai,aS hc,ad1 oa,bs,ih (i+1) k _ oa oa g4 oa]
def kI (rs:List dK) (d:Int) (i:Nat):yP:=(rs.take i).map fun r=>r.1*d.tdiv r.2
theorem Cx {rs:List dK} {d:Int} {i:Nat} (h:i<rs.length):kI rs d i++[(rs.getD i (0,0)).1*d.tdiv (rs.getD i (0,0)).2]=kI rs d (i+1):=by
 unfold kI;rw [gR h,eU,sT h];rfl
theorem zt {rs:List dK} {d:Int} {i:Nat}:(kI rs d i).length<=rs.length:=by unfold kI;simp;omega
theorem Gb (hN:1073741824<=N) {d:Int} {r:dK} (h:wOk N r=true) (h0:0<=d) (h1:d<=1000):qt d r.2=some (d.tdiv r.2)/\ml r.1 (d.tdiv r.2)=some (r.1*d.tdiv r.2):=by
 obtain ⟨_,k0,k1,k2,k3⟩:=vT hN h
 obtain ⟨t1,t2⟩:=FK h0 (by omega:0<r.2)
 have hm:0<=r.1*d.tdiv r.2:=qH k0 t1
 have hm2:r.1*d.tdiv r.2<=1000000000*1000:=mM k1 oa t1 oa
 exact ⟨GV h0 oa oa,fv oa oa⟩
theorem CP (hN:1073741824<=N) {rs:List dK} (hl:rs.length<=1048576) (ha:∀ i,i<rs.length->wOk N (rs.getD i (0,0))=true) {d:Int} (h0:0<=d) (h1:d<=1000) :
  dU N N rs d [] 0=some (kI rs d rs.length,(rs.length:Int)) :=
 jv (fun k (s:yP) i=>dU N k rs d s i) rs.length (kI rs d) (kI rs d rs.length,(rs.length:Int))
  (fun k i h=>by
   obtain ⟨q1,q2⟩:=Gb hN (ha i h) h0 h1
   have ho:=zt (rs:=rs) (d:=d) (i:=i)
   show dU N (k+1) rs d (kI rs d i) (i:Int)=_
   rw [dU,dlt h,ae,bh h,bs,bs,sT h,q1,bs,q2,bs,bB (by decide) (by simp;omega),bs,Cx h,ad1 oa,bs])
  (fun k=>by
   show dU N (k+1) rs d (kI rs d rs.length) (rs.length:Int)=_
   rw [dU,dge oa,ai]) N 0 oa oa
theorem IS (hN:1073741824<=N) {rs:List dK} (hl:rs.length<=1048576) (ha:∀ i,i<rs.length->wOk N (rs.getD i (0,0))=true) {d:Int} (h0:0<=d) (h1:d<=1000) :
  dV N N d [] rs (rs.length:Int) 0=some (kI rs d rs.length,(rs.length:Int)) :=
 jv (fun k (s:yP) i=>dV N k d s rs (rs.length:Int) i) rs.length (kI rs d) (kI rs d rs.length,(rs.length:Int))
  (fun k i h=>by
   obtain ⟨q1,q2⟩:=Gb hN (ha i h) h0 h1
   have ho:=zt (rs:=rs) (d:=d) (i:=i)
   show dV N (k+1) d (kI rs d i) rs (rs.length:Int) (i:Int)=_
   rw [dV,dlt h,ae,bh h,bs,sT h,q1,bs,q2,bs,bB (by decide) (by simp;omega),bs,Cx h,ad1 oa,bs])
  (fun k=>by
   show dV N (k+1) d (kI rs d rs.length) rs (rs.length:Int) (rs.length:Int)=_
   rw [dV,dge oa,ai]) N 0 oa oa
theorem GN (hN:1073741824<=N) {rs:List dK} (hl:rs.length<=1048576):∃ v:yP × Int,cB N rs=some v/\fU N rs=some v/\v.1.length<=1048576:=by
 have s1:=Im hN hl rs.length 0 N 1 oa oa oa oa
 have i1:=H8 hN hl rs.length 0 N 1 oa oa
 have s1':c4 N N rs 1 0=_:=s1
 have i1':fP N N rs 1 rs (rs.length:Int) 0=_:=i1
 unfold cB fU
 rw [s1',i1',bs,bs]
 cases ha:(List.range' 0 rs.length).all (fun j=>wOk N (rs.getD j (0,0))) with
 | false=>exact ⟨([],0),by rw [ai,nh],by rw [ai,nh],cV _⟩
 | true =>
  have ha':∀ i,i<rs.length->wOk N (rs.getD i (0,0))=true:=fun i h=>(df.1 ha) i (by simp;omega)
  have i2:=HR hN hl ha' rs.length 0 N 1 oa oa oa oa
  have i2':fN N N rs 1 rs (rs.length:Int) 0=_:=i2
  rw [ae,ae,jh,i2',bs]
  cases hd:sD N rs rs.length 0 1 with
  | none=>exact ⟨([],0),by unfold Do;rw [nh],by unfold Do;rw [nh],cV _⟩
  | some d =>
   obtain ⟨d0,d1⟩:=NQ hN ha' rs.length 0 1 d oa oa oa hd
   unfold Do
   rw [jh,jh]
   simp only []
   rw [CP hN hl ha' d0 d1,IS hN hl ha' d0 d1,bs,lpB]
   exact ⟨_,rfl,rfl,by have:=zt (rs:=rs) (d:=d) (i:=rs.length);show (kI rs d rs.length).length<=_;omega⟩
end
theorem Bt {σ V:Type} (L1 L2:Nat->σ->Int->Option V) (n:Nat) (I:Nat->σ->Prop) (P:V->Prop)
  (hstep:∀ k i s,i<n->I i s->(∃ s',L1 (k+1) s (i:Int)=L1 k s' ((i+1:Nat):Int)/\L2 (k+1) s (i:Int)=L2 k s' ((i+1:Nat):Int)/\I (i+1) s')\/∃ v,L1 (k+1) s (i:Int)=some v/\L2 (k+1) s (i:Int)=some v/\P v)
  (hend:∀ k s,I n s->∃ v,L1 (k+1) s (n:Int)=some v/\L2 (k+1) s (n:Int)=some v/\P v) :
  ∀ k i s,i<=n->n-i<k->I i s->∃ v,L1 k s (i:Int)=some v/\L2 k s (i:Int)=some v/\P v:=by
 intro k
 induction k with
 | zero=>intro i s hi hk;omega
 | succ k ih =>
  intro i s hi hk hI
  by_cases h:i<n
  ·rcases hstep k i s h hI with ⟨s',e1,e2,hI'⟩ | ⟨v,e1,e2,hP⟩
   ·rw [e1,e2];exact ih (i+1) s' oa oa hI'
   ·exact ⟨v,e1,e2,hP⟩
  ·obtain rfl:i=n:=by omega
   exact hend k s hI
section
variable {N:Nat}
theorem Om (N:Nat):∀ (k:Nat) (x:Int) (a b:yP),ik N k x a b=c8 N k x a b:=by
 intro k
 induction k with
 | zero=>intro x a b;rw [ik,c8]
 | succ k ih=>intro x a b;rw [ik,c8];simp only [ih]
theorem vK (N:Nat) (n:Int):fX N n=eK N n:=by unfold fX eK;rw [Om]
theorem BV {x:Int} (h0:0<=x) (h1:x<=9223372036854775807):qt x 10=some (x / 10):=by
 have e:x.tdiv 10=x / 10:=Int.tdiv_eq_ediv_of_nonneg h0
 unfold qt
 rw [aK ⟨by decide,by rw [e];unfold rng;simp only [ce,dm];omega⟩,e]
theorem B3 (x:Int):rm x 10=some (x.tmod 10):=yj (by decide)
theorem Ol:∀ (m k:Nat) (x:Int) (a b:yP),0<=x->x<=9223372036854775807->x<10 ^ m->m<k->b.length+m<=1048576->∃ y b',c8 N k x a b=some (y,b')/\b'.length<=b.length+m:=by
 intro m
 induction m with
 | zero =>
  intro k x a b h0 hm h1 hk hb
  obtain ⟨k,rfl⟩:∃ k',k=k'+1:=⟨k-1,oa⟩
  rw [c8,aN (by simp at h1;omega),ai]
  exact ⟨x,b,rfl,oa⟩
 | succ m ih =>
  intro k x a b h0 hm h1 hk hb
  obtain ⟨k,rfl⟩:∃ k',k=k'+1:=⟨k-1,oa⟩
  rw [c8]
  by_cases hx:0<x
  ·have hd:x / 10<10 ^ m:=by rw [rL] at h1;omega
   rw [aJ hx,ae,B3,bs,bB (by decide) (by simp;omega),bs,BV h0 hm,bs]
   obtain ⟨y,b',e,hl⟩:=ih k (x / 10) a (b++[x.tmod 10]) oa oa hd oa (by rw [bZ,bP];omega)
   rw [bZ,bP] at hl
   exact ⟨y,b',e,oa⟩
  ·rw [aN hx,ai]
   exact ⟨x,b,rfl,oa⟩
theorem zh (hN:1073741824<=N) {n:Int} (h0:0<=n) (h1:n<=9223372036854775807):∃ b,eK N n=some b/\b.length<=19:=by
 have hp:(10:Int) ^ 19=10000000000000000000:=by decide
 obtain ⟨y,b,e,hl⟩:=Ol (N:=N) 19 N n [] [] h0 h1 (by rw [hp];omega) oa (by rw [gu];omega)
 refine ⟨b,?_,by rw [gu] at hl;omega⟩
 unfold eK;rw [e,bs,lpB]
def vF (xs:yP):Option Bool :=
 bif xs.all (fun v=>inR v 0 9) then
  (bif decide ((xs.length:Int)<=60) then (bif ((xs.length:Int) == 0) then some true else (sb (xs.length:Int) 1).bind fun x=>(ix xs x).bind fun y=>some (y != 0)) else some false)
 else some false
theorem Bn (hN:1073741824<=N) {xs:yP} (hx:xs.length<=1048576):gD N xs=vF xs:=by
 have h:=xD (fun k i=>fC N k xs i) xs (fun v=>inR v 0 9) hN hx
  (fun k i h=>by
   show fC N (k+1) xs (i:Int)=_
   rw [fC,dlt h,ae,bh h,bs,fQ,bs,ad1 oa,bs])
  (fun k=>by
   show fC N (k+1) xs (xs.length:Int)=_
   rw [fC,dge oa,ai])
 unfold gD vF
 rw [h,bs]
 cases xs.all fun v=>inR v 0 9 <;> rfl
theorem rV (hN:1073741824<=N) {xs:yP} (hx:xs.length<=1048576):gG N xs=vF xs:=by
 have h:=xD (fun k i=>fD N k xs (xs.length:Int) xs (xs.length:Int) i) xs (fun v=>inR v 0 9) hN hx
  (fun k i h=>by
   show fD N (k+1) xs (xs.length:Int) xs (xs.length:Int) (i:Int)=_
   rw [fD,dlt h,ae,bh h,bs,gi,bs,ad1 oa,bs])
  (fun k=>by
   show fD N (k+1) xs (xs.length:Int) xs (xs.length:Int) (xs.length:Int)=_
   rw [fD,dge oa,ai])
 unfold gG vF
 rw [h,bs]
 cases xs.all fun v=>inR v 0 9 <;> rfl
theorem yg {xs:yP} (hx:xs.length<=1048576):∃ b,vF xs=some b/\(b=true->xs.length<=60/\∀ v∈xs,0<=v/\v<=9):=by
 unfold vF
 cases ha:xs.all fun v=>inR v 0 9 with
 | false=>exact ⟨false,rfl,fun h=>by cases h⟩
 | true =>
  rw [ae]
  have hd:∀ v∈xs,0<=v/\v<=9:=fun v hv=>ck.1 ((df.1 ha) v hv)
  by_cases h60:(xs.length:Int)<=60
  ·rw [aJ h60,ae]
   by_cases h0:xs.length=0
   ·rw [show ((xs.length:Int) == 0)=true by simp [h0],ae]
    exact ⟨true,rfl,fun _=>⟨oa,hd⟩⟩
   ·rw [show ((xs.length:Int) == 0)=false by simp;simpa using h0,ai,fL oa oa,bs,show (xs.length:Int)-1=((xs.length-1:Nat):Int) by omega,bh oa,bs]
    exact ⟨_,rfl,fun _=>⟨oa,hd⟩⟩
  ·rw [aN h60,ai]
   exact ⟨false,rfl,fun h=>by cases h⟩
theorem Ou (N:Nat):∀ (k:Nat) (a b c:yP) (d i:Int),iI N k a b c d i=cP N k a b c d i:=by
 intro k
 induction k with
 | zero=>intro a b c d i;rw [iI,cP]
 | succ k ih=>intro a b c d i;rw [iI,cP];simp only [ih]
theorem Oo {a b:yP}:∀ (m k:Nat) (c:Int) (out:yP) (i:Nat),a.length<=i->0<=c->c<=1000000000->c<10 ^ m->m<k->out.length+m<=1048576->i+m<=1048576->∃ o y z,cP N k a b out c (i:Int)=some (o,y,z)/\o.length<=out.length+m:=by
 intro m
 induction m with
 | zero =>
  intro k c out i hi h0 hm h1 hk hb hi2
  obtain ⟨k,rfl⟩:∃ k',k=k'+1:=⟨k-1,oa⟩
  rw [cP,dge oa,ai,aN (by simp at h1;omega),ai]
  exact ⟨out,c,_,rfl,oa⟩
 | succ m ih =>
  intro k c out i hi h0 hm h1 hk hb hi2
  obtain ⟨k,rfl⟩:∃ k',k=k'+1:=⟨k-1,oa⟩
  rw [cP,dge oa,ai]
  by_cases hx:0<c
  ·have hd:c / 10<10 ^ m:=by rw [rL] at h1;omega
   rw [aJ hx,ae,B3,bs,bB (by decide) (by simp;omega),bs,BV h0 oa,bs,ad1 oa,bs]
   obtain ⟨o,y,z,e,hl⟩:=ih k (c / 10) (out++[c.tmod 10]) (i+1) oa oa oa hd oa (by rw [bZ,bP];omega) oa
   rw [bZ,bP] at hl
   exact ⟨o,y,z,e,oa⟩
  ·rw [aN hx,ai]
   exact ⟨out,c,_,rfl,oa⟩
theorem Ot {a b:yP} (ha:a.length<=1000) (hv:∀ v∈a,0<=v/\v<=1000000):∀ (m k:Nat) (c:Int) (out:yP) (i:Nat),i+m=a.length->0<=c->c<=1000000->m+20<k->out.length<=i->∃ o y z,cP N k a b out c (i:Int)=some (o,y,z)/\o.length<=2000:=by
 intro m
 induction m with
 | zero =>
  intro k c out i hi h0 h1 hk hb
  have hp:(10:Int) ^ 7=10000000:=by decide
  obtain ⟨o,y,z,e,hl⟩:=Oo (N:=N) (a:=a) (b:=b) 7 k c out i oa h0 oa (by rw [hp];omega) oa oa oa
  exact ⟨o,y,z,e,oa⟩
 | succ m ih =>
  intro k c out i hi h0 h1 hk hb
  obtain ⟨k,rfl⟩:∃ k',k=k'+1:=⟨k-1,oa⟩
  have h:i<a.length:=by omega
  have hx:=hv _ (bA h)
  rw [cP,dlt h,ae,bh h,bs,bR oa oa,bs,B3,bs,bB (by decide) (by simp;omega),bs,BV oa oa,bs,ad1 oa,bs]
  exact ih k _ _ (i+1) oa oa oa oa (by rw [bZ,bP];omega)
def gx (xs:yP):Nat->Nat
 | 0=>0
 | m+1=>if xs.getD m 0=0 then gx xs m else m+1
theorem w7 (xs:yP):∀ m,gx xs m<=m
 | 0=>bN _
 | m+1=>by
  have:=w7 xs m
  unfold gx;split <;> omega
theorem II {b xs:yP} (hx:xs.length<=1048576):∀ m k,m<=xs.length->m<k->kF N k b xs (m:Int)=some ((gx xs m:Nat):Int):=by
 intro m
 induction m with
 | zero =>
  intro k hm hk
  obtain ⟨k,rfl⟩:∃ k',k=k'+1:=⟨k-1,oa⟩
  rw [kF,aN oa,ai];rfl
 | succ m ih =>
  intro k hm hk
  obtain ⟨k,rfl⟩:∃ k',k=k'+1:=⟨k-1,oa⟩
  have h:m<xs.length:=by omega
  rw [kF,aJ oa,ae,fL oa oa,bs,show ((m+1:Nat):Int)-1=(m:Int) by omega,bh h,bs,gx,bu h]
  by_cases e:xs[m]=0
  ·rw [show (xs[m] == 0)=true by simpa using e,ae,aK e,bs,ih k oa oa]
  ·rw [show (xs[m] == 0)=false by simpa using e,ai,aS e]
theorem Mm {b xs:yP} (hx:xs.length<=1048576):∀ m k,m<=xs.length->m<k->kx N k b (xs.take m)=some (xs.take (gx xs m)):=by
 intro m
 induction m with
 | zero =>
  intro k hm hk
  obtain ⟨k,rfl⟩:∃ k',k=k'+1:=⟨k-1,oa⟩
  rw [kx,aN (by simp),ai];rfl
 | succ m ih =>
  intro k hm hk
  obtain ⟨k,rfl⟩:∃ k',k=k'+1:=⟨k-1,oa⟩
  have h:m<xs.length:=by omega
  have hl:(xs.take (m+1)).length=m+1:=by rw [c5];omega
  have hg:(xs.take (m+1))[m]'oa=xs[m]:=se
  rw [kx,hl,aJ oa,ae,fL oa oa,bs,show ((m+1:Nat):Int)-1=(m:Int) by omega,bh oa,bs,gx,bu h,hg]
  by_cases e:xs[m]=0
  ·rw [show (xs[m] == 0)=true by simpa using e,ae,aK e,bs,show (0:Int)=((0:Nat):Int) from rfl,ow (cV _) oa,bs,gE,List.take_take,nu oa,ih k oa oa]
  ·rw [show (xs[m] == 0)=false by simpa using e,ai,aS e]
theorem GC (hN:1073741824<=N) {a:yP} (ha:a.length<=1000) (hv:∀ v∈a,0<=v/\v<=1000000):∃ r:yP × Bool,lD N a=some r/\iR N a=some r/\r.1.length<=60:=by
 obtain ⟨o,y,z,e,hl⟩:=Ot (N:=N) (b:=[]) ha hv a.length N 0 [] 0 oa oa oa oa (by simp)
 have e':cP N N a [] [] 0 0=_:=e
 have es:iI N N a [] [] 0 0=_:=(Ou N N a [] [] 0 0).trans e'
 have s1:=II (N:=N) (b:=[]) (xs:=o) oa o.length N (bN _) oa
 have s2:=Mm (N:=N) (b:=[]) (xs:=o) oa o.length N (bN _) oa
 rw [gP] at s2
 have hle:=w7 o o.length
 have hlen:(o.take (gx o o.length)).length=gx o o.length:=by rw [c5];omega
 have hS:lD N a=bif decide (60<((gx o o.length:Nat):Int)) then some ([],false) else some (o.take (gx o o.length),true):=by
  unfold lD
  rw [es,bs,lpB]
  simp only []
  rw [s2,bs,lpB,hlen]
 have hI:iR N a=bif decide (60<((gx o o.length:Nat):Int)) then some ([],false) else some (o.take (gx o o.length),true):=by
  unfold iR
  rw [e',bs,lpB]
  simp only []
  rw [s1,bs,lpB,show (0:Int)=((0:Nat):Int) from rfl,ow (cV _) oa,bs,gE]
 rw [hS,hI]
 by_cases h:60<((gx o o.length:Nat):Int)
 ·rw [aJ h,ae];exact ⟨_,rfl,rfl,cV _⟩
 ·rw [aN h,ai];exact ⟨_,rfl,rfl,by show (o.take (gx o o.length)).length<=60;omega⟩
theorem adN {i j:Nat} (h:i+j<=1000000):ad (i:Int) (j:Int)=some ((i+j:Nat):Int):=by rw [bR oa oa];congr 1
theorem Gn {x y:Int} (hx:0<=x/\x<=9) (hy:0<=y/\y<=9):0<=x*y/\x*y<=81:=⟨qH hx.1 hy.1,mM hx.2 hy.2 hy.1 oa⟩
theorem Mg (hN:1073741824<=N) {a b:yP} (ha:a.length<=60) (hb:b.length<=60) (da:∀ v∈a,0<=v/\v<=9) (db:∀ v∈b,0<=v/\v<=9) {i:Nat} (hi:i<a.length) {C:Int} (hC:C<=500000) {l:yP} (hl:l.length=a.length+b.length) (hv:∀ v∈l,0<=v/\v<=C) :
  ∃ v:yP × Int,gl N N a b [] l (i:Int) 0=some v/\dO N N b [] l (i:Int) a[i] a (a.length:Int) (i:Int) b (b.length:Int) 0=some v/\(v.1.length=a.length+b.length/\∀ x∈v.1,0<=x/\x<=C+4860):=by
 have hai:=da _ (bA hi)
 exact Bt (fun k (s:yP) j=>gl N k a b [] s (i:Int) j) (fun k (s:yP) j=>dO N k b [] s (i:Int) a[i] a (a.length:Int) (i:Int) b (b.length:Int) j) b.length
  (fun j s=>s.length=a.length+b.length/\∀ x∈s,0<=x/\x<=C+81*(j:Int)) (fun v=>v.1.length=a.length+b.length/\∀ x∈v.1,0<=x/\x<=C+4860)
  (fun k j s hj hI=>by
   obtain ⟨h1,h2⟩:=hI
   have hbj:=db _ (bA hj)
   obtain ⟨m1,m2⟩:=Gn hai hbj
   have hij:i+j<s.length:=by omega
   have hs:=h2 _ (bA hij)
   refine .inl ⟨s.set (i+j) (s[i+j]+a[i]*b[j]),?_,?_,by simpa using h1,fun x hx=>?_⟩
   ·show gl N (k+1) a b [] s (i:Int) (j:Int)=_
    rw [gl,dlt hj,ae,adN oa,bs,bs,bh hij,bs,bh hi,bs,bh hj,bs,fv oa oa,bs,bR oa oa,bs,bs,mY hij,bs,ad1 oa,bs]
   ·show dO N (k+1) b [] s (i:Int) a[i] a (a.length:Int) (i:Int) b (b.length:Int) (j:Int)=_
    rw [dO,dlt hj,ae,bh hj,bs,adN oa,bs,bh hij,bs,fv oa oa,bs,bR oa oa,bs,bs,mY hij,bs,ad1 oa,bs]
   ·rcases rZ hx with hx | rfl
    ·have:=h2 x hx;omega
    ·omega)
  (fun k s hI=>by
   obtain ⟨h1,h2⟩:=hI
   refine ⟨(s,(b.length:Int)),?_,?_,h1,fun x hx=>by have:=h2 x hx;omega⟩
   ·show gl N (k+1) a b [] s (i:Int) (b.length:Int)=_
    rw [gl,dge oa,ai]
   ·show dO N (k+1) b [] s (i:Int) a[i] a (a.length:Int) (i:Int) b (b.length:Int) (b.length:Int)=_
    rw [dO,dge oa,ai]) N 0 l oa oa ⟨hl,fun x hx=>by have:=hv x hx;omega⟩
theorem Kj (hN:1073741824<=N) {a b:yP} (ha:a.length<=60) (hb:b.length<=60) (da:∀ v∈a,0<=v/\v<=9) (db:∀ v∈b,0<=v/\v<=9) {l:yP} (hl:l.length=a.length+b.length) (hv:∀ v∈l,0<=v/\v<=0) :
  ∃ v:yP × Int,gj N N a b [] l 0=some v/\dP N N b [] l a (a.length:Int) 0=some v/\(v.1.length=a.length+b.length/\∀ x∈v.1,0<=x/\x<=500000) :=
 Bt (fun k (s:yP) i=>gj N k a b [] s i) (fun k (s:yP) i=>dP N k b [] s a (a.length:Int) i) a.length
  (fun i s=>s.length=a.length+b.length/\∀ x∈s,0<=x/\x<=4860*(i:Int)) (fun v=>v.1.length=a.length+b.length/\∀ x∈v.1,0<=x/\x<=500000)
  (fun k i s hi hI=>by
   obtain ⟨h1,h2⟩:=hI
   obtain ⟨⟨v,z⟩,e1,e2,h3,h4⟩:=Mg (N:=N) hN ha hb da db hi (C:=4860*(i:Int)) oa h1 h2
   refine .inl ⟨v,?_,?_,h3,fun x hx=>by have:=h4 x hx;omega⟩
   ·show gj N (k+1) a b [] s (i:Int)=_
    rw [gj,dlt hi,ae,e1,bs,lpB,ad1 oa];rfl
   ·show dP N (k+1) b [] s a (a.length:Int) (i:Int)=_
    rw [dP,dlt hi,ae,bh hi,bs,e2,bs,lpB,ad1 oa];rfl)
  (fun k s hI=>by
   obtain ⟨h1,h2⟩:=hI
   refine ⟨(s,(a.length:Int)),?_,?_,h1,fun x hx=>by have:=h2 x hx;omega⟩
   ·show gj N (k+1) a b [] s (a.length:Int)=_
    rw [gj,dge oa,ai]
   ·show dP N (k+1) b [] s a (a.length:Int) (a.length:Int)=_
    rw [dP,dge oa,ai]) N 0 l oa oa ⟨hl,fun x hx=>by have:=hv x hx;omega⟩
theorem vU (hN:1073741824<=N) {a b:yP} (ha:a.length<=1048576) (hb:b.length<=1048576):∃ r:yP × Bool,i8 N a b=some r/\gU N a b=some r/\r.1.length<=60:=by
 unfold i8 gU
 rw [Bn hN ha,rV hN ha,Bn hN hb,rV hN hb]
 obtain ⟨x,ex,hx⟩:=yg ha
 obtain ⟨y,ey,hy⟩:=yg hb
 rw [ex,ey]
 cases x with
 | false=>exact ⟨([],false),rfl,rfl,cV _⟩
 | true =>
  cases y with
  | false=>exact ⟨([],false),rfl,rfl,cV _⟩
  | true =>
   obtain ⟨a1,a2⟩:=hx rfl
   obtain ⟨b1,b2⟩:=hy rfl
   obtain ⟨⟨v,z⟩,e1,e2,h3,h4⟩:=Kj (N:=N) hN a1 b1 a2 b2 (l:=List.replicate (a.length+b.length) 0) (by simp) (fun v hv=>by rw [wW hv];omega)
   obtain ⟨r,f1,f2,f3⟩:=GC (N:=N) hN (a:=v) (by have h3':v.length=_:=h3;omega) (fun z hz=>by have:=h4 z hz;omega)
   refine ⟨r,?_,?_,f3⟩
   ·show (ad (a.length:Int) (b.length:Int)).bind _=_
    rw [adN oa,bs,Bc (by decide) oa,bs,e1,bs,lpB]
    show (lD N v).bind _=_
    rw [f1,bs]
   ·show (ad (a.length:Int) (b.length:Int)).bind _=_
    rw [adN oa,bs,Bc (by decide) oa,bs,e2,bs,lpB]
    show (iR N v).bind _=_
    rw [f2,bs]
end
def Oh (s:Sum (yP × Bool) (yP × Int)):Prop:=match s with | .inl q=>q.1.length<=1048576 | .inr v=>v.1.length<=1048576
section
variable {N:Nat}
theorem y5 (hN:1073741824<=N) {n k:Int} (h1:n<=9223372036854775807):∃ r:yP × Bool,gX N n k=some r/\gW N n k=some r/\r.1.length<=1048576/\(n<0->r.2=false)/\(100<k->r.2=false):=by
 unfold gX gW
 by_cases h0:n<0
 ·rw [aJ h0,ae,ae];exact ⟨_,rfl,rfl,cV _,fun _=>rfl,fun _=>rfl⟩
 rw [aN h0,ai,ai,fQ,gi]
 cases hk:inR k 0 100 with
 | false=>exact ⟨([],false),rfl,rfl,cV _,fun _=>rfl,fun _=>rfl⟩
 | true =>
  have hk':=ck.1 hk
  obtain ⟨m,rfl⟩:=kf hk'.1
  obtain ⟨o,eo,ho⟩:=zh (N:=N) hN (n:=1) oa oa
  obtain ⟨c,ec,hc⟩:=zh (N:=N) hN (n:=n) oa h1
  obtain ⟨s,e1,e2,hs⟩:=Bt (fun f (s:yP) i=>d8 N f n (m:Int) [] s i) (fun f (s:yP) i=>cK N f n (m:Int) [] s i) m (fun _ s=>s.length<=1048576) Oh
   (fun f i s hi hI=>by
    obtain ⟨r,m1,m2,hr⟩:=vU (N:=N) hN hI (b:=c) oa
    cases hb:r.2 with
    | true =>
     refine .inl ⟨r.1,?_,?_,oa⟩
     ·show d8 N (f+1) n (m:Int) [] s (i:Int)=_
      rw [d8,dlt hi,ae,vK,ec,bs,m1,bs,hb,ae,ad1 oa,bs]
     ·show cK N (f+1) n (m:Int) [] s (i:Int)=_
      rw [cK,dlt hi,ae,ec,bs,m2,bs,hb,ae,ad1 oa,bs]
    | false =>
     refine .inr ⟨.inl ([],false),?_,?_,cV _⟩
     ·show d8 N (f+1) n (m:Int) [] s (i:Int)=_
      rw [d8,dlt hi,ae,vK,ec,bs,m1,bs,hb,ai]
     ·show cK N (f+1) n (m:Int) [] s (i:Int)=_
      rw [cK,dlt hi,ae,ec,bs,m2,bs,hb,ai])
   (fun f s hI=>by
    refine ⟨.inr (s,(m:Int)),?_,?_,hI⟩
    ·show d8 N (f+1) n (m:Int) [] s (m:Int)=_
     rw [d8,dge oa,ai]
    ·show cK N (f+1) n (m:Int) [] s (m:Int)=_
     rw [cK,dge oa,ai]) N 0 o oa oa oa
  have e1':d8 N N n (m:Int) [] o 0=_:=e1
  have e2':cK N N n (m:Int) [] o 0=_:=e2
  rw [bs,bs,ae,ae,vK,eo,bs,bs,e1',e2',bs]
  cases s with
  | inl q=>exact ⟨q,rfl,rfl,hs,fun h=>absurd h h0,fun h=>by omega⟩
  | inr v=>exact ⟨(v.1,true),rfl,rfl,hs,fun h=>absurd h h0,fun h=>by omega⟩
def Ox (xs:yP) (s:Sum (yP × Bool) (yP × Int)):Prop:=match s with | .inl q=>q.1.length<=1048576/\q.2=false | .inr v=>v.1.length<=1048576/\∀ x∈xs,0<=x
theorem xP (hN:1073741824<=N) {xs ks:yP} (hx:xs.length<=1048576) (hr:∀ v∈xs,v<=9223372036854775807):∃ r:yP × Bool,dl N xs ks=some r/\f8 N xs ks=some r/\r.1.length<=1048576/\(r.2=true->∀ x∈xs,0<=x):=by
 unfold dl f8
 by_cases hl:xs.length=ks.length
 ·obtain ⟨o,eo,ho⟩:=zh (N:=N) hN (n:=1) oa oa
  obtain ⟨s,e1,e2,hs⟩:=Bt (fun f (s:yP) i=>bC N f xs ks [] s i) (fun f (s:yP) i=>cz N f xs ks [] s (xs.length:Int) i) xs.length (fun i s=>s.length<=1048576/\∀ x∈xs.take i,0<=x) (Ox xs)
   (fun f i s hi hI=>by
    obtain ⟨hI1,hI2⟩:=hI
    have hi2:i<ks.length:=by omega
    obtain ⟨p,p1,p2,hp,hp2,_⟩:=y5 (N:=N) hN (n:=xs[i]) (k:=ks[i]) (hr _ (bA hi))
    obtain ⟨r,m1,m2,hr⟩:=vU (N:=N) hN hI1 (b:=p.1) hp
    cases hb:p.2 with
    | true =>
     cases hc:r.2 with
     | true =>
      refine .inl ⟨r.1,?_,?_,oa,fun x hx=>?_⟩
      ·show bC N (f+1) xs ks [] s (i:Int)=_
       rw [bC,dlt hi,ae,bh hi,bs,bh hi2,bs,p1,bs,m1,bs,hb,ae,hc,ae,ad1 oa,bs]
      ·show cz N (f+1) xs ks [] s (xs.length:Int) (i:Int)=_
       rw [cz,dlt hi,ae,bh hi,bs,bh hi2,bs,p2,bs,m2,bs,hb,ae,hc,ae,ad1 oa,bs]
      ·rw [gR hi] at hx
       rcases cU.1 hx with hx | hx
       ·exact hI2 x hx
       ·simp only [d7] at hx
        subst hx
        by_cases hneg:xs[i]<0
        ·rw [hp2 hneg] at hb;cases hb
        ·omega
     | false =>
      refine .inr ⟨.inl ([],false),?_,?_,cV _,rfl⟩
      ·show bC N (f+1) xs ks [] s (i:Int)=_
       rw [bC,dlt hi,ae,bh hi,bs,bh hi2,bs,p1,bs,m1,bs,hb,ae,hc,ai]
      ·show cz N (f+1) xs ks [] s (xs.length:Int) (i:Int)=_
       rw [cz,dlt hi,ae,bh hi,bs,bh hi2,bs,p2,bs,m2,bs,hb,ae,hc,ai]
    | false =>
     refine .inr ⟨.inl ([],false),?_,?_,cV _,rfl⟩
     ·show bC N (f+1) xs ks [] s (i:Int)=_
      rw [bC,dlt hi,ae,bh hi,bs,bh hi2,bs,p1,bs,m1,bs,hb,ai]
     ·show cz N (f+1) xs ks [] s (xs.length:Int) (i:Int)=_
      rw [cz,dlt hi,ae,bh hi,bs,bh hi2,bs,p2,bs,m2,bs,hb,ai])
   (fun f s hI=>by
    obtain ⟨hI1,hI2⟩:=hI
    rw [gP] at hI2
    refine ⟨.inr (s,(xs.length:Int)),?_,?_,hI1,hI2⟩
    ·show bC N (f+1) xs ks [] s (xs.length:Int)=_
     rw [bC,dge oa,ai]
    ·show cz N (f+1) xs ks [] s (xs.length:Int) (xs.length:Int)=_
     rw [cz,dge oa,ai]) N 0 o oa oa ⟨oa,fun x hx=>by simp at hx⟩
  have e1':bC N N xs ks [] o 0=_:=e1
  have e2':cz N N xs ks [] o (xs.length:Int) 0=_:=e2
  rw [show ((xs.length:Int) != (ks.length:Int))=false by simp [hl],ai,ai,vK,eo,bs,bs,e1',e2',bs]
  cases s with
  | inl q =>
   obtain ⟨h1,h2⟩:=hs
   exact ⟨q,rfl,rfl,h1,fun h=>by rw [h2] at h;cases h⟩
  | inr v =>
   obtain ⟨h1,h2⟩:=hs
   exact ⟨(v.1,true),rfl,rfl,h1,fun _=>h2⟩
 ·rw [show ((xs.length:Int) != (ks.length:Int))=true by simp;omega,ae,ae]
  exact ⟨_,rfl,rfl,cV _,fun h=>by cases h⟩
theorem Ml {a b:yP} (hl:a.length=b.length) (ha:a.length<=1048576):∀ m k,m<=a.length->m<k->∃ s:Sum Int Int,gY N k a b ((m:Int)-1)=some s/\dD N k a b ((m:Int)-1)=some s:=by
 intro m
 induction m with
 | zero =>
  intro k hm hk
  obtain ⟨k,rfl⟩:∃ k',k=k'+1:=⟨k-1,oa⟩
  rw [gY,dD,aN oa,ai,ai]
  exact ⟨_,rfl,rfl⟩
 | succ m ih =>
  intro k hm hk
  obtain ⟨k,rfl⟩:∃ k',k=k'+1:=⟨k-1,oa⟩
  have h1:m<a.length:=by omega
  have h2:m<b.length:=by omega
  have hm1:((m+1:Nat):Int)-1=(m:Int):=by omega
  obtain ⟨s,e1,e2⟩:=ih k oa oa
  rw [hm1,gY,dD,aJ oa,ae,ae,bh h1,bh h2]
  simp only [bs]
  rw [fL oa oa]
  simp only [bs,jW]
  rcases Int.lt_trichotomy a[m] b[m] with h | h | h
  ·rw [aJ h,ae,show (a[m] != b[m])=true by simp;omega,ae,lP,aK h]
   exact ⟨_,rfl,rfl⟩
  ·rw [aN oa,ai,aN oa,ai,show (a[m] != b[m])=false by simp [h],ai]
   exact ⟨s,e1,e2⟩
  ·rw [aN oa,ai,aJ h,ae,show (a[m] != b[m])=true by simp;omega,ae,lP,aS oa,aK h]
   exact ⟨_,rfl,rfl⟩
theorem tE (hN:1073741824<=N) {a b:yP} (ha:a.length<=1048576) (hb:b.length<=1048576):∃ c,fx N a b=some c/\eO N a b=some c:=by
 unfold fx eO
 rw [Bn hN ha,rV hN ha,Bn hN hb,rV hN hb]
 obtain ⟨x,ex,_⟩:=yg ha
 obtain ⟨y,ey,_⟩:=yg hb
 rw [ex,ey]
 cases x with
 | false=>exact ⟨0,rfl,rfl⟩
 | true =>
  cases y with
  | false=>exact ⟨0,rfl,rfl⟩
  | true =>
   simp only [bs,ae,jW]
   by_cases hl:a.length=b.length
   ·obtain ⟨s,e1,e2⟩:=Ml (N:=N) hl ha a.length N (bN _) oa
    rw [show ((a.length:Int) != (b.length:Int))=false by simp [hl],ai,ai,fL oa oa]
    simp only [bs]
    rw [e1,e2,bs]
    cases s with
    | inl q=>exact ⟨q,rfl,rfl⟩
    | inr v=>exact ⟨0,rfl,rfl⟩
   ·rw [show ((a.length:Int) != (b.length:Int))=true by simp;omega,ae,ae]
    unfold lP
    by_cases h:(a.length:Int)<(b.length:Int)
    ·rw [aJ h,ae,aK h];exact ⟨_,rfl,rfl⟩
    ·rw [aN h,ai,aS h,aK oa];exact ⟨_,rfl,rfl⟩
end
def vB:yP->Int
 | []=>0
 | x :: xs=>x+10*vB xs
theorem p10 (n:Nat):(10:Int) ^ (n+1)=10*10 ^ n:=by rw [rL,Int.mul_comm]
theorem BK:∀ n:Nat,(0:Int)<10 ^ n
 | 0=>by decide
 | n+1=>by rw [p10];have:=BK n;omega
theorem vX {m n:Nat} (h:m<=n):(10:Int) ^ m<=10 ^ n:=by
 induction n with
 | zero =>
  have:m=0:=by omega
  subst this;exact lA _
 | succ n ih =>
  by_cases e:m=n+1
  ·subst e;exact lA _
  ·have:=ih oa
   have:=BK n
   rw [p10];omega
theorem Bw:∀ a b:yP,vB (a++b)=vB a+10 ^ a.length*vB b
 | [],b=>by show vB b=0+10 ^ 0*vB b;rw [show (10:Int) ^ 0=1 from rfl];omega
 | x :: a,b=>by
  show x+10*vB (a++b)=x+10*vB a+10 ^ (a.length+1)*vB b
  rw [Bw a b,p10,Int.mul_add,Int.mul_assoc];omega
theorem H7:∀ (s:yP) (k:Nat) (h:k<s.length) (c:Int),vB (s.set k (s[k]+c))=vB s+c*10 ^ k
 | [],k,h,_=>by simp at h
 | x :: s,0,_,c=>by show x+c+10*vB s=x+10*vB s+c*10 ^ 0;rw [show (10:Int) ^ 0=1 from rfl];omega
 | x :: s,k+1,h,c=>by
  have hk:k<s.length:=by simpa using h
  have:=H7 s k hk c
  show x+10*vB (s.set k (s[k]+c))=x+10*vB s+c*10 ^ (k+1)
  rw [this,p10,Int.mul_add]
  have e:c*(10*10 ^ k)=10*(c*(10:Int) ^ k):=by ac_rfl
  rw [e];omega
def pJ (xs:yP):Prop:=∀ v∈xs,0<=v/\v<=9
def Cn (xs:yP):Prop:=pJ xs/\(xs=[]\/xs.getD (xs.length-1) 0≠0)
theorem GP:∀ {xs:yP},pJ xs->0<=vB xs
 | [],_=>lA _
 | x :: xs,h=>by
  have h1:=h x cx
  have:=GP (xs:=xs) fun v hv=>h v (cD _ hv)
  show 0<=x+10*vB xs;omega
theorem xV:∀ {xs:yP},pJ xs->vB xs<10 ^ xs.length
 | [],_=>by decide
 | x :: xs,h=>by
  have h1:=h x cx
  have:=xV (xs:=xs) fun v hv=>h v (cD _ hv)
  show x+10*vB xs<10 ^ (xs.length+1);rw [p10];omega
theorem J5:∀ {xs:yP},pJ xs->xs≠[]->xs.getD (xs.length-1) 0≠0->10 ^ (xs.length-1)<=vB xs
 | [],_,h,_=>absurd rfl h
 | [x],h,_,h2=>by
  have h1:=h x cx
  have:x≠0:=by simpa using h2
  show (10:Int) ^ 0<=x+10*0
  rw [show (10:Int) ^ 0=1 from rfl];omega
 | x :: y :: xs,h,_,h2=>by
  have h1:=h x cx
  have:=J5 (xs:=y :: xs) (fun v hv=>h v (cD _ hv)) (by simp) (by simpa using h2)
  simp only [b9,rP] at this ⊢
  show (10:Int) ^ (xs.length+1)<=x+10*vB (y :: xs)
  rw [p10];omega
theorem Cn.ge {xs:yP} (h:Cn xs) (hn:xs≠[]):10 ^ (xs.length-1)<=vB xs:=by
 rcases h.2 with e | e
 ·exact absurd e hn
 ·exact J5 h.1 hn e
theorem Cn.len {xs:yP} (h:Cn xs) {n:Nat} (hv:vB xs<10 ^ n):xs.length<=n:=by
 by_cases hn:xs=[]
 ·subst hn;exact cV _
 ·have:=h.ge hn
  by_cases hl:xs.length<=n
  ·exact hl
  ·have:=vX (show n<=xs.length-1 by omega)
   omega
section
variable {N:Nat}
theorem yk {xs:yP} (h:Cn xs) (hl:xs.length<=60):vF xs=some true:=by
 unfold vF
 have h1:xs.all (fun v=>inR v 0 9)=true:=df.2 fun v hv=>ck.2 (h.1 v hv)
 rw [h1,ae,aJ oa,ae]
 by_cases h0:xs.length=0
 ·rw [show ((xs.length:Int) == 0)=true by simp [h0],ae]
 ·rw [show ((xs.length:Int) == 0)=false by simp;simpa using h0,ai,fL oa oa,bs,show (xs.length:Int)-1=((xs.length-1:Nat):Int) by omega,bh oa,bs]
  rcases h.2 with e | e
  ·rw [e] at h0;simp at h0
  ·rw [bu oa] at e
   simp [e]
theorem zf {x:Int} (h:0<=x):x.tmod 10=x % 10:=Int.tmod_eq_emod_of_nonneg h
theorem OE:∀ (m k:Nat) (x:Int) (a b:yP),0<=x->x<=9223372036854775807->x<10 ^ m->m<k->b.length+m<=1048576->∃ y ds,c8 N k x a b=some (y,b++ds)/\vB ds=x/\pJ ds/\ds.length<=m/\(x=0->ds=[])/\(0<x->ds≠[]/\ds.getD (ds.length-1) 0≠0):=by
 intro m
 induction m with
 | zero =>
  intro k x a b h0 hm h1 hk hb
  obtain ⟨k,rfl⟩:∃ k',k=k'+1:=⟨k-1,oa⟩
  have hx:x=0:=by simp at h1;omega
  rw [c8,aN oa,ai]
  exact ⟨x,[],by simp,hx.symm,by intro v hv;simp at hv,by simp,fun _=>rfl,fun h=>by omega⟩
 | succ m ih =>
  intro k x a b h0 hm h1 hk hb
  obtain ⟨k,rfl⟩:∃ k',k=k'+1:=⟨k-1,oa⟩
  rw [c8]
  by_cases hx:0<x
  ·have hd:x / 10<10 ^ m:=by rw [rL] at h1;omega
   rw [aJ hx,ae,B3,bs,bB (by decide) (by simp;omega),bs,BV h0 hm,bs]
   obtain ⟨y,ds,e,v1,v2,v3,v4,v5⟩:=ih k (x / 10) a (b++[x.tmod 10]) oa oa hd oa (by rw [bZ,bP];omega)
   refine ⟨y,x.tmod 10 :: ds,by rw [e,eS];rfl,?_,?_,by simp;omega,fun h=>by omega,fun _=>⟨by simp,?_⟩⟩
   ·show x.tmod 10+10*vB ds=x
    rw [v1,zf h0];omega
   ·intro v hv
    rcases bX.1 hv with rfl | hv
    ·rw [zf h0];omega
    ·exact v2 v hv
   ·by_cases hq:0<x / 10
    ·obtain ⟨w1,w2⟩:=v5 hq
     obtain ⟨d,t,rfl⟩:=List.exists_cons_of_ne_nil w1
     simpa using w2
    ·have:=v4 oa
     subst this
     rw [zf h0]
     show x % 10≠0
     omega
  ·have hx0:x=0:=by omega
   rw [aN hx,ai]
   exact ⟨x,[],by simp,hx0.symm,by intro v hv;simp at hv,by simp,fun _=>rfl,fun h=>by omega⟩
theorem Fk (hN:1073741824<=N) {n:Int} (h0:0<=n) (h1:n<=9223372036854775807):∃ b,eK N n=some b/\b.length<=19/\vB b=n/\Cn b:=by
 have hp:(10:Int) ^ 19=10000000000000000000:=by decide
 obtain ⟨y,b,e,v1,v2,v3,v4,v5⟩:=OE (N:=N) 19 N n [] [] h0 h1 (by rw [hp];omega) oa (by rw [gu];omega)
 refine ⟨b,?_,v3,v1,v2,?_⟩
 ·unfold eK;rw [e,bs,lpB];rfl
 ·by_cases h:0<n
  ·exact .inr (v5 h).2
  ·exact .inl (v4 oa)
theorem NZ {a b:yP}:∀ (m k:Nat) (c:Int) (out:yP) (i:Nat),a.length<=i->0<=c->c<=1000000000->c<10 ^ m->m<k->out.length+m<=1048576->i+m<=1048576->∃ ds y z,cP N k a b out c (i:Int)=some (out++ds,y,z)/\ds.length<=m/\vB ds=c/\pJ ds:=by
 intro m
 induction m with
 | zero =>
  intro k c out i hi h0 hm h1 hk hb hi2
  obtain ⟨k,rfl⟩:∃ k',k=k'+1:=⟨k-1,oa⟩
  have hc:c=0:=by simp at h1;omega
  rw [cP,dge oa,ai,aN oa,ai]
  exact ⟨[],c,_,by rw [jI],by simp,hc.symm,by intro v hv;simp at hv⟩
 | succ m ih =>
  intro k c out i hi h0 hm h1 hk hb hi2
  obtain ⟨k,rfl⟩:∃ k',k=k'+1:=⟨k-1,oa⟩
  rw [cP,dge oa,ai]
  by_cases hx:0<c
  ·have hd:c / 10<10 ^ m:=by rw [rL] at h1;omega
   rw [aJ hx,ae,B3,bs,bB (by decide) (by simp;omega),bs,BV h0 oa,bs,ad1 oa,bs]
   obtain ⟨ds,y,z,e,hl,hv,hd2⟩:=ih k (c / 10) (out++[c.tmod 10]) (i+1) oa oa oa hd oa (by rw [bZ,bP];omega) oa
   refine ⟨c.tmod 10 :: ds,y,z,by rw [e,eS];rfl,by simp;omega,?_,?_⟩
   ·show c.tmod 10+10*vB ds=c
    rw [hv,zf h0];omega
   ·intro v hv
    rcases bX.1 hv with rfl | hv
    ·rw [zf h0];omega
    ·exact hd2 v hv
  ·have hc:c=0:=by omega
   rw [aN hx,ai]
   exact ⟨[],c,_,by rw [jI],by simp,hc.symm,by intro v hv;simp at hv⟩
theorem NS {a b:yP} (ha:a.length<=1000) (hv:∀ v∈a,0<=v/\v<=1000000):∀ (m k:Nat) (c:Int) (out:yP) (i:Nat),i+m=a.length->0<=c->c<=1000000->m+20<k->out.length<=i->∃ ds y z,cP N k a b out c (i:Int)=some (out++ds,y,z)/\ds.length<=m+7/\vB ds=c+vB (a.drop i)/\pJ ds:=by
 intro m
 induction m with
 | zero =>
  intro k c out i hi h0 h1 hk hb
  have hp:(10:Int) ^ 7=10000000:=by decide
  obtain ⟨ds,y,z,e,hl,h3,h4⟩:=NZ (N:=N) (a:=a) (b:=b) 7 k c out i oa h0 oa (by rw [hp];omega) oa oa oa
  refine ⟨ds,y,z,e,oa,?_,h4⟩
  rw [h3,mN oa]
  show c=c+0;omega
 | succ m ih =>
  intro k c out i hi h0 h1 hk hb
  obtain ⟨k,rfl⟩:∃ k',k=k'+1:=⟨k-1,oa⟩
  have h:i<a.length:=by omega
  have hx:=hv _ (bA h)
  rw [cP,dlt h,ae,bh h,bs,bR oa oa,bs,B3,bs,bB (by decide) (by simp;omega),bs,BV oa oa,bs,ad1 oa,bs]
  obtain ⟨ds,y,z,e,hl,h3,h4⟩:=ih k ((c+a[i]) / 10) (out++[(c+a[i]).tmod 10]) (i+1) oa oa oa oa (by rw [bZ,bP];omega)
  refine ⟨(c+a[i]).tmod 10 :: ds,y,z,by rw [e,eS];rfl,by simp;omega,?_,?_⟩
  ·rw [km h]
   show (c+a[i]).tmod 10+10*vB ds=c+(a[i]+10*vB (a.drop (i+1)))
   rw [h3,zf oa];omega
  ·intro v hv
   rcases bX.1 hv with rfl | hv
   ·rw [zf oa];omega
   ·exact h4 v hv
theorem CD {xs:yP}:∀ m,m<=xs.length->vB (xs.take (gx xs m))=vB (xs.take m)/\(gx xs m=0\/xs.getD (gx xs m-1) 0≠0)
 | 0,_=>⟨rfl,.inl rfl⟩
 | m+1,h=>by
  obtain ⟨h1,h2⟩:=CD (xs:=xs) m oa
  unfold gx
  by_cases e:xs.getD m 0=0
  ·rw [aK e]
   refine ⟨?_,h2⟩
   rw [h1,gR (show m<xs.length by omega),Bw]
   rw [bu oa] at e
   rw [e]
   show _=_+_*(0+10*0)
   rw [show (0:Int)+10*0=0 from rfl,tO,xI]
  ·rw [aS e];exact ⟨rfl,.inr (by simpa using e)⟩
theorem HA (hN:1073741824<=N) {a:yP} (ha:a.length<=1000) (hv:∀ v∈a,0<=v/\v<=1000000):∃ r:yP × Bool,iR N a=some r/\(r.2=true->vB r.1=vB a/\Cn r.1/\r.1.length<=60)/\(r.2=true↔vB a<10 ^ 60):=by
 obtain ⟨o,y,z,e,hl,h3,h4⟩:=NS (N:=N) (b:=[]) ha hv a.length N 0 [] 0 oa oa oa oa (by simp)
 have e':cP N N a [] [] 0 0=some (o,y,z):=e
 have h3:vB o=vB a:=by rw [h3,gE];omega
 have s1:=II (N:=N) (b:=[]) (xs:=o) oa o.length N (bN _) oa
 obtain ⟨g1,g2⟩:=CD (xs:=o) o.length (bN _)
 rw [gP] at g1
 have hle:=w7 o o.length
 have hlen:(o.take (gx o o.length)).length=gx o o.length:=by rw [c5];omega
 have hC:Cn (o.take (gx o o.length)):=by
  refine ⟨fun v hv=>h4 v (rJ hv),?_⟩
  rw [hlen]
  rcases g2 with g2 | g2
  ·exact .inl (by rw [g2];rfl)
  ·by_cases hz:gx o o.length=0
   ·exact .inl (by rw [hz];rfl)
   ·right
    rw [nD,jr,aK oa,<- nD];exact g2
 have hI:iR N a=bif decide (60<((gx o o.length:Nat):Int)) then some ([],false) else some (o.take (gx o o.length),true):=by
  unfold iR
  rw [e',bs,lpB]
  simp only []
  rw [s1,bs,lpB,show (0:Int)=((0:Nat):Int) from rfl,ow (cV _) oa,bs,gE]
 rw [hI]
 by_cases h:60<gx o o.length
 ·rw [aJ oa,ae]
  refine ⟨_,rfl,(fun h=>nomatch h),⟨(fun h=>nomatch h),fun hlt=>?_⟩⟩
  rw [<- h3,<- g1] at hlt
  have:=hC.len hlt
  omega
 ·rw [aN oa,ai]
  refine ⟨_,rfl,fun _=>⟨by show vB (o.take _)=_;rw [g1,h3],hC,by show (o.take _).length<=60;omega⟩,fun _=>?_,fun _=>rfl⟩
  rw [<- h3,<- g1]
  have h1:=xV hC.1
  have h2:=vX (show (o.take (gx o o.length)).length<=60 by omega)
  omega
theorem Lv {a b:yP} (ha:a.length<=60) (hb:b.length<=60) (da:pJ a) (db:pJ b) {i:Nat} (hi:i<a.length) {C:Int} (hC:C<=500000):∀ (m j k:Nat) (s:yP),j+m=b.length->m<k->s.length=a.length+b.length->(∀ x∈s,0<=x/\x<=C+81*(j:Int)) ->
  ∃ s',dO N k b [] s (i:Int) a[i] a (a.length:Int) (i:Int) b (b.length:Int) (j:Int)=some (s',(b.length:Int))/\s'.length=a.length+b.length/\(∀ x∈s',0<=x/\x<=C+4860)/\vB s'=vB s+a[i]*10 ^ (i+j)*vB (b.drop j):=by
 have hai:=da _ (bA hi)
 intro m
 induction m with
 | zero =>
  intro j k s hj hk hs hx
  obtain ⟨k,rfl⟩:∃ k',k=k'+1:=⟨k-1,oa⟩
  obtain rfl:j=b.length:=by omega
  rw [dO,dge oa,ai]
  refine ⟨s,rfl,hs,fun x h=>by have:=hx x h;omega,?_⟩
  rw [List.drop_length]
  show _=_+_*0
  rw [tO,xI]
 | succ m ih =>
  intro j k s hj hk hs hx
  obtain ⟨k,rfl⟩:∃ k',k=k'+1:=⟨k-1,oa⟩
  have hjb:j<b.length:=by omega
  have hbj:=db _ (bA hjb)
  obtain ⟨m1,m2⟩:=Gn hai hbj
  have hij:i+j<s.length:=by omega
  have hsv:=hx _ (bA hij)
  rw [dO,dlt hjb,ae,bh hjb,bs,adN oa,bs,bh hij,bs,fv oa oa,bs,bR oa oa,bs,bs,mY hij,bs,ad1 oa,bs]
  obtain ⟨s',e1,e2,e3,e4⟩:=ih (j+1) k (s.set (i+j) (s[i+j]+a[i]*b[j])) oa oa (by simpa using hs) fun x h=>by
   rcases rZ h with h | rfl
   ·have:=hx x h;omega
   ·omega
  refine ⟨s',e1,e2,e3,?_⟩
  rw [e4,H7,km hjb]
  show _=vB s+a[i]*10 ^ (i+j)*(b[j]+10*vB (b.drop (j+1)))
  rw [show i+(j+1)=(i+j)+1 by omega,p10]
  have e:a[i]*10 ^ (i+j)*(b[j]+10*vB (b.drop (j+1)))=a[i]*b[j]*10 ^ (i+j)+a[i]*(10*10 ^ (i+j))*vB (b.drop (j+1)):=by
   rw [Int.mul_add]
   congr 1 <;> ac_rfl
  rw [e];omega
theorem JT (hN:1073741824<=N) {a b:yP} (ha:a.length<=60) (hb:b.length<=60) (da:pJ a) (db:pJ b):∀ (m i k:Nat) (s:yP),i+m=a.length->m<k->s.length=a.length+b.length->(∀ x∈s,0<=x/\x<=4860*(i:Int)) ->
  ∃ s',dP N k b [] s a (a.length:Int) (i:Int)=some (s',(a.length:Int))/\s'.length=a.length+b.length/\(∀ x∈s',0<=x/\x<=500000)/\vB s'=vB s+10 ^ i*vB (a.drop i)*vB b:=by
 intro m
 induction m with
 | zero =>
  intro i k s hi hk hs hx
  obtain ⟨k,rfl⟩:∃ k',k=k'+1:=⟨k-1,oa⟩
  obtain rfl:i=a.length:=by omega
  rw [dP,dge oa,ai]
  refine ⟨s,rfl,hs,fun x h=>by have:=hx x h;omega,?_⟩
  rw [List.drop_length]
  show _=_+_*0*_
  rw [tO,Int.zero_mul,xI]
 | succ m ih =>
  intro i k s hi hk hs hx
  obtain ⟨k,rfl⟩:∃ k',k=k'+1:=⟨k-1,oa⟩
  have h:i<a.length:=by omega
  obtain ⟨s1,e1,e2,e3,e4⟩:=Lv (N:=N) ha hb da db h (C:=4860*(i:Int)) oa b.length 0 N s oa oa hs fun x hx'=>by have:=hx x hx';omega
  obtain ⟨s',f1,f2,f3,f4⟩:=ih (i+1) k s1 oa oa e2 fun x hx'=>by have:=e3 x hx';omega
  have e1':dO N N b [] s (i:Int) a[i] a (a.length:Int) (i:Int) b (b.length:Int) 0=_:=e1
  rw [dP,dlt h,ae,bh h,bs,e1',bs,lpB]
  dsimp only
  rw [ad1 oa,bs]
  refine ⟨s',f1,f2,f3,?_⟩
  rw [f4,e4,gE,mT,km h]
  show _=vB s+10 ^ i*(a[i]+10*vB (a.drop (i+1)))*vB b
  have e:10 ^ i*(a[i]+10*vB (a.drop (i+1)))*vB b=a[i]*10 ^ i*vB b+10*10 ^ i*vB (a.drop (i+1))*vB b:=by
   rw [Int.mul_add,Int.add_mul]
   congr 1 <;> ac_rfl
  rw [p10,e];omega
theorem Er:∀ n:Nat,vB (List.replicate n 0)=0
 | 0=>rfl
 | n+1=>by rw [Bs];show 0+10*vB (List.replicate n 0)=0;rw [Er n];rfl
theorem FQ (hN:1073741824<=N) {a b:yP} (ha:Cn a) (hb:Cn b) (la:a.length<=60) (lb:b.length<=60):∃ r:yP × Bool,gU N a b=some r/\(r.2=true->vB r.1=vB a*vB b/\Cn r.1/\r.1.length<=60)/\(r.2=true↔vB a*vB b<10 ^ 60):=by
 unfold gU
 rw [rV hN oa,rV hN oa,yk ha la,yk hb lb,bs,ae,bs,ae,adN oa,bs,Bc (by decide) oa,bs]
 obtain ⟨s,e1,e2,e3,e4⟩:=JT hN la lb ha.1 hb.1 a.length 0 N (List.replicate (a.length+b.length) 0) oa oa (by simp) (fun v hv=>by rw [wW hv];omega)
 have e1':dP N N b [] (List.replicate (a.length+b.length) 0) a (a.length:Int) 0=_:=e1
 obtain ⟨r,c1,c2,c3⟩:=HA hN (a:=s) oa (fun x hx=>by have:=e3 x hx;omega)
 have hv:vB s=vB a*vB b:=by
  rw [e4,Er,gE,show (10:Int) ^ 0=1 from rfl,uR,Int.zero_add]
 rw [hv] at c2 c3
 rw [e1',bs,lpB]
 dsimp only
 rw [c1,bs]
 exact ⟨_,rfl,c2,c3⟩
theorem LZ (hN:1073741824<=N) {n:Int} (h0:0<=n) (h1:n<=9223372036854775807) {d:Nat} (hd:d<=100):∃ r:yP × Bool,gW N n (d:Int)=some r/\(r.2=true->vB r.1=n ^ d/\Cn r.1/\r.1.length<=60)/\(r.2=true↔∀ j,j<d->n ^ (j+1)<10 ^ 60):=by
 obtain ⟨o,eo,ho,vo,co⟩:=Fk (N:=N) hN (n:=1) oa oa
 obtain ⟨c,ec,hc,vc,cc⟩:=Fk (N:=N) hN h0 h1
 have key:∀ (m i k:Nat) (s:yP),i+m=d->m<k->Cn s->s.length<=60->vB s=n ^ i ->
   (∃ s',cK N k n (d:Int) [] s (i:Int)=some (.inr (s',(d:Int)))/\Cn s'/\s'.length<=60/\vB s'=n ^ d/\∀ j,i<=j->j<d->n ^ (j+1)<10 ^ 60) \/
   (cK N k n (d:Int) [] s (i:Int)=some (.inl ([],false))/\∃ j,i<=j/\j<d/\¬ n ^ (j+1)<10 ^ 60):=by
  intro m
  induction m with
  | zero =>
   intro i k s hi hk h1 h2 h3
   obtain ⟨k,rfl⟩:∃ k',k=k'+1:=⟨k-1,oa⟩
   obtain rfl:i=d:=by omega
   left
   rw [cK,dge oa,ai]
   exact ⟨s,rfl,h1,h2,h3,fun j a b=>by omega⟩
  | succ m ih =>
   intro i k s hi hk k1 k2 k3
   obtain ⟨k,rfl⟩:∃ k',k=k'+1:=⟨k-1,oa⟩
   obtain ⟨r,m1,m2,m3⟩:=FQ hN k1 cc k2 oa
   have hp:vB s*vB c=n ^ (i+1):=by rw [k3,vc,rL]
   rw [hp] at m2 m3
   rw [cK,dlt oa,ae,ec,bs,m1,bs]
   cases hb:r.2 with
   | true =>
    obtain ⟨q1,q2,q3⟩:=m2 hb
    rw [ae,ad1 oa,bs]
    rcases ih (i+1) k r.1 oa oa q2 q3 q1 with ⟨s',a1,a2,a3,a4,a5⟩ | ⟨a1,j,a2,a3,a4⟩
    ·refine .inl ⟨s',a1,a2,a3,a4,fun j b1 b2=>?_⟩
     by_cases e:j=i
     ·rw [e];exact m3.1 hb
     ·exact a5 j oa b2
    ·exact .inr ⟨a1,j,oa,a3,a4⟩
   | false =>
    rw [ai]
    refine .inr ⟨rfl,i,bN _,oa,fun h=>?_⟩
    rw [m3.2 h] at hb;cases hb
 unfold gW
 rw [aN oa,ai,gi,bs,show inR (d:Int) 0 100=true from ck.2 oa,ae,eo,bs]
 rcases key d 0 N o oa oa co oa (by rw [vo,Int.pow_zero]) with ⟨s',a1,a2,a3,a4,a5⟩ | ⟨a1,j,a2,a3,a4⟩
 ·have a1':cK N N n (d:Int) [] o 0=_:=a1
  rw [a1',bs,jh]
  exact ⟨_,rfl,fun _=>⟨a4,a2,a3⟩,fun _ j hj=>a5 j oa hj,fun _=>rfl⟩
 ·have a1':cK N N n (d:Int) [] o 0=_:=a1
  rw [a1',bs,nh]
  exact ⟨_,rfl,(fun h=>nomatch h),⟨(fun h=>nomatch h),fun h=>absurd (h j a3) a4⟩⟩
theorem MM {a b:yP} (hl:a.length=b.length) (da:pJ a) (db:pJ b) (ha:a.length<=1048576):∀ m k,m<=a.length->m<k ->
  (∃ q,dD N k a b ((m:Int)-1)=some (.inl q)/\(q=-1/\vB (a.take m)<vB (b.take m)\/q=1/\vB (b.take m)<vB (a.take m)))\/(∃ z,dD N k a b ((m:Int)-1)=some (.inr z))/\vB (a.take m)=vB (b.take m):=by
 intro m
 induction m with
 | zero =>
  intro k hm hk
  obtain ⟨k,rfl⟩:∃ k',k=k'+1:=⟨k-1,oa⟩
  rw [dD,aN oa,ai]
  exact .inr ⟨⟨_,rfl⟩,rfl⟩
 | succ m ih =>
  intro k hm hk
  obtain ⟨k,rfl⟩:∃ k',k=k'+1:=⟨k-1,oa⟩
  have h1:m<a.length:=by omega
  have h2:m<b.length:=by omega
  have hm1:((m+1:Nat):Int)-1=(m:Int):=by omega
  have ea:vB (a.take (m+1))=vB (a.take m)+10 ^ m*a[m]:=by
   rw [gR h1,Bw,c5,nu oa]
   show _+10 ^ m*(a[m]+10*0)=_
   rw [tO,xI]
  have eb:vB (b.take (m+1))=vB (b.take m)+10 ^ m*b[m]:=by
   rw [gR h2,Bw,c5,nu oa]
   show _+10 ^ m*(b[m]+10*0)=_
   rw [tO,xI]
  have dta:pJ (a.take m):=fun v hv=>da v (rJ hv)
  have dtb:pJ (b.take m):=fun v hv=>db v (rJ hv)
  have la:=xV dta
  have lb:=xV dtb
  rw [c5,nu oa] at la lb
  have na:=GP dta
  have nb:=GP dtb
  have key:∀ x y:Int,x<y->(10:Int) ^ m*x+10 ^ m<=10 ^ m*y:=fun x y h=>by
   have:=AC (show x+1<=y by omega) (sY (BK m))
   rw [Int.mul_add,sh] at this;exact this
  rw [hm1,dD,aJ oa,ae,bh h1,bh h2]
  simp only [bs,jW]
  rcases Int.lt_trichotomy a[m] b[m] with h | h | h
  ·rw [show (a[m] != b[m])=true by simp;omega,ae,lP,aK h]
   have:=key _ _ h
   exact .inl ⟨_,rfl,.inl ⟨by decide,oa⟩⟩
  ·rw [show (a[m] != b[m])=false by simp [h],ai,fL oa oa,bs]
   rw [ea,eb,h]
   rcases ih k oa oa with ⟨q,q1,q2⟩ | ⟨q1,q2⟩
   ·exact .inl ⟨q,q1,oa⟩
   ·exact .inr ⟨q1,oa⟩
  ·rw [show (a[m] != b[m])=true by simp;omega,ae,lP,aS oa,aK h]
   have:=key _ _ h
   exact .inl ⟨_,rfl,.inr ⟨by decide,oa⟩⟩
theorem EO (hN:1073741824<=N) {a b:yP} (ha:Cn a) (hb:Cn b) (la:a.length<=60) (lb:b.length<=60):∃ q,eO N a b=some q/\(q<=0↔vB a<=vB b)/\(q<0↔vB a<vB b)/\-1<=q/\q<=1:=by
 unfold eO
 rw [rV hN oa,rV hN oa,yk ha la,yk hb lb,bs,ae,bs,ae]
 by_cases hl:a.length=b.length
 ·rw [show ((a.length:Int) != (b.length:Int))=false by simp [hl],ai,fL oa oa,bs]
  rcases MM (N:=N) hl ha.1 hb.1 oa a.length N (bN _) oa with ⟨q,q1,q2⟩ | ⟨⟨z,q1⟩,q2⟩
  ·rw [gP,show b.take a.length=b by rw [hl,gP]] at q2
   rw [q1,bs,nh]
   exact ⟨q,rfl,oa⟩
  ·rw [gP,show b.take a.length=b by rw [hl,gP]] at q2
   rw [q1,bs,jh]
   exact ⟨0,rfl,oa⟩
 ·rw [show ((a.length:Int) != (b.length:Int))=true by simp;omega,ae,jW,bs]
  unfold lP
  by_cases h:(a.length:Int)<(b.length:Int)
  ·rw [aK h]
   have hbn:b≠[]:=fun e=>by have:=aX List.length e;rw [gu] at this;omega
   have h1:=hb.ge hbn
   have h2:=xV ha.1
   have h3:=vX (show a.length<=b.length-1 by omega)
   exact ⟨-1,rfl,oa⟩
  ·rw [aS h,aK oa]
   have han:a≠[]:=fun e=>by have:=aX List.length e;rw [gu] at this;omega
   have h1:=ha.ge han
   have h2:=xV hb.1
   have h3:=vX (show b.length<=a.length-1 by omega)
   exact ⟨1,rfl,oa⟩
theorem Lk (hN:1073741824<=N) {a b:yP} (ha:Cn a) (hb:Cn b) (la:a.length<=60) (lb:b.length<=60):∃ q,eO N a b=some q/\(q<=0↔vB a<=vB b):=by
 obtain ⟨q,e,h,_⟩:=EO hN ha hb la lb
 exact ⟨q,e,h⟩
end
theorem B4 (a:Int) {m:Nat} (hm:m<=4611686018427387904):0<=jZ a (m:Int)/\jZ a (m:Int)<=(m:Int):=by
 have h1:(BitVec.ofInt IntKind.i64.bits a &&& BitVec.ofInt IntKind.i64.bits (m:Int)).toNat<=m:=by
  rw [BitVec.toNat_and]
  refine Nat.le_trans Nat.and_le_right ?_
  rw [BitVec.toNat_ofInt]
  have:IntKind.i64.bits=64:=rfl
  rw [this]
  omega
 unfold jZ
 rw [nl (qJ oa oa)]
 omega
theorem FJ (a:Int) {b:Nat}:∃ v,sr a (b:Int)=some v:=by unfold sr;rw [aK oa];exact ⟨_,rfl⟩
abbrev jw (a:yP):Prop:=a.length<=1048576/\∀ v∈a,0<=v/\v<=255
def e8 (a:yP) (p:Int):Prop:=0<=p/\p<=(a.length:Int)
section
variable {N:Nat}
theorem KM (a:yP) (ha:jw a):∀ (m i k:Nat) (h:Int),i+m=4000->m<k->0<=h->h<=1073741823->∃ v,kM N k a h (i:Int)=some v:=by
 intro m
 induction m with
 | zero =>
  intro i k h hi hk _ _
  obtain ⟨k,rfl⟩:∃ g,k=g+1:=⟨k-1,oa⟩
  rw [kM,aN (show ¬ (i:Int)<4000 by omega)]
  cases decide ((i:Int)<(a.length:Int)) <;> exact ⟨_,rfl⟩
 | succ m ih =>
  intro i k h hi hk h0 h1
  obtain ⟨k,rfl⟩:∃ g,k=g+1:=⟨k-1,oa⟩
  rw [kM]
  by_cases hl:i<a.length
  ·have hb:=ha.2 _ (bA hl)
   rw [dlt hl,ae,aJ (show (i:Int)<4000 by omega),ae,fv oa oa,bs,bh hl,bs,nl (qJ oa oa),bR oa oa,bs,bR oa oa,bs,ad1 oa,bs]
   have hi':=B4 (h*131+a[i]+7) (m:=1073741823) (by decide)
   exact ih (i+1) k _ oa oa hi'.1 hi'.2
  ·rw [dge hl,ai];exact ⟨_,rfl⟩
theorem Gv (hN:1073741824<=N) {a:yP} (ha:jw a):∃ h,qq N a=some (0,h):=by
 have hl:=ha.1
 obtain ⟨v,hv⟩:=KM (N:=N) a ha 4000 0 N (10101+(a.length:Int)) oa oa oa oa
 unfold qq
 rw [bR oa oa,bs]
 have hv':kM N N a (10101+(a.length:Int)) 0=some v:=hv
 rw [hv',bs]
 exact ⟨_,rfl⟩
theorem pn {a:yP} (ha:jw a) {p h:Int} (hc:e8 a p):∃ x q g,j5 N a p h=some (x,q,g)/\0<=x/\x<=255/\e8 a q:=by
 have hl:=ha.1
 have h0:=hc.1;have h1:=hc.2
 unfold j5
 obtain ⟨x1,e1⟩:=FJ (IntKind.i64.wrap ((IntKind.i64.wrap (h*6364136223846793005))+1442695040888963407)) (b:=33)
 obtain ⟨x2,e2⟩:=FJ (IntKind.i64.wrap ((IntKind.i64.wrap (h*6364136223846793005))+1442695040888963407)) (b:=45)
 have e1':sr (IntKind.i64.wrap ((IntKind.i64.wrap (h*6364136223846793005))+1442695040888963407)) 33=some x1:=e1
 have e2':sr (IntKind.i64.wrap ((IntKind.i64.wrap (h*6364136223846793005))+1442695040888963407)) 45=some x2:=e2
 rw [e1',bs,e2',bs]
 by_cases hp:p<(a.length:Int)
 ·rw [aJ hp,ae,oq h0 hp,bs]
  have hb:=B4 (IntKind.i64.wrap ((jZ (og x1 x2) 255)+(IntKind.i64.wrap a[p.toNat]))) (m:=255) (by decide)
  refine ⟨_,_,_,rfl,hb.1,hb.2,?_⟩
  rw [nl (qJ oa oa)]
  exact ⟨oa,oa⟩
 ·rw [aN hp,ai]
  have hb:=B4 (og x1 x2) (m:=255) (by decide)
  exact ⟨_,_,_,rfl,hb.1,hb.2,hc⟩
theorem eH {a:yP} (ha:jw a) {p h n:Int} (hc:e8 a p):∃ x q g,dk N a p h n=some (x,q,g)/\0<=x/\(0<n->x<n)/\(n<=0->x=0)/\e8 a q:=by
 unfold dk
 by_cases h0:n<=0
 ·rw [aJ h0,ae]
  exact ⟨_,_,_,rfl,lA _,fun h=>by omega,fun _=>rfl,hc⟩
 ·rw [aN h0,ai]
  by_cases h1:n<=256
  ·obtain ⟨x,q,g,e,b0,b1,hc'⟩:=pn (N:=N) ha (h:=h) hc
   rw [aJ h1,ae,e,bs,yj oa,bs]
   have:=BY b0 (show 0<n by omega)
   exact ⟨_,_,_,rfl,this.1,fun _=>this.2,fun h=>by omega,hc'⟩
  ·rw [aN h1,ai]
   obtain ⟨x,q,g,e,b0,b1,hc1⟩:=pn (N:=N) ha (h:=h) hc
   rw [e,bs]
   obtain ⟨y,q2,g2,e2,c0,c1,hc2⟩:=pn (N:=N) ha (h:=g) hc1
   dsimp only
   rw [e2,bs]
   obtain ⟨z,q3,g3,e3,d0,d1,hc3⟩:=pn (N:=N) ha (h:=g2) hc2
   dsimp only
   rw [e3,bs]
   obtain ⟨w,q4,g4,e4,f0,f1,hc4⟩:=pn (N:=N) ha (h:=g3) hc3
   dsimp only
   rw [e4,bs]
   dsimp only
   rw [fv oa oa,bs,fv oa oa,bs,bR oa oa,bs,fv oa oa,bs,bR oa oa,bs,bR oa oa,bs,yj oa,bs]
   have:=BY (show 0<=x*16777216+y*65536+z*256+w by omega) (show 0<n by omega)
   exact ⟨_,_,_,rfl,this.1,fun _=>this.2,fun h=>by omega,hc4⟩
theorem lp {a l:yP} (ha:jw a) {p h:Int} (hc:e8 a p) (hl:0<l.length):∃ x q g,gt N a p h l=some (x,q,g)/\x∈l/\e8 a q:=by
 obtain ⟨x,q,g,e,b0,b1,_,hc'⟩:=eH (N:=N) ha (h:=h) (n:=(l.length:Int)) hc
 have b2:=b1 oa
 unfold gt
 rw [e,bs]
 dsimp only
 rw [oq b0 b2,bs]
 exact ⟨_,_,_,rfl,bA _,hc'⟩
end
section
variable {N:Nat}
def hO (n:Nat):yP:=(List.range' 0 n).map fun i:Nat=>(i:Int)
theorem ms (n:Nat):(hO n).length=n:=by simp [hO]
end
abbrev bp:=List (yP)
def cJ:Nat->bp->bp->bp
 | 0,_,_=>[]
 | _+1,[],[]=>[]
 | m+1,[],y :: b=>y :: cJ m [] b
 | m+1,x :: a,[]=>x :: cJ m a []
 | m+1,x :: a,y :: b=>if cw x y<0 then x :: cJ m a (y :: b) else if cw x y=0 then x :: cJ m a b else y :: cJ m (x :: a) b
theorem yx:∀ (m m':Nat) (a b:bp),a.length+b.length<=m->a.length+b.length<=m'->cJ m a b=cJ m' a b:=by
 intro m
 induction m with
 | zero =>
  intro m' a b h1 h2
  obtain rfl:a=[]:=ko.1 oa
  obtain rfl:b=[]:=ko.1 (by simpa using h1)
  cases m' <;> rfl
 | succ m ih =>
  intro m' a b h1 h2
  cases m' with
  | zero =>
   obtain rfl:a=[]:=ko.1 oa
   obtain rfl:b=[]:=ko.1 (by simpa using h2)
   rfl
  | succ m' =>
   match a,b with
   | [],[]=>rfl
   | [],y :: b=>rw [cJ,cJ,ih m' [] b (by simp at h1 ⊢;omega) (by simp at h2 ⊢;omega)]
   | x :: a,[]=>rw [cJ,cJ,ih m' a [] (by simp at h1 ⊢;omega) (by simp at h2 ⊢;omega)]
   | x :: a,y :: b =>
    simp only [b9] at h1 h2
    rw [cJ,cJ,ih m' a (y :: b) (by simp only [b9];omega) (by simp only [b9];omega),ih m' a b oa oa,ih m' (x :: a) b (by simp only [b9];omega) (by simp only [b9];omega)]
theorem oW:∀ (m:Nat) (a b:bp) (r:yP),r∈cJ m a b->r∈a\/r∈b:=by
 intro m
 induction m with
 | zero=>intro a b r h;simp [cJ] at h
 | succ m ih =>
  intro a b r h
  match a,b with
  | [],[]=>simp [cJ] at h
  | [],y :: b =>
   rw [cJ,bX] at h
   rcases h with rfl | h
   ·simp
   ·rcases ih _ _ _ h with h | h
    ·simp at h
    ·simp [h]
  | x :: a,[] =>
   rw [cJ,bX] at h
   rcases h with rfl | h
   ·simp
   ·rcases ih _ _ _ h with h | h
    ·simp [h]
    ·simp at h
  | x :: a,y :: b =>
   rw [cJ] at h
   split at h
   ·rcases bX.1 h with rfl | h
    ·simp
    ·rcases ih _ _ _ h with h | h
     ·simp [h]
     ·exact .inr h
   ·split at h
    ·rcases bX.1 h with rfl | h
     ·simp
     ·rcases ih _ _ _ h with h | h
      ·simp [h]
      ·simp [h]
    ·rcases bX.1 h with rfl | h
     ·simp
     ·rcases ih _ _ _ h with h | h
      ·exact .inl h
      ·simp [h]
theorem Gz:∀ (m:Nat) (a b:bp),(cJ m a b).length<=a.length+b.length:=by
 intro m
 induction m with
 | zero=>intro a b;simp [cJ]
 | succ m ih =>
  intro a b
  match a,b with
  | [],[]=>simp [cJ]
  | [],y :: b=>have:=ih [] b;rw [cJ];simp only [b9,gu] at *;omega
  | x :: a,[]=>have:=ih a [];rw [cJ];simp only [b9,gu] at *;omega
  | x :: a,y :: b =>
   have h1:=ih a (y :: b);have h2:=ih a b;have h3:=ih (x :: a) b
   rw [cJ]
   simp only [b9] at *
   split
   ·simp only [b9];omega
   ·split <;> (simp only [b9];omega)
def mX (rows:bp):Prop:=rows.Pairwise fun a b=>cw a b<0
theorem KX {a b:yP} (h1:¬ cw a b<0) (h2:¬ cw a b=0):cw b a<0:=by
 have:=vW a b;omega
theorem G7:∀ (m:Nat) (a b:bp),mX a->mX b->mX (cJ m a b):=by
 intro m
 induction m with
 | zero=>intro a b _ _;exact List.Pairwise.nil
 | succ m ih =>
  intro a b ha hb
  match a,b with
  | [],[]=>exact List.Pairwise.nil
  | [],y :: b =>
   rw [cJ]
   obtain ⟨h1,h2⟩:=jo.1 hb
   refine jo.2 ⟨fun r hr=>?_,ih [] b ha h2⟩
   rcases oW _ _ _ _ hr with h | h
   ·simp at h
   ·exact h1 r h
  | x :: a,[] =>
   rw [cJ]
   obtain ⟨h1,h2⟩:=jo.1 ha
   refine jo.2 ⟨fun r hr=>?_,ih a [] h2 hb⟩
   rcases oW _ _ _ _ hr with h | h
   ·exact h1 r h
   ·simp at h
  | x :: a,y :: b =>
   obtain ⟨h1,h2⟩:=jo.1 ha
   obtain ⟨g1,g2⟩:=jo.1 hb
   rw [cJ]
   by_cases hlt:cw x y<0
   ·rw [aK hlt]
    refine jo.2 ⟨fun r hr=>?_,ih a (y :: b) h2 hb⟩
    rcases oW _ _ _ _ hr with h | h
    ·exact h1 r h
    ·rcases bX.1 h with rfl | h
     ·exact hlt
     ·exact np hlt (g1 r h)
   ·rw [aS hlt]
    by_cases heq:cw x y=0
    ·rw [aK heq]
     have e:=oE.1 heq
     refine jo.2 ⟨fun r hr=>?_,ih a b h2 g2⟩
     rcases oW _ _ _ _ hr with h | h
     ·exact h1 r h
     ·rw [e];exact g1 r h
    ·rw [aS heq]
     have hgt:=KX hlt heq
     refine jo.2 ⟨fun r hr=>?_,ih (x :: a) b ha g2⟩
     rcases oW _ _ _ _ hr with h | h
     ·rcases bX.1 h with rfl | h
      ·exact hgt
      ·exact np hgt (h1 r h)
     ·exact g1 r h
def c6:Nat->bp->bp
 | 0,rows=>rows
 | f+1,rows=>if rows.length<2 then rows else cJ rows.length (c6 f (rows.take (rows.length / 2))) (c6 f (rows.drop (rows.length / 2)))
theorem ir:∀ (f:Nat) (rows:bp),(c6 f rows).length<=rows.length:=by
 intro f
 induction f with
 | zero=>intro rows;exact bN _
 | succ f ih =>
  intro rows
  unfold c6
  split
  ·exact bN _
  ·have h1:=Gz rows.length (c6 f (rows.take (rows.length / 2))) (c6 f (rows.drop (rows.length / 2)))
   have h2:=ih (rows.take (rows.length / 2))
   have h3:=ih (rows.drop (rows.length / 2))
   rw [c5] at h2
   rw [iH] at h3
   omega
theorem lj:∀ (f:Nat) (rows:bp) (r:yP),r∈c6 f rows->r∈rows:=by
 intro f
 induction f with
 | zero=>intro rows r h;exact h
 | succ f ih =>
  intro rows r h
  unfold c6 at h
  split at h
  ·exact h
  ·rcases oW _ _ _ _ h with h | h
   ·exact rJ (ih _ _ h)
   ·exact AB (ih _ _ h)
theorem pO:∀ (f:Nat) (rows:bp),rows.length<=2 ^ f->mX (c6 f rows):=by
 intro f
 induction f with
 | zero =>
  intro rows h
  match rows,h with
  | [],_=>exact List.Pairwise.nil
  | [x],_=>exact vz _ _
  | _ :: _ :: _,h=>simp at h
 | succ f ih =>
  intro rows h
  rw [oC] at h
  unfold c6
  by_cases h2:rows.length<2
  ·rw [aK h2]
   match rows,h2 with
   | [],_=>exact List.Pairwise.nil
   | [x],_=>exact vz _ _
   | _ :: _ :: _,h2=>simp at h2;omega
  ·rw [aS h2]
   exact G7 _ _ _ (ih _ (by rw [c5];omega)) (ih _ (by rw [iH];omega))
section
variable {N:Nat}
theorem ixc {α:Type} (x:α) (a:List α):ix (x :: a) 0=some x:=by unfold ix;rw [aK oa];rfl
theorem ut {α:Type} (x:α) (a:List α):slc (x :: a) 1 ((x :: a).length:Int)=some a:=by
 have h:=ow (xs:=x :: a) (lo:=1) (hi:=(x :: a).length) (by simp) (bN _)
 rw [gP] at h
 exact h
theorem xL {α:Type} (x:α) (a:List α):decide ((0:Int)<((x :: a).length:Int))=true:=aJ (by rw [b9];omega)
theorem xo {α:Type}:decide ((0:Int)<(([]:List α).length:Int))=false:=rfl
theorem GZ {α:Type} (x:α) (a:List α):(((x :: a).length:Int) == 0)=false:=by simp;omega
theorem Jn (hN:1073741824<=N) {rec:bp->Option bp}:∀ (m k:Nat) (a b out:bp),a.length+b.length<=m->m<k->(∀ r∈a,r.length<=1048576)->(∀ r∈b,r.length<=1048576)->out.length+m<=4194304 ->
  bt rec N k a b out=some ([],[],out++cJ m a b):=by
 intro m
 induction m with
 | zero =>
  intro k a b out h hk ha hb ho
  obtain ⟨k,rfl⟩:∃ k',k=k'+1:=⟨k-1,oa⟩
  obtain rfl:a=[]:=ko.1 oa
  obtain rfl:b=[]:=ko.1 (by simpa using h)
  rw [bt,xo,ai,ai,cJ,jI]
 | succ m ih =>
  intro k a b out h hk ha hb ho
  obtain ⟨k,rfl⟩:∃ k',k=k'+1:=⟨k-1,oa⟩
  match a,b with
  | [],[]=>rw [bt,xo,ai,ai,cJ,jI]
  | [],y :: b =>
   simp only [b9,gu] at h
   rw [bt,xo,ai,xL,ae,show ((([]:bp).length:Int) == 0)=true from rfl,ae,show decide ((1:Int)<=0)=false from rfl,ai,show decide ((0:Int)<=1)=true from rfl,ae,show decide ((0:Int)<1)=true from rfl,ae,ixc,bs,bB (by decide) (by simp;omega),bs,ut,bs,
    ih k [] b (out++[y]) (by simp;omega) oa ha (fun r hr=>hb r (by simp [hr])) (by rw [bZ,bP];omega),cJ,eS]
   rfl
  | x :: a,[] =>
   simp only [b9,gu] at h
   rw [bt,xL,ae,GZ,ai,xo,ai,show decide ((-1:Int)<=0)=true from rfl,ae,ixc,bs,bB (by decide) (by simp;omega),bs,ut,bs,show decide ((0:Int)<=-1)=false from rfl,ai,
    ih k a [] (out++[x]) (by simp;omega) oa (fun r hr=>ha r (by simp [hr])) hb (by rw [bZ,bP];omega),cJ,eS]
   rfl
  | x :: a,y :: b =>
   simp only [b9] at h
   have hx:=ha x (by simp);have hy:=hb y (by simp)
   rw [bt,xL,ae,GZ,ai,xL,ae,ixc,bs,ixc,bs,qR hN hx oa,bs,cJ]
   by_cases hlt:cw x y<0
   ·rw [aK hlt,aJ (by omega:cw x y<=0),ae,bs,bB (by decide) (by simp;omega),bs,ut,bs,aN (by omega:¬ 0<=cw x y),ai,
     ih k a (y :: b) (out++[x]) (by simp only [b9];omega) oa (fun r hr=>ha r (by simp [hr])) hb (by rw [bZ,bP];omega),eS]
    rfl
   ·rw [aS hlt]
    by_cases heq:cw x y=0
    ·rw [aK heq,aJ (by omega:cw x y<=0),ae,bs,bB (by decide) (by simp;omega),bs,ut,bs,aJ (by omega:0<=cw x y),ae,aN (by omega:¬ 0<cw x y),ai,ut,bs,
      ih k a b (out++[x]) oa oa (fun r hr=>ha r (by simp [hr])) (fun r hr=>hb r (by simp [hr])) (by rw [bZ,bP];omega),eS]
     rfl
    ·rw [aS heq,aN (by omega:¬ cw x y<=0),ai,aJ (by omega:0<=cw x y),ae,aJ (by omega:0<cw x y),ae,bs,bB (by decide) (by simp;omega),bs,ut,bs,
      ih k (x :: a) b (out++[y]) (by simp only [b9];omega) oa ha (fun r hr=>hb r (by simp [hr])) (by rw [bZ,bP];omega),eS]
     rfl
def xR (z:Option (yP)):bp->bp
 | []=>[]
 | y :: b=>if z=some y then b else y :: b
def Oi (z:Option (yP)) (a b:bp):Prop:=mX a/\mX b/\∀ w,z=some w->(∀ x∈a,cw w x<0)/\∀ y∈b,cw w y<=0
theorem rE (x:yP):cw x x=0:=oE.2 rfl
theorem tW {x:yP} {b:bp} (h:∀ y∈b,cw x y<0):xR (some x) b=b:=by
 match b with
 | []=>rfl
 | y :: b =>
  show (if some x=some y then b else y :: b)=y :: b
  rw [aS]
  intro e
  have:=h y (by simp)
  rw [bL e,rE] at this;omega
theorem xG {z:Option (yP)} {y:yP} {b:bp} (h:z=some y):xR z (y :: b)=b:=aK h
theorem sk {z:Option (yP)} {y:yP} {b:bp} (h:¬ z=some y):xR z (y :: b)=y :: b:=aS h
theorem Eo {out r:bp} {x:yP}:(out++[x])++r=out++x :: r:=by simp
theorem wc {out:bp} {x:yP}:(out++[x]).getLast? = some x:=by simp
theorem Db (hN:1073741824<=N) {α:Type} {out:bp} {x:yP} {F G:Option α} (hl:∀ r∈out,r.length<=1048576) (hx:x.length<=1048576) (ho:out.length<=4194304) (f:bp->Option α) (hF:F=(apd 24 out [x]).bind f) (hG:G=(sb (out.length:Int) 1).bind fun i=>(ix out i).bind fun w=>(cN N w x).bind fun r=>bif (r != 0) then (apd 24 out [x]).bind f else f out) :
  (bif ((out.length:Int) == 0) then F else G)=f (if out.getLast? = some x then out else out++[x]):=by
 have hap:apd 24 out [x]=some (out++[x]):=bB (by decide) (by simp;omega)
 by_cases h0:out=[]
 ·subst h0
  rw [show ((([]:bp).length:Int) == 0)=true from rfl,ae,hF,hap,bs]
  rfl
 ·have hp:0<out.length:=uZ.2 h0
  have hlast:out.getLast? = some out[out.length-1]:=by rw [List.getLast?_eq_getElem?,px oa]
  rw [show ((out.length:Int) == 0)=false by simp;omega,ai,hG,fL oa oa,bs,show (out.length:Int)-1=((out.length-1:Nat):Int) by omega,bh oa,bs,nP hN (hl _ (bA _)) oa,bs,hap,bs,JN,hlast]
  by_cases e:out[out.length-1]=x
  ·rw [aJ e,Bool.not_true,ai,aK (by rw [e])]
  ·rw [aN e,Bool.not_false,ae,aS (fun h=>e (bL h))]
def zx (rows:bp):Prop:=∀ r∈rows,r.length<=1048576
theorem pT {x:yP} {a:bp} (h:zx (x :: a)):zx a:=fun r hr=>h r (by simp [hr])
theorem vO {out:bp} {x:yP} (h:zx out) (hx:x.length<=1048576):zx (out++[x]):=by
 intro r hr
 rcases cU.1 hr with hr | hr
 ·exact h r hr
 ·simp only [d7] at hr;subst hr;exact hx
theorem vH {x:yP} {a:bp} (h:mX (x :: a)):(∀ y∈a,cw x y<0)/\mX a:=jo.1 h
theorem JY (hN:1073741824<=N) {rec:bp->Option bp}:∀ (m k:Nat) (a b out:bp),a.length+b.length<=m->m<k->zx a->zx b->zx out->out.length+m<=4194304->Oi out.getLast? a b ->
  bj rec N k a b out=some ([],[],out++cJ m a (xR out.getLast? b)):=by
 intro m
 induction m with
 | zero =>
  intro k a b out h hk ha hb hl ho hI
  obtain ⟨k,rfl⟩:∃ k',k=k'+1:=⟨k-1,oa⟩
  obtain rfl:a=[]:=ko.1 oa
  obtain rfl:b=[]:=ko.1 (by simpa using h)
  rw [bj,xo,ai,ai,cJ,jI]
 | succ m ih =>
  intro k a b out h hk ha hb hl ho hI
  obtain ⟨k,rfl⟩:∃ k',k=k'+1:=⟨k-1,oa⟩
  obtain ⟨aa,ab,iz⟩:=hI
  match a,b with
  | [],[] =>
   rw [bj,xo,ai,ai]
   show _=some ([],[],out++cJ (m+1) [] [])
   rw [cJ,jI]
  | [],y :: b =>
   simp only [b9,gu] at h
   have hy:=hb y (by simp)
   obtain ⟨b1,b2⟩:=vH ab
   rw [bj,xo,ai,xL,ae,show ((([]:bp).length:Int) == 0)=true from rfl,ae,show decide ((0:Int)<1)=true from rfl,ae,ixc,bs,ut,bs]
   refine Eq.trans (Db (f:=fun o=>bj rec N k [] b o) hN hl hy oa rfl rfl) ?_
   by_cases e:out.getLast? = some y
   ·rw [aK e]
    show bj rec N k [] b out=_
    rw [ih k [] b out (by simp;omega) oa ha (pT hb) hl oa ⟨aa,b2,fun w hw=>⟨by simp,fun y' hy'=>(iz w hw).2 y' (by simp [hy'])⟩⟩,xG e,e,tW b1,yx m (m+1) [] b (by simp;omega) (by simp;omega)]
   ·rw [aS e]
    show bj rec N k [] b (out++[y])=_
    rw [ih k [] b (out++[y]) (by simp;omega) oa ha (pT hb) (vO hl hy) (by rw [bZ,bP];omega) ⟨aa,b2,fun w hw=>by
      rw [wc] at hw;cases hw;exact ⟨by simp,fun y' hy'=>sY (b1 y' hy')⟩⟩,wc,tW b1,sk e,cJ,Eo]
  | x :: a,[] =>
   simp only [b9,gu] at h
   have hx:=ha x (by simp)
   obtain ⟨a1,a2⟩:=vH aa
   have e:¬ out.getLast? = some x:=fun e=>by have:=(iz x e).1 x (by simp);rw [rE] at this;omega
   rw [bj,xL,ae,GZ,ai,xo,ai,show decide ((0:Int) < -1)=false from rfl,ai,ixc,bs,ut,bs]
   refine Eq.trans (Db (f:=fun o=>bj rec N k a [] o) hN hl hx oa rfl rfl) ?_
   rw [aS e]
   show bj rec N k a [] (out++[x])=_
   rw [ih k a [] (out++[x]) (by simp;omega) oa (pT ha) hb (vO hl hx) (by rw [bZ,bP];omega) ⟨a2,ab,fun w hw=>by
     rw [wc] at hw;cases hw;exact ⟨a1,by simp⟩⟩]
   show some ([],[],(out++[x])++cJ m a [])=some ([],[],out++cJ (m+1) (x :: a) [])
   rw [cJ,Eo]
  | x :: a,y :: b =>
   simp only [b9] at h
   have hx:=ha x (by simp);have hy:=hb y (by simp)
   obtain ⟨a1,a2⟩:=vH aa
   obtain ⟨b1,b2⟩:=vH ab
   have ex:¬ out.getLast? = some x:=fun e=>by have:=(iz x e).1 x (by simp);rw [rE] at this;omega
   rw [bj,xL,ae,GZ,ai,xL,ae,ixc,bs,ixc,bs,nP hN hx oa,bs]
   by_cases hgt:0<cw x y
   ·have hyx:cw y x<0:=by have:=vW x y;omega
    rw [aJ hgt,ae,bs,ut,bs]
    refine Eq.trans (Db (f:=fun o=>bj rec N k (x :: a) b o) hN hl hy oa rfl rfl) ?_
    by_cases e:out.getLast? = some y
    ·rw [aK e]
     show bj rec N k (x :: a) b out=_
     rw [ih k (x :: a) b out (by simp only [b9];omega) oa ha (pT hb) hl oa ⟨aa,b2,fun w hw=>⟨(iz w hw).1,fun y' hy'=>(iz w hw).2 y' (by simp [hy'])⟩⟩,xG e,e,tW b1,yx m (m+1) (x :: a) b (by simp only [b9];omega) (by simp only [b9];omega)]
    ·rw [aS e]
     show bj rec N k (x :: a) b (out++[y])=_
     rw [ih k (x :: a) b (out++[y]) (by simp only [b9];omega) oa ha (pT hb) (vO hl hy) (by rw [bZ,bP];omega) ⟨aa,b2,fun w hw=>by
       rw [wc] at hw;cases hw
       refine ⟨fun x' hx'=>?_,fun y' hy'=>sY (b1 y' hy')⟩
       rcases bX.1 hx' with rfl | hx'
       ·exact hyx
       ·exact np hyx (a1 x' hx')⟩,wc,tW b1,sk e,cJ,aS oa,aS oa,Eo]
   ·rw [aN hgt,ai,bs,ut,bs]
    refine Eq.trans (Db (f:=fun o=>bj rec N k a (y :: b) o) hN hl hx oa rfl rfl) ?_
    rw [aS ex]
    show bj rec N k a (y :: b) (out++[x])=_
    have ey:¬ out.getLast? = some y:=fun e=>by
     have h1:=(iz y e).1 x (by simp)
     have:=vW x y
     omega
    have hb':∀ y'∈b,cw x y'<0:=fun y' hy'=>by
     by_cases h0:cw x y=0
     ·rw [oE.1 h0];exact b1 y' hy'
     ·exact np oa (b1 y' hy')
    rw [ih k a (y :: b) (out++[x]) (by simp only [b9];omega) oa (pT ha) hb (vO hl hx) (by rw [bZ,bP];omega) ⟨a2,ab,fun w hw=>by
      rw [wc] at hw;cases hw
      refine ⟨a1,fun y' hy'=>?_⟩
      rcases bX.1 hy' with rfl | hy'
      ·omega
      ·exact sY (hb' y' hy')⟩,wc,sk ey,cJ]
    by_cases h0:cw x y=0
    ·rw [xG (by rw [oE.1 h0]),aS oa,aK h0,Eo]
    ·rw [sk (fun e=>h0 (by rw [bL e,rE])),aK oa,Eo]
theorem qt2 {n:Nat} (h:n<=1048576):qt (n:Int) 2=some ((n / 2:Nat):Int):=by
 have e:(n:Int).tdiv 2=((n / 2:Nat):Int):=rfl
 unfold qt
 rw [e,aK ⟨by decide,by unfold rng;simp only [ce,dm];omega⟩]
theorem IU:∀ (d M:Nat) (rows:bp),rows.length<=2 ^ d->1073741825+d<=M->mH rows->iU M rows=some (c6 d rows):=by
 intro d
 induction d with
 | zero =>
  intro M rows h hM hr
  obtain ⟨M,rfl⟩:∃ M',M=M'+1:=⟨M-1,oa⟩
  rw [iU,aJ (by simp at h;omega),ae,uo oa hr,bs];rfl
 | succ d ih =>
  intro M rows h hM hr
  obtain ⟨M,rfl⟩:∃ M',M=M'+1:=⟨M-1,oa⟩
  rw [oC] at h
  have hl:=hr.1
  rw [iU,c6]
  by_cases h2:rows.length<2
  ·rw [aJ oa,ae,uo oa hr,bs,aK h2]
  ·have ht:mH (rows.take (rows.length / 2)):=⟨by rw [c5];omega,fun r h=>hr.2 r (rJ h)⟩
   have hd:mH (rows.drop (rows.length / 2)):=⟨by rw [iH];omega,fun r h=>hr.2 r (AB h)⟩
   have l1:=ir d (rows.take (rows.length / 2))
   have l2:=ir d (rows.drop (rows.length / 2))
   rw [c5] at l1
   rw [iH] at l2
   rw [aN oa,ai,aS h2,qt2 hl,bs,show (0:Int)=((0:Nat):Int) from rfl,ow (cV _) oa,bs,ow oa (bN _),bs,gE,gP,
    ih M _ (by rw [c5];omega) oa ht,bs,ih M _ (by rw [iH];omega) oa hd,bs,
    Jn oa rows.length M _ _ [] oa oa (fun r h=>(ht.2 r (lj _ _ _ h)).1) (fun r h=>(hd.2 r (lj _ _ _ h)).1) (by rw [gu];omega),bs,lpB]
   rfl
theorem Hm:∀ (d M:Nat) (rows:bp),rows.length<=2 ^ d->1073741825+d<=M->mH rows->jj M rows=some (c6 d rows):=by
 intro d
 induction d with
 | zero =>
  intro M rows h hM hr
  obtain ⟨M,rfl⟩:∃ M',M=M'+1:=⟨M-1,oa⟩
  rw [jj,aJ (by simp at h;omega),ae];rfl
 | succ d ih =>
  intro M rows h hM hr
  obtain ⟨M,rfl⟩:∃ M',M=M'+1:=⟨M-1,oa⟩
  rw [oC] at h
  have hl:=hr.1
  rw [jj,c6]
  by_cases h2:rows.length<2
  ·rw [aJ oa,ae,aK h2]
  ·have ht:mH (rows.take (rows.length / 2)):=⟨by rw [c5];omega,fun r h=>hr.2 r (rJ h)⟩
   have hd:mH (rows.drop (rows.length / 2)):=⟨by rw [iH];omega,fun r h=>hr.2 r (AB h)⟩
   have l1:=ir d (rows.take (rows.length / 2))
   have l2:=ir d (rows.drop (rows.length / 2))
   have ha1:=pO d (rows.take (rows.length / 2)) (by rw [c5];omega)
   have ha2:=pO d (rows.drop (rows.length / 2)) (by rw [iH];omega)
   rw [c5] at l1
   rw [iH] at l2
   rw [aN oa,ai,aS h2,qt2 hl,bs,show (0:Int)=((0:Nat):Int) from rfl,ow (cV _) oa,bs,gE,
    ih M _ (by rw [c5];omega) oa ht,bs,ow oa (bN _),bs,gP,ih M _ (by rw [iH];omega) oa hd,bs,
    JY oa rows.length M _ _ [] oa oa (fun r h=>(ht.2 r (lj _ _ _ h)).1) (fun r h=>(hd.2 r (lj _ _ _ h)).1) (fun r h=>by simp at h) (by rw [gu];omega) ⟨ha1,ha2,fun w hw=>by simp at hw⟩,bs,lpB]
   have hdz:xR (([]:bp).getLast?) (c6 d (rows.drop (rows.length / 2)))=c6 d (rows.drop (rows.length / 2)):=by
    cases c6 d (rows.drop (rows.length / 2)) with
    | nil=>rfl
    | cons y b=>exact sk (by simp)
   rw [hdz]
   rfl
end
def rh (n:Int) (rows:bp):Bool:=rows.all fun r=>decide ((r.length:Int)=n)&&bW r
def vJ:(Int × bp) × Bool:=((0,[]),false)
def pS (n:Int) (rows:bp):(Int × bp) × Bool:=bif rh n rows&&cI n (c6 20 rows) then ((n,c6 20 rows),true) else vJ
def iF (row cols:yP):yP:=cols.map fun c=>row.getD c.toNat 0
theorem Cl (row cols:yP):(iF row cols).length=cols.length:=by simp [iF]
theorem GL {row cols:yP} {i:Nat} (h:i<cols.length):iF row (cols.take i)++[row.getD cols[i].toNat 0]=iF row (cols.take (i+1)):=by
 unfold iF;rw [gR h,eU];rfl
def rn (n:Int) (cols:yP):Bool:=cols.all fun c=>inR c 0 (n-1)
def GF (n:Int) (rows:bp) (cols:yP):(Int × bp) × Bool :=
 bif cI n rows&&(decide ((cols.length:Int)<=5)&&rn n cols) then pS (cols.length:Int) (rows.map fun r=>iF r cols) else vJ
def G6 (n:Int) (rows:bp) (cols:yP):(Int × bp) × Bool:=bif vg cols&&decide ((cols.length:Int)=n) then (bif (GF n rows cols).2 then ((GF n rows cols).1,true) else vJ) else vJ
theorem Dh {rows:bp} (d:Nat) (h:mH rows):mH (c6 d rows):=⟨Nat.le_trans (ir d rows) h.1,fun r hr=>h.2 r (lj _ _ _ hr)⟩
section
variable {N:Nat}
theorem KC (hN:1073741824<=N) {n:Int} {rows:bp} (hr:mH rows):fz N N n rows 0 [] 0=some (bif rh n rows then .inr (rows.length:Int) else .inl vJ):=by
 have hl:=hr.1
 have h:=pF (fun k i=>fz N k n rows 0 [] i) rows.length oa vJ (fun i=>if h:i<rows.length then decide ((rows[i].length:Int)=n)&&bW rows[i] else true) (rows.length:Int)
  (fun k i h=>by
   have hx:=(hr.2 _ (bA h)).1
   show fz N (k+1) n rows 0 [] (i:Int)=_
   rw [fz,dlt h,ae,bh h,bs,bs,pq hN hx,bs,ad1 oa,bs,mG h]
   by_cases e:(rows[i].length:Int)=n
   ·rw [show ((rows[i].length:Int) != n)=false by simpa using e,ai,aJ e,eG];rfl
   ·rw [show ((rows[i].length:Int) != n)=true by simpa using e,ae,aN e,kT,ai];rfl)
  (fun k=>by
   show fz N (k+1) n rows 0 [] (rows.length:Int)=_
   rw [fz,dge oa,ai]) N 0 oa oa
 rw [lB,pU rows (fun r=>decide ((r.length:Int)=n)&&bW r) _ (fun i hi=>by rw [mG hi])] at h
 exact h
theorem qS (hM:1073742848<=N) {n:Int} {rows:bp} (hr:mH rows):j0 N n rows=some (pS n rows):=by
 unfold j0 pS
 rw [KC oa hr,bs]
 cases rh n rows with
 | false=>rw [ai,nh];rfl
 | true =>
  rw [ae,jh,Hm 20 N rows (by have:=hr.1;omega) oa hr,bs,CT oa (Dh 20 hr),bs,oZ oa (Dh 20 hr),bs,eG]
  cases cI n (c6 20 rows) <;> rfl
theorem KE (hN:1073741824<=N) {row cols:yP} (hc:cols.length<=1048576) (hin:∀ c∈cols,0<=c/\c<row.length):sd N row cols=some (iF row cols):=by
 have h:=jv (fun k (s:yP) i=>ju N k row s cols (cols.length:Int) i) cols.length (fun i=>iF row (cols.take i)) (iF row cols,(cols.length:Int))
  (fun k i h=>by
   have hb:=hin _ (bA h)
   show ju N (k+1) row (iF row (cols.take i)) cols (cols.length:Int) (i:Int)=_
   rw [ju,dlt h,ae,bh h,bs,oq hb.1 hb.2,bs,bB (by decide) (by rw [Cl];simp;omega),bs,ad1 oa,bs,<- bu oa,GL h])
  (fun k=>by
   show ju N (k+1) row (iF row (cols.take cols.length)) cols (cols.length:Int) (cols.length:Int)=_
   rw [ju,dge oa,ai,gP]) N 0 oa oa
 have h':ju N N row [] cols (cols.length:Int) 0=_:=h
 unfold sd
 rw [h',bs,lpB]
theorem CX (hN:1073741824<=N) {n:Int} {cols:yP} (hc:cols.length<=1048576) (hn:-1000<=n/\n<=1000):mq N n cols=some (decide ((cols.length:Int)<=5)&&rn n cols):=by
 unfold mq
 by_cases h5:5<(cols.length:Int)
 ·rw [aJ h5,ae,aN oa];rfl
 rw [aN h5,ai,aJ oa,eG]
 have h:=xD (fun k i=>gF N k n cols (cols.length:Int) i) cols (fun c=>inR c 0 (n-1)) hN hc
  (fun k i h=>by
   show gF N (k+1) n cols (cols.length:Int) (i:Int)=_
   rw [gF,dlt h,ae,bh h,bs,fL oa oa,bs,gi,bs,ad1 oa,bs])
  (fun k=>by
   show gF N (k+1) n cols (cols.length:Int) (cols.length:Int)=_
   rw [gF,dge oa,ai])
 rw [h,bs]
 unfold rn
 cases cols.all fun c=>inR c 0 (n-1) <;> rfl
end
def fu (xs:yP):yP:=(hO 5).filter fun v=>decide (v∈xs)
theorem tV (xs:yP):(fu xs).length<=5:=by
 unfold fu
 exact Nat.le_trans (uB _ _) (by rw [ms];omega)
def qF (xs:yP) (i:Nat):yP:=(hO i).filter fun v=>decide (v∈xs)
theorem Ix (xs:yP) (i:Nat):(qF xs i).length<=i:=by
 unfold qF
 exact Nat.le_trans (uB _ _) (by rw [ms];omega)
theorem CI (i:Nat):hO (i+1)=hO i++[(i:Int)]:=by unfold hO;rw [pf];simp
theorem Ji {xs:yP} {i:Nat} (h:decide ((i:Int)∈xs)=true):qF xs i++[(i:Int)]=qF xs (i+1):=by
 unfold qF;rw [CI,uP];simp only [qy,List.filter_nil,h,if_true]
theorem HC {xs:yP} {i:Nat} (h:decide ((i:Int)∈xs)=false):qF xs i=qF xs (i+1):=by
 unfold qF;rw [CI,uP];simp [h]
def lY (vars out:yP) (v:Int):yP:=bif decide (0<=fW vars v)&&!decide (fW vars v∈out) then out++[fW vars v] else out
def l9 (xs yL:yP):yP:=yL.foldl (lY (fu xs)) []
section
variable {N:Nat}
theorem uA (hN:1073741824<=N) {s:ByteArray} {xs:yP} (hx:okI xs):kt N s xs=some (fu xs):=by
 have h:=jv (fun k (o:yP) i=>dT N k s xs o i) 5 (qF xs) (fu xs,5)
  (fun k i h=>by
   have hl:=Ix xs i
   show dT N (k+1) s xs (qF xs i) (i:Int)=_
   rw [dT,aJ oa,ae,oA hN hx,bs]
   cases hc:decide ((i:Int)∈xs) with
   | true=>rw [ae,bB (by decide) (by simp;omega),bs,ad1 oa,bs,Ji hc]
   | false=>rw [ai,ad1 oa,bs,<- HC hc])
  (fun k=>by
   show dT N (k+1) s xs (qF xs 5) ((5:Nat):Int)=_
   rw [dT,aN oa,ai];rfl) N 0 oa oa
 have h':dT N N s xs [] 0=_:=h
 unfold kt
 rw [h',bs,lpB]
end
def nH (ts:List bE) (a:aV):Bool:=(cT ts a.1).2&&decide ((cT ts a.1).1.1=(a.2.length:Int))
def jl (ts:List bE) (n:Int) (yK:List aV) (out:yP):Bool:=fR n yK out&&(pH ts&&yK.all (nH ts))
section
variable {N:Nat}
theorem MV (hN:1073741824<=N) {ts:List bE} {yK:List aV} (ht:q9 ts) (ha:fB yK):f6 N N ts yK (yK.length:Int) 0=some (bif yK.all (nH ts) then .inr (yK.length:Int) else .inl false) :=
 xD (fun k i=>f6 N k ts yK (yK.length:Int) i) yK (nH ts) hN ha.1
  (fun k i h=>by
   have hl:=ha.1
   show f6 N (k+1) ts yK (yK.length:Int) (i:Int)=_
   rw [f6,dlt h,ae,bh h,bs,pj hN ht,bs,ad1 oa,bs]
   unfold nH
   cases (cT ts yK[i].1).2 with
   | false=>rw [ai,kT,ai]
   | true =>
    rw [ae,eG]
    by_cases e:(cT ts yK[i].1).1.1=(yK[i].2.length:Int)
    ·rw [show ((cT ts yK[i].1).1.1 != (yK[i].2.length:Int))=false by simpa using e,ai,aJ e,ae]
    ·rw [show ((cT ts yK[i].1).1.1 != (yK[i].2.length:Int))=true by simpa using e,ae,aN e,ai])
  (fun k=>by
   show f6 N (k+1) ts yK (yK.length:Int) (yK.length:Int)=_
   rw [f6,dge oa,ai])
theorem Mw (hN:1073741824<=N) {ts:List bE} {n:Int} {yK:List aV} {out:yP} (ht:q9 ts) (ha:fB yK):fZ N N ts n yK out 0=some (bif yK.all (nH ts) then .inr (yK.length:Int) else .inl false) :=
 xD (fun k i=>fZ N k ts n yK out i) yK (nH ts) hN ha.1
  (fun k i h=>by
   have hl:=ha.1
   show fZ N (k+1) ts n yK out (i:Int)=_
   rw [fZ,dlt h,ae,bh h,bs,ph hN ht,bs,bs,ad1 oa,bs]
   unfold nH
   cases (cT ts yK[i].1).2 with
   | false=>rw [ai,kT,ai]
   | true =>
    rw [ae,eG]
    by_cases e:(cT ts yK[i].1).1.1=(yK[i].2.length:Int)
    ·rw [show ((cT ts yK[i].1).1.1 != (yK[i].2.length:Int))=false by simpa using e,ai,aJ e,ae]
    ·rw [show ((cT ts yK[i].1).1.1 != (yK[i].2.length:Int))=true by simpa using e,ae,aN e,ai])
  (fun k=>by
   show fZ N (k+1) ts n yK out (yK.length:Int)=_
   rw [fZ,dge oa,ai])
theorem rU (hN:1073741824<=N) {ts:List bE} {n:Int} {yK:List aV} {out:yP} (ht:q9 ts) (ha:fB yK) (ho:okI out):mm N ts n yK out=some (jl ts n yK out):=by
 unfold mm jl
 rw [jt hN ha ho,bs,o0 hN ht,bs,MV hN ht ha,bs]
 cases fR n yK out <;> cases pH ts <;> cases yK.all (nH ts) <;> rfl
theorem oJ (hN:1073741824<=N) {ts:List bE} {n:Int} {yK:List aV} {out:yP} (ht:q9 ts) (ha:fB yK) (ho:okI out):kz N ts n yK out=some (jl ts n yK out):=by
 unfold kz jl
 rw [Mw hN ht ha,bs,lf hN ha ho,bs,lT hN ht,bs]
 cases fR n yK out <;> cases pH ts <;> cases yK.all (nH ts) <;> rfl
end
def xX (vs row:yP) (i:Nat):Bool:=decide (row.getD (fW vs (vs.getD i 0)).toNat 0=row.getD i 0)
def um (vs row:yP) (i:Nat):Bool:=(List.range' 0 i).all (xX vs row)
def jY (vs row:yP):Bool:=um vs row vs.length
def i9 (vs row:yP):yP:=(fu vs).map fun v=>row.getD (fW vs v).toNat 0
theorem CS (vs row:yP) (i:Nat):um vs row (i+1)=(um vs row i&&xX vs row i):=by
 unfold um;rw [pf,List.all_append];simp
theorem w5 {vs:yP} {v:Int} (h:v∈vs):∃ j:Nat,fW vs v=(j:Int)/\j<vs.length:=by
 rcases sF vs v with ⟨h1,_⟩ | ⟨j,hj,_,e,_⟩
 ·exact absurd h h1
 ·exact ⟨j,e,hj⟩
section
variable {N:Nat}
theorem Nm (hN:1073741824<=N) {p0:ByteArray} {vs row p3:yP} {p1 p4 p8 p9:Int} {p2 p5 p6 p7:bp} (hl:row.length=vs.length) (h5:vs.length<=1000) (hv:∀ v∈vs,0<=v/\v<5) :
  ∃ val:yP,cX N N p0 vs p1 p2 p3 p4 p5 p6 row (List.replicate 5 0) true p7 p8 p9 vs (vs.length:Int) 0=some (val,jY vs row,(vs.length:Int))/\val.length=5/\(jY vs row=true->∀ v∈vs,val.getD v.toNat 0=row.getD (fW vs v).toNat 0):=by
 obtain ⟨⟨val,f,z⟩,e1,_,h1,h2,h3,h4⟩:=Bt (fun k (s:yP × Bool) i=>cX N k p0 vs p1 p2 p3 p4 p5 p6 row s.1 s.2 p7 p8 p9 vs (vs.length:Int) i) (fun k (s:yP × Bool) i=>cX N k p0 vs p1 p2 p3 p4 p5 p6 row s.1 s.2 p7 p8 p9 vs (vs.length:Int) i) vs.length
  (fun i s=>s.1.length=5/\s.2=um vs row i/\(um vs row i=true->∀ v∈vs.take i,s.1.getD v.toNat 0=row.getD (fW vs v).toNat 0))
  (fun v=>v.1.length=5/\v.2.1=jY vs row/\v.2.2=(vs.length:Int)/\(jY vs row=true->∀ w∈vs,v.1.getD w.toNat 0=row.getD (fW vs w).toNat 0))
  (fun k i s h hI=>by
   obtain ⟨i1,i2,i3⟩:=hI
   have hm:vs[i]∈vs:=bA h
   have hb:=hv _ hm
   obtain ⟨j,hj,hj2⟩:=w5 hm
   have hi2:i<row.length:=by omega
   have hj3:j<row.length:=by omega
   have hix:ix s.1 vs[i]=some (s.1[vs[i].toNat]'oa):=oq hb.1 oa
   have hst:sto s.1 vs[i] row[i]=some (s.1.set vs[i].toNat row[i]):=by
    have:=mY (xs:=s.1) (i:=vs[i].toNat) (y:=row[i]) oa
    rw [show ((vs[i].toNat:Nat):Int)=vs[i] by omega] at this
    exact this
   have hfa:xX vs row i=decide (row[j]=row[i]):=by
    unfold xX
    rw [bu h,hj,show ((j:Nat):Int).toNat=j from rfl,bu hj3,bu hi2]
   have step:cX N (k+1) p0 vs p1 p2 p3 p4 p5 p6 row s.1 s.2 p7 p8 p9 vs (vs.length:Int) (i:Int)=cX N k p0 vs p1 p2 p3 p4 p5 p6 row (s.1.set vs[i].toNat row[i]) (um vs row (i+1)) p7 p8 p9 vs (vs.length:Int) ((i+1:Nat):Int):=by
    rw [cX,dlt h,ae,bh h,bs,By hN oa,bs,CS,<- i2,hfa]
    cases s.2 with
    | true=>rw [ae,hj,bh hj3,bs,bh hi2,bs,bs,hix,bs,hst,bs,ad1 oa,bs,Md,eG]
    | false=>rw [ai,bh hi2,bs,hix,bs,hst,bs,ad1 oa,bs,kT]
   refine .inl ⟨(s.1.set vs[i].toNat row[i],um vs row (i+1)),step,step,by simpa using i1,rfl,fun hf v hvm=>?_⟩
   rw [CS,ce,hfa,dm] at hf
   rw [gR h] at hvm
   by_cases e:v=vs[i]
   ·subst e
    show (s.1.set vs[i].toNat row[i]).getD vs[i].toNat 0=_
    rw [hj,show ((j:Nat):Int).toNat=j from rfl,bu hj3,hf.2,bu (by rw [gd];omega),List.getElem_set_self]
   ·have hmem:v∈vs.take i:=by
     rcases cU.1 hvm with h | h
     ·exact h
     ·simp only [d7] at h;exact absurd h e
    have hbv:=hv v (rJ hmem)
    rw [<- i3 hf.1 v hmem]
    show (s.1.set vs[i].toNat row[i]).getD v.toNat 0=_
    rw [bu (by rw [gd];omega),bu oa,List.getElem_set_ne oa])
  (fun k s hI=>by
   obtain ⟨i1,i2,i3⟩:=hI
   have step:cX N (k+1) p0 vs p1 p2 p3 p4 p5 p6 row s.1 s.2 p7 p8 p9 vs (vs.length:Int) (vs.length:Int)=some (s.1,s.2,(vs.length:Int)):=by
    rw [cX,dge oa,ai]
   rw [gP] at i3
   exact ⟨(s.1,s.2,(vs.length:Int)),step,step,i1,i2,rfl,i3⟩) N 0 (List.replicate 5 0,true) oa oa ⟨by simp,rfl,fun _ v hv=>by simp at hv⟩
 refine ⟨val,?_,h1,h4⟩
 have e1':cX N N p0 vs p1 p2 p3 p4 p5 p6 row (List.replicate 5 0) true p7 p8 p9 vs (vs.length:Int) 0=some (val,f,z):=e1
 have h2':f=jY vs row:=h2
 have h3':z=(vs.length:Int):=h3
 rw [e1',h2',h3']
end
theorem Eu {n:Nat} {v:Int}:v∈hO n↔0<=v/\v<n:=by
 unfold hO
 rw [dh]
 constructor
 ·rintro ⟨i,hi,rfl⟩
  simp at hi;omega
 ·rintro ⟨h0,h1⟩
  exact ⟨v.toNat,by simp;omega,oa⟩
theorem mZ {vs:yP} {v:Int}:v∈fu vs↔(0<=v/\v<5)/\v∈vs:=by
 unfold fu
 rw [jn,Eu,dm];rfl
theorem yR (vs row:yP):(i9 vs row).length=(fu vs).length:=by simp [i9]
def dL (vs:yP) (rows:bp):bp:=(rows.filter (jY vs)).map (i9 vs)
theorem C0 {vs:yP} {rows:bp} {i:Nat} (h:i<rows.length):dL vs (rows.take (i+1))=bif jY vs rows[i] then dL vs (rows.take i)++[i9 vs rows[i]] else dL vs (rows.take i):=by
 unfold dL
 rw [gR h,uP,eU]
 cases hf:jY vs rows[i] <;> simp [hf]
theorem n7 (vs:yP) (rows:bp):(dL vs rows).length<=rows.length:=by
 unfold dL;rw [bT];exact uB _ _
section
variable {N:Nat}
theorem Nq (hN:1073741824<=N) {s:ByteArray} {vs:yP} {rows:bp} {vl:Int} (hlen:∀ i (h:i<rows.length),rows[i].length=vs.length) (h5:vs.length<=1000) (hv:∀ v∈vs,0<=v/\v<5) (hr:rows.length<=1048576) :
  el N N s vs 0 [] (fu vs) vl [] [] rows (rows.length:Int) 0=some (dL vs rows,(rows.length:Int)):=by
 have hv5:=tV vs
 have h:=jv (fun k (o:bp) i=>el N k s vs 0 [] (fu vs) vl [] o rows (rows.length:Int) i) rows.length (fun i=>dL vs (rows.take i)) (dL vs rows,(rows.length:Int))
  (fun k i h=>by
   obtain ⟨val,e,hl,hval⟩:=Nm (N:=N) hN (p0:=s) (vs:=vs) (row:=rows[i]) (p3:=fu vs) (p1:=0) (p4:=vl) (p8:=(rows.length:Int)) (p9:=(i:Int)) (p2:=[]) (p5:=[]) (p6:=dL vs (rows.take i)) (p7:=rows) (hlen i h) h5 hv
   have hbl:=n7 vs (rows.take i)
   rw [c5] at hbl
   show el N (k+1) s vs 0 [] (fu vs) vl [] (dL vs (rows.take i)) rows (rows.length:Int) (i:Int)=_
   rw [el,dlt h,ae,bh h,bs,show (5:Int)=((5:Nat):Int) from rfl,Bc (by decide) (by decide),bs,e,bs,lpB,C0 h]
   show (bif jY vs rows[i] then _ else _)=_
   cases hf:jY vs rows[i] with
   | true =>
    have hp:iF val (fu vs)=i9 vs rows[i]:=by
     unfold iF i9
     exact n6 fun v hvm=>hval hf v (mZ.1 hvm).2
    rw [ae,ae,KE hN oa (fun c hc=>by have:=(mZ.1 hc).1;omega),bs,hp,bB (by decide) (by simp;omega),bs,ad1 oa,bs]
   | false=>rw [ai,ai,ad1 oa,bs])
  (fun k=>by
   show el N (k+1) s vs 0 [] (fu vs) vl [] (dL vs (rows.take rows.length)) rows (rows.length:Int) (rows.length:Int)=_
   rw [el,dge oa,ai,gP]) N 0 oa oa
 exact h
end
theorem tM {n:Int} {rows:bp} (h0:0<=n/\n<=5) (hl:rows.length<=4000) (hf:∀ r∈rows,(r.length:Int)=n/\bW r=true):pS n rows=((n,c6 20 rows),true):=by
 have hfit:rh n rows=true:=by
  unfold rh
  rw [df]
  intro r hr
  rw [aJ (hf r hr).1,(hf r hr).2];rfl
 have hlen:=ir 20 rows
 have hasc:=pO 20 rows oa
 have hv:cI n (c6 20 rows)=true:=by
  unfold cI
  rw [ce,ce,dm,df]
  refine ⟨⟨ck.2 h0,oa⟩,fun i hi=>?_⟩
  have hi':i<(c6 20 rows).length:=by simp at hi;omega
  obtain ⟨g1,g2⟩:=hf _ (lj 20 rows _ (bA hi'))
  unfold sG
  rw [lX hi',aJ g1,g2,eG,eG]
  cases i with
  | zero=>rfl
  | succ i =>
   rw [rP,lX oa]
   have:=tw.1 hasc i (i+1) oa hi' oa
   rw [aJ this,Bool.or_true]
 unfold pS
 rw [hfit,hv];rfl
theorem DN {vs row:yP} (h:bW row=true) (hl:row.length=vs.length):bW (i9 vs row)=true:=by
 unfold bW at *
 rw [df] at *
 intro x hx
 unfold i9 at hx
 obtain ⟨v,hv,rfl⟩:=dh.1 hx
 obtain ⟨j,hj,hj2⟩:=w5 (mZ.1 hv).2
 rw [hj,show ((j:Nat):Int).toNat=j from rfl,bu oa]
 exact h _ (bA _)
section
variable {N:Nat}
theorem LP {a:yP} (ha:jw a) {n m:Int} (hm:0<m):∀ (d k:Nat) (acc:yP) (p h:Int),e8 a p->acc.length+d=n.toNat->d<k->n<=1048576->(∀ v∈acc,0<=v/\v<m) ->
  ∃ q g row,lV N k a p h n m acc=some (q,g,row)/\e8 a q/\row.length=n.toNat/\∀ v∈row,0<=v/\v<m:=by
 intro d
 induction d with
 | zero =>
  intro k acc p h hc hd hk _ hv
  obtain ⟨k,rfl⟩:∃ g,k=g+1:=⟨k-1,oa⟩
  rw [lV,aN (show ¬ (acc.length:Int)<n by omega),ai]
  exact ⟨_,_,_,rfl,hc,oa,hv⟩
 | succ d ih =>
  intro k acc p h hc hd hk hn hv
  obtain ⟨k,rfl⟩:∃ g,k=g+1:=⟨k-1,oa⟩
  obtain ⟨x,q,g,e,b0,b1,_,hc'⟩:=eH (N:=N) ha (h:=h) (n:=m) hc
  rw [lV,aJ (show (acc.length:Int)<n by omega),ae,e,bs]
  dsimp only
  rw [bB (by decide) (by simp;omega),bs]
  refine ih k _ q g hc' (by simp;omega) oa hn fun v hv'=>?_
  rcases cU.1 hv' with h | h
  ·exact hv v h
  ·rw [d7] at h;rw [h];exact ⟨b0,b1 hm⟩
theorem A8 (hN:1073741824<=N) {a:yP} (ha:jw a) {p h n m:Int} (hc:e8 a p) (hm:0<m) (hn:n<=1048576) :
  ∃ row q g,oM N a p h n m=some (row,q,g)/\e8 a q/\row.length=n.toNat/\∀ v∈row,0<=v/\v<m:=by
 obtain ⟨q,g,row,e,h1,h2,h3⟩:=LP (N:=N) ha (n:=n) hm n.toNat N [] p h hc (by simp) oa hn (by simp)
 unfold oM
 rw [e]
 exact ⟨row,q,g,rfl,h1,h2,h3⟩
theorem LL (hN:1073741824<=N) {a:yP} (ha:jw a) {n m y:Int} {z:bp} (hm:0<m) (hn:n<=1048576):∀ (d k:Nat) (acc:bp) (p h c:Int),e8 a p->c.toNat=d->c<=1048576->d<k->acc.length+d<=1048576->(∀ r∈acc,r.length=n.toNat/\∀ v∈r,0<=v/\v<m) ->
  ∃ q g rows c',lW N k a p h n m y z acc c=some (q,g,rows,c')/\e8 a q/\rows.length<=acc.length+d/\∀ r∈rows,r.length=n.toNat/\∀ v∈r,0<=v/\v<m:=by
 intro d
 induction d with
 | zero =>
  intro k acc p h c hc hd _ hk hl hv
  obtain ⟨k,rfl⟩:∃ g,k=g+1:=⟨k-1,oa⟩
  rw [lW,aN (show ¬ 0<c by omega),ai]
  exact ⟨_,_,_,_,rfl,hc,oa,hv⟩
 | succ d ih =>
  intro k acc p h c hc hd hcc hk hl hv
  obtain ⟨k,rfl⟩:∃ g,k=g+1:=⟨k-1,oa⟩
  obtain ⟨row,q,g,e,hc',h2,h3⟩:=A8 hN ha (h:=h) (n:=n) hc hm hn
  rw [lW,aJ (show 0<c by omega),ae,e,bs]
  dsimp only
  rw [bB (by decide) (by simp;omega),bs,fL oa oa,bs]
  obtain ⟨q',g',rows,c',e',k1,k2,k3⟩:=ih k (acc++[row]) q g (c-1) hc' oa oa oa (by simp;omega) fun r hr=>by
   rcases cU.1 hr with h | h
   ·exact hv r h
   ·rw [d7] at h;rw [h];exact ⟨h2,h3⟩
  exact ⟨q',g',rows,c',e',k1,by simp at k2;omega,k3⟩
theorem wm (hM:1073742848<=N) {a:yP} (ha:jw a) {p h n m y:Int} (hc:e8 a p) (hm:0<m/\m<=100) (hn:0<=n/\n<=5) (hy:0<=y/\y<=100) :
  ∃ rows q g,ni N a p h n y m=some ((n,rows),q,g)/\e8 a q/\(rows.length:Int)<=y/\∀ r∈rows,(r.length:Int)=n/\∀ v∈r,0<=v/\v<m:=by
 have hN:1073741824<=N:=by omega
 obtain ⟨x,q,g,e,b0,b1,_,hc'⟩:=eH (N:=N) ha (h:=h) (n:=y+1) hc
 have b1:=b1 oa
 obtain ⟨q',g',rows,c',e',k1,k2,k3⟩:=LL hN ha (n:=n) (m:=m) (y:=0) (z:=[]) hm.1 oa x.toNat N [] q g x hc' rfl oa oa (by simp;omega) (by simp)
 unfold ni
 rw [bR oa oa,bs,e,bs]
 dsimp only
 rw [e']
 simp only [gu,dA] at k2
 have hf:∀ r∈rows,(r.length:Int)=n/\bW r=true:=fun r hr=>by
  have:=k3 r hr
  refine ⟨oa,?_⟩
  unfold bW
  refine df.2 fun v hv=>?_
  have:=this.2 v hv
  unfold inR
  simp only [ce,dm]
  omega
 have hok:mH rows:=⟨oa,fun r hr=>⟨by have:=(k3 r hr).1;omega,fun _ _=>trivial⟩⟩
 rw [bs]
 unfold lpB
 dsimp only
 rw [qS hM hok,bs,tM hn oa hf]
 have hsl:=ir 20 rows
 refine ⟨c6 20 rows,q',g',rfl,k1,oa,fun r hr=>?_⟩
 have hr':=lj 20 rows r hr
 exact ⟨(hf r hr').1,(k3 r hr').2⟩
def Dd (r:Int × bp):Prop:=(-1<=r.1/\r.1<=6)/\r.2.length<=7/\∀ w∈r.2,w.length<=6/\∀ v∈w,-1<=v/\v<=100
theorem G9 (hM:1073742848<=N) {a:yP} (ha:jw a) {p h:Int} (hc:e8 a p):∃ r q g,qI N a p h=some (r,q,g)/\e8 a q/\Dd r:=by
 have hN:1073741824<=N:=by omega
 obtain ⟨n,q,g,e,b0,b1,_,hc1⟩:=eH (N:=N) ha (h:=h) (n:=4) hc
 have b1:=b1 (by decide)
 obtain ⟨rows,q2,g2,e2,hc2,hl,hr⟩:=wm hM ha (h:=g) (n:=n) (m:=4) (y:=6) hc1 (by decide) oa (by decide)
 obtain ⟨s,q3,g3,e3,_,_,_,hc3⟩:=eH (N:=N) ha (h:=g2) (n:=14) hc2
 have hsm:∀ w∈rows,w.length<=6/\∀ v∈w,-1<=v/\v<=100:=fun w hw=>by
  have:=hr w hw
  exact ⟨oa,fun v hv=>by have:=this.2 v hv;omega⟩
 have base:Dd (n,rows):=⟨⟨by show -1<=n;omega,by show n<=6;omega⟩,by show rows.length<=7;omega,hsm⟩
 unfold qI
 rw [e,bs]
 dsimp only
 rw [e2,bs]
 dsimp only
 rw [e3,bs]
 dsimp only
 cases h0:(s == 0)
 ·rw [ai]
  cases h1:(s == 1)
  ·rw [ai]
   cases h2:(s == 2)
   ·exact ⟨_,_,_,rfl,hc3,base⟩
   ·rw [ae]
    by_cases hp:0<rows.length
    ·rw [aJ (show (0:Int)<(rows.length:Int) by omega),ae]
     by_cases hn:0<n
     ·have hm0:=hr _ (bA hp)
      have hm1:=hsm _ (bA hp)
      have hp0:0<rows[0].length:=by omega
      obtain ⟨x,q4,g4,e4,hx,hc4⟩:=lp (N:=N) ha (h:=g3) hc3 (l:=[(-1),100,99]) (by decide)
      have i0:ix rows 0=some rows[0]:=bh hp
      have i1:ix rows[0] 0=some rows[0][0]:=bh hp0
      have s1:sto rows[0] 0 x=some (rows[0].set 0 x):=mY hp0
      have s2:sto rows 0 (rows[0].set 0 x)=some (rows.set 0 (rows[0].set 0 x)):=mY hp
      have hxb:-1<=x/\x<=100:=by
       simp only [bX,pC,rN] at hx
       omega
      rw [aJ hn,ae,i0,bs,e4,bs,i1,bs,s1,bs,s2,bs]
      refine ⟨_,_,_,rfl,hc4,⟨base.1,by show (rows.set 0 _).length<=7;rw [gd];omega,fun w hw=>?_⟩⟩
      rcases rZ hw with h | h
      ·exact hsm w h
      ·subst h
       refine ⟨by rw [gd];exact hm1.1,fun v hv=>?_⟩
       rcases rZ hv with h | h
       ·exact hm1.2 v h
       ·rw [h];exact hxb
     ·rw [aN hn,ai]
      exact ⟨_,_,_,rfl,hc3,base⟩
    ·rw [aN (show ¬ (0:Int)<(rows.length:Int) by omega),ai]
     exact ⟨_,_,_,rfl,hc3,base⟩
  ·rw [ae]
   have hi:imx 0 n=n:=by unfold imx;split <;> omega
   obtain ⟨w,q4,g4,e4,hc4,hw1,hw2⟩:=A8 hN ha (h:=g3) (n:=n) (m:=4) hc3 (by decide) oa
   rw [hi,e4,bs]
   dsimp only
   rw [bB (by decide) (by simp;omega),bs]
   refine ⟨_,_,_,rfl,hc4,base.1,by show (rows++[w]).length<=7;simp;omega,fun v hv=>?_⟩
   rcases cU.1 hv with h | h
   ·exact hsm v h
   ·rw [d7] at h;subst h
    exact ⟨oa,fun v hv=>by have:=hw2 v hv;omega⟩
 ·obtain ⟨x,q4,g4,e4,hx,hc4⟩:=lp (N:=N) ha (h:=g3) hc3 (l:=[(-1),6,n+1]) (Nat.zero_lt_succ _)
  rw [ae,bR oa oa,bs,e4,bs]
  refine ⟨_,_,_,rfl,hc4,⟨?_,base.2⟩⟩
  simp only [bX,pC,rN] at hx
  show -1<=x/\x<=6
  omega
end
def xg (a b:List nt):Prop:=∃ t,b=a++t
theorem xg.refl (a:List nt):xg a a:=⟨[],by simp⟩
theorem xg.trans {a b c:List nt} (h:xg a b) (k:xg b c):xg a c:=by
 obtain ⟨t,rfl⟩:=h;obtain ⟨u,rfl⟩:=k;exact ⟨t++u,by simp⟩
theorem xg.len {a b:List nt} (h:xg a b):a.length<=b.length:=by
 obtain ⟨t,rfl⟩:=h;simp
theorem ET {ts:List bE} {s:ByteArray} (h:(cT ts s).2=true):cI (cT ts s).1.1 (cT ts s).1.2=true:=by
 unfold cT at h ⊢
 cases hd:pH ts with
 | false=>rw [hd] at h;cases h
 | true =>
  rw [hd,ae] at h
  rw [ae]
  cases hf:ts.find? (fun t=>decide (t.1=s)) with
  | none=>rw [hf] at h;cases h
  | some t =>
   have hm:=AY hf
   obtain ⟨i,hi,rfl⟩:=gg hm
   unfold pH at hd
   rw [ce,df] at hd
   have:=hd.2 i (by simp;omega)
   unfold sH at this
   rw [sV hi] at this
   simp only [ce] at this
   exact this.1.1.2
def sI (ts:List bE) (s:ByteArray) (vs:yP):Int × bp :=
 bif (cT ts s).2&&decide ((cT ts s).1.1=(vs.length:Int)) then (((fu vs).length:Int),c6 20 (dL vs (cT ts s).1.2)) else (((fu vs).length:Int),[])
theorem tj {vs:yP} {rows:bp} {r:yP} (h:r∈dL vs rows):∃ x∈rows,r=i9 vs x:=by
 unfold dL at h
 obtain ⟨x,hx,rfl⟩:=dh.1 h
 exact ⟨x,(jn.1 hx).1,rfl⟩
theorem EW {vs:yP} {rows:bp} (hr:rows.length<=1048576):mH (dL vs rows):=by
 refine ⟨Nat.le_trans (n7 vs rows) hr,fun r h=>?_⟩
 obtain ⟨x,_,rfl⟩:=tj h
 exact ⟨by rw [yR];have:=tV vs;omega,fun _ _=>trivial⟩
section
variable {N:Nat}
theorem Ag {ts:List bE} {s:ByteArray} {vs:yP} (h2:(cT ts s).2=true) (e:(cT ts s).1.1=(vs.length:Int)):(cT ts s).1.2.length<=4000/\∀ i (h:i<(cT ts s).1.2.length),(cT ts s).1.2[i].length=vs.length/\bW (cT ts s).1.2[i]=true:=by
 obtain ⟨_,_,h3,h4⟩:=iy (ET h2)
 refine ⟨h3,fun i h=>?_⟩
 obtain ⟨g1,g2,_⟩:=h4 i h
 exact ⟨oa,g2⟩
theorem vC (hM:1073742848<=N) {ts:List bE} {s:ByteArray} {vs:yP} (ht:q9 ts) (hx:okI vs) (h5:vs.length<=5) (hv:∀ v∈vs,0<=v/\v<5):kW N ts s vs=some (sI ts s vs):=by
 unfold kW sI
 rw [uA oa hx,bs,pj oa ht,bs]
 cases h2:(cT ts s).2 with
 | false=>rfl
 | true =>
  rw [ae,eG]
  by_cases e:(cT ts s).1.1=(vs.length:Int)
  ·obtain ⟨l1,l2⟩:=Ag h2 e
   have hcf:(decide ((vs.length:Int)<=5)&&rn 5 vs)=true:=by
    rw [ce,dm]
    refine ⟨oa,?_⟩
    unfold rn
    rw [df]
    exact fun c hc=>ck.2 (by have:=hv c hc;omega)
   have hb:=EW (vs:=vs) (rows:=(cT ts s).1.2) oa
   rw [show ((cT ts s).1.1 != (vs.length:Int))=false by simpa using e,ai,CX oa hx.1 oa,bs,hcf,ae,Nq oa (fun i h=>(l2 i h).1) oa hv oa,bs,lpB,aJ e]
   show (iU N (dL vs (cT ts s).1.2)).bind _=_
   rw [IU 20 N _ (by have:=hb.1;omega) oa hb,bs]
   rfl
  ·rw [show ((cT ts s).1.1 != (vs.length:Int))=true by simpa using e,ae,aN e];rfl
end
theorem we {n:Nat} {xs:yP} (hn:xs.Nodup) (hl:xs.length=n) (hb:∀ x∈xs,0<=x/\x<n) (v:Int) (h0:0<=v) (h1:v<n):v∈xs:=by
 refine nC fun hv=>?_
 have:=rx n (v :: xs) (jm.2 ⟨hv,hn⟩) (fun x hx=>by
  rcases bX.1 hx with rfl | hx
  ·exact ⟨h0,h1⟩
  ·exact hb x hx)
 rw [b9] at this;omega
theorem CU {xs:yP} (h:xs.Nodup) {i j:Nat} (hi:i<xs.length) (hj:j<xs.length) (e:xs[i]=xs[j]):i=j:=by
 rw [List.Nodup,tw] at h
 rcases Nat.lt_trichotomy i j with hl | hl | hl
 ·exact absurd e (h i j hi hj hl)
 ·exact hl
 ·exact absurd e.symm (h j i hj hi hl)
theorem B7 {xs:yP} {n:Int} (hn:xs.Nodup) (hb:∀ x∈xs,0<=x/\x<=n-1):kj xs n=true:=by
 unfold kj
 rw [df]
 intro i hi
 have hi':i<xs.length:=by simpa using hi
 rw [bu hi',ce,wZ,AM]
 refine ⟨ck.2 (hb _ (bA hi')),fun hm=>?_⟩
 obtain ⟨j,hj,e⟩:=List.mem_iff_getElem.1 hm
 rw [se] at e
 have:=CU hn (by rw [c5] at hj;omega) hi' e
 rw [c5] at hj;omega
theorem zj {vs:yP} (hn:vs.Nodup) {k:Nat} (h:k<vs.length):fW vs vs[k]=(k:Int):=by
 rcases sF vs vs[k] with ⟨h1,_⟩ | ⟨j,hj,e,h2,_⟩
 ·exact absurd (bA h) h1
 ·rw [h2,CU hn hj h e]
theorem AS (n:Nat):(hO n).Nodup:=by
 unfold hO
 rw [List.Nodup,List.pairwise_map]
 exact At (fun h=>by omega) (List.pairwise_lt_range' (s:=0) (n:=n))
theorem E3 (xs:yP):(fu xs).Nodup:=(AS 5).filter _
theorem s6 {vs:yP} {v:Int}:0<=fW vs v↔v∈vs:=by
 have:=tA vs v
 rw [Bool.eq_iff_iff,dm,dm] at this;exact this
theorem IN {vs:yP} {v:Int} (h:v∈vs):fW vs v<vs.length:=by
 obtain ⟨j,e,hj⟩:=w5 h;omega
theorem ER (vars out:yP) (v k:Int):k∈lY vars out v↔k∈out\/(v∈vars/\fW vars v=k):=by
 unfold lY
 by_cases h1:v∈vars
 ·rw [aJ (s6.2 h1),eG]
  by_cases h2:fW vars v∈out
  ·rw [aJ h2,Bool.not_true,ai]
   exact ⟨.inl,fun h=>h.elim id fun ⟨_,e⟩=>e ▸ h2⟩
  ·rw [aN h2,Bool.not_false,ae,cU,d7]
   exact ⟨fun h=>h.imp id fun e=>⟨h1,e.symm⟩,fun h=>h.imp id fun e=>e.2.symm⟩
 ·rw [aN (fun h=>h1 (s6.1 h)),kT,ai]
  exact ⟨.inl,fun h=>h.elim id fun e=>absurd e.1 h1⟩
theorem CV {vars out:yP} {v:Int} (h:out.Nodup):(lY vars out v).Nodup:=by
 unfold lY
 by_cases h2:fW vars v∈out
 ·rw [aJ h2,Bool.not_true,qD,ai];exact h
 ·rw [aN h2,Bool.not_false,vr]
  cases decide (0<=fW vars v)
  ·exact h
  ·rw [ae,mF]
   refine ⟨h,by simp,fun a ha b hb=>?_⟩
   rw [d7] at hb
   rintro rfl;exact h2 (hb ▸ ha)
theorem yQ (vars:yP):∀ (l out:yP) (k:Int),k∈l.foldl (lY vars) out↔k∈out\/∃ v∈l,v∈vars/\fW vars v=k
 | [],out,k=>by simp
 | v :: l,out,k=>by
  rw [tI,yQ vars l,ER]
  constructor
  ·rintro ((h | h) | ⟨w,hw,h⟩)
   ·exact .inl h
   ·exact .inr ⟨v,cx,h⟩
   ·exact .inr ⟨w,cD _ hw,h⟩
  ·rintro (h | ⟨w,hw,h⟩)
   ·exact .inl (.inl h)
   ·rcases bX.1 hw with rfl | hw
    ·exact .inl (.inr h)
    ·exact .inr ⟨w,hw,h⟩
theorem wD (vars:yP):∀ (l out:yP),out.Nodup->(l.foldl (lY vars) out).Nodup
 | [],_,h=>h
 | _ :: l,_,h=>wD vars l _ (CV h)
theorem GO {xs yL:yP} {n:Nat} (hn:n<=5) (hx:∀ v∈xs,0<=v/\v<n) (ho:kj yL n=true) (hl:yL.length=n):vg (l9 xs yL)=true/\(l9 xs yL).length=(fu xs).length:=by
 obtain ⟨o1,o2⟩:=iW ho
 have hnd:(l9 xs yL).Nodup:=wD _ _ _ List.nodup_nil
 have hmem:∀ k:Int,k∈l9 xs yL↔0<=k/\k<(fu xs).length:=fun k=>by
  unfold l9
  rw [yQ]
  constructor
  ·rintro (h | ⟨v,_,h,rfl⟩)
   ·cases h
   ·exact ⟨s6.2 h,IN h⟩
  ·rintro ⟨h0,h1⟩
   have hk:k.toNat<(fu xs).length:=by omega
   have hm:=bA hk
   refine .inr ⟨(fu xs)[k.toNat],?_,hm,by rw [zj (E3 xs) hk];omega⟩
   have:=hx _ (mZ.1 hm).2
   exact we o1 hl (fun x hx=>by have:=o2 x hx;omega) _ this.1 this.2
 have h5:=tV xs
 have le1:(l9 xs yL).length<=(fu xs).length:=rx _ _ hnd fun k hk=>(hmem k).1 hk
 have le2:(fu xs).length<=(l9 xs yL).length:=by
  refine nC fun hlt=>?_
  have hsub:∀ (m:Nat) (ys:yP),(∀ k:Nat,k<m->(k:Int)∈ys)->m<=ys.length:=by
   intro m
   induction m with
   | zero=>intro ys _;omega
   | succ m ih =>
    intro ys h
    have h1:=ih (ys.erase (m:Int)) fun k hk=>(List.mem_erase_of_ne oa).2 (h k oa)
    rw [Az (h m oa)] at h1
    have:=uL (h m oa)
    omega
  exact hlt (hsub _ _ fun k hk=>(hmem k).2 oa)
 have e:(l9 xs yL).length=(fu xs).length:=by omega
 refine ⟨?_,e⟩
 unfold vg
 rw [aJ oa,eG]
 exact B7 hnd fun k hk=>by have:=(hmem k).1 hk;omega
theorem uy {n:Int} {rows:bp} (h0:0<=n/\n<=5) (hl:rows.length<=4000) (hf:∀ r∈rows,(r.length:Int)=n/\bW r=true):cI n (c6 20 rows)=true:=by
 have h:=tM h0 hl hf
 unfold pS at h
 cases hv:cI n (c6 20 rows) with
 | true=>rfl
 | false=>rw [hv,qD] at h;have:=aX Prod.snd h;cases this
theorem Gt {row cols:yP} (h:bW row=true) (hin:∀ c∈cols,0<=c/\c<row.length):bW (iF row cols)=true:=by
 unfold bW at *
 rw [df] at *
 intro x hx
 unfold iF at hx
 obtain ⟨c,hc,rfl⟩:=dh.1 hx
 have:=hin c hc
 rw [bu oa]
 exact h _ (bA _)
theorem GH {n:Int} {rows:bp} {cols:yP} (hv:cI n rows=true) (hp:vg cols=true) (hl:(cols.length:Int)=n):G6 n rows cols=((n,c6 20 (rows.map fun r=>iF r cols)),true)/\cI n (c6 20 (rows.map fun r=>iF r cols))=true:=by
 obtain ⟨v1,v2,v3,v4⟩:=iy hv
 have hp':=hp
 unfold vg at hp
 rw [ce,dm] at hp
 obtain ⟨_,o2⟩:=iW hp.2
 have hc:rn n cols=true:=by
  unfold rn;rw [df]
  exact fun c hc=>ck.2 (by have:=o2 c hc;omega)
 have hf:∀ r∈rows.map (fun r=>iF r cols),(r.length:Int)=n/\bW r=true:=fun r hr=>by
  obtain ⟨x,hx,rfl⟩:=dh.1 hr
  obtain ⟨i,hi,rfl⟩:=gg hx
  obtain ⟨g1,g2,_⟩:=v4 i hi
  exact ⟨by rw [Cl];exact hl,Gt g2 fun c hc=>by have:=o2 c hc;omega⟩
 have hnr:=tM ⟨v1,v2⟩ (by rw [bT];exact v3) hf
 refine ⟨?_,uy ⟨v1,v2⟩ (by rw [bT];exact v3) hf⟩
 unfold G6 GF
 rw [hp',aJ hl,eG,ae,hv,aJ hp.1,hc,eG,eG,ae,hl,hnr];rfl
def jp (ts:List bE) (yL:yP) (a:aV):Int × bp:=(((fu a.2).length:Int),c6 20 ((c6 20 (dL a.2 (cT ts a.1).1.2)).map fun r=>iF r (l9 a.2 yL)))
theorem ze {ts:List bE} {s:ByteArray} (h:(cT ts s).2=true):(cT ts s).1.2.length<=16:=by
 unfold cT at h ⊢
 cases hd:pH ts with
 | false=>rw [hd] at h;cases h
 | true =>
  rw [hd,ae] at h
  rw [ae]
  cases hf:ts.find? (fun t=>decide (t.1=s)) with
  | none=>rw [hf] at h;cases h
  | some t =>
   have hm:=AY hf
   obtain ⟨i,hi,rfl⟩:=gg hm
   unfold pH at hd
   rw [ce,df] at hd
   have:=hd.2 i (by simp;omega)
   unfold sH at this
   rw [sV hi] at this
   simp only [ce,wZ,AM] at this
   have:=this.2
   show ts[i].2.2.length<=16
   omega
structure QFor (ts:List bE) (n:Nat) (yK:List aV) (yL:yP):Prop where
 n1:1<=n
 n5:n<=5
 ol:yL.length=n
 os:kj yL n=true
 a1:1<=yK.length
 a4:yK.length<=4
 al:∀ a∈yK,a.2.length<=5/\1<=a.2.length/\∀ v∈a.2,0<=v/\v<n
 af:∀ a∈yK,(cT ts a.1).2=true/\(cT ts a.1).1.1=(a.2.length:Int)
 cov:∀ v:Int,0<=v->v<n->∃ a∈yK,v∈a.2
theorem FS {ts:List bE} {n:Int} {yK:List aV} {out yL:yP} (h1:jl ts n yK out=true) (h2:(yL.length:Int)=n) (h3:kj yL n=true):∃ m:Nat,n=(m:Int)/\QFor ts m yK yL:=by
 unfold jl at h1
 rw [ce,ce,df] at h1
 obtain ⟨q,_,q3⟩:=h1
 obtain ⟨n1,n5,a1,a4⟩:=lk q
 unfold fR at q
 simp only [ce,df] at q
 obtain ⟨⟨_,qa⟩,qc⟩:=q
 have hm:(n.toNat:Int)=n:=by omega
 refine ⟨n.toNat,hm.symm,⟨oa,oa,oa,hm ▸ h3,oa,oa,fun a ha=>?_,fun a ha=>?_,fun v v0 v1=>?_⟩⟩
 ·have:=qa a ha
  unfold mV at this
  rw [ce,ce,ck,df] at this
  exact ⟨oa,oa,fun v hv=>by have:=ck.1 (this.2 v hv);omega⟩
 ·have:=q3 a ha
  unfold nH at this
  rw [ce,dm] at this
  exact this
 ·unfold oU at qc
  rw [df] at qc
  have:=qc v.toNat (by simp;omega)
  rw [List.any_eq_true] at this
  obtain ⟨a,ha,h⟩:=this
  rw [dm] at h
  exact ⟨a,ha,by rw [show v=((v.toNat:Nat):Int) by omega];exact h⟩
theorem rf {ts:List bE} {n:Nat} {yK:List aV} {yL:yP} (q:QFor ts n yK yL) {a:aV} (ha:a∈yK) :
  sI ts a.1 a.2=(((fu a.2).length:Int),c6 20 (dL a.2 (cT ts a.1).1.2))/\G6 (sI ts a.1 a.2).1 (sI ts a.1 a.2).2 (l9 a.2 yL)=(jp ts yL a,true)/\cI (jp ts yL a).1 (jp ts yL a).2=true/\(jp ts yL a).2.length<=16/\cI ((fu a.2).length:Int) (c6 20 (dL a.2 (cT ts a.1).1.2))=true:=by
 obtain ⟨h1,h2⟩:=q.af a ha
 obtain ⟨h3,h4,h5⟩:=q.al a ha
 have e:sI ts a.1 a.2=(((fu a.2).length:Int),c6 20 (dL a.2 (cT ts a.1).1.2)):=by
  unfold sI
  rw [h1,aJ h2];rfl
 obtain ⟨p1,p2⟩:=GO q.n5 h5 q.os q.ol
 obtain ⟨_,l2⟩:=Ag h1 h2
 have l16:=ze h1
 have hbl:=n7 a.2 (cT ts a.1).1.2
 have hv5:=tV a.2
 have hval:cI ((fu a.2).length:Int) (c6 20 (dL a.2 (cT ts a.1).1.2))=true:=uy oa oa fun r hr=>by
  obtain ⟨x,hxm,rfl⟩:=tj hr
  obtain ⟨i,hi,rfl⟩:=gg hxm
  exact ⟨by rw [yR],DN (l2 i hi).2 (l2 i hi).1⟩
 obtain ⟨t1,t2⟩:=GH hval p1 (by rw [p2])
 refine ⟨e,?_,t2,?_,hval⟩
 ·rw [e];exact t1
 ·have g1:=ir 20 ((c6 20 (dL a.2 (cT ts a.1).1.2)).map fun r=>iF r (l9 a.2 yL))
  have g2:=ir 20 (dL a.2 (cT ts a.1).1.2)
  rw [bT] at g1
  exact Nat.le_trans g1 oa
theorem Ah {yK:List aV} (ha:fB yK) {i:Nat} (h:i<yK.length):okI yK[i].2:=(ha.2 _ (bA h)).2
theorem oR {α:Type} [DecidableEq α]:∀ (xs ys:List α),xs.Nodup->(∀ x∈xs,x∈ys)->xs.length<=ys.length
 | [],ys,_,_=>cV _
 | x :: xs,ys,hn,h=>by
  obtain ⟨h1,h2⟩:=jm.1 hn
  have hx:=h x cx
  have:=oR xs (ys.erase x) h2 fun z hz=>(List.mem_erase_of_ne (fun (e:z=x)=>h1 (by rw [e] at hz;exact hz))).2 (h z (cD _ hz))
  rw [Az hx] at this
  have:=uL hx
  rw [b9];omega
theorem E6:∀ (m:Nat) (a b:bp) (r:yP),a.length+b.length<=m->r∈a\/r∈b->r∈cJ m a b:=by
 intro m
 induction m with
 | zero =>
  intro a b r hl h
  obtain rfl:a=[]:=ko.1 oa
  obtain rfl:b=[]:=ko.1 (by simpa using hl)
  simp at h
 | succ m ih =>
  intro a b r hl h
  match a,b with
  | [],[]=>simp at h
  | [],y :: b =>
   rw [cJ]
   rcases h with h | h
   ·simp at h
   ·rcases bX.1 h with rfl | h
    ·exact cx
    ·exact cD _ (ih [] b r (by simp at hl ⊢;omega) (.inr h))
  | x :: a,[] =>
   rw [cJ]
   rcases h with h | h
   ·rcases bX.1 h with rfl | h
    ·exact cx
    ·exact cD _ (ih a [] r (by simp at hl ⊢;omega) (.inl h))
   ·simp at h
  | x :: a,y :: b =>
   simp only [b9] at hl
   rw [cJ]
   by_cases h1:cw x y<0
   ·rw [aK h1]
    rcases h with h | h
    ·rcases bX.1 h with rfl | h
     ·exact cx
     ·exact cD _ (ih a (y :: b) r (by simp only [b9];omega) (.inl h))
    ·exact cD _ (ih a (y :: b) r (by simp only [b9];omega) (.inr h))
   ·rw [aS h1]
    by_cases h2:cw x y=0
    ·rw [aK h2]
     have e:=oE.1 h2
     rcases h with h | h
     ·rcases bX.1 h with rfl | h
      ·exact cx
      ·exact cD _ (ih a b r oa (.inl h))
     ·rcases bX.1 h with rfl | h
      ·rw [e];exact cx
      ·exact cD _ (ih a b r oa (.inr h))
    ·rw [aS h2]
     rcases h with h | h
     ·exact cD _ (ih (x :: a) b r (by simp only [b9];omega) (.inl h))
     ·rcases bX.1 h with rfl | h
      ·exact cx
      ·exact cD _ (ih (x :: a) b r (by simp only [b9];omega) (.inr h))
theorem Bd:∀ (f:Nat) (rows:bp) (r:yP),r∈rows->r∈c6 f rows:=by
 intro f
 induction f with
 | zero=>intro rows r h;exact h
 | succ f ih =>
  intro rows r h
  unfold c6
  split
  ·exact h
  ·refine E6 _ _ _ _ ?_ ?_
   ·have h2:=ir f (rows.take (rows.length / 2))
    have h3:=ir f (rows.drop (rows.length / 2))
    rw [c5] at h2
    rw [iH] at h3
    omega
   ·rw [<- Bk (rows.length / 2) rows,cU] at h
    exact h.imp (ih _ _) (ih _ _)
theorem oK (f:Nat) (rows:bp) (r:yP):r∈c6 f rows↔r∈rows:=⟨lj f rows r,Bd f rows r⟩
theorem vP (x:yP):¬ cw x x<0:=by rw [rE];decide
theorem A4 {rows:bp} (h:mX rows):rows.Nodup:=At (fun {a b} (hab:cw a b<0) (e:a=b)=>vP b (by rw [e] at hab;exact hab)) h
theorem Ek:∀ {a b:bp},mX a->mX b->(∀ r,r∈a↔r∈b)->a=b
 | [],[],_,_,_=>rfl
 | [],y :: b,_,_,h=>absurd ((h y).2 cx) (by simp)
 | x :: a,[],_,_,h=>absurd ((h x).1 cx) (by simp)
 | x :: a,y :: b,ha,hb,h=>by
  obtain ⟨a1,a2⟩:=jo.1 ha
  obtain ⟨b1,b2⟩:=jo.1 hb
  have e:x=y:=by
   rcases bX.1 ((h x).1 cx) with e | hx
   ·exact e
   ·rcases bX.1 ((h y).2 cx) with e | hy
    ·exact e.symm
    ·exact absurd (np (b1 x hx) (a1 y hy)) (vP y)
  subst e
  rw [Ek a2 b2 fun r=>?_]
  constructor
  ·intro hr
   rcases bX.1 ((h r).1 (cD _ hr)) with rfl | h'
   ·exact absurd (a1 r hr) (vP r)
   ·exact h'
  ·intro hr
   rcases bX.1 ((h r).2 (cD _ hr)) with rfl | h'
   ·exact absurd (b1 r hr) (vP r)
   ·exact h'
theorem GW {rows:bp} (hl:rows.length<=1048576) (h:mX rows):c6 20 rows=rows:=Ek (pO 20 rows oa) h fun r=>oK 20 rows r
theorem BC {n:Int} {rows:bp} (h:cI n rows=true):mX rows:=by
 rw [mX,tw]
 exact fun i j hi hj hij=>C4 h i j hij hj
theorem xE {n:Int} {rows:bp} (h0:0<=n/\n<=5) (hl:rows.length<=4000) (hf:∀ r∈rows,(r.length:Int)=n/\bW r=true) (ha:mX rows):cI n rows=true:=by
 have:=uy h0 hl hf
 rwa [GW oa ha] at this
theorem D9 {α:Type} (f:α->Bool) (xs:List α):(xs.takeWhile f).length<=xs.length:=(List.takeWhile_prefix f).length_le
def lK (rows:bp) (p:yP):bp:=rows.filter fun r=>decide (r.take p.length=p)
def nK (n:Nat) (out r:yP):yP:=if out.getLast? = some (r.getD n 0) then out else out++[r.getD n 0]
def vS (rows:bp) (p:yP):yP:=(lK rows p).foldl (nK p.length) []
def nV (n:Int) (rows:bp) (p:yP):yP:=if (p.length:Int)<n then vS rows p else []
theorem E8 (n:Nat) (out r:yP):(nK n out r).length<=out.length+1:=by
 unfold nK;split
 ·omega
 ·simp
theorem yX (n:Nat):∀ (rows:bp) (out:yP),(rows.foldl (nK n) out).length<=out.length+rows.length
 | [],out=>by simp
 | r :: rows,out=>by
  have h1:=yX n rows (nK n out r)
  have h2:=E8 n out r
  rw [tI,b9];omega
theorem IA (rows:bp) (p:yP):(vS rows p).length<=rows.length:=by
 have h1:=yX p.length (lK rows p) []
 have h2:(lK rows p).length<=rows.length:=uB _ _
 unfold vS
 simp only [gu] at h1;omega
theorem Cj (n:Int) (rows:bp) (p:yP):(nV n rows p).length<=rows.length:=by
 unfold nV;split
 ·exact IA rows p
 ·simp
theorem yZ (n:Nat) (out r:yP) (v:Int):v∈nK n out r↔v∈out\/v=r.getD n 0:=by
 unfold nK
 split
 ·rename_i h
  have:=List.mem_of_getLast? h
  constructor
  ·exact .inl
  ·rintro (h | rfl)
   ·exact h
   ·exact this
 ·rw [cU,d7]
theorem yT (n:Nat):∀ (rows:bp) (out:yP) (v:Int),v∈rows.foldl (nK n) out↔v∈out\/∃ r∈rows,v=r.getD n 0
 | [],out,v=>by simp
 | r :: rows,out,v=>by
  rw [tI,yT n rows,yZ]
  constructor
  ·rintro ((h | h) | ⟨x,hx,h⟩)
   ·exact .inl h
   ·exact .inr ⟨r,cx,h⟩
   ·exact .inr ⟨x,cD _ hx,h⟩
  ·rintro (h | ⟨x,hx,h⟩)
   ·exact .inl (.inl h)
   ·rcases bX.1 hx with rfl | hx
    ·exact .inl (.inr h)
    ·exact .inr ⟨x,hx,h⟩
theorem pY {rows:bp} {p:yP} {v:Int}:v∈vS rows p↔∃ r∈rows,r.take p.length=p/\v=r.getD p.length 0:=by
 unfold vS lK
 rw [yT]
 simp only [pC,false_or,jn,dm,and_assoc]
abbrev lE (xs:yP):Prop:=xs.Pairwise (·<·)
theorem F8:∀ (n:Nat) (a b:yP),a.take n=b.take n->n<a.length->n<b.length->cw a b<0->a.getD n 0<=b.getD n 0
 | _,[],_,_,h,_,_=>absurd h (by simp)
 | _,_ :: _,[],_,_,h,_=>absurd h (by simp)
 | 0,x :: a,y :: b,_,_,_,h=>by
  unfold cw at h
  show x<=y
  by_cases h1:x<y
  ·omega
  ·rw [aS h1] at h
   by_cases h2:y<x
   ·rw [aK h2] at h;exact absurd h (by decide)
   ·omega
 | n+1,x :: a,y :: b,e,h1,h2,h=>by
  rw [List.take_succ_cons,List.take_succ_cons,xJ] at e
  unfold cw at h
  rw [aS oa,aS oa] at h
  simp only [b9] at h1 h2
  exact F8 n a b e.2 oa oa h
theorem HY {xs:yP} {v:Int} (h:lE xs) (hl:xs.getLast? = some v):∀ x∈xs,x<=v:=by
 intro x hx
 obtain ⟨ys,rfl⟩:=List.getLast?_eq_some_iff.1 hl
 rcases cU.1 hx with hx | hx
 ·have:=(uD.1 h).2.2 x hx v (by simp)
  omega
 ·rw [d7] at hx;omega
theorem yz (n:Nat):∀ (rows:bp) (out:yP),lE out->rows.Pairwise (fun a b=>a.getD n 0<=b.getD n 0)->(∀ x∈out,∀ r∈rows,x<=r.getD n 0)->lE (rows.foldl (nK n) out)
 | [],_,h,_,_=>h
 | r :: rows,out,h,hp,hb=>by
  obtain ⟨p1,p2⟩:=jo.1 hp
  rw [tI]
  refine yz n rows _ ?_ p2 fun x hx s hs=>?_
  ·unfold nK
   split
   ·exact h
   ·rename_i hne
    refine uD.2 ⟨h,vz _ _,fun x hx y hy=>?_⟩
    rw [d7] at hy
    have h1:=hb x hx r cx
    rcases Classical.em (x=r.getD n 0) with e | e
    ·exfalso
     obtain ⟨w,hw⟩:∃ w,out.getLast? = some w:=by
      cases hq:out.getLast? with
      | none=>rw [List.getLast?_eq_none_iff] at hq;rw [hq] at hx;simp at hx
      | some w=>exact ⟨w,rfl⟩
     have h2:=HY h hw x hx
     have h3:=hb w (List.mem_of_getLast? hw) r cx
     exact hne (by rw [hw];congr 1;omega)
    ·omega
  ·rcases (yZ n out r x).1 hx with hx | rfl
   ·exact hb x hx s (cD _ hs)
   ·exact p1 s hs
theorem HX {rows:bp} {p:yP} (ha:mX rows) (hl:∀ r∈rows,p.length<r.length):lE (vS rows p):=by
 unfold vS
 refine yz _ _ _ List.Pairwise.nil ?_ (by simp)
 have h1:(lK rows p).Pairwise fun a b=>cw a b<0:=List.Pairwise.filter _ ha
 refine List.Pairwise.imp_of_mem (fun {a b} ham hbm h=>?_) h1
 unfold lK at ham hbm
 rw [jn,dm] at ham hbm
 exact F8 _ a b (by rw [ham.2,hbm.2]) (hl a ham.1) (hl b hbm.1) h
theorem HF {n:Int} {rows:bp} {p:yP} (hv:cI n rows=true):lE (nV n rows p):=by
 obtain ⟨_,_,_,v4⟩:=iy hv
 unfold nV
 split
 ·refine HX (BC hv) fun r hr=>?_
  obtain ⟨i,hi,rfl⟩:=gg hr
  have:=(v4 i hi).1;omega
 ·exact List.Pairwise.nil
theorem Gr {n:Int} {rows:bp} {p:yP} (hv:cI n rows=true):∀ v∈nV n rows p,0<=v/\v<=99:=by
 obtain ⟨_,_,_,v4⟩:=iy hv
 intro v h
 unfold nV at h
 split at h
 ·obtain ⟨r,hr,_,e⟩:=pY.1 h
  obtain ⟨i,hi,rfl⟩:=gg hr
  obtain ⟨g1,g2,_⟩:=v4 i hi
  rw [bu oa] at e
  unfold bW at g2
  rw [df] at g2
  rw [e];exact ck.1 (g2 _ (bA _))
 ·simp at h
abbrev Nxt:=yP->yP × Int
def fc (f:Nxt):Nat->yP->bp × Int
 | 0,p=>([p],0)
 | m+1,p=>((f p).1.flatMap fun v=>(fc f m (p++[v])).1,(f p).2+((f p).1.map fun v=>(fc f m (p++[v])).2).sum)
structure NxtOk (f:Nxt):Prop where
 len:∀ p,(f p).1.length<=16
 asc:∀ p,lE (f p).1
 val:∀ p,∀ v∈(f p).1,0<=v/\v<=99
 st0:∀ p,0<=(f p).2
 st1:∀ p,(f p).2<=1000
theorem pV {f:Nxt}:∀ {m:Nat} {p r:yP},r∈(fc f m p).1->∃ s,r=p++s/\s.length=m
 | 0,p,r,h=>⟨[],by rw [jI];exact d7.1 h,rfl⟩
 | m+1,p,r,h=>by
  obtain ⟨v,_,hv⟩:=pp.1 h
  obtain ⟨s,e,hs⟩:=pV hv
  exact ⟨v :: s,by rw [e,eS];rfl,by rw [b9,hs]⟩
theorem A3 {f:Nxt} (hf:NxtOk f):∀ {m:Nat} {p r:yP},bW p=true->r∈(fc f m p).1->bW r=true
 | 0,p,r,hp,h=>by
  have e:r=p:=d7.1 h
  rw [e];exact hp
 | m+1,p,r,hp,h=>by
  obtain ⟨v,hv0,hv⟩:=pp.1 h
  refine A3 hf ?_ hv
  unfold bW at hp ⊢
  rw [List.all_append,hp,eG]
  have:=hf.val p v hv0
  simp only [uE,List.all_nil,vr]
  exact ck.2 this
theorem Dl:∀ (p a b:yP) (v w:Int),v<w->cw (p++v :: a) (p++w :: b)<0
 | [],a,b,v,w,h=>by
  show cw (v :: a) (w :: b)<0
  unfold cw;rw [aK h];decide
 | x :: p,a,b,v,w,h=>by
  rw [List.cons_append,List.cons_append]
  unfold cw
  rw [aS oa,aS oa]
  exact Dl p a b v w h
theorem Cq {f:Nxt} (hf:NxtOk f):∀ (m:Nat) (p:yP),mX (fc f m p).1
 | 0,p=>vz _ _
 | m+1,p=>by
  show mX ((f p).1.flatMap fun v=>(fc f m (p++[v])).1)
  unfold mX
  rw [List.pairwise_flatMap]
  refine ⟨fun v _=>Cq hf m _,?_⟩
  refine At (fun {v w} hvw r hr s hs=>?_) (hf.asc p)
  obtain ⟨a,rfl,_⟩:=pV hr
  obtain ⟨b,rfl,_⟩:=pV hs
  rw [eS,eS]
  exact Dl p a b v w hvw
theorem nJ {α β:Type} {g:α->List β} {k:Nat} (h:∀ x,(g x).length<=k):∀ L:List α,(L.flatMap g).length<=L.length*k
 | []=>by simp
 | p :: L=>by
  have h1:=h p
  have h2:=nJ h L
  rw [th,bZ,b9,tG];omega
theorem Ck {f:Nxt} (hf:NxtOk f):∀ (m:Nat) (p:yP),(fc f m p).1.length<=16 ^ m
 | 0,p=>by simp [fc]
 | m+1,p=>by
  have h1:=nJ (g:=fun v=>(fc f m (p++[v])).1) (fun v=>Ck hf m _) (f p).1
  have h2:=me (16 ^ m) (hf.len p)
  show ((f p).1.flatMap fun v=>(fc f m (p++[v])).1).length<=_
  rw [oC];omega
def nr (l:yP) (a:Nat) (v:Int):Nat:=a+((l.drop a).takeWhile fun x=>decide (x<v)).length
theorem JF {l:yP} {a:Nat} {v:Int} (h:a<=l.length):nr l a v<=l.length:=by
 have:=D9 (fun x=>decide (x<v)) (l.drop a)
 rw [iH] at this
 unfold nr;omega
theorem Gj {f:Int->Bool}:∀ {xs:yP} (h:(xs.takeWhile f).length<xs.length),f (xs[(xs.takeWhile f).length])=false
 | [],h=>absurd h (by simp)
 | x :: xs,h=>by
  cases hf:f x with
  | false =>
   have e:(x :: xs).takeWhile f=[]:=by rw [xm,hf];rfl
   simp only [e,gu,List.getElem_cons_zero];exact hf
  | true =>
   have e:(x :: xs).takeWhile f=x :: xs.takeWhile f:=by rw [xm,hf];rfl
   simp only [e,b9] at h ⊢
   rw [List.getElem_cons_succ]
   exact Gj oa
theorem Kf {f:Int->Bool}:∀ {xs:yP} {j:Nat} (h:j<xs.length),j<(xs.takeWhile f).length->f xs[j]=true
 | [],_,h,_=>absurd h (by simp)
 | x :: xs,j,h,hj=>by
  cases hf:f x with
  | false =>
   have e:(x :: xs).takeWhile f=[]:=by rw [xm,hf];rfl
   rw [e] at hj;exact absurd hj (by simp)
  | true =>
   have e:(x :: xs).takeWhile f=x :: xs.takeWhile f:=by rw [xm,hf];rfl
   rw [e,b9] at hj
   cases j with
   | zero=>exact hf
   | succ j=>rw [List.getElem_cons_succ];exact Kf _ oa
theorem GB {l:yP} {a:Nat} {v:Int} (h:nr l a v<l.length):v<=l.getD (nr l a v) 0:=by
 unfold nr at h ⊢
 have:=Gj (f:=fun x=>decide (x<v)) (xs:=l.drop a) (by rw [iH];omega)
 rw [Aw,AM] at this
 rw [bu h];omega
theorem I2 {l:yP} {a j:Nat} {v:Int} (h:j<l.length) (h1:a<=j) (h2:j<nr l a v):l[j]<v:=by
 unfold nr at h2
 have:=Kf (f:=fun x=>decide (x<v)) (xs:=l.drop a) (j:=j-a) (by rw [iH];omega) oa
 rw [Aw,dm] at this
 simpa [show a+(j-a)=j by omega] using this
theorem JR {l:yP} {a:Nat} {v:Int} (h:a<l.length) (h1:l[a]<v):a<nr l a v:=by
 unfold nr
 rw [km h,xm,aK (by simpa using h1),b9];omega
theorem vn {l:yP} (h:lE l) {i j:Nat} (hi:i<j) (hj:j<l.length):l[i]<l[j]:=tw.1 h i j oa hj hi
def o9 (Ls:bp) (A:List Nat) (k:Nat):Int:=(Ls.getD k []).getD (A.getD k 0) 0
def lkL (Ls:bp) (s:Nat):yP:=Ls.getD (s % Ls.length) []
def lkP (Ls:bp) (A:List Nat) (s:Nat):Nat:=A.getD (s % Ls.length) 0
def lkA (Ls:bp) (A:List Nat) (most:Int) (s:Nat):Nat:=if (lkL Ls s).getD (lkP Ls A s) 0=most then lkP Ls A s+1 else nr (lkL Ls s) (lkP Ls A s) most
def lkO (Ls:bp) (A:List Nat) (most:Int) (out:yP) (s:Nat):yP:=if (lkL Ls s).getD (lkP Ls A s) 0=most then out++[most] else out
def uW (Ls:bp):Nat->List Nat->Int->yP->Nat->yP × Nat
 | 0,_,_,out,s=>(out,s)
 | m+1,A,most,out,s =>
  if lkA Ls A most s=(lkL Ls s).length then (lkO Ls A most out s,s+1) else uW Ls m (A.set (s % Ls.length) (lkA Ls A most s)) ((lkL Ls s).getD (lkA Ls A most s) 0) (lkO Ls A most out s) (s+1)
structure LInv (Ls:bp) (A:List Nat) (most:Int) (out:yP) (s:Nat):Prop where
 pos:0<Ls.length
 len:A.length=Ls.length
 asc:∀ l∈Ls,lE l
 lt:∀ k,k<Ls.length->A.getD k 0<(Ls.getD k []).length
 cyc:∀ i j,i<=j->j<Ls.length->o9 Ls A ((s+i) % Ls.length)<=o9 Ls A ((s+j) % Ls.length)
 top:o9 Ls A ((s+(Ls.length-1)) % Ls.length)=most
 oasc:lE out
 olt:∀ x∈out,x<most
 ocom:∀ x∈out,∀ l∈Ls,x∈l
 all:∀ x,(∀ l∈Ls,x∈l)->x∈out\/∀ k,k<Ls.length->o9 Ls A k<=x
theorem FL {s n k:Nat} (hk:k<n):∃ i,i<n/\(s+i) % n=k:=by
 have hr:s % n<n:=Nat.mod_lt _ oa
 by_cases h:s % n<=k
 ·refine ⟨k-s % n,oa,?_⟩
  rw [Nat.add_mod,rW (a:=k-s % n) oa,show s % n+(k-s % n)=k by omega,rW hk]
 ·refine ⟨k+n-s % n,oa,?_⟩
  rw [Nat.add_mod,rW (a:=k+n-s % n) oa,show s % n+(k+n-s % n)=k+n by omega,Nat.add_mod_right,rW hk]
theorem NM {s i j n:Nat} (hi:i<j) (hj:j<n):(s+j) % n≠(s+i) % n:=by
 intro e
 have h1:=Nat.div_add_mod (s+j) n
 have h2:=Nat.div_add_mod (s+i) n
 rw [e] at h1
 have h3:n*((s+j) / n)=n*((s+i) / n)+(j-i):=by omega
 rcases Nat.lt_trichotomy ((s+j) / n) ((s+i) / n) with h | h | h
 ·have:=Nat.mul_le_mul_left n (Nat.le_of_lt h);omega
 ·rw [h] at h3;omega
 ·have:=Nat.mul_le_mul_left n (Nat.succ_le_of_lt h)
  rw [Nat.mul_succ] at this;omega
theorem M4 {A:List Nat} {k a:Nat} (h:k<A.length):(A.set k a).getD k 0=a:=by simp [h]
theorem FB {A:List Nat} {k j a:Nat} (h:j≠k):(A.set k a).getD j 0=A.getD j 0:=by
 simp [vb (qz h)]
theorem pI {Ls:bp} {k:Nat} (h:k<Ls.length):Ls.getD k []∈Ls:=by rw [lX h];exact bA h
theorem Ik {l:yP} {x:Int} (h:x∈l):∃ j,∃ hj:j<l.length,l[j]=x:=List.mem_iff_getElem.1 h
theorem Hv {Ls:bp} {A:List Nat} {most:Int} {out:yP} {s:Nat} (I:LInv Ls A most out s) :
  let k:=s % Ls.length
  let l:=lkL Ls s
  let a:=lkP Ls A s
  let a':=lkA Ls A most s
  let out':=lkO Ls A most out s
  k<Ls.length/\a<l.length/\a<a'/\a'<=l.length/\(a'=l.length->lE out'/\∀ x,x∈out'↔∀ l∈Ls,x∈l)/\(¬ a'=l.length->LInv Ls (A.set k a') (l.getD a' 0) out' (s+1)):=by
 intro k l a a' out'
 have hk:k<Ls.length:=Nat.mod_lt _ I.pos
 have hkA:k<A.length:=by rw [I.len];exact hk
 have ha:a<l.length:=I.lt k hk
 have hla:lE l:=I.asc l (pI hk)
 have hkey:o9 Ls A k=l.getD a 0:=rfl
 have hle:l.getD a 0<=most:=by
  have:=I.cyc 0 (Ls.length-1) oa (by have:=I.pos;omega)
  rw [I.top,mT] at this
  exact this
 rw [bu ha] at hle
 -- the new place
 have hgt:a<a':=by
  show a<if l.getD a 0=most then a+1 else nr l a most
  split
  ·omega
  ·rename_i h;rw [bu ha] at h;exact JR ha oa
 have hle':a'<=l.length:=by
  show (if l.getD a 0=most then a+1 else nr l a most)<=l.length
  split
  ·omega
  ·exact JF oa
 have hnew:a'<l.length->most<=l.getD a' 0/\(l.getD a 0=most->most<l.getD a' 0):=by
  intro h
  by_cases e:l.getD a 0=most
  ·have e':a'=a+1:=aK e
   rw [e'] at h ⊢
   have:=vn hla (show a<a+1 by omega) h
   rw [bu h];rw [bu ha] at e
   exact ⟨oa,fun _=>by omega⟩
  ·have e':a'=nr l a most:=aS e
   rw [e'] at h ⊢
   exact ⟨GB h,fun h'=>absurd h' e⟩
 -- every key is at most 'most';on a hit all are equal
 have hmost:∀ j,j<Ls.length->o9 Ls A j<=most:=by
  intro j hj
  obtain ⟨i,hi,rfl⟩:=FL (s:=s) hj
  have:=I.cyc i (Ls.length-1) oa oa
  rwa [I.top] at this
 have hhit:l.getD a 0=most->∀ l'∈Ls,most∈l':=by
  intro e l' hl'
  obtain ⟨j,hj,rfl⟩:=gg hl'
  have h1:=hmost j hj
  obtain ⟨i,hi,ej⟩:=FL (s:=s) hj
  have h2:=I.cyc 0 i oa hi
  rw [mT,ej] at h2
  have h3:o9 Ls A j=most:=by rw [show o9 Ls A (s % Ls.length)=most from e] at h2;omega
  have h4:=I.lt j hj
  unfold o9 at h3
  rw [bu h4] at h3
  have h5:=bA h4
  rw [h3] at h5
  rwa [lX hj] at h5
 -- what is common and not yet found lies at the new place or behind it
 have hback:∀ x,(∀ l'∈Ls,x∈l')->x∈out'\/(most<=x/\∃ j,∃ hj:j<l.length,l[j]=x/\a'<=j):=by
  intro x hx
  rcases I.all x hx with h | h
  ·refine .inl ?_
   show x∈if l.getD a 0=most then out++[most] else out
   split
   ·exact ie _ h
   ·exact h
  ·have hm:most<=x:=by
    have:=h ((s+(Ls.length-1)) % Ls.length) (Nat.mod_lt _ I.pos)
    rwa [I.top] at this
   obtain ⟨j,hj,e⟩:=Ik (hx l (pI hk))
   by_cases hej:l.getD a 0=most
   ·have e':a'=a+1:=aK hej
    have eo:out'=out++[most]:=aK hej
    by_cases hxm:x=most
    ·exact .inl (by rw [eo,hxm];simp)
    ·refine .inr ⟨hm,j,hj,e,?_⟩
     rw [e']
     refine nC fun hc=>?_
     rcases Nat.lt_or_ge j a with hja | hja
     ·have:=vn hla hja ha
      rw [bu ha] at hej;omega
     ·have:j=a:=by omega
      subst this
      rw [bu ha] at hej;omega
   ·have e':a'=nr l a most:=aS hej
    refine .inr ⟨hm,j,hj,e,?_⟩
    rw [e']
    refine nC fun hc=>?_
    rcases Nat.lt_or_ge j a with hja | hja
    ·have:=vn hla hja ha
     omega
    ·have:=I2 hj hja (by omega:j<nr l a most)
     omega
 have hoasc:lE out':=by
  show lE (if l.getD a 0=most then out++[most] else out)
  split
  ·exact uD.2 ⟨I.oasc,vz _ _,fun x hx y hy=>by rw [d7] at hy;rw [hy];exact I.olt x hx⟩
  ·exact I.oasc
 have hocom:∀ x∈out',∀ l'∈Ls,x∈l':=by
  intro x hx
  by_cases e:l.getD a 0=most
  ·have eo:out'=out++[most]:=aK e
   rw [eo] at hx
   rcases cU.1 hx with hx | hx
   ·exact I.ocom x hx
   ·rw [d7] at hx;rw [hx];exact hhit e
  ·have eo:out'=out:=aS e
   rw [eo] at hx;exact I.ocom x hx
 refine ⟨hk,ha,hgt,hle',fun he=>⟨hoasc,fun x=>⟨hocom x,fun hx=>?_⟩⟩,fun hne=>?_⟩
 ·rcases hback x hx with h | ⟨_,j,hj,_,hj2⟩
  ·exact h
  ·omega
 ·have hlt':a'<l.length:=by omega
  obtain ⟨n1,n2⟩:=hnew hlt'
  have keyNew:o9 Ls (A.set k a') k=l.getD a' 0:=by unfold o9;rw [M4 hkA];rfl
  have keyOld:∀ j,j≠k->o9 Ls (A.set k a') j=o9 Ls A j:=fun j hj=>by unfold o9;rw [FB hj]
  have hkk:(s+1+(Ls.length-1)) % Ls.length=k:=by
   rw [show s+1+(Ls.length-1)=s+Ls.length by have:=I.pos;omega,Nat.add_mod_right]
  have hne':∀ i,i+1<Ls.length->(s+1+i) % Ls.length≠k:=fun i hi=>by
   have:=NM (s:=s) (i:=0) (j:=i+1) (n:=Ls.length) oa hi
   rw [mT] at this
   rw [show s+1+i=s+(i+1) by omega];exact this
  refine ⟨I.pos,by rw [gd];exact I.len,I.asc,fun j hj=>?_,fun i j hij hj=>?_,by rw [hkk,keyNew],hoasc,fun x hx=>?_,hocom,fun x hx=>?_⟩
  ·by_cases e:j=k
   ·rw [e,M4 hkA];exact hlt'
   ·rw [FB e];exact I.lt j hj
  ·by_cases ej:j+1<Ls.length
   ·rw [keyOld _ (hne' j ej),keyOld _ (hne' i oa),show s+1+i=s+(i+1) by omega,show s+1+j=s+(j+1) by omega]
    exact I.cyc (i+1) (j+1) oa ej
   ·have ejl:j=Ls.length-1:=by omega
    rw [ejl,hkk,keyNew]
    by_cases ei:i+1<Ls.length
    ·rw [keyOld _ (hne' i ei)]
     have:=hmost ((s+1+i) % Ls.length) (Nat.mod_lt _ I.pos)
     omega
    ·rw [show i=Ls.length-1 by omega,hkk,keyNew];exact lA _
  ·by_cases e:l.getD a 0=most
   ·have eo:out'=out++[most]:=aK e
    rw [eo] at hx
    have:=n2 e
    rcases cU.1 hx with hx | hx
    ·have:=I.olt x hx;omega
    ·rw [d7] at hx;omega
   ·have eo:out'=out:=aS e
    rw [eo] at hx
    have:=I.olt x hx;omega
  ·rcases hback x hx with h | ⟨hm,j,hj,e,hj2⟩
   ·exact .inl h
   ·refine .inr fun i hi=>?_
    by_cases ei:i=k
    ·rw [ei,keyNew,bu hlt',<- e]
     rcases Nat.lt_or_ge a' j with h | h
     ·exact sY (vn hla h hj)
     ·have:j=a':=by omega
      subst this;exact lA _
    ·rw [keyOld i ei]
     have:=hmost i hi;omega
def su (Ls:bp) (A:List Nat):Nat:=(List.zipWith (fun l a=>l.length-a) Ls A).sum
theorem DD:∀ (Ls:bp) (A:List Nat) (k a':Nat),k<Ls.length->A.length=Ls.length->(Ls.getD k []).length-a'<(Ls.getD k []).length-A.getD k 0->su Ls (A.set k a')<su Ls A
 | [],_,_,_,h,_,_=>absurd h (by simp)
 | _ :: _,[],_,_,_,h,_=>absurd h (by simp)
 | l :: Ls,a :: A,0,a',_,_,h=>by
  unfold su
  simp only [List.set_cons_zero,List.zipWith_cons_cons,List.sum_cons]
  simp only [List.getD_cons_zero] at h
  omega
 | l :: Ls,a :: A,k+1,a',h1,h2,h=>by
  have:=DD Ls A k a' (by simpa using h1) (by simpa using h2) (by simpa using h)
  unfold su at this ⊢
  simp only [List.set_cons_succ,List.zipWith_cons_cons,List.sum_cons]
  omega
theorem yU {Ls:bp}:∀ (m:Nat) (A:List Nat) (most:Int) (out:yP) (s:Nat),LInv Ls A most out s->su Ls A<m ->
  lE (uW Ls m A most out s).1/\(∀ x,x∈(uW Ls m A most out s).1↔∀ l∈Ls,x∈l)/\(uW Ls m A most out s).2<=s+m
 | 0,_,_,_,_,_,h=>absurd h oa
 | m+1,A,most,out,s,I,h=>by
  obtain ⟨hk,ha,hgt,hle,h1,h2⟩:=Hv I
  rw [uW]
  by_cases he:lkA Ls A most s=(lkL Ls s).length
  ·rw [aK he]
   obtain ⟨g1,g2⟩:=h1 he
   exact ⟨g1,g2,by show s+1<=_;omega⟩
  ·rw [aS he]
   have hr:=DD Ls A (s % Ls.length) (lkA Ls A most s) hk I.len (by
    have h3:lkP Ls A s<(lkL Ls s).length:=ha
    have h4:lkP Ls A s<lkA Ls A most s:=hgt
    show (lkL Ls s).length-lkA Ls A most s<(lkL Ls s).length-lkP Ls A s
    omega)
   obtain ⟨g1,g2,g3⟩:=yU m _ _ _ (s+1) (h2 he) oa
   exact ⟨g1,g2,oa⟩
def xW (l:yP):Int:=l.getD 0 0
def vV (hs:yP) (h:Int):Nat->Nat
 | 0=>0
 | k+1=>if h<hs.getD k 0 then vV hs h k else k+1
theorem Fj (hs:yP) (h:Int):∀ k,vV hs h k<=k
 | 0=>bN _
 | k+1=>by
  unfold vV;split
  ·have:=Fj hs h k;omega
  ·exact bN _
theorem Fg (hs:yP) (h:Int):∀ k j,vV hs h k<=j->j<k->h<hs.getD j 0
 | 0,j,_,h2=>absurd h2 oa
 | k+1,j,h1,h2=>by
  unfold vV at h1
  split at h1
  ·rename_i hh
   by_cases e:j=k
   ·rw [e];exact hh
   ·exact Fg hs h k j h1 oa
  ·omega
theorem Fh (hs:yP) (h:Int):∀ k,vV hs h k=0\/hs.getD (vV hs h k-1) 0<=h
 | 0=>.inl rfl
 | k+1=>by
  unfold vV;split
  ·exact Fh hs h k
  ·rename_i hh;exact .inr (by rw [rP];omega)
def hdI (ls:bp) (j:Int):Int:=xW (ls.getD j.toNat [])
def pK (ls:bp) (O:yP) (i:Nat):Nat:=vV (O.map (hdI ls)) (hdI ls (i:Int)) O.length
def Am (ls:bp) (O:yP) (i:Nat):yP:=O.take (pK ls O i)++[(i:Int)]++O.drop (pK ls O i)
def nZ (ls:bp) (i:Nat):yP:=(List.range' 0 i).foldl (Am ls) []
def lsO (ls:bp) (O:yP):bp:=O.map fun j=>ls.getD j.toNat []
theorem Hy (ls:bp) (i:Nat):nZ ls (i+1)=Am ls (nZ ls i) i:=by unfold nZ;rw [pf,List.foldl_append];simp
theorem L0 (ls:bp) (O:yP) (i:Nat):pK ls O i<=O.length:=Fj _ _ _
theorem Ct (ls:bp) (O:yP) (i:Nat):(Am ls O i).Perm ((i:Int) :: O):=by
 unfold Am
 rw [eS,List.singleton_append]
 have h:=List.perm_middle (a:=(i:Int)) (l₁:=O.take (pK ls O i)) (l₂:=O.drop (pK ls O i))
 rwa [Bk] at h
theorem Ja (ls:bp) (O:yP) (i:Nat):(Am ls O i).length=O.length+1:=by rw [(Ct ls O i).length_eq,b9]
def leI (a b:Int):Prop:=a<=b
theorem EP {ls:bp} {O:yP} {i:Nat} (h:(O.map (hdI ls)).Pairwise leI):((Am ls O i).map (hdI ls)).Pairwise leI:=by
 have hk:=L0 ls O i
 have hat:∀ j (hj:j<O.length),hdI ls O[j]=(O.map (hdI ls)).getD j 0:=fun j hj=>by rw [bu (by rw [bT];exact hj),iS]
 unfold Am
 rw [eU,eU,eS]
 have h1:(O.map (hdI ls))=(O.take (pK ls O i)).map (hdI ls)++(O.drop (pK ls O i)).map (hdI ls):=by rw [<- eU,Bk]
 rw [h1] at h
 obtain ⟨p1,p2,p3⟩:=uD.1 h
 refine uD.2 ⟨p1,?_,?_⟩
 ·rw [gH,ou,List.singleton_append]
  refine jo.2 ⟨fun y hy=>?_,p2⟩
  obtain ⟨x,hx,rfl⟩:=dh.1 hy
  obtain ⟨j,hj,rfl⟩:=gg hx
  rw [iH] at hj
  rw [Aw]
  have:=Fg (O.map (hdI ls)) (hdI ls (i:Int)) O.length (pK ls O i+j) (by unfold pK;omega) oa
  rw [<- hat _ oa] at this
  exact sY this
 ·intro x hx y hy
  have hx':leI x (hdI ls (i:Int)):=by
   obtain ⟨z,hz,rfl⟩:=dh.1 hx
   obtain ⟨j,hj,rfl⟩:=gg hz
   rw [c5] at hj
   rw [se]
   have hj1:j<pK ls O i:=by omega
   rcases Fh (O.map (hdI ls)) (hdI ls (i:Int)) O.length with h0 | h0
   ·have:pK ls O i=0:=h0
    omega
   ·have h0':(O.map (hdI ls)).getD (pK ls O i-1) 0<=hdI ls (i:Int):=h0
    by_cases e:j=pK ls O i-1
    ·unfold leI;rw [hat j oa,e];exact h0'
    ·have hp:=tw.1 p1 j (pK ls O i-1) (by rw [bT,c5];omega) (by rw [bT,c5];omega) oa
     rw [iS,iS,se,se] at hp
     unfold leI at hp ⊢
     rw [hat (pK ls O i-1) oa] at hp
     omega
  rw [gH,ou,List.singleton_append] at hy
  rcases bX.1 hy with rfl | hy
  ·exact hx'
  ·exact p3 x hx y hy
structure OrdOk (ls:bp) (O:yP) (i:Nat):Prop where
 len:O.length=i
 nd:O.Nodup
 bd:∀ j∈O,0<=j/\j<i
 so:(O.map (hdI ls)).Pairwise leI
theorem yq (ls:bp):∀ i,OrdOk ls (nZ ls i) i
 | 0=>⟨rfl,List.nodup_nil,fun j h=>absurd h (pC),List.Pairwise.nil⟩
 | i+1=>by
  have h:=yq ls i
  rw [Hy]
  have hp:=Ct ls (nZ ls i) i
  refine ⟨by rw [Ja,h.len],hp.nodup_iff.2 (jm.2 ⟨fun hm=>by have:=h.bd _ hm;omega,h.nd⟩),fun j hj=>?_,EP h.so⟩
  rcases bX.1 (hp.mem_iff.1 hj) with rfl | hj
  ·omega
  ·have:=h.bd j hj;omega
def shS (ls:bp) (i:Nat) (s:Int):Int:=bif Nat.beq i 0||decide (((ls.getD i []).length:Int)<s) then ((ls.getD i []).length:Int) else s
def shT (ls:bp) (i:Nat):Int:=(List.range' 0 i).foldl (fun s i=>shS ls i s) 0
theorem Ei (ls:bp) (i:Nat):shT ls (i+1)=shS ls i (shT ls i):=by unfold shT;rw [pf,List.foldl_append];simp
theorem Ip (ls:bp):∀ i,0<=shT ls i/\∀ j,j<i->shT ls i<=((ls.getD j []).length:Int)
 | 0=>⟨lA _,fun j h=>absurd h oa⟩
 | i+1=>by
  obtain ⟨h1,h2⟩:=Ip ls i
  rw [Ei]
  unfold shS
  cases i with
  | zero=>exact ⟨by rw [show (Nat.beq 0 0)=true from rfl,Bool.true_or,ae];omega,fun j hj=>by rw [show (Nat.beq 0 0)=true from rfl,Bool.true_or,ae,show j=0 by omega];exact lA _⟩
  | succ i =>
   rw [show Nat.beq (i+1) 0=false from rfl,tP]
   by_cases h:((ls.getD (i+1) []).length:Int)<shT ls (i+1)
   ·rw [aJ h,ae]
    refine ⟨oa,fun j hj=>?_⟩
    by_cases e:j=i+1
    ·rw [e];exact lA _
    ·have:=h2 j oa;omega
   ·rw [aN h,ai]
    refine ⟨h1,fun j hj=>?_⟩
    by_cases e:j=i+1
    ·rw [e];omega
    ·exact h2 j oa
def nw (n:Nat):List Nat:=List.replicate n 0
def Dc (ls:bp):yP × Nat:=uW (lsO ls (nZ ls ls.length)) (su (lsO ls (nZ ls ls.length)) (nw ls.length)+1) (nw ls.length) (xW ((lsO ls (nZ ls ls.length)).getD (ls.length-1) [])) [] 0
def sM (ls:bp):yP × Int:=bif si ls&&!(shT ls ls.length == 0) then ((Dc ls).1,((Dc ls).2:Int)) else ([],0)
theorem zq:∀ {xs:yP},asc xs=true->lE xs
 | [],_=>List.Pairwise.nil
 | [_],_=>vz _ _
 | x :: y :: t,h=>by
  unfold asc at h
  rw [ce,dm] at h
  have ih:=zq h.2
  refine jo.2 ⟨fun z hz=>?_,ih⟩
  rcases bX.1 hz with rfl | hz
  ·exact h.1
  ·have:=(jo.1 ih).1 z hz;omega
theorem DO:∀ {xs:yP},lE xs->asc xs=true
 | [],_=>rfl
 | [_],_=>rfl
 | x :: y :: t,h=>by
  obtain ⟨h1,h2⟩:=jo.1 h
  unfold asc
  rw [aJ (h1 y cx),DO h2];rfl
theorem F3 (ls:bp):(lsO ls (nZ ls ls.length)).length=ls.length:=by unfold lsO;rw [bT,(yq ls ls.length).len]
theorem sQ {ls:bp} {l:yP}:l∈lsO ls (nZ ls ls.length)↔l∈ls:=by
 have h:=yq ls ls.length
 unfold lsO
 rw [dh]
 constructor
 ·rintro ⟨j,hj,rfl⟩
  have:=h.bd j hj
  exact pI oa
 ·intro hl
  obtain ⟨i,hi,rfl⟩:=gg hl
  refine ⟨(i:Int),we h.nd h.len h.bd (i:Int) oa oa,?_⟩
  rw [show ((i:Nat):Int).toNat=i from rfl,lX hi]
theorem HE {ls:bp} {O:yP} {i:Nat} (h:i<O.length):(lsO ls O).getD i []=ls.getD O[i].toNat []:=by unfold lsO;simp [h]
theorem Df (n k:Nat):(nw n).getD k 0=0:=by
 unfold nw
 by_cases h:k<n <;> simp [h]
theorem GG {ls:bp} (h:(si ls&&!(shT ls ls.length == 0))=true) :
  LInv (lsO ls (nZ ls ls.length)) (nw ls.length) (xW ((lsO ls (nZ ls ls.length)).getD (ls.length-1) [])) [] 0/\∀ l∈ls,0<l.length:=by
 rw [ce,wZ,l8] at h
 obtain ⟨h1,h2⟩:=h
 unfold si at h1
 rw [ce,df,dm] at h1
 obtain ⟨h3,h4⟩:=Ip ls ls.length
 have hne:∀ l∈ls,0<l.length:=fun l hl=>by
  obtain ⟨i,hi,rfl⟩:=gg hl
  have:=h4 i hi
  rw [lX hi] at this;omega
 have ho:=yq ls ls.length
 have hlen:=F3 ls
 have hkey:∀ k,o9 (lsO ls (nZ ls ls.length)) (nw ls.length) k=xW ((lsO ls (nZ ls ls.length)).getD k []):=fun k=>by unfold o9 xW;rw [Df]
 refine ⟨⟨oa,by rw [hlen];simp [nw],fun l hl=>zq (h1.1 l (sQ.1 hl)),fun k hk=>?_,fun i j hij hj=>?_,?_,List.Pairwise.nil,by simp,by simp,fun x hx=>.inr fun k hk=>?_⟩,hne⟩
 ·rw [Df];exact hne _ (sQ.1 (pI hk))
 ·rw [dA,dA,rW hj,rW oa,hkey,hkey]
  by_cases e:i=j
  ·rw [e];exact lA _
  ·have hs:=tw.1 ho.so i j (by rw [bT,ho.len];omega) (by rw [bT,ho.len];omega) oa
   rw [iS,iS] at hs
   rw [HE (by rw [ho.len];omega),HE (by rw [ho.len];omega)]
   exact hs
 ·rw [dA,rW oa,hkey,hlen]
 ·rw [hkey]
  have hl:=sQ.1 (pI hk)
  obtain ⟨j,hj,e⟩:=Ik (hx _ (pI hk))
  have hp:=hne _ hl
  unfold xW
  rw [bu hp,<- e]
  rcases od j with h0 | h0
  ·subst h0;exact lA _
  ·exact sY (vn (zq (h1.1 _ hl)) h0 hj)
theorem CF:∀ (Ls:bp) (B n:Nat),(∀ l∈Ls,l.length<=B)->su Ls (nw n)<=Ls.length*B
 | [],B,n,_=>by simp [su]
 | l :: Ls,B,0,_=>by simp [su,nw]
 | l :: Ls,B,n+1,h=>by
  have ih:=CF Ls B n fun x hx=>h x (cD _ hx)
  have hl:=h l cx
  unfold su nw at ih ⊢
  rw [Bs,List.zipWith_cons_cons,List.sum_cons,b9,tG]
  omega
theorem vI {ls:bp} {B:Nat} (h:∀ l∈ls,l.length<=B):lE (sM ls).1/\(∀ x∈(sM ls).1,∀ l∈ls,x∈l)/\0<=(sM ls).2/\(sM ls).2<=(ls.length*B+1:Nat)/\(si ls=true->∀ x,(∀ l∈ls,x∈l)->x∈(sM ls).1):=by
 unfold sM
 cases hc:si ls&&!(shT ls ls.length == 0) with
 | false =>
  refine ⟨List.Pairwise.nil,by simp,lA _,by rw [ai];omega,fun ha x hx=>?_⟩
  rw [ha,eG,Bool.not_eq_false',qk] at hc
  exfalso
  -- some list is empty
  have hex:∀ i,i<=ls.length->0<i->shT ls i=0->∃ j,j<i/\(ls.getD j []).length=0:=by
   intro i
   induction i with
   | zero=>intro _ h;omega
   | succ i ih =>
    intro hi _ hz
    rw [Ei] at hz
    unfold shS at hz
    cases i with
    | zero =>
     rw [show (Nat.beq 0 0)=true from rfl,Bool.true_or,ae] at hz
     exact ⟨0,oa,oa⟩
    | succ i =>
     rw [show Nat.beq (i+1) 0=false from rfl,tP] at hz
     by_cases hlt:((ls.getD (i+1) []).length:Int)<shT ls (i+1)
     ·rw [aJ hlt,ae] at hz
      exact ⟨i+1,oa,oa⟩
     ·rw [aN hlt,ai] at hz
      obtain ⟨j,hj,e⟩:=ih oa oa hz
      exact ⟨j,oa,e⟩
  unfold si at ha
  rw [ce,dm] at ha
  obtain ⟨j,hj,e⟩:=hex ls.length (bN _) ha.2 hc
  have hm:=hx _ (pI hj)
  rw [ko.1 e] at hm
  simp at hm
 | true =>
  rw [ae]
  obtain ⟨I,_⟩:=GG hc
  obtain ⟨g1,g2,g3⟩:=yU (su (lsO ls (nZ ls ls.length)) (nw ls.length)+1) _ _ _ _ I oa
  have hr:=CF (lsO ls (nZ ls ls.length)) B ls.length fun l hl=>h l (sQ.1 hl)
  rw [F3] at hr
  refine ⟨g1,fun x hx l hl=>(g2 x).1 hx l (sQ.2 hl),Int.natCast_nonneg _,?_,fun _ x hx=>(g2 x).2 fun l hl=>hx l (sQ.1 hl)⟩
  have g4:(Dc ls).2<=ls.length*B+1:=by
   have:(Dc ls).2<=0+(su (lsO ls (nZ ls ls.length)) (nw ls.length)+1):=g3
   omega
  exact tN.2 g4
def Mr (ns:List nt):Nat->Int->Int
 | 0,_=>0
 | f+1,nd=>if nd=0 then 0 else Mr ns f ((ns.getD nd.toNat ([],[])).2.getD 0 0)+1
def dep (ns:List nt) (nd:Int):Int:=Mr ns ns.length nd
structure NodeOk (ns:List nt) (i:Nat):Prop where
 lens:(ns.getD i ([],[])).1.length=(ns.getD i ([],[])).2.length
 vals:bW (ns.getD i ([],[])).1=true
 asc:lE (ns.getD i ([],[])).1
 ne:(ns.getD i ([],[])).1≠[]
 chs:∀ c∈(ns.getD i ([],[])).2,dep ns c=dep ns ((ns.getD i ([],[])).2.getD 0 0)
 new:∀ j,1<=j->j<i->ns.getD j ([],[])≠ns.getD i ([],[])
abbrev pA:=Int × List aV × yP
def QGd (q:pA):Prop:=(1<=q.1/\q.1<=5)/\(1<=q.2.1.length/\q.2.1.length<=4)/\(∀ a∈q.2.1,a.1.size<=4/\1<=a.2.length/\a.2.length<=5)/\q.2.2.length<=5
def QSm (q:pA):Prop:=(0<=q.1/\q.1<=6)/\q.2.1.length<=5/\(∀ a∈q.2.1,a.1.size<=4/\a.2.length<=5)/\q.2.2.length<=6
theorem QGd.sm {q:pA} (h:QGd q):QSm q:=⟨⟨by have:=h.1;omega,by have:=h.1;omega⟩,by have:=h.2.1;omega,fun a ha=>⟨(h.2.2.1 a ha).1,(h.2.2.1 a ha).2.2⟩,by have:=h.2.2.2;omega⟩
theorem QSm.atoms {q:pA} (h:QSm q):fB q.2.1:=⟨by have:=h.2.1;omega,fun a ha=>⟨by have:=(h.2.2.1 a ha).1;omega,by have:=(h.2.2.1 a ha).2;omega,fun _ _=>trivial⟩⟩
theorem QSm.out {q:pA} (h:QSm q):okI q.2.2:=⟨by have:=h.2.2.2;omega,fun _ _=>trivial⟩
abbrev J9:List aV:=[((⟨#[114]⟩:ByteArray),[0,1]),((⟨#[115]⟩:ByteArray),[1,2]),((⟨#[116]⟩:ByteArray),[2,3]),((⟨#[117]⟩:ByteArray),[3,4])]
def J7 (n:Int) (ats:List aV):Prop:=ats.length<=4/\(∀ a∈ats,1<=a.2.length/\∀ v∈a.2,0<=v/\v<n)/\∀ v:Int,0<=v->v<n->∃ a∈ats,v∈a.2
def QV (q:pA):Prop:=(∀ a∈q.2.1,∀ v∈a.2,v<q.1)/\(q.1<=4\/q.1=5/\q.2.1=J9)
def QB (q:pA):Prop:=J7 q.1 q.2.1->q.1<=5->q.1<=4\/q.1=5/\q.2.1=J9
theorem QV.b {q:pA} (h:QV q):QB q:=fun _ _=>h.2
theorem EC {n:Int} {yK:List aV} {out:yP} (h:fR n yK out=true):∀ a∈yK,∀ v∈a.2,v<n:=by
 unfold fR at h
 simp only [ce,df] at h
 intro a ha v hv
 have:=h.1.2 a ha
 unfold mV at this
 rw [ce,ce,ck,df] at this
 have:=ck.1 (this.2 v hv)
 omega
section
variable {N:Nat}
abbrev HP:List ByteArray:=[(⟨#[40,88,89,90,41,61,114,40,88,89,41,44,115,40,89,90,41,44,116,40,90,88,41]⟩:ByteArray),(⟨#[40,88,89,90,85,41,61,114,40,88,89,41,44,115,40,89,90,41,44,116,40,90,85,41,44,117,40,85,88,41]⟩:ByteArray),(⟨#[40,88,89,90,41,61,114,40,88,89,41,44,115,40,89,90,41]⟩:ByteArray),(⟨#[40,88,41,61,114,40,88,89,41,44,115,40,89,90,41,44,116,40,90,85,41]⟩:ByteArray),(⟨#[40,88,89,90,41,61,118,40,88,89,90,41,44,114,40,88,89,41]⟩:ByteArray),(⟨#[40,88,89,41,61,114,40,88,89,41,44,114,40,89,88,41]⟩:ByteArray),(⟨#[40,88,89,90,85,41,61,118,40,88,89,90,41,44,115,40,90,85,41,44,116,40,85,88,41]⟩:ByteArray),(⟨#[40,88,41,61,114,40,88,88,41]⟩:ByteArray),(⟨#[40,88,89,41,61,114,40,88,90,41,44,115,40,90,89,41,44,114,40,88,85,41,44,115,40,85,89,41]⟩:ByteArray),(⟨#[40,41,61,114,40,88,89,41,44,115,40,89,88,41]⟩:ByteArray),(⟨#[40,88,89,90,85,86,41,61,114,40,88,89,41,44,115,40,89,90,41,44,116,40,90,85,41,44,117,40,85,86,41]⟩:ByteArray)]
theorem LY (M:Nat):dF (M+100) (⟨#[40,88,89,90,41,61,114,40,88,89,41,44,115,40,89,90,41,44,116,40,90,88,41]⟩:ByteArray)=some ((3,[((⟨#[114]⟩:ByteArray),[0,1]),((⟨#[115]⟩:ByteArray),[1,2]),((⟨#[116]⟩:ByteArray),[2,0])],[0,1,2]),true):=by kernel_rfl
theorem K6 (M:Nat):dF (M+100) (⟨#[40,88,89,90,85,41,61,114,40,88,89,41,44,115,40,89,90,41,44,116,40,90,85,41,44,117,40,85,88,41]⟩:ByteArray)=some ((4,[((⟨#[114]⟩:ByteArray),[0,1]),((⟨#[115]⟩:ByteArray),[1,2]),((⟨#[116]⟩:ByteArray),[2,3]),((⟨#[117]⟩:ByteArray),[3,0])],[0,1,2,3]),true):=by kernel_rfl
theorem KA (M:Nat):dF (M+100) (⟨#[40,88,89,90,41,61,114,40,88,89,41,44,115,40,89,90,41]⟩:ByteArray)=some ((3,[((⟨#[114]⟩:ByteArray),[0,1]),((⟨#[115]⟩:ByteArray),[1,2])],[0,1,2]),true):=by kernel_rfl
theorem Km (M:Nat):dF (M+100) (⟨#[40,88,41,61,114,40,88,89,41,44,115,40,89,90,41,44,116,40,90,85,41]⟩:ByteArray)=some ((4,[((⟨#[114]⟩:ByteArray),[0,1]),((⟨#[115]⟩:ByteArray),[1,2]),((⟨#[116]⟩:ByteArray),[2,3])],[0]),true):=by kernel_rfl
theorem Kn (M:Nat):dF (M+100) (⟨#[40,88,89,90,41,61,118,40,88,89,90,41,44,114,40,88,89,41]⟩:ByteArray)=some ((3,[((⟨#[118]⟩:ByteArray),[0,1,2]),((⟨#[114]⟩:ByteArray),[0,1])],[0,1,2]),true):=by kernel_rfl
theorem L6 (M:Nat):dF (M+100) (⟨#[40,88,89,41,61,114,40,88,89,41,44,114,40,89,88,41]⟩:ByteArray)=some ((2,[((⟨#[114]⟩:ByteArray),[0,1]),((⟨#[114]⟩:ByteArray),[1,0])],[0,1]),true):=by kernel_rfl
theorem L3 (M:Nat):dF (M+100) (⟨#[40,88,89,90,85,41,61,118,40,88,89,90,41,44,115,40,90,85,41,44,116,40,85,88,41]⟩:ByteArray)=some ((4,[((⟨#[118]⟩:ByteArray),[0,1,2]),((⟨#[115]⟩:ByteArray),[2,3]),((⟨#[116]⟩:ByteArray),[3,0])],[0,1,2,3]),true):=by kernel_rfl
theorem LJ (M:Nat):dF (M+100) (⟨#[40,88,41,61,114,40,88,88,41]⟩:ByteArray)=some ((1,[((⟨#[114]⟩:ByteArray),[0,0])],[0]),true):=by kernel_rfl
theorem K9 (M:Nat):dF (M+100) (⟨#[40,88,89,41,61,114,40,88,90,41,44,115,40,90,89,41,44,114,40,88,85,41,44,115,40,85,89,41]⟩:ByteArray)=some ((4,[((⟨#[114]⟩:ByteArray),[0,2]),((⟨#[115]⟩:ByteArray),[2,1]),((⟨#[114]⟩:ByteArray),[0,3]),((⟨#[115]⟩:ByteArray),[3,1])],[0,1]),true):=by kernel_rfl
theorem Kw (M:Nat):dF (M+100) (⟨#[40,41,61,114,40,88,89,41,44,115,40,89,88,41]⟩:ByteArray)=some ((2,[((⟨#[114]⟩:ByteArray),[0,1]),((⟨#[115]⟩:ByteArray),[1,0])],[]),true):=by kernel_rfl
theorem JL (M:Nat):dF (M+100) (⟨#[40,88,89,90,85,86,41,61,114,40,88,89,41,44,115,40,89,90,41,44,116,40,90,85,41,44,117,40,85,86,41]⟩:ByteArray)=some ((5,[((⟨#[114]⟩:ByteArray),[0,1]),((⟨#[115]⟩:ByteArray),[1,2]),((⟨#[116]⟩:ByteArray),[2,3]),((⟨#[117]⟩:ByteArray),[3,4])],[0,1,2,3,4]),true):=by kernel_rfl
theorem E5 (hN:1073741824<=N):∀ s∈HP,∃ q,dF N s=some (q,true)/\QGd q/\QV q:=by
 obtain ⟨M,rfl⟩:∃ M,N=M+100:=⟨N-100,oa⟩
 intro s hs
 simp only [bX,pC,rN] at hs
 rcases hs with rfl | rfl | rfl | rfl | rfl | rfl | rfl | rfl | rfl | rfl | rfl
 ·exact ⟨_,LY M,by unfold QGd;decide,⟨by decide,Or.inl (by decide)⟩⟩
 ·exact ⟨_,K6 M,by unfold QGd;decide,⟨by decide,Or.inl (by decide)⟩⟩
 ·exact ⟨_,KA M,by unfold QGd;decide,⟨by decide,Or.inl (by decide)⟩⟩
 ·exact ⟨_,Km M,by unfold QGd;decide,⟨by decide,Or.inl (by decide)⟩⟩
 ·exact ⟨_,Kn M,by unfold QGd;decide,⟨by decide,Or.inl (by decide)⟩⟩
 ·exact ⟨_,L6 M,by unfold QGd;decide,⟨by decide,Or.inl (by decide)⟩⟩
 ·exact ⟨_,L3 M,by unfold QGd;decide,⟨by decide,Or.inl (by decide)⟩⟩
 ·exact ⟨_,LJ M,by unfold QGd;decide,⟨by decide,Or.inl (by decide)⟩⟩
 ·exact ⟨_,K9 M,by unfold QGd;decide,⟨by decide,Or.inl (by decide)⟩⟩
 ·exact ⟨_,Kw M,by unfold QGd;decide,⟨by decide,Or.inl (by decide)⟩⟩
 ·exact ⟨_,JL M,by unfold QGd;decide,⟨by decide,Or.inr ⟨rfl,rfl⟩⟩⟩
theorem uu {a:yP} {l:List ByteArray} (ha:jw a) {p h:Int} (hc:e8 a p) (hl:0<l.length):∃ x q g,mw N a p h l=some (x,q,g)/\x∈l/\e8 a q:=by
 obtain ⟨x,q,g,e,b0,b1,_,hc'⟩:=eH (N:=N) ha (h:=h) (n:=(l.length:Int)) hc
 have b2:=b1 oa
 unfold mw
 rw [e,bs]
 dsimp only
 rw [oq b0 b2,bs]
 exact ⟨_,_,_,rfl,bA _,hc'⟩
theorem uv {a:yP} (ha:jw a) {p h n:Int} (hc:e8 a p):∃ b q g,mv N a p h n=some (b,q,g)/\e8 a q:=by
 obtain ⟨x,q,g,e,_,_,_,hc'⟩:=eH (N:=N) ha (h:=h) (n:=n) hc
 unfold mv
 rw [e,bs]
 exact ⟨_,_,_,rfl,hc'⟩
theorem Hk {a:yP} (ha:jw a) {z1 z7 z9 n:Int} {z2 z5 z8:List aV} {z3 z6 z10:yP} {s:ByteArray}:∀ (d k:Nat) (acc:yP) (p h m:Int),e8 a p->m.toNat=d->m<=10->d<k->acc.length+d<=100 ->
  ∃ q g vs m',kC N k a p h z1 z2 z3 z7 z5 z6 n z8 z10 z9 s acc m=some (q,g,vs,m')/\e8 a q/\vs.length=acc.length+d:=by
 intro d
 induction d with
 | zero =>
  intro k acc p h m hc hd _ hk _
  obtain ⟨k,rfl⟩:∃ g,k=g+1:=⟨k-1,oa⟩
  rw [kC,aN (show ¬ 0<m by omega),ai]
  exact ⟨_,_,_,_,rfl,hc,oa⟩
 | succ d ih =>
  intro k acc p h m hc hd hm hk hl
  obtain ⟨k,rfl⟩:∃ g,k=g+1:=⟨k-1,oa⟩
  obtain ⟨x,q,g,e,_,_,_,hc'⟩:=eH (N:=N) ha (h:=h) (n:=n) hc
  rw [kC,aJ (show 0<m by omega),ae,e,bs]
  dsimp only
  rw [bB (by decide) (by simp;omega),bs,fL oa oa,bs]
  obtain ⟨q',g',vs,m',e',k1,k2⟩:=ih k (acc++[x]) q g (m-1) hc' oa oa oa (by simp;omega)
  exact ⟨q',g',vs,m',e',k1,by simp at k2;omega⟩
theorem Ha (hN:1073741824<=N) {a:yP} (ha:jw a) {z1 z4 n:Int} {z2 z5:List aV} {z3 z6 z7:yP}:∀ (d k:Nat) (acc:List aV) (p h m:Int),e8 a p->m.toNat=d->m<=10->d<k->acc.length+d<=100->(∀ x∈acc,x.1.size<=4/\1<=x.2.length/\x.2.length<=5) ->
  ∃ q g ats m',ku N k a p h z1 z2 z3 z4 z5 z6 n acc z7 m=some (q,g,ats,m')/\e8 a q/\ats.length=acc.length+d/\∀ x∈ats,x.1.size<=4/\1<=x.2.length/\x.2.length<=5:=by
 intro d
 induction d with
 | zero =>
  intro k acc p h m hc hd _ hk _ hx
  obtain ⟨k,rfl⟩:∃ g,k=g+1:=⟨k-1,oa⟩
  rw [ku,aN (show ¬ 0<m by omega),ai]
  exact ⟨_,_,_,_,rfl,hc,oa,hx⟩
 | succ d ih =>
  intro k acc p h m hc hd hm hk hl hx
  obtain ⟨k,rfl⟩:∃ g,k=g+1:=⟨k-1,oa⟩
  obtain ⟨x,q,g,e,b0,b1,_,hc'⟩:=eH (N:=N) ha (h:=h) (n:=5) hc
  have b1:=b1 (by decide)
  rw [ku,aJ (show 0<m by omega),ae,e,bs]
  dsimp only
  have hi:x<(([(⟨#[114]⟩:ByteArray),(⟨#[115]⟩:ByteArray),(⟨#[116]⟩:ByteArray),(⟨#[117]⟩:ByteArray),(⟨#[118]⟩:ByteArray)]:List ByteArray).length:Int):=b1
  rw [oq b0 hi,bs,GV b0 (by decide) oa,bs]
  have ht:0<=x.tdiv 4/\x.tdiv 4<=1:=by
   rw [Int.tdiv_eq_ediv_of_nonneg b0];omega
  rw [bR oa oa,bs]
  have hs:∀ s∈([(⟨#[114]⟩:ByteArray),(⟨#[115]⟩:ByteArray),(⟨#[116]⟩:ByteArray),(⟨#[117]⟩:ByteArray),(⟨#[118]⟩:ByteArray)]:List ByteArray),s.size<=4:=by decide
  have hs':=hs _ (bA (l:=([(⟨#[114]⟩:ByteArray),(⟨#[115]⟩:ByteArray),(⟨#[116]⟩:ByteArray),(⟨#[117]⟩:ByteArray),(⟨#[118]⟩:ByteArray)]:List ByteArray)) (n:=x.toNat) oa)
  obtain ⟨q',g',vs,m',e',k1,k2⟩:=Hk (N:=N) ha (z1:=z1) (z2:=z2) (z3:=z3) (z7:=z4) (z5:=z5) (z6:=z6) (n:=n) (z8:=acc) (z10:=z7) (z9:=m) (s:=([(⟨#[114]⟩:ByteArray),(⟨#[115]⟩:ByteArray),(⟨#[116]⟩:ByteArray),(⟨#[117]⟩:ByteArray),(⟨#[118]⟩:ByteArray)]:List ByteArray)[x.toNat]) (2+x.tdiv 4).toNat N [] q g (2+x.tdiv 4) hc' rfl oa oa (by simp;omega)
  rw [e',bs]
  unfold lpB
  dsimp only
  rw [bB (by decide) (by simp;omega),bs,fL oa oa,bs]
  simp only [gu,dA] at k2
  obtain ⟨q2,g2,ats,m2,e2,j1,j2,j3⟩:=ih k (acc++[(_,vs)]) q' g' (m-1) k1 oa oa oa (by simp;omega) (fun y hy=>by
   rcases cU.1 hy with h | h
   ·exact hx y h
   ·rw [d7] at h;rw [h]
    exact ⟨hs',by show 1<=vs.length;omega,by show vs.length<=5;omega⟩)
  exact ⟨q2,g2,ats,m2,e2,j1,by simp at j2;omega,j3⟩
theorem Hg {a:yP} (ha:jw a) {z1 z4:Int} {n:Nat} {z2 z5 z8:List aV} {z3 z6:yP} (hn:n<=10):∀ (d k:Nat) (acc:yP) (p h:Int) (i:Nat),e8 a p->i+d=n->d<k->acc.length<=i ->
  ∃ q g out v,iJ N k a p h z1 z2 z3 z4 z5 z6 (n:Int) z8 acc (i:Int)=some (q,g,out,v)/\e8 a q/\out.length<=n:=by
 intro d
 induction d with
 | zero =>
  intro k acc p h i hc hd hk hl
  obtain ⟨k,rfl⟩:∃ g,k=g+1:=⟨k-1,oa⟩
  rw [iJ,aN (show ¬ (i:Int)<(n:Int) by omega),ai]
  exact ⟨_,_,_,_,rfl,hc,oa⟩
 | succ d ih =>
  intro k acc p h i hc hd hk hl
  obtain ⟨k,rfl⟩:∃ g,k=g+1:=⟨k-1,oa⟩
  obtain ⟨b,q,g,e,hc'⟩:=uv (N:=N) ha (h:=h) (n:=2) hc
  rw [iJ,aJ (show (i:Int)<(n:Int) by omega),ae,e,bs]
  dsimp only
  cases b with
  | true =>
   rw [ae,bB (by decide) (by simp;omega),bs,ad1 oa,bs]
   exact ih k _ q g (i+1) hc' oa oa (by simp;omega)
  | false =>
   rw [ai,ad1 oa,bs]
   exact ih k _ q g (i+1) hc' oa oa oa
theorem wK (hN:1073741824<=N) {a:yP} (ha:jw a) {p h:Int} (hc:e8 a p):∃ r q g,mR N a p h=some (r,q,g)/\e8 a q/\QGd r/\QV r:=by
 unfold mR
 obtain ⟨s,q,g,e,hs,hc1⟩:=uu (N:=N) ha (h:=h) (l:=HP) hc (by decide)
 obtain ⟨r,er,hr⟩:=E5 hN s hs
 rw [e,bs]
 dsimp only
 rw [er,bs]
 obtain ⟨b,q2,g2,e2,hc2⟩:=uv (N:=N) ha (h:=g) (n:=3) hc1
 rw [e2,bs]
 dsimp only
 cases b with
 | false=>rw [ai];exact ⟨_,_,_,rfl,hc2,hr⟩
 | true =>
  obtain ⟨x,q3,g3,e3,b0,b1,_,hc3⟩:=eH (N:=N) ha (h:=g2) (n:=4) hc2
  have b1:=b1 (by decide)
  rw [ae,e3,bs]
  dsimp only
  obtain ⟨y,q4,g4,e4,c0,c1,_,hc4⟩:=eH (N:=N) ha (h:=g3) (n:=4) hc3
  have c1:=c1 (by decide)
  rw [bR oa oa,bs,e4,bs]
  dsimp only
  rw [bR oa oa,bs]
  obtain ⟨q5,g5,ats,m5,e5,hc5,l5,a5⟩:=Ha hN ha (z1:=0) (z2:=[]) (z3:=[]) (z4:=r.1) (z5:=r.2.1) (z6:=r.2.2) (n:=1+x) (z7:=[]) (1+y).toNat N [] q4 g4 (1+y) hc4 rfl oa oa (by simp;omega) (by simp)
  rw [e5,bs]
  unfold lpB
  dsimp only
  have hx:((x.toNat+1:Nat):Int)=1+x:=by omega
  obtain ⟨q6,g6,out,v6,e6,hc6,l6⟩:=Hg (N:=N) ha (z1:=0) (z2:=[]) (z3:=[]) (z4:=r.1) (z5:=r.2.1) (z6:=r.2.2) (n:=x.toNat+1) (z8:=ats) oa (x.toNat+1) N [] q5 g5 0 hc5 oa oa (by simp)
  rw [hx] at e6
  have e6':iJ N N a q5 g5 0 [] [] r.1 r.2.1 r.2.2 (1+x) ats [] 0=some (q6,g6,out,v6):=e6
  simp only [gu,dA] at l5
  have hq:QGd (1+x,ats,out):=⟨⟨by show 1<=1+x;omega,by show 1+x<=5;omega⟩,⟨by show 1<=ats.length;omega,by show ats.length<=4;omega⟩,a5,by show out.length<=5;omega⟩
  rw [e6',bs]
  dsimp only
  rw [lf hN (QSm.atoms hq.sm) (QSm.out hq.sm),bs]
  cases hqo:fR (1+x) ats out with
  | true=>rw [ae];exact ⟨_,_,_,rfl,hc6,hq,EC hqo,Or.inl (by show 1+x<=4;omega)⟩
  | false=>rw [ai];exact ⟨_,_,_,rfl,hc6,hr⟩
theorem E2 (hN:1073741824<=N) {a:yP} (ha:jw a) {p h:Int} (hc:e8 a p):∃ r q g,qr N a p h=some (r,q,g)/\e8 a q/\QSm r/\QB r:=by
 obtain ⟨⟨n,ats,out⟩,q,g,e,hc1,hr,hv⟩:=wK hN ha (h:=h) hc
 obtain ⟨hv1,hv2⟩:=hv
 dsimp only at hv1 hv2
 obtain ⟨x,q2,g2,e2,_,_,_,hc2⟩:=eH (N:=N) ha (h:=g) (n:=14) hc1
 unfold qr
 rw [e,bs]
 dsimp only
 rw [e2,bs]
 dsimp only
 have hn:=hr.1;have ha1:=hr.2.1;have ha2:=hr.2.2.1;have ho:=hr.2.2.2
 dsimp only at hn ha1 ha2 ho
 have hsm:=hr.sm
 cases h0:(x == 0) with
 | true =>
  rw [ae,bR oa oa,bs]
  obtain ⟨y,q3,g3,e3,hy,hc3⟩:=lp (N:=N) ha (h:=g2) (l:=[0,6,n+1]) hc2 (Nat.zero_lt_succ _)
  rw [e3,bs]
  simp only [bX,pC,rN] at hy
  refine ⟨_,_,_,rfl,hc3,⟨?_,hsm.2⟩,fun hg hy5=>?_⟩
  ·show 0<=y/\y<=6
   omega
  ·dsimp only at hg hy5 ⊢
   by_cases h4:y<=4
   ·exact Or.inl h4
   ·obtain ⟨b,hb1,hb2⟩:=hg.2.2 (y-1) oa oa
    have:=hv1 b hb1 _ hb2
    omega
 | false =>
 rw [ai]
 cases h1:(x == 1) with
 | true =>
  rw [ae]
  obtain ⟨y,q3,g3,e3,hy,hc3⟩:=uu (N:=N) ha (h:=g2) (l:=[ByteArray.empty,(⟨#[119]⟩:ByteArray),(⟨#[114]⟩:ByteArray)]) hc2 (by decide)
  have hys:∀ s∈[ByteArray.empty,(⟨#[119]⟩:ByteArray),(⟨#[114]⟩:ByteArray)],s.size<=4:=by decide
  rw [e3,bs,bB (by decide) (by simp;omega),bs]
  refine ⟨_,_,_,rfl,hc3,⟨hsm.1,by show (ats++[_]).length<=5;simp;omega,fun b hb=>?_,hsm.2.2.2⟩,fun hg hy5=>by
   dsimp only at hg hy5 ⊢
   rcases hv2 with h4 | ⟨h5,h6⟩
   ·exact Or.inl h4
   ·have:=hg.1
    rw [h6] at this
    simp at this⟩
  rcases cU.1 hb with h | h
  ·exact hsm.2.2.1 b h
  ·rw [d7] at h;rw [h];exact ⟨hys y hy,by show ([0]:yP).length<=5;decide⟩
 | false =>
 rw [ai]
 cases h2:(x == 2) with
 | true =>
  rw [ae]
  obtain ⟨y,q3,g3,e3,b0,b1,_,hc3⟩:=eH (N:=N) ha (h:=g2) (n:=6) hc2
  have b1:=b1 (by decide)
  rw [e3,bs]
  dsimp only
  rw [fL oa oa,bs,bB (by decide) (by simp;omega),bs]
  exact ⟨_,_,_,rfl,hc3,⟨hsm.1,hsm.2.1,hsm.2.2.1,by show (out++[_]).length<=6;simp;omega⟩,fun _ _=>hv2⟩
 | false =>
 rw [ai]
 have hl:0<ats.length:=by omega
 have i0:ix ats 0=some ats[0]:=bh hl
 have hm0:=ha2 _ (bA hl)
 cases h3:(x == 3) with
 | true =>
  have s0:sto ats 0 (ats[0].1,[])=some (ats.set 0 (ats[0].1,[])):=mY hl
  rw [ae,i0,bs,s0,bs]
  refine ⟨_,_,_,rfl,hc2,⟨hsm.1,by show (ats.set 0 _).length<=5;rw [gd];omega,fun b hb=>?_,hsm.2.2.2⟩,fun hg _=>by
   have:=(hg.2.1 _ (List.mem_set hl (ats[0].1,([]:yP)))).1
   exact absurd (show 1<=([]:yP).length from this) (by decide)⟩
  rcases rZ hb with h | h
  ·exact hsm.2.2.1 b h
  ·rw [h];exact ⟨hm0.1,cV _⟩
 | false =>
 rw [ai]
 cases h4:(x == 4) with
 | true =>
  obtain ⟨y,q3,g3,e3,hy,hc3⟩:=lp (N:=N) ha (h:=g2) (l:=[(-1),5]) hc2 (by decide)
  have hl1:0<ats[0].2.length:=by omega
  have i1:ix ats[0].2 0=some ats[0].2[0]:=bh hl1
  have s1:sto ats[0].2 0 y=some (ats[0].2.set 0 y):=mY hl1
  have s0:sto ats 0 (ats[0].1,ats[0].2.set 0 y)=some (ats.set 0 (ats[0].1,ats[0].2.set 0 y)):=mY hl
  rw [ae,i0,bs,e3,bs,i1,bs,s1,bs,s0,bs]
  refine ⟨_,_,_,rfl,hc3,⟨hsm.1,by show (ats.set 0 _).length<=5;rw [gd];omega,fun b hb=>?_,hsm.2.2.2⟩,fun hg hy5=>by
   dsimp only at hg hy5 ⊢
   have:=(hg.2.1 _ (List.mem_set hl (ats[0].1,ats[0].2.set 0 y))).2 y (List.mem_set hl1 y)
   simp only [bX,pC,rN] at hy
   omega⟩
  rcases rZ hb with h | h
  ·exact hsm.2.2.1 b h
  ·rw [h];exact ⟨hm0.1,by show (ats[0].2.set 0 y).length<=5;rw [gd];exact hm0.2.2⟩
 | false =>
 rw [ai]
 exact ⟨_,_,_,rfl,hc2,hsm,fun _ _=>hv2⟩
end
def TSm (t:bE):Prop:=t.1.size<=5/\t.2.2.length<=10/\∀ r∈t.2.2,r.length<=6
def DSm (ts:List bE):Prop:=ts.length<=6/\∀ t∈ts,TSm t
def TSv (t:bE):Prop:=t.2.2.length<=7\/∀ r∈t.2.2,∀ v∈r,0<=v/\v<6
def TSb (t:bE):Prop:=TSm t/\TSv t
def DSv (ts:List bE):Prop:=∀ t∈ts,TSv t
theorem DSm.ok {ts:List bE} (h:DSm ts):q9 ts:=⟨by have:=h.1;omega,fun t ht=>by
 obtain ⟨h1,h2,h3⟩:=h.2 t ht
 exact ⟨oa,oa,fun r hr=>⟨by have:=h3 r hr;omega,fun _ _=>trivial⟩⟩⟩
section
variable {N:Nat}
abbrev qE:List ByteArray:=[(⟨#[114]⟩:ByteArray),(⟨#[115]⟩:ByteArray),(⟨#[116]⟩:ByteArray),(⟨#[117]⟩:ByteArray),(⟨#[118]⟩:ByteArray)]
theorem HB {n m y:Int} {rows:bp} {s:ByteArray} (hm:m<=6) (hs:s.size<=5) (hn:n<=5) (hy:y<=10) (hl:(rows.length:Int)<=y) (hr:∀ r∈rows,(r.length:Int)=n/\∀ v∈r,0<=v/\v<m):TSb (s,(n,rows)) :=
 ⟨⟨hs,by show rows.length<=10;omega,fun r h=>by have:=(hr r h).1;omega⟩,Or.inr fun r h v hv=>by have:=(hr r h).2 v hv;omega⟩
theorem NB (hM:1073742848<=N) {a:yP} (ha:jw a) {z:List bE} {m:Int} (hm:0<m/\m<=6):∀ (d k:Nat) (acc:List bE) (p h:Int) (i:Nat),e8 a p->i+d=5->d<k->acc.length=i->(∀ t∈acc,TSb t) ->
  ∃ q g ts v,kd N k a p h z m acc qE (qE.length:Int) (i:Int)=some (q,g,ts,v)/\e8 a q/\ts.length=5/\∀ t∈ts,TSb t:=by
 intro d
 induction d with
 | zero =>
  intro k acc p h i hc hd hk hl ht
  obtain ⟨k,rfl⟩:∃ g,k=g+1:=⟨k-1,oa⟩
  rw [kd,aN (show ¬ (i:Int)<(qE.length:Int) by show ¬ (i:Int)<5;omega),ai]
  exact ⟨_,_,_,_,rfl,hc,oa,ht⟩
 | succ d ih =>
  intro k acc p h i hc hd hk hl ht
  obtain ⟨k,rfl⟩:∃ g,k=g+1:=⟨k-1,oa⟩
  have hi:i<qE.length:=by show i<5;omega
  have hs:∀ s∈qE,s.size<=5:=by decide
  have hs':=hs _ (bA hi)
  rw [kd,aJ (show (i:Int)<(qE.length:Int) by omega),ae,bh hi,bs]
  obtain ⟨y,q,g,e,hy,hc1⟩:=lp (N:=N) ha (h:=h) (l:=[3,6,9]) hc (by decide)
  have hyb:0<=y/\y<=10:=by
   simp only [bX,pC,rN] at hy
   omega
  cases eqS qE[i] (⟨#[118]⟩:ByteArray) with
  | true =>
   obtain ⟨rows,q2,g2,e2,hc2,r1,r2⟩:=wm hM ha (h:=g) (n:=3) (m:=m) (y:=y) hc1 ⟨hm.1,oa⟩ (by decide) oa
   rw [ae,e,bs]
   dsimp only
   rw [e2,bs]
   dsimp only
   rw [bB (by decide) (by simp;omega),bs,ad1 oa,bs]
   refine ih k _ q2 g2 (i+1) hc2 oa oa (by simp;omega) fun t h=>?_
   rcases cU.1 h with h | h
   ·exact ht t h
   ·rw [d7] at h;rw [h];exact HB hm.2 hs' (by decide) hyb.2 r1 r2
  | false =>
   obtain ⟨rows,q2,g2,e2,hc2,r1,r2⟩:=wm hM ha (h:=g) (n:=2) (m:=m) (y:=y) hc1 ⟨hm.1,oa⟩ (by decide) oa
   rw [ai,e,bs]
   dsimp only
   rw [e2,bs]
   dsimp only
   rw [bB (by decide) (by simp;omega),bs,ad1 oa,bs]
   refine ih k _ q2 g2 (i+1) hc2 oa oa (by simp;omega) fun t h=>?_
   rcases cU.1 h with h | h
   ·exact ht t h
   ·rw [d7] at h;rw [h];exact HB hm.2 hs' (by decide) hyb.2 r1 r2
theorem BU {ts:List bE} {i:Nat} {t:bE} (h:∀ t∈ts,TSb t) (ht:TSb t):∀ u∈ts.set i t,TSb u:=fun u hu=>by
 rcases rZ hu with h' | h'
 ·exact h u h'
 ·rw [h'];exact ht
theorem sX {α:Type} {xs:List α} {i:Int} {y:α} (h0:0<=i) (h:i<xs.length):sto xs i y=some (xs.set i.toNat y):=by
 obtain ⟨k,rfl⟩:=kf h0
 exact mY oa
theorem B9 (hM:1073742848<=N) {a:yP} (ha:jw a) {p h:Int} (hc:e8 a p):∃ ts q g,pZ N a p h=some (ts,q,g)/\e8 a q/\ts.length=5/\∀ t∈ts,TSb t:=by
 unfold pZ
 obtain ⟨m,q,g,e,hm,hc1⟩:=lp (N:=N) ha (h:=h) (l:=[2,3,4,6]) hc (by decide)
 have hmb:0<m/\m<=6:=by
  simp only [bX,pC,rN] at hm
  omega
 rw [e,bs]
 dsimp only
 obtain ⟨q2,g2,ts,v,e2,hc2,hl,ht⟩:=NB hM ha (z:=[]) hmb 5 N [] q g 0 hc1 rfl oa rfl (by simp)
 have e2':kd N N a q g [] m [] qE (qE.length:Int) 0=some (q2,g2,ts,v):=e2
 rw [e2',bs]
 unfold lpB
 dsimp only
 obtain ⟨b,q3,g3,e3,hc3⟩:=uv (N:=N) ha (h:=g2) (n:=8) hc2
 rw [e3,bs]
 dsimp only
 cases b with
 | false=>rw [ai];exact ⟨_,_,_,rfl,hc3,hl,ht⟩
 | true =>
  obtain ⟨x,q4,g4,e4,b0,b1,_,hc4⟩:=eH (N:=N) ha (h:=g3) (n:=5) hc3
  have b1:=b1 (by decide)
  have hx:x<(ts.length:Int):=by omega
  have hm:=ht _ (bA (show x.toNat<ts.length by omega))
  rw [ae,e4,bs]
  dsimp only
  rw [oq b0 hx,bs,sX b0 hx,bs]
  exact ⟨_,_,_,rfl,hc4,by rw [gd];exact hl,BU ht ⟨⟨hm.1.1,cV _,fun r hr=>by cases hr⟩,Or.inl (cV _)⟩⟩
theorem Dd.t {r:Int × bp} {s:ByteArray} (hs:s.size<=5) (k:Dd r):TSb (s,r):=⟨⟨hs,by show r.2.length<=10;have:=k.2.1;omega,fun w hw=>(k.2.2 w hw).1⟩,Or.inl k.2.1⟩
theorem DSb {ts:List bE} (h:ts.length<=6/\∀ t∈ts,TSb t):DSm ts/\DSv ts:=⟨⟨h.1,fun t ht=>(h.2 t ht).1⟩,fun t ht=>(h.2 t ht).2⟩
theorem EQ (hM:1073742848<=N) {a:yP} (ha:jw a) {p h:Int} (hc:e8 a p):∃ ts q g,qv N a p h=some (ts,q,g)/\e8 a q/\ts.length<=6/\∀ t∈ts,TSb t:=by
 have hN:1073741824<=N:=by omega
 obtain ⟨ts,q,g,e,hc1,hl,ht⟩:=B9 hM ha (h:=h) hc
 obtain ⟨x,q2,g2,e2,b0,b1,_,hc2⟩:=eH (N:=N) ha (h:=g) (n:=5) hc1
 have b1:=b1 (by decide)
 obtain ⟨y,q3,g3,e3,_,_,_,hc3⟩:=eH (N:=N) ha (h:=g2) (n:=14) hc2
 have hx:x<(ts.length:Int):=by omega
 have hm:=ht _ (bA (show x.toNat<ts.length by omega))
 unfold qv
 rw [e,bs]
 dsimp only
 rw [e2,bs]
 dsimp only
 rw [e3,bs]
 dsimp only
 cases h0:(y == 0) with
 | true =>
  obtain ⟨s,q4,g4,e4,hs,hc4⟩:=uu (N:=N) ha (h:=g3) (l:=[ByteArray.empty,(⟨#[82]⟩:ByteArray),(⟨#[97,98,99,100,101]⟩:ByteArray),(⟨#[97]⟩:ByteArray),(⟨#[122]⟩:ByteArray)]) hc3 (by decide)
  have hss:∀ s∈[ByteArray.empty,(⟨#[82]⟩:ByteArray),(⟨#[97,98,99,100,101]⟩:ByteArray),(⟨#[97]⟩:ByteArray),(⟨#[122]⟩:ByteArray)],s.size<=5:=by decide
  rw [ae,e4,bs,oq b0 hx,bs,sX b0 hx,bs]
  exact ⟨_,_,_,rfl,hc4,by rw [gd];omega,BU ht ⟨⟨hss s hs,hm.1.2⟩,hm.2⟩⟩
 | false =>
 rw [ai]
 cases h1:(y == 1) with
 | true =>
  obtain ⟨r,q4,g4,e4,hc4,hr⟩:=G9 hM ha (h:=g3) hc3
  rw [ae,e4,bs,oq b0 hx,bs,sX b0 hx,bs]
  exact ⟨_,_,_,rfl,hc4,by rw [gd];omega,BU ht (hr.t hm.1.1)⟩
 | false =>
 rw [ai]
 cases h2:(y == 2) with
 | true =>
  rw [ae,oq b0 hx,bs,bB (by decide) (by simp;omega),bs]
  refine ⟨_,_,_,rfl,hc3,by simp;omega,fun t h=>?_⟩
  rcases cU.1 h with h | h
  ·exact ht t h
  ·rw [d7] at h;rw [h];exact hm
 | false =>
 rw [ai]
 cases h3:(y == 3) with
 | true =>
  have es:slc ts 0 x=some ((ts.take x.toNat).drop 0):=by
   have:=ow (xs:=ts) (lo:=0) (hi:=x.toNat) oa oa
   rwa [show ((x.toNat:Nat):Int)=x by omega] at this
  rw [ae,es,bs]
  refine ⟨_,_,_,rfl,hc3,by rw [gE,c5];omega,fun t h=>ht t (rJ (by simpa using h))⟩
 | false =>
 rw [ai]
 exact ⟨_,_,_,rfl,hc3,oa,ht⟩
theorem Dt (hM:1073742848<=N) {a:yP} (ha:jw a) {p h:Int} (hc:e8 a p):∃ ts r q g,pc N a p h=some (ts,r,q,g)/\e8 a q/\(DSm ts/\DSv ts)/\QSm r/\QB r:=by
 have hN:1073741824<=N:=by omega
 obtain ⟨ts,q,g,e,hc1,hl,ht⟩:=B9 hM ha (h:=h) hc
 obtain ⟨r,q2,g2,e2,hc2,hr,hv⟩:=wK hN ha (h:=g) hc1
 obtain ⟨y,q3,g3,e3,_,_,_,hc3⟩:=eH (N:=N) ha (h:=g2) (n:=24) hc2
 unfold pc
 rw [e,bs]
 dsimp only
 rw [e2,bs]
 dsimp only
 rw [e3,bs]
 dsimp only
 cases h0:(y == 0) with
 | true =>
  obtain ⟨ts2,q4,g4,e4,hc4,ht4⟩:=EQ hM ha (h:=g3) hc3
  rw [ae,e4,bs]
  exact ⟨_,_,_,_,rfl,hc4,DSb ht4,hr.sm,hv.b⟩
 | false =>
 rw [ai]
 cases h1:(y == 1) with
 | true =>
  obtain ⟨r2,q4,g4,e4,hc4,hr4⟩:=E2 hN ha (h:=g3) hc3
  rw [ae,e4,bs]
  exact ⟨_,_,_,_,rfl,hc4,DSb ⟨oa,ht⟩,hr4⟩
 | false =>
 rw [ai]
 exact ⟨_,_,_,_,rfl,hc3,DSb ⟨oa,ht⟩,hr.sm,hv.b⟩
def JSm (ts:List bE) (r:pA) (o:yP):Prop:=DSm ts/\QSm r/\o.length<=5
theorem JSm.o {ts:List bE} {r:pA} {o:yP} (h:JSm ts r o):okI o:=⟨by have:=h.2.2;omega,fun _ _=>trivial⟩
theorem Og {a:yP}:e8 a 0:=⟨lA _,oa⟩
end
section
variable {N:Nat}
def VR (N:Nat) (r:dK):Prop:=aR N r.1 r.2=some true
def rv (r:dK):Rat:=(r.1:Rat) / (r.2:Rat)
theorem J0:∀ (m k:Nat) (x y:Int),0<=x->0<=y->y<2 ^ m->2*m<k->∃ g z,eQ N k x y=some (g,z)/\g ∣ x/\g ∣ y/\(0<x\/0<y->0<g)/\∀ c,c ∣ x->c ∣ y->c ∣ g:=by
 have one:∀ (k:Nat) (x:Int),0<=x->∃ g z,eQ N (k+1) x 0=some (g,z)/\g ∣ x/\g ∣ 0/\(0<x\/(0:Int)<0->0<g)/\∀ c,c ∣ x->c ∣ (0:Int)->c ∣ g:=by
  intro k x hx
  rw [eQ,show ((0:Int) != 0)=false from rfl,ai]
  exact ⟨x,0,rfl,Int.dvd_refl x,Int.dvd_zero x,fun h=>by omega,fun c h _=>h⟩
 intro m
 induction m with
 | zero =>
  intro k x y hx hy hm hk
  obtain ⟨k,rfl⟩:∃ k',k=k'+1:=⟨k-1,oa⟩
  obtain rfl:y=0:=by omega
  exact one k x hx
 | succ m ih =>
  intro k x y hx hy hm hk
  obtain ⟨k,rfl⟩:∃ k',k=k'+2:=⟨k-2,oa⟩
  by_cases h0:y=0
  ·subst h0
   exact one (k+1) x hx
  ·have hyp:0<y:=by omega
   have e1:=Int.emod_add_mul_ediv x y
   have t1:=Int.emod_nonneg x h0
   have t2:=Int.emod_lt_of_pos x hyp
   have back:∀ {g:Int},g ∣ y->g ∣ x % y->g ∣ x:=by
    intro g h1 h2
    rw [<- e1]
    exact Int.dvd_add h2 (Bp h1)
   have fwd:∀ {c:Int},c ∣ x->c ∣ y->c ∣ x % y:=by
    intro c h1 h2
    rw [Int.emod_def]
    exact Int.dvd_sub h1 (Bp h2)
   rw [eQ,show (y != 0)=true by simpa using h0,ae,yj h0,bs,Int.tmod_eq_emod_of_nonneg hx]
   by_cases h1:x % y=0
   ·rw [h1]
    obtain ⟨g,z,e,g1,g2,g3,g4⟩:=one k y hy
    refine ⟨g,z,e,back g1 (by rw [h1];exact g2),g1,fun _=>g3 (.inl hyp),fun c c1 c2=>g4 c c2 (Int.dvd_zero c)⟩
   ·have hr:0<x % y:=by omega
    generalize x % y=r at t1 t2 back fwd h1 hr
    have s1:=Int.emod_nonneg y h1
    have s2:=Int.emod_lt_of_pos y hr
    have e2:=Int.emod_add_mul_ediv y r
    have hq:1<=y / r:=Int.le_ediv_of_mul_le hr oa
    have hq2:r*1<=r*(y / r):=AC hq oa
    rw [eQ,show (r != 0)=true by simpa using h1,ae,yj h1,bs,Int.tmod_eq_emod_of_nonneg hy]
    have hpw:(2:Int) ^ (m+1)=2 ^ m*2:=rL 2 m
    obtain ⟨g,z,e,g1,g2,g3,g4⟩:=ih k r (y % r) t1 s1 oa oa
    have gy:g ∣ y:=by
     rw [<- e2]
     exact Int.dvd_add g2 (Bp g1)
    refine ⟨g,z,e,back gy g1,gy,fun _=>g3 (.inl hr),fun c c1 c2=>g4 c (fwd c1 c2) ?_⟩
    rw [Int.emod_def]
    exact Int.dvd_sub c2 (Bp (fwd c1 c2))
theorem uO (hN:1073741824<=N) {x y:Int} (hx:0<=x) (hy:0<=y) (h1:y<=4000000000000000000):∃ g,gO N x y=some g/\g ∣ x/\g ∣ y/\(0<x\/0<y->0<g)/\∀ c,c ∣ x->c ∣ y->c ∣ g:=by
 have hp:(2:Int) ^ 63=9223372036854775808:=by decide
 obtain ⟨g,z,e,h⟩:=J0 (N:=N) 63 N x y hx hy oa oa
 refine ⟨g,?_,h⟩
 unfold gO;rw [e,bs,lpB]
theorem yd (n:Int):0<=imx n (0-n)/\(imx n (0-n)=n\/imx n (0-n)=-n)/\∀ c:Int,c ∣ imx n (0-n)↔c ∣ n:=by
 unfold imx
 split
 ·refine ⟨oa,.inr oa,fun c=>?_⟩
  rw [Int.zero_sub]
  exact Int.dvd_neg
 ·refine ⟨oa,.inl rfl,fun c=>Iff.rfl⟩
theorem D8 (hN:1073741824<=N) (n d:Int):∃ b,aR N n d=some b/\(b=true↔1<=d/\d<=1000000000/\-1000000000<=n/\n<=1000000000/\Int.gcd n d=1):=by
 unfold aR
 rw [fQ,bs]
 cases h1:inR d 1 1000000000 with
 | false =>
  rw [ai]
  refine ⟨false,rfl,fun h=>(by cases h),fun h=>?_⟩
  rw [ck.2 ⟨h.1,h.2.1⟩] at h1;cases h1
 | true =>
  rw [ae,fQ,bs]
  cases h2:inR n (-1000000000) 1000000000 with
  | false =>
   rw [ai]
   refine ⟨false,rfl,fun h=>(by cases h),fun h=>?_⟩
   rw [ck.2 ⟨h.2.2.1,h.2.2.2.1⟩] at h2;cases h2
  | true =>
   have h1':=ck.1 h1
   have h2':=ck.1 h2
   obtain ⟨a1,a2,a3⟩:=yd n
   obtain ⟨g,e,g1,g2,g3,g4⟩:=uO (N:=N) hN a1 (by omega:0<=d) oa
   rw [ae,fL oa oa,bs,e,bs]
   refine ⟨_,rfl,?_⟩
   have hg:=g3 (.inr oa)
   rw [qk]
   constructor
   ·rintro rfl
    refine ⟨h1'.1,h1'.2,h2'.1,h2'.2,?_⟩
    have h5:=g4 (Int.gcd n d:Int) ((a3 _).2 (Int.gcd_dvd_left ..)) (Int.gcd_dvd_right ..)
    have h6:=rO (by decide) h5
    have h7:0<Int.gcd n d:=Int.gcd_pos_of_ne_zero_right n oa
    omega
   ·intro h
    have h5:(g.toNat:Int) ∣ (Int.gcd n d:Int):=by
     rw [u9 oa]
     exact Int.dvd_coe_gcd ((a3 _).1 g1) g2
    rw [h.2.2.2.2,u9 oa] at h5
    have:=rO (by decide) h5
    omega
theorem gT (hN:1073741824<=N) {r:dK}:VR N r↔1<=r.2/\r.2<=1000000000/\-1000000000<=r.1/\r.1<=1000000000/\Int.gcd r.1 r.2=1:=by
 obtain ⟨b,e,h⟩:=D8 hN r.1 r.2
 unfold VR
 rw [e,<- h]
 exact ⟨fun h=>bL h,fun h=>by rw [h]⟩
theorem mi (hN:1073741824<=N) (r:dK):VR N r\/aR N r.1 r.2=some false:=by
 obtain ⟨b,e,_⟩:=D8 hN r.1 r.2
 cases b with
 | true=>exact .inl e
 | false=>exact .inr e
theorem AK {n g:Int} (hg:0<g) (h:g ∣ n) (h1:-4000000000000000000<=n) (h2:n<=4000000000000000000):∃ q,qt n g=some q/\q*g=n:=by
 have hb:(n.tdiv g).natAbs<=n.natAbs:=by
  rw [Int.natAbs_tdiv];exact Nat.div_le_self _ _
 refine ⟨n.tdiv g,?_,Int.tdiv_mul_cancel h⟩
 unfold qt
 rw [aK ⟨oa,qJ oa oa⟩]
theorem LO {a b g:Int} (hg:g≠0) (hb:b≠0):((a:Int):Rat) / (b:Rat)=((a*g:Int):Rat) / ((b*g:Int):Rat):=by
 have h1:(g:Rat)≠0:=fun h=>hg (vv.1 h)
 have h2:(b:Rat)≠0:=fun h=>hb (vv.1 h)
 rw [kq,kq]
 grind
theorem Jk {a b:Int}:((-a:Int):Rat) / ((-b:Int):Rat)=(a:Rat) / (b:Rat):=by
 rw [wX,wX]
 by_cases h:(b:Rat)=0
 ·rw [h];grind
 ·grind
theorem Jd (hN:1073741824<=N) {n d:Int} (h1:-4000000000000000000<=n) (h2:n<=4000000000000000000) (h3:-4000000000000000000<=d) (h4:d<=4000000000000000000):∃ r b,cL N n d=some (r,b)/\(b=true->VR N r/\d≠0/\rv r=(n:Rat) / (d:Rat)):=by
 have core:∀ n d:Int,-4000000000000000000<=n->n<=4000000000000000000->0<d->d<=4000000000000000000->∃ r b,((sb 0 n).bind fun x154=>(gO N (imx n x154) d).bind fun r155=>(qt n r155).bind fun x161=>(qt d r155).bind fun x162=>(aR N x161 x162).bind fun r170=>(bif r170 then some ((x161,x162),true) else some ((0,0),false)))=some (r,b)/\(b=true->VR N r/\rv r=(n:Rat) / (d:Rat)):=by
  intro n d h1 h2 h3 h4
  obtain ⟨a1,a2,a3⟩:=yd n
  obtain ⟨g,e,g1,g2,g3,g4⟩:=uO (N:=N) hN a1 (by omega:0<=d) h4
  have hg:=g3 (.inr h3)
  obtain ⟨p,ep,hp⟩:=AK hg ((a3 _).1 g1) h1 h2
  obtain ⟨q,eq,hq⟩:=AK hg g2 oa h4
  rw [fL oa oa,bs,e,bs,ep,bs,eq,bs]
  obtain ⟨b,eb,hb⟩:=D8 hN p q
  rw [eb,bs]
  cases b with
  | false=>exact ⟨_,_,rfl,fun h=>by cases h⟩
  | true =>
   refine ⟨_,_,rfl,fun _=>⟨eb,?_⟩⟩
   have hq0:q≠0:=by have:=(hb.1 rfl).1;omega
   show ((p:Int):Rat) / (q:Rat)=_
   rw [LO (g:=g) oa hq0,hp,hq]
 unfold cL
 by_cases h0:d=0
 ·rw [show (d == 0)=true by simpa using h0,ae]
  exact ⟨_,_,rfl,fun h=>by cases h⟩
 ·rw [show (d == 0)=false by simpa using h0,ai,fL oa oa,bs,fQ,bs,show inR n (0-4000000000000000000) 4000000000000000000=true from ck.2 oa,ae,bs,fQ,bs,show inR d (0-4000000000000000000) 4000000000000000000=true from ck.2 oa,ae]
  by_cases hd:d<0
  ·rw [aJ hd,ae,fL oa oa,bs,fL oa oa,bs]
   obtain ⟨r,b,e,h⟩:=core (0-n) (0-d) oa oa oa oa
   refine ⟨r,b,e,fun hb=>?_⟩
   obtain ⟨k1,k2⟩:=h hb
   refine ⟨k1,h0,?_⟩
   rw [k2,Int.zero_sub,Int.zero_sub]
   exact Jk
  ·rw [aN hd,ai]
   obtain ⟨r,b,e,h⟩:=core n d h1 h2 oa h4
   exact ⟨r,b,e,fun hb=>⟨(h hb).1,h0,(h hb).2⟩⟩
theorem oe {N:Nat} (hN:1073741824<=N) {r:dK} (h:VR N r):(r.2:Rat)≠0:=fun e=>by
 have h1:=vv.1 e
 have:=(gT hN).1 h
 omega
theorem mO {a b:Int} (h1:-1000000000<=a) (h2:a<=1000000000) (h3:-1000000000<=b) (h4:b<=1000000000):-1000000000000000000<=a*b/\a*b<=1000000000000000000:=by
 have h5:(a*b).natAbs<=1000000000*1000000000:=by
  rw [Int.natAbs_mul];exact lI oa oa
 omega
theorem I5 (hN:1073741824<=N) (a b:dK):∃ r ok,cO N a.1 a.2 b.1 b.2=some (r,ok)/\(ok=true->VR N a/\VR N b/\VR N r/\rv r=rv a*rv b):=by
 unfold cO
 rcases mi hN a with ha | ha
 ·rcases mi hN b with hb | hb
  ·obtain ⟨a1,a2,a3,a4,_⟩:=(gT hN).1 ha
   obtain ⟨b1,b2,b3,b4,_⟩:=(gT hN).1 hb
   have m1:=mO a3 a4 b3 b4
   have m2:=mO (a:=a.2) (b:=b.2) oa a2 oa b2
   obtain ⟨r,k,e,h⟩:=Jd (N:=N) hN (n:=a.1*b.1) (d:=a.2*b.2) oa oa oa oa
   unfold VR at ha hb
   rw [ha,bs,ae,hb,bs,ae,fv oa oa,bs,fv oa oa,bs,e,bs]
   refine ⟨_,_,rfl,fun hk=>⟨ha,hb,(h hk).1,?_⟩⟩
   have h1:=oe hN (r:=a) ha
   have h2:=oe hN (r:=b) hb
   refine (h hk).2.2.trans ?_
   unfold rv
   rw [kq,kq]
   grind
  ·unfold VR at ha
   rw [ha,bs,ae,hb,bs,ai]
   exact ⟨_,_,rfl,fun h=>by cases h⟩
 ·rw [ha,bs,ai]
  exact ⟨_,_,rfl,fun h=>by cases h⟩
theorem MU (hN:1073741824<=N) (a b:dK):∃ r ok,gK N a.1 a.2 b.1 b.2=some (r,ok)/\(ok=true->VR N a/\VR N b/\VR N r/\b.1≠0/\rv r*rv b=rv a):=by
 unfold gK
 rcases mi hN a with ha | ha
 ·rcases mi hN b with hb | hb
  ·obtain ⟨a1,a2,a3,a4,_⟩:=(gT hN).1 ha
   obtain ⟨b1,b2,b3,b4,_⟩:=(gT hN).1 hb
   have m1:=mO a3 a4 (b:=b.2) oa b2
   have m2:=mO (a:=a.2) (b:=b.1) oa a2 b3 b4
   obtain ⟨r,k,e,h⟩:=Jd (N:=N) hN (n:=a.1*b.2) (d:=a.2*b.1) oa oa oa oa
   unfold VR at ha hb
   rw [ha,bs,ae,hb,bs,ae,fv oa oa,bs,fv oa oa,bs,e,bs]
   refine ⟨_,_,rfl,fun hk=>?_⟩
   have hb0:b.1≠0:=fun e0=>(h hk).2.1 (by rw [e0,tO])
   refine ⟨ha,hb,(h hk).1,hb0,?_⟩
   have h1:=oe hN (r:=a) ha
   have h2:=oe hN (r:=b) hb
   have h3:(b.1:Rat)≠0:=fun e=>hb0 (vv.1 e)
   have h4:=(h hk).2.2
   show rv r*rv b=rv a
   rw [h4]
   unfold rv
   rw [kq,kq]
   grind
  ·unfold VR at ha
   rw [ha,bs,ae,hb,bs,ai]
   exact ⟨_,_,rfl,fun h=>by cases h⟩
 ·rw [ha,bs,ai]
  exact ⟨_,_,rfl,fun h=>by cases h⟩
theorem Ju (hN:1073741824<=N) (a b:dK):∃ r ok,cM N a.1 a.2 b.1 b.2=some (r,ok)/\(ok=true->VR N a/\VR N b/\VR N r/\rv r=rv a+rv b):=by
 unfold cM
 rcases mi hN a with ha | ha
 ·rcases mi hN b with hb | hb
  ·obtain ⟨a1,a2,a3,a4,_⟩:=(gT hN).1 ha
   obtain ⟨b1,b2,b3,b4,_⟩:=(gT hN).1 hb
   have m1:=mO a3 a4 (b:=b.2) oa b2
   have m2:=mO b3 b4 (b:=a.2) oa a2
   have m3:=mO (a:=a.2) (b:=b.2) oa a2 oa b2
   obtain ⟨r,k,e,h⟩:=Jd (N:=N) hN (n:=a.1*b.2+b.1*a.2) (d:=a.2*b.2) oa oa oa oa
   unfold VR at ha hb
   rw [ha,bs,ae,hb,bs,ae,fv oa oa,bs,fv oa oa,bs,bR oa oa,bs,fv oa oa,bs,e,bs]
   refine ⟨_,_,rfl,fun hk=>⟨ha,hb,(h hk).1,?_⟩⟩
   have h1:=oe hN (r:=a) ha
   have h2:=oe hN (r:=b) hb
   refine (h hk).2.2.trans ?_
   unfold rv
   rw [Rat.intCast_add,kq,kq,kq]
   grind
  ·unfold VR at ha
   rw [ha,bs,ae,hb,bs,ai]
   exact ⟨_,_,rfl,fun h=>by cases h⟩
 ·rw [ha,bs,ai]
  exact ⟨_,_,rfl,fun h=>by cases h⟩
theorem OF (hN:1073741824<=N) (a b:dK):∃ r ok,iq N a.1 a.2 b.1 b.2=some (r,ok)/\(ok=true->VR N a/\VR N b/\VR N r/\rv r=rv a-rv b):=by
 unfold iq
 rcases mi hN b with hb | hb
 ·obtain ⟨b1,b2,b3,b4,_⟩:=(gT hN).1 hb
  obtain ⟨r,k,e,h⟩:=Ju hN a (0-b.1,b.2)
  have hb':=hb
  unfold VR at hb
  rw [hb,bs,ae,fL oa oa,bs,e,bs]
  refine ⟨_,_,rfl,fun hk=>?_⟩
  obtain ⟨k1,_,k3,k4⟩:=h hk
  refine ⟨k1,hb',k3,k4.trans ?_⟩
  unfold rv
  show _+((0-b.1:Int):Rat) / (b.2:Rat)=_
  rw [Int.zero_sub,wX]
  have h2:=oe hN hb'
  grind
 ·rw [hb,bs,ai]
  exact ⟨_,_,rfl,fun h=>by cases h⟩
theorem Mj (hN:1073741824<=N) (a b:dK):∃ c,fA N a.1 a.2 b.1 b.2=some c/\-1<=c/\c<=1/\(VR N a->VR N b->(c<0↔rv a<rv b)):=by
 unfold fA
 rcases mi hN a with ha | ha
 ·rcases mi hN b with hb | hb
  ·obtain ⟨a1,a2,a3,a4,_⟩:=(gT hN).1 ha
   obtain ⟨b1,b2,b3,b4,_⟩:=(gT hN).1 hb
   have m1:=mO a3 a4 (b:=b.2) oa b2
   have m2:=mO b3 b4 (b:=a.2) oa a2
   have hlt:rv a<rv b↔a.1*b.2<b.1*a.2:=by
    have p1:(0:Rat)<(a.2:Rat):=uI.2 oa
    have p2:(0:Rat)<(b.2:Rat):=uI.2 oa
    unfold rv
    rw [Rat.div_lt_iff p1,nB,Rat.mul_assoc,Rat.mul_comm (b.2:Rat)⁻¹,<- Rat.mul_assoc,<- nB,Rat.lt_div_iff p2,<- kq,<- kq,Rat.intCast_lt_intCast]
   unfold VR at ha hb
   rw [ha,bs,ae,hb,bs,ae,fv oa oa,bs,fv oa oa,bs]
   by_cases h1:a.1*b.2<b.1*a.2
   ·rw [aJ h1,ae]
    exact ⟨-1,rfl,by decide,by decide,fun _ _=>⟨fun _=>hlt.2 h1,fun _=>by decide⟩⟩
   ·rw [aN h1,ai]
    by_cases h2:b.1*a.2<a.1*b.2
    ·rw [aJ h2,ae]
     exact ⟨1,rfl,by decide,by decide,fun _ _=>⟨fun h=>absurd h (by decide),fun h=>absurd (hlt.1 h) h1⟩⟩
    ·rw [aN h2,ai]
     exact ⟨0,rfl,by decide,by decide,fun _ _=>⟨fun h=>absurd h (by decide),fun h=>absurd (hlt.1 h) h1⟩⟩
  ·unfold VR at ha
   rw [ha,bs,ae,hb,bs,ai]
   exact ⟨0,rfl,by decide,by decide,fun _ h=>by rw [VR,hb] at h;cases h⟩
 ·rw [ha,bs,ai]
  exact ⟨0,rfl,by decide,by decide,fun h=>by rw [VR,ha] at h;cases h⟩
end
end Go.Proofs.YtijmbnbnojicjaaGreatDoor
