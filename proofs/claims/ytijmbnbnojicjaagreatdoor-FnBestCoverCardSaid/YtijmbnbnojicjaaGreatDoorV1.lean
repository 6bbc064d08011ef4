/- What functions of the program come to, written out by a program: none where a bound is passed. -/
import Derived.Test.YtijmbnbnojicjaaGreatDoorV0
namespace Go.Proofs.YtijmbnbnojicjaaGreatDoor
open Go.RowKit
def ii (N:Nat) (a0:List Int) (a1:Int) (a2:Int) (a3:Int):Option (Bool × Int × Int) :=
  (dO N a0 a1 a2 a3).bind fun J =>
  some ((J.1 == 0),J.2.1,J.2.2)
def iU (N:Nat) (a0:List Int) (a1:Int) (a2:Int) (a3:List ByteArray):Option (ByteArray × Int × Int) :=
  (dO N a0 a1 a2 (a3.length:Int)).bind fun J =>
  (ix a3 J.1).bind fun U =>
  some (U,J.2.1,J.2.2)
def jH (N:Nat):Nat→ByteArray→Int→(List ByteArray)→Int→Int→Option ((List ByteArray) × Int × Int)
 | 0,_,_,_,_,_=>none
 | k+1,U,AG,AH,AI,J =>
  (bif decide (J<(U.size:Int)) then
  (bx U J).bind fun AJ =>
  (bif (AJ == AG) then
  (ssl U AI J).bind fun AK =>
  (apd 16 AH [AK]).bind fun AM =>
  (ad J 1).bind fun AN =>
  (ad J 1).bind fun AO =>
  jH N k U AG AM AN AO
  else
  (ad J 1).bind fun AP =>
  jH N k U AG AH AI AP)
  else
  some (AH,AI,J))
def j4 (N:Nat) (a0:ByteArray) (a1:Int):Option (List ByteArray) :=
  (jH N N a0 a1 [] 0 0).bind fun J =>
  lpB J fun (U,AG,AJ) =>
  (ssl a0 AG (a0.size:Int)).bind fun AH =>
  (apd 16 U [AH]).bind fun AI =>
  some AI
def gH (N:Nat) (a0:Int):Option ByteArray :=
  (cA N a0 0 4).bind fun J =>
  (bif J then
  (ad a0 1).bind fun U =>
  (ssl (⟨#[88,89,90,85,86]⟩:ByteArray) a0 U).bind fun AG =>
  some AG
  else
  some ByteArray.empty)
def jt (N:Nat):Nat→ByteArray→(List Int)→Int→Int→Option ((List Int) × Int)
 | 0,_,_,_,_=>none
 | k+1,AG,AH,U,J =>
  (bif decide (J<5) then
  (gH N J).bind fun AI =>
  (ad U 1).bind fun AJ =>
  (ssl AG U AJ).bind fun AK =>
  (bif (eqS AI AK) then
  (apd 8 AH [J]).bind fun AM =>
  (ad J 1).bind fun AN =>
  jt N k AG AM U AN
  else
  (ad J 1).bind fun AO =>
  jt N k AG AH U AO)
  else
  some (AH,J))
def kw (N:Nat):Nat→ByteArray→(List Int)→Int→Option ((List Int) × Int)
 | 0,_,_,_=>none
 | k+1,U,AG,J =>
  (bif decide (J<(U.size:Int)) then
  (jt N N U AG J 0).bind fun AH =>
  lpB AH fun (AI,AK) =>
  (ad J 1).bind fun AJ =>
  kw N k U AI AJ
  else
  some (AG,J))
def kF (N:Nat) (a0:ByteArray):Option (List Int) :=
  (kw N N a0 [] 0).bind fun J =>
  lpB J fun (U,AG) =>
  some U
def kz (N:Nat):Nat→(List Int)→ByteArray→Int→Option (ByteArray × Int)
 | 0,_,_,_=>none
 | k+1,U,AG,J =>
  (bif decide (J<(U.length:Int)) then
  (ix U J).bind fun AH =>
  (gH N AH).bind fun AI =>
  (kS AG AI).bind fun AJ =>
  (ad J 1).bind fun AK =>
  kz N k U AJ AK
  else
  some (AG,J))
def jC (N:Nat) (a0:List Int):Option ByteArray :=
  (kz N N a0 (⟨#[40]⟩:ByteArray) 0).bind fun J =>
  lpB J fun (U,AH) =>
  (kS U (⟨#[41]⟩:ByteArray)).bind fun AG =>
  some AG
def gZ (N:Nat):Nat→Int→(List (ByteArray × List Int))→(List Int)→ByteArray→Int→Option (ByteArray × Int)
 | 0,_,_,_,_,_=>none
 | k+1,AH,U,AI,AG,J =>
  (bif decide (J<(U.length:Int)) then
  (bif decide (0<J) then
  (kS AG (⟨#[44]⟩:ByteArray)).bind fun AJ =>
  (ix U J).bind fun AK =>
  (kS AJ AK.1).bind fun AM =>
  (ix U J).bind fun AN =>
  (jC N AN.2).bind fun AO =>
  (kS AM AO).bind fun AP =>
  (ad J 1).bind fun AQ =>
  gZ N k AH U AI AP AQ
  else
  (ix U J).bind fun AR =>
  (kS AG AR.1).bind fun AS =>
  (ix U J).bind fun AT =>
  (jC N AT.2).bind fun AU =>
  (kS AS AU).bind fun AV =>
  (ad J 1).bind fun AW =>
  gZ N k AH U AI AV AW)
  else
  some (AG,J))
def jL (N:Nat) (a0:Int) (a1:List (ByteArray × List Int)) (a2:List Int):Option ByteArray :=
  (eC N a0 a1 a2).bind fun J =>
  (bif J then
  (jC N a2).bind fun U =>
  (kS U (⟨#[61]⟩:ByteArray)).bind fun AG =>
  (gZ N N a0 a1 a2 AG 0).bind fun AH =>
  lpB AH fun (AI,AJ) =>
  some AI
  else
  some ByteArray.empty)
def ie (N:Nat):Nat→ByteArray→Int→(List (ByteArray × List Int))→(List Int)→Int→(List (ByteArray × List Int))→(List Int)→(List ByteArray)→Int→Int→Int→Option (Int × Int)
 | 0,_,_,_,_,_,_,_,_,_,_,_=>none
 | k+1,AI,AJ,AK,AM,AN,AO,AP,AG,AH,U,J =>
  (bif decide (J<5) then
  (gH N J).bind fun AQ =>
  (ix AG AH).bind fun AR =>
  (ad U 1).bind fun AS =>
  (ssl AR U AS).bind fun AT =>
  (bif (eqS AQ AT) then
  (ad J 1).bind fun AU =>
  (ad J 1).bind fun AV =>
  ie N k AI AJ AK AM AU AO AP AG AH U AV
  else
  (ad J 1).bind fun AW =>
  ie N k AI AJ AK AM AN AO AP AG AH U AW)
  else
  some (AN,J))
def jj (N:Nat):Nat→ByteArray→Int→(List (ByteArray × List Int))→(List Int)→Int→(List (ByteArray × List Int))→(List Int)→(List ByteArray)→Int→Int→Option (Int × Int)
 | 0,_,_,_,_,_,_,_,_,_,_=>none
 | k+1,AI,AJ,AK,AM,U,AN,AO,AG,AH,J =>
  (ix AG AH).bind fun AP =>
  (bif decide (J<(AP.size:Int)) then
  (ie N N AI AJ AK AM U AN AO AG AH J U).bind fun AQ =>
  lpB AQ fun (AR,AT) =>
  (ad J 1).bind fun AS =>
  jj N k AI AJ AK AM AR AN AO AG AH AS
  else
  some (U,J))
def jl (N:Nat):Nat→ByteArray→Int→(List (ByteArray × List Int))→(List Int)→Int→(List (ByteArray × List Int))→(List Int)→(List ByteArray)→Int→Option (Int × (List (ByteArray × List Int)) × Int)
 | 0,_,_,_,_,_,_,_,_,_=>none
 | k+1,AG,AH,AI,AJ,AK,AM,AN,U,J =>
  (bif decide (J<(U.length:Int)) then
  (ix U J).bind fun AP =>
  (j4 N AP 40).bind fun AQ =>
  (ix AQ 0).bind fun AR =>
  (ix U J).bind fun AS =>
  (kF N AS).bind fun AT =>
  (apd 40 AM [(AR,AT)]).bind fun AO =>
  (jj N N AG AH AI AJ AK AO AN U J 0).bind fun AU =>
  lpB AU fun (AV,AX) =>
  (ad J 1).bind fun AW =>
  jl N k AG AH AI AJ AV AO AN U AW
  else
  some (AK,AM,J))
def cm (N:Nat) (a0:ByteArray):Option ((Int × List (ByteArray × List Int) × List Int) × Bool) :=
  (j4 N a0 61).bind fun J =>
  (bif ((J.length:Int) != 2) then
  some ((0,[],[]),false)
  else
  (ix J 0).bind fun AI =>
  (kF N AI).bind fun U =>
  (ix J 1).bind fun AJ =>
  (j4 N AJ 44).bind fun AK =>
  (jl N N a0 0 [] [] 0 [] U AK 0).bind fun AM =>
  lpB AM fun (AG,AH,AO) =>
  (jL N AG AH U).bind fun AN =>
  (bif (eqS AN a0) then
  (bif (eqS a0 ByteArray.empty) then
  some ((0,[],[]),false)
  else
  some ((AG,AH,U),true))
  else
  some ((0,[],[]),false)))
def gA (N:Nat):Nat→(List Int)→Int→Int→Int→(List (ByteArray × List Int))→(List Int)→Int→(List (ByteArray × List Int))→(List Int)→Int→(List (ByteArray × List Int))→(List Int)→Int→ByteArray→(List Int)→Int→Option (Int × Int × (List Int) × Int)
 | 0,_,_,_,_,_,_,_,_,_,_,_,_,_,_,_,_=>none
 | k+1,AG,AH,AI,AM,AN,AO,AP,AQ,AR,AJ,AS,AT,AU,AV,AK,J =>
  (bif decide (0<J) then
  (dO N AG AH AI AJ).bind fun U =>
  (apd 8 AK [U.1]).bind fun AW =>
  (sb J 1).bind fun AX =>
  gA N k AG U.2.1 U.2.2 AM AN AO AP AQ AR AJ AS AT AU AV AW AX
  else
  some (AH,AI,AK,J))
def gv (N:Nat):Nat→(List Int)→Int→Int→Int→(List (ByteArray × List Int))→(List Int)→Int→(List (ByteArray × List Int))→(List Int)→Int→(List (ByteArray × List Int))→(List Int)→Int→Option (Int × Int × (List (ByteArray × List Int)) × Int)
 | 0,_,_,_,_,_,_,_,_,_,_,_,_,_=>none
 | k+1,AG,AI,AJ,AK,AM,AN,AO,AP,AQ,AR,AH,AS,J =>
  (bif decide (0<J) then
  (dO N AG AI AJ 5).bind fun U =>
  (ix ([(⟨#[114]⟩:ByteArray),(⟨#[115]⟩:ByteArray),(⟨#[116]⟩:ByteArray),(⟨#[117]⟩:ByteArray),(⟨#[118]⟩:ByteArray)]:List ByteArray) U.1).bind fun AT =>
  (qt U.1 4).bind fun AU =>
  (ad 2 AU).bind fun AV =>
  (gA N N AG U.2.1 U.2.2 AK AM AN AO AP AQ AR AH AS J AT [] AV).bind fun AW =>
  lpB AW fun (AX,AY,AZ,A2) =>
  (apd 40 AH [(AT,AZ)]).bind fun A0 =>
  (sb J 1).bind fun A1 =>
  gv N k AG AX AY AK AM AN AO AP AQ AR A0 AS A1
  else
  some (AI,AJ,AH,J))
def fc (N:Nat):Nat→(List Int)→Int→Int→Int→(List (ByteArray × List Int))→(List Int)→Int→(List (ByteArray × List Int))→(List Int)→Int→(List (ByteArray × List Int))→(List Int)→Int→Option (Int × Int × (List Int) × Int)
 | 0,_,_,_,_,_,_,_,_,_,_,_,_,_=>none
 | k+1,AG,AJ,AK,AM,AN,AO,AP,AQ,AR,AH,AS,AI,J =>
  (bif decide (J<AH) then
  (ii N AG AJ AK 2).bind fun U =>
  (bif U.1 then
  (apd 8 ([J]) AI).bind fun AT =>
  (ad J 1).bind fun AU =>
  fc N k AG U.2.1 U.2.2 AM AN AO AP AQ AR AH AS AT AU
  else
  (ad J 1).bind fun AV =>
  fc N k AG U.2.1 U.2.2 AM AN AO AP AQ AR AH AS AI AV)
  else
  some (AJ,AK,AI,J))
def i9 (N:Nat) (a0:List Int) (a1:Int) (a2:Int):Option ((Int × List (ByteArray × List Int) × List Int) × Int × Int) :=
  (iU N a0 a1 a2 ([(⟨#[40,88,89,90,41,61,114,40,88,89,41,44,115,40,89,90,41,44,116,40,90,88,41]⟩:ByteArray),(⟨#[40,88,89,90,85,41,61,114,40,88,89,41,44,115,40,89,90,41,44,116,40,90,85,41,44,117,40,85,88,41]⟩:ByteArray),(⟨#[40,88,89,90,41,61,114,40,88,89,41,44,115,40,89,90,41]⟩:ByteArray),(⟨#[40,88,41,61,114,40,88,89,41,44,115,40,89,90,41,44,116,40,90,85,41]⟩:ByteArray),(⟨#[40,88,89,90,41,61,118,40,88,89,90,41,44,114,40,88,89,41]⟩:ByteArray),(⟨#[40,88,89,41,61,114,40,88,89,41,44,114,40,89,88,41]⟩:ByteArray),(⟨#[40,88,89,90,85,41,61,118,40,88,89,90,41,44,115,40,90,85,41,44,116,40,85,88,41]⟩:ByteArray),(⟨#[40,88,41,61,114,40,88,88,41]⟩:ByteArray),(⟨#[40,88,89,41,61,114,40,88,90,41,44,115,40,90,89,41,44,114,40,88,85,41,44,115,40,85,89,41]⟩:ByteArray),(⟨#[40,41,61,114,40,88,89,41,44,115,40,89,88,41]⟩:ByteArray),(⟨#[40,88,89,90,85,86,41,61,114,40,88,89,41,44,115,40,89,90,41,44,116,40,90,85,41,44,117,40,85,86,41]⟩:ByteArray)]:List ByteArray)).bind fun AH =>
  (cm N AH.1).bind fun J =>
  (ii N a0 AH.2.1 AH.2.2 3).bind fun U =>
  (bif U.1 then
  (dO N a0 U.2.1 U.2.2 4).bind fun AI =>
  (ad 1 AI.1).bind fun AG =>
  (dO N a0 AI.2.1 AI.2.2 4).bind fun AJ =>
  (ad 1 AJ.1).bind fun AP =>
  (gv N N a0 AJ.2.1 AJ.2.2 0 [] [] J.1.1 J.1.2.1 J.1.2.2 AG [] [] AP).bind fun AQ =>
  lpB AQ fun (AR,AS,AK,AV) =>
  (fc N N a0 AR AS 0 [] [] J.1.1 J.1.2.1 J.1.2.2 AG AK [] 0).bind fun AT =>
  lpB AT fun (AM,AN,AO,AW) =>
  (eC N AG AK AO).bind fun AU =>
  (bif AU then
  some ((AG,AK,AO),AM,AN)
  else
  some ((J.1.1,J.1.2.1,J.1.2.2),AM,AN))
  else
  some ((J.1.1,J.1.2.1,J.1.2.2),U.2.1,U.2.2))
def jY (N:Nat) (a0:List Int) (a1:Int) (a2:Int):Option ((Int × List (ByteArray × List Int) × List Int) × Int × Int) :=
  (i9 N a0 a1 a2).bind fun J =>
  (dO N a0 J.2.1 J.2.2 14).bind fun U =>
  (bif (U.1 == 0) then
  (ad J.1.1 1).bind fun AM =>
  (fE N a0 U.2.1 U.2.2 ([0,6,AM]:List Int)).bind fun AG =>
  some ((AG.1,J.1.2.1,J.1.2.2),AG.2.1,AG.2.2)
  else
  (bif (U.1 == 1) then
  (iU N a0 U.2.1 U.2.2 ([ByteArray.empty,(⟨#[119]⟩:ByteArray),(⟨#[114]⟩:ByteArray)]:List ByteArray)).bind fun AH =>
  (apd 40 J.1.2.1 [(AH.1,[0])]).bind fun AN =>
  some ((J.1.1,AN,J.1.2.2),AH.2.1,AH.2.2)
  else
  (bif (U.1 == 2) then
  (dO N a0 U.2.1 U.2.2 6).bind fun AI =>
  (sb AI.1 1).bind fun AO =>
  (apd 8 J.1.2.2 [AO]).bind fun AP =>
  some ((J.1.1,J.1.2.1,AP),AI.2.1,AI.2.2)
  else
  (bif (U.1 == 3) then
  (ix J.1.2.1 0).bind fun AQ =>
  (sto J.1.2.1 0 (AQ.1,[])).bind fun AR =>
  some ((J.1.1,AR,J.1.2.2),U.2.1,U.2.2)
  else
  (bif (U.1 == 4) then
  (ix J.1.2.1 0).bind fun AJ =>
  (fE N a0 U.2.1 U.2.2 ([(-1),5]:List Int)).bind fun AK =>
  (ix AJ.2 0).bind fun AU =>
  (sto AJ.2 0 AK.1).bind fun AS =>
  (sto J.1.2.1 0 (AJ.1,AS)).bind fun AT =>
  some ((J.1.1,AT,J.1.2.2),AK.2.1,AK.2.2)
  else
  some ((J.1.1,J.1.2.1,J.1.2.2),U.2.1,U.2.2))))))
def f7 (N:Nat):Nat→(List Int)→Int→Int→Int→(List Int)→Option (Int × Int × (List Int))
 | 0,_,_,_,_,_=>none
 | k+1,AG,AH,AI,AJ,J =>
  (bif decide ((J.length:Int)<AJ) then
  (fE N AG AH AI ([0,1,2,3,5,9,16]:List Int)).bind fun U =>
  (apd 8 J [U.1]).bind fun AK =>
  f7 N k AG U.2.1 U.2.2 AJ AK
  else
  some (AH,AI,J))
def iM (N:Nat) (a0:List Int) (a1:Int) (a2:Int) (a3:Int):Option ((List Int) × Int × Int) :=
  (f7 N N a0 a1 a2 a3 []).bind fun J =>
  lpB J fun (U,AG,AH) =>
  some (AH,U,AG)
def gm (N:Nat) (a0:List Int):Option ((Int × List (ByteArray × List Int) × List Int) × (List Int)) :=
  (jW N a0).bind fun AH =>
  (jY N a0 AH.1 AH.2).bind fun J =>
  (iM N a0 J.2.1 J.2.2 (J.1.2.1.length:Int)).bind fun U =>
  (bif decide (0<(U.1.length:Int)) then
  (ii N a0 U.2.1 U.2.2 12).bind fun AG =>
  (bif AG.1 then
  (fE N a0 AG.2.1 AG.2.2 ([(-1),17]:List Int)).bind fun AI =>
  (ix U.1 0).bind fun AK =>
  (sto U.1 0 AI.1).bind fun AJ =>
  some ((J.1.1,J.1.2.1,J.1.2.2),AJ)
  else
  some ((J.1.1,J.1.2.1,J.1.2.2),U.1))
  else
  some ((J.1.1,J.1.2.1,J.1.2.2),U.1))
def fq (N:Nat):Nat→(List (Int × Int))→Int→Int→Option (Sum Bool Int)
 | 0,_,_,_=>none
 | k+1,U,AH,J =>
  (bif decide (J<(U.length:Int)) then
  (ix U J).bind fun AG =>
  (ax N AG.1 AG.2).bind fun AI =>
  (bif AI then
  (ix U J).bind fun AJ =>
  (bif decide (AJ.1<0) then
  some (.inl false)
  else
  (ix U J).bind fun AK =>
  (bif decide (1000<AK.1) then
  some (.inl false)
  else
  (ix U J).bind fun AM =>
  (bif decide (1000<AM.2) then
  some (.inl false)
  else
  (ad J 1).bind fun AN =>
  fq N k U AH AN)))
  else
  some (.inl false))
  else
  some (.inr J))
def jF (N:Nat) (a0:List (Int × Int)) (a1:Int):Option Bool :=
  (fq N N a0 a1 0).bind fun J =>
  lpS J (fun q=>some q) fun U =>
  some ((a0.length:Int) == a1)
def d6 (N:Nat):Nat→(List (Int × Int))→Int→Int→Int→Int→Int→Option (Sum ((Int × Int) × Bool) (Int × Int × Int))
 | 0,_,_,_,_,_,_=>none
 | k+1,U,AK,AM,AH,AI,J =>
  (bif decide (J<(U.length:Int)) then
  (ix U J).bind fun AJ =>
  (bA N AH AI AJ.1 AJ.2).bind fun AG =>
  (bif AG.2 then
  (ad J 1).bind fun AN =>
  d6 N k U AK AM AG.1.1 AG.1.2 AN
  else
  some (.inl ((0,0),false)))
  else
  some (.inr (AH,AI,J)))
def gK (N:Nat) (a0:List (Int × Int)):Option ((Int × Int) × Bool) :=
  (d6 N N a0 0 0 0 1 0).bind fun J =>
  lpS J (fun q=>some q) fun (U,AG,AH) =>
  some ((U,AG),true)
def bJ (N:Nat):Nat→(List (Int × Int))→Int→(List (ByteArray × List Int))→(List Int)→Int→(List (Int × Int))→Int→Option ((List (Int × Int)) × Int)
 | 0,_,_,_,_,_,_,_=>none
 | k+1,U,AJ,AG,AK,AH,AI,J =>
  (bif decide (J<(U.length:Int)) then
  (ix AG J).bind fun AM =>
  (dP N AM.1 AM.2 AH).bind fun AO =>
  (bif AO then
  (ix U J).bind fun AN =>
  (apd 16 AI [(AN.1,AN.2)]).bind fun AP =>
  (ad J 1).bind fun AQ =>
  bJ N k U AJ AG AK AH AP AQ
  else
  (ad J 1).bind fun AR =>
  bJ N k U AJ AG AK AH AI AR)
  else
  some (AI,J))
def de (N:Nat):Nat→(List (Int × Int))→Int→(List (ByteArray × List Int))→(List Int)→Int→Option (Sum Bool Int)
 | 0,_,_,_,_,_=>none
 | k+1,AH,U,AI,AJ,J =>
  (bif decide (J<U) then
  (bJ N N AH U AI AJ J [] 0).bind fun AK =>
  lpB AK fun (AM,AP) =>
  (gK N AM).bind fun AG =>
  (bif AG.2 then
  (bO N AG.1.1 AG.1.2 1 1).bind fun AN =>
  (bif decide (AN<0) then
  some (.inl false)
  else
  (ad J 1).bind fun AO =>
  de N k AH U AI AJ AO)
  else
  some (.inl false))
  else
  some (.inr J))
def fg (N:Nat) (a0:Int) (a1:List (ByteArray × List Int)) (a2:List Int) (a3:List (Int × Int)):Option Bool :=
  (eC N a0 a1 a2).bind fun J =>
  (bif J then
  (jF N a3 (a1.length:Int)).bind fun U =>
  (bif U then
  (de N N a3 a0 a1 a2 0).bind fun AG =>
  lpS AG (fun q=>some q) fun AH =>
  some true
  else
  some false)
  else
  some false)
def dI (N:Nat):Nat→Int→(List (ByteArray × List Int))→(List Int)→(List Int)→(List (Int × Int))→(List (List (Int × Int)))→Int→Option (Sum Bool Int)
 | 0,_,_,_,_,_,_,_=>none
 | k+1,AI,AJ,AK,AG,AH,U,J =>
  (bif decide (J<(U.length:Int)) then
  (ix U J).bind fun AN =>
  (eR N AG AN AH).bind fun AM =>
  (bif AM.2 then
  (bif decide (AM.1<0) then
  some (.inl false)
  else
  (ad J 1).bind fun AO =>
  dI N k AI AJ AK AG AH U AO)
  else
  (ad J 1).bind fun AP =>
  dI N k AI AJ AK AG AH U AP)
  else
  some (.inr J))
def iI (N:Nat) (a0:List Int):Option Bool :=
  (mS N a0).bind fun AI =>
  (bif AI then
  some true
  else
  (gm N a0).bind fun J =>
  (gO N J.1.1 J.1.2.1 J.1.2.2 J.2).bind fun U =>
  (ft N J.1.1 J.1.2.1 J.1.2.2 J.2).bind fun AH =>
  (bif (U.2 != AH.2) then
  some false
  else
  (cE N U.1 AH.1).bind fun AJ =>
  (bif AJ then
  (bif U.2 then
  (e8 N J.1.1 J.1.2.1 J.1.2.2).bind fun AG =>
  (bK N AG.1.1 AG.1.2.1 AG.1.2.2).bind fun AK =>
  (dI N N J.1.1 J.1.2.1 J.1.2.2 J.2 U.1 AK 0).bind fun AM =>
  lpS AM (fun q=>some q) fun AO =>
  (fg N J.1.1 J.1.2.1 J.1.2.2 U.1).bind fun AN =>
  some AN
  else
  some ((U.1.length:Int) == 0))
  else
  some false)))
def inR (n lo hi:Int):Bool:=decide (lo≤n)&&decide (n≤hi)
theorem eW (N:Nat) (n lo hi:Int):cJ N n lo hi=some (inR n lo hi):=by
 unfold cJ inR;cases decide (lo≤n) <;> rfl
theorem dN (N:Nat) (n lo hi:Int):cA N n lo hi=some (inR n lo hi):=by
 unfold cA inR;cases decide (lo≤n) <;> rfl
theorem b9 {n lo hi:Int}:inR n lo hi=true↔lo≤n∧n≤hi:=by unfold inR;simp
def mL (a b:Int):Int:=if a<b then -1 else if b<a then 1 else 0
def yB:List Int→List Int→Int
 | [],[]=>0
 | [],_ :: _=>-1
 | _ :: _,[]=>1
 | a :: xs,b :: ys=>if a<b then -1 else if b<a then 1 else yB xs ys
theorem it (N:Nat) (a b:Int):fm N a b=some (mL a b):=by
 unfold fm mL
 by_cases h1:a<b
 ·rw [decide_eq_true h1,if_pos h1];rfl
 ·rw [decide_eq_false h1,if_neg h1]
  by_cases h2:b<a
  ·rw [decide_eq_true h2,if_pos h2];rfl
  ·rw [decide_eq_false h2,if_neg h2];rfl
theorem jQ {α:Type} {xs:List α} {i:Nat} (h:i<xs.length):xs.drop i=xs[i] :: xs.drop (i+1):=List.drop_eq_getElem_cons h
section
variable {N:Nat} {xs ys:List Int}
def fnd (v:Int):List Int→Int→Int
 | [],_=>-1
 | x :: xs,i=>if x=v then i else fnd v xs (i+1)
def lL (xs:List Int) (v:Int):Int:=fnd v xs 0
theorem rK (v:Int):∀ (xs:List Int) (i:Nat),(v∉xs∧fnd v xs i=-1)∨∃ j,∃ h:j<xs.length,xs[j]=v∧fnd v xs i=((i+j:Nat):Int)∧v∉xs.take j
 | [],i=>.inl ⟨by simp,rfl⟩
 | x :: xs,i=>by
  unfold fnd
  by_cases h:x=v
  ·rw [if_pos h];exact .inr ⟨0,by simp,by simpa using h,by simp,by simp⟩
  ·rw [if_neg h]
   rcases rK v xs (i+1) with ⟨h1,h2⟩ | ⟨j,hj,h1,h2,h3⟩
   ·exact .inl ⟨by simp [h1,Ne.symm h],by simpa using h2⟩
   ·exact .inr ⟨j+1,by simpa using hj,by simpa using h1,by rw [show ((i:Int)+1)=((i+1:Nat):Int) by simp,h2];congr 1;omega,by simp [h3,Ne.symm h]⟩
theorem tJ (xs:List Int) (v:Int):(v∉xs∧lL xs v=-1)∨∃ j,∃ h:j<xs.length,xs[j]=v∧lL xs v=(j:Int)∧v∉xs.take j:=by
 have:=rK v xs 0
 simpa [lL] using this
theorem nr (xs:List Int) (v:Int):decide (0≤lL xs v)=decide (v∈xs):=by
 rcases tJ xs v with ⟨h1,h2⟩ | ⟨j,hj,h1,h2,_⟩
 ·rw [h2,decide_eq_false (by omega),decide_eq_false h1]
 ·rw [h2,decide_eq_true (by omega),decide_eq_true (h1 ▸ List.getElem_mem hj)]
theorem tI (hN:1073741824≤N) (hx:xs.length≤1048576) (v:Int):i8 N xs v=some (lL xs v):=by
 have key:∀ k i,i≤xs.length→xs.length-i<k→∃ s,ia N k v xs (xs.length:Int) (i:Int)=some s∧(match s with | .inl r=>fnd v (xs.drop i) i=r | .inr _=>fnd v (xs.drop i) i=-1):=by
  intro k
  induction k with
  | zero=>intro i h1 h2;omega
  | succ k ih =>
   intro i h1 h2
   rw [ia]
   by_cases h:i<xs.length
   ·rw [dlt h,cond_true,aZ h,bs,jQ h,fnd]
    by_cases he:xs[i]=v
    ·rw [show (xs[i] == v)=true by simpa using he,cond_true,if_pos he];exact ⟨_,rfl,rfl⟩
    ·rw [show (xs[i] == v)=false by simpa using he,cond_false,if_neg he,ad1 (by omega),bs]
     have:=ih (i+1) (by omega) (by omega)
     simpa using this
   ·rw [dge h,cond_false,List.drop_of_length_le (by omega)];exact ⟨_,rfl,rfl⟩
 obtain ⟨s,h1,h2⟩:=key N 0 (by omega) (by omega)
 unfold i8 lL
 rw [show ((0:Int))=((0:Nat):Int) from rfl,h1,bs]
 simp only [List.drop_zero] at h2
 cases s with
 | inl r=>rw [h2];rfl
 | inr r=>rw [h2];rfl
theorem tY (hN:1073741824≤N) (hx:xs.length≤1048576) (v:Int):jA N xs v=some (lL xs v):=by
 have key:∀ k i,i≤xs.length→xs.length-i<k→∃ s,iu N k xs v (i:Int)=some s∧(match s with | .inl r=>fnd v (xs.drop i) i=r | .inr _=>fnd v (xs.drop i) i=-1):=by
  intro k
  induction k with
  | zero=>intro i h1 h2;omega
  | succ k ih =>
   intro i h1 h2
   rw [iu]
   by_cases h:i<xs.length
   ·rw [dlt h,cond_true,aZ h,bs,jQ h,fnd]
    by_cases he:xs[i]=v
    ·rw [show (xs[i] == v)=true by simpa using he,cond_true,if_pos he];exact ⟨_,rfl,rfl⟩
    ·rw [show (xs[i] == v)=false by simpa using he,cond_false,if_neg he,ad1 (by omega),bs]
     have:=ih (i+1) (by omega) (by omega)
     simpa using this
   ·rw [dge h,cond_false,List.drop_of_length_le (by omega)];exact ⟨_,rfl,rfl⟩
 obtain ⟨s,h1,h2⟩:=key N 0 (by omega) (by omega)
 unfold jA lL
 rw [show ((0:Int))=((0:Nat):Int) from rfl,h1,bs]
 simp only [List.drop_zero] at h2
 cases s with
 | inl r=>rw [h2];rfl
 | inr r=>rw [h2];rfl
theorem qy (hN:1073741824≤N) (hx:xs.length≤1048576) (v:Int):iT N xs v=some (decide (v∈xs)):=by
 unfold iT;rw [tI hN hx,bs,nr]
def lP (xs:List Int):Bool:=xs.all fun x=>inR x 0 99
def asc:List Int→Bool
 | []=>true
 | [_]=>true
 | x :: y :: t=>decide (x<y)&&asc (y :: t)
def jg (xs:List Int) (n:Int):Bool:=(List.range' 0 xs.length).all fun i=>inR (xs.getD i 0) 0 (n-1)&&!decide (xs.getD i 0∈xs.take i)
theorem fA {xs:List Int} {i:Nat} (h:i<xs.length):xs.getD i 0=xs[i]:=by simp [h]
theorem tj (hN:1073741824≤N) (hx:xs.length≤1048576) {n:Int} (hn:-1099511627776≤n∧n≤1099511627776):ja N xs n=some (jg xs n):=by
 have:=pc (L:=fun k i=>e9 N k xs n xs (xs.length:Int) i) xs.length (by omega) false (fun i=>inR (xs.getD i 0) 0 (n-1)&&!decide (xs.getD i 0∈xs.take i)) (xs.length:Int)
  (fun k i h=>by
   show e9 N (k+1) xs n xs _ (i:Int)=_
   rw [e9,dlt h,cond_true,aZ h,bs,eS (by omega) (by omega),bs,eW,bs,show ((0:Int))=((0:Nat):Int) from rfl,nF (Nat.zero_le _) (by omega),bs,List.drop_zero,qy hN (by simp;omega),bs,ad1 (by omega),bs]
   simp only [show ((0:Nat):Int)=0 from rfl,fA h]
   cases inR xs[i] 0 (n-1)
   ·rfl
   ·cases decide (xs[i]∈xs.take i) <;> rfl)
  (fun k=>by
   show e9 N (k+1) xs n xs _ (xs.length:Int)=_
   rw [e9,dge (by omega),cond_false]) N 0 (by omega) (by omega)
 unfold ja jg
 rw [show ((0:Int))=((0:Nat):Int) from rfl,this,bs,Nat.sub_zero]
 simp only [show ((0:Nat):Int)=0 from rfl]
 cases (List.range' 0 xs.length).all fun i=>inR (xs.getD i 0) 0 (n-1)&&!decide (xs.getD i 0∈xs.take i) <;> rfl
end
abbrev okI (xs:List Int):Prop:=my (fun _=>True) 1048576 xs
def Ah (n:Int) (rows:List (List Int)) (i:Nat):Bool :=
 decide (((rows.getD i []).length:Int)=n)&&lP (rows.getD i [])&&(Nat.beq i 0||decide (yB (rows.getD (i-1) []) (rows.getD i [])<0))
def un (n:Int) (rows:List (List Int)):Bool:=inR n 0 5&&decide ((rows.length:Int)≤4000)&&(List.range' 0 rows.length).all (Ah n rows)
section
variable {N:Nat}
theorem nM {a b:Int} (h:b≠0):rm a b=some (a.tmod b):=by unfold rm;rw [if_pos h]
theorem pV {a b:Int} (ha:0≤a) (hb:0<b):0≤a.tmod b∧a.tmod b<b:=⟨Int.tmod_nonneg _ ha,Int.tmod_lt_of_pos _ hb⟩
end
abbrev iL:=List Int × List Int
def vW (far:List Int) (i:Nat) (ch:List Int) (j:Nat):Bool:=inR (ch.getD j 0) 0 ((i:Int)-1)&&decide (far.getD (ch.getD j 0).toNat 0=far.getD (ch.getD 0 0).toNat 0)
def sC (nodes:List iL) (i:Nat) (x:iL):Bool:=((nodes.take i).drop 1).all fun m=>!decide (m=x)
def wu (nodes:List iL) (olen:Nat) (far:List Int) (i:Nat) (x:iL):Option Int :=
 bif decide (x.1.length=x.2.length)&&lP x.1&&asc x.1 then
  bif decide (x.1.length=0) then (bif decide (i+1=nodes.length) then some (olen:Int) else none)
  else bif (List.range' 0 x.2.length).all (vW far i x.2)&&sC nodes i x then some (far.getD (x.2.getD 0 0).toNat 0+1) else none
 else none
structure VF (olen:Nat) (nodes:List iL) (far:List Int):Prop where
 pos:1≤nodes.length
 le:nodes.length≤4000
 z1:(nodes.getD 0 ([],[])).1=[]
 z2:(nodes.getD 0 ([],[])).2=[]
 len:far.length=nodes.length
 f0:far.getD 0 0=0
 last:far.getD (nodes.length-1) 0=(olen:Int)
 nd:∀ i,1≤i→i<nodes.length→wu nodes olen (far.take i) i (nodes.getD i ([],[]))=some (far.getD i 0)
theorem us {xs:List Int} {i j:Nat} (h:j<i):(xs.take i).getD j 0=xs.getD j 0:=by
 rw [List.getD_eq_getElem?_getD,List.getD_eq_getElem?_getD,List.getElem?_take,if_pos h]
theorem VF.node {olen:Nat} {nodes:List iL} {far:List Int} (V:VF olen nodes far) {i:Nat} (h1:1≤i) (h2:i<nodes.length) :
    (nodes.getD i ([],[])).1.length=(nodes.getD i ([],[])).2.length∧asc (nodes.getD i ([],[])).1=true ∧
    ((nodes.getD i ([],[])).1=[]∧i+1=nodes.length∧far.getD i 0=olen ∨
     (nodes.getD i ([],[])).1≠[]∧∀ j,j<(nodes.getD i ([],[])).2.length→0≤(nodes.getD i ([],[])).2.getD j 0∧(nodes.getD i ([],[])).2.getD j 0<i∧far.getD ((nodes.getD i ([],[])).2.getD j 0).toNat 0+1=far.getD i 0):=by
  have h:=V.nd i h1 h2
  generalize nodes.getD i ([],[])=x at *
  unfold wu at h
  cases e1:(decide (x.1.length=x.2.length)&&lP x.1&&asc x.1) with
  | false=>rw [e1] at h;cases h
  | true =>
    rw [e1,cond_true] at h
    simp only [Bool.and_eq_true,decide_eq_true_eq] at e1
    refine ⟨e1.1.1,e1.2,?_⟩
    by_cases hz:x.1.length=0
    · rw [decide_eq_true hz,cond_true] at h
      by_cases hi:i+1=nodes.length
      · rw [decide_eq_true hi,cond_true] at h
        exact .inl ⟨List.length_eq_zero_iff.1 hz,hi,(Option.some.inj h).symm⟩
      · rw [decide_eq_false hi] at h;cases h
    · rw [decide_eq_false hz,cond_false] at h
      cases ha:(List.range' 0 x.2.length).all (vW (far.take i) i x.2) with
      | false=>rw [ha] at h;cases h
      | true =>
        rw [ha,Bool.true_and] at h
        cases hb:sC nodes i x with
        | false=>rw [hb] at h;cases h
        | true =>
          rw [hb,cond_true] at h
          refine .inr ⟨fun e=>hz (by simp [e]),fun j hj=>?_⟩
          have hc:∀ j,j<x.2.length→0≤x.2.getD j 0∧x.2.getD j 0<i∧far.getD (x.2.getD j 0).toNat 0=(far.take i).getD (x.2.getD 0 0).toNat 0:=by
            intro j hj
            have:=(List.all_eq_true.1 ha) j (by simp;omega)
            unfold vW at this
            simp only [Bool.and_eq_true,decide_eq_true_eq] at this
            have g:=b9.1 this.1
            refine ⟨g.1,by omega,?_⟩
            rw [← this.2,us (by omega)]
          obtain ⟨q1,q2,q3⟩:=hc j hj
          exact ⟨q1,q2,by rw [q3];exact Option.some.inj h⟩
theorem hG {σ V:Type} (L:Nat→σ→Int→Option V) (n:Nat) (A:Nat→σ) (v:V)
  (hstep:∀ k i,i<n→L (k+1) (A i) (i:Int)=L k (A (i+1)) ((i+1:Nat):Int)) (hend:∀ k,L (k+1) (A n) (n:Int)=some v) :
  ∀ k i,i≤n→n-i<k→L k (A i) (i:Int)=some v:=by
 intro k
 induction k with
 | zero=>intro i hi hk;omega
 | succ k ih =>
  intro i hi hk
  by_cases h:i<n
  ·rw [hstep k i h];exact ih (i+1) (by omega) (by omega)
  ·obtain rfl:i=n:=by omega
   exact hend k
theorem VF.lens {olen:Nat} {nodes:List iL} {far:List Int} (V:VF olen nodes far) {i:Nat} (h2:i<nodes.length):(nodes.getD i ([],[])).1.length=(nodes.getD i ([],[])).2.length:=by
 by_cases h1:1≤i
 ·exact (V.node h1 h2).1
 ·obtain rfl:i=0:=by omega
  rw [V.z1,V.z2]
theorem VF.asc {olen:Nat} {nodes:List iL} {far:List Int} (V:VF olen nodes far) {i:Nat} (h2:i<nodes.length):Go.Proofs.YtijmbnbnojicjaaGreatDoor.asc (nodes.getD i ([],[])).1=true:=by
 by_cases h1:1≤i
 ·exact (V.node h1 h2).2.1
 ·obtain rfl:i=0:=by omega
  rw [V.z1];rfl
theorem wa {α R V:Type} (L:Nat→Int→Option (Sum R V)) (xs:List α) (q:α→Bool) (g:α→R) (v:V) (hl:xs.length<1099511627776)
  (hstep:∀ k i (h:i<xs.length),L (k+1) (i:Int)=bif q xs[i] then some (.inl (g xs[i])) else L k ((i+1:Nat):Int)) (hend:∀ k,L (k+1) (xs.length:Int)=some (.inr v)) :
  ∀ k i,i≤xs.length→xs.length-i<k→L k (i:Int)=some (match (xs.drop i).find? q with | some x=>.inl (g x) | none=>.inr v):=by
 intro k
 induction k with
 | zero=>intro i h1 h2;omega
 | succ k ih =>
  intro i h1 h2
  by_cases h:i<xs.length
  ·rw [hstep k i h,jQ h,List.find?_cons]
   cases hq:q xs[i]
   ·rw [cond_false];exact ih (i+1) (by omega) (by omega)
   ·rfl
  ·obtain rfl:i=xs.length:=by omega
   rw [hend,List.drop_length];rfl
abbrev iO:=ByteArray × (Int × List (List Int))
abbrev AF (ts:List iO):Prop:=my (fun x=>x.1.size≤1048576∧my (my (fun _=>True) 1048576) 1048576 x.2.2) 1048576 ts
def l7 (s:ByteArray) (i:Nat):Int:=match s[i]? with | some b=>(b.toNat:Int) | none=>0
theorem yn {s:ByteArray} {i:Nat} (h:i<s.size):bx s (i:Int)=some (l7 s i):=by
 unfold bx l7
 rw [if_pos (by omega),Int.toNat_natCast,getElem?_pos s i h];rfl
def km (s:ByteArray) (i:Nat):Bool:=!decide (l7 s i<97)&&!decide (122<l7 s i)
def kK (s:ByteArray):Bool:=inR s.size 1 4&&(List.range' 0 s.size).all (km s)
def zO (ts:List iO) (i:Nat):Bool :=
 let t:=ts.getD i (ByteArray.empty,0,[])
 kK t.1&&(Nat.beq i 0||ltS (ts.getD (i-1) (ByteArray.empty,0,[])).1 t.1)&&un t.2.1 t.2.2&&!decide (t.2.1<1)&&!decide (16<(t.2.2.length:Int))
def An (ts:List iO):Bool:=decide ((ts.length:Int)≤6)&&(List.range' 0 ts.length).all (zO ts)
def wD (ts:List iO) (s:ByteArray):(Int × List (List Int)) × Bool :=
 bif An ts then (match ts.find? (fun t=>decide (t.1=s)) with | some t=>(t.2,true) | none=>((0,[]),false)) else ((0,[]),false)
section
variable {N:Nat}
theorem za {L:Nat→Int→Option (Sum Bool Int)} {s:ByteArray} (hs:s.size≤1048576) (hN:1073741824≤N)
  (hstep:∀ k i,L (k+1) i=(bif decide (i<(s.size:Int)) then (bx s i).bind fun a=>(bif decide (a<97) then some (.inl false) else (bx s i).bind fun b=>(bif decide (122<b) then some (.inl false) else (ad i 1).bind fun j=>L k j)) else some (.inr i))) :
  L N 0=some (bif (List.range' 0 s.size).all (km s) then .inr (s.size:Int) else .inl false):=by
 have:=pc L s.size (by omega) false (km s) (s.size:Int)
  (fun k i h=>by
   rw [hstep,dlt h,cond_true,yn h,bs,bs,ad1 (by omega),bs]
   unfold km
   cases decide (l7 s i<97)
   ·cases decide (122<l7 s i) <;> rfl
   ·rfl)
  (fun k=>by rw [hstep,dge (by omega),cond_false]) N 0 (by omega) (by omega)
 rw [Nat.sub_zero] at this
 exact this
theorem m0 (hN:1073741824≤N) {s:ByteArray} (hs:s.size≤1048576):gT N s=some (kK s):=by
 unfold gT jr kK
 by_cases h1:(s.size:Int)<1
 ·rw [decide_eq_true h1,show inR (s.size:Int) 1 4=false by rw [← Bool.not_eq_true,b9];omega];rfl
 by_cases h4:(4:Int)<s.size
 ·rw [decide_eq_false h1,decide_eq_true h4,show inR (s.size:Int) 1 4=false by rw [← Bool.not_eq_true,b9];omega];rfl
 rw [decide_eq_false h1,decide_eq_false h4,show inR (s.size:Int) 1 4=true by rw [b9];omega,cond_false,cond_false,za (L:=fun k i=>fT N k s i) hs hN (fun k i=>by
  show fT N (k+1) s i=_
  rw [fT]),bs]
 cases (List.range' 0 s.size).all (km s) <;> rfl
theorem mX (hN:1073741824≤N) {s:ByteArray} (hs:s.size≤1048576):gW N s=some (kK s):=by
 unfold gW kK
 rw [za (L:=fun k i=>ff N k s i) hs hN (fun k i=>by
  show ff N (k+1) s i=_
  rw [ff]),bs]
 cases (List.range' 0 s.size).all (km s)
 ·cases inR (s.size:Int) 1 4 <;> rfl
 ·simp only [cond_true,lpS,dN,bs,Bool.and_true]
end
section
variable {N:Nat}
theorem rQ {α:Type} {N:Nat} (L:Nat→Int→Option (Sum Bool Int)) (xs:List α) (q:α→Bool) (hN:1073741824≤N) (hl:xs.length≤1048576)
  (hstep:∀ k i (h:i<xs.length),L (k+1) (i:Int)=bif q xs[i] then L k ((i+1:Nat):Int) else some (.inl false)) (hend:∀ k,L (k+1) (xs.length:Int)=some (.inr (xs.length:Int))) :
  L N 0=some (bif xs.all q then .inr (xs.length:Int) else .inl false):=by
 have:=pc L xs.length (by omega) false (fun i=>if h:i<xs.length then q xs[i] else true) (xs.length:Int) (fun k i h=>by rw [hstep k i h];simp only [dif_pos h]) hend N 0 (by omega) (by omega)
 rw [Nat.sub_zero,ni xs q _ (fun i hi=>by rw [dif_pos hi])] at this
 exact this
end
theorem uB {σ R V:Type} (L:Nat→σ→Int→Option (Sum R V)) (n:Nat) (b:R) (p:Nat→Bool) (A:Nat→σ) (v:V)
  (hstep:∀ k i,i<n→L (k+1) (A i) (i:Int)=bif p i then L k (A (i+1)) ((i+1:Nat):Int) else some (.inl b)) (hend:∀ k,L (k+1) (A n) (n:Int)=some (.inr v)) :
  ∀ k i,i≤n→n-i<k→L k (A i) (i:Int)=some (bif (List.range' i (n-i)).all p then .inr v else .inl b):=by
 intro k
 induction k with
 | zero=>intro i hi hk;omega
 | succ k ih =>
  intro i hi hk
  by_cases h:i<n
  ·rw [hstep k i h,show n-i=(n-(i+1))+1 by omega,List.range'_succ,List.all_cons]
   cases hp:p i with
   | true=>rw [cond_true,Bool.true_and];exact ih (i+1) (by omega) (by omega)
   | false=>rfl
  ·obtain rfl:i=n:=by omega
   rw [hend k,Nat.sub_self];rfl
theorem fI {R V S:Type} {v:V} {f:R→Option S} {g:V→Option S}:lpS (.inr v) f g=g v:=rfl
theorem i4 {R V S:Type} {v:R} {f:R→Option S} {g:V→Option S}:lpS (.inl v) f g=f v:=rfl
abbrev aU:=ByteArray × List Int
abbrev eN (xs:List aU):Prop:=my (fun x=>x.1.size≤1048576∧(my (fun _=>True) 1048576) x.2) 1048576 xs
def iP (n:Int) (a:aU):Bool:=kK a.1&&inR a.2.length 1 5&&a.2.all fun v=>inR v 0 (n-1)
def jR (n:Int) (atoms:List aU):Bool:=(List.range' 0 n.toNat).all fun v=>atoms.any fun a=>decide ((v:Int)∈a.2)
def eO (n:Int) (atoms:List aU) (out:List Int):Bool:=inR n 1 5&&inR atoms.length 1 4&&jg out n&&atoms.all (iP n)&&jR n atoms
theorem sh:∀ (n:Nat) (xs:List Int),xs.Nodup→(∀ x∈xs,0≤x∧x<n)→xs.length≤n:=by
 intro n
 induction n with
 | zero =>
  intro xs _ h
  cases xs with
  | nil=>simp
  | cons x xs=>have:=h x (by simp);omega
 | succ n ih =>
  intro xs hn h
  by_cases hm:(n:Int)∈xs
  ·have h1:=ih (xs.erase (n:Int)) (hn.erase _) (fun x hx=>by
    have h2:=h x (List.mem_of_mem_erase hx)
    have h3:x≠n:=by rintro rfl;exact (hn.mem_erase_iff.1 hx).1 rfl
    omega)
   rw [List.length_erase_of_mem hm] at h1
   omega
  ·have:=ih xs hn (fun x hx=>by
    have h2:=h x hx
    have h3:x≠n:=by rintro rfl;exact hm hx
    omega)
   omega
theorem sf {xs:List Int} {n:Int} (h:jg xs n=true):xs.Nodup∧∀ x∈xs,0≤x∧x≤n-1:=by
 unfold jg at h
 rw [List.all_eq_true] at h
 have hk:∀ i (hi:i<xs.length),(0≤xs[i]∧xs[i]≤n-1)∧xs[i]∉xs.take i:=by
  intro i hi
  have:=h i (by simp;omega)
  simp only [fA hi,Bool.and_eq_true,b9,Bool.not_eq_true',decide_eq_false_iff_not] at this
  exact this
 refine ⟨?_,fun x hx=>?_⟩
 ·rw [List.nodup_iff_pairwise_ne,List.pairwise_iff_getElem]
  intro i j hi hj hij e
  refine (hk j hj).2 ?_
  rw [← e]
  have:(xs.take j)[i]'(by simp;omega)=xs[i]:=List.getElem_take
  rw [← this];exact List.getElem_mem _
 ·obtain ⟨i,hi,rfl⟩:=List.getElem_of_mem hx
  exact (hk i hi).1
theorem tg {xs:List Int} {n:Int} (h0:0≤n) (h:jg xs n=true):(xs.length:Int)≤n:=by
 obtain ⟨h1,h2⟩:=sf h
 have:=sh n.toNat xs h1 (fun x hx=>by have:=h2 x hx;omega)
 omega
def jy (m:Nat) (g:Nat→Bool):List Bool:=(List.range' 0 m).map g
theorem oz (m:Nat) (g:Nat→Bool):(jy m g).length=m:=by simp [jy]
theorem xB {m:Nat} {g:Nat→Bool} {i:Nat} (h:i<m):ix (jy m g) (i:Int)=some (g i):=by
 rw [aZ (by rw [oz];exact h)];simp [jy]
theorem we {m:Nat} {g:Nat→Bool} {c:Nat} (h:c<m):sto (jy m g) (c:Int) true=some (jy m fun v=>g v||decide (v=c)):=by
 rw [jN (by rw [oz];exact h)]
 congr 1
 refine List.ext_getElem (by simp [jy]) fun i h1 h2=>?_
 simp only [jy,List.getElem_set,List.getElem_map,List.getElem_range']
 simp only [Nat.zero_add,Nat.one_mul]
 by_cases e:c=i
 ·subst e;simp
 ·have e2:¬ i=c:=fun h=>e h.symm
  rw [if_neg e,decide_eq_false e2,Bool.or_false]
theorem oo {m:Nat} {f g:Nat→Bool} (h:∀ v,f v=g v):jy m f=jy m g:=by rw [show f=g from funext h]
theorem v7 (m:Nat) (g:Nat→Bool):(jy m g).all id=(List.range' 0 m).all g:=by simp [jy,List.all_map]
theorem mU {α:Type} {p:α→Bool} {xs:List α} {i:Nat} (h:i<xs.length):(xs.take (i+1)).any p=((xs.take i).any p||p xs[i]):=by
 rw [List.take_succ_eq_append_getElem h,List.any_append];simp
theorem qV {xs:List Int} {i:Nat} (h:i<xs.length) (v:Int):decide (v∈xs.take (i+1))=(decide (v∈xs.take i)||decide (v=xs[i])):=by
 have e:v∈xs.take (i+1)↔v∈xs.take i∨v=xs[i]:=by
  rw [List.take_succ_eq_append_getElem h,List.mem_append,List.mem_singleton]
 rw [Bool.eq_iff_iff];simp only [decide_eq_true_eq,Bool.or_eq_true];exact e
section
variable {N:Nat}
def i6 (m:Nat) (atoms:List aU) (i:Nat):List Bool:=jy m fun v=>(atoms.take i).any fun a=>decide ((v:Int)∈a.2)
def j8 (m:Nat) (atoms:List aU) (i:Nat) (xs:List Int) (j:Nat):List Bool:=jy m fun v=>(atoms.take i).any (fun a=>decide ((v:Int)∈a.2))||decide ((v:Int)∈xs.take j)
theorem xM (m:Nat) (atoms:List aU) (i:Nat) (xs:List Int):j8 m atoms i xs 0=i6 m atoms i:=oo fun v=>by simp
theorem uv (m:Nat) (atoms:List aU) {i:Nat} (h:i<atoms.length):j8 m atoms i atoms[i].2 atoms[i].2.length=i6 m atoms (i+1):=oo fun v=>by rw [List.take_length,mU h]
theorem tE {m:Nat} {atoms:List aU} {i:Nat} {xs:List Int} {j c:Nat} (hj:j<xs.length) (hc:xs[j]=(c:Int)) (hm:c<m):sto (j8 m atoms i xs j) (c:Int) true=some (j8 m atoms i xs (j+1)):=by
 unfold j8
 rw [we hm]
 congr 1
 refine oo fun v=>?_
 rw [qV hj,hc,Bool.or_assoc]
 congr 2
 rw [decide_eq_decide];omega
theorem wt {m:Nat} {atoms:List aU} {i:Nat} {xs:List Int} {j c:Nat} (hm:c<m):∃ b,ix (j8 m atoms i xs j) (c:Int)=some b:=⟨_,xB hm⟩
theorem xw (m:Nat) (atoms:List aU):List.replicate m false=i6 m atoms 0:=by
 refine List.ext_getElem (by simp [i6,jy]) fun i h1 h2=>?_
 simp [i6,jy]
theorem sa {m:Nat} {atoms:List aU} {i:Nat} {xs:List Int} {t:List aU} {tl ti:Int} (hx:xs.length≤1048576) (hm:m≤5) (k j:Nat) (hj:j<xs.length) :
  cL N (k+1) (m:Int) (j8 m atoms i xs j) t tl ti xs (xs.length:Int) (j:Int)=bif (if h:j<xs.length then inR xs[j] 0 ((m:Int)-1) else true) then cL N k (m:Int) (j8 m atoms i xs (j+1)) t tl ti xs (xs.length:Int) ((j+1:Nat):Int) else some (.inl false):=by
 rw [cL,dlt hj,cond_true,aZ hj,bs,eS (by omega) (by omega),bs,eW,bs,dif_pos hj]
 cases hc:inR xs[j] 0 ((m:Int)-1) with
 | false=>rw [cond_false,cond_false]
 | true =>
  have hc':=b9.1 hc
  obtain ⟨c,hcc⟩:=Int.eq_ofNat_of_zero_le hc'.1
  obtain ⟨b,hb⟩:=wt (m:=m) (atoms:=atoms) (i:=i) (xs:=xs) (j:=j) (c:=c) (by omega)
  rw [cond_true,cond_true,hcc,hb,bs,tE hj hcc (by omega),bs,ad1 (by omega),bs]
theorem zc (hN:1073741824≤N) {m:Nat} {atoms:List aU} {i:Nat} {xs:List Int} {t:List aU} {tl ti:Int} (hx:xs.length≤1048576) (hm:m≤5) :
  cL N N (m:Int) (i6 m atoms i) t tl ti xs (xs.length:Int) 0=some (bif xs.all (fun v=>inR v 0 ((m:Int)-1)) then .inr (j8 m atoms i xs xs.length,(xs.length:Int)) else .inl false):=by
 have h:=uB (fun k (s:List Bool) j=>cL N k (m:Int) s t tl ti xs (xs.length:Int) j) xs.length false (fun j=>if h:j<xs.length then inR xs[j] 0 ((m:Int)-1) else true) (j8 m atoms i xs) (j8 m atoms i xs xs.length,(xs.length:Int))
  (fun k j hj=>sa hx hm k j hj)
  (fun k=>by
   show cL N (k+1) (m:Int) _ t tl ti xs _ (xs.length:Int)=_
   rw [cL,dge (by omega),cond_false]) N 0 (by omega) (by omega)
 rw [Nat.sub_zero,ni xs (fun v=>inR v 0 ((m:Int)-1)) _ (fun j hj=>by rw [dif_pos hj]),xM] at h
 exact h
theorem sd (hN:1073741824≤N) {m:Nat} {atoms:List aU} (ha:eN atoms) (hm:m≤5) (k i:Nat) (h:i<atoms.length) :
  cN N (k+1) (m:Int) (i6 m atoms i) atoms (atoms.length:Int) (i:Int)=bif (if h:i<atoms.length then iP m atoms[i] else true) then cN N k (m:Int) (i6 m atoms (i+1)) atoms (atoms.length:Int) ((i+1:Nat):Int) else some (.inl false):=by
 have hl:=ha.1
 obtain ⟨g1,g2⟩:=ha.2 _ (List.getElem_mem h)
 rw [cN,dlt h,cond_true,aZ h,bs,m0 hN g1,bs,eW,bs,dif_pos h]
 unfold iP
 cases kK atoms[i].1 with
 | false=>simp only [Bool.false_and,Bool.and_false,Bool.true_and,cond_false,cond_true]
 | true =>
  cases inR (atoms[i].2.length:Int) 1 5 with
  | false=>simp only [Bool.false_and,Bool.and_false,Bool.true_and,cond_false,cond_true]
  | true =>
   simp only [cond_true,Bool.true_and]
   rw [zc hN g2.1 hm,bs]
   cases atoms[i].2.all fun v=>inR v 0 ((m:Int)-1) with
   | false=>simp only [cond_false,lpS]
   | true =>
    rw [cond_true,fI,ad1 (by omega),bs,uv m atoms h,cond_true]
theorem yO (hN:1073741824≤N) {m:Nat} {atoms:List aU} (ha:eN atoms) (hm:m≤5) :
  cN N N (m:Int) (List.replicate m false) atoms (atoms.length:Int) 0=some (bif atoms.all (iP m) then .inr (i6 m atoms atoms.length,(atoms.length:Int)) else .inl false):=by
 have hl:=ha.1
 have h:=uB (fun k (s:List Bool) i=>cN N k (m:Int) s atoms (atoms.length:Int) i) atoms.length false (fun i=>if h:i<atoms.length then iP m atoms[i] else true) (i6 m atoms) (i6 m atoms atoms.length,(atoms.length:Int))
  (fun k i h=>sd hN ha hm k i h)
  (fun k=>by
   show cN N (k+1) (m:Int) _ atoms _ (atoms.length:Int)=_
   rw [cN,dge (by omega),cond_false]) N 0 (by omega) (by omega)
 rw [Nat.sub_zero,ni atoms (iP m) _ (fun i hi=>by rw [dif_pos hi]),← xw] at h
 exact h
theorem zu (hN:1073741824≤N) {xs:List Bool} (hx:xs.length≤1048576):c7 N N xs (xs.length:Int) 0=some (bif xs.all id then .inr (xs.length:Int) else .inl false) :=
 rQ (fun k i=>c7 N k xs (xs.length:Int) i) xs id hN hx
  (fun k i h=>by
   show c7 N (k+1) _ _ (i:Int)=_
   rw [c7,dlt h,cond_true,aZ h,bs,ad1 (by omega),bs];rfl)
  (fun k=>by
   show c7 N (k+1) _ _ (xs.length:Int)=_
   rw [c7,dge (by omega),cond_false])
theorem uh {m:Nat} {atoms:List aU}:(i6 m atoms atoms.length).all id=jR m atoms:=by
 unfold i6 jR
 rw [v7,Int.toNat_natCast,List.take_length]
theorem o5 {n:Int} {atoms:List aU} {out:List Int} (h:inR n 1 5=false):eO n atoms out=false:=by unfold eO;rw [h];rfl
theorem gN (hN:1073741824≤N) {n:Int} {atoms:List aU} {out:List Int} (ha:eN atoms) (ho:okI out):e7 N n atoms out=some (eO n atoms out):=by
 have hl:=ha.1
 unfold e7
 rw [eW,bs,eW,bs]
 cases hn:inR n 1 5 with
 | false=>rw [o5 hn];rfl
 | true =>
  have hn':=b9.1 hn
  unfold eO
  rw [hn,cond_true,tj hN ho.1 (by omega),bs]
  cases inR (atoms.length:Int) 1 4 with
  | false=>rfl
  | true =>
   cases jg out n with
   | false=>rfl
   | true =>
    obtain ⟨m,rfl⟩:=Int.eq_ofNat_of_zero_le (by omega:0≤n)
    simp only [cond_true,Bool.and_self,Bool.true_and]
    rw [q8 (by decide) (by omega),bs,yO hN ha (by omega),bs]
    cases atoms.all (iP m) with
    | false=>rfl
    | true =>
     simp only [cond_true,lpS,Bool.true_and]
     rw [zu hN (by unfold i6;rw [oz];omega),bs,uh]
     cases jR m atoms <;> rfl
theorem gV (hN:1073741824≤N) {s:ByteArray} {xs:List Int} {v:Int} (hx:okI xs):dP N s xs v=some (decide (v∈xs)):=by
 have hl:=hx.1
 have:=wa (fun k i=>ci N k v s xs i) xs (fun x=>decide (x=v)) (fun _=>true) (xs.length:Int) (by omega)
  (fun k i h=>by
   show ci N (k+1) v s xs (i:Int)=_
   rw [ci,dlt h,cond_true,aZ h,bs,ad1 (by omega),bs,At])
  (fun k=>by
   show ci N (k+1) v s xs (xs.length:Int)=_
   rw [ci,dge (by omega),cond_false]) N 0 (by omega) (by omega)
 rw [List.drop_zero] at this
 have this':ci N N v s xs 0=_:=this
 unfold dP
 rw [this',bs]
 cases hf:xs.find? (fun x=>decide (x=v)) with
 | none =>
  have:v∉xs:=fun hm=>by have:=(List.find?_eq_none.1 hf) v hm;simp at this
  simp [lpS,this]
 | some y =>
  have h1:=List.find?_some hf
  have h2:=List.mem_of_find?_eq_some hf
  have:v∈xs:=by simp at h1;rw [← h1];exact h2
  simp [lpS,this]
theorem lA (hN:1073741824≤N) {s:ByteArray} {xs:List Int} {v:Int} (hx:okI xs):fG N s xs v=some (decide (v∈xs)):=by
 unfold fG;rw [qy hN hx.1,bs]
theorem zo (hN:1073741824≤N) {n:Int} {atoms:List aU} {out:List Int} {i:Nat} (h:i<atoms.length) (hn:n≤5) (h0:0≤n) (hx:atoms[i].2.length≤1048576) :
  dc N N n atoms out (i:Int) 0=some (bif atoms[i].2.all (fun v=>inR v 0 (n-1)) then .inr (atoms[i].2.length:Int) else .inl false) :=
 rQ (fun k2 j=>dc N k2 n atoms out (i:Int) j) atoms[i].2 (fun v=>inR v 0 (n-1)) hN hx
  (fun k2 j hj=>by
   show dc N (k2+1) n atoms out (i:Int) (j:Int)=_
   rw [dc,aZ h,bs,dlt hj,cond_true,bs,aZ hj,bs,eS (by omega) (by omega),bs,dN,bs,ad1 (by omega),bs])
  (fun k2=>by
   show dc N (k2+1) n atoms out (i:Int) (atoms[i].2.length:Int)=_
   rw [dc,aZ h,bs,dge (by omega),cond_false])
theorem y2 (hN:1073741824≤N) {n:Int} {atoms:List aU} {out:List Int} (ha:eN atoms) (hn:n≤5) (h0:0≤n) :
  c6 N N n atoms out 0=some (bif atoms.all (iP n) then .inr (atoms.length:Int) else .inl false) :=
 rQ (fun k i=>c6 N k n atoms out i) atoms (iP n) hN ha.1
  (fun k i h=>by
   have hl:=ha.1
   obtain ⟨g1,g2⟩:=ha.2 _ (List.getElem_mem h)
   show c6 N (k+1) n atoms out (i:Int)=_
   rw [c6,dlt h,cond_true,aZ h,bs,mX hN g1,bs,bs,dN,bs]
   unfold iP
   cases kK atoms[i].1 with
   | false=>simp only [Bool.false_and,Bool.and_false,Bool.true_and,cond_false,cond_true]
   | true =>
    cases inR (atoms[i].2.length:Int) 1 5 with
    | false=>simp only [Bool.false_and,Bool.and_false,Bool.true_and,cond_false,cond_true]
    | true =>
     simp only [cond_true,Bool.true_and]
     rw [zo hN h hn h0 g2.1,bs]
     cases atoms[i].2.all fun v=>inR v 0 (n-1) with
     | false=>simp only [cond_false,lpS]
     | true =>
      rw [cond_true,fI,ad1 (by omega),bs,cond_true])
  (fun k=>by
   show c6 N (k+1) n atoms out (atoms.length:Int)=_
   rw [c6,dge (by omega),cond_false])
theorem zF (hN:1073741824≤N) {n v:Int} {atoms:List aU} {out:List Int} (ha:eN atoms) :
  cK N N n atoms out v false 0=some (atoms.any (fun a=>decide (v∈a.2)),(atoms.length:Int)):=by
 have hl:=ha.1
 exact hG (fun k2 (s:Bool) j=>cK N k2 n atoms out v s j) atoms.length (fun j=>(atoms.take j).any fun a=>decide (v∈a.2)) (atoms.any (fun a=>decide (v∈a.2)),(atoms.length:Int))
  (fun k2 j hj=>by
   obtain ⟨g1,g2⟩:=ha.2 _ (List.getElem_mem hj)
   show cK N (k2+1) n atoms out v _ (j:Int)=_
   rw [cK,dlt hj,cond_true,mU hj,ad1 (by omega),bs,aZ hj,bs,gV hN g2,bs,bs]
   cases (atoms.take j).any fun a=>decide (v∈a.2) <;> rfl)
  (fun k2=>by
   show cK N (k2+1) n atoms out v _ (atoms.length:Int)=_
   rw [cK,dge (by omega),cond_false,List.take_length]) N 0 (by omega) (by omega)
theorem zH (hN:1073741824≤N) {m:Nat} {atoms:List aU} {out:List Int} (ha:eN atoms) (hm:m≤5) :
  df N N (m:Int) atoms out 0=some (bif jR m atoms then .inr (m:Int) else .inl false):=by
 have h:=pc (fun k i=>df N k (m:Int) atoms out i) m (by omega) false (fun v=>atoms.any fun a=>decide ((v:Int)∈a.2)) (m:Int)
  (fun k v h=>by
   show df N (k+1) (m:Int) atoms out (v:Int)=_
   rw [df,dlt h,cond_true,zF hN ha,bs,lpB]
   simp only []
   rw [ad1 (by omega),bs])
  (fun k=>by
   show df N (k+1) (m:Int) atoms out (m:Int)=_
   rw [df,dge (by omega),cond_false]) N 0 (by omega) (by omega)
 unfold jR
 rw [Int.toNat_natCast]
 rw [Nat.sub_zero] at h
 exact h
theorem yo (hN:1073741824≤N) {n:Int} {atoms:List aU} {out:List Int} (ho:out.length≤1048576) (hn:n≤5) (h0:0≤n) :
  c5 N N n atoms out 0=some (bif jg out n then .inr (out.length:Int) else .inl false):=by
 have h:=pc (fun k i=>c5 N k n atoms out i) out.length (by omega) false (fun i=>inR (out.getD i 0) 0 (n-1)&&!decide (out.getD i 0∈out.take i)) (out.length:Int)
  (fun k i h=>by
   show c5 N (k+1) n atoms out (i:Int)=_
   rw [c5,dlt h,cond_true,aZ h,bs,eS (by omega) (by omega),bs,dN,bs,show ((0:Int))=((0:Nat):Int) from rfl,nF (Nat.zero_le _) (by omega),bs,bs,List.drop_zero,tY hN (by simp;omega),bs,ad1 (by omega),bs]
   simp only [fA h,nr,show ((0:Nat):Int)=0 from rfl]
   cases inR out[i] 0 (n-1)
   ·rfl
   ·cases decide (out[i]∈out.take i) <;> rfl)
  (fun k=>by
   show c5 N (k+1) n atoms out (out.length:Int)=_
   rw [c5,dge (by omega),cond_false]) N 0 (by omega) (by omega)
 rw [Nat.sub_zero] at h
 exact h
theorem gL (hN:1073741824≤N) {n:Int} {atoms:List aU} {out:List Int} (ha:eN atoms) (ho:okI out):eC N n atoms out=some (eO n atoms out):=by
 have hl:=ha.1
 have hol:=ho.1
 unfold eC
 rw [dN,bs,dN,bs]
 cases hn:inR n 1 5 with
 | false=>rw [o5 hn];rfl
 | true =>
  have hn':=b9.1 hn
  unfold eO
  rw [hn]
  cases inR (atoms.length:Int) 1 4 with
  | false=>rfl
  | true =>
   simp only [cond_true,Bool.true_and]
   by_cases hlen:n<(out.length:Int)
   ·have:jg out n=false:=by
     rw [← Bool.not_eq_true];intro h
     have:=tg (by omega) h;omega
    rw [decide_eq_true hlen,cond_true,this];rfl
   ·obtain ⟨m,rfl⟩:=Int.eq_ofNat_of_zero_le (by omega:0≤n)
    rw [decide_eq_false hlen,cond_false,y2 hN ha (by omega) (by omega),bs]
    cases atoms.all (iP m) with
    | false=>rw [Bool.and_false,Bool.false_and];rfl
    | true =>
     simp only [cond_true,lpS,Bool.and_true]
     rw [zH hN ha (by omega),bs]
     cases jR m atoms with
     | false=>rw [Bool.and_false];rfl
     | true =>
      simp only [cond_true,lpS,Bool.and_true]
      rw [yo hN hol (by omega) (by omega),bs]
      cases jg out m <;> rfl
theorem jf {n:Int} {atoms:List aU} {out:List Int} (h:eO n atoms out=true):1≤n∧n≤5∧1≤(atoms.length:Int)∧(atoms.length:Int)≤4:=by
 unfold eO at h
 simp only [Bool.and_eq_true,b9] at h
 exact ⟨h.1.1.1.1.1,h.1.1.1.1.2,h.1.1.1.2.1,h.1.1.1.2.2⟩
end
section
variable {N:Nat}
theorem As (N:Nat):∀ (k:Nat) (x y:Int),cV N k x y=gh N k x y:=by
 intro k
 induction k with
 | zero=>intro x y;rw [cV,gh]
 | succ k ih=>intro x y;rw [cV,gh];simp only [ih]
theorem oL (N:Nat) (x y:Int):d7 N x y=gC N x y:=by unfold d7 gC;rw [As]
theorem tK {a b:Int} (ha:0≤a) (hb:0<b) (h:a≤4611686018427387904):qt a b=some (a.tdiv b):=by
 have h1:0≤a.tdiv b:=Int.tdiv_nonneg ha (by omega)
 have h2:a.tdiv b≤a:=Int.tdiv_le_self b ha
 unfold qt;rw [if_pos ⟨by omega,j0 (by omega) (by omega)⟩]
theorem sq {a b:Int} (ha:0≤a) (hb:0<b):0≤a.tdiv b∧a.tdiv b≤a:=⟨Int.tdiv_nonneg ha (by omega),Int.tdiv_le_self b ha⟩
theorem ur:∀ (m k:Nat) (x y:Int),0≤x→0≤y→y≤m→m<k→(0<x∨0<y)→∃ g z,gh N k x y=some (g,z)∧0<g:=by
 intro m
 induction m with
 | zero =>
  intro k x y hx hy hm hk h
  obtain ⟨k,rfl⟩:∃ k',k=k'+1:=⟨k-1,by omega⟩
  obtain rfl:y=0:=by omega
  rw [gh,show ((0:Int) != 0)=false from rfl,cond_false]
  exact ⟨x,0,rfl,by omega⟩
 | succ m ih =>
  intro k x y hx hy hm hk h
  obtain ⟨k,rfl⟩:∃ k',k=k'+1:=⟨k-1,by omega⟩
  rw [gh]
  by_cases h0:y=0
  ·subst h0
   rw [show ((0:Int) != 0)=false from rfl,cond_false]
   exact ⟨x,0,rfl,by omega⟩
  ·rw [show (y != 0)=true by simpa using h0,cond_true,nM h0,bs]
   obtain ⟨t1,t2⟩:=pV (b:=y) hx (by omega)
   exact ih k y (x.tmod y) hy t1 (by omega) (by omega) (.inl (by omega))
theorem rz (hN:1073741824≤N) {x y:Int} (hx:0≤x) (hy:0≤y) (h1:y≤1000000000) (h:0<x∨0<y):∃ g,gC N x y=some g∧0<g:=by
 obtain ⟨g,z,e,hg⟩:=ur (N:=N) 1000000000 N x y hx hy (by omega) (by omega) h
 refine ⟨g,?_,hg⟩
 unfold gC;rw [e,bs,lpB]
abbrev cj:=Int × Int
theorem lx (N:Nat) (n d:Int):ax N n d=bk N n d:=by
 unfold ax bk
 rw [dN,eW,bs,bs,dN,eW,bs,bs]
 unfold iH
 cases inR d 1 1000000000
 ·rfl
 cases inR n (-1000000000) 1000000000
 ·rfl
 rw [cond_true,cond_true,cond_true,cond_true]
 cases sb 0 n with
 | none=>rfl
 | some z=>rw [bs,bs,bs,oL]
theorem rG (hN:1073741824≤N) (n d:Int):∃ b,bk N n d=some b∧(b=true→1≤d∧d≤1000000000∧-1000000000≤n∧n≤1000000000):=by
 unfold bk
 rw [eW,bs,eW,bs]
 cases h1:inR d 1 1000000000
 ·exact ⟨false,rfl,fun h=>by cases h⟩
 cases h2:inR n (-1000000000) 1000000000
 ·exact ⟨false,rfl,fun h=>by cases h⟩
 have h1':=b9.1 h1
 have h2':=b9.1 h2
 have hab:0≤imx n (0-n):=by unfold imx;split <;> omega
 obtain ⟨g,e,_⟩:=rz (N:=N) hN hab (by omega:0≤d) (by omega) (.inr (by omega))
 unfold iH
 rw [cond_true,cond_true,eS (by omega) (by omega),bs,bs,e,bs]
 exact ⟨_,rfl,fun _=>⟨h1'.1,h1'.2,h2'.1,h2'.2⟩⟩
def wOk (N:Nat) (r:cj):Bool:=(bk N r.1 r.2).getD false&&decide (0≤r.1)
theorem mi (hN:1073741824≤N) {r:cj} (h:wOk N r=true):bk N r.1 r.2=some true∧0≤r.1∧r.1≤1000000000∧1≤r.2∧r.2≤1000000000:=by
 obtain ⟨b,e,hb⟩:=rG hN r.1 r.2
 unfold wOk at h
 rw [e,Option.getD_some,Bool.and_eq_true,decide_eq_true_eq] at h
 obtain ⟨rfl,h2⟩:=h
 have:=hb rfl
 exact ⟨e,h2,this.2.2.2,this.1,this.2.1⟩
theorem qx (hN:1073741824≤N) (r:cj):wOk N r=true∨(wOk N r=false∧(bk N r.1 r.2=some false∨bk N r.1 r.2=some true∧r.1<0)):=by
 obtain ⟨b,e,hb⟩:=rG hN r.1 r.2
 unfold wOk
 rw [e,Option.getD_some]
 cases b with
 | false=>exact .inr ⟨rfl,.inl rfl⟩
 | true =>
  by_cases h:0≤r.1
  ·exact .inl (by rw [decide_eq_true h];rfl)
  ·exact .inr ⟨by rw [decide_eq_false h];rfl,.inr ⟨rfl,by omega⟩⟩
def k9 (N:Nat) (d:Int) (r:cj):Int:=(d.tdiv ((gC N d r.2).getD 1))*r.2
theorem oD (hN:1073741824≤N) {d:Int} {r:cj} (h:wOk N r=true) (h0:0≤d) (h1:d≤1000):∃ g,gC N d r.2=some g∧qt d g=some (d.tdiv g)∧ml (d.tdiv g) r.2=some (k9 N d r)∧0≤k9 N d r:=by
 obtain ⟨_,_,_,k1,k2⟩:=mi hN h
 obtain ⟨g,e,hg⟩:=rz (N:=N) hN h0 (by omega:0≤r.2) k2 (.inr (by omega))
 obtain ⟨t1,t2⟩:=sq h0 hg
 have hm:0≤d.tdiv g*r.2:=Int.mul_nonneg t1 (by omega)
 have hm2:d.tdiv g*r.2≤1000*1000000000:=Int.mul_le_mul (by omega) k2 (by omega) (by omega)
 have es:k9 N d r=d.tdiv g*r.2:=by unfold k9;rw [e];rfl
 refine ⟨g,e,tK h0 hg (by omega),?_,?_⟩
 ·rw [es,dL (by omega) (by omega)]
 ·rw [es];exact hm
def sD (N:Nat) (rs:List cj):Nat→Nat→Int→Option Int
 | 0,_,d=>some d
 | m+1,i,d=>if 1000<k9 N d (rs.getD i (0,0)) then none else sD N rs m (i+1) (k9 N d (rs.getD i (0,0)))
theorem zV (hN:1073741824≤N) {rs:List cj} (ha:∀ i,i<rs.length→wOk N (rs.getD i (0,0))=true):∀ m i d d',i+m=rs.length→0≤d→d≤1000→sD N rs m i d=some d'→0≤d'∧d'≤1000:=by
 intro m
 induction m with
 | zero=>intro i d d' _ h0 h1 h;unfold sD at h;cases h;exact ⟨h0,h1⟩
 | succ m ih =>
  intro i d d' hi h0 h1 h
  unfold sD at h
  obtain ⟨g,_,_,_,g4⟩:=oD hN (ha i (by omega)) h0 h1
  by_cases hc:1000<k9 N d (rs.getD i (0,0))
  ·rw [if_pos hc] at h;cases h
  ·rw [if_neg hc] at h;exact ih (i+1) _ d' (by omega) g4 (by omega) h
theorem ll {rs:List cj} {i:Nat} (h:i<rs.length):rs[i]=rs.getD i (0,0):=by simp [h]
def rY (rs:List cj) (o:Option Int):Sum (List Int × Int) (Int × Int):=match o with | none=>.inl ([],0) | some d=>.inr (d,(rs.length:Int))
theorem tS (hN:1073741824≤N) {rs:List cj} (hl:rs.length≤1048576):∀ m i k d,i+m=rs.length→m<k→0≤d→d≤1000 →
  bM N k rs d (i:Int)=some (bif (List.range' i m).all (fun j=>wOk N (rs.getD j (0,0))) then rY rs (sD N rs m i d) else .inl ([],0)):=by
 intro m
 induction m with
 | zero =>
  intro i k d hi hk h0 h1
  obtain ⟨k,rfl⟩:∃ k',k=k'+1:=⟨k-1,by omega⟩
  obtain rfl:i=rs.length:=by omega
  rw [bM,dge (by omega),cond_false];rfl
 | succ m ih =>
  intro i k d hi hk h0 h1
  obtain ⟨k,rfl⟩:∃ k',k=k'+1:=⟨k-1,by omega⟩
  have h:i<rs.length:=by omega
  rw [bM,dlt h,cond_true,aZ h,bs,ll h,lx,List.range'_succ,List.all_cons]
  rcases qx hN (rs.getD i (0,0)) with hw | ⟨hw,hw2 | ⟨hw2,hw3⟩⟩
  ·obtain ⟨k1,k2,k3,k4,k5⟩:=mi hN hw
   obtain ⟨g,g1,g2,g3,g4⟩:=oD hN hw h0 h1
   rw [hw,k1,bs,cond_true,bs,decide_eq_false (by omega),cond_false,bs,oL,g1,bs,g2,bs,bs,g3,bs,Bool.true_and,sD]
   by_cases hc:1000<k9 N d (rs.getD i (0,0))
   ·rw [decide_eq_true hc,cond_true,if_pos hc]
    cases (List.range' (i+1) m).all (fun j=>wOk N (rs.getD j (0,0))) <;> rfl
   ·rw [decide_eq_false hc,cond_false,if_neg hc,ad1 (by omega),bs,ih (i+1) k _ (by omega) (by omega) g4 (by omega)]
  ·rw [hw,hw2,bs,cond_false,Bool.false_and,cond_false]
  ·rw [hw,hw2,bs,cond_true,bs,decide_eq_true hw3,cond_true,Bool.false_and,cond_false]
theorem uD (hN:1073741824≤N) {rs:List cj} (hl:rs.length≤1048576):∀ m i k d,i+m=rs.length→m<k →
  dr N k rs d rs (rs.length:Int) (i:Int)=some (bif (List.range' i m).all (fun j=>wOk N (rs.getD j (0,0))) then .inr (rs.length:Int) else .inl ([],0)):=by
 intro m
 induction m with
 | zero =>
  intro i k d hi hk
  obtain ⟨k,rfl⟩:∃ k',k=k'+1:=⟨k-1,by omega⟩
  obtain rfl:i=rs.length:=by omega
  rw [dr,dge (by omega),cond_false];rfl
 | succ m ih =>
  intro i k d hi hk
  obtain ⟨k,rfl⟩:∃ k',k=k'+1:=⟨k-1,by omega⟩
  have h:i<rs.length:=by omega
  rw [dr,dlt h,cond_true,aZ h,bs,ll h,List.range'_succ,List.all_cons]
  rcases qx hN (rs.getD i (0,0)) with hw | ⟨hw,hw2 | ⟨hw2,hw3⟩⟩
  ·obtain ⟨k1,k2,k3,k4,k5⟩:=mi hN hw
   rw [hw,k1,bs,cond_true,decide_eq_false (by omega),cond_false,Bool.true_and,ad1 (by omega),bs,ih (i+1) k d (by omega) (by omega)]
  ·rw [hw,hw2,bs,cond_false,Bool.false_and,cond_false]
  ·rw [hw,hw2,bs,cond_true,decide_eq_true hw3,cond_true,Bool.false_and,cond_false]
theorem ua (hN:1073741824≤N) {rs:List cj} (hl:rs.length≤1048576) (ha:∀ i,i<rs.length→wOk N (rs.getD i (0,0))=true):∀ m i k d,i+m=rs.length→m<k→0≤d→d≤1000 →
  dv N k rs d rs (rs.length:Int) (i:Int)=some (rY rs (sD N rs m i d)):=by
 intro m
 induction m with
 | zero =>
  intro i k d hi hk h0 h1
  obtain ⟨k,rfl⟩:∃ k',k=k'+1:=⟨k-1,by omega⟩
  obtain rfl:i=rs.length:=by omega
  rw [dv,dge (by omega),cond_false];rfl
 | succ m ih =>
  intro i k d hi hk h0 h1
  obtain ⟨k,rfl⟩:∃ k',k=k'+1:=⟨k-1,by omega⟩
  have h:i<rs.length:=by omega
  obtain ⟨g,g1,g2,g3,g4⟩:=oD hN (ha i h) h0 h1
  rw [dv,dlt h,cond_true,aZ h,bs,ll h,g1,bs,g2,bs,g3,bs,sD]
  by_cases hc:1000<k9 N d (rs.getD i (0,0))
  ·rw [decide_eq_true hc,cond_true,if_pos hc];rfl
  ·rw [decide_eq_false hc,cond_false,if_neg hc,ad1 (by omega),bs,ih (i+1) k _ (by omega) (by omega) g4 (by omega)]
def gD (rs:List cj) (d:Int) (i:Nat):List Int:=(rs.take i).map fun r=>r.1*d.tdiv r.2
theorem qD {rs:List cj} {d:Int} {i:Nat} (h:i<rs.length):gD rs d i++[(rs.getD i (0,0)).1*d.tdiv (rs.getD i (0,0)).2]=gD rs d (i+1):=by
 unfold gD;rw [List.take_succ_eq_append_getElem h,List.map_append,ll h];rfl
theorem oQ {rs:List cj} {d:Int} {i:Nat}:(gD rs d i).length≤rs.length:=by unfold gD;simp;omega
theorem sE (hN:1073741824≤N) {d:Int} {r:cj} (h:wOk N r=true) (h0:0≤d) (h1:d≤1000):qt d r.2=some (d.tdiv r.2)∧ml r.1 (d.tdiv r.2)=some (r.1*d.tdiv r.2):=by
 obtain ⟨_,k0,k1,k2,k3⟩:=mi hN h
 obtain ⟨t1,t2⟩:=sq h0 (by omega:0<r.2)
 have hm:0≤r.1*d.tdiv r.2:=Int.mul_nonneg k0 t1
 have hm2:r.1*d.tdiv r.2≤1000000000*1000:=Int.mul_le_mul k1 (by omega) t1 (by omega)
 exact ⟨tK h0 (by omega) (by omega),dL (by omega) (by omega)⟩
theorem qC (hN:1073741824≤N) {rs:List cj} (hl:rs.length≤1048576) (ha:∀ i,i<rs.length→wOk N (rs.getD i (0,0))=true) {d:Int} (h0:0≤d) (h1:d≤1000) :
  cD N N rs d [] 0=some (gD rs d rs.length,(rs.length:Int)) :=
 hG (fun k (s:List Int) i=>cD N k rs d s i) rs.length (gD rs d) (gD rs d rs.length,(rs.length:Int))
  (fun k i h=>by
   obtain ⟨q1,q2⟩:=sE hN (ha i h) h0 h1
   have ho:=oQ (rs:=rs) (d:=d) (i:=i)
   show cD N (k+1) rs d (gD rs d i) (i:Int)=_
   rw [cD,dlt h,cond_true,aZ h,bs,bs,ll h,q1,bs,q2,bs,bm (by decide) (by simp;omega),bs,qD h,ad1 (by omega),bs])
  (fun k=>by
   show cD N (k+1) rs d (gD rs d rs.length) (rs.length:Int)=_
   rw [cD,dge (by omega),cond_false]) N 0 (by omega) (by omega)
theorem uq (hN:1073741824≤N) {rs:List cj} (hl:rs.length≤1048576) (ha:∀ i,i<rs.length→wOk N (rs.getD i (0,0))=true) {d:Int} (h0:0≤d) (h1:d≤1000) :
  cC N N d [] rs (rs.length:Int) 0=some (gD rs d rs.length,(rs.length:Int)) :=
 hG (fun k (s:List Int) i=>cC N k d s rs (rs.length:Int) i) rs.length (gD rs d) (gD rs d rs.length,(rs.length:Int))
  (fun k i h=>by
   obtain ⟨q1,q2⟩:=sE hN (ha i h) h0 h1
   have ho:=oQ (rs:=rs) (d:=d) (i:=i)
   show cC N (k+1) d (gD rs d i) rs (rs.length:Int) (i:Int)=_
   rw [cC,dlt h,cond_true,aZ h,bs,ll h,q1,bs,q2,bs,bm (by decide) (by simp;omega),bs,qD h,ad1 (by omega),bs])
  (fun k=>by
   show cC N (k+1) d (gD rs d rs.length) rs (rs.length:Int) (rs.length:Int)=_
   rw [cC,dge (by omega),cond_false]) N 0 (by omega) (by omega)
theorem tL (hN:1073741824≤N) {rs:List cj} (hl:rs.length≤1048576):∃ v:List Int × Int,bV N rs=some v∧dZ N rs=some v∧v.1.length≤1048576:=by
 have s1:=tS hN hl rs.length 0 N 1 (by omega) (by omega) (by omega) (by omega)
 have i1:=uD hN hl rs.length 0 N 1 (by omega) (by omega)
 have s1':bM N N rs 1 0=_:=s1
 have i1':dr N N rs 1 rs (rs.length:Int) 0=_:=i1
 unfold bV dZ
 rw [s1',i1',bs,bs]
 cases ha:(List.range' 0 rs.length).all (fun j=>wOk N (rs.getD j (0,0))) with
 | false=>exact ⟨([],0),by rw [cond_false,i4],by rw [cond_false,i4],Nat.zero_le _⟩
 | true =>
  have ha':∀ i,i<rs.length→wOk N (rs.getD i (0,0))=true:=fun i h=>(List.all_eq_true.1 ha) i (by simp;omega)
  have i2:=ua hN hl ha' rs.length 0 N 1 (by omega) (by omega) (by omega) (by omega)
  have i2':dv N N rs 1 rs (rs.length:Int) 0=_:=i2
  rw [cond_true,cond_true,fI,i2',bs]
  cases hd:sD N rs rs.length 0 1 with
  | none=>exact ⟨([],0),by unfold rY;rw [i4],by unfold rY;rw [i4],Nat.zero_le _⟩
  | some d =>
   obtain ⟨d0,d1⟩:=zV hN ha' rs.length 0 1 d (by omega) (by omega) (by omega) hd
   unfold rY
   rw [fI,fI]
   simp only []
   rw [qC hN hl ha' d0 d1,uq hN hl ha' d0 d1,bs,lpB]
   exact ⟨_,rfl,rfl,by have:=oQ (rs:=rs) (d:=d) (i:=rs.length);show (gD rs d rs.length).length≤_;omega⟩
end
theorem q7 {σ V:Type} (L1 L2:Nat→σ→Int→Option V) (n:Nat) (I:Nat→σ→Prop) (P:V→Prop)
  (hstep:∀ k i s,i<n→I i s→(∃ s',L1 (k+1) s (i:Int)=L1 k s' ((i+1:Nat):Int)∧L2 (k+1) s (i:Int)=L2 k s' ((i+1:Nat):Int)∧I (i+1) s')∨∃ v,L1 (k+1) s (i:Int)=some v∧L2 (k+1) s (i:Int)=some v∧P v)
  (hend:∀ k s,I n s→∃ v,L1 (k+1) s (n:Int)=some v∧L2 (k+1) s (n:Int)=some v∧P v) :
  ∀ k i s,i≤n→n-i<k→I i s→∃ v,L1 k s (i:Int)=some v∧L2 k s (i:Int)=some v∧P v:=by
 intro k
 induction k with
 | zero=>intro i s hi hk;omega
 | succ k ih =>
  intro i s hi hk hI
  by_cases h:i<n
  ·rcases hstep k i s h hI with ⟨s',e1,e2,hI'⟩ | ⟨v,e1,e2,hP⟩
   ·rw [e1,e2];exact ih (i+1) s' (by omega) (by omega) hI'
   ·exact ⟨v,e1,e2,hP⟩
  ·obtain rfl:i=n:=by omega
   exact hend k s hI
section
variable {N:Nat}
theorem Am (N:Nat):∀ (k:Nat) (x:Int) (a b:List Int),eM N k x a b=bP N k x a b:=by
 intro k
 induction k with
 | zero=>intro x a b;rw [eM,bP]
 | succ k ih=>intro x a b;rw [eM,bP];simp only [ih]
theorem mD (N:Nat) (n:Int):dz N n=cQ N n:=by unfold dz cQ;rw [Am]
theorem qg {x:Int} (h0:0≤x) (h1:x≤9223372036854775807):qt x 10=some (x / 10):=by
 have e:x.tdiv 10=x / 10:=Int.tdiv_eq_ediv_of_nonneg h0
 unfold qt
 rw [if_pos ⟨by decide,by rw [e];unfold rng;simp only [Bool.and_eq_true,decide_eq_true_eq];omega⟩,e]
theorem p7 (x:Int):rm x 10=some (x.tmod 10):=nM (by decide)
theorem Aw:∀ (m k:Nat) (x:Int) (a b:List Int),0≤x→x≤9223372036854775807→x<10 ^ m→m<k→b.length+m≤1048576→∃ y b',bP N k x a b=some (y,b')∧b'.length≤b.length+m:=by
 intro m
 induction m with
 | zero =>
  intro k x a b h0 hm h1 hk hb
  obtain ⟨k,rfl⟩:∃ k',k=k'+1:=⟨k-1,by omega⟩
  rw [bP,decide_eq_false (by simp at h1;omega),cond_false]
  exact ⟨x,b,rfl,by omega⟩
 | succ m ih =>
  intro k x a b h0 hm h1 hk hb
  obtain ⟨k,rfl⟩:∃ k',k=k'+1:=⟨k-1,by omega⟩
  rw [bP]
  by_cases hx:0<x
  ·have hd:x / 10<10 ^ m:=by rw [Int.pow_succ] at h1;omega
   rw [decide_eq_true hx,cond_true,p7,bs,bm (by decide) (by simp;omega),bs,qg h0 hm,bs]
   obtain ⟨y,b',e,hl⟩:=ih k (x / 10) a (b++[x.tmod 10]) (by omega) (by omega) hd (by omega) (by rw [List.length_append,List.length_singleton];omega)
   rw [List.length_append,List.length_singleton] at hl
   exact ⟨y,b',e,by omega⟩
  ·rw [decide_eq_false hx,cond_false]
   exact ⟨x,b,rfl,by omega⟩
theorem oO (hN:1073741824≤N) {n:Int} (h0:0≤n) (h1:n≤9223372036854775807):∃ b,cQ N n=some b∧b.length≤19:=by
 have hp:(10:Int) ^ 19=10000000000000000000:=by decide
 obtain ⟨y,b,e,hl⟩:=Aw (N:=N) 19 N n [] [] h0 h1 (by rw [hp];omega) (by omega) (by rw [List.length_nil];omega)
 refine ⟨b,?_,by rw [List.length_nil] at hl;omega⟩
 unfold cQ;rw [e,bs,lpB]
def vF (xs:List Int):Option Bool :=
 bif xs.all (fun v=>inR v 0 9) then
  (bif decide ((xs.length:Int)≤60) then (bif ((xs.length:Int) == 0) then some true else (sb (xs.length:Int) 1).bind fun x=>(ix xs x).bind fun y=>some (y != 0)) else some false)
 else some false
theorem pq (hN:1073741824≤N) {xs:List Int} (hx:xs.length≤1048576):dV N xs=vF xs:=by
 have h:=rQ (fun k i=>dp N k xs i) xs (fun v=>inR v 0 9) hN hx
  (fun k i h=>by
   show dp N (k+1) xs (i:Int)=_
   rw [dp,dlt h,cond_true,aZ h,bs,dN,bs,ad1 (by omega),bs])
  (fun k=>by
   show dp N (k+1) xs (xs.length:Int)=_
   rw [dp,dge (by omega),cond_false])
 unfold dV vF
 rw [h,bs]
 cases xs.all fun v=>inR v 0 9 <;> rfl
theorem kM (hN:1073741824≤N) {xs:List Int} (hx:xs.length≤1048576):dW N xs=vF xs:=by
 have h:=rQ (fun k i=>dn N k xs (xs.length:Int) xs (xs.length:Int) i) xs (fun v=>inR v 0 9) hN hx
  (fun k i h=>by
   show dn N (k+1) xs (xs.length:Int) xs (xs.length:Int) (i:Int)=_
   rw [dn,dlt h,cond_true,aZ h,bs,eW,bs,ad1 (by omega),bs])
  (fun k=>by
   show dn N (k+1) xs (xs.length:Int) xs (xs.length:Int) (xs.length:Int)=_
   rw [dn,dge (by omega),cond_false])
 unfold dW vF
 rw [h,bs]
 cases xs.all fun v=>inR v 0 9 <;> rfl
theorem n4 {xs:List Int} (hx:xs.length≤1048576):∃ b,vF xs=some b∧(b=true→xs.length≤60∧∀ v∈xs,0≤v∧v≤9):=by
 unfold vF
 cases ha:xs.all fun v=>inR v 0 9 with
 | false=>exact ⟨false,rfl,fun h=>by cases h⟩
 | true =>
  rw [cond_true]
  have hd:∀ v∈xs,0≤v∧v≤9:=fun v hv=>b9.1 ((List.all_eq_true.1 ha) v hv)
  by_cases h60:(xs.length:Int)≤60
  ·rw [decide_eq_true h60,cond_true]
   by_cases h0:xs.length=0
   ·rw [show ((xs.length:Int) == 0)=true by simp [h0],cond_true]
    exact ⟨true,rfl,fun _=>⟨by omega,hd⟩⟩
   ·rw [show ((xs.length:Int) == 0)=false by simp;simpa using h0,cond_false,eS (by omega) (by omega),bs,show (xs.length:Int)-1=((xs.length-1:Nat):Int) by omega,aZ (by omega),bs]
    exact ⟨_,rfl,fun _=>⟨by omega,hd⟩⟩
  ·rw [decide_eq_false h60,cond_false]
   exact ⟨false,rfl,fun h=>by cases h⟩
theorem Ap (N:Nat):∀ (k:Nat) (a b c:List Int) (d i:Int),fb N k a b c d i=bI N k a b c d i:=by
 intro k
 induction k with
 | zero=>intro a b c d i;rw [fb,bI]
 | succ k ih=>intro a b c d i;rw [fb,bI];simp only [ih]
theorem Ao {a b:List Int}:∀ (m k:Nat) (c:Int) (out:List Int) (i:Nat),a.length≤i→0≤c→c≤1000000000→c<10 ^ m→m<k→out.length+m≤1048576→i+m≤1048576→∃ o y z,bI N k a b out c (i:Int)=some (o,y,z)∧o.length≤out.length+m:=by
 intro m
 induction m with
 | zero =>
  intro k c out i hi h0 hm h1 hk hb hi2
  obtain ⟨k,rfl⟩:∃ k',k=k'+1:=⟨k-1,by omega⟩
  rw [bI,dge (by omega),cond_false,decide_eq_false (by simp at h1;omega),cond_false]
  exact ⟨out,c,_,rfl,by omega⟩
 | succ m ih =>
  intro k c out i hi h0 hm h1 hk hb hi2
  obtain ⟨k,rfl⟩:∃ k',k=k'+1:=⟨k-1,by omega⟩
  rw [bI,dge (by omega),cond_false]
  by_cases hx:0<c
  ·have hd:c / 10<10 ^ m:=by rw [Int.pow_succ] at h1;omega
   rw [decide_eq_true hx,cond_true,p7,bs,bm (by decide) (by simp;omega),bs,qg h0 (by omega),bs,ad1 (by omega),bs]
   obtain ⟨o,y,z,e,hl⟩:=ih k (c / 10) (out++[c.tmod 10]) (i+1) (by omega) (by omega) (by omega) hd (by omega) (by rw [List.length_append,List.length_singleton];omega) (by omega)
   rw [List.length_append,List.length_singleton] at hl
   exact ⟨o,y,z,e,by omega⟩
  ·rw [decide_eq_false hx,cond_false]
   exact ⟨out,c,_,rfl,by omega⟩
theorem Ak {a b:List Int} (ha:a.length≤1000) (hv:∀ v∈a,0≤v∧v≤1000000):∀ (m k:Nat) (c:Int) (out:List Int) (i:Nat),i+m=a.length→0≤c→c≤1000000→m+20<k→out.length≤i→∃ o y z,bI N k a b out c (i:Int)=some (o,y,z)∧o.length≤2000:=by
 intro m
 induction m with
 | zero =>
  intro k c out i hi h0 h1 hk hb
  have hp:(10:Int) ^ 7=10000000:=by decide
  obtain ⟨o,y,z,e,hl⟩:=Ao (N:=N) (a:=a) (b:=b) 7 k c out i (by omega) h0 (by omega) (by rw [hp];omega) (by omega) (by omega) (by omega)
  exact ⟨o,y,z,e,by omega⟩
 | succ m ih =>
  intro k c out i hi h0 h1 hk hb
  obtain ⟨k,rfl⟩:∃ k',k=k'+1:=⟨k-1,by omega⟩
  have h:i<a.length:=by omega
  have hx:=hv _ (List.getElem_mem h)
  rw [bI,dlt h,cond_true,aZ h,bs,bo (by omega) (by omega),bs,p7,bs,bm (by decide) (by simp;omega),bs,qg (by omega) (by omega),bs,ad1 (by omega),bs]
  exact ih k _ _ (i+1) (by omega) (by omega) (by omega) (by omega) (by rw [List.length_append,List.length_singleton];omega)
def dM (xs:List Int):Nat→Nat
 | 0=>0
 | m+1=>if xs.getD m 0=0 then dM xs m else m+1
theorem nx (xs:List Int):∀ m,dM xs m≤m
 | 0=>Nat.le_refl _
 | m+1=>by
  have:=nx xs m
  unfold dM;split <;> omega
theorem vj {b xs:List Int} (hx:xs.length≤1048576):∀ m k,m≤xs.length→m<k→gw N k b xs (m:Int)=some ((dM xs m:Nat):Int):=by
 intro m
 induction m with
 | zero =>
  intro k hm hk
  obtain ⟨k,rfl⟩:∃ k',k=k'+1:=⟨k-1,by omega⟩
  rw [gw,decide_eq_false (by omega),cond_false];rfl
 | succ m ih =>
  intro k hm hk
  obtain ⟨k,rfl⟩:∃ k',k=k'+1:=⟨k-1,by omega⟩
  have h:m<xs.length:=by omega
  rw [gw,decide_eq_true (by omega),cond_true,eS (by omega) (by omega),bs,show ((m+1:Nat):Int)-1=(m:Int) by omega,aZ h,bs,dM,fA h]
  by_cases e:xs[m]=0
  ·rw [show (xs[m] == 0)=true by simpa using e,cond_true,if_pos e,bs,ih k (by omega) (by omega)]
  ·rw [show (xs[m] == 0)=false by simpa using e,cond_false,if_neg e]
theorem y7 {b xs:List Int} (hx:xs.length≤1048576):∀ m k,m≤xs.length→m<k→gx N k b (xs.take m)=some (xs.take (dM xs m)):=by
 intro m
 induction m with
 | zero =>
  intro k hm hk
  obtain ⟨k,rfl⟩:∃ k',k=k'+1:=⟨k-1,by omega⟩
  rw [gx,decide_eq_false (by simp),cond_false];rfl
 | succ m ih =>
  intro k hm hk
  obtain ⟨k,rfl⟩:∃ k',k=k'+1:=⟨k-1,by omega⟩
  have h:m<xs.length:=by omega
  have hl:(xs.take (m+1)).length=m+1:=by rw [List.length_take];omega
  have hg:(xs.take (m+1))[m]'(by omega)=xs[m]:=List.getElem_take
  rw [gx,hl,decide_eq_true (by omega),cond_true,eS (by omega) (by omega),bs,show ((m+1:Nat):Int)-1=(m:Int) by omega,aZ (by omega),bs,dM,fA h,hg]
  by_cases e:xs[m]=0
  ·rw [show (xs[m] == 0)=true by simpa using e,cond_true,if_pos e,bs,show (0:Int)=((0:Nat):Int) from rfl,nF (Nat.zero_le _) (by omega),bs,List.drop_zero,List.take_take,Nat.min_eq_left (by omega),ih k (by omega) (by omega)]
  ·rw [show (xs[m] == 0)=false by simpa using e,cond_false,if_neg e]
theorem tA (hN:1073741824≤N) {a:List Int} (ha:a.length≤1000) (hv:∀ v∈a,0≤v∧v≤1000000):∃ r:List Int × Bool,gX N a=some r∧fh N a=some r∧r.1.length≤60:=by
 obtain ⟨o,y,z,e,hl⟩:=Ak (N:=N) (b:=[]) ha hv a.length N 0 [] 0 (by omega) (by omega) (by omega) (by omega) (by simp)
 have e':bI N N a [] [] 0 0=_:=e
 have es:fb N N a [] [] 0 0=_:=(Ap N N a [] [] 0 0).trans e'
 have s1:=vj (N:=N) (b:=[]) (xs:=o) (by omega) o.length N (Nat.le_refl _) (by omega)
 have s2:=y7 (N:=N) (b:=[]) (xs:=o) (by omega) o.length N (Nat.le_refl _) (by omega)
 rw [List.take_length] at s2
 have hle:=nx o o.length
 have hlen:(o.take (dM o o.length)).length=dM o o.length:=by rw [List.length_take];omega
 have hS:gX N a=bif decide (60<((dM o o.length:Nat):Int)) then some ([],false) else some (o.take (dM o o.length),true):=by
  unfold gX
  rw [es,bs,lpB]
  simp only []
  rw [s2,bs,lpB,hlen]
 have hI:fh N a=bif decide (60<((dM o o.length:Nat):Int)) then some ([],false) else some (o.take (dM o o.length),true):=by
  unfold fh
  rw [e',bs,lpB]
  simp only []
  rw [s1,bs,lpB,show (0:Int)=((0:Nat):Int) from rfl,nF (Nat.zero_le _) (by omega),bs,List.drop_zero]
 rw [hS,hI]
 by_cases h:60<((dM o o.length:Nat):Int)
 ·rw [decide_eq_true h,cond_true];exact ⟨_,rfl,rfl,Nat.zero_le _⟩
 ·rw [decide_eq_false h,cond_false];exact ⟨_,rfl,rfl,by show (o.take (dM o o.length)).length≤60;omega⟩
theorem adN {i j:Nat} (h:i+j≤1000000):ad (i:Int) (j:Int)=some ((i+j:Nat):Int):=by rw [bo (by omega) (by omega)];congr 1
theorem s8 {x y:Int} (hx:0≤x∧x≤9) (hy:0≤y∧y≤9):0≤x*y∧x*y≤81:=⟨Int.mul_nonneg hx.1 hy.1,Int.mul_le_mul hx.2 hy.2 hy.1 (by omega)⟩
theorem zx (hN:1073741824≤N) {a b:List Int} (ha:a.length≤60) (hb:b.length≤60) (da:∀ v∈a,0≤v∧v≤9) (db:∀ v∈b,0≤v∧v≤9) {i:Nat} (hi:i<a.length) {C:Int} (hC:C≤500000) {l:List Int} (hl:l.length=a.length+b.length) (hv:∀ v∈l,0≤v∧v≤C) :
  ∃ v:List Int × Int,dK N N a b [] l (i:Int) 0=some v∧cu N N b [] l (i:Int) a[i] a (a.length:Int) (i:Int) b (b.length:Int) 0=some v∧(v.1.length=a.length+b.length∧∀ x∈v.1,0≤x∧x≤C+4860):=by
 have hai:=da _ (List.getElem_mem hi)
 exact q7 (fun k (s:List Int) j=>dK N k a b [] s (i:Int) j) (fun k (s:List Int) j=>cu N k b [] s (i:Int) a[i] a (a.length:Int) (i:Int) b (b.length:Int) j) b.length
  (fun j s=>s.length=a.length+b.length∧∀ x∈s,0≤x∧x≤C+81*(j:Int)) (fun v=>v.1.length=a.length+b.length∧∀ x∈v.1,0≤x∧x≤C+4860)
  (fun k j s hj hI=>by
   obtain ⟨h1,h2⟩:=hI
   have hbj:=db _ (List.getElem_mem hj)
   obtain ⟨m1,m2⟩:=s8 hai hbj
   have hij:i+j<s.length:=by omega
   have hs:=h2 _ (List.getElem_mem hij)
   refine .inl ⟨s.set (i+j) (s[i+j]+a[i]*b[j]),?_,?_,by simpa using h1,fun x hx=>?_⟩
   ·show dK N (k+1) a b [] s (i:Int) (j:Int)=_
    rw [dK,dlt hj,cond_true,adN (by omega),bs,bs,aZ hij,bs,aZ hi,bs,aZ hj,bs,dL (by omega) (by omega),bs,bo (by omega) (by omega),bs,bs,jN hij,bs,ad1 (by omega),bs]
   ·show cu N (k+1) b [] s (i:Int) a[i] a (a.length:Int) (i:Int) b (b.length:Int) (j:Int)=_
    rw [cu,dlt hj,cond_true,aZ hj,bs,adN (by omega),bs,aZ hij,bs,dL (by omega) (by omega),bs,bo (by omega) (by omega),bs,bs,jN hij,bs,ad1 (by omega),bs]
   ·rcases List.mem_or_eq_of_mem_set hx with hx | rfl
    ·have:=h2 x hx;omega
    ·omega)
  (fun k s hI=>by
   obtain ⟨h1,h2⟩:=hI
   refine ⟨(s,(b.length:Int)),?_,?_,h1,fun x hx=>by have:=h2 x hx;omega⟩
   ·show dK N (k+1) a b [] s (i:Int) (b.length:Int)=_
    rw [dK,dge (by omega),cond_false]
   ·show cu N (k+1) b [] s (i:Int) a[i] a (a.length:Int) (i:Int) b (b.length:Int) (b.length:Int)=_
    rw [cu,dge (by omega),cond_false]) N 0 l (by omega) (by omega) ⟨hl,fun x hx=>by have:=hv x hx;omega⟩
theorem ya (hN:1073741824≤N) {a b:List Int} (ha:a.length≤60) (hb:b.length≤60) (da:∀ v∈a,0≤v∧v≤9) (db:∀ v∈b,0≤v∧v≤9) {l:List Int} (hl:l.length=a.length+b.length) (hv:∀ v∈l,0≤v∧v≤0) :
  ∃ v:List Int × Int,dJ N N a b [] l 0=some v∧cx N N b [] l a (a.length:Int) 0=some v∧(v.1.length=a.length+b.length∧∀ x∈v.1,0≤x∧x≤500000) :=
 q7 (fun k (s:List Int) i=>dJ N k a b [] s i) (fun k (s:List Int) i=>cx N k b [] s a (a.length:Int) i) a.length
  (fun i s=>s.length=a.length+b.length∧∀ x∈s,0≤x∧x≤4860*(i:Int)) (fun v=>v.1.length=a.length+b.length∧∀ x∈v.1,0≤x∧x≤500000)
  (fun k i s hi hI=>by
   obtain ⟨h1,h2⟩:=hI
   obtain ⟨⟨v,z⟩,e1,e2,h3,h4⟩:=zx (N:=N) hN ha hb da db hi (C:=4860*(i:Int)) (by omega) h1 h2
   refine .inl ⟨v,?_,?_,h3,fun x hx=>by have:=h4 x hx;omega⟩
   ·show dJ N (k+1) a b [] s (i:Int)=_
    rw [dJ,dlt hi,cond_true,e1,bs,lpB,ad1 (by omega)];rfl
   ·show cx N (k+1) b [] s a (a.length:Int) (i:Int)=_
    rw [cx,dlt hi,cond_true,aZ hi,bs,e2,bs,lpB,ad1 (by omega)];rfl)
  (fun k s hI=>by
   obtain ⟨h1,h2⟩:=hI
   refine ⟨(s,(a.length:Int)),?_,?_,h1,fun x hx=>by have:=h2 x hx;omega⟩
   ·show dJ N (k+1) a b [] s (a.length:Int)=_
    rw [dJ,dge (by omega),cond_false]
   ·show cx N (k+1) b [] s a (a.length:Int) (a.length:Int)=_
    rw [cx,dge (by omega),cond_false]) N 0 l (by omega) (by omega) ⟨hl,fun x hx=>by have:=hv x hx;omega⟩
theorem oS (hN:1073741824≤N) {a b:List Int} (ha:a.length≤1048576) (hb:b.length≤1048576):∃ r:List Int × Bool,ga N a b=some r∧fu N a b=some r∧r.1.length≤60:=by
 unfold ga fu
 rw [pq hN ha,kM hN ha,pq hN hb,kM hN hb]
 obtain ⟨x,ex,hx⟩:=n4 ha
 obtain ⟨y,ey,hy⟩:=n4 hb
 rw [ex,ey]
 cases x with
 | false=>exact ⟨([],false),rfl,rfl,Nat.zero_le _⟩
 | true =>
  cases y with
  | false=>exact ⟨([],false),rfl,rfl,Nat.zero_le _⟩
  | true =>
   obtain ⟨a1,a2⟩:=hx rfl
   obtain ⟨b1,b2⟩:=hy rfl
   obtain ⟨⟨v,z⟩,e1,e2,h3,h4⟩:=ya (N:=N) hN a1 b1 a2 b2 (l:=List.replicate (a.length+b.length) 0) (by simp) (fun v hv=>by rw [List.eq_of_mem_replicate hv];omega)
   obtain ⟨r,f1,f2,f3⟩:=tA (N:=N) hN (a:=v) (by have h3':v.length=_:=h3;omega) (fun z hz=>by have:=h4 z hz;omega)
   refine ⟨r,?_,?_,f3⟩
   ·show (ad (a.length:Int) (b.length:Int)).bind _=_
    rw [adN (by omega),bs,q8 (by decide) (by omega),bs,e1,bs,lpB]
    show (gX N v).bind _=_
    rw [f1,bs]
   ·show (ad (a.length:Int) (b.length:Int)).bind _=_
    rw [adN (by omega),bs,q8 (by decide) (by omega),bs,e2,bs,lpB]
    show (fh N v).bind _=_
    rw [f2,bs]
end
def Al (s:Sum (List Int × Bool) (List Int × Int)):Prop:=match s with | .inl q=>q.1.length≤1048576 | .inr v=>v.1.length≤1048576
section
variable {N:Nat}
theorem rN (hN:1073741824≤N) {n k:Int} (h1:n≤9223372036854775807):∃ r:List Int × Bool,gd N n k=some r∧gb N n k=some r∧r.1.length≤1048576∧(n<0→r.2=false)∧(100<k→r.2=false):=by
 unfold gd gb
 by_cases h0:n<0
 ·rw [decide_eq_true h0,cond_true,cond_true];exact ⟨_,rfl,rfl,Nat.zero_le _,fun _=>rfl,fun _=>rfl⟩
 rw [decide_eq_false h0,cond_false,cond_false,dN,eW]
 cases hk:inR k 0 100 with
 | false=>exact ⟨([],false),rfl,rfl,Nat.zero_le _,fun _=>rfl,fun _=>rfl⟩
 | true =>
  have hk':=b9.1 hk
  obtain ⟨m,rfl⟩:=Int.eq_ofNat_of_zero_le hk'.1
  obtain ⟨o,eo,ho⟩:=oO (N:=N) hN (n:=1) (by omega) (by omega)
  obtain ⟨c,ec,hc⟩:=oO (N:=N) hN (n:=n) (by omega) h1
  obtain ⟨s,e1,e2,hs⟩:=q7 (fun f (s:List Int) i=>cH N f n (m:Int) [] s i) (fun f (s:List Int) i=>bH N f n (m:Int) [] s i) m (fun _ s=>s.length≤1048576) Al
   (fun f i s hi hI=>by
    obtain ⟨r,m1,m2,hr⟩:=oS (N:=N) hN hI (b:=c) (by omega)
    cases hb:r.2 with
    | true =>
     refine .inl ⟨r.1,?_,?_,by omega⟩
     ·show cH N (f+1) n (m:Int) [] s (i:Int)=_
      rw [cH,dlt hi,cond_true,mD,ec,bs,m1,bs,hb,cond_true,ad1 (by omega),bs]
     ·show bH N (f+1) n (m:Int) [] s (i:Int)=_
      rw [bH,dlt hi,cond_true,ec,bs,m2,bs,hb,cond_true,ad1 (by omega),bs]
    | false =>
     refine .inr ⟨.inl ([],false),?_,?_,Nat.zero_le _⟩
     ·show cH N (f+1) n (m:Int) [] s (i:Int)=_
      rw [cH,dlt hi,cond_true,mD,ec,bs,m1,bs,hb,cond_false]
     ·show bH N (f+1) n (m:Int) [] s (i:Int)=_
      rw [bH,dlt hi,cond_true,ec,bs,m2,bs,hb,cond_false])
   (fun f s hI=>by
    refine ⟨.inr (s,(m:Int)),?_,?_,hI⟩
    ·show cH N (f+1) n (m:Int) [] s (m:Int)=_
     rw [cH,dge (by omega),cond_false]
    ·show bH N (f+1) n (m:Int) [] s (m:Int)=_
     rw [bH,dge (by omega),cond_false]) N 0 o (by omega) (by omega) (by omega)
  have e1':cH N N n (m:Int) [] o 0=_:=e1
  have e2':bH N N n (m:Int) [] o 0=_:=e2
  rw [bs,bs,cond_true,cond_true,mD,eo,bs,bs,e1',e2',bs]
  cases s with
  | inl q=>exact ⟨q,rfl,rfl,hs,fun h=>absurd h h0,fun h=>by omega⟩
  | inr v=>exact ⟨(v.1,true),rfl,rfl,hs,fun h=>absurd h h0,fun h=>by omega⟩
def Av (xs:List Int) (s:Sum (List Int × Bool) (List Int × Int)):Prop:=match s with | .inl q=>q.1.length≤1048576∧q.2=false | .inr v=>v.1.length≤1048576∧∀ x∈xs,0≤x
theorem uw (hN:1073741824≤N) {xs ks:List Int} (hx:xs.length≤1048576) (hr:∀ v∈xs,v≤9223372036854775807):∃ r:List Int × Bool,c9 N xs ks=some r∧d5 N xs ks=some r∧r.1.length≤1048576∧(r.2=true→∀ x∈xs,0≤x):=by
 unfold c9 d5
 by_cases hl:xs.length=ks.length
 ·obtain ⟨o,eo,ho⟩:=oO (N:=N) hN (n:=1) (by omega) (by omega)
  obtain ⟨s,e1,e2,hs⟩:=q7 (fun f (s:List Int) i=>be N f xs ks [] s i) (fun f (s:List Int) i=>bF N f xs ks [] s (xs.length:Int) i) xs.length (fun i s=>s.length≤1048576∧∀ x∈xs.take i,0≤x) (Av xs)
   (fun f i s hi hI=>by
    obtain ⟨hI1,hI2⟩:=hI
    have hi2:i<ks.length:=by omega
    obtain ⟨p,p1,p2,hp,hp2,_⟩:=rN (N:=N) hN (n:=xs[i]) (k:=ks[i]) (hr _ (List.getElem_mem hi))
    obtain ⟨r,m1,m2,hr⟩:=oS (N:=N) hN hI1 (b:=p.1) hp
    cases hb:p.2 with
    | true =>
     cases hc:r.2 with
     | true =>
      refine .inl ⟨r.1,?_,?_,by omega,fun x hx=>?_⟩
      ·show be N (f+1) xs ks [] s (i:Int)=_
       rw [be,dlt hi,cond_true,aZ hi,bs,aZ hi2,bs,p1,bs,m1,bs,hb,cond_true,hc,cond_true,ad1 (by omega),bs]
      ·show bF N (f+1) xs ks [] s (xs.length:Int) (i:Int)=_
       rw [bF,dlt hi,cond_true,aZ hi,bs,aZ hi2,bs,p2,bs,m2,bs,hb,cond_true,hc,cond_true,ad1 (by omega),bs]
      ·rw [List.take_succ_eq_append_getElem hi] at hx
       rcases List.mem_append.1 hx with hx | hx
       ·exact hI2 x hx
       ·simp only [List.mem_singleton] at hx
        subst hx
        by_cases hneg:xs[i]<0
        ·rw [hp2 hneg] at hb;cases hb
        ·omega
     | false =>
      refine .inr ⟨.inl ([],false),?_,?_,Nat.zero_le _,rfl⟩
      ·show be N (f+1) xs ks [] s (i:Int)=_
       rw [be,dlt hi,cond_true,aZ hi,bs,aZ hi2,bs,p1,bs,m1,bs,hb,cond_true,hc,cond_false]
      ·show bF N (f+1) xs ks [] s (xs.length:Int) (i:Int)=_
       rw [bF,dlt hi,cond_true,aZ hi,bs,aZ hi2,bs,p2,bs,m2,bs,hb,cond_true,hc,cond_false]
    | false =>
     refine .inr ⟨.inl ([],false),?_,?_,Nat.zero_le _,rfl⟩
     ·show be N (f+1) xs ks [] s (i:Int)=_
      rw [be,dlt hi,cond_true,aZ hi,bs,aZ hi2,bs,p1,bs,m1,bs,hb,cond_false]
     ·show bF N (f+1) xs ks [] s (xs.length:Int) (i:Int)=_
      rw [bF,dlt hi,cond_true,aZ hi,bs,aZ hi2,bs,p2,bs,m2,bs,hb,cond_false])
   (fun f s hI=>by
    obtain ⟨hI1,hI2⟩:=hI
    rw [List.take_length] at hI2
    refine ⟨.inr (s,(xs.length:Int)),?_,?_,hI1,hI2⟩
    ·show be N (f+1) xs ks [] s (xs.length:Int)=_
     rw [be,dge (by omega),cond_false]
    ·show bF N (f+1) xs ks [] s (xs.length:Int) (xs.length:Int)=_
     rw [bF,dge (by omega),cond_false]) N 0 o (by omega) (by omega) ⟨by omega,fun x hx=>by simp at hx⟩
  have e1':be N N xs ks [] o 0=_:=e1
  have e2':bF N N xs ks [] o (xs.length:Int) 0=_:=e2
  rw [show ((xs.length:Int) != (ks.length:Int))=false by simp [hl],cond_false,cond_false,mD,eo,bs,bs,e1',e2',bs]
  cases s with
  | inl q =>
   obtain ⟨h1,h2⟩:=hs
   exact ⟨q,rfl,rfl,h1,fun h=>by rw [h2] at h;cases h⟩
  | inr v =>
   obtain ⟨h1,h2⟩:=hs
   exact ⟨(v.1,true),rfl,rfl,h1,fun _=>h2⟩
 ·rw [show ((xs.length:Int) != (ks.length:Int))=true by simp;omega,cond_true,cond_true]
  exact ⟨_,rfl,rfl,Nat.zero_le _,fun h=>by cases h⟩
theorem zy {a b:List Int} (hl:a.length=b.length) (ha:a.length≤1048576):∀ m k,m≤a.length→m<k→∃ s:Sum Int Int,eh N k a b ((m:Int)-1)=some s∧ce N k a b ((m:Int)-1)=some s:=by
 intro m
 induction m with
 | zero =>
  intro k hm hk
  obtain ⟨k,rfl⟩:∃ k',k=k'+1:=⟨k-1,by omega⟩
  rw [eh,ce,decide_eq_false (by omega),cond_false,cond_false]
  exact ⟨_,rfl,rfl⟩
 | succ m ih =>
  intro k hm hk
  obtain ⟨k,rfl⟩:∃ k',k=k'+1:=⟨k-1,by omega⟩
  have h1:m<a.length:=by omega
  have h2:m<b.length:=by omega
  have hm1:((m+1:Nat):Int)-1=(m:Int):=by omega
  obtain ⟨s,e1,e2⟩:=ih k (by omega) (by omega)
  rw [hm1,eh,ce,decide_eq_true (by omega),cond_true,cond_true,aZ h1,aZ h2]
  simp only [bs]
  rw [eS (by omega) (by omega)]
  simp only [bs,it]
  rcases Int.lt_trichotomy a[m] b[m] with h | h | h
  ·rw [decide_eq_true h,cond_true,show (a[m] != b[m])=true by simp;omega,cond_true,mL,if_pos h]
   exact ⟨_,rfl,rfl⟩
  ·rw [decide_eq_false (by omega),cond_false,decide_eq_false (by omega),cond_false,show (a[m] != b[m])=false by simp [h],cond_false]
   exact ⟨s,e1,e2⟩
  ·rw [decide_eq_false (by omega),cond_false,decide_eq_true h,cond_true,show (a[m] != b[m])=true by simp;omega,cond_true,mL,if_neg (by omega),if_pos h]
   exact ⟨_,rfl,rfl⟩
theorem rC (hN:1073741824≤N) {a b:List Int} (ha:a.length≤1048576) (hb:b.length≤1048576):∃ c,fd N a b=some c∧eD N a b=some c:=by
 unfold fd eD
 rw [pq hN ha,kM hN ha,pq hN hb,kM hN hb]
 obtain ⟨x,ex,_⟩:=n4 ha
 obtain ⟨y,ey,_⟩:=n4 hb
 rw [ex,ey]
 cases x with
 | false=>exact ⟨0,rfl,rfl⟩
 | true =>
  cases y with
  | false=>exact ⟨0,rfl,rfl⟩
  | true =>
   simp only [bs,cond_true,it]
   by_cases hl:a.length=b.length
   ·obtain ⟨s,e1,e2⟩:=zy (N:=N) hl ha a.length N (Nat.le_refl _) (by omega)
    rw [show ((a.length:Int) != (b.length:Int))=false by simp [hl],cond_false,cond_false,eS (by omega) (by omega)]
    simp only [bs]
    rw [e1,e2,bs]
    cases s with
    | inl q=>exact ⟨q,rfl,rfl⟩
    | inr v=>exact ⟨0,rfl,rfl⟩
   ·rw [show ((a.length:Int) != (b.length:Int))=true by simp;omega,cond_true,cond_true]
    unfold mL
    by_cases h:(a.length:Int)<(b.length:Int)
    ·rw [decide_eq_true h,cond_true,if_pos h];exact ⟨_,rfl,rfl⟩
    ·rw [decide_eq_false h,cond_false,if_neg h,if_pos (by omega)];exact ⟨_,rfl,rfl⟩
end
def vB:List Int→Int
 | []=>0
 | x :: xs=>x+10*vB xs
theorem p10 (n:Nat):(10:Int) ^ (n+1)=10*10 ^ n:=by rw [Int.pow_succ,Int.mul_comm]
theorem qj:∀ n:Nat,(0:Int)<10 ^ n
 | 0=>by decide
 | n+1=>by rw [p10];have:=qj n;omega
theorem mO {m n:Nat} (h:m≤n):(10:Int) ^ m≤10 ^ n:=by
 induction n with
 | zero =>
  have:m=0:=by omega
  subst this;exact Int.le_refl _
 | succ n ih =>
  by_cases e:m=n+1
  ·subst e;exact Int.le_refl _
  ·have:=ih (by omega)
   have:=qj n
   rw [p10];omega
theorem py:∀ a b:List Int,vB (a++b)=vB a+10 ^ a.length*vB b
 | [],b=>by show vB b=0+10 ^ 0*vB b;rw [show (10:Int) ^ 0=1 from rfl];omega
 | x :: a,b=>by
  show x+10*vB (a++b)=x+10*vB a+10 ^ (a.length+1)*vB b
  rw [py a b,p10,Int.mul_add,Int.mul_assoc];omega
theorem uz:∀ (s:List Int) (k:Nat) (h:k<s.length) (c:Int),vB (s.set k (s[k]+c))=vB s+c*10 ^ k
 | [],k,h,_=>by simp at h
 | x :: s,0,_,c=>by show x+c+10*vB s=x+10*vB s+c*10 ^ 0;rw [show (10:Int) ^ 0=1 from rfl];omega
 | x :: s,k+1,h,c=>by
  have hk:k<s.length:=by simpa using h
  have:=uz s k hk c
  show x+10*vB (s.set k (s[k]+c))=x+10*vB s+c*10 ^ (k+1)
  rw [this,p10,Int.mul_add]
  have e:c*(10*10 ^ k)=10*(c*(10:Int) ^ k):=by ac_rfl
  rw [e];omega
def jK (xs:List Int):Prop:=∀ v∈xs,0≤v∧v≤9
def Cn (xs:List Int):Prop:=jK xs∧(xs=[]∨xs.getD (xs.length-1) 0≠0)
theorem tv:∀ {xs:List Int},jK xs→0≤vB xs
 | [],_=>Int.le_refl _
 | x :: xs,h=>by
  have h1:=h x List.mem_cons_self
  have:=tv (xs:=xs) fun v hv=>h v (List.mem_cons_of_mem _ hv)
  show 0≤x+10*vB xs;omega
theorem nV:∀ {xs:List Int},jK xs→vB xs<10 ^ xs.length
 | [],_=>by decide
 | x :: xs,h=>by
  have h1:=h x List.mem_cons_self
  have:=nV (xs:=xs) fun v hv=>h v (List.mem_cons_of_mem _ hv)
  show x+10*vB xs<10 ^ (xs.length+1);rw [p10];omega
theorem wE:∀ {xs:List Int},jK xs→xs≠[]→xs.getD (xs.length-1) 0≠0→10 ^ (xs.length-1)≤vB xs
 | [],_,h,_=>absurd rfl h
 | [x],h,_,h2=>by
  have h1:=h x List.mem_cons_self
  have:x≠0:=by simpa using h2
  show (10:Int) ^ 0≤x+10*0
  rw [show (10:Int) ^ 0=1 from rfl];omega
 | x :: y :: xs,h,_,h2=>by
  have h1:=h x List.mem_cons_self
  have:=wE (xs:=y :: xs) (fun v hv=>h v (List.mem_cons_of_mem _ hv)) (by simp) (by simpa using h2)
  simp only [List.length_cons,Nat.add_sub_cancel] at this ⊢
  show (10:Int) ^ (xs.length+1)≤x+10*vB (y :: xs)
  rw [p10];omega
theorem Cn.ge {xs:List Int} (h:Cn xs) (hn:xs≠[]):10 ^ (xs.length-1)≤vB xs:=by
 rcases h.2 with e | e
 ·exact absurd e hn
 ·exact wE h.1 hn e
theorem Cn.len {xs:List Int} (h:Cn xs) {n:Nat} (hv:vB xs<10 ^ n):xs.length≤n:=by
 by_cases hn:xs=[]
 ·subst hn;exact Nat.zero_le _
 ·have:=h.ge hn
  by_cases hl:xs.length≤n
  ·exact hl
  ·have:=mO (show n≤xs.length-1 by omega)
   omega
section
variable {N:Nat}
theorem nL {xs:List Int} (h:Cn xs) (hl:xs.length≤60):vF xs=some true:=by
 unfold vF
 have h1:xs.all (fun v=>inR v 0 9)=true:=List.all_eq_true.2 fun v hv=>b9.2 (h.1 v hv)
 rw [h1,cond_true,decide_eq_true (by omega),cond_true]
 by_cases h0:xs.length=0
 ·rw [show ((xs.length:Int) == 0)=true by simp [h0],cond_true]
 ·rw [show ((xs.length:Int) == 0)=false by simp;simpa using h0,cond_false,eS (by omega) (by omega),bs,show (xs.length:Int)-1=((xs.length-1:Nat):Int) by omega,aZ (by omega),bs]
  rcases h.2 with e | e
  ·rw [e] at h0;simp at h0
  ·rw [fA (by omega)] at e
   simp [e]
theorem oE {x:Int} (h:0≤x):x.tmod 10=x % 10:=Int.tmod_eq_emod_of_nonneg h
theorem AE:∀ (m k:Nat) (x:Int) (a b:List Int),0≤x→x≤9223372036854775807→x<10 ^ m→m<k→b.length+m≤1048576→∃ y ds,bP N k x a b=some (y,b++ds)∧vB ds=x∧jK ds∧ds.length≤m∧(x=0→ds=[])∧(0<x→ds≠[]∧ds.getD (ds.length-1) 0≠0):=by
 intro m
 induction m with
 | zero =>
  intro k x a b h0 hm h1 hk hb
  obtain ⟨k,rfl⟩:∃ k',k=k'+1:=⟨k-1,by omega⟩
  have hx:x=0:=by simp at h1;omega
  rw [bP,decide_eq_false (by omega),cond_false]
  exact ⟨x,[],by simp,hx.symm,by intro v hv;simp at hv,by simp,fun _=>rfl,fun h=>by omega⟩
 | succ m ih =>
  intro k x a b h0 hm h1 hk hb
  obtain ⟨k,rfl⟩:∃ k',k=k'+1:=⟨k-1,by omega⟩
  rw [bP]
  by_cases hx:0<x
  ·have hd:x / 10<10 ^ m:=by rw [Int.pow_succ] at h1;omega
   rw [decide_eq_true hx,cond_true,p7,bs,bm (by decide) (by simp;omega),bs,qg h0 hm,bs]
   obtain ⟨y,ds,e,v1,v2,v3,v4,v5⟩:=ih k (x / 10) a (b++[x.tmod 10]) (by omega) (by omega) hd (by omega) (by rw [List.length_append,List.length_singleton];omega)
   refine ⟨y,x.tmod 10 :: ds,by rw [e,List.append_assoc];rfl,?_,?_,by simp;omega,fun h=>by omega,fun _=>⟨by simp,?_⟩⟩
   ·show x.tmod 10+10*vB ds=x
    rw [v1,oE h0];omega
   ·intro v hv
    rcases List.mem_cons.1 hv with rfl | hv
    ·rw [oE h0];omega
    ·exact v2 v hv
   ·by_cases hq:0<x / 10
    ·obtain ⟨w1,w2⟩:=v5 hq
     obtain ⟨d,t,rfl⟩:=List.exists_cons_of_ne_nil w1
     simpa using w2
    ·have:=v4 (by omega)
     subst this
     rw [oE h0]
     show x % 10≠0
     omega
  ·have hx0:x=0:=by omega
   rw [decide_eq_false hx,cond_false]
   exact ⟨x,[],by simp,hx0.symm,by intro v hv;simp at hv,by simp,fun _=>rfl,fun h=>by omega⟩
theorem sw (hN:1073741824≤N) {n:Int} (h0:0≤n) (h1:n≤9223372036854775807):∃ b,cQ N n=some b∧b.length≤19∧vB b=n∧Cn b:=by
 have hp:(10:Int) ^ 19=10000000000000000000:=by decide
 obtain ⟨y,b,e,v1,v2,v3,v4,v5⟩:=AE (N:=N) 19 N n [] [] h0 h1 (by rw [hp];omega) (by omega) (by rw [List.length_nil];omega)
 refine ⟨b,?_,v3,v1,v2,?_⟩
 ·unfold cQ;rw [e,bs,lpB];rfl
 ·by_cases h:0<n
  ·exact .inr (v5 h).2
  ·exact .inl (v4 (by omega))
theorem Ab {a b:List Int}:∀ (m k:Nat) (c:Int) (out:List Int) (i:Nat),a.length≤i→0≤c→c≤1000000000→c<10 ^ m→m<k→out.length+m≤1048576→i+m≤1048576→∃ ds y z,bI N k a b out c (i:Int)=some (out++ds,y,z)∧ds.length≤m∧vB ds=c∧jK ds:=by
 intro m
 induction m with
 | zero =>
  intro k c out i hi h0 hm h1 hk hb hi2
  obtain ⟨k,rfl⟩:∃ k',k=k'+1:=⟨k-1,by omega⟩
  have hc:c=0:=by simp at h1;omega
  rw [bI,dge (by omega),cond_false,decide_eq_false (by omega),cond_false]
  exact ⟨[],c,_,by rw [List.append_nil],by simp,hc.symm,by intro v hv;simp at hv⟩
 | succ m ih =>
  intro k c out i hi h0 hm h1 hk hb hi2
  obtain ⟨k,rfl⟩:∃ k',k=k'+1:=⟨k-1,by omega⟩
  rw [bI,dge (by omega),cond_false]
  by_cases hx:0<c
  ·have hd:c / 10<10 ^ m:=by rw [Int.pow_succ] at h1;omega
   rw [decide_eq_true hx,cond_true,p7,bs,bm (by decide) (by simp;omega),bs,qg h0 (by omega),bs,ad1 (by omega),bs]
   obtain ⟨ds,y,z,e,hl,hv,hd2⟩:=ih k (c / 10) (out++[c.tmod 10]) (i+1) (by omega) (by omega) (by omega) hd (by omega) (by rw [List.length_append,List.length_singleton];omega) (by omega)
   refine ⟨c.tmod 10 :: ds,y,z,by rw [e,List.append_assoc];rfl,by simp;omega,?_,?_⟩
   ·show c.tmod 10+10*vB ds=c
    rw [hv,oE h0];omega
   ·intro v hv
    rcases List.mem_cons.1 hv with rfl | hv
    ·rw [oE h0];omega
    ·exact hd2 v hv
  ·have hc:c=0:=by omega
   rw [decide_eq_false hx,cond_false]
   exact ⟨[],c,_,by rw [List.append_nil],by simp,hc.symm,by intro v hv;simp at hv⟩
theorem Aj {a b:List Int} (ha:a.length≤1000) (hv:∀ v∈a,0≤v∧v≤1000000):∀ (m k:Nat) (c:Int) (out:List Int) (i:Nat),i+m=a.length→0≤c→c≤1000000→m+20<k→out.length≤i→∃ ds y z,bI N k a b out c (i:Int)=some (out++ds,y,z)∧ds.length≤m+7∧vB ds=c+vB (a.drop i)∧jK ds:=by
 intro m
 induction m with
 | zero =>
  intro k c out i hi h0 h1 hk hb
  have hp:(10:Int) ^ 7=10000000:=by decide
  obtain ⟨ds,y,z,e,hl,h3,h4⟩:=Ab (N:=N) (a:=a) (b:=b) 7 k c out i (by omega) h0 (by omega) (by rw [hp];omega) (by omega) (by omega) (by omega)
  refine ⟨ds,y,z,e,by omega,?_,h4⟩
  rw [h3,List.drop_of_length_le (by omega)]
  show c=c+0;omega
 | succ m ih =>
  intro k c out i hi h0 h1 hk hb
  obtain ⟨k,rfl⟩:∃ k',k=k'+1:=⟨k-1,by omega⟩
  have h:i<a.length:=by omega
  have hx:=hv _ (List.getElem_mem h)
  rw [bI,dlt h,cond_true,aZ h,bs,bo (by omega) (by omega),bs,p7,bs,bm (by decide) (by simp;omega),bs,qg (by omega) (by omega),bs,ad1 (by omega),bs]
  obtain ⟨ds,y,z,e,hl,h3,h4⟩:=ih k ((c+a[i]) / 10) (out++[(c+a[i]).tmod 10]) (i+1) (by omega) (by omega) (by omega) (by omega) (by rw [List.length_append,List.length_singleton];omega)
  refine ⟨(c+a[i]).tmod 10 :: ds,y,z,by rw [e,List.append_assoc];rfl,by simp;omega,?_,?_⟩
  ·rw [jQ h]
   show (c+a[i]).tmod 10+10*vB ds=c+(a[i]+10*vB (a.drop (i+1)))
   rw [h3,oE (by omega)];omega
  ·intro v hv
   rcases List.mem_cons.1 hv with rfl | hv
   ·rw [oE (by omega)];omega
   ·exact h4 v hv
theorem qK {xs:List Int}:∀ m,m≤xs.length→vB (xs.take (dM xs m))=vB (xs.take m)∧(dM xs m=0∨xs.getD (dM xs m-1) 0≠0)
 | 0,_=>⟨rfl,.inl rfl⟩
 | m+1,h=>by
  obtain ⟨h1,h2⟩:=qK (xs:=xs) m (by omega)
  unfold dM
  by_cases e:xs.getD m 0=0
  ·rw [if_pos e]
   refine ⟨?_,h2⟩
   rw [h1,List.take_succ_eq_append_getElem (show m<xs.length by omega),py]
   rw [fA (by omega)] at e
   rw [e]
   show _=_+_*(0+10*0)
   rw [show (0:Int)+10*0=0 from rfl,Int.mul_zero,Int.add_zero]
  ·rw [if_neg e];exact ⟨rfl,.inr (by simpa using e)⟩
theorem uO (hN:1073741824≤N) {a:List Int} (ha:a.length≤1000) (hv:∀ v∈a,0≤v∧v≤1000000):∃ r:List Int × Bool,fh N a=some r∧(r.2=true→vB r.1=vB a∧Cn r.1∧r.1.length≤60)∧(r.2=true↔vB a<10 ^ 60):=by
 obtain ⟨o,y,z,e,hl,h3,h4⟩:=Aj (N:=N) (b:=[]) ha hv a.length N 0 [] 0 (by omega) (by omega) (by omega) (by omega) (by simp)
 have e':bI N N a [] [] 0 0=some (o,y,z):=e
 have h3:vB o=vB a:=by rw [h3,List.drop_zero];omega
 have s1:=vj (N:=N) (b:=[]) (xs:=o) (by omega) o.length N (Nat.le_refl _) (by omega)
 obtain ⟨g1,g2⟩:=qK (xs:=o) o.length (Nat.le_refl _)
 rw [List.take_length] at g1
 have hle:=nx o o.length
 have hlen:(o.take (dM o o.length)).length=dM o o.length:=by rw [List.length_take];omega
 have hC:Cn (o.take (dM o o.length)):=by
  refine ⟨fun v hv=>h4 v (List.mem_of_mem_take hv),?_⟩
  rw [hlen]
  rcases g2 with g2 | g2
  ·exact .inl (by rw [g2];rfl)
  ·by_cases hz:dM o o.length=0
   ·exact .inl (by rw [hz];rfl)
   ·right
    rw [List.getD_eq_getElem?_getD,List.getElem?_take,if_pos (by omega),← List.getD_eq_getElem?_getD];exact g2
 have hI:fh N a=bif decide (60<((dM o o.length:Nat):Int)) then some ([],false) else some (o.take (dM o o.length),true):=by
  unfold fh
  rw [e',bs,lpB]
  simp only []
  rw [s1,bs,lpB,show (0:Int)=((0:Nat):Int) from rfl,nF (Nat.zero_le _) (by omega),bs,List.drop_zero]
 rw [hI]
 by_cases h:60<dM o o.length
 ·rw [decide_eq_true (by omega),cond_true]
  refine ⟨_,rfl,(fun h=>nomatch h),⟨(fun h=>nomatch h),fun hlt=>?_⟩⟩
  rw [← h3,← g1] at hlt
  have:=hC.len hlt
  omega
 ·rw [decide_eq_false (by omega),cond_false]
  refine ⟨_,rfl,fun _=>⟨by show vB (o.take _)=_;rw [g1,h3],hC,by show (o.take _).length≤60;omega⟩,fun _=>?_,fun _=>rfl⟩
  rw [← h3,← g1]
  have h1:=nV hC.1
  have h2:=mO (show (o.take (dM o o.length)).length≤60 by omega)
  omega
theorem xi {a b:List Int} (ha:a.length≤60) (hb:b.length≤60) (da:jK a) (db:jK b) {i:Nat} (hi:i<a.length) {C:Int} (hC:C≤500000):∀ (m j k:Nat) (s:List Int),j+m=b.length→m<k→s.length=a.length+b.length→(∀ x∈s,0≤x∧x≤C+81*(j:Int)) →
  ∃ s',cu N k b [] s (i:Int) a[i] a (a.length:Int) (i:Int) b (b.length:Int) (j:Int)=some (s',(b.length:Int))∧s'.length=a.length+b.length∧(∀ x∈s',0≤x∧x≤C+4860)∧vB s'=vB s+a[i]*10 ^ (i+j)*vB (b.drop j):=by
 have hai:=da _ (List.getElem_mem hi)
 intro m
 induction m with
 | zero =>
  intro j k s hj hk hs hx
  obtain ⟨k,rfl⟩:∃ k',k=k'+1:=⟨k-1,by omega⟩
  obtain rfl:j=b.length:=by omega
  rw [cu,dge (by omega),cond_false]
  refine ⟨s,rfl,hs,fun x h=>by have:=hx x h;omega,?_⟩
  rw [List.drop_length]
  show _=_+_*0
  rw [Int.mul_zero,Int.add_zero]
 | succ m ih =>
  intro j k s hj hk hs hx
  obtain ⟨k,rfl⟩:∃ k',k=k'+1:=⟨k-1,by omega⟩
  have hjb:j<b.length:=by omega
  have hbj:=db _ (List.getElem_mem hjb)
  obtain ⟨m1,m2⟩:=s8 hai hbj
  have hij:i+j<s.length:=by omega
  have hsv:=hx _ (List.getElem_mem hij)
  rw [cu,dlt hjb,cond_true,aZ hjb,bs,adN (by omega),bs,aZ hij,bs,dL (by omega) (by omega),bs,bo (by omega) (by omega),bs,bs,jN hij,bs,ad1 (by omega),bs]
  obtain ⟨s',e1,e2,e3,e4⟩:=ih (j+1) k (s.set (i+j) (s[i+j]+a[i]*b[j])) (by omega) (by omega) (by simpa using hs) fun x h=>by
   rcases List.mem_or_eq_of_mem_set h with h | rfl
   ·have:=hx x h;omega
   ·omega
  refine ⟨s',e1,e2,e3,?_⟩
  rw [e4,uz,jQ hjb]
  show _=vB s+a[i]*10 ^ (i+j)*(b[j]+10*vB (b.drop (j+1)))
  rw [show i+(j+1)=(i+j)+1 by omega,p10]
  have e:a[i]*10 ^ (i+j)*(b[j]+10*vB (b.drop (j+1)))=a[i]*b[j]*10 ^ (i+j)+a[i]*(10*10 ^ (i+j))*vB (b.drop (j+1)):=by
   rw [Int.mul_add]
   congr 1 <;> ac_rfl
  rw [e];omega
theorem vP (hN:1073741824≤N) {a b:List Int} (ha:a.length≤60) (hb:b.length≤60) (da:jK a) (db:jK b):∀ (m i k:Nat) (s:List Int),i+m=a.length→m<k→s.length=a.length+b.length→(∀ x∈s,0≤x∧x≤4860*(i:Int)) →
  ∃ s',cx N k b [] s a (a.length:Int) (i:Int)=some (s',(a.length:Int))∧s'.length=a.length+b.length∧(∀ x∈s',0≤x∧x≤500000)∧vB s'=vB s+10 ^ i*vB (a.drop i)*vB b:=by
 intro m
 induction m with
 | zero =>
  intro i k s hi hk hs hx
  obtain ⟨k,rfl⟩:∃ k',k=k'+1:=⟨k-1,by omega⟩
  obtain rfl:i=a.length:=by omega
  rw [cx,dge (by omega),cond_false]
  refine ⟨s,rfl,hs,fun x h=>by have:=hx x h;omega,?_⟩
  rw [List.drop_length]
  show _=_+_*0*_
  rw [Int.mul_zero,Int.zero_mul,Int.add_zero]
 | succ m ih =>
  intro i k s hi hk hs hx
  obtain ⟨k,rfl⟩:∃ k',k=k'+1:=⟨k-1,by omega⟩
  have h:i<a.length:=by omega
  obtain ⟨s1,e1,e2,e3,e4⟩:=xi (N:=N) ha hb da db h (C:=4860*(i:Int)) (by omega) b.length 0 N s (by omega) (by omega) hs fun x hx'=>by have:=hx x hx';omega
  obtain ⟨s',f1,f2,f3,f4⟩:=ih (i+1) k s1 (by omega) (by omega) e2 fun x hx'=>by have:=e3 x hx';omega
  have e1':cu N N b [] s (i:Int) a[i] a (a.length:Int) (i:Int) b (b.length:Int) 0=_:=e1
  rw [cx,dlt h,cond_true,aZ h,bs,e1',bs,lpB]
  dsimp only
  rw [ad1 (by omega),bs]
  refine ⟨s',f1,f2,f3,?_⟩
  rw [f4,e4,List.drop_zero,Nat.add_zero,jQ h]
  show _=vB s+10 ^ i*(a[i]+10*vB (a.drop (i+1)))*vB b
  have e:10 ^ i*(a[i]+10*vB (a.drop (i+1)))*vB b=a[i]*10 ^ i*vB b+10*10 ^ i*vB (a.drop (i+1))*vB b:=by
   rw [Int.mul_add,Int.add_mul]
   congr 1 <;> ac_rfl
  rw [p10,e];omega
theorem rg:∀ n:Nat,vB (List.replicate n 0)=0
 | 0=>rfl
 | n+1=>by rw [List.replicate_succ];show 0+10*vB (List.replicate n 0)=0;rw [rg n];rfl
theorem sI (hN:1073741824≤N) {a b:List Int} (ha:Cn a) (hb:Cn b) (la:a.length≤60) (lb:b.length≤60):∃ r:List Int × Bool,fu N a b=some r∧(r.2=true→vB r.1=vB a*vB b∧Cn r.1∧r.1.length≤60)∧(r.2=true↔vB a*vB b<10 ^ 60):=by
 unfold fu
 rw [kM hN (by omega),kM hN (by omega),nL ha la,nL hb lb,bs,cond_true,bs,cond_true,adN (by omega),bs,q8 (by decide) (by omega),bs]
 obtain ⟨s,e1,e2,e3,e4⟩:=vP hN la lb ha.1 hb.1 a.length 0 N (List.replicate (a.length+b.length) 0) (by omega) (by omega) (by simp) (fun v hv=>by rw [List.eq_of_mem_replicate hv];omega)
 have e1':cx N N b [] (List.replicate (a.length+b.length) 0) a (a.length:Int) 0=_:=e1
 obtain ⟨r,c1,c2,c3⟩:=uO hN (a:=s) (by omega) (fun x hx=>by have:=e3 x hx;omega)
 have hv:vB s=vB a*vB b:=by
  rw [e4,rg,List.drop_zero,show (10:Int) ^ 0=1 from rfl,Int.one_mul,Int.zero_add]
 rw [hv] at c2 c3
 rw [e1',bs,lpB]
 dsimp only
 rw [c1,bs]
 exact ⟨_,rfl,c2,c3⟩
theorem xG (hN:1073741824≤N) {n:Int} (h0:0≤n) (h1:n≤9223372036854775807) {d:Nat} (hd:d≤100):∃ r:List Int × Bool,gb N n (d:Int)=some r∧(r.2=true→vB r.1=n ^ d∧Cn r.1∧r.1.length≤60)∧(r.2=true↔∀ j,j<d→n ^ (j+1)<10 ^ 60):=by
 obtain ⟨o,eo,ho,vo,co⟩:=sw (N:=N) hN (n:=1) (by omega) (by omega)
 obtain ⟨c,ec,hc,vc,cc⟩:=sw (N:=N) hN h0 h1
 have key:∀ (m i k:Nat) (s:List Int),i+m=d→m<k→Cn s→s.length≤60→vB s=n ^ i →
   (∃ s',bH N k n (d:Int) [] s (i:Int)=some (.inr (s',(d:Int)))∧Cn s'∧s'.length≤60∧vB s'=n ^ d∧∀ j,i≤j→j<d→n ^ (j+1)<10 ^ 60) ∨
   (bH N k n (d:Int) [] s (i:Int)=some (.inl ([],false))∧∃ j,i≤j∧j<d∧¬ n ^ (j+1)<10 ^ 60):=by
  intro m
  induction m with
  | zero =>
   intro i k s hi hk h1 h2 h3
   obtain ⟨k,rfl⟩:∃ k',k=k'+1:=⟨k-1,by omega⟩
   obtain rfl:i=d:=by omega
   left
   rw [bH,dge (by omega),cond_false]
   exact ⟨s,rfl,h1,h2,h3,fun j a b=>by omega⟩
  | succ m ih =>
   intro i k s hi hk k1 k2 k3
   obtain ⟨k,rfl⟩:∃ k',k=k'+1:=⟨k-1,by omega⟩
   obtain ⟨r,m1,m2,m3⟩:=sI hN k1 cc k2 (by omega)
   have hp:vB s*vB c=n ^ (i+1):=by rw [k3,vc,Int.pow_succ]
   rw [hp] at m2 m3
   rw [bH,dlt (by omega),cond_true,ec,bs,m1,bs]
   cases hb:r.2 with
   | true =>
    obtain ⟨q1,q2,q3⟩:=m2 hb
    rw [cond_true,ad1 (by omega),bs]
    rcases ih (i+1) k r.1 (by omega) (by omega) q2 q3 q1 with ⟨s',a1,a2,a3,a4,a5⟩ | ⟨a1,j,a2,a3,a4⟩
    ·refine .inl ⟨s',a1,a2,a3,a4,fun j b1 b2=>?_⟩
     by_cases e:j=i
     ·rw [e];exact m3.1 hb
     ·exact a5 j (by omega) b2
    ·exact .inr ⟨a1,j,by omega,a3,a4⟩
   | false =>
    rw [cond_false]
    refine .inr ⟨rfl,i,Nat.le_refl _,by omega,fun h=>?_⟩
    rw [m3.2 h] at hb;cases hb
 unfold gb
 rw [decide_eq_false (by omega),cond_false,eW,bs,show inR (d:Int) 0 100=true from b9.2 (by omega),cond_true,eo,bs]
 rcases key d 0 N o (by omega) (by omega) co (by omega) (by rw [vo,Int.pow_zero]) with ⟨s',a1,a2,a3,a4,a5⟩ | ⟨a1,j,a2,a3,a4⟩
 ·have a1':bH N N n (d:Int) [] o 0=_:=a1
  rw [a1',bs,fI]
  exact ⟨_,rfl,fun _=>⟨a4,a2,a3⟩,fun _ j hj=>a5 j (by omega) hj,fun _=>rfl⟩
 ·have a1':bH N N n (d:Int) [] o 0=_:=a1
  rw [a1',bs,i4]
  exact ⟨_,rfl,(fun h=>nomatch h),⟨(fun h=>nomatch h),fun h=>absurd (h j a3) a4⟩⟩
theorem zG {a b:List Int} (hl:a.length=b.length) (da:jK a) (db:jK b) (ha:a.length≤1048576):∀ m k,m≤a.length→m<k →
  (∃ q,ce N k a b ((m:Int)-1)=some (.inl q)∧(q=-1∧vB (a.take m)<vB (b.take m)∨q=1∧vB (b.take m)<vB (a.take m)))∨(∃ z,ce N k a b ((m:Int)-1)=some (.inr z))∧vB (a.take m)=vB (b.take m):=by
 intro m
 induction m with
 | zero =>
  intro k hm hk
  obtain ⟨k,rfl⟩:∃ k',k=k'+1:=⟨k-1,by omega⟩
  rw [ce,decide_eq_false (by omega),cond_false]
  exact .inr ⟨⟨_,rfl⟩,rfl⟩
 | succ m ih =>
  intro k hm hk
  obtain ⟨k,rfl⟩:∃ k',k=k'+1:=⟨k-1,by omega⟩
  have h1:m<a.length:=by omega
  have h2:m<b.length:=by omega
  have hm1:((m+1:Nat):Int)-1=(m:Int):=by omega
  have ea:vB (a.take (m+1))=vB (a.take m)+10 ^ m*a[m]:=by
   rw [List.take_succ_eq_append_getElem h1,py,List.length_take,Nat.min_eq_left (by omega)]
   show _+10 ^ m*(a[m]+10*0)=_
   rw [Int.mul_zero,Int.add_zero]
  have eb:vB (b.take (m+1))=vB (b.take m)+10 ^ m*b[m]:=by
   rw [List.take_succ_eq_append_getElem h2,py,List.length_take,Nat.min_eq_left (by omega)]
   show _+10 ^ m*(b[m]+10*0)=_
   rw [Int.mul_zero,Int.add_zero]
  have dta:jK (a.take m):=fun v hv=>da v (List.mem_of_mem_take hv)
  have dtb:jK (b.take m):=fun v hv=>db v (List.mem_of_mem_take hv)
  have la:=nV dta
  have lb:=nV dtb
  rw [List.length_take,Nat.min_eq_left (by omega)] at la lb
  have na:=tv dta
  have nb:=tv dtb
  have key:∀ x y:Int,x<y→(10:Int) ^ m*x+10 ^ m≤10 ^ m*y:=fun x y h=>by
   have:=Int.mul_le_mul_of_nonneg_left (show x+1≤y by omega) (Int.le_of_lt (qj m))
   rw [Int.mul_add,Int.mul_one] at this;exact this
  rw [hm1,ce,decide_eq_true (by omega),cond_true,aZ h1,aZ h2]
  simp only [bs,it]
  rcases Int.lt_trichotomy a[m] b[m] with h | h | h
  ·rw [show (a[m] != b[m])=true by simp;omega,cond_true,mL,if_pos h]
   have:=key _ _ h
   exact .inl ⟨_,rfl,.inl ⟨by decide,by omega⟩⟩
  ·rw [show (a[m] != b[m])=false by simp [h],cond_false,eS (by omega) (by omega),bs]
   rw [ea,eb,h]
   rcases ih k (by omega) (by omega) with ⟨q,q1,q2⟩ | ⟨q1,q2⟩
   ·exact .inl ⟨q,q1,by omega⟩
   ·exact .inr ⟨q1,by omega⟩
  ·rw [show (a[m] != b[m])=true by simp;omega,cond_true,mL,if_neg (by omega),if_pos h]
   have:=key _ _ h
   exact .inl ⟨_,rfl,.inr ⟨by decide,by omega⟩⟩
theorem vD (hN:1073741824≤N) {a b:List Int} (ha:Cn a) (hb:Cn b) (la:a.length≤60) (lb:b.length≤60):∃ q,eD N a b=some q∧(q≤0↔vB a≤vB b)∧(q<0↔vB a<vB b)∧-1≤q∧q≤1:=by
 unfold eD
 rw [kM hN (by omega),kM hN (by omega),nL ha la,nL hb lb,bs,cond_true,bs,cond_true]
 by_cases hl:a.length=b.length
 ·rw [show ((a.length:Int) != (b.length:Int))=false by simp [hl],cond_false,eS (by omega) (by omega),bs]
  rcases zG (N:=N) hl ha.1 hb.1 (by omega) a.length N (Nat.le_refl _) (by omega) with ⟨q,q1,q2⟩ | ⟨⟨z,q1⟩,q2⟩
  ·rw [List.take_length,show b.take a.length=b by rw [hl,List.take_length]] at q2
   rw [q1,bs,i4]
   exact ⟨q,rfl,by omega⟩
  ·rw [List.take_length,show b.take a.length=b by rw [hl,List.take_length]] at q2
   rw [q1,bs,fI]
   exact ⟨0,rfl,by omega⟩
 ·rw [show ((a.length:Int) != (b.length:Int))=true by simp;omega,cond_true,it,bs]
  unfold mL
  by_cases h:(a.length:Int)<(b.length:Int)
  ·rw [if_pos h]
   have hbn:b≠[]:=fun e=>by have:=congrArg List.length e;rw [List.length_nil] at this;omega
   have h1:=hb.ge hbn
   have h2:=nV ha.1
   have h3:=mO (show a.length≤b.length-1 by omega)
   exact ⟨-1,rfl,by omega⟩
  ·rw [if_neg h,if_pos (by omega)]
   have han:a≠[]:=fun e=>by have:=congrArg List.length e;rw [List.length_nil] at this;omega
   have h1:=ha.ge han
   have h2:=nV hb.1
   have h3:=mO (show b.length≤a.length-1 by omega)
   exact ⟨1,rfl,by omega⟩
end
theorem p4 (a:Int) {m:Nat} (hm:m≤4611686018427387904):0≤f8 a (m:Int)∧f8 a (m:Int)≤(m:Int):=by
 have h1:(BitVec.ofInt IntKind.i64.bits a &&& BitVec.ofInt IntKind.i64.bits (m:Int)).toNat≤m:=by
  rw [BitVec.toNat_and]
  refine Nat.le_trans Nat.and_le_right ?_
  rw [BitVec.toNat_ofInt]
  have:IntKind.i64.bits=64:=rfl
  rw [this]
  omega
 unfold f8
 rw [iJ (j0 (by omega) (by omega))]
 omega
theorem sU (a:Int) {b:Nat}:∃ v,sr a (b:Int)=some v:=by unfold sr;rw [if_pos (by omega)];exact ⟨_,rfl⟩
abbrev iE (a:List Int):Prop:=a.length≤1048576∧∀ v∈a,0≤v∧v≤255
def fj (a:List Int) (p:Int):Prop:=0≤p∧p≤(a.length:Int)
section
variable {N:Nat}
theorem ye (a:List Int) (ha:iE a):∀ (m i k:Nat) (h:Int),i+m=4000→m<k→0≤h→h≤1073741823→∃ v,gE N k a h (i:Int)=some v:=by
 intro m
 induction m with
 | zero =>
  intro i k h hi hk _ _
  obtain ⟨k,rfl⟩:∃ g,k=g+1:=⟨k-1,by omega⟩
  rw [gE,decide_eq_false (show ¬ (i:Int)<4000 by omega)]
  cases decide ((i:Int)<(a.length:Int)) <;> exact ⟨_,rfl⟩
 | succ m ih =>
  intro i k h hi hk h0 h1
  obtain ⟨k,rfl⟩:∃ g,k=g+1:=⟨k-1,by omega⟩
  rw [gE]
  by_cases hl:i<a.length
  ·have hb:=ha.2 _ (List.getElem_mem hl)
   rw [dlt hl,cond_true,decide_eq_true (show (i:Int)<4000 by omega),cond_true,dL (by omega) (by omega),bs,aZ hl,bs,iJ (j0 (by omega) (by omega)),bo (by omega) (by omega),bs,bo (by omega) (by omega),bs,ad1 (by omega),bs]
   have hi':=p4 (h*131+a[i]+7) (m:=1073741823) (by decide)
   exact ih (i+1) k _ (by omega) (by omega) hi'.1 hi'.2
  ·rw [dge hl,cond_false];exact ⟨_,rfl⟩
theorem tH (hN:1073741824≤N) {a:List Int} (ha:iE a):∃ h,jW N a=some (0,h):=by
 have hl:=ha.1
 obtain ⟨v,hv⟩:=ye (N:=N) a ha 4000 0 N (10101+(a.length:Int)) (by omega) (by omega) (by omega) (by omega)
 unfold jW
 rw [bo (by omega) (by omega),bs]
 have hv':gE N N a (10101+(a.length:Int)) 0=some v:=hv
 rw [hv',bs]
 exact ⟨_,rfl⟩
theorem jz {a:List Int} (ha:iE a) {p h:Int} (hc:fj a p):∃ x q g,gg N a p h=some (x,q,g)∧0≤x∧x≤255∧fj a q:=by
 have hl:=ha.1
 have h0:=hc.1;have h1:=hc.2
 unfold gg
 obtain ⟨x1,e1⟩:=sU (IntKind.i64.wrap ((IntKind.i64.wrap (h*6364136223846793005))+1442695040888963407)) (b:=33)
 obtain ⟨x2,e2⟩:=sU (IntKind.i64.wrap ((IntKind.i64.wrap (h*6364136223846793005))+1442695040888963407)) (b:=45)
 have e1':sr (IntKind.i64.wrap ((IntKind.i64.wrap (h*6364136223846793005))+1442695040888963407)) 33=some x1:=e1
 have e2':sr (IntKind.i64.wrap ((IntKind.i64.wrap (h*6364136223846793005))+1442695040888963407)) 45=some x2:=e2
 rw [e1',bs,e2',bs]
 by_cases hp:p<(a.length:Int)
 ·rw [decide_eq_true hp,cond_true,oX h0 hp,bs]
  have hb:=p4 (IntKind.i64.wrap ((f8 (jc x1 x2) 255)+(IntKind.i64.wrap a[p.toNat]))) (m:=255) (by decide)
  refine ⟨_,_,_,rfl,hb.1,hb.2,?_⟩
  rw [iJ (j0 (by omega) (by omega))]
  exact ⟨by omega,by omega⟩
 ·rw [decide_eq_false hp,cond_false]
  have hb:=p4 (jc x1 x2) (m:=255) (by decide)
  exact ⟨_,_,_,rfl,hb.1,hb.2,hc⟩
theorem fL {a:List Int} (ha:iE a) {p h n:Int} (hc:fj a p):∃ x q g,dO N a p h n=some (x,q,g)∧0≤x∧(0<n→x<n)∧(n≤0→x=0)∧fj a q:=by
 unfold dO
 by_cases h0:n≤0
 ·rw [decide_eq_true h0,cond_true]
  exact ⟨_,_,_,rfl,Int.le_refl _,fun h=>by omega,fun _=>rfl,hc⟩
 ·rw [decide_eq_false h0,cond_false]
  by_cases h1:n≤256
  ·obtain ⟨x,q,g,e,b0,b1,hc'⟩:=jz (N:=N) ha (h:=h) hc
   rw [decide_eq_true h1,cond_true,e,bs,nM (by omega),bs]
   have:=pV b0 (show 0<n by omega)
   exact ⟨_,_,_,rfl,this.1,fun _=>this.2,fun h=>by omega,hc'⟩
  ·rw [decide_eq_false h1,cond_false]
   obtain ⟨x,q,g,e,b0,b1,hc1⟩:=jz (N:=N) ha (h:=h) hc
   rw [e,bs]
   obtain ⟨y,q2,g2,e2,c0,c1,hc2⟩:=jz (N:=N) ha (h:=g) hc1
   dsimp only
   rw [e2,bs]
   obtain ⟨z,q3,g3,e3,d0,d1,hc3⟩:=jz (N:=N) ha (h:=g2) hc2
   dsimp only
   rw [e3,bs]
   obtain ⟨w,q4,g4,e4,f0,f1,hc4⟩:=jz (N:=N) ha (h:=g3) hc3
   dsimp only
   rw [e4,bs]
   dsimp only
   rw [dL (by omega) (by omega),bs,dL (by omega) (by omega),bs,bo (by omega) (by omega),bs,dL (by omega) (by omega),bs,bo (by omega) (by omega),bs,bo (by omega) (by omega),bs,nM (by omega),bs]
   have:=pV (show 0≤x*16777216+y*65536+z*256+w by omega) (show 0<n by omega)
   exact ⟨_,_,_,rfl,this.1,fun _=>this.2,fun h=>by omega,hc4⟩
theorem jm {a l:List Int} (ha:iE a) {p h:Int} (hc:fj a p) (hl:0<l.length):∃ x q g,fE N a p h l=some (x,q,g)∧x∈l∧fj a q:=by
 obtain ⟨x,q,g,e,b0,b1,_,hc'⟩:=fL (N:=N) ha (h:=h) (n:=(l.length:Int)) hc
 have b2:=b1 (by omega)
 unfold fE
 rw [e,bs]
 dsimp only
 rw [oX b0 b2,bs]
 exact ⟨_,_,_,rfl,List.getElem_mem _,hc'⟩
end
section
variable {N:Nat}
def jb (n:Nat):List Int:=(List.range' 0 n).map fun i:Nat=>(i:Int)
theorem oG (n:Nat):(jb n).length=n:=by simp [jb]
end
abbrev p8:=List (List Int)
section
variable {N:Nat}
def wF (r:Int × p8):Prop:=(-1≤r.1∧r.1≤6)∧r.2.length≤7∧∀ w∈r.2,w.length≤6∧∀ v∈w,-1≤v∧v≤100
end
def nq (a b:List iL):Prop:=∃ t,b=a++t
theorem nq.refl (a:List iL):nq a a:=⟨[],by simp⟩
theorem nq.trans {a b c:List iL} (h:nq a b) (k:nq b c):nq a c:=by
 obtain ⟨t,rfl⟩:=h;obtain ⟨u,rfl⟩:=k;exact ⟨t++u,by simp⟩
theorem nq.len {a b:List iL} (h:nq a b):a.length≤b.length:=by
 obtain ⟨t,rfl⟩:=h;simp
structure QFor (ts:List iO) (n:Nat) (atoms:List aU) (order:List Int):Prop where
 n1:1≤n
 n5:n≤5
 ol:order.length=n
 os:jg order n=true
 a1:1≤atoms.length
 a4:atoms.length≤4
 al:∀ a∈atoms,a.2.length≤5∧1≤a.2.length∧∀ v∈a.2,0≤v∧v<n
 af:∀ a∈atoms,(wD ts a.1).2=true∧(wD ts a.1).1.1=(a.2.length:Int)
 cov:∀ v:Int,0≤v→v<n→∃ a∈atoms,v∈a.2
theorem oK {atoms:List aU} (ha:eN atoms) {i:Nat} (h:i<atoms.length):okI atoms[i].2:=(ha.2 _ (List.getElem_mem h)).2
abbrev tq (xs:List Int):Prop:=xs.Pairwise (·<·)
abbrev Nxt:=List Int→List Int × Int
structure NxtOk (f:Nxt):Prop where
 len:∀ p,(f p).1.length≤16
 asc:∀ p,tq (f p).1
 val:∀ p,∀ v∈(f p).1,0≤v∧v≤99
 st0:∀ p,0≤(f p).2
 st1:∀ p,(f p).2≤1000
theorem om {α β:Type} {g:α→List β} {k:Nat} (h:∀ x,(g x).length≤k):∀ L:List α,(L.flatMap g).length≤L.length*k
 | []=>by simp
 | p :: L=>by
  have h1:=h p
  have h2:=om h L
  rw [List.flatMap_cons,List.length_append,List.length_cons,Nat.succ_mul];omega
def tu (Ls:p8) (A:List Nat) (k:Nat):Int:=(Ls.getD k []).getD (A.getD k 0) 0
structure LInv (Ls:p8) (A:List Nat) (most:Int) (out:List Int) (s:Nat):Prop where
 pos:0<Ls.length
 len:A.length=Ls.length
 asc:∀ l∈Ls,tq l
 lt:∀ k,k<Ls.length→A.getD k 0<(Ls.getD k []).length
 cyc:∀ i j,i≤j→j<Ls.length→tu Ls A ((s+i) % Ls.length)≤tu Ls A ((s+j) % Ls.length)
 top:tu Ls A ((s+(Ls.length-1)) % Ls.length)=most
 oasc:tq out
 olt:∀ x∈out,x<most
 ocom:∀ x∈out,∀ l∈Ls,x∈l
 all:∀ x,(∀ l∈Ls,x∈l)→x∈out∨∀ k,k<Ls.length→tu Ls A k≤x
def zP (l:List Int):Int:=l.getD 0 0
def hdI (ls:p8) (j:Int):Int:=zP (ls.getD j.toNat [])
def leI (a b:Int):Prop:=a≤b
structure OrdOk (ls:p8) (O:List Int) (i:Nat):Prop where
 len:O.length=i
 nd:O.Nodup
 bd:∀ j∈O,0≤j∧j<i
 so:(O.map (hdI ls)).Pairwise leI
def yA (ns:List iL):Nat→Int→Int
 | 0,_=>0
 | f+1,nd=>if nd=0 then 0 else yA ns f ((ns.getD nd.toNat ([],[])).2.getD 0 0)+1
def dep (ns:List iL) (nd:Int):Int:=yA ns ns.length nd
structure NodeOk (ns:List iL) (i:Nat):Prop where
 lens:(ns.getD i ([],[])).1.length=(ns.getD i ([],[])).2.length
 vals:lP (ns.getD i ([],[])).1=true
 asc:tq (ns.getD i ([],[])).1
 ne:(ns.getD i ([],[])).1≠[]
 chs:∀ c∈(ns.getD i ([],[])).2,dep ns c=dep ns ((ns.getD i ([],[])).2.getD 0 0)
 new:∀ j,1≤j→j<i→ns.getD j ([],[])≠ns.getD i ([],[])
abbrev jE:=Int × List aU × List Int
def QGd (q:jE):Prop:=(1≤q.1∧q.1≤5)∧(1≤q.2.1.length∧q.2.1.length≤4)∧(∀ a∈q.2.1,a.1.size≤4∧1≤a.2.length∧a.2.length≤5)∧q.2.2.length≤5
def QSm (q:jE):Prop:=(0≤q.1∧q.1≤6)∧q.2.1.length≤5∧(∀ a∈q.2.1,a.1.size≤4∧a.2.length≤5)∧q.2.2.length≤6
theorem QGd.sm {q:jE} (h:QGd q):QSm q:=⟨⟨by have:=h.1;omega,by have:=h.1;omega⟩,by have:=h.2.1;omega,fun a ha=>⟨(h.2.2.1 a ha).1,(h.2.2.1 a ha).2.2⟩,by have:=h.2.2.2;omega⟩
theorem QSm.atoms {q:jE} (h:QSm q):eN q.2.1:=⟨by have:=h.2.1;omega,fun a ha=>⟨by have:=(h.2.2.1 a ha).1;omega,by have:=(h.2.2.1 a ha).2;omega,fun _ _=>trivial⟩⟩
theorem QSm.out {q:jE} (h:QSm q):okI q.2.2:=⟨by have:=h.2.2.2;omega,fun _ _=>trivial⟩
abbrev wy:List aU:=[((⟨#[114]⟩:ByteArray),[0,1]),((⟨#[115]⟩:ByteArray),[1,2]),((⟨#[116]⟩:ByteArray),[2,3]),((⟨#[117]⟩:ByteArray),[3,4])]
def zZ (n:Int) (ats:List aU):Prop:=ats.length≤4∧(∀ a∈ats,1≤a.2.length∧∀ v∈a.2,0≤v∧v<n)∧∀ v:Int,0≤v→v<n→∃ a∈ats,v∈a.2
def QV (q:jE):Prop:=(∀ a∈q.2.1,∀ v∈a.2,v<q.1)∧(q.1≤4∨q.1=5∧q.2.1=wy)
def QB (q:jE):Prop:=zZ q.1 q.2.1→q.1≤5→q.1≤4∨q.1=5∧q.2.1=wy
theorem QV.b {q:jE} (h:QV q):QB q:=fun _ _=>h.2
theorem rf {n:Int} {atoms:List aU} {out:List Int} (h:eO n atoms out=true):∀ a∈atoms,∀ v∈a.2,v<n:=by
 unfold eO at h
 simp only [Bool.and_eq_true,List.all_eq_true] at h
 intro a ha v hv
 have:=h.1.2 a ha
 unfold iP at this
 rw [Bool.and_eq_true,Bool.and_eq_true,b9,List.all_eq_true] at this
 have:=b9.1 (this.2 v hv)
 omega
section
variable {N:Nat}
abbrev tR:List ByteArray:=[(⟨#[40,88,89,90,41,61,114,40,88,89,41,44,115,40,89,90,41,44,116,40,90,88,41]⟩:ByteArray),(⟨#[40,88,89,90,85,41,61,114,40,88,89,41,44,115,40,89,90,41,44,116,40,90,85,41,44,117,40,85,88,41]⟩:ByteArray),(⟨#[40,88,89,90,41,61,114,40,88,89,41,44,115,40,89,90,41]⟩:ByteArray),(⟨#[40,88,41,61,114,40,88,89,41,44,115,40,89,90,41,44,116,40,90,85,41]⟩:ByteArray),(⟨#[40,88,89,90,41,61,118,40,88,89,90,41,44,114,40,88,89,41]⟩:ByteArray),(⟨#[40,88,89,41,61,114,40,88,89,41,44,114,40,89,88,41]⟩:ByteArray),(⟨#[40,88,89,90,85,41,61,118,40,88,89,90,41,44,115,40,90,85,41,44,116,40,85,88,41]⟩:ByteArray),(⟨#[40,88,41,61,114,40,88,88,41]⟩:ByteArray),(⟨#[40,88,89,41,61,114,40,88,90,41,44,115,40,90,89,41,44,114,40,88,85,41,44,115,40,85,89,41]⟩:ByteArray),(⟨#[40,41,61,114,40,88,89,41,44,115,40,89,88,41]⟩:ByteArray),(⟨#[40,88,89,90,85,86,41,61,114,40,88,89,41,44,115,40,89,90,41,44,116,40,90,85,41,44,117,40,85,86,41]⟩:ByteArray)]
theorem xr (M:Nat):cm (M+100) (⟨#[40,88,89,90,41,61,114,40,88,89,41,44,115,40,89,90,41,44,116,40,90,88,41]⟩:ByteArray)=some ((3,[((⟨#[114]⟩:ByteArray),[0,1]),((⟨#[115]⟩:ByteArray),[1,2]),((⟨#[116]⟩:ByteArray),[2,0])],[0,1,2]),true):=by kernel_rfl
theorem xS (M:Nat):cm (M+100) (⟨#[40,88,89,90,85,41,61,114,40,88,89,41,44,115,40,89,90,41,44,116,40,90,85,41,44,117,40,85,88,41]⟩:ByteArray)=some ((4,[((⟨#[114]⟩:ByteArray),[0,1]),((⟨#[115]⟩:ByteArray),[1,2]),((⟨#[116]⟩:ByteArray),[2,3]),((⟨#[117]⟩:ByteArray),[3,0])],[0,1,2,3]),true):=by kernel_rfl
theorem xL (M:Nat):cm (M+100) (⟨#[40,88,89,90,41,61,114,40,88,89,41,44,115,40,89,90,41]⟩:ByteArray)=some ((3,[((⟨#[114]⟩:ByteArray),[0,1]),((⟨#[115]⟩:ByteArray),[1,2])],[0,1,2]),true):=by kernel_rfl
theorem xt (M:Nat):cm (M+100) (⟨#[40,88,41,61,114,40,88,89,41,44,115,40,89,90,41,44,116,40,90,85,41]⟩:ByteArray)=some ((4,[((⟨#[114]⟩:ByteArray),[0,1]),((⟨#[115]⟩:ByteArray),[1,2]),((⟨#[116]⟩:ByteArray),[2,3])],[0]),true):=by kernel_rfl
theorem wV (M:Nat):cm (M+100) (⟨#[40,88,89,90,41,61,118,40,88,89,90,41,44,114,40,88,89,41]⟩:ByteArray)=some ((3,[((⟨#[118]⟩:ByteArray),[0,1,2]),((⟨#[114]⟩:ByteArray),[0,1])],[0,1,2]),true):=by kernel_rfl
theorem yb (M:Nat):cm (M+100) (⟨#[40,88,89,41,61,114,40,88,89,41,44,114,40,89,88,41]⟩:ByteArray)=some ((2,[((⟨#[114]⟩:ByteArray),[0,1]),((⟨#[114]⟩:ByteArray),[1,0])],[0,1]),true):=by kernel_rfl
theorem wG (M:Nat):cm (M+100) (⟨#[40,88,89,90,85,41,61,118,40,88,89,90,41,44,115,40,90,85,41,44,116,40,85,88,41]⟩:ByteArray)=some ((4,[((⟨#[118]⟩:ByteArray),[0,1,2]),((⟨#[115]⟩:ByteArray),[2,3]),((⟨#[116]⟩:ByteArray),[3,0])],[0,1,2,3]),true):=by kernel_rfl
theorem xC (M:Nat):cm (M+100) (⟨#[40,88,41,61,114,40,88,88,41]⟩:ByteArray)=some ((1,[((⟨#[114]⟩:ByteArray),[0,0])],[0]),true):=by kernel_rfl
theorem xZ (M:Nat):cm (M+100) (⟨#[40,88,89,41,61,114,40,88,90,41,44,115,40,90,89,41,44,114,40,88,85,41,44,115,40,85,89,41]⟩:ByteArray)=some ((4,[((⟨#[114]⟩:ByteArray),[0,2]),((⟨#[115]⟩:ByteArray),[2,1]),((⟨#[114]⟩:ByteArray),[0,3]),((⟨#[115]⟩:ByteArray),[3,1])],[0,1]),true):=by kernel_rfl
theorem yg (M:Nat):cm (M+100) (⟨#[40,41,61,114,40,88,89,41,44,115,40,89,88,41]⟩:ByteArray)=some ((2,[((⟨#[114]⟩:ByteArray),[0,1]),((⟨#[115]⟩:ByteArray),[1,0])],[]),true):=by kernel_rfl
theorem vR (M:Nat):cm (M+100) (⟨#[40,88,89,90,85,86,41,61,114,40,88,89,41,44,115,40,89,90,41,44,116,40,90,85,41,44,117,40,85,86,41]⟩:ByteArray)=some ((5,[((⟨#[114]⟩:ByteArray),[0,1]),((⟨#[115]⟩:ByteArray),[1,2]),((⟨#[116]⟩:ByteArray),[2,3]),((⟨#[117]⟩:ByteArray),[3,4])],[0,1,2,3,4]),true):=by kernel_rfl
theorem sc (hN:1073741824≤N):∀ s∈tR,∃ q,cm N s=some (q,true)∧QGd q∧QV q:=by
 obtain ⟨M,rfl⟩:∃ M,N=M+100:=⟨N-100,by omega⟩
 intro s hs
 simp only [List.mem_cons,List.not_mem_nil,or_false] at hs
 rcases hs with rfl | rfl | rfl | rfl | rfl | rfl | rfl | rfl | rfl | rfl | rfl
 ·exact ⟨_,xr M,by unfold QGd;decide,⟨by decide,Or.inl (by decide)⟩⟩
 ·exact ⟨_,xS M,by unfold QGd;decide,⟨by decide,Or.inl (by decide)⟩⟩
 ·exact ⟨_,xL M,by unfold QGd;decide,⟨by decide,Or.inl (by decide)⟩⟩
 ·exact ⟨_,xt M,by unfold QGd;decide,⟨by decide,Or.inl (by decide)⟩⟩
 ·exact ⟨_,wV M,by unfold QGd;decide,⟨by decide,Or.inl (by decide)⟩⟩
 ·exact ⟨_,yb M,by unfold QGd;decide,⟨by decide,Or.inl (by decide)⟩⟩
 ·exact ⟨_,wG M,by unfold QGd;decide,⟨by decide,Or.inl (by decide)⟩⟩
 ·exact ⟨_,xC M,by unfold QGd;decide,⟨by decide,Or.inl (by decide)⟩⟩
 ·exact ⟨_,xZ M,by unfold QGd;decide,⟨by decide,Or.inl (by decide)⟩⟩
 ·exact ⟨_,yg M,by unfold QGd;decide,⟨by decide,Or.inl (by decide)⟩⟩
 ·exact ⟨_,vR M,by unfold QGd;decide,⟨by decide,Or.inr ⟨rfl,rfl⟩⟩⟩
theorem oi {a:List Int} {l:List ByteArray} (ha:iE a) {p h:Int} (hc:fj a p) (hl:0<l.length):∃ x q g,iU N a p h l=some (x,q,g)∧x∈l∧fj a q:=by
 obtain ⟨x,q,g,e,b0,b1,_,hc'⟩:=fL (N:=N) ha (h:=h) (n:=(l.length:Int)) hc
 have b2:=b1 (by omega)
 unfold iU
 rw [e,bs]
 dsimp only
 rw [oX b0 b2,bs]
 exact ⟨_,_,_,rfl,List.getElem_mem _,hc'⟩
theorem lQ {a:List Int} (ha:iE a) {p h n:Int} (hc:fj a p):∃ b q g,ii N a p h n=some (b,q,g)∧fj a q:=by
 obtain ⟨x,q,g,e,_,_,_,hc'⟩:=fL (N:=N) ha (h:=h) (n:=n) hc
 unfold ii
 rw [e,bs]
 exact ⟨_,_,_,rfl,hc'⟩
theorem tm {a:List Int} (ha:iE a) {z1 z7 z9 n:Int} {z2 z5 z8:List aU} {z3 z6 z10:List Int} {s:ByteArray}:∀ (d k:Nat) (acc:List Int) (p h m:Int),fj a p→m.toNat=d→m≤10→d<k→acc.length+d≤100 →
  ∃ q g vs m',gA N k a p h z1 z2 z3 z7 z5 z6 n z8 z10 z9 s acc m=some (q,g,vs,m')∧fj a q∧vs.length=acc.length+d:=by
 intro d
 induction d with
 | zero =>
  intro k acc p h m hc hd _ hk _
  obtain ⟨k,rfl⟩:∃ g,k=g+1:=⟨k-1,by omega⟩
  rw [gA,decide_eq_false (show ¬ 0<m by omega),cond_false]
  exact ⟨_,_,_,_,rfl,hc,by omega⟩
 | succ d ih =>
  intro k acc p h m hc hd hm hk hl
  obtain ⟨k,rfl⟩:∃ g,k=g+1:=⟨k-1,by omega⟩
  obtain ⟨x,q,g,e,_,_,_,hc'⟩:=fL (N:=N) ha (h:=h) (n:=n) hc
  rw [gA,decide_eq_true (show 0<m by omega),cond_true,e,bs]
  dsimp only
  rw [bm (by decide) (by simp;omega),bs,eS (by omega) (by omega),bs]
  obtain ⟨q',g',vs,m',e',k1,k2⟩:=ih k (acc++[x]) q g (m-1) hc' (by omega) (by omega) (by omega) (by simp;omega)
  exact ⟨q',g',vs,m',e',k1,by simp at k2;omega⟩
theorem tB (hN:1073741824≤N) {a:List Int} (ha:iE a) {z1 z4 n:Int} {z2 z5:List aU} {z3 z6 z7:List Int}:∀ (d k:Nat) (acc:List aU) (p h m:Int),fj a p→m.toNat=d→m≤10→d<k→acc.length+d≤100→(∀ x∈acc,x.1.size≤4∧1≤x.2.length∧x.2.length≤5) →
  ∃ q g ats m',gv N k a p h z1 z2 z3 z4 z5 z6 n acc z7 m=some (q,g,ats,m')∧fj a q∧ats.length=acc.length+d∧∀ x∈ats,x.1.size≤4∧1≤x.2.length∧x.2.length≤5:=by
 intro d
 induction d with
 | zero =>
  intro k acc p h m hc hd _ hk _ hx
  obtain ⟨k,rfl⟩:∃ g,k=g+1:=⟨k-1,by omega⟩
  rw [gv,decide_eq_false (show ¬ 0<m by omega),cond_false]
  exact ⟨_,_,_,_,rfl,hc,by omega,hx⟩
 | succ d ih =>
  intro k acc p h m hc hd hm hk hl hx
  obtain ⟨k,rfl⟩:∃ g,k=g+1:=⟨k-1,by omega⟩
  obtain ⟨x,q,g,e,b0,b1,_,hc'⟩:=fL (N:=N) ha (h:=h) (n:=5) hc
  have b1:=b1 (by decide)
  rw [gv,decide_eq_true (show 0<m by omega),cond_true,e,bs]
  dsimp only
  have hi:x<(([(⟨#[114]⟩:ByteArray),(⟨#[115]⟩:ByteArray),(⟨#[116]⟩:ByteArray),(⟨#[117]⟩:ByteArray),(⟨#[118]⟩:ByteArray)]:List ByteArray).length:Int):=b1
  rw [oX b0 hi,bs,tK b0 (by decide) (by omega),bs]
  have ht:0≤x.tdiv 4∧x.tdiv 4≤1:=by
   rw [Int.tdiv_eq_ediv_of_nonneg b0];omega
  rw [bo (by omega) (by omega),bs]
  have hs:∀ s∈([(⟨#[114]⟩:ByteArray),(⟨#[115]⟩:ByteArray),(⟨#[116]⟩:ByteArray),(⟨#[117]⟩:ByteArray),(⟨#[118]⟩:ByteArray)]:List ByteArray),s.size≤4:=by decide
  have hs':=hs _ (List.getElem_mem (l:=([(⟨#[114]⟩:ByteArray),(⟨#[115]⟩:ByteArray),(⟨#[116]⟩:ByteArray),(⟨#[117]⟩:ByteArray),(⟨#[118]⟩:ByteArray)]:List ByteArray)) (n:=x.toNat) (by omega))
  obtain ⟨q',g',vs,m',e',k1,k2⟩:=tm (N:=N) ha (z1:=z1) (z2:=z2) (z3:=z3) (z7:=z4) (z5:=z5) (z6:=z6) (n:=n) (z8:=acc) (z10:=z7) (z9:=m) (s:=([(⟨#[114]⟩:ByteArray),(⟨#[115]⟩:ByteArray),(⟨#[116]⟩:ByteArray),(⟨#[117]⟩:ByteArray),(⟨#[118]⟩:ByteArray)]:List ByteArray)[x.toNat]) (2+x.tdiv 4).toNat N [] q g (2+x.tdiv 4) hc' rfl (by omega) (by omega) (by simp;omega)
  rw [e',bs]
  unfold lpB
  dsimp only
  rw [bm (by decide) (by simp;omega),bs,eS (by omega) (by omega),bs]
  simp only [List.length_nil,Nat.zero_add] at k2
  obtain ⟨q2,g2,ats,m2,e2,j1,j2,j3⟩:=ih k (acc++[(_,vs)]) q' g' (m-1) k1 (by omega) (by omega) (by omega) (by simp;omega) (fun y hy=>by
   rcases List.mem_append.1 hy with h | h
   ·exact hx y h
   ·rw [List.mem_singleton] at h;rw [h]
    exact ⟨hs',by show 1≤vs.length;omega,by show vs.length≤5;omega⟩)
  exact ⟨q2,g2,ats,m2,e2,j1,by simp at j2;omega,j3⟩
theorem tN {a:List Int} (ha:iE a) {z1 z4:Int} {n:Nat} {z2 z5 z8:List aU} {z3 z6:List Int} (hn:n≤10):∀ (d k:Nat) (acc:List Int) (p h:Int) (i:Nat),fj a p→i+d=n→d<k→acc.length≤i →
  ∃ q g out v,fc N k a p h z1 z2 z3 z4 z5 z6 (n:Int) z8 acc (i:Int)=some (q,g,out,v)∧fj a q∧out.length≤n:=by
 intro d
 induction d with
 | zero =>
  intro k acc p h i hc hd hk hl
  obtain ⟨k,rfl⟩:∃ g,k=g+1:=⟨k-1,by omega⟩
  rw [fc,decide_eq_false (show ¬ (i:Int)<(n:Int) by omega),cond_false]
  exact ⟨_,_,_,_,rfl,hc,by omega⟩
 | succ d ih =>
  intro k acc p h i hc hd hk hl
  obtain ⟨k,rfl⟩:∃ g,k=g+1:=⟨k-1,by omega⟩
  obtain ⟨b,q,g,e,hc'⟩:=lQ (N:=N) ha (h:=h) (n:=2) hc
  rw [fc,decide_eq_true (show (i:Int)<(n:Int) by omega),cond_true,e,bs]
  dsimp only
  cases b with
  | true =>
   rw [cond_true,bm (by decide) (by simp;omega),bs,ad1 (by omega),bs]
   exact ih k _ q g (i+1) hc' (by omega) (by omega) (by simp;omega)
  | false =>
   rw [cond_false,ad1 (by omega),bs]
   exact ih k _ q g (i+1) hc' (by omega) (by omega) (by omega)
theorem qU (hN:1073741824≤N) {a:List Int} (ha:iE a) {p h:Int} (hc:fj a p):∃ r q g,i9 N a p h=some (r,q,g)∧fj a q∧QGd r∧QV r:=by
 unfold i9
 obtain ⟨s,q,g,e,hs,hc1⟩:=oi (N:=N) ha (h:=h) (l:=tR) hc (by decide)
 obtain ⟨r,er,hr⟩:=sc hN s hs
 rw [e,bs]
 dsimp only
 rw [er,bs]
 obtain ⟨b,q2,g2,e2,hc2⟩:=lQ (N:=N) ha (h:=g) (n:=3) hc1
 rw [e2,bs]
 dsimp only
 cases b with
 | false=>rw [cond_false];exact ⟨_,_,_,rfl,hc2,hr⟩
 | true =>
  obtain ⟨x,q3,g3,e3,b0,b1,_,hc3⟩:=fL (N:=N) ha (h:=g2) (n:=4) hc2
  have b1:=b1 (by decide)
  rw [cond_true,e3,bs]
  dsimp only
  obtain ⟨y,q4,g4,e4,c0,c1,_,hc4⟩:=fL (N:=N) ha (h:=g3) (n:=4) hc3
  have c1:=c1 (by decide)
  rw [bo (by omega) (by omega),bs,e4,bs]
  dsimp only
  rw [bo (by omega) (by omega),bs]
  obtain ⟨q5,g5,ats,m5,e5,hc5,l5,a5⟩:=tB hN ha (z1:=0) (z2:=[]) (z3:=[]) (z4:=r.1) (z5:=r.2.1) (z6:=r.2.2) (n:=1+x) (z7:=[]) (1+y).toNat N [] q4 g4 (1+y) hc4 rfl (by omega) (by omega) (by simp;omega) (by simp)
  rw [e5,bs]
  unfold lpB
  dsimp only
  have hx:((x.toNat+1:Nat):Int)=1+x:=by omega
  obtain ⟨q6,g6,out,v6,e6,hc6,l6⟩:=tN (N:=N) ha (z1:=0) (z2:=[]) (z3:=[]) (z4:=r.1) (z5:=r.2.1) (z6:=r.2.2) (n:=x.toNat+1) (z8:=ats) (by omega) (x.toNat+1) N [] q5 g5 0 hc5 (by omega) (by omega) (by simp)
  rw [hx] at e6
  have e6':fc N N a q5 g5 0 [] [] r.1 r.2.1 r.2.2 (1+x) ats [] 0=some (q6,g6,out,v6):=e6
  simp only [List.length_nil,Nat.zero_add] at l5
  have hq:QGd (1+x,ats,out):=⟨⟨by show 1≤1+x;omega,by show 1+x≤5;omega⟩,⟨by show 1≤ats.length;omega,by show ats.length≤4;omega⟩,a5,by show out.length≤5;omega⟩
  rw [e6',bs]
  dsimp only
  rw [gL hN (QSm.atoms hq.sm) (QSm.out hq.sm),bs]
  cases hqo:eO (1+x) ats out with
  | true=>rw [cond_true];exact ⟨_,_,_,rfl,hc6,hq,rf hqo,Or.inl (by show 1+x≤4;omega)⟩
  | false=>rw [cond_false];exact ⟨_,_,_,rfl,hc6,hr⟩
theorem se (hN:1073741824≤N) {a:List Int} (ha:iE a) {p h:Int} (hc:fj a p):∃ r q g,jY N a p h=some (r,q,g)∧fj a q∧QSm r∧QB r:=by
 obtain ⟨⟨n,ats,out⟩,q,g,e,hc1,hr,hv⟩:=qU hN ha (h:=h) hc
 obtain ⟨hv1,hv2⟩:=hv
 dsimp only at hv1 hv2
 obtain ⟨x,q2,g2,e2,_,_,_,hc2⟩:=fL (N:=N) ha (h:=g) (n:=14) hc1
 unfold jY
 rw [e,bs]
 dsimp only
 rw [e2,bs]
 dsimp only
 have hn:=hr.1;have ha1:=hr.2.1;have ha2:=hr.2.2.1;have ho:=hr.2.2.2
 dsimp only at hn ha1 ha2 ho
 have hsm:=hr.sm
 cases h0:(x == 0) with
 | true =>
  rw [cond_true,bo (by omega) (by omega),bs]
  obtain ⟨y,q3,g3,e3,hy,hc3⟩:=jm (N:=N) ha (h:=g2) (l:=[0,6,n+1]) hc2 (Nat.zero_lt_succ _)
  rw [e3,bs]
  simp only [List.mem_cons,List.not_mem_nil,or_false] at hy
  refine ⟨_,_,_,rfl,hc3,⟨?_,hsm.2⟩,fun hg hy5=>?_⟩
  ·show 0≤y∧y≤6
   omega
  ·dsimp only at hg hy5 ⊢
   by_cases h4:y≤4
   ·exact Or.inl h4
   ·obtain ⟨b,hb1,hb2⟩:=hg.2.2 (y-1) (by omega) (by omega)
    have:=hv1 b hb1 _ hb2
    omega
 | false =>
 rw [cond_false]
 cases h1:(x == 1) with
 | true =>
  rw [cond_true]
  obtain ⟨y,q3,g3,e3,hy,hc3⟩:=oi (N:=N) ha (h:=g2) (l:=[ByteArray.empty,(⟨#[119]⟩:ByteArray),(⟨#[114]⟩:ByteArray)]) hc2 (by decide)
  have hys:∀ s∈[ByteArray.empty,(⟨#[119]⟩:ByteArray),(⟨#[114]⟩:ByteArray)],s.size≤4:=by decide
  rw [e3,bs,bm (by decide) (by simp;omega),bs]
  refine ⟨_,_,_,rfl,hc3,⟨hsm.1,by show (ats++[_]).length≤5;simp;omega,fun b hb=>?_,hsm.2.2.2⟩,fun hg hy5=>by
   dsimp only at hg hy5 ⊢
   rcases hv2 with h4 | ⟨h5,h6⟩
   ·exact Or.inl h4
   ·have:=hg.1
    rw [h6] at this
    simp at this⟩
  rcases List.mem_append.1 hb with h | h
  ·exact hsm.2.2.1 b h
  ·rw [List.mem_singleton] at h;rw [h];exact ⟨hys y hy,by show ([0]:List Int).length≤5;decide⟩
 | false =>
 rw [cond_false]
 cases h2:(x == 2) with
 | true =>
  rw [cond_true]
  obtain ⟨y,q3,g3,e3,b0,b1,_,hc3⟩:=fL (N:=N) ha (h:=g2) (n:=6) hc2
  have b1:=b1 (by decide)
  rw [e3,bs]
  dsimp only
  rw [eS (by omega) (by omega),bs,bm (by decide) (by simp;omega),bs]
  exact ⟨_,_,_,rfl,hc3,⟨hsm.1,hsm.2.1,hsm.2.2.1,by show (out++[_]).length≤6;simp;omega⟩,fun _ _=>hv2⟩
 | false =>
 rw [cond_false]
 have hl:0<ats.length:=by omega
 have i0:ix ats 0=some ats[0]:=aZ hl
 have hm0:=ha2 _ (List.getElem_mem hl)
 cases h3:(x == 3) with
 | true =>
  have s0:sto ats 0 (ats[0].1,[])=some (ats.set 0 (ats[0].1,[])):=jN hl
  rw [cond_true,i0,bs,s0,bs]
  refine ⟨_,_,_,rfl,hc2,⟨hsm.1,by show (ats.set 0 _).length≤5;rw [List.length_set];omega,fun b hb=>?_,hsm.2.2.2⟩,fun hg _=>by
   have:=(hg.2.1 _ (List.mem_set hl (ats[0].1,([]:List Int)))).1
   exact absurd (show 1≤([]:List Int).length from this) (by decide)⟩
  rcases List.mem_or_eq_of_mem_set hb with h | h
  ·exact hsm.2.2.1 b h
  ·rw [h];exact ⟨hm0.1,Nat.zero_le _⟩
 | false =>
 rw [cond_false]
 cases h4:(x == 4) with
 | true =>
  obtain ⟨y,q3,g3,e3,hy,hc3⟩:=jm (N:=N) ha (h:=g2) (l:=[(-1),5]) hc2 (by decide)
  have hl1:0<ats[0].2.length:=by omega
  have i1:ix ats[0].2 0=some ats[0].2[0]:=aZ hl1
  have s1:sto ats[0].2 0 y=some (ats[0].2.set 0 y):=jN hl1
  have s0:sto ats 0 (ats[0].1,ats[0].2.set 0 y)=some (ats.set 0 (ats[0].1,ats[0].2.set 0 y)):=jN hl
  rw [cond_true,i0,bs,e3,bs,i1,bs,s1,bs,s0,bs]
  refine ⟨_,_,_,rfl,hc3,⟨hsm.1,by show (ats.set 0 _).length≤5;rw [List.length_set];omega,fun b hb=>?_,hsm.2.2.2⟩,fun hg hy5=>by
   dsimp only at hg hy5 ⊢
   have:=(hg.2.1 _ (List.mem_set hl (ats[0].1,ats[0].2.set 0 y))).2 y (List.mem_set hl1 y)
   simp only [List.mem_cons,List.not_mem_nil,or_false] at hy
   omega⟩
  rcases List.mem_or_eq_of_mem_set hb with h | h
  ·exact hsm.2.2.1 b h
  ·rw [h];exact ⟨hm0.1,by show (ats[0].2.set 0 y).length≤5;rw [List.length_set];exact hm0.2.2⟩
 | false =>
 rw [cond_false]
 exact ⟨_,_,_,rfl,hc2,hsm,fun _ _=>hv2⟩
end
def TSm (t:iO):Prop:=t.1.size≤5∧t.2.2.length≤10∧∀ r∈t.2.2,r.length≤6
def DSm (ts:List iO):Prop:=ts.length≤6∧∀ t∈ts,TSm t
def TSv (t:iO):Prop:=t.2.2.length≤7∨∀ r∈t.2.2,∀ v∈r,0≤v∧v<6
def TSb (t:iO):Prop:=TSm t∧TSv t
theorem DSm.ok {ts:List iO} (h:DSm ts):AF ts:=⟨by have:=h.1;omega,fun t ht=>by
 obtain ⟨h1,h2,h3⟩:=h.2 t ht
 exact ⟨by omega,by omega,fun r hr=>⟨by have:=h3 r hr;omega,fun _ _=>trivial⟩⟩⟩
section
variable {N:Nat}
theorem wI {α:Type} {xs:List α} {i:Int} {y:α} (h0:0≤i) (h:i<xs.length):sto xs i y=some (xs.set i.toNat y):=by
 obtain ⟨k,rfl⟩:=Int.eq_ofNat_of_zero_le h0
 exact jN (by omega)
theorem wF.t {r:Int × p8} {s:ByteArray} (hs:s.size≤5) (k:wF r):TSb (s,r):=⟨⟨hs,by show r.2.length≤10;have:=k.2.1;omega,fun w hw=>(k.2.2 w hw).1⟩,Or.inl k.2.1⟩
def JSm (ts:List iO) (r:jE) (o:List Int):Prop:=DSm ts∧QSm r∧o.length≤5
theorem JSm.o {ts:List iO} {r:jE} {o:List Int} (h:JSm ts r o):okI o:=⟨by have:=h.2.2;omega,fun _ _=>trivial⟩
theorem Ay {a:List Int}:fj a 0:=⟨Int.le_refl _,by omega⟩
end
section
variable {N:Nat}
theorem qT (hN:1073741824≤N) {a:List Int} (ha:iE a) {p h:Int} (hc:fj a p) {n:Nat} (hn:n≤1000):∃ xs q g,iM N a p h (n:Int)=some (xs,q,g)∧fj a q∧xs.length≤n∧∀ v∈xs,0≤v∧v≤16:=by
 have key:∀ (m k:Nat) (acc:List Int) (p h:Int),fj a p→acc.length+m=n→m<k→(∀ v∈acc,0≤v∧v≤16)→∃ q g xs,f7 N k a p h (n:Int) acc=some (q,g,xs)∧fj a q∧xs.length≤n∧∀ v∈xs,0≤v∧v≤16:=by
  intro m
  induction m with
  | zero =>
   intro k acc p h hc h1 h2 h3
   obtain ⟨k,rfl⟩:∃ g,k=g+1:=⟨k-1,by omega⟩
   rw [f7,decide_eq_false (by omega),cond_false]
   exact ⟨_,_,_,rfl,hc,by omega,h3⟩
  | succ m ih =>
   intro k acc p h hc h1 h2 h3
   obtain ⟨k,rfl⟩:∃ g,k=g+1:=⟨k-1,by omega⟩
   obtain ⟨x,q,g,e,mx,hc'⟩:=jm (N:=N) ha (h:=h) hc (l:=[0,1,2,3,5,9,16]) (by decide)
   have bx:0≤x∧x≤16:=by
    simp only [List.mem_cons,List.not_mem_nil,or_false] at mx
    rcases mx with h | h | h | h | h | h | h <;> omega
   rw [f7,decide_eq_true (by omega),cond_true,e,bs]
   dsimp only
   rw [bm (by decide) (by simp;omega),bs]
   refine ih k _ q g hc' (by simp;omega) (by omega) fun v hv=>?_
   rcases List.mem_append.1 hv with h | h
   ·exact h3 v h
   ·rw [List.mem_singleton] at h;rw [h];exact bx
 obtain ⟨q,g,xs,e,h1,h2,h3⟩:=key n N [] p h hc (by simp) (by omega) (by simp)
 unfold iM
 rw [e,bs,lpB]
 exact ⟨_,_,_,rfl,h1,h2,h3⟩
end
section
variable {N:Nat}
def VR (N:Nat) (r:cj):Prop:=ax N r.1 r.2=some true
def rv (r:cj):Rat:=(r.1:Rat) / (r.2:Rat)
theorem wm:∀ (m k:Nat) (x y:Int),0≤x→0≤y→y<2 ^ m→2*m<k→∃ g z,cV N k x y=some (g,z)∧g ∣ x∧g ∣ y∧(0<x∨0<y→0<g)∧∀ c,c ∣ x→c ∣ y→c ∣ g:=by
 have one:∀ (k:Nat) (x:Int),0≤x→∃ g z,cV N (k+1) x 0=some (g,z)∧g ∣ x∧g ∣ 0∧(0<x∨(0:Int)<0→0<g)∧∀ c,c ∣ x→c ∣ (0:Int)→c ∣ g:=by
  intro k x hx
  rw [cV,show ((0:Int) != 0)=false from rfl,cond_false]
  exact ⟨x,0,rfl,Int.dvd_refl x,Int.dvd_zero x,fun h=>by omega,fun c h _=>h⟩
 intro m
 induction m with
 | zero =>
  intro k x y hx hy hm hk
  obtain ⟨k,rfl⟩:∃ k',k=k'+1:=⟨k-1,by omega⟩
  obtain rfl:y=0:=by omega
  exact one k x hx
 | succ m ih =>
  intro k x y hx hy hm hk
  obtain ⟨k,rfl⟩:∃ k',k=k'+2:=⟨k-2,by omega⟩
  by_cases h0:y=0
  ·subst h0
   exact one (k+1) x hx
  ·have hyp:0<y:=by omega
   have e1:=Int.emod_add_mul_ediv x y
   have t1:=Int.emod_nonneg x h0
   have t2:=Int.emod_lt_of_pos x hyp
   have back:∀ {g:Int},g ∣ y→g ∣ x % y→g ∣ x:=by
    intro g h1 h2
    rw [← e1]
    exact Int.dvd_add h2 (Int.dvd_mul_of_dvd_left h1)
   have fwd:∀ {c:Int},c ∣ x→c ∣ y→c ∣ x % y:=by
    intro c h1 h2
    rw [Int.emod_def]
    exact Int.dvd_sub h1 (Int.dvd_mul_of_dvd_left h2)
   rw [cV,show (y != 0)=true by simpa using h0,cond_true,nM h0,bs,Int.tmod_eq_emod_of_nonneg hx]
   by_cases h1:x % y=0
   ·rw [h1]
    obtain ⟨g,z,e,g1,g2,g3,g4⟩:=one k y hy
    refine ⟨g,z,e,back g1 (by rw [h1];exact g2),g1,fun _=>g3 (.inl hyp),fun c c1 c2=>g4 c c2 (Int.dvd_zero c)⟩
   ·have hr:0<x % y:=by omega
    generalize x % y=r at t1 t2 back fwd h1 hr
    have s1:=Int.emod_nonneg y h1
    have s2:=Int.emod_lt_of_pos y hr
    have e2:=Int.emod_add_mul_ediv y r
    have hq:1≤y / r:=Int.le_ediv_of_mul_le hr (by omega)
    have hq2:r*1≤r*(y / r):=Int.mul_le_mul_of_nonneg_left hq (by omega)
    rw [cV,show (r != 0)=true by simpa using h1,cond_true,nM h1,bs,Int.tmod_eq_emod_of_nonneg hy]
    have hpw:(2:Int) ^ (m+1)=2 ^ m*2:=Int.pow_succ 2 m
    obtain ⟨g,z,e,g1,g2,g3,g4⟩:=ih k r (y % r) t1 s1 (by omega) (by omega)
    have gy:g ∣ y:=by
     rw [← e2]
     exact Int.dvd_add g2 (Int.dvd_mul_of_dvd_left g1)
    refine ⟨g,z,e,back gy g1,gy,fun _=>g3 (.inl hr),fun c c1 c2=>g4 c (fwd c1 c2) ?_⟩
    rw [Int.emod_def]
    exact Int.dvd_sub c2 (Int.dvd_mul_of_dvd_left (fwd c1 c2))
theorem lZ (hN:1073741824≤N) {x y:Int} (hx:0≤x) (hy:0≤y) (h1:y≤4000000000000000000):∃ g,d7 N x y=some g∧g ∣ x∧g ∣ y∧(0<x∨0<y→0<g)∧∀ c,c ∣ x→c ∣ y→c ∣ g:=by
 have hp:(2:Int) ^ 63=9223372036854775808:=by decide
 obtain ⟨g,z,e,h⟩:=wm (N:=N) 63 N x y hx hy (by omega) (by omega)
 refine ⟨g,?_,h⟩
 unfold d7;rw [e,bs,lpB]
theorem nI (n:Int):0≤imx n (0-n)∧(imx n (0-n)=n∨imx n (0-n)=-n)∧∀ c:Int,c ∣ imx n (0-n)↔c ∣ n:=by
 unfold imx
 split
 ·refine ⟨by omega,.inr (by omega),fun c=>?_⟩
  rw [Int.zero_sub]
  exact Int.dvd_neg
 ·refine ⟨by omega,.inl rfl,fun c=>Iff.rfl⟩
theorem rA (hN:1073741824≤N) (n d:Int):∃ b,ax N n d=some b∧(b=true↔1≤d∧d≤1000000000∧-1000000000≤n∧n≤1000000000∧Int.gcd n d=1):=by
 unfold ax
 rw [dN,bs]
 cases h1:inR d 1 1000000000 with
 | false =>
  rw [cond_false]
  refine ⟨false,rfl,fun h=>(by cases h),fun h=>?_⟩
  rw [b9.2 ⟨h.1,h.2.1⟩] at h1;cases h1
 | true =>
  rw [cond_true,dN,bs]
  cases h2:inR n (-1000000000) 1000000000 with
  | false =>
   rw [cond_false]
   refine ⟨false,rfl,fun h=>(by cases h),fun h=>?_⟩
   rw [b9.2 ⟨h.2.2.1,h.2.2.2.1⟩] at h2;cases h2
  | true =>
   have h1':=b9.1 h1
   have h2':=b9.1 h2
   obtain ⟨a1,a2,a3⟩:=nI n
   obtain ⟨g,e,g1,g2,g3,g4⟩:=lZ (N:=N) hN a1 (by omega:0≤d) (by omega)
   rw [cond_true,eS (by omega) (by omega),bs,e,bs]
   refine ⟨_,rfl,?_⟩
   have hg:=g3 (.inr (by omega))
   rw [beq_iff_eq]
   constructor
   ·rintro rfl
    refine ⟨h1'.1,h1'.2,h2'.1,h2'.2,?_⟩
    have h5:=g4 (Int.gcd n d:Int) ((a3 _).2 (Int.gcd_dvd_left ..)) (Int.gcd_dvd_right ..)
    have h6:=Int.le_of_dvd (by decide) h5
    have h7:0<Int.gcd n d:=Int.gcd_pos_of_ne_zero_right n (by omega)
    omega
   ·intro h
    have h5:(g.toNat:Int) ∣ (Int.gcd n d:Int):=by
     rw [Int.toNat_of_nonneg (by omega)]
     exact Int.dvd_coe_gcd ((a3 _).1 g1) g2
    rw [h.2.2.2.2,Int.toNat_of_nonneg (by omega)] at h5
    have:=Int.le_of_dvd (by decide) h5
    omega
theorem eX (hN:1073741824≤N) {r:cj}:VR N r↔1≤r.2∧r.2≤1000000000∧-1000000000≤r.1∧r.1≤1000000000∧Int.gcd r.1 r.2=1:=by
 obtain ⟨b,e,h⟩:=rA hN r.1 r.2
 unfold VR
 rw [e,← h]
 exact ⟨fun h=>Option.some.inj h,fun h=>by rw [h]⟩
theorem ic (hN:1073741824≤N) (r:cj):VR N r∨ax N r.1 r.2=some false:=by
 obtain ⟨b,e,_⟩:=rA hN r.1 r.2
 cases b with
 | true=>exact .inl e
 | false=>exact .inr e
theorem px {n g:Int} (hg:0<g) (h:g ∣ n) (h1:-4000000000000000000≤n) (h2:n≤4000000000000000000):∃ q,qt n g=some q∧q*g=n:=by
 have hb:(n.tdiv g).natAbs≤n.natAbs:=by
  rw [Int.natAbs_tdiv];exact Nat.div_le_self _ _
 refine ⟨n.tdiv g,?_,Int.tdiv_mul_cancel h⟩
 unfold qt
 rw [if_pos ⟨by omega,j0 (by omega) (by omega)⟩]
theorem xT {a b g:Int} (hg:g≠0) (hb:b≠0):((a:Int):Rat) / (b:Rat)=((a*g:Int):Rat) / ((b*g:Int):Rat):=by
 have h1:(g:Rat)≠0:=fun h=>hg (Rat.intCast_eq_zero_iff.1 h)
 have h2:(b:Rat)≠0:=fun h=>hb (Rat.intCast_eq_zero_iff.1 h)
 rw [Rat.intCast_mul,Rat.intCast_mul]
 grind
theorem vM {a b:Int}:((-a:Int):Rat) / ((-b:Int):Rat)=(a:Rat) / (b:Rat):=by
 rw [Rat.intCast_neg,Rat.intCast_neg]
 by_cases h:(b:Rat)=0
 ·rw [h];grind
 ·grind
theorem vZ (hN:1073741824≤N) {n d:Int} (h1:-4000000000000000000≤n) (h2:n≤4000000000000000000) (h3:-4000000000000000000≤d) (h4:d≤4000000000000000000):∃ r b,bz N n d=some (r,b)∧(b=true→VR N r∧d≠0∧rv r=(n:Rat) / (d:Rat)):=by
 have core:∀ n d:Int,-4000000000000000000≤n→n≤4000000000000000000→0<d→d≤4000000000000000000→∃ r b,((sb 0 n).bind fun x154=>(d7 N (imx n x154) d).bind fun r155=>(qt n r155).bind fun x161=>(qt d r155).bind fun x162=>(ax N x161 x162).bind fun r170=>(bif r170 then some ((x161,x162),true) else some ((0,0),false)))=some (r,b)∧(b=true→VR N r∧rv r=(n:Rat) / (d:Rat)):=by
  intro n d h1 h2 h3 h4
  obtain ⟨a1,a2,a3⟩:=nI n
  obtain ⟨g,e,g1,g2,g3,g4⟩:=lZ (N:=N) hN a1 (by omega:0≤d) h4
  have hg:=g3 (.inr h3)
  obtain ⟨p,ep,hp⟩:=px hg ((a3 _).1 g1) h1 h2
  obtain ⟨q,eq,hq⟩:=px hg g2 (by omega) h4
  rw [eS (by omega) (by omega),bs,e,bs,ep,bs,eq,bs]
  obtain ⟨b,eb,hb⟩:=rA hN p q
  rw [eb,bs]
  cases b with
  | false=>exact ⟨_,_,rfl,fun h=>by cases h⟩
  | true =>
   refine ⟨_,_,rfl,fun _=>⟨eb,?_⟩⟩
   have hq0:q≠0:=by have:=(hb.1 rfl).1;omega
   show ((p:Int):Rat) / (q:Rat)=_
   rw [xT (g:=g) (by omega) hq0,hp,hq]
 unfold bz
 by_cases h0:d=0
 ·rw [show (d == 0)=true by simpa using h0,cond_true]
  exact ⟨_,_,rfl,fun h=>by cases h⟩
 ·rw [show (d == 0)=false by simpa using h0,cond_false,eS (by omega) (by omega),bs,dN,bs,show inR n (0-4000000000000000000) 4000000000000000000=true from b9.2 (by omega),cond_true,bs,dN,bs,show inR d (0-4000000000000000000) 4000000000000000000=true from b9.2 (by omega),cond_true]
  by_cases hd:d<0
  ·rw [decide_eq_true hd,cond_true,eS (by omega) (by omega),bs,eS (by omega) (by omega),bs]
   obtain ⟨r,b,e,h⟩:=core (0-n) (0-d) (by omega) (by omega) (by omega) (by omega)
   refine ⟨r,b,e,fun hb=>?_⟩
   obtain ⟨k1,k2⟩:=h hb
   refine ⟨k1,h0,?_⟩
   rw [k2,Int.zero_sub,Int.zero_sub]
   exact vM
  ·rw [decide_eq_false hd,cond_false]
   obtain ⟨r,b,e,h⟩:=core n d h1 h2 (by omega) h4
   exact ⟨r,b,e,fun hb=>⟨(h hb).1,h0,(h hb).2⟩⟩
theorem jk {N:Nat} (hN:1073741824≤N) {r:cj} (h:VR N r):(r.2:Rat)≠0:=fun e=>by
 have h1:=Rat.intCast_eq_zero_iff.1 e
 have:=(eX hN).1 h
 omega
theorem iw {a b:Int} (h1:-1000000000≤a) (h2:a≤1000000000) (h3:-1000000000≤b) (h4:b≤1000000000):-1000000000000000000≤a*b∧a*b≤1000000000000000000:=by
 have h5:(a*b).natAbs≤1000000000*1000000000:=by
  rw [Int.natAbs_mul];exact Nat.mul_le_mul (by omega) (by omega)
 omega
theorem yR (hN:1073741824≤N) (a b:cj):∃ r ok,bL N a.1 a.2 b.1 b.2=some (r,ok)∧(ok=true→VR N a∧VR N b∧VR N r∧rv r=rv a*rv b):=by
 unfold bL
 rcases ic hN a with ha | ha
 ·rcases ic hN b with hb | hb
  ·obtain ⟨a1,a2,a3,a4,_⟩:=(eX hN).1 ha
   obtain ⟨b1,b2,b3,b4,_⟩:=(eX hN).1 hb
   have m1:=iw a3 a4 b3 b4
   have m2:=iw (a:=a.2) (b:=b.2) (by omega) a2 (by omega) b2
   obtain ⟨r,k,e,h⟩:=vZ (N:=N) hN (n:=a.1*b.1) (d:=a.2*b.2) (by omega) (by omega) (by omega) (by omega)
   unfold VR at ha hb
   rw [ha,bs,cond_true,hb,bs,cond_true,dL (by omega) (by omega),bs,dL (by omega) (by omega),bs,e,bs]
   refine ⟨_,_,rfl,fun hk=>⟨ha,hb,(h hk).1,?_⟩⟩
   have h1:=jk hN (r:=a) ha
   have h2:=jk hN (r:=b) hb
   refine (h hk).2.2.trans ?_
   unfold rv
   rw [Rat.intCast_mul,Rat.intCast_mul]
   grind
  ·unfold VR at ha
   rw [ha,bs,cond_true,hb,bs,cond_false]
   exact ⟨_,_,rfl,fun h=>by cases h⟩
 ·rw [ha,bs,cond_false]
  exact ⟨_,_,rfl,fun h=>by cases h⟩
theorem zD (hN:1073741824≤N) (a b:cj):∃ r ok,dm N a.1 a.2 b.1 b.2=some (r,ok)∧(ok=true→VR N a∧VR N b∧VR N r∧b.1≠0∧rv r*rv b=rv a):=by
 unfold dm
 rcases ic hN a with ha | ha
 ·rcases ic hN b with hb | hb
  ·obtain ⟨a1,a2,a3,a4,_⟩:=(eX hN).1 ha
   obtain ⟨b1,b2,b3,b4,_⟩:=(eX hN).1 hb
   have m1:=iw a3 a4 (b:=b.2) (by omega) b2
   have m2:=iw (a:=a.2) (b:=b.1) (by omega) a2 b3 b4
   obtain ⟨r,k,e,h⟩:=vZ (N:=N) hN (n:=a.1*b.2) (d:=a.2*b.1) (by omega) (by omega) (by omega) (by omega)
   unfold VR at ha hb
   rw [ha,bs,cond_true,hb,bs,cond_true,dL (by omega) (by omega),bs,dL (by omega) (by omega),bs,e,bs]
   refine ⟨_,_,rfl,fun hk=>?_⟩
   have hb0:b.1≠0:=fun e0=>(h hk).2.1 (by rw [e0,Int.mul_zero])
   refine ⟨ha,hb,(h hk).1,hb0,?_⟩
   have h1:=jk hN (r:=a) ha
   have h2:=jk hN (r:=b) hb
   have h3:(b.1:Rat)≠0:=fun e=>hb0 (Rat.intCast_eq_zero_iff.1 e)
   have h4:=(h hk).2.2
   show rv r*rv b=rv a
   rw [h4]
   unfold rv
   rw [Rat.intCast_mul,Rat.intCast_mul]
   grind
  ·unfold VR at ha
   rw [ha,bs,cond_true,hb,bs,cond_false]
   exact ⟨_,_,rfl,fun h=>by cases h⟩
 ·rw [ha,bs,cond_false]
  exact ⟨_,_,rfl,fun h=>by cases h⟩
theorem vC (hN:1073741824≤N) (a b:cj):∃ r ok,bA N a.1 a.2 b.1 b.2=some (r,ok)∧(ok=true→VR N a∧VR N b∧VR N r∧rv r=rv a+rv b):=by
 unfold bA
 rcases ic hN a with ha | ha
 ·rcases ic hN b with hb | hb
  ·obtain ⟨a1,a2,a3,a4,_⟩:=(eX hN).1 ha
   obtain ⟨b1,b2,b3,b4,_⟩:=(eX hN).1 hb
   have m1:=iw a3 a4 (b:=b.2) (by omega) b2
   have m2:=iw b3 b4 (b:=a.2) (by omega) a2
   have m3:=iw (a:=a.2) (b:=b.2) (by omega) a2 (by omega) b2
   obtain ⟨r,k,e,h⟩:=vZ (N:=N) hN (n:=a.1*b.2+b.1*a.2) (d:=a.2*b.2) (by omega) (by omega) (by omega) (by omega)
   unfold VR at ha hb
   rw [ha,bs,cond_true,hb,bs,cond_true,dL (by omega) (by omega),bs,dL (by omega) (by omega),bs,bo (by omega) (by omega),bs,dL (by omega) (by omega),bs,e,bs]
   refine ⟨_,_,rfl,fun hk=>⟨ha,hb,(h hk).1,?_⟩⟩
   have h1:=jk hN (r:=a) ha
   have h2:=jk hN (r:=b) hb
   refine (h hk).2.2.trans ?_
   unfold rv
   rw [Rat.intCast_add,Rat.intCast_mul,Rat.intCast_mul,Rat.intCast_mul]
   grind
  ·unfold VR at ha
   rw [ha,bs,cond_true,hb,bs,cond_false]
   exact ⟨_,_,rfl,fun h=>by cases h⟩
 ·rw [ha,bs,cond_false]
  exact ⟨_,_,rfl,fun h=>by cases h⟩
theorem Az (hN:1073741824≤N) (a b:cj):∃ r ok,dD N a.1 a.2 b.1 b.2=some (r,ok)∧(ok=true→VR N a∧VR N b∧VR N r∧rv r=rv a-rv b):=by
 unfold dD
 rcases ic hN b with hb | hb
 ·obtain ⟨b1,b2,b3,b4,_⟩:=(eX hN).1 hb
  obtain ⟨r,k,e,h⟩:=vC hN a (0-b.1,b.2)
  have hb':=hb
  unfold VR at hb
  rw [hb,bs,cond_true,eS (by omega) (by omega),bs,e,bs]
  refine ⟨_,_,rfl,fun hk=>?_⟩
  obtain ⟨k1,_,k3,k4⟩:=h hk
  refine ⟨k1,hb',k3,k4.trans ?_⟩
  unfold rv
  show _+((0-b.1:Int):Rat) / (b.2:Rat)=_
  rw [Int.zero_sub,Rat.intCast_neg]
  have h2:=jk hN hb'
  grind
 ·rw [hb,bs,cond_false]
  exact ⟨_,_,rfl,fun h=>by cases h⟩
theorem yJ (hN:1073741824≤N) (a b:cj):∃ c,bO N a.1 a.2 b.1 b.2=some c∧-1≤c∧c≤1∧(VR N a→VR N b→(c<0↔rv a<rv b)):=by
 unfold bO
 rcases ic hN a with ha | ha
 ·rcases ic hN b with hb | hb
  ·obtain ⟨a1,a2,a3,a4,_⟩:=(eX hN).1 ha
   obtain ⟨b1,b2,b3,b4,_⟩:=(eX hN).1 hb
   have m1:=iw a3 a4 (b:=b.2) (by omega) b2
   have m2:=iw b3 b4 (b:=a.2) (by omega) a2
   have hlt:rv a<rv b↔a.1*b.2<b.1*a.2:=by
    have p1:(0:Rat)<(a.2:Rat):=Rat.intCast_pos.2 (by omega)
    have p2:(0:Rat)<(b.2:Rat):=Rat.intCast_pos.2 (by omega)
    unfold rv
    rw [Rat.div_lt_iff p1,Rat.div_def,Rat.mul_assoc,Rat.mul_comm (b.2:Rat)⁻¹,← Rat.mul_assoc,← Rat.div_def,Rat.lt_div_iff p2,← Rat.intCast_mul,← Rat.intCast_mul,Rat.intCast_lt_intCast]
   unfold VR at ha hb
   rw [ha,bs,cond_true,hb,bs,cond_true,dL (by omega) (by omega),bs,dL (by omega) (by omega),bs]
   by_cases h1:a.1*b.2<b.1*a.2
   ·rw [decide_eq_true h1,cond_true]
    exact ⟨-1,rfl,by decide,by decide,fun _ _=>⟨fun _=>hlt.2 h1,fun _=>by decide⟩⟩
   ·rw [decide_eq_false h1,cond_false]
    by_cases h2:b.1*a.2<a.1*b.2
    ·rw [decide_eq_true h2,cond_true]
     exact ⟨1,rfl,by decide,by decide,fun _ _=>⟨fun h=>absurd h (by decide),fun h=>absurd (hlt.1 h) h1⟩⟩
    ·rw [decide_eq_false h2,cond_false]
     exact ⟨0,rfl,by decide,by decide,fun _ _=>⟨fun h=>absurd h (by decide),fun h=>absurd (hlt.1 h) h1⟩⟩
  ·unfold VR at ha
   rw [ha,bs,cond_true,hb,bs,cond_false]
   exact ⟨0,rfl,by decide,by decide,fun _ h=>by rw [VR,hb] at h;cases h⟩
 ·rw [ha,bs,cond_false]
  exact ⟨0,rfl,by decide,by decide,fun h=>by rw [VR,ha] at h;cases h⟩
end
def prN:List Nat→Nat
 | []=>1
 | x :: l=>x*prN l
def smN:List Nat→Nat
 | []=>0
 | x :: l=>x+smN l
theorem ixD {xs:List Int} {k:Nat} (h:k<xs.length):ix xs (k:Int)=some (xs.getD k 0):=by rw [aZ h,fA h]
def eZ (atoms:List aU) (i:Nat):aU:=atoms.getD i (ByteArray.empty,[])
theorem nk {atoms:List aU} {i:Nat} (h:i<atoms.length):eZ atoms i=atoms[i]:=by unfold eZ;simp [h]
theorem o0:∀ a b:List Nat,smN (a++b)=smN a+smN b
 | [],b=>by rw [List.nil_append];exact (Nat.zero_add _).symm
 | x :: a,b=>by
  have:=o0 a b
  show x+smN (a++b)=x+smN a+smN b
  omega
structure Cov (atoms:List aU) (n:Nat) (L:List Nat) (d:Nat):Prop where
 d0:0<d
 lt:∀ i∈L,i<atoms.length
 cov:∀ v:Int,0≤v→v<n→d≤(L.filter fun i=>decide (v∈(eZ atoms i).2)).length
abbrev aW:=List cj
abbrev bh:=List aW
def ba (m:bh) (i:Nat):aW:=m.getD i []
def av (r:aW) (j:Nat):cj:=r.getD j (0,0)
def cell (m:bh) (i j:Nat):cj:=av (ba m i) j
def Shp (n c:Nat) (m:bh):Prop:=m.length=n∧∀ i,i<n→(ba m i).length=c
theorem ixM {m:bh} {i:Nat} (h:i<m.length):ix m (i:Int)=some (ba m i):=by
 rw [aZ h];unfold ba;simp [h]
theorem fV {r:aW} {j:Nat} (h:j<r.length):ix r (j:Int)=some (av r j):=by
 rw [aZ h];unfold av;simp [h]
theorem kQ {α:Type} {xs:List α} {i:Nat} {y:α} (h:i<xs.length):sto xs (i:Int) y=some (xs.set i y):=by
 rw [wI (by omega) (by omega)];rfl
theorem mw {m:bh} {i:Nat} {r:aW} (h:i<m.length) (a:Nat):ba (m.set i r) a=if a=i then r else ba m a:=by
 unfold ba
 by_cases e:a=i
 ·subst e;rw [if_pos rfl];simp [h]
 ·rw [if_neg e];simp [List.getElem?_set_ne (Ne.symm e)]
theorem kL {r:aW} {j:Nat} {v:cj} (h:j<r.length) (a:Nat):av (r.set j v) a=if a=j then v else av r a:=by
 unfold av
 by_cases e:a=j
 ·subst e;rw [if_pos rfl];simp [h]
 ·rw [if_neg e];simp [List.getElem?_set_ne (Ne.symm e)]
theorem Shp.set {n c:Nat} {m:bh} (h:Shp n c m) {i:Nat} (hi:i<n) {r:aW} (hr:r.length=c):Shp n c (m.set i r):=by
 refine ⟨by rw [List.length_set];exact h.1,fun a ha=>?_⟩
 rw [mw (by rw [h.1];exact hi)]
 split
 ·exact hr
 ·exact h.2 a ha
section
variable {N:Nat}
theorem xR (hN:1073741824≤N) {n:Nat} (hn:n≤6) {p i:Nat} (hp:p<n) (hi:i<n) (hpi:p≠i) {f:cj}:∀ (c k fuel:Nat) (m:bh) (is:Bool),k+c=n+1→c<fuel→Shp n (n+1) m →
  ∃ m' is' z,bY N fuel m (p:Int) (i:Int) f.1 f.2 is (k:Int)=some (m',is',z)∧Shp n (n+1) m'∧(is'=true→is=true∧(∀ a,a≠i→ba m' a=ba m a)∧(∀ j,j<k→cell m' i j=cell m i j) ∧
   ∀ j,k≤j→j≤n→VR N (cell m' i j)∧rv (cell m' i j)=rv (cell m i j)-rv f*rv (cell m p j)):=by
 intro c
 induction c with
 | zero =>
  intro k fuel m is hk hf hs
  obtain ⟨fuel,rfl⟩:∃ k',fuel=k'+1:=⟨fuel-1,by omega⟩
  rw [bY,ixM (by rw [hs.1];exact hi),bs,hs.2 i hi,decide_eq_false (by omega),cond_false]
  exact ⟨m,is,_,rfl,hs,fun h=>⟨h,fun _ _=>rfl,fun _ _=>rfl,fun j h1 h2=>by omega⟩⟩
 | succ c ih =>
  intro k fuel m is hk hf hs
  obtain ⟨fuel,rfl⟩:∃ k',fuel=k'+1:=⟨fuel-1,by omega⟩
  have hli:=hs.2 i hi
  have hlp:=hs.2 p hp
  rw [bY,ixM (by rw [hs.1];exact hi),bs,hli,decide_eq_true (by omega),cond_true]
  cases is with
  | false =>
   rw [cond_false]
   exact ⟨m,false,_,rfl,hs,fun h=>by cases h⟩
  | true =>
   obtain ⟨r,ok,e1,h1⟩:=yR hN f (av (ba m p) k)
   obtain ⟨y,ok2,e2,h2⟩:=Az hN (av (ba m i) k) r
   have hset:((ba m i).set k y).length=n+1:=by rw [List.length_set];exact hli
   have hs':=hs.set hi hset
   rw [cond_true,ixM (by rw [hs.1];exact hp),bs,fV (by omega),bs,e1,bs,bs,fV (by omega),bs,e2,bs]
   dsimp only
   cases ok with
   | false =>
    rw [cond_false,bs,fV (by omega),bs,kQ (by omega),bs,kQ (by rw [hs.1];exact hi),bs,bo (by omega) (by omega),bs]
    obtain ⟨m',is',z,e3,h3,h4⟩:=ih (k+1) fuel _ false (by omega) (by omega) hs'
    exact ⟨m',is',z,e3,h3,fun h=>absurd (h4 h).1 (by decide)⟩
   | true =>
    rw [cond_true,bs,fV (by omega),bs,kQ (by omega),bs,kQ (by rw [hs.1];exact hi),bs,bo (by omega) (by omega),bs]
    obtain ⟨m',is',z,e3,h3,h4⟩:=ih (k+1) fuel _ ok2 (by omega) (by omega) hs'
    refine ⟨m',is',z,e3,h3,fun h=>?_⟩
    obtain ⟨k1,k2,k3,k4⟩:=h4 h
    have hM:∀ a,ba (m.set i ((ba m i).set k y)) a=if a=i then (ba m i).set k y else ba m a:=mw (by rw [hs.1];exact hi)
    have hC:∀ j,cell (m.set i ((ba m i).set k y)) i j=if j=k then y else cell m i j:=fun j=>by
     unfold cell
     rw [hM i,if_pos rfl,kL (by omega)]
    refine ⟨rfl,fun a ha=>?_,fun j hj=>?_,fun j hj hjn=>?_⟩
    ·rw [k2 a ha,hM a,if_neg ha]
    ·rw [k3 j (by omega),hC j,if_neg (by omega)]
    ·by_cases e:j=k
     ·subst e
      rw [k3 j (by omega),hC j,if_pos rfl]
      obtain ⟨g1,g2,g3,g4⟩:=h2 k1
      obtain ⟨_,_,_,g8⟩:=h1 rfl
      refine ⟨g3,?_⟩
      rw [g4,g8]
      rfl
     ·obtain ⟨g1,g2⟩:=k4 j (by omega) hjn
      rw [hC j,if_neg e] at g2
      refine ⟨g1,?_⟩
      rw [g2]
      have:cell (m.set i ((ba m i).set k y)) p j=cell m p j:=by
       unfold cell;rw [hM p,if_neg hpi]
      rw [this]
end
def cv (m:bh) (i j:Nat):Rat:=rv (cell m i j)
def cp:Nat→(Nat→Rat)→Rat
 | 0,_=>0
 | n+1,g=>cp n g+g n
theorem d8 {g h:Nat→Rat}:∀ {n:Nat},(∀ j,j<n→g j=h j)→cp n g=cp n h
 | 0,_=>rfl
 | n+1,e=>by
  have h1:=d8 (n:=n) fun j hj=>e j (by omega)
  have h2:=e n (by omega)
  unfold cp
  rw [h1,h2]
theorem ow {a b y:Nat→Rat} {F:Rat}:∀ n:Nat,cp n (fun j=>(a j-F*b j)*y j)=cp n (fun j=>a j*y j)-F*cp n (fun j=>b j*y j)
 | 0=>by unfold cp;grind
 | n+1=>by
  have:=ow (a:=a) (b:=b) (y:=y) (F:=F) n
  unfold cp
  grind
theorem ox {g:Nat→Rat} {p:Nat}:∀ {n:Nat},p<n→(∀ j,j<n→j≠p→g j=0)→cp n g=g p
 | 0,h,_=>by omega
 | n+1,h,e=>by
  unfold cp
  by_cases hp:p=n
  ·subst hp
   have:cp p g=cp p (fun _=>0):=d8 fun j hj=>e j (by omega) (by omega)
   have z:∀ k:Nat,cp k (fun _=>(0:Rat))=0:=fun k=>by
    induction k with
    | zero=>rfl
    | succ k ih=>unfold cp;rw [ih];grind
   rw [this,z];grind
  ·rw [ox (by omega) fun j hj=>e j (by omega),e n (by omega) (by omega)];grind
def mI (n:Nat) (m:bh) (y:Nat→Rat):Prop:=∀ i,i<n→cp n (fun j=>cv m i j*y j)=cv m i n
def pz (n p:Nat) (m:bh):Prop:=∀ i,i<n→∀ q,q<p→i≠q→cv m i q=0
section
variable {N:Nat}
theorem sy {r:cj} (h:r.1=0):rv r=0:=by
 unfold rv
 rw [h]
 have:((0:Int):Rat)=0:=rfl
 rw [this,Rat.div_def,Rat.zero_mul]
theorem wY (hN:1073741824≤N) {n:Nat} (hn:n≤6) {p:Nat} (hp:p<n):∀ (c i fuel:Nat) (m:bh),i+c=n→c<fuel→Shp n (n+1) m →
  ∃ s,cl N fuel m (p:Int) (i:Int)=some s∧((∃ m',s=.inl (false,m')∧Shp n (n+1) m')∨∃ m' z,s=.inr (m',z)∧Shp n (n+1) m'∧ba m' p=ba m p∧(∀ a,a<i→ba m' a=ba m a) ∧
   ∀ a,i≤a→a<n→a≠p→∃ F:Rat,(∀ j,j<p→cv m' a j=cv m a j)∧(∀ j,p≤j→j≤n→cv m' a j=cv m a j-F*cv m p j)∧cv m' a p=0):=by
 intro c
 induction c with
 | zero =>
  intro i fuel m hi hf hs
  obtain ⟨fuel,rfl⟩:∃ k',fuel=k'+1:=⟨fuel-1,by omega⟩
  rw [cl,hs.1,decide_eq_false (by omega),cond_false]
  exact ⟨_,rfl,.inr ⟨m,_,rfl,hs,rfl,fun _ _=>rfl,fun a h1 h2=>by omega⟩⟩
 | succ c ih =>
  intro i fuel m hi hf hs
  obtain ⟨fuel,rfl⟩:∃ k',fuel=k'+1:=⟨fuel-1,by omega⟩
  have hin:i<n:=by omega
  have hli:=hs.2 i hin
  have hlp:=hs.2 p hp
  rw [cl,hs.1,decide_eq_true (by omega),cond_true]
  by_cases e:i=p
  ·rw [show ((i:Int) == (p:Int))=true by rw [beq_iff_eq];omega,cond_true,bo (by omega) (by omega),bs]
   obtain ⟨s,e1,h1⟩:=ih (i+1) fuel m (by omega) (by omega) hs
   refine ⟨s,e1,h1.imp id ?_⟩
   rintro ⟨m',z,k1,k2,k3,k4,k5⟩
   exact ⟨m',z,k1,k2,k3,fun a ha=>k4 a (by omega),fun a h1 h2 h3=>k5 a (by omega) h2 h3⟩
  ·rw [show ((i:Int) == (p:Int))=false by rw [beq_eq_false_iff_ne];omega,cond_false,ixM (by rw [hs.1];exact hin),bs,fV (by omega),bs]
   by_cases h0:(av (ba m i) p).1=0
   ·rw [show ((av (ba m i) p).1 == 0)=true by rw [beq_iff_eq];exact h0,cond_true,bo (by omega) (by omega),bs]
    obtain ⟨s,e1,h1⟩:=ih (i+1) fuel m (by omega) (by omega) hs
    refine ⟨s,e1,h1.imp id ?_⟩
    rintro ⟨m',z,k1,k2,k3,k4,k5⟩
    refine ⟨m',z,k1,k2,k3,fun a ha=>k4 a (by omega),fun a h1 h2 h3=>?_⟩
    by_cases ea:a=i
    ·subst ea
     have hrow:=k4 a (by omega)
     have hc:∀ j,cv m' a j=cv m a j:=fun j=>by unfold cv cell;rw [hrow]
     refine ⟨0,fun j _=>hc j,fun j _ _=>by rw [hc j];grind,?_⟩
     rw [hc p]
     exact sy h0
    ·exact k5 a (by omega) h2 h3
   ·rw [show ((av (ba m i) p).1 == 0)=false by rw [beq_eq_false_iff_ne];exact h0,cond_false,bs,fV (by omega),bs,ixM (by rw [hs.1];exact hp),bs,fV (by omega),bs]
    obtain ⟨f,ok,e2,h2⟩:=zD hN (av (ba m i) p) (av (ba m p) p)
    rw [e2,bs]
    dsimp only
    obtain ⟨m2,is2,z2,e3,hs2,h3⟩:=xR hN hn hp hin (fun h=>e h.symm) (f:=f) (n+1-p) p N m ok (by omega) (by omega) hs
    rw [e3,bs,lpB]
    cases is2 with
    | false =>
     rw [cond_false]
     exact ⟨_,rfl,.inl ⟨m2,rfl,hs2⟩⟩
    | true =>
     rw [cond_true,bo (by omega) (by omega),bs]
     obtain ⟨g1,g2,g3,g4⟩:=h3 rfl
     obtain ⟨_,_,_,_,hf⟩:=h2 g1
     obtain ⟨s,e1,h1⟩:=ih (i+1) fuel m2 (by omega) (by omega) hs2
     refine ⟨s,e1,h1.imp id ?_⟩
     rintro ⟨m',z,k1,k2,k3,k4,k5⟩
     have hpi:p≠i:=fun h=>e h.symm
     have hP:∀ j,cv m2 p j=cv m p j:=fun j=>by unfold cv cell;rw [g2 p hpi]
     refine ⟨m',z,k1,k2,k3.trans (g2 p hpi),fun a ha=>(k4 a (by omega)).trans (g2 a (by omega)),fun a h1 h2 h3=>?_⟩
     by_cases ea:a=i
     ·subst ea
      have hrow:=k4 a (by omega)
      have hc:∀ j,cv m' a j=cv m2 a j:=fun j=>by unfold cv cell;rw [hrow]
      have hv:∀ j,p≤j→j≤n→cv m' a j=cv m a j-rv f*cv m p j:=fun j h4 h5=>by
       rw [hc j];exact (g4 j h4 h5).2
      refine ⟨rv f,fun j hj=>?_,hv,?_⟩
      ·rw [hc j];unfold cv;rw [g3 j hj]
      ·rw [hv p (by omega) (by omega)]
       have:rv f*cv m p p=cv m a p:=hf
       rw [this];grind
     ·obtain ⟨F,f1,f2,f3⟩:=k5 a (by omega) h2 h3
      have hA:∀ j,cv m2 a j=cv m a j:=fun j=>by unfold cv cell;rw [g2 a ea]
      exact ⟨F,fun j hj=>by rw [f1 j hj,hA j],fun j h4 h5=>by rw [f2 j h4 h5,hA j,hP j],f3⟩
theorem xQ (hN:1073741824≤N) {n:Nat} (hn:n≤6) {p:Nat} (hp:p<n) {m:bh} (hs:Shp n (n+1) m) (hd:pz n p m) :
  ∃ ok m',fM N m (p:Int)=some (ok,m')∧Shp n (n+1) m'∧(ok=true→pz n (p+1) m'∧∀ y,mI n m y↔mI n m' y):=by
 unfold fM
 obtain ⟨s,e,h⟩:=wY hN hn hp n 0 N m (by omega) (by omega) hs
 have e':cl N N m (p:Int) 0=some s:=e
 rw [e',bs]
 rcases h with ⟨m',rfl,h1⟩ | ⟨m',z,rfl,h1,h2,_,h3⟩
 ·rw [i4]
  exact ⟨_,_,rfl,h1,fun h=>by cases h⟩
 ·rw [fI]
  refine ⟨_,_,rfl,h1,fun _=>?_⟩
  have hP:∀ j,cv m' p j=cv m p j:=fun j=>by unfold cv cell;rw [h2]
  have hall:∀ a,a<n→a≠p→∃ F:Rat,(∀ j,j≤n→cv m' a j=cv m a j-F*cv m p j)∧cv m' a p=0:=by
   intro a ha hap
   obtain ⟨F,f1,f2,f3⟩:=h3 a (by omega) ha hap
   refine ⟨F,fun j hj=>?_,f3⟩
   by_cases hjp:j<p
   ·rw [f1 j hjp,hd p hp j hjp (by omega)];grind
   ·exact f2 j (by omega) hj
  refine ⟨fun i hi q hq hiq=>?_,fun y=>⟨fun h i hi=>?_,fun h i hi=>?_⟩⟩
  ·by_cases e1:i=p
   ·subst e1
    rw [hP q]
    exact hd i hi q (by omega) hiq
   ·obtain ⟨F,f1,f2⟩:=hall i hi e1
    by_cases e2:q=p
    ·subst e2;exact f2
    ·rw [f1 q (by omega),hd i hi q (by omega) hiq,hd p hp q (by omega) (by omega)];grind
  ·by_cases e1:i=p
   ·subst e1
    rw [hP n,← h i hi]
    exact d8 fun j _=>by rw [hP j]
   ·obtain ⟨F,f1,_⟩:=hall i hi e1
    rw [d8 (h:=fun j=>(cv m i j-F*cv m p j)*y j) fun j hj=>by rw [f1 j (by omega)],ow,h i hi,h p hp,f1 n (by omega)]
  ·by_cases e1:i=p
   ·subst e1
    rw [← hP n,← h i hi]
    exact d8 fun j _=>by rw [hP j]
   ·obtain ⟨F,f1,_⟩:=hall i hi e1
    have h4:=h i hi
    have h5:=h p hp
    rw [d8 (h:=fun j=>(cv m i j-F*cv m p j)*y j) fun j hj=>by rw [f1 j (by omega)],ow,f1 n (by omega)] at h4
    rw [d8 (h:=fun j=>cv m p j*y j) fun j _=>by rw [hP j],hP n] at h5
    grind
end
section
variable {N:Nat}
theorem wQ {n:Nat} (hn:n≤6) {p:Nat} (hp:p<n) {m:bh} (hs:Shp n (n+1) m):∀ (c k fuel:Nat),k+c=n→c<fuel→∃ q:Nat,bD N fuel (n:Int) m (p:Int) (k:Int)=some (q:Int)∧k≤q∧q≤n:=by
 intro c
 induction c with
 | zero =>
  intro k fuel hk hf
  obtain ⟨fuel,rfl⟩:∃ k',fuel=k'+1:=⟨fuel-1,by omega⟩
  rw [bD,decide_eq_false (by omega),cond_false]
  exact ⟨k,rfl,Nat.le_refl k,by omega⟩
 | succ c ih =>
  intro k fuel hk hf
  obtain ⟨fuel,rfl⟩:∃ k',fuel=k'+1:=⟨fuel-1,by omega⟩
  rw [bD,decide_eq_true (by omega),cond_true,ixM (by rw [hs.1];omega),bs,fV (by rw [hs.2 k (by omega)];omega),bs]
  cases (av (ba m k) p).1 == 0 with
  | true =>
   rw [cond_true,bo (by omega) (by omega),bs]
   obtain ⟨q,e,h1,h2⟩:=ih (k+1) fuel (by omega) (by omega)
   exact ⟨q,e,by omega,h2⟩
  | false =>
   rw [cond_false]
   exact ⟨k,rfl,Nat.le_refl k,by omega⟩
theorem wH (hN:1073741824≤N) {n:Nat} (hn:n≤6):∀ (c p fuel:Nat) (m:bh),p+c=n→c<fuel→Shp n (n+1) m→pz n p m →
  ∃ s,bv N fuel (n:Int) m (p:Int)=some s∧(s=.inl ([],false)∨∃ m' z,s=.inr (m',z)∧Shp n (n+1) m'∧pz n n m'∧∀ y,mI n m y↔mI n m' y):=by
 intro c
 induction c with
 | zero =>
  intro p fuel m hpc hf hs hd
  obtain ⟨fuel,rfl⟩:∃ k',fuel=k'+1:=⟨fuel-1,by omega⟩
  obtain rfl:p=n:=by omega
  rw [bv,decide_eq_false (by omega),cond_false]
  exact ⟨_,rfl,.inr ⟨m,_,rfl,hs,hd,fun _=>Iff.rfl⟩⟩
 | succ c ih =>
  intro p fuel m hpc hf hs hd
  obtain ⟨fuel,rfl⟩:∃ k',fuel=k'+1:=⟨fuel-1,by omega⟩
  have hp:p<n:=by omega
  obtain ⟨k,e1,hk1,hk2⟩:=wQ (N:=N) hn hp hs (n-p) p N (by omega) (by omega)
  rw [bv,decide_eq_true (by omega),cond_true,e1,bs,lpB]
  by_cases hkn:k=n
  ·rw [show ((k:Int) == (n:Int))=true by rw [beq_iff_eq];omega,cond_true]
   exact ⟨_,rfl,.inl rfl⟩
  ·have hk:k<n:=by omega
   have hml:=hs.1
   rw [show ((k:Int) == (n:Int))=false by rw [beq_eq_false_iff_ne];omega,cond_false,ixM (by omega),bs,ixM (by omega),bs,bs,kQ (by omega),bs,kQ (by rw [List.length_set];omega),bs]
   have hs1:Shp n (n+1) (m.set k (ba m p)):=hs.set hk (hs.2 p hp)
   have hs2:Shp n (n+1) ((m.set k (ba m p)).set p (ba m k)):=hs1.set hp (hs.2 k hk)
   have hR:∀ a,ba ((m.set k (ba m p)).set p (ba m k)) a=if a=p then ba m k else if a=k then ba m p else ba m a:=fun a=>by
    rw [mw (by rw [List.length_set];omega),mw (by omega)]
   generalize (m.set k (ba m p)).set p (ba m k)=m2 at hs2 hR
   have hC:∀ a j,cv m2 a j=if a=p then cv m k j else if a=k then cv m p j else cv m a j:=fun a j=>by
    unfold cv cell
    rw [hR a]
    split
    ·rfl
    ·split <;> rfl
   have hd2:pz n p m2:=fun i hi q hq hiq=>by
    rw [hC i q]
    split
    ·exact hd k hk q hq (by omega)
    ·split
     ·exact hd p hp q hq (by omega)
     ·exact hd i hi q hq hiq
   have hsol:∀ y,mI n m y↔mI n m2 y:=fun y=>by
    have key:∀ a b,(∀ j,cv m2 a j=cv m b j)→(cp n (fun j=>cv m2 a j*y j)=cv m2 a n↔cp n (fun j=>cv m b j*y j)=cv m b n):=fun a b h=>by
     rw [h n,d8 (g:=fun j=>cv m2 a j*y j) (h:=fun j=>cv m b j*y j) fun j _=>by rw [h j]]
    have kp:=key p k fun j=>by rw [hC p j,if_pos rfl]
    have kk:cp n (fun j=>cv m2 k j*y j)=cv m2 k n↔cp n (fun j=>cv m p j*y j)=cv m p n:=by
     by_cases e:k=p
     ·subst e;exact kp
     ·exact key k p fun j=>by rw [hC k j,if_neg e,if_pos rfl]
    constructor
    ·intro h i hi
     by_cases e1:i=p
     ·subst e1;exact kp.2 (h k hk)
     ·by_cases e2:i=k
      ·subst e2;exact kk.2 (h p hp)
      ·exact (key i i fun j=>by rw [hC i j,if_neg e1,if_neg e2]).2 (h i hi)
    ·intro h i hi
     by_cases e1:i=p
     ·subst e1;exact kk.1 (h k hk)
     ·by_cases e2:i=k
      ·subst e2;exact kp.1 (h p hp)
      ·exact (key i i fun j=>by rw [hC i j,if_neg e1,if_neg e2]).1 (h i hi)
   obtain ⟨ok,m3,e3,hs3,h3⟩:=xQ hN hn hp hs2 hd2
   rw [e3,bs]
   dsimp only
   cases ok with
   | false =>
    rw [cond_false]
    exact ⟨_,rfl,.inl rfl⟩
   | true =>
    obtain ⟨h4,h5⟩:=h3 rfl
    rw [cond_true,bo (by omega) (by omega),bs]
    obtain ⟨s,e6,h6⟩:=ih (p+1) fuel m3 (by omega) (by omega) hs3 h4
    refine ⟨s,e6,h6.imp id ?_⟩
    rintro ⟨m',z,k1,k2,k3,k4⟩
    exact ⟨m',z,k1,k2,k3,fun y=>(hsol y).trans ((h5 y).trans (k4 y))⟩
theorem kO {o:aW} {v:cj} {j:Nat} (h:j<o.length):av (o++[v]) j=av o j:=by
 unfold av;simp [List.getElem?_append_left h]
theorem jV {o:aW} {v:cj}:av (o++[v]) o.length=v:=by
 unfold av;simp
theorem zJ (hN:1073741824≤N) {n:Nat} (hn:n≤6) {m:bh} (hs:Shp n (n+1) m):∀ (c p fuel:Nat) (o:aW),p+c=n→c<fuel→o.length=p →
  ∃ s,bt N fuel (n:Int) m o (p:Int)=some s∧(s=.inl ([],false)∨∃ o' z,s=.inr (o',z)∧o'.length=n∧(∀ j,j<p→av o' j=av o j) ∧
   ∀ j,p≤j→j<n→VR N (av o' j)∧cv m j j≠0∧rv (av o' j)*cv m j j=cv m j n):=by
 intro c
 induction c with
 | zero =>
  intro p fuel o hpc hf ho
  obtain ⟨fuel,rfl⟩:∃ k',fuel=k'+1:=⟨fuel-1,by omega⟩
  rw [bt,decide_eq_false (by omega),cond_false]
  exact ⟨_,rfl,.inr ⟨o,_,rfl,by omega,fun _ _=>rfl,fun j h1 h2=>by omega⟩⟩
 | succ c ih =>
  intro p fuel o hpc hf ho
  obtain ⟨fuel,rfl⟩:∃ k',fuel=k'+1:=⟨fuel-1,by omega⟩
  have hp:p<n:=by omega
  have hlp:=hs.2 p hp
  obtain ⟨r,ok,e,h⟩:=zD hN (av (ba m p) n) (av (ba m p) p)
  rw [bt,decide_eq_true (by omega),cond_true,ixM (by rw [hs.1];omega),bs,fV (by omega),bs,bs,fV (by omega),bs,e,bs]
  dsimp only
  cases ok with
  | false =>
   rw [cond_false]
   exact ⟨_,rfl,.inl rfl⟩
  | true =>
   rw [cond_true,bm (by decide) (by rw [List.length_singleton];omega),bs,bo (by omega) (by omega),bs]
   obtain ⟨s,e1,h1⟩:=ih (p+1) fuel (o++[(r.1,r.2)]) (by omega) (by omega) (by rw [List.length_append,List.length_singleton];omega)
   refine ⟨s,e1,h1.imp id ?_⟩
   rintro ⟨o',z,k1,k2,k3,k4⟩
   refine ⟨o',z,k1,k2,fun j hj=>by rw [k3 j (by omega),kO (by omega)],fun j h1 h2=>?_⟩
   by_cases ej:j=p
   ·subst ej
    have hr:av o' j=r:=by
     rw [k3 j (by omega),← ho,jV]
    obtain ⟨g1,g2,g3,g4,g5⟩:=h rfl
    rw [hr]
    refine ⟨g3,?_,g5⟩
    intro h0
    have hd:=jk hN g2
    have hz:(((av (ba m j) j).1:Int):Rat)≠0:=fun e=>g4 (Rat.intCast_eq_zero_iff.1 e)
    have:rv (av (ba m j) j)=0:=h0
    unfold rv at this
    grind
   ·exact k4 j (by omega) h2
theorem zj (hN:1073741824≤N) {n:Nat} (hn:n≤6) {A:bh} (hA:Shp n n A) {b:aW} (hb:b.length=n):∀ (c i fuel:Nat) (m:bh),i+c=n→c<fuel→m.length=i →
  ∃ s,bu N fuel A b (n:Int) m (i:Int)=some s∧(s=.inl ([],false)∨∃ m' z,s=.inr (m',z)∧m'.length=n∧(∀ a,a<i→ba m' a=ba m a)∧∀ a,i≤a→a<n→ba m' a=ba A a++[av b a]):=by
 intro c
 induction c with
 | zero =>
  intro i fuel m hic hf hm
  obtain ⟨fuel,rfl⟩:∃ k',fuel=k'+1:=⟨fuel-1,by omega⟩
  rw [bu,decide_eq_false (by omega),cond_false]
  exact ⟨_,rfl,.inr ⟨m,_,rfl,by omega,fun _ _=>rfl,fun a h1 h2=>by omega⟩⟩
 | succ c ih =>
  intro i fuel m hic hf hm
  obtain ⟨fuel,rfl⟩:∃ k',fuel=k'+1:=⟨fuel-1,by omega⟩
  have hi:i<n:=by omega
  have hAl:=hA.2 i hi
  rw [bu,decide_eq_true (by omega),cond_true,fV (by omega),bs]
  rcases ic hN (av b i) with hv | hv
  ·unfold VR at hv
   rw [hv,bs,cond_true,ixM (by rw [hA.1];exact hi),bs,bs,bm (by decide) (by rw [List.length_nil];omega),bs,bm (by decide) (by rw [List.length_append,List.length_nil,List.length_singleton];omega),bs,bm (by decide) (by rw [List.length_singleton];omega),bs,bo (by omega) (by omega),bs]
   obtain ⟨s,e1,h1⟩:=ih (i+1) fuel (m++[[]++ba A i++[((av b i).1,(av b i).2)]]) (by omega) (by omega) (by rw [List.length_append,List.length_singleton];omega)
   refine ⟨s,e1,h1.imp id ?_⟩
   rintro ⟨m',z,k1,k2,k3,k4⟩
   have hr1:∀ a,a<i→ba (m++[[]++ba A i++[((av b i).1,(av b i).2)]]) a=ba m a:=fun a ha=>by
    unfold ba;simp [List.getElem?_append_left (show a<m.length by omega)]
   have hr2:ba (m++[[]++ba A i++[((av b i).1,(av b i).2)]]) i=ba A i++[av b i]:=by
    unfold ba;subst hm;simp
   refine ⟨m',z,k1,k2,fun a ha=>(k3 a (by omega)).trans (hr1 a ha),fun a h1 h2=>?_⟩
   by_cases ea:a=i
   ·subst ea
    rw [k3 a (by omega),hr2]
   ·exact k4 a (by omega) h2
  ·rw [hv,bs,cond_false]
   exact ⟨_,rfl,.inl rfl⟩
def vr (N:Nat) (A:bh) (c:Nat):Prop:=∀ i,i<A.length→(ba A i).length=c∧∀ j,j<c→VR N (cell A i j)
theorem zM (hN:1073741824≤N) {A:bh} {c:Nat} (hc:c≤1000) {i:Nat} (hi:i<A.length) (hl:(ba A i).length=c):∀ (d j fuel:Nat) (x:Int),j+d=c→d<fuel →
  ∃ s,cZ N fuel A x (c:Int) (i:Int) (j:Int)=some s∧((s=.inl false∧∃ q,j≤q∧q<c∧¬ VR N (cell A i q))∨∃ z,s=.inr z∧∀ q,j≤q→q<c→VR N (cell A i q)):=by
 intro d
 induction d with
 | zero =>
  intro j fuel x hj hf
  obtain ⟨fuel,rfl⟩:∃ k',fuel=k'+1:=⟨fuel-1,by omega⟩
  rw [cZ,decide_eq_false (by omega),cond_false]
  exact ⟨_,rfl,.inr ⟨_,rfl,fun q h1 h2=>by omega⟩⟩
 | succ d ih =>
  intro j fuel x hj hf
  obtain ⟨fuel,rfl⟩:∃ k',fuel=k'+1:=⟨fuel-1,by omega⟩
  rw [cZ,decide_eq_true (by omega),cond_true,ixM hi,bs,fV (by omega),bs]
  rcases ic hN (av (ba A i) j) with hv | hv
  ·have hv':=hv
   unfold VR at hv'
   rw [hv',bs,cond_true,bo (by omega) (by omega),bs]
   obtain ⟨s,e,h⟩:=ih (j+1) fuel x (by omega) (by omega)
   refine ⟨s,e,?_⟩
   rcases h with ⟨h1,q,h2,h3,h4⟩ | ⟨z,h1,h2⟩
   ·exact .inl ⟨h1,q,by omega,h3,h4⟩
   ·refine .inr ⟨z,h1,fun q g1 g2=>?_⟩
    by_cases e:q=j
    ·subst e;exact hv
    ·exact h2 q (by omega) g2
  ·rw [hv,bs,cond_false]
   refine ⟨_,rfl,.inl ⟨rfl,j,Nat.le_refl j,by omega,fun h=>?_⟩⟩
   unfold VR cell at h
   rw [hv] at h;cases h
theorem Ae (hN:1073741824≤N) {A:bh} (hA:A.length≤1000) {c:Nat} (hc:c≤1000):∀ (d i fuel:Nat) (x:Int),i+d=A.length→d<fuel →
  ∃ s,c4 N fuel A x (c:Int) (i:Int)=some s∧((s=.inl false∧¬ vr N A c)∨∃ z,s=.inr z∧∀ q,i≤q→q<A.length→(ba A q).length=c∧∀ j,j<c→VR N (cell A q j)):=by
 intro d
 induction d with
 | zero =>
  intro i fuel x hi hf
  obtain ⟨fuel,rfl⟩:∃ k',fuel=k'+1:=⟨fuel-1,by omega⟩
  rw [c4,decide_eq_false (by omega),cond_false]
  exact ⟨_,rfl,.inr ⟨_,rfl,fun q h1 h2=>by omega⟩⟩
 | succ d ih =>
  intro i fuel x hi hf
  obtain ⟨fuel,rfl⟩:∃ k',fuel=k'+1:=⟨fuel-1,by omega⟩
  have hil:i<A.length:=by omega
  rw [c4,decide_eq_true (by omega),cond_true,ixM hil,bs]
  by_cases hl:(ba A i).length=c
  ·rw [show (((ba A i).length:Int) != (c:Int))=false by rw [bne_eq_false_iff_eq];omega,cond_false]
   obtain ⟨s,e,h⟩:=zM hN hc hil hl c 0 N x (by omega) (by omega)
   have e':cZ N N A x (c:Int) (i:Int) 0=some s:=e
   rw [e',bs]
   rcases h with ⟨rfl,q,_,h3,h4⟩ | ⟨z,rfl,h2⟩
   ·rw [i4]
    exact ⟨_,rfl,.inl ⟨rfl,fun h=>h4 ((h i hil).2 q h3)⟩⟩
   ·rw [fI,bo (by omega) (by omega),bs]
    obtain ⟨s,e,h⟩:=ih (i+1) fuel x (by omega) (by omega)
    refine ⟨s,e,h.imp id ?_⟩
    rintro ⟨z,h5,h6⟩
    refine ⟨z,h5,fun q g1 g2=>?_⟩
    by_cases e:q=i
    ·subst e;exact ⟨hl,fun j hj=>h2 j (by omega) hj⟩
    ·exact h6 q (by omega) g2
  ·rw [show (((ba A i).length:Int) != (c:Int))=true by rw [bne_iff_ne];omega,cond_true]
   exact ⟨_,rfl,.inl ⟨rfl,fun h=>hl (h i hil).1⟩⟩
theorem o9 (hN:1073741824≤N) {A:bh} (hA:A.length≤1000) {c:Nat} (hc:c≤1000) (n:Nat):∃ b,dh N A (n:Int) (c:Int)=some b∧(b=true↔vr N A c∧A.length=n):=by
 unfold dh
 obtain ⟨s,e,h⟩:=Ae hN hA hc A.length 0 N (n:Int) (by omega) (by omega)
 have e':c4 N N A (n:Int) (c:Int) 0=some s:=e
 rw [e',bs]
 rcases h with ⟨rfl,h⟩ | ⟨z,rfl,h⟩
 ·rw [i4]
  exact ⟨false,rfl,fun h=>(by cases h),fun h2=>absurd h2.1 h⟩
 ·rw [fI]
  refine ⟨_,rfl,?_⟩
  rw [beq_iff_eq]
  exact ⟨fun h2=>⟨fun i hi=>h i (by omega) hi,by omega⟩,fun h2=>by omega⟩
theorem lj (hN:1073741824≤N) {n:Nat} (hn:n≤6) {A:bh} (hA:Shp n n A) {b:aW} (hb:b.length=n) :
  ∃ x ok,bq N A b=some (x,ok)∧(ok=true→x.length=n∧(∀ j,j<n→VR N (av x j)) ∧
   ∀ y:Nat→Rat,(∀ i,i<n→cp n (fun j=>cv A i j*y j)=rv (av b i))↔∀ j,j<n→y j=rv (av x j)):=by
 have hAl:=hA.1
 unfold bq
 rw [decide_eq_false (by omega),cond_false,hb]
 obtain ⟨q,e0,_⟩:=o9 hN (A:=A) (by omega) (c:=n) (by omega) n
 rw [e0,bs]
 cases q with
 | false=>exact ⟨_,_,rfl,fun h=>by cases h⟩
 | true =>
  rw [cond_true]
  obtain ⟨s1,e1,h1⟩:=zj hN hn hA hb n 0 N [] (by omega) (by omega) rfl
  have e1':bu N N A b (n:Int) [] 0=some s1:=e1
  rw [e1',bs]
  rcases h1 with rfl | ⟨m,z,rfl,hm,_,hr⟩
  ·rw [i4];exact ⟨_,_,rfl,fun h=>by cases h⟩
  ·rw [fI]
   have hs:Shp n (n+1) m:=⟨hm,fun i hi=>by rw [hr i (by omega) hi,List.length_append,hA.2 i hi,List.length_singleton]⟩
   have hc1:∀ i j,i<n→j<n→cv m i j=cv A i j:=fun i j hi hj=>by
    unfold cv cell
    rw [hr i (by omega) hi,kO (by rw [hA.2 i hi];exact hj)]
   have hc2:∀ i,i<n→cv m i n=rv (av b i):=fun i hi=>by
    unfold cv cell
    have:=hA.2 i hi
    rw [hr i (by omega) hi,← this,jV]
   obtain ⟨s2,e2,h2⟩:=wH hN hn n 0 N m (by omega) (by omega) hs (fun i _ q hq=>by omega)
   have e2':bv N N (n:Int) m 0=some s2:=e2
   dsimp only
   rw [e2',bs]
   rcases h2 with rfl | ⟨m',z',rfl,hs',hd,hsol⟩
   ·rw [i4];exact ⟨_,_,rfl,fun h=>by cases h⟩
   ·rw [fI]
    obtain ⟨s3,e3,h3⟩:=zJ hN hn hs' n 0 N [] (by omega) (by omega) rfl
    have e3':bt N N (n:Int) m' [] 0=some s3:=e3
    dsimp only
    rw [e3',bs]
    rcases h3 with rfl | ⟨o,z'',rfl,ho,_,h4⟩
    ·rw [i4];exact ⟨_,_,rfl,fun h=>by cases h⟩
    ·rw [fI]
     refine ⟨_,_,rfl,fun _=>⟨ho,fun j hj=>(h4 j (by omega) hj).1,fun y=>?_⟩⟩
     have k1:(∀ i,i<n→cp n (fun j=>cv A i j*y j)=rv (av b i))↔mI n m y:=by
      unfold mI
      constructor
      ·intro h i hi
       rw [d8 (h:=fun j=>cv A i j*y j) fun j hj=>by rw [hc1 i j hi hj],hc2 i hi]
       exact h i hi
      ·intro h i hi
       rw [← hc2 i hi,← h i hi]
       exact d8 fun j hj=>by rw [hc1 i j hi hj]
     rw [k1,hsol y]
     unfold mI
     have k2:∀ i,i<n→cp n (fun j=>cv m' i j*y j)=cv m' i i*y i:=fun i hi=>ox hi fun j hj hji=>by
      rw [hd i hi j hj (fun e=>hji e.symm)];exact Rat.zero_mul _
     constructor
     ·intro h j hj
      have h5:=h j hj
      rw [k2 j hj] at h5
      obtain ⟨_,g2,g3⟩:=h4 j (by omega) hj
      grind
     ·intro h i hi
      rw [k2 i hi,h i hi]
      obtain ⟨_,g2,g3⟩:=h4 i (by omega) hi
      rw [← g3,Rat.mul_comm]
end
section
variable {N:Nat}
theorem gk (hN:1073741824≤N) {v:Int} (h1:-1000000000≤v) (h2:v≤1000000000):VR N (v,1) :=
 (eX hN).2 ⟨(by decide:(1:Int)≤1),(by decide:(1:Int)≤1000000000),h1,h2,Int.gcd_one⟩
theorem iy (v:Int):rv (v,1)=(v:Rat):=by
 unfold rv
 have:((1:Int):Rat)=1:=rfl
 show (v:Rat) / ((1:Int):Rat)=_
 rw [this];grind
theorem yX (hN:1073741824≤N) {n:Int} (h1:-1000000000≤n) (h2:n≤1000000000):bz N n 1=some ((n,1),true):=by
 obtain ⟨a1,a2,a3⟩:=nI n
 obtain ⟨g,e,g1,g2,g3,g4⟩:=lZ (N:=N) hN a1 (by decide:(0:Int)≤1) (by decide)
 have hg:g=1:=by
  have:=g3 (.inr (by decide))
  have:=Int.le_of_dvd (by decide) g2
  omega
 subst hg
 have hv:=gk hN h1 h2
 unfold VR at hv
 have q1:qt n 1=some n:=by
  unfold qt;rw [if_pos ⟨by decide,by rw [Int.tdiv_one];exact j0 (by omega) (by omega)⟩,Int.tdiv_one]
 have q2:qt 1 1=some 1:=rfl
 unfold bz
 rw [show ((1:Int) == 0)=false from rfl,cond_false,eS (by omega) (by omega),bs,dN,bs,show inR n (0-4000000000000000000) 4000000000000000000=true from b9.2 (by omega),cond_true,bs,dN,bs,show inR 1 (0-4000000000000000000) 4000000000000000000=true from b9.2 (by omega),cond_true,show decide ((1:Int)<0)=false from rfl,cond_false,eS (by omega) (by omega),bs,e,bs,q1,bs,q2,bs,hv,bs,cond_true]
theorem tp (hN:1073741824≤N) {a b:Int} (h1:0≤a) (h2:a≤1000) (h3:0≤b) (h4:b≤1000):bL N a 1 b 1=some ((a*b,1),true):=by
 have m:=iw (a:=a) (b:=b) (by omega) (by omega) (by omega) (by omega)
 have ha:=gk hN (v:=a) (by omega) (by omega)
 have hb:=gk hN (v:=b) (by omega) (by omega)
 have m2:0≤a*b:=Int.mul_nonneg h1 h3
 have m3:a*b≤1000*1000:=Int.mul_le_mul h2 h4 h3 (by decide)
 unfold VR at ha hb
 unfold bL
 rw [ha,bs,cond_true,hb,bs,cond_true,dL (by omega) (by omega),bs,show ml 1 1=some 1 from rfl,bs,yX hN (by omega) (by omega),bs]
theorem AC (hN:1073741824≤N) {a b:Int} (h1:0≤a) (h2:a≤10000000) (h3:0≤b) (h4:b≤10000000):bA N a 1 b 1=some ((a+b,1),true):=by
 have ha:=gk hN (v:=a) (by omega) (by omega)
 have hb:=gk hN (v:=b) (by omega) (by omega)
 unfold VR at ha hb
 unfold bA
 rw [ha,bs,cond_true,hb,bs,cond_true,dL (by omega) (by omega),bs,dL (by omega) (by omega),bs,Int.mul_one,Int.mul_one,bo (by omega) (by omega),bs,show ml 1 1=some 1 from rfl,bs,yX hN (by omega) (by omega),bs]
theorem yW (hN:1073741824≤N) {a b:aW} (hl:a.length=b.length) (h10:a.length≤1000):∀ (c k fuel:Nat) (x:cj) (u1 u2:Int),k+c=a.length→c<fuel →
  ∃ s,bE N fuel a b u1 u2 x.1 x.2 (k:Int)=some s∧(s=.inl ((0,0),false)∨∃ r z:cj × Int,s=.inr (r.1.1,r.1.2,z.2)∧rv r.1=rv x+(cp a.length (fun j=>rv (av a j)*rv (av b j))-cp k (fun j=>rv (av a j)*rv (av b j)))∧(VR N x→VR N r.1)):=by
 intro c
 induction c with
 | zero =>
  intro k fuel x u1 u2 hk hf
  obtain ⟨fuel,rfl⟩:∃ k',fuel=k'+1:=⟨fuel-1,by omega⟩
  rw [bE,decide_eq_false (by omega),cond_false]
  obtain rfl:k=a.length:=by omega
  exact ⟨_,rfl,.inr ⟨(x,0),((0,0),_),rfl,by grind,id⟩⟩
 | succ c ih =>
  intro k fuel x u1 u2 hk hf
  obtain ⟨fuel,rfl⟩:∃ k',fuel=k'+1:=⟨fuel-1,by omega⟩
  obtain ⟨r,ok,e,h⟩:=yR hN (av a k) (av b k)
  obtain ⟨y,ok2,e2,h2⟩:=vC hN x r
  rw [bE,decide_eq_true (by omega),cond_true,fV (by omega),bs,fV (by omega),bs,e,bs]
  dsimp only
  cases ok with
  | false=>rw [cond_false];exact ⟨_,rfl,.inl rfl⟩
  | true =>
   rw [cond_true,e2,bs]
   dsimp only
   cases ok2 with
   | false=>rw [cond_false];exact ⟨_,rfl,.inl rfl⟩
   | true =>
    rw [cond_true,bo (by omega) (by omega),bs]
    obtain ⟨s,e3,h3⟩:=ih (k+1) fuel y u1 u2 (by omega) (by omega)
    refine ⟨s,e3,h3.imp id ?_⟩
    rintro ⟨r',z,k1,k2,k3⟩
    obtain ⟨_,_,_,g4⟩:=h rfl
    obtain ⟨_,_,f3,f4⟩:=h2 rfl
    refine ⟨r',z,k1,?_,fun _=>k3 f3⟩
    rw [k2,f4,g4]
    have:cp (k+1) (fun j=>rv (av a j)*rv (av b j))=cp k (fun j=>rv (av a j)*rv (av b j))+rv (av a k)*rv (av b k):=rfl
    rw [this]
    grind
theorem yC (hN:1073741824≤N) {a b:aW} (hl:a.length=b.length) (h10:a.length≤1000):∃ r ok,dk N a b=some (r,ok)∧(ok=true→VR N r∧rv r=cp a.length (fun j=>rv (av a j)*rv (av b j))):=by
 unfold dk
 rw [show ((a.length:Int) != (b.length:Int))=false by rw [bne_eq_false_iff_eq];omega,cond_false]
 obtain ⟨s,e,h⟩:=yW hN hl h10 a.length 0 N (0,1) 0 0 (by omega) (by omega)
 have e':bE N N a b 0 0 0 1 0=some s:=e
 rw [e',bs]
 rcases h with rfl | ⟨r,z,rfl,h1,h2⟩
 ·rw [i4];exact ⟨_,_,rfl,fun h=>by cases h⟩
 ·rw [fI]
  refine ⟨r.1,true,rfl,fun _=>⟨h2 (gk hN (by decide) (by decide)),?_⟩⟩
  rw [h1,iy]
  have e0:((0:Int):Rat)=0:=rfl
  have e1:cp 0 (fun j=>rv (av a j)*rv (av b j))=0:=rfl
  rw [e0,e1]
  grind
def jJ (r:cj):Prop:=r=(0,1)∨r=(1,1)
theorem wU (hN:1073741824≤N) {a b:aW} (hl:a.length=b.length) (h10:a.length≤1000) (ha:∀ j,j<a.length→jJ (av a j)) (hb:∀ j,j<a.length→jJ (av b j)):∀ (c k fuel:Nat) (v:Int) (u1 u2:Int),k+c=a.length→c<fuel→0≤v→v≤k →
  ∃ v' z:Int,bE N fuel a b u1 u2 v 1 (k:Int)=some (.inr (v',1,z))∧0≤v'∧v'≤a.length∧v≤v'∧∀ j,k≤j→j<a.length→av a j=(1,1)→av b j=(1,1)→v+1≤v':=by
 intro c
 induction c with
 | zero =>
  intro k fuel v u1 u2 hk hf h0 h1
  obtain ⟨fuel,rfl⟩:∃ k',fuel=k'+1:=⟨fuel-1,by omega⟩
  rw [bE,decide_eq_false (by omega),cond_false]
  exact ⟨v,_,rfl,h0,by omega,Int.le_refl v,fun j h1 h2=>by omega⟩
 | succ c ih =>
  intro k fuel v u1 u2 hk hf h0 h1
  obtain ⟨fuel,rfl⟩:∃ k',fuel=k'+1:=⟨fuel-1,by omega⟩
  have hm:∃ p:Int,0≤p∧p≤1∧bL N (av a k).1 (av a k).2 (av b k).1 (av b k).2=some ((p,1),true)∧(av a k=(1,1)→av b k=(1,1)→p=1):=by
   rcases ha k (by omega) with e1 | e1 <;> rcases hb k (by omega) with e2 | e2 <;> rw [e1,e2]
   ·exact ⟨_,by decide,by decide,tp hN (by decide) (by decide) (by decide) (by decide),fun h=>absurd h (by decide)⟩
   ·exact ⟨_,by decide,by decide,tp hN (by decide) (by decide) (by decide) (by decide),fun h=>absurd h (by decide)⟩
   ·exact ⟨_,by decide,by decide,tp hN (by decide) (by decide) (by decide) (by decide),fun _ h=>absurd h (by decide)⟩
   ·exact ⟨_,by decide,by decide,tp hN (by decide) (by decide) (by decide) (by decide),fun _ _=>rfl⟩
  obtain ⟨p,p0,p1,ep,hp⟩:=hm
  rw [bE,decide_eq_true (by omega),cond_true,fV (by omega),bs,fV (by omega),bs,ep,bs]
  dsimp only
  rw [cond_true,AC hN h0 (by omega) p0 (by omega),bs]
  dsimp only
  rw [cond_true,bo (by omega) (by omega),bs]
  obtain ⟨v',z,e3,g1,g2,g3,g4⟩:=ih (k+1) fuel (v+p) u1 u2 (by omega) (by omega) (by omega) (by omega)
  refine ⟨v',z,e3,g1,g2,by omega,fun j h1 h2 h3 h4=>?_⟩
  by_cases e:j=k
  ·subst e
   have:=hp h3 h4
   omega
  ·have:=g4 j (by omega) h2 h3 h4
   omega
theorem AD (hN:1073741824≤N) {a b:aW} (hl:a.length=b.length) (h10:a.length≤1000) (ha:∀ j,j<a.length→jJ (av a j)) (hb:∀ j,j<a.length→jJ (av b j)) :
  ∃ v:Int,dk N a b=some ((v,1),true)∧0≤v∧v≤1000∧∀ j,j<a.length→av a j=(1,1)→av b j=(1,1)→1≤v:=by
 unfold dk
 rw [show ((a.length:Int) != (b.length:Int))=false by rw [bne_eq_false_iff_eq];omega,cond_false]
 obtain ⟨v',z,e,g1,g2,g3,g4⟩:=wU hN hl h10 ha hb a.length 0 N 0 0 0 (by omega) (by omega) (by decide) (by decide)
 have e':bE N N a b 0 0 0 1 0=_:=e
 rw [e',bs,fI]
 exact ⟨v',rfl,g1,by omega,fun j h1 h2 h3=>by have:=g4 j (by omega) h1 h2 h3;omega⟩
theorem zU (hN:1073741824≤N) {A:bh} {x:aW} (hA:A.length≤1000) (hx:x.length≤1000) (hl:∀ i,i<A.length→(ba A i).length=x.length):∀ (c i fuel:Nat) (y:aW),i+c=A.length→c<fuel→y.length=i →
  ∃ s,aX N fuel A x y (i:Int)=some s∧(s=.inl ([],false)∨∃ y' z,s=.inr (y',z)∧y'.length=A.length∧(∀ a,a<i→av y' a=av y a) ∧
   ∀ a,i≤a→a<A.length→VR N (av y' a)∧rv (av y' a)=cp x.length (fun j=>cv A a j*rv (av x j))):=by
 intro c
 induction c with
 | zero =>
  intro i fuel y hi hf hy
  obtain ⟨fuel,rfl⟩:∃ k',fuel=k'+1:=⟨fuel-1,by omega⟩
  rw [aX,decide_eq_false (by omega),cond_false]
  exact ⟨_,rfl,.inr ⟨y,_,rfl,by omega,fun _ _=>rfl,fun a h1 h2=>by omega⟩⟩
 | succ c ih =>
  intro i fuel y hi hf hy
  obtain ⟨fuel,rfl⟩:∃ k',fuel=k'+1:=⟨fuel-1,by omega⟩
  have hil:i<A.length:=by omega
  have hrl:=hl i hil
  obtain ⟨r,ok,e,h⟩:=yC hN hrl (by omega)
  rw [aX,decide_eq_true (by omega),cond_true,ixM hil,bs,e,bs]
  dsimp only
  cases ok with
  | false=>rw [cond_false];exact ⟨_,rfl,.inl rfl⟩
  | true =>
   rw [cond_true,bm (by decide) (by rw [List.length_singleton];omega),bs,bo (by omega) (by omega),bs]
   obtain ⟨s,e1,h1⟩:=ih (i+1) fuel (y++[(r.1,r.2)]) (by omega) (by omega) (by rw [List.length_append,List.length_singleton];omega)
   refine ⟨s,e1,h1.imp id ?_⟩
   rintro ⟨y',z,k1,k2,k3,k4⟩
   refine ⟨y',z,k1,k2,fun a ha=>by rw [k3 a (by omega),kO (by omega)],fun a h1 h2=>?_⟩
   by_cases ea:a=i
   ·subst ea
    have hr:av y' a=r:=by rw [k3 a (by omega),← hy,jV]
    obtain ⟨g1,g2⟩:=h rfl
    rw [hr]
    refine ⟨g1,?_⟩
    rw [g2,hrl]
    rfl
   ·exact k4 a (by omega) h2
theorem va (hN:1073741824≤N) {A:bh} {x:aW} (hA:A.length≤1000) (hx:x.length≤1000) (hl:∀ i,i<A.length→(ba A i).length=x.length) (hb:∀ i,i<A.length→∀ j,j<x.length→jJ (cell A i j)) (hxb:∀ j,j<x.length→jJ (av x j)) (hc:∀ i,i<A.length→∃ j,j<x.length∧cell A i j=(1,1)∧av x j=(1,1)):∀ (c i fuel:Nat) (y:aW),i+c=A.length→c<fuel→y.length=i→(∀ a,a<i→∃ v:Int,av y a=(v,1)∧1≤v∧v≤1000) →
  ∃ y' z,aX N fuel A x y (i:Int)=some (.inr (y',z))∧y'.length=A.length∧∀ a,a<A.length→∃ v:Int,av y' a=(v,1)∧1≤v∧v≤1000:=by
 intro c
 induction c with
 | zero =>
  intro i fuel y hi hf hy hy2
  obtain ⟨fuel,rfl⟩:∃ k',fuel=k'+1:=⟨fuel-1,by omega⟩
  rw [aX,decide_eq_false (by omega),cond_false]
  exact ⟨y,_,rfl,by omega,fun a ha=>hy2 a (by omega)⟩
 | succ c ih =>
  intro i fuel y hi hf hy hy2
  obtain ⟨fuel,rfl⟩:∃ k',fuel=k'+1:=⟨fuel-1,by omega⟩
  have hil:i<A.length:=by omega
  have hrl:=hl i hil
  obtain ⟨v,e,v0,v1,h⟩:=AD hN hrl (by omega) (fun j hj=>hb i hil j (by omega)) fun j hj=>hxb j (by omega)
  rw [aX,decide_eq_true (by omega),cond_true,ixM hil,bs,e,bs]
  dsimp only
  rw [cond_true,bm (by decide) (by rw [List.length_singleton];omega),bs,bo (by omega) (by omega),bs]
  refine ih (i+1) fuel (y++[(v,1)]) (by omega) (by omega) (by rw [List.length_append,List.length_singleton];omega) fun a ha=>?_
  by_cases ea:a=i
  ·subst ea
   refine ⟨v,by rw [← hy,jV],?_,v1⟩
   obtain ⟨j,h1,h2,h3⟩:=hc a hil
   exact h j (by omega) h2 h3
  ·rw [kO (by omega)]
   exact hy2 a (by omega)
end
def ib (a:aU) (v:Int):cj:=bif decide (v∈a.2) then (1,1) else (0,1)
def dy (atoms:List aU) (v:Int):aW:=atoms.map fun a=>ib a v
def aR (n:Nat) (atoms:List aU):bh:=(List.range' 0 n).map fun v:Nat=>dy atoms (v:Int)
def aB (n:Nat):aW:=List.replicate n (1,1)
theorem lf (n:Nat):aB n++[(1,1)]=aB (n+1):=by unfold aB;rw [List.replicate_succ']
theorem qI (n:Nat) (atoms:List aU):aR n atoms++[dy atoms (n:Int)]=aR (n+1) atoms:=by
 unfold aR
 rw [List.range'_concat,List.map_append]
 simp
section
variable {N:Nat}
theorem yF (hN:1073741824≤N) {n v:Int} {atoms:List aU} {out:List Int} {b1 b4:bh} {b2 b3 b5 b6:aW} (ha:eN atoms) (h4:atoms.length≤1000) :
  cn N N n atoms out b1 b2 b3 b4 b5 b6 v [] 0=some (dy atoms v,(atoms.length:Int)) :=
 hG (fun k (o:aW) i=>cn N k n atoms out b1 b2 b3 b4 b5 b6 v o i) atoms.length (fun i=>dy (atoms.take i) v) (dy atoms v,(atoms.length:Int))
  (fun k i h=>by
   show cn N (k+1) n atoms out b1 b2 b3 b4 b5 b6 v (dy (atoms.take i) v) (i:Int)=cn N k n atoms out b1 b2 b3 b4 b5 b6 v (dy (atoms.take (i+1)) v) ((i+1:Nat):Int)
   have hl:(dy (atoms.take i) v).length≤1000:=by unfold dy;rw [List.length_map,List.length_take];omega
   have e:dy (atoms.take (i+1)) v=dy (atoms.take i) v++[ib atoms[i] v]:=by
    unfold dy
    rw [List.take_succ_eq_append_getElem h,List.map_append];rfl
   rw [cn,dlt h,cond_true,aZ h,bs,gV hN (oK ha h),bs,e]
   unfold ib
   cases decide (v∈atoms[i].2) with
   | true=>rw [cond_true,cond_true,bm (by decide) (by rw [List.length_singleton];omega),bs,ad1 (by omega),bs]
   | false=>rw [cond_false,cond_false,bm (by decide) (by rw [List.length_singleton];omega),bs,ad1 (by omega),bs])
  (fun k=>by
   show cn N (k+1) n atoms out b1 b2 b3 b4 b5 b6 v (dy (atoms.take atoms.length) v) (atoms.length:Int)=_
   rw [cn,dge (by omega),cond_false,List.take_length]) N 0 (by omega) (by omega)
theorem zB (hN:1073741824≤N) {n:Nat} (hn:n≤1000) {atoms:List aU} {out:List Int} {b1:bh} {b2 b3 b6:aW} (ha:eN atoms) (h4:atoms.length≤1000) :
  cM N N (n:Int) atoms out b1 b2 b3 [] [] b6 0=some (aR n atoms,aB n,(n:Int)) :=
 hG (fun k (o:bh × aW) i=>cM N k (n:Int) atoms out b1 b2 b3 o.1 o.2 b6 i) n (fun i=>(aR i atoms,aB i)) (aR n atoms,aB n,(n:Int))
  (fun k i h=>by
   show cM N (k+1) (n:Int) atoms out b1 b2 b3 (aR i atoms) (aB i) b6 (i:Int)=cM N k (n:Int) atoms out b1 b2 b3 (aR (i+1) atoms) (aB (i+1)) b6 ((i+1:Nat):Int)
   have h1:(aR i atoms).length=i:=by unfold aR;simp
   have h2:(aB i).length=i:=by unfold aB;simp
   rw [cM,dlt h,cond_true,yF hN ha h4,bs,lpB]
   dsimp only
   rw [bm (by decide) (by rw [List.length_singleton];omega),bs,bm (by decide) (by rw [List.length_singleton];omega),bs,ad1 (by omega),bs,qI,lf])
  (fun k=>by
   show cM N (k+1) (n:Int) atoms out b1 b2 b3 (aR n atoms) (aB n) b6 (n:Int)=_
   rw [cM,dge (by omega),cond_false]) N 0 (by omega) (by omega)
theorem zh (hN:1073741824≤N) {n:Int} {atoms:List aU} {out:List Int} {b1 b4:bh} {b2 b3 b5:aW} (h4:atoms.length≤1000) :
  cO N N n atoms out b1 b2 b3 b4 b5 [] 0=some (aB atoms.length,(atoms.length:Int)) :=
 hG (fun k (o:aW) i=>cO N k n atoms out b1 b2 b3 b4 b5 o i) atoms.length (fun i=>aB i) (aB atoms.length,(atoms.length:Int))
  (fun k i h=>by
   show cO N (k+1) n atoms out b1 b2 b3 b4 b5 (aB i) (i:Int)=cO N k n atoms out b1 b2 b3 b4 b5 (aB (i+1)) ((i+1:Nat):Int)
   have h2:(aB i).length=i:=by unfold aB;simp
   rw [cO,dlt h,cond_true,bm (by decide) (by rw [List.length_singleton];omega),bs,ad1 (by omega),bs,lf])
  (fun k=>by
   show cO N (k+1) n atoms out b1 b2 b3 b4 b5 (aB atoms.length) (atoms.length:Int)=_
   rw [cO,dge (by omega),cond_false]) N 0 (by omega) (by omega)
theorem j9 (hN:1073741824≤N) {n:Nat} {atoms:List aU} {out:List Int} (ha:eN atoms) (ho:okI out) (hq:eO (n:Int) atoms out=true) :
  e8 N (n:Int) atoms out=some ((aR n atoms,aB n,aB atoms.length),true):=by
 obtain ⟨_,n5,_,a4⟩:=jf hq
 unfold e8
 rw [gL hN ha ho,bs,hq,cond_true,zB hN (by omega) ha (by omega),bs,lpB]
 dsimp only
 rw [zh hN (by omega),bs,lpB]
theorem cq {n:Nat} {atoms:List aU}:(aR n atoms).length=n:=by unfold aR;simp
theorem rU {n v:Nat} {atoms:List aU} (hv:v<n):ba (aR n atoms) v=dy atoms (v:Int):=by
 unfold ba aR
 rw [List.getD_eq_getElem?_getD,List.getElem?_map,List.getElem?_range' hv]
 simp
theorem iD {n v i:Nat} {atoms:List aU} (hv:v<n) (hi:i<atoms.length):cell (aR n atoms) v i=ib (eZ atoms i) (v:Int):=by
 unfold cell
 rw [rU hv]
 unfold dy av
 rw [nk hi]
 simp [hi]
theorem mH {n i:Nat} (h:i<n):av (aB n) i=(1,1):=by unfold av aB;simp [h]
theorem j6 (a:aU) (v:Int):jJ (ib a v):=by
 unfold ib jJ
 cases decide (v∈a.2)
 ·exact .inl rfl
 ·exact .inr rfl
theorem rZ (hN:1073741824≤N) {r:cj} (h:jJ r):VR N r:=by
 rcases h with rfl | rfl
 ·exact gk hN (by decide) (by decide)
 ·exact gk hN (by decide) (by decide)
theorem kx {n:Nat} {atoms:List aU}:Shp n atoms.length (aR n atoms) :=
 ⟨cq,fun i hi=>by rw [rU hi];unfold dy;rw [List.length_map]⟩
theorem pG (hN:1073741824≤N) {n:Nat} {atoms:List aU} (n1:1≤n) (n5:n≤5) (a1:1≤atoms.length) (a4:atoms.length≤4):bN N (aR n atoms) (aB n) (aB atoms.length)=some true:=by
 have l1:(aB n).length=n:=by unfold aB;simp
 have l2:(aB atoms.length).length=atoms.length:=by unfold aB;simp
 unfold bN
 have one:∀ k:Nat,k≤1000→vr N [aB k] k:=fun k _ i hi=>by
  obtain rfl:i=0:=by simpa using hi
  refine ⟨by show (aB k).length=k;unfold aB;simp,fun j hj=>?_⟩
  have:cell [aB k] 0 j=(1,1):=mH hj
  rw [this];exact gk hN (by decide) (by decide)
 obtain ⟨b1,e1,h1⟩:=o9 hN (A:=aR n atoms) (by rw [cq];omega) (c:=atoms.length) (by omega) n
 obtain ⟨b2,e2,h2⟩:=o9 hN (A:=[aB atoms.length]) (by simp) (c:=atoms.length) (by omega) 1
 obtain ⟨b3,e3,h3⟩:=o9 hN (A:=[aB n]) (by simp) (c:=n) (by omega) 1
 have t1:b1=true:=h1.2 ⟨fun i hi=>by
  rw [cq] at hi
  exact ⟨kx.2 i hi,fun j hj=>by rw [iD hi hj];exact rZ hN (j6 _ _)⟩,cq⟩
 have t2:b2=true:=h2.2 ⟨one _ (by omega),rfl⟩
 have t3:b3=true:=h3.2 ⟨one _ (by omega),rfl⟩
 have e2':dh N [aB atoms.length] 1 (atoms.length:Int)=some b2:=e2
 have e3':dh N [aB n] 1 (n:Int)=some b3:=e3
 rw [l1,l2,dN,bs,show inR (atoms.length:Int) 1 5=true from b9.2 (by omega),cond_true,dN,bs,show inR (n:Int) 1 5=true from b9.2 (by omega),cond_true,e1,bs,t1,cond_true,e2',bs,t2,cond_true,e3',bs,t3]
theorem xk (hN:1073741824≤N) {x:aW} (hl:x.length≤1000) {sg:Int} {A:bh} {B C:aW}:∀ (c k fuel:Nat),k+c=x.length→c<fuel →
  ∃ s,cF N fuel x sg A B C (k:Int)=some s∧((s=.inl false∧∃ j,k≤j∧j<x.length∧¬ (VR N (av x j)∧0≤(av x j).1))∨∃ z,s=.inr z∧∀ j,k≤j→j<x.length→VR N (av x j)∧0≤(av x j).1):=by
 intro c
 induction c with
 | zero =>
  intro k fuel hk hf
  obtain ⟨fuel,rfl⟩:∃ k',fuel=k'+1:=⟨fuel-1,by omega⟩
  rw [cF,decide_eq_false (by omega),cond_false]
  exact ⟨_,rfl,.inr ⟨_,rfl,fun j h1 h2=>by omega⟩⟩
 | succ c ih =>
  intro k fuel hk hf
  obtain ⟨fuel,rfl⟩:∃ k',fuel=k'+1:=⟨fuel-1,by omega⟩
  rw [cF,decide_eq_true (by omega),cond_true,fV (by omega),bs]
  rcases ic hN (av x k) with hv | hv
  ·have hv':=hv
   unfold VR at hv'
   rw [hv',bs,cond_true,bs]
   by_cases h0:(av x k).1<0
   ·rw [decide_eq_true h0,cond_true]
    exact ⟨_,rfl,.inl ⟨rfl,k,Nat.le_refl k,by omega,fun h=>by omega⟩⟩
   ·rw [decide_eq_false h0,cond_false,bo (by omega) (by omega),bs]
    obtain ⟨s,e,h⟩:=ih (k+1) fuel (by omega) (by omega)
    refine ⟨s,e,?_⟩
    rcases h with ⟨h1,j,h2,h3,h4⟩ | ⟨z,h1,h2⟩
    ·exact .inl ⟨h1,j,by omega,h3,h4⟩
    ·refine .inr ⟨z,h1,fun j g1 g2=>?_⟩
     by_cases e:j=k
     ·subst e;exact ⟨hv,by omega⟩
     ·exact h2 j (by omega) g2
  ·rw [hv,bs,cond_false]
   refine ⟨_,rfl,.inl ⟨rfl,k,Nat.le_refl k,by omega,fun h=>?_⟩⟩
   have:=h.1
   unfold VR at this
   rw [hv] at this;cases this
theorem sk (hN:1073741824≤N) {y B:aW} (hl:y.length≤1000) (hb:y.length≤B.length) {A:bh} {C:aW} {u:Bool}:∀ (c k fuel:Nat),k+c=y.length→c<fuel →
  ∃ s,bZ N fuel 1 A B C y u (k:Int)=some s∧((s=.inl false∧∃ j,k≤j∧j<y.length∧(VR N (av y j)→VR N (av B j)→rv (av y j)<rv (av B j)))∨∃ z,s=.inr z∧∀ j,k≤j→j<y.length→VR N (av y j)→VR N (av B j)→¬ rv (av y j)<rv (av B j)):=by
 intro c
 induction c with
 | zero =>
  intro k fuel hk hf
  obtain ⟨fuel,rfl⟩:∃ k',fuel=k'+1:=⟨fuel-1,by omega⟩
  rw [bZ,decide_eq_false (by omega),cond_false]
  exact ⟨_,rfl,.inr ⟨_,rfl,fun j h1 h2=>by omega⟩⟩
 | succ c ih =>
  intro k fuel hk hf
  obtain ⟨fuel,rfl⟩:∃ k',fuel=k'+1:=⟨fuel-1,by omega⟩
  obtain ⟨q,e1,q1,q2,h⟩:=yJ hN (av y k) (av B k)
  rw [bZ,decide_eq_true (by omega),cond_true,fV (by omega),bs,fV (by omega),bs,e1,bs,dL (by omega) (by omega),bs,Int.mul_one]
  by_cases h0:q<0
  ·rw [decide_eq_true h0,cond_true]
   exact ⟨_,rfl,.inl ⟨rfl,k,Nat.le_refl k,by omega,fun v1 v2=>(h v1 v2).1 h0⟩⟩
  ·rw [decide_eq_false h0,cond_false,bo (by omega) (by omega),bs]
   obtain ⟨s,e,h'⟩:=ih (k+1) fuel (by omega) (by omega)
   refine ⟨s,e,?_⟩
   rcases h' with ⟨h1,j,h2,h3,h4⟩ | ⟨z,h1,h2⟩
   ·exact .inl ⟨h1,j,by omega,h3,h4⟩
   ·refine .inr ⟨z,h1,fun j g1 g2=>?_⟩
    by_cases e:j=k
    ·subst e;exact fun v1 v2 hlt=>h0 ((h v1 v2).2 hlt)
    ·exact h2 j (by omega) g2
structure FeasR (N n:Nat) (atoms:List aU) (x:aW):Prop where
 len:x.length=atoms.length
 ok:∀ j,j<x.length→VR N (av x j)∧0≤(av x j).1
 ge:∀ v,v<n→1≤cp atoms.length (fun j=>cv (aR n atoms) v j*rv (av x j))
theorem sN (hN:1073741824≤N) {n:Nat} {atoms:List aU} (n1:1≤n) (n5:n≤5) (a1:1≤atoms.length) (a4:atoms.length≤4) {x:aW} (hx:x.length=atoms.length) :
  ∃ b,dA N (aR n atoms) (aB n) (aB atoms.length) x 1=some b∧(b=true→FeasR N n atoms x) ∧
   ((∀ j,j<x.length→jJ (av x j))→(∀ v,v<n→∃ j,j<x.length∧cell (aR n atoms) v j=(1,1)∧av x j=(1,1))→b=true):=by
 have l1:(aB n).length=n:=by unfold aB;simp
 have l2:(aB atoms.length).length=atoms.length:=by unfold aB;simp
 unfold dA
 rw [pG hN n1 n5 a1 a4,bs,cond_true,l2,show ((x.length:Int) != (atoms.length:Int))=false by rw [bne_eq_false_iff_eq];omega,cond_false]
 obtain ⟨s1,e1,h1⟩:=xk hN (x:=x) (by omega) (sg:=1) (A:=aR n atoms) (B:=aB n) (C:=aB atoms.length) x.length 0 N (by omega) (by omega)
 have e1':cF N N x 1 (aR n atoms) (aB n) (aB atoms.length) 0=some s1:=e1
 rw [e1',bs]
 rcases h1 with ⟨rfl,j,_,h2,h3⟩ | ⟨z,rfl,h1⟩
 ·rw [i4]
  refine ⟨_,rfl,fun h=>(by cases h),fun hb _=>absurd ⟨rZ hN (hb j h2),?_⟩ h3⟩
  rcases hb j h2 with e | e <;> rw [e] <;> decide
 ·rw [fI]
  have hsh:=kx (n:=n) (atoms:=atoms)
  have hrl:∀ i,i<(aR n atoms).length→(ba (aR n atoms) i).length=x.length:=fun i hi=>by rw [hsh.2 i (by rw [← cq (n:=n) (atoms:=atoms)];exact hi),hx]
  obtain ⟨s2,e2,h2⟩:=zU hN (A:=aR n atoms) (x:=x) (by rw [cq];omega) (by omega) hrl (aR n atoms).length 0 N [] (by omega) (by rw [cq];omega) rfl
  have e2':aX N N (aR n atoms) x [] 0=some s2:=e2
  unfold bG
  rw [e2',bs]
  rcases h2 with rfl | ⟨y,z',rfl,hy,_,hv⟩
  ·rw [i4,bs]
   obtain ⟨s3,e3,_⟩:=sk hN (y:=[]) (B:=aB n) (by decide) (Nat.zero_le _) (A:=aR n atoms) (C:=aB atoms.length) (u:=false) 0 0 N rfl (by omega)
   have e3':bZ N N 1 (aR n atoms) (aB n) (aB atoms.length) [] false 0=some s3:=e3
   dsimp only
   rw [e3',bs]
   have bad:¬ ((∀ j,j<x.length→jJ (av x j))∧∀ v,v<n→∃ j,j<x.length∧cell (aR n atoms) v j=(1,1)∧av x j=(1,1)):=by
    rintro ⟨hb,hc⟩
    obtain ⟨y',z2,e4,_⟩:=va hN (A:=aR n atoms) (x:=x) (by rw [cq];omega) (by omega) hrl (fun i hi j hj=>by
     rw [cq] at hi
     rw [iD hi (by omega)];exact j6 _ _) hb (fun i hi=>hc i (by rw [cq] at hi;exact hi)) (aR n atoms).length 0 N [] (by omega) (by rw [cq];omega) rfl (fun a ha=>by omega)
    have:=e4.symm.trans e2
    cases this
   cases s3 with
   | inl q =>
    rw [i4]
    refine ⟨q,rfl,?_,fun hb hc=>absurd ⟨hb,hc⟩ bad⟩
    rename_i h6
    rcases h6 with ⟨h7,j,_,h8,_⟩ | ⟨z3,h7,_⟩
    ·exact absurd h8 (Nat.not_lt_zero _)
    ·cases h7
   | inr q =>
    rw [fI]
    exact ⟨false,rfl,fun h=>(by cases h),fun hb hc=>absurd ⟨hb,hc⟩ bad⟩
  ·rw [fI,bs]
   rw [cq] at hy hv
   obtain ⟨s3,e3,h3⟩:=sk hN (y:=y) (B:=aB n) (by omega) (by omega) (A:=aR n atoms) (C:=aB atoms.length) (u:=true) y.length 0 N (by omega) (by omega)
   have e3':bZ N N 1 (aR n atoms) (aB n) (aB atoms.length) y true 0=some s3:=e3
   dsimp only
   rw [e3',bs]
   have vB:∀ j,j<n→VR N (av (aB n) j)∧rv (av (aB n) j)=1:=fun j hj=>by
    rw [mH hj]
    exact ⟨gk hN (by decide) (by decide),iy 1⟩
   rcases h3 with ⟨rfl,j,_,g1,g2⟩ | ⟨z3,rfl,g⟩
   ·rw [i4]
    refine ⟨false,rfl,fun h=>(by cases h),fun hb hc=>?_⟩
    exfalso
    obtain ⟨y',z2,e4,_,h5⟩:=va hN (A:=aR n atoms) (x:=x) (by rw [cq];omega) (by omega) hrl (fun i hi j hj=>by
     rw [cq] at hi
     rw [iD hi (by omega)];exact j6 _ _) hb (fun i hi=>hc i (by rw [cq] at hi;exact hi)) (aR n atoms).length 0 N [] (by omega) (by rw [cq];omega) rfl (fun a ha=>by omega)
    have h6:=e4.symm.trans e2
    have h7:y'=y:=by
     have:=Option.some.inj h6
     injection this with this
     exact congrArg Prod.fst this
    subst h7
    obtain ⟨w,hw,w1,_⟩:=h5 j (by rw [cq];omega)
    have g3:=g2 (hv j (by omega) (by omega)).1 (vB j (by omega)).1
    rw [(vB j (by omega)).2,hw,iy] at g3
    have:((1:Int):Rat)≤(w:Rat):=Rat.intCast_le_intCast.2 w1
    have e1:((1:Int):Rat)=1:=rfl
    grind
   ·rw [fI]
    refine ⟨true,rfl,fun _=>⟨hx,fun j hj=>h1 j (by omega) hj,fun v hv'=>?_⟩,fun _ _=>rfl⟩
    obtain ⟨k1,k2⟩:=hv v (by omega) hv'
    have g3:=g v (by omega) (by omega) k1 (vB v hv').1
    rw [(vB v hv').2,k2,hx] at g3
    exact Rat.not_lt.1 g3
end
def cT:Nat→Nat→Nat→List (List Int)
 | 0,_,_=>[[]]
 | n+1,f,t=>(List.range' f (t-n-f)).flatMap fun i:Nat=>(cT n (i+1) t).map fun l=>(i:Int) :: l
theorem lN:∀ (n f t:Nat),(cT n f t).length≤t ^ n
 | 0,f,t=>by rw [Nat.pow_zero];exact Nat.le_refl 1
 | n+1,f,t=>by
  unfold cT
  have h:=om (g:=fun i:Nat=>(cT n (i+1) t).map fun l=>(i:Int) :: l) (k:=t ^ n) (fun i=>by rw [List.length_map];exact lN n (i+1) t) (List.range' f (t-n-f))
  rw [List.length_range'] at h
  refine Nat.le_trans h ?_
  rw [Nat.pow_succ,Nat.mul_comm]
  exact Nat.mul_le_mul_left _ (by omega)
theorem jT:∀ {n f t:Nat} {l:List Int},l∈cT n f t→l.length=n∧∀ v∈l,(f:Int)≤v∧v<t
 | 0,f,t,l,h=>by
  rw [List.mem_singleton.1 h];exact ⟨rfl,by simp⟩
 | n+1,f,t,l,h=>by
  unfold cT at h
  obtain ⟨i,hi,h⟩:=List.mem_flatMap.1 h
  obtain ⟨s,hs,rfl⟩:=List.mem_map.1 h
  obtain ⟨h1,h2⟩:=jT hs
  rw [List.mem_range'_1] at hi
  refine ⟨by rw [List.length_cons,h1],fun v hv=>?_⟩
  rcases List.mem_cons.1 hv with rfl | hv
  ·omega
  ·have:=h2 v hv;omega
theorem qv:∀ {n f t:Nat} {l:List Nat},l.length=n→l.Pairwise (·<·)→(∀ v∈l,f≤v∧v<t)→l.map (fun v:Nat=>(v:Int))∈cT n f t
 | 0,f,t,l,h,_,_=>by
  rw [List.length_eq_zero_iff.1 h];exact List.mem_singleton.2 rfl
 | n+1,f,t,[],h,_,_=>by simp at h
 | n+1,f,t,i :: l,h,hp,hb=>by
  obtain ⟨p1,p2⟩:=List.pairwise_cons.1 hp
  have hl:l.length=n:=by simpa using h
  have hi:=hb i List.mem_cons_self
  have room:∀ (k a:Nat) (s:List Nat),s.length=k→s.Pairwise (·<·)→(∀ v∈s,a<v∧v<t)→a<t→a+k<t:=by
   intro k
   induction k with
   | zero=>intro a s _ _ _ h;omega
   | succ k ih =>
    intro a s hs hp2 hb2 hat
    cases s with
    | nil=>simp at hs
    | cons b s =>
     obtain ⟨q1,q2⟩:=List.pairwise_cons.1 hp2
     have hb3:=hb2 b List.mem_cons_self
     have:=ih b s (by simpa using hs) q2 (fun v hv=>⟨q1 v hv,(hb2 v (List.mem_cons_of_mem _ hv)).2⟩) hb3.2
     omega
  have hr:=room n i l hl p2 (fun v hv=>⟨p1 v hv,(hb v (List.mem_cons_of_mem _ hv)).2⟩) hi.2
  unfold cT
  refine List.mem_flatMap.2 ⟨i,List.mem_range'_1.2 ⟨hi.1,by omega⟩,?_⟩
  rw [List.map_cons]
  exact List.mem_map.2 ⟨_,qv hl p2 (fun v hv=>⟨p1 v hv,(hb v (List.mem_cons_of_mem _ hv)).2⟩),rfl⟩
theorem wO {rec:Int→Int→Int→Option (List (List Int))} {N:Nat} {t n i:Int} {acc rest:List (List Int)} (hN:rest.length<N) (hr:rest.length≤100000) (ha:acc.length≤1000000) (hl:∀ l∈rest,l.length≤1000) :
  dU rec N N t n acc i rest 0=some (acc++rest.map (fun l=>i :: l),(rest.length:Int)):=by
 have h:=hG (fun k (o:List (List Int)) j=>dU rec N k t n o i rest j) rest.length (fun j=>acc++(rest.take j).map fun l=>i :: l) (acc++rest.map (fun l=>i :: l),(rest.length:Int))
  (fun k j h=>by
   have hm:=hl _ (List.getElem_mem h)
   show dU rec N (k+1) t n (acc++(rest.take j).map fun l=>i :: l) i rest (j:Int)=dU rec N k t n (acc++(rest.take (j+1)).map fun l=>i :: l) i rest ((j+1:Nat):Int)
   rw [dU,dlt h,cond_true,aZ h,bs,bm (by decide) (by rw [List.length_singleton];omega),bs,bm (by decide) (by rw [List.length_append,List.length_map,List.length_take,List.length_singleton];omega),bs,ad1 (by omega),bs,List.take_succ_eq_append_getElem h,List.map_append,List.append_assoc]
   rfl)
  (fun k=>by
   show dU rec N (k+1) t n (acc++(rest.take rest.length).map fun l=>i :: l) i rest (rest.length:Int)=_
   rw [dU,dge (by omega),cond_false,List.take_length]) N 0 (by omega) (by omega)
 rw [List.take_zero,List.map_nil,List.append_nil] at h
 exact h
theorem td {t n:Nat} (ht:t≤9) (hn:n≤4):t ^ n≤6561 :=
 Nat.le_trans (Nat.pow_le_pow_left ht n) (Nat.le_trans (Nat.pow_le_pow_right (by decide) hn) (by decide))
theorem mQ:∀ (n M f t:Nat),n≤4→t≤9→f≤10→10000+n<M→dw M (f:Int) (t:Int) (n:Int)=some (cT n f t)
 | 0,M,f,t,_,_,_,hM=>by
  obtain ⟨M,rfl⟩:∃ k,M=k+1:=⟨M-1,by omega⟩
  rw [dw,show (((0:Nat):Int) == 0)=true from rfl,cond_true];rfl
 | n+1,M,f,t,hn,ht,hf,hM=>by
  obtain ⟨M,rfl⟩:∃ k,M=k+1:=⟨M-1,by omega⟩
  rw [dw,show (((n+1:Nat):Int) == 0)=false by rw [beq_eq_false_iff_ne];omega,cond_false]
  have key:∀ (d i fuel:Nat) (acc:List (List Int)),t-n-i=d→d<fuel→i≤10→acc.length+d*6561≤1000000 →
    ∃ z,gq (dw M) M fuel (t:Int) ((n+1:Nat):Int) acc (i:Int)=some (acc++(List.range' i d).flatMap (fun i:Nat=>(cT n (i+1) t).map fun l=>(i:Int) :: l),z):=by
   intro d
   induction d with
   | zero =>
    intro i fuel acc hd hfu hi ha
    obtain ⟨fuel,rfl⟩:∃ k,fuel=k+1:=⟨fuel-1,by omega⟩
    rw [gq,bo (by omega) (by omega),bs,decide_eq_false (by omega),cond_false]
    refine ⟨(i:Int),?_⟩
    rw [List.range'_zero,List.flatMap_nil,List.append_nil]
   | succ d ih =>
    intro i fuel acc hd hfu hi ha
    obtain ⟨fuel,rfl⟩:∃ k,fuel=k+1:=⟨fuel-1,by omega⟩
    have hlen:=Nat.le_trans (lN n (i+1) t) (td (n:=n) ht (by omega))
    have e1:dw M ((i:Int)+1) (t:Int) ((n+1:Nat)-1:Int)=some (cT n (i+1) t):=by
     have h:=mQ n M (i+1) t (by omega) ht (by omega) (by omega)
     rw [show ((i:Int)+1)=((i+1:Nat):Int) by omega,show (((n+1:Nat):Int)-1)=(n:Int) by omega]
     exact h
    rw [gq,bo (by omega) (by omega),bs,decide_eq_true (by omega),cond_true,bo (by omega) (by omega),bs,eS (by omega) (by omega),bs,e1,bs,wO (by omega) (by omega) (by omega) (fun l hl=>by have:=(jT hl).1;omega),bs,lpB]
    dsimp only
    rw [bs]
    obtain ⟨z,h⟩:=ih (i+1) fuel (acc++(cT n (i+1) t).map fun l=>(i:Int) :: l) (by omega) (by omega) (by omega) (by rw [List.length_append,List.length_map];omega)
    refine ⟨z,?_⟩
    rw [List.range'_succ,List.flatMap_cons,← List.append_assoc]
    exact h
  obtain ⟨z,h⟩:=key (t-n-f) f M [] rfl (by omega) hf (by rw [List.length_nil];omega)
  rw [h,bs,lpB,List.nil_append]
  rfl
def dx (n i:Nat):aW:=(List.replicate n (0,1)).set i (1,1)
def fW (A:bh) (m n:Nat) (j:Nat):aW:=if j<m then ba A j else dx n (j-m)
def hO (m:Nat) (j:Nat):cj:=if j<m then (1,1) else (0,1)
def ik (l:List Int):List Nat:=l.map Int.toNat
def dG (A:bh) (m n:Nat) (l:List Int):bh:=(ik l).map (fW A m n)
def du (m:Nat) (l:List Int):aW:=(ik l).map (hO m)
section
variable {N:Nat}
theorem yG (hN:1073741824≤N) {n:Nat} (hn:n≤1000) {sg m i k j:Int} {A a out:bh} {B C b:aW} {l:List (List Int)} :
  bX N N sg A B C out (n:Int) m l i a b k j [] 0=some (List.replicate n (0,1),(n:Int)) :=
 hG (fun q (o:aW) v=>bX N q sg A B C out (n:Int) m l i a b k j o v) n (fun v=>List.replicate v (0,1)) (List.replicate n (0,1),(n:Int))
  (fun q v h=>by
   show bX N (q+1) sg A B C out (n:Int) m l i a b k j (List.replicate v (0,1)) (v:Int)=bX N q sg A B C out (n:Int) m l i a b k j (List.replicate (v+1) (0,1)) ((v+1:Nat):Int)
   rw [bX,dlt h,cond_true,bm (by decide) (by rw [List.length_replicate,List.length_singleton];omega),bs,ad1 (by omega),bs,List.replicate_succ'])
  (fun q=>by
   show bX N (q+1) sg A B C out (n:Int) m l i a b k j (List.replicate n (0,1)) (n:Int)=_
   rw [bX,dge (by omega),cond_false]) N 0 (by omega) (by omega)
theorem uE (hN:1073741824≤N) {n m:Nat} (hn:n≤4) (hm:m≤5) {sg:Int} {A out:bh} {C:aW} (hA:A.length=m) {L:List (List Int)} {i:Nat} (hi:i<L.length) (hl:L[i].length=n) (hb:∀ v∈L[i],0≤v∧v<(m+n:Nat)) :
  bQ N N sg A (aB m) C out (n:Int) (m:Int) L (i:Int) [] [] 0=some (dG A m n L[i],du m L[i],(n:Int)):=by
 have h:=hG (fun q (o:bh × aW) k=>bQ N q sg A (aB m) C out (n:Int) (m:Int) L (i:Int) o.1 o.2 k) n (fun k=>(dG A m n (L[i].take k),du m (L[i].take k))) (dG A m n L[i],du m L[i],(n:Int))
  (fun q k h=>by
   show bQ N (q+1) sg A (aB m) C out (n:Int) (m:Int) L (i:Int) (dG A m n (L[i].take k)) (du m (L[i].take k)) (k:Int)=bQ N q sg A (aB m) C out (n:Int) (m:Int) L (i:Int) (dG A m n (L[i].take (k+1))) (du m (L[i].take (k+1))) ((k+1:Nat):Int)
   have hk:k<L[i].length:=by omega
   have hv:=hb _ (List.getElem_mem hk)
   have l1:(dG A m n (L[i].take k)).length≤1000:=by unfold dG ik;rw [List.length_map,List.length_map,List.length_take];omega
   have l2:(du m (L[i].take k)).length≤1000:=by unfold du ik;rw [List.length_map,List.length_map,List.length_take];omega
   have eA:dG A m n (L[i].take (k+1))=dG A m n (L[i].take k)++[fW A m n L[i][k].toNat]:=by
    unfold dG ik
    rw [List.take_succ_eq_append_getElem hk,List.map_append,List.map_append];rfl
   have eB:du m (L[i].take (k+1))=du m (L[i].take k)++[hO m L[i][k].toNat]:=by
    unfold du ik
    rw [List.take_succ_eq_append_getElem hk,List.map_append,List.map_append];rfl
   rw [bQ,dlt h,cond_true,aZ hi,bs,aZ hk,bs,eA,eB]
   unfold fW hO
   obtain ⟨j,hj⟩:∃ j:Nat,L[i][k]=(j:Int):=⟨L[i][k].toNat,by omega⟩
   rw [hj] at hv ⊢
   rw [Int.toNat_natCast]
   by_cases hjm:j<m
   ·have ones:(aB m).length=m:=by unfold aB;simp
    rw [decide_eq_true (by omega),cond_true,if_pos hjm,if_pos hjm,ixM (by omega),bs,bm (by decide) (by rw [List.length_singleton];omega),bs,fV (by omega),bs,mH hjm,bm (by decide) (by rw [List.length_singleton];omega),bs,ad1 (by omega),bs]
   ·have hlr:j-m<(List.replicate n ((0:Int),(1:Int))).length:=by rw [List.length_replicate];omega
    rw [decide_eq_false (by omega),cond_false,if_neg hjm,if_neg hjm,yG hN (by omega),bs,lpB]
    dsimp only
    rw [eS (by omega) (by omega),bs,show ((j:Int)-(m:Int))=((j-m:Nat):Int) by omega,aZ hlr,bs,kQ hlr,bs,bm (by decide) (by rw [List.length_singleton];omega),bs,bm (by decide) (by rw [List.length_singleton];omega),bs,ad1 (by omega),bs]
    rfl)
  (fun q=>by
   show bQ N (q+1) sg A (aB m) C out (n:Int) (m:Int) L (i:Int) (dG A m n (L[i].take n)) (du m (L[i].take n)) (n:Int)=_
   rw [bQ,dge (by omega),cond_false,← hl,List.take_length]) N 0 (by omega) (by omega)
 exact h
theorem wg (hN:1073741824≤N) {a b:aW} (ha:a.length≤1000):∃ q,cE N a b=some q:=by
 unfold cE
 by_cases hl:a.length=b.length
 ·rw [show ((a.length:Int) != (b.length:Int))=false by rw [bne_eq_false_iff_eq];omega,cond_false]
  have key:∀ (c k fuel:Nat),k+c=a.length→c<fuel→∃ s,bB N fuel a b (k:Int)=some s:=by
   intro c
   induction c with
   | zero =>
    intro k fuel hk hf
    obtain ⟨fuel,rfl⟩:∃ k',fuel=k'+1:=⟨fuel-1,by omega⟩
    rw [bB,decide_eq_false (by omega),cond_false]
    exact ⟨_,rfl⟩
   | succ c ih =>
    intro k fuel hk hf
    obtain ⟨fuel,rfl⟩:∃ k',fuel=k'+1:=⟨fuel-1,by omega⟩
    rw [bB,decide_eq_true (by omega),cond_true,fV (by omega),bs,fV (by omega),bs]
    cases (av a k).1 == (av b k).1&&(av a k).2 == (av b k).2 with
    | true =>
     rw [cond_true,bo (by omega) (by omega),bs]
     exact ih (k+1) fuel (by omega) (by omega)
    | false=>rw [cond_false];exact ⟨_,rfl⟩
  obtain ⟨s,e⟩:=key a.length 0 N (by omega) (by omega)
  have e':bB N N a b 0=some s:=e
  rw [e',bs]
  cases s with
  | inl q=>rw [i4];exact ⟨_,rfl⟩
  | inr q=>rw [fI];exact ⟨_,rfl⟩
 ·rw [show ((a.length:Int) != (b.length:Int))=true by rw [bne_iff_ne];omega,cond_true]
  exact ⟨_,rfl⟩
theorem y6 (hN:1073741824≤N) {sg n m i:Int} {A:bh} {B C x:aW} {L:List (List Int)} {out:bh} (ho:out.length≤100000) (hl:∀ j,j<out.length→(ba out j).length≤1000):∀ (c k fuel:Nat) (b:Bool),k+c=out.length→c<fuel →
  ∃ b' z,bT N fuel sg A B C out n m L i x b (k:Int)=some (b',z)∧(out.length=0→b'=b):=by
 intro c
 induction c with
 | zero =>
  intro k fuel b hk hf
  obtain ⟨fuel,rfl⟩:∃ k',fuel=k'+1:=⟨fuel-1,by omega⟩
  rw [bT,decide_eq_false (by omega),cond_false]
  exact ⟨b,_,rfl,fun _=>rfl⟩
 | succ c ih =>
  intro k fuel b hk hf
  obtain ⟨fuel,rfl⟩:∃ k',fuel=k'+1:=⟨fuel-1,by omega⟩
  rw [bT,decide_eq_true (by omega),cond_true]
  cases b with
  | true =>
   rw [cond_true,bo (by omega) (by omega),bs]
   obtain ⟨b',z,e,_⟩:=ih (k+1) fuel true (by omega) (by omega)
   exact ⟨b',z,e,fun h=>by omega⟩
  | false =>
   obtain ⟨q,eq⟩:=wg hN (a:=ba out k) (b:=x) (hl k (by omega))
   rw [cond_false,ixM (by omega),bs,eq,bs,bo (by omega) (by omega),bs]
   obtain ⟨b',z,e,_⟩:=ih (k+1) fuel q (by omega) (by omega)
   exact ⟨b',z,e,fun h=>by omega⟩
def d9 (N n:Nat) (atoms:List aU) (x:aW):Prop:=FeasR N n atoms x∧∃ l∈cT atoms.length 0 (n+atoms.length),bq N (dG (aR n atoms) n atoms.length l) (du n l)=some (x,true)
theorem kP (n i:Nat):(dx n i).length=n:=by unfold dx;simp
theorem nT {n:Nat} {atoms:List aU} {l:List Int} (hl:l.length=atoms.length):Shp atoms.length atoms.length (dG (aR n atoms) n atoms.length l):=by
 refine ⟨by unfold dG ik;rw [List.length_map,List.length_map,hl],fun i hi=>?_⟩
 have e:ba (dG (aR n atoms) n atoms.length l) i=fW (aR n atoms) n atoms.length (l[i]'(by omega)).toNat:=by
  unfold ba dG ik
  simp [hl,hi]
 rw [e]
 unfold fW
 split
 ·rename_i h;exact kx.2 _ h
 ·exact kP _ _
theorem rx (hN:1073741824≤N) {n:Nat} {atoms:List aU} (n1:1≤n) (n5:n≤5) (a1:1≤atoms.length) (a4:atoms.length≤4) :
  ∃ P,bK N (aR n atoms) (aB n) (aB atoms.length)=some P∧P.length≤100000∧(∀ x∈P,d9 N n atoms x)∧((∃ x,d9 N n atoms x∧dA N (aR n atoms) (aB n) (aB atoms.length) x 1=some true)→P≠[]):=by
 have l1:(aB n).length=n:=by unfold aB;simp
 have l2:(aB atoms.length).length=atoms.length:=by unfold aB;simp
 have hPl:=Nat.le_trans (lN atoms.length 0 (n+atoms.length)) (td (by omega) a4)
 have ep:=mQ atoms.length N 0 (n+atoms.length) a4 (by omega) (by omega) (by omega)
 have hmem:=fun l (hl:l∈cT atoms.length 0 (n+atoms.length))=>jT hl
 have key:∀ (c i fuel:Nat) (out:bh),i+c=(cT atoms.length 0 (n+atoms.length)).length→c<fuel→out.length≤i→(∀ x∈out,d9 N n atoms x) →
   ∃ P z,bp N fuel 1 (aR n atoms) (aB n) (aB atoms.length) out (atoms.length:Int) (n:Int) (cT atoms.length 0 (n+atoms.length)) (i:Int)=some (P,z)∧P.length≤100000∧(∀ x∈P,d9 N n atoms x)∧(out≠[]→P≠[]) ∧
    ∀ j (hj:j<(cT atoms.length 0 (n+atoms.length)).length),i≤j→(∃ x,bq N (dG (aR n atoms) n atoms.length (cT atoms.length 0 (n+atoms.length))[j]) (du n (cT atoms.length 0 (n+atoms.length))[j])=some (x,true)∧dA N (aR n atoms) (aB n) (aB atoms.length) x 1=some true)→P≠[]:=by
  intro c
  induction c with
  | zero =>
   intro i fuel out hi hf hol hop
   obtain ⟨fuel,rfl⟩:∃ k',fuel=k'+1:=⟨fuel-1,by omega⟩
   rw [bp,decide_eq_false (by omega),cond_false]
   exact ⟨out,_,rfl,by omega,hop,id,fun j hj h=>by omega⟩
  | succ c ih =>
   intro i fuel out hi hf hol hop
   obtain ⟨fuel,rfl⟩:∃ k',fuel=k'+1:=⟨fuel-1,by omega⟩
   have hiL:i<(cT atoms.length 0 (n+atoms.length)).length:=by omega
   obtain ⟨m1,m2⟩:=hmem _ (List.getElem_mem hiL)
   have hsh:=nT (n:=n) (atoms:=atoms) m1
   have hbl:(du n (cT atoms.length 0 (n+atoms.length))[i]).length=atoms.length:=by unfold du ik;rw [List.length_map,List.length_map,m1]
   obtain ⟨x,ok,es,hsol⟩:=lj hN (n:=atoms.length) (by omega) hsh hbl
   rw [bp,decide_eq_true (by omega),cond_true,uE hN a4 n5 cq hiL m1 (fun v hv=>by have:=m2 v hv;omega),bs,lpB]
   dsimp only
   rw [es,bs]
   dsimp only
   cases ok with
   | false =>
    rw [cond_false,bo (by omega) (by omega),bs]
    obtain ⟨P,z,e,g1,g2,g3,g4⟩:=ih (i+1) fuel out (by omega) (by omega) (by omega) hop
    refine ⟨P,z,e,g1,g2,g3,fun j hj hij hx=>?_⟩
    by_cases e:j=i
    ·subst e
     obtain ⟨x',e',_⟩:=hx
     rw [es] at e';cases e'
    ·exact g4 j hj (by omega) hx
   | true =>
    have hxl:=(hsol rfl).1
    obtain ⟨b,eb,hb,_⟩:=sN hN n1 n5 a1 a4 (x:=x) hxl
    rw [cond_true,eb,bs]
    cases b with
    | false =>
     rw [cond_false,bo (by omega) (by omega),bs]
     obtain ⟨P,z,e,g1,g2,g3,g4⟩:=ih (i+1) fuel out (by omega) (by omega) (by omega) hop
     refine ⟨P,z,e,g1,g2,g3,fun j hj hij hx=>?_⟩
     by_cases e:j=i
     ·subst e
      obtain ⟨x',e',e2⟩:=hx
      rw [es] at e'
      obtain rfl:x=x':=congrArg Prod.fst (Option.some.inj e')
      rw [eb] at e2;cases e2
     ·exact g4 j hj (by omega) hx
    | true =>
     have hpx:d9 N n atoms x:=⟨hb rfl,_,List.getElem_mem hiL,es⟩
     obtain ⟨k,z,ek,hk⟩:=y6 hN (sg:=1) (n:=(atoms.length:Int)) (m:=(n:Int)) (i:=(i:Int)) (A:=aR n atoms) (B:=aB n) (C:=aB atoms.length) (x:=x) (L:=cT atoms.length 0 (n+atoms.length)) (out:=out) (by omega) (fun j hj=>by
      have hm:ba out j∈out:=by unfold ba;simp [hj]
      have:=(hop _ hm).1.len
      omega) out.length 0 N false (by omega) (by omega)
     have ek':bT N N 1 (aR n atoms) (aB n) (aB atoms.length) out (atoms.length:Int) (n:Int) (cT atoms.length 0 (n+atoms.length)) (i:Int) x false 0=some (k,z):=ek
     rw [cond_true,ek',bs,lpB]
     dsimp only
     cases k with
     | true =>
      rw [cond_true,bo (by omega) (by omega),bs]
      obtain ⟨P,z,e,g1,g2,g3,g4⟩:=ih (i+1) fuel out (by omega) (by omega) (by omega) hop
      have hne:out≠[]:=fun h0=>by
       rw [h0] at hk
       exact absurd (hk rfl) (by decide)
      exact ⟨P,z,e,g1,g2,g3,fun _ _ _ _=>g3 hne⟩
     | false =>
      rw [cond_false,bm (by decide) (by rw [List.length_singleton];omega),bs,bo (by omega) (by omega),bs]
      obtain ⟨P,z,e,g1,g2,g3,g4⟩:=ih (i+1) fuel (out++[x]) (by omega) (by omega) (by rw [List.length_append,List.length_singleton];omega) (fun y hy=>by
       rcases List.mem_append.1 hy with h | h
       ·exact hop y h
       ·rw [List.mem_singleton.1 h];exact hpx)
      exact ⟨P,z,e,g1,g2,fun _=>g3 (by simp),fun _ _ _ _=>g3 (by simp)⟩
 obtain ⟨P,z,e,g1,g2,_,g4⟩:=key (cT atoms.length 0 (n+atoms.length)).length 0 N [] (by omega) (by omega) (Nat.zero_le _) (by simp)
 have e':bp N N 1 (aR n atoms) (aB n) (aB atoms.length) [] (atoms.length:Int) (n:Int) (cT atoms.length 0 (n+atoms.length)) 0=some (P,z):=e
 have ep':dw N 0 ((n:Int)+(atoms.length:Int)) (atoms.length:Int)=some (cT atoms.length 0 (n+atoms.length)):=by
  rw [show ((n:Int)+(atoms.length:Int))=((n+atoms.length:Nat):Int) by omega]
  exact ep
 refine ⟨P,?_,g1,g2,?_⟩
 ·unfold bK gQ
  rw [pG hN n1 n5 a1 a4,bs,cond_true,l1,l2,bo (by omega) (by omega),bs,ep',bs,e',bs,lpB,bs]
 ·rintro ⟨x,⟨_,l,hl,hs⟩,hside⟩
  obtain ⟨j,hj,rfl⟩:=List.getElem_of_mem hl
  exact g4 j hj (Nat.zero_le _) ⟨x,hs,hside⟩
end
section
variable {N:Nat}
theorem vu (hN:1073741824≤N) {a b K:Int} (hK:K=1∨K=2∨K=3) (ha:a=1∨a=K) (hb:b=1∨b=K):∃ g,d7 N a b=some g∧∃ q,qt a g=some q∧ml q b=some (if b=1 then a else K):=by
 obtain ⟨g,e,g1,g2,g3,g4⟩:=lZ (N:=N) hN (x:=a) (y:=b) (by omega) (by omega) (by omega)
 have gp:=g3 (.inl (by omega))
 refine ⟨g,e,?_⟩
 have l1:=Int.le_of_dvd (by omega) g1
 have l2:=Int.le_of_dvd (by omega) g2
 by_cases h1:a=1
 ·obtain rfl:g=1:=by omega
  refine ⟨a,by rw [h1];rfl,?_⟩
  rw [dL (by rw [h1];omega) (by rw [h1];omega),h1,Int.one_mul]
  split
  ·rename_i h;rw [h]
  ·rcases hb with h | h
   ·contradiction
   ·rw [h]
 ·by_cases h2:b=1
  ·obtain rfl:g=1:=by omega
   refine ⟨a,?_,?_⟩
   ·rcases hK with h | h | h <;> rcases ha with h3 | h3 <;> first | (exact absurd h3 h1) | (rw [h3,h];rfl)
   ·rw [if_pos h2,h2,dL (by omega) (by omega),Int.mul_one]
  ·have ea:a=K:=by omega
   have eb:b=K:=by omega
   have l3:=Int.le_of_dvd gp (g4 K (by rw [ea];exact Int.dvd_refl K) (by rw [eb];exact Int.dvd_refl K))
   obtain rfl:g=K:=by omega
   refine ⟨1,?_,?_⟩
   ·rcases hK with h | h | h <;> rw [ea,h] <;> rfl
   ·rw [if_neg h2,eb,dL (by omega) (by omega),Int.one_mul]
structure DenOk (N:Nat) (K:Int) (x:aW):Prop where
 hK:K=1∨K=2∨K=3
 len:x.length≤4
 ok:∀ j,j<x.length→VR N (av x j)∧0≤(av x j).1
 den:∀ j,j<x.length→(av x j).2=1∨(av x j).2=K
theorem DenOk.w (hN:1073741824≤N) {K:Int} {x:aW} (h:DenOk N K x):∀ i,i<x.length→wOk N (x.getD i (0,0))=true:=fun i hi=>by
 obtain ⟨h1,h2⟩:=h.ok i hi
 unfold VR at h1
 rw [lx] at h1
 unfold wOk
 have e:x.getD i (0,0)=av x i:=rfl
 rw [e,h1,decide_eq_true h2];rfl
theorem wK (hN:1073741824≤N) {K:Int} {x:aW} (h:DenOk N K x):∀ (c k fuel:Nat) (d:Int),k+c=x.length→c<fuel→(d=1∨d=K) →
  ∃ d' z,bM N fuel x d (k:Int)=some (.inr (d',z))∧(d'=1∨d'=K)∧(d=K→d'=K)∧∀ j,k≤j→j<x.length→(av x j).2=1∨(av x j).2=d':=by
 intro c
 induction c with
 | zero =>
  intro k fuel d hk hf hd
  obtain ⟨fuel,rfl⟩:∃ k',fuel=k'+1:=⟨fuel-1,by omega⟩
  rw [bM,decide_eq_false (by omega),cond_false]
  exact ⟨d,_,rfl,hd,id,fun j h1 h2=>by omega⟩
 | succ c ih =>
  intro k fuel d hk hf hd
  obtain ⟨fuel,rfl⟩:∃ k',fuel=k'+1:=⟨fuel-1,by omega⟩
  have hx4:=h.len
  have hKK:=h.hK
  obtain ⟨h1,h2⟩:=h.ok k (by omega)
  have h3:=h.den k (by omega)
  obtain ⟨g,eg,q,eq,em⟩:=vu hN hKK hd h3
  unfold VR at h1
  rw [bM,decide_eq_true (by omega),cond_true,fV (by omega),bs,h1,bs,cond_true,bs,decide_eq_false (by omega),cond_false,bs,eg,bs,eq,bs,bs,em,bs]
  have hd2:(if (av x k).2=1 then d else K)=1∨(if (av x k).2=1 then d else K)=K:=by
   split
   ·exact hd
   ·exact .inr rfl
  have hle:¬ (1000<(if (av x k).2=1 then d else K)):=by rcases hd2 with h | h <;> rw [h] <;> omega
  rw [decide_eq_false hle,cond_false,bo (by omega) (by omega),bs]
  obtain ⟨d',z,e,g1,g2,g3⟩:=ih (k+1) fuel _ (by omega) (by omega) hd2
  refine ⟨d',z,e,g1,fun hdK=>g2 (by rw [hdK];split <;> rfl),fun j hj hjl=>?_⟩
  by_cases ej:j=k
  ·subst ej
   by_cases h5:(av x j).2=1
   ·exact .inl h5
   ·refine .inr ?_
    rw [g2 (by rw [if_neg h5])]
    rcases h3 with h | h
    ·contradiction
    ·exact h
  ·exact g3 j (by omega) hjl
theorem xE (hN:1073741824≤N) {K:Int} {x:aW} (h:DenOk N K x):∃ d:Int,(d=1∨d=K)∧bV N x=some (gD x d x.length,d)∧∀ j,j<x.length→∃ v:Int,(gD x d x.length).getD j 0=v∧0≤v∧(v:Rat)=(d:Rat)*rv (av x j):=by
 obtain ⟨d,z,e,h1,_,h2⟩:=wK hN h x.length 0 N 1 (by omega) (by have:=h.len;omega) (.inl rfl)
 have hKK:=h.hK
 have hx4:=h.len
 have e':bM N N x 1 0=some (.inr (d,z)):=e
 refine ⟨d,h1,?_,fun j hj=>?_⟩
 ·unfold bV
  rw [e',bs,fI]
  dsimp only
  rw [qC hN (by omega) (h.w hN) (by omega) (by omega),bs,lpB]
 ·have hj2:=h2 j (by omega) hj
  obtain ⟨g1,g2⟩:=h.ok j hj
  have ev:(gD x d x.length).getD j 0=(av x j).1*d.tdiv (av x j).2:=by
   unfold gD av
   simp [hj]
  refine ⟨_,ev,?_,?_⟩
  ·refine Int.mul_nonneg g2 (Int.tdiv_nonneg (by omega) (by omega))
  ·have hq:=jk hN g1
   have key:(d.tdiv (av x j).2)*(av x j).2=d:=by
    rcases hj2 with h | h
    ·rw [h,Int.tdiv_one,Int.mul_one]
    ·rw [h,Int.tdiv_self (by omega),Int.one_mul]
   have kR:((d.tdiv (av x j).2:Int):Rat)*((av x j).2:Rat)=(d:Rat):=by
    rw [← Rat.intCast_mul,key]
   rw [Rat.intCast_mul]
   unfold rv
   rw [← kR]
   grind
end
abbrev Q4:=(Int × Int × Int × Int) × Int
abbrev V4:=Int × Int × Int × Int
def lnI (e:V4) (y:V4):Int:=e.1*y.1+e.2.1*y.2.1+e.2.2.1*y.2.2.1+e.2.2.2*y.2.2.2
def mE:List Q4:=[((1,0,0,0),1),((0,1,0,0),1),((1,1,0,0),1),((0,0,1,0),1),((1,0,1,0),1),((0,1,1,0),1),((1,1,1,0),1),((0,0,0,1),1),((1,0,0,1),1),((0,1,0,1),1),((1,1,0,1),1),((0,0,1,1),1),((1,0,1,1),1),((0,1,1,1),1),((1,1,1,1),1),((1,0,0,0),0),((0,1,0,0),0),((0,0,1,0),0),((0,0,0,1),0)]
def yK:List V4:=[(0,0,0,(-1)),(0,0,(-1),0),(0,(-1),0,0),((-1),0,0,0),((-1),0,0,1),((-1),0,1,0),(0,(-1),0,1),(0,0,(-1),1),(0,(-1),1,0),((-1),1,0,0),((-1),(-1),0,1),((-1),0,(-1),1),((-1),(-1),1,0),(0,(-1),(-1),1),((-1),0,1,(-1)),((-1),1,(-1),0),(0,(-1),1,(-1)),((-1),1,0,(-1)),((-1),0,1,1),((-1),1,0,1),(0,(-1),1,1),((-1),1,1,0),((-1),(-1),1,1),(0,0,(-1),(-1)),(0,(-1),0,(-1)),(0,(-1),(-1),0),((-1),0,0,(-1)),((-1),0,(-1),0),((-1),(-1),0,0),((-1),1,(-1),1),((-1),1,1,(-1)),((-1),(-1),(-1),1),((-1),(-1),1,(-1)),((-1),1,(-1),(-1)),(0,(-1),(-1),(-1)),((-1),0,(-1),(-1)),((-1),(-1),0,(-1)),((-1),(-1),(-1),0),((-1),(-1),(-1),(-1)),((-1),1,1,1),((-1),1,1,(-2)),((-1),1,(-1),2),((-1),1,(-2),1),((-1),1,2,(-1)),((-1),(-1),1,2),((-1),(-2),1,1),((-1),2,1,(-1)),((-2),(-1),1,1),((-2),1,(-1),1),((-1),(-1),2,1),((-1),2,(-1),1),((-2),1,1,(-1)),((-2),1,1,1),((-1),2,(-1),(-1)),((-1),(-1),2,(-1)),((-1),(-1),(-1),2)]
def d2 (a b c d:Int):Int:=a*d-b*c
def d3 (a b c d e f g h i:Int):Int:=a*d2 e f h i-b*d2 d f g i+c*d2 d e g h
def d4 (a b c d:V4):Int:=a.1*d3 b.2.1 b.2.2.1 b.2.2.2 c.2.1 c.2.2.1 c.2.2.2 d.2.1 d.2.2.1 d.2.2.2-a.2.1*d3 b.1 b.2.2.1 b.2.2.2 c.1 c.2.2.1 c.2.2.2 d.1 d.2.2.1 d.2.2.2+a.2.2.1*d3 b.1 b.2.1 b.2.2.2 c.1 c.2.1 c.2.2.2 d.1 d.2.1 d.2.2.2-a.2.2.2*d3 b.1 b.2.1 b.2.2.1 c.1 c.2.1 c.2.2.1 d.1 d.2.1 d.2.2.1
def cr (f:Q4→V4) (a b c d:Q4):Int:=d4 (f a) (f b) (f c) (f d)
def pC (a b c d:Q4):V4:=(cr (fun e=>(e.2,e.1.2)) a b c d,cr (fun e=>(e.1.1,e.2,e.1.2.2)) a b c d,cr (fun e=>(e.1.1,e.1.2.1,e.2,e.1.2.2.2)) a b c d,cr (fun e=>(e.1.1,e.1.2.1,e.1.2.2.1,e.2)) a b c d)
def wl (y:V4):Bool:=decide (y.1.natAbs≤3)&&decide (y.2.1.natAbs≤3)&&decide (y.2.2.1.natAbs≤3)&&decide (y.2.2.2.natAbs≤3)
def uZ:List Q4→Bool
 | [a,b,c,d]=>!(cr (fun e=>e.1) a b c d == 0)&&decide ((cr (fun e=>e.1) a b c d).natAbs≤3)&&wl (pC a b c d)&&[a,b,c,d].all fun e=>lnI e.1 (pC a b c d) == cr (fun e=>e.1) a b c d*e.2
 | _=>false
def uG (F:List Q4):Bool:=yK.any (fun k=>F.all fun e=>lnI e.1 k == 0)||uZ F
def nR {α:Type}:Nat→List α→List (List α)
 | _,[]=>[[]]
 | 0,_ :: _=>[[]]
 | k+1,a :: l=>(nR k l).map (a :: ·)++nR (k+1) l
theorem zN:(nR 4 mE).all uG=true:=by decide +kernel
theorem nm {α:Type}:∀ {l s:List α} {k:Nat},s.Sublist l→s.length≤k→s∈nR k l
 | [],s,k,h,_=>by
  rw [List.sublist_nil.1 h]
  cases k <;> exact List.mem_singleton.2 rfl
 | a :: l,s,0,_,hk=>by
  rw [List.length_eq_zero_iff.1 (Nat.le_zero.1 hk)]
  exact List.mem_singleton.2 rfl
 | a :: l,s,k+1,h,hk=>by
  unfold nR
  cases h with
  | cons _ h=>exact List.mem_append_right _ (nm h hk)
  | cons_cons _ h=>exact List.mem_append_left _ (List.mem_map.2 ⟨_,nm h (by simpa using hk),rfl⟩)
abbrev R4:=Rat × Rat × Rat × Rat
def lnR (e:V4) (y:R4):Rat:=e.1*y.1+e.2.1*y.2.1+e.2.2.1*y.2.2.1+e.2.2.2*y.2.2.2
def mq (y:V4):R4:=(y.1,y.2.1,y.2.2.1,y.2.2.2)
theorem rL (e y:V4):lnR e (mq y)=((lnI e y:Int):Rat):=by
 unfold lnR mq lnI
 simp only [Rat.intCast_add,Rat.intCast_mul]
def tk (x y:R4):R4:=(x.1+y.1,x.2.1+y.2.1,x.2.2.1+y.2.2.1,x.2.2.2+y.2.2.2)
def oH (c:Rat) (y:R4):R4:=(c*y.1,c*y.2.1,c*y.2.2.1,c*y.2.2.2)
theorem xy (e:V4) (x y:R4):lnR e (tk x y)=lnR e x+lnR e y:=by
 unfold lnR tk
 grind
theorem xK (e:V4) (c:Rat) (y:R4):lnR e (oH c y)=c*lnR e y:=by
 unfold lnR oH
 grind
theorem yi:∀ k∈yK,k≠(0,0,0,0):=by decide
theorem rH {E:List Q4} (hE:∀ e∈E,e∈mE) (hl:E.length≤4) {x:R4} (hx:∀ e∈E,lnR e.1 x=(e.2:Rat)) (hu:∀ y:R4,(∀ e∈E,lnR e.1 y=(e.2:Rat))→y=x) :
  ∃ D:Int,D≠0∧D.natAbs≤3∧∃ y:V4,oH D x=mq y∧wl y=true:=by
 have hF:mE.filter (fun e=>decide (e∈E))∈nR 4 mE:=by
  refine nm List.filter_sublist ?_
  refine Nat.le_trans (List.Nodup.length_le_of_subset ?_ ?_) hl
  ·exact List.Nodup.sublist List.filter_sublist (by decide)
  ·intro e he
   exact of_decide_eq_true (List.mem_filter.1 he).2
 have hFE:∀ e,e∈mE.filter (fun e=>decide (e∈E))↔e∈E:=by
  intro e
  rw [List.mem_filter,decide_eq_true_eq]
  exact ⟨fun h=>h.2,fun h=>⟨hE e h,h⟩⟩
 have hs:=List.all_eq_true.1 zN _ hF
 generalize mE.filter (fun e=>decide (e∈E))=F at hF hFE hs
 unfold uG at hs
 rw [Bool.or_eq_true] at hs
 rcases hs with hs | hs
 ·exfalso
  obtain ⟨k,hk,hs⟩:=List.any_eq_true.1 hs
  have h1:=hu (tk x (mq k)) (fun e he=>by
   have h2:=List.all_eq_true.1 hs e ((hFE e).2 he)
   rw [beq_iff_eq] at h2
   rw [xy,rL,h2,hx e he]
   exact Rat.add_zero _)
  have h3:∀ {a:Rat} {z:Int},a+(z:Rat)=a→z=0:=by
   intro a z h
   have h4:(z:Rat)=((0:Int):Rat):=by
    have e0:((0:Int):Rat)=0:=rfl
    rw [e0];grind
   exact Rat.intCast_inj.1 h4
  unfold tk mq at h1
  have e1:=congrArg Prod.fst h1
  have e2:=congrArg (fun p:R4=>p.2.1) h1
  have e3:=congrArg (fun p:R4=>p.2.2.1) h1
  have e4:=congrArg (fun p:R4=>p.2.2.2) h1
  refine yi k hk ?_
  obtain ⟨k1,k2,k3,k4⟩:=k
  rw [show k1=0 from h3 e1,show k2=0 from h3 e2,show k3=0 from h3 e3,show k4=0 from h3 e4]
 ·match F,hs,hFE with
  | [a,b,c,d],hs,hFE =>
   unfold uZ at hs
   rw [Bool.and_eq_true,Bool.and_eq_true,Bool.and_eq_true,decide_eq_true_eq] at hs
   obtain ⟨⟨⟨h1,h2⟩,ht⟩,h3⟩:=hs
   have hD:cr (fun e=>e.1) a b c d≠0:=by
    intro h
    rw [h] at h1
    exact absurd h1 (by decide)
   have h4:∀ e∈E,lnI e.1 (pC a b c d)=cr (fun e=>e.1) a b c d*e.2:=fun e he=>by
    have h5:=List.all_eq_true.1 h3 e ((hFE e).2 he)
    rw [beq_iff_eq] at h5
    exact h5
   generalize cr (fun e=>e.1) a b c d=D at hD h2 h4
   generalize pC a b c d=y at h4 ht
   refine ⟨D,hD,h2,y,?_,ht⟩
   have hDR:(D:Rat)≠0:=fun h=>hD (Rat.intCast_eq_zero_iff.1 h)
   have h6:=hu (oH (D:Rat)⁻¹ (mq y)) (fun e he=>by
    rw [xK,rL,h4 e he,Rat.intCast_mul,← Rat.mul_assoc,Rat.inv_mul_cancel _ hDR,Rat.one_mul])
   rw [← h6]
   unfold oH mq
   simp only [← Rat.mul_assoc,Rat.mul_inv_cancel _ hDR,Rat.one_mul]
def jn (y:R4):Nat→Rat
 | 0=>y.1
 | 1=>y.2.1
 | 2=>y.2.2.1
 | 3=>y.2.2.2
 | _=>0
def mk4 (g:Nat→Rat):R4:=(g 0,g 1,g 2,g 3)
theorem tX (g:Nat→Rat) {j:Nat} (h:j<4):jn (mk4 g) j=g j:=by
 match j,h with
 | 0,_=>rfl
 | 1,_=>rfl
 | 2,_=>rfl
 | 3,_=>rfl
theorem wr (y:R4):mk4 (jn y)=y:=rfl
theorem um {g h:Nat→Rat} (e:∀ j,j<4→g j=h j):mk4 g=mk4 h:=by
 unfold mk4
 rw [e 0 (by decide),e 1 (by decide),e 2 (by decide),e 3 (by decide)]
theorem zd {g:Nat→Rat}:∀ {n:Nat},n≤4→(∀ j,n≤j→j<4→g j=0)→cp 4 g=cp n g:=by
 intro n hn h
 match n,hn,h with
 | 4,_,_=>rfl
 | 3,_,h =>
  have h3:=h 3 (by decide) (by decide)
  show cp 3 g+g 3=_
  rw [h3];grind
 | 2,_,h =>
  have h3:=h 3 (by decide) (by decide)
  have h2:=h 2 (by decide) (by decide)
  show cp 2 g+g 2+g 3=_
  rw [h3,h2];grind
 | 1,_,h =>
  have h3:=h 3 (by decide) (by decide)
  have h2:=h 2 (by decide) (by decide)
  have h1:=h 1 (by decide) (by decide)
  show cp 1 g+g 1+g 2+g 3=_
  rw [h3,h2,h1];grind
 | 0,_,h =>
  have h3:=h 3 (by decide) (by decide)
  have h2:=h 2 (by decide) (by decide)
  have h1:=h 1 (by decide) (by decide)
  have h0:=h 0 (by decide) (by decide)
  show cp 0 g+g 0+g 1+g 2+g 3=_
  rw [h3,h2,h1,h0];grind
theorem qu {g:Nat→Rat}:∀ {n:Nat},(∀ j,j<n→g j=0)→cp n g=0
 | 0,_=>rfl
 | n+1,h=>by
  have h1:=qu (n:=n) fun j hj=>h j (by omega)
  have h2:=h n (by omega)
  unfold cp
  rw [h1,h2];grind
def j5 (r:aW) (b:Int):Q4:=(((av r 0).1,(av r 1).1,(av r 2).1,(av r 3).1),b)
theorem vd {r:cj} (h:jJ r):rv r=(r.1:Rat):=by
 rcases h with rfl | rfl
 ·exact iy 0
 ·exact iy 1
theorem s6 {r:aW} {na:Nat} (hl:r.length=na) (h4:na≤4) (hb:∀ j,j<na→jJ (av r j)) (b:Int) (y:R4):lnR (j5 r b).1 y=cp na (fun j=>rv (av r j)*jn y j):=by
 have h0:∀ j,na≤j→(av r j).1=0:=fun j hj=>by
  unfold av
  rw [List.getD_eq_getElem?_getD,List.getElem?_eq_none (by omega)];rfl
 have e1:cp na (fun j=>rv (av r j)*jn y j)=cp na (fun j=>((av r j).1:Rat)*jn y j):=d8 fun j hj=>by rw [vd (hb j hj)]
 rw [e1,← zd h4 fun j h1 h2=>by
  rw [h0 j h1]
  have:((0:Int):Rat)=0:=rfl
  rw [this];exact Rat.zero_mul _]
 show _=(0:Rat)+_*_+_*_+_*_+_*_
 unfold lnR j5 jn
 dsimp only
 grind
theorem qw {n j:Nat} (h:j<n):av (List.replicate n (0,1)) j=(0,1):=by
 unfold av;simp [h]
theorem rD (y:R4):∀ j,j<4→lnR (j5 (dx 4 j) 0).1 y=jn y j:=by
 intro j hj
 rw [s6 (kP 4 j) (Nat.le_refl 4) (fun i hi=>?_) 0 y]
 ·rw [ox hj fun i hi hij=>?_]
  ·have:av (dx 4 j) j=(1,1):=by unfold dx;rw [kL (by rw [List.length_replicate];exact hj),if_pos rfl]
   rw [this,iy]
   have e:((1:Int):Rat)=1:=rfl
   rw [e];grind
  ·have:av (dx 4 j) i=(0,1):=by
    unfold dx
    rw [kL (by rw [List.length_replicate];exact hj),if_neg hij]
    exact qw hi
   rw [this,iy]
   have e:((0:Int):Rat)=0:=rfl
   rw [e];exact Rat.zero_mul _
 ·unfold dx
  rw [kL (by rw [List.length_replicate];exact hj)]
  split
  ·exact .inr rfl
  ·exact .inl (qw hi)
theorem wS:∀ a∈([0,1]:List Int),∀ b∈([0,1]:List Int),∀ c∈([0,1]:List Int),∀ d∈([0,1]:List Int),(a=0∧b=0∧c=0∧d=0)∨((a,b,c,d),(1:Int))∈mE:=by decide
theorem sF:∀ na,na≤4→∀ i,i<na→j5 (dx na i) 0∈mE:=by
 intro na hna
 match na,hna with
 | 0,_=>intro i hi;exact absurd hi (Nat.not_lt_zero i)
 | 1,_=>intro i hi;match i,hi with
  | 0,_=>decide
 | 2,_=>intro i hi;match i,hi with
  | 0,_=>decide
  | 1,_=>decide
 | 3,_=>intro i hi;match i,hi with
  | 0,_=>decide
  | 1,_=>decide
  | 2,_=>decide
 | 4,_=>intro i hi;match i,hi with
  | 0,_=>decide
  | 1,_=>decide
  | 2,_=>decide
  | 3,_=>decide
theorem uN {n i j:Nat} (hi:i<n) (hj:j<n):jJ (av (dx n i) j):=by
 unfold dx
 rw [kL (by simpa using hi)]
 split
 ·exact .inr rfl
 ·refine .inl ?_
  unfold av;simp [hj]
section
variable {N:Nat}
theorem qr (hN:1073741824≤N) {n:Nat} {atoms:List aU} (n5:n≤5) (a1:1≤atoms.length) (a4:atoms.length≤4) {x:aW} (hp:d9 N n atoms x) :
  ∃ K:Int,DenOk N K x∧∀ j,j<x.length→(K:Rat)*rv (av x j)≤3:=by
 obtain ⟨F,l,hl,hs⟩:=hp
 obtain ⟨m1,m2⟩:=jT hl
 have hxl:=F.len
 have hsh:=nT (n:=n) (atoms:=atoms) m1
 have hbl:(du n l).length=atoms.length:=by unfold du ik;rw [List.length_map,List.length_map,m1]
 obtain ⟨x',ok,es,hsol⟩:=lj hN (n:=atoms.length) (by omega) hsh hbl
 rw [hs] at es
 obtain ⟨rfl,rfl⟩:x=x'∧true=ok:=by
  have:=Option.some.inj es
  exact ⟨congrArg Prod.fst this,congrArg Prod.snd this⟩
 obtain ⟨_,hv,hiff⟩:=hsol rfl
 have hrow:∀ i (hi:i<atoms.length),ba (dG (aR n atoms) n atoms.length l) i=fW (aR n atoms) n atoms.length (l[i]'(by omega)).toNat∧av (du n l) i=hO n (l[i]'(by omega)).toNat:=fun i hi=>by
  constructor
  ·unfold ba dG ik
   simp [m1,hi]
  ·unfold av du ik
   simp [m1,hi]
 -- the rows are bits
 have hrb:∀ k:Nat,k<n+atoms.length→(fW (aR n atoms) n atoms.length k).length=atoms.length∧∀ j,j<atoms.length→jJ (av (fW (aR n atoms) n atoms.length k) j):=fun k hk=>by
  unfold fW
  split
  ·rename_i h
   refine ⟨kx.2 k h,fun j hj=>?_⟩
   have:av (ba (aR n atoms) k) j=cell (aR n atoms) k j:=rfl
   rw [this,iD h hj]
   exact j6 _ _
  ·exact ⟨kP _ _,fun j hj=>uN (by omega) hj⟩
 have hlt:∀ i (hi:i<atoms.length),(l[i]'(by omega)).toNat<n+atoms.length:=fun i hi=>by
  have:=m2 _ (List.getElem_mem (show i<l.length by omega))
  omega
 let E:List Q4:=(List.range' 0 atoms.length).map (fun i=>j5 (fW (aR n atoms) n atoms.length (l.getD i 0).toNat) (hO n (l.getD i 0).toNat).1)++(List.range' atoms.length (4-atoms.length)).map (fun j=>j5 (dx 4 j) 0)
 have hgd:∀ i (hi:i<atoms.length),l.getD i 0=l[i]'(by omega):=fun i hi=>by simp [m1,hi]
 have memE:∀ e,e∈E→(∃ i,∃ hi:i<atoms.length,e=j5 (ba (dG (aR n atoms) n atoms.length l) i) (av (du n l) i).1)∨∃ j,atoms.length≤j∧j<4∧e=j5 (dx 4 j) 0:=fun e he=>by
  rcases List.mem_append.1 he with h | h
  ·obtain ⟨i,hi,rfl⟩:=List.mem_map.1 h
   have hi:i<atoms.length:=by simpa using hi
   refine .inl ⟨i,hi,?_⟩
   rw [(hrow i hi).1,(hrow i hi).2,hgd i hi]
  ·obtain ⟨j,hj,rfl⟩:=List.mem_map.1 h
   rw [List.mem_range'_1] at hj
   exact .inr ⟨j,hj.1,by omega,rfl⟩
 have inE1:∀ i,i<atoms.length→j5 (ba (dG (aR n atoms) n atoms.length l) i) (av (du n l) i).1∈E:=fun i hi=>by
  refine List.mem_append_left _ (List.mem_map.2 ⟨i,by simpa using hi,?_⟩)
  rw [(hrow i hi).1,(hrow i hi).2,hgd i hi]
 have inE2:∀ j,atoms.length≤j→j<4→j5 (dx 4 j) 0∈E:=fun j h1 h2 =>
  List.mem_append_right _ (List.mem_map.2 ⟨j,List.mem_range'_1.2 ⟨h1,by omega⟩,rfl⟩)
 have hrl:∀ i (hi:i<atoms.length) (b:Int) (y:R4),lnR (j5 (ba (dG (aR n atoms) n atoms.length l) i) b).1 y=cp atoms.length (fun j=>cv (dG (aR n atoms) n atoms.length l) i j*jn y j):=fun i hi b y=>by
  obtain ⟨k1,k2⟩:=hrb _ (hlt i hi)
  rw [(hrow i hi).1,s6 k1 a4 k2]
  refine d8 fun j hj=>?_
  unfold cv cell
  rw [(hrow i hi).1]
 have hrhs:∀ i (hi:i<atoms.length),rv (av (du n l) i)=((av (du n l) i).1:Rat):=fun i hi=>by
  rw [(hrow i hi).2]
  refine vd ?_
  unfold hO
  split
  ·exact .inr rfl
  ·exact .inl rfl
 have hE:∀ e∈E,e∈mE:=fun e he=>by
  rcases memE e he with ⟨i,hi,rfl⟩ | ⟨j,h1,h2,rfl⟩
  ·obtain ⟨k1,k2⟩:=hrb _ (hlt i hi)
   rw [(hrow i hi).1,(hrow i hi).2]
   by_cases hn:(l[i]'(by omega)).toNat<n
   ·have er:fW (aR n atoms) n atoms.length (l[i]'(by omega)).toNat=ba (aR n atoms) (l[i]'(by omega)).toNat:=by unfold fW;rw [if_pos hn]
    have eb:hO n (l[i]'(by omega)).toNat=(1,1):=by unfold hO;rw [if_pos hn]
    rw [eb]
    have hz:=F.ge _ hn
    rw [er] at k1 k2 ⊢
    have hbit:∀ j,(av (ba (aR n atoms) (l[i]'(by omega)).toNat) j).1∈([0,1]:List Int):=fun j=>by
     by_cases hj:j<atoms.length
     ·rcases k2 j hj with h | h <;> rw [h] <;> decide
     ·have:(av (ba (aR n atoms) (l[i]'(by omega)).toNat) j).1=0:=by
       unfold av
       rw [List.getD_eq_getElem?_getD,List.getElem?_eq_none (by omega)];rfl
      rw [this];decide
    rcases wS _ (hbit 0) _ (hbit 1) _ (hbit 2) _ (hbit 3) with ⟨z0,z1,z2,z3⟩ | h
    ·exfalso
     have hall:∀ j,j<atoms.length→cv (aR n atoms) (l[i]'(by omega)).toNat j=0:=fun j hj=>by
      have hzj:(av (ba (aR n atoms) (l[i]'(by omega)).toNat) j).1=0:=by
       match j,(show j<4 by omega) with
       | 0,_=>exact z0
       | 1,_=>exact z1
       | 2,_=>exact z2
       | 3,_=>exact z3
      exact sy hzj
     rw [qu fun j hj=>by rw [hall j hj];exact Rat.zero_mul _] at hz
     exact absurd hz (by decide)
    ·exact h
   ·have er:fW (aR n atoms) n atoms.length (l[i]'(by omega)).toNat=dx atoms.length ((l[i]'(by omega)).toNat-n):=by unfold fW;rw [if_neg hn]
    have eb:hO n (l[i]'(by omega)).toNat=(0,1):=by unfold hO;rw [if_neg hn]
    rw [er,eb]
    exact sF _ a4 _ (by have:=hlt i hi;omega)
  ·exact sF 4 (Nat.le_refl 4) j h2
 have hEl:E.length≤4:=by
  show (List.map _ _++List.map _ _).length≤4
  rw [List.length_append,List.length_map,List.length_map,List.length_range',List.length_range']
  omega
 have hx4:∀ j,j<4→jn (mk4 fun j=>if j<atoms.length then rv (av x j) else 0) j=if j<atoms.length then rv (av x j) else 0:=fun j hj=>tX _ hj
 have hself:=(hiff fun j=>rv (av x j)).2 fun j _=>rfl
 obtain ⟨D,D0,D3,y,hy,ht⟩:=rH hE hEl (x:=mk4 fun j=>if j<atoms.length then rv (av x j) else 0) (fun e he=>by
  rcases memE e he with ⟨i,hi,rfl⟩ | ⟨j,h1,h2,rfl⟩
  ·rw [hrl i hi]
   show _=(((av (du n l) i).1:Int):Rat)
   rw [← hrhs i hi,← hself i hi]
   refine d8 fun j hj=>?_
   rw [hx4 j (by omega),if_pos hj]
  ·rw [rD _ j h2,hx4 j h2,if_neg (by omega)]
   rfl) (fun z hz=>by
  have h1:=(hiff (jn z)).1 fun i hi=>by
   have h2:=hz _ (inE1 i hi)
   rw [hrl i hi] at h2
   rw [hrhs i hi]
   exact h2
  rw [← wr z]
  refine um fun j hj=>?_
  by_cases hja:j<atoms.length
  ·rw [if_pos hja];exact h1 j hja
  ·rw [if_neg hja]
   have h3:=hz _ (inE2 j (by omega) hj)
   rw [rD _ j hj] at h3
   exact h3)
 have hcomp:∀ j,j<x.length→∃ w:Int,w.natAbs≤3∧(D:Rat)*rv (av x j)=(w:Rat):=fun j hj=>by
  have hja:j<atoms.length:=by omega
  have h1:=congrArg (fun z=>jn z j) hy
  unfold wl at ht
  simp only [Bool.and_eq_true,decide_eq_true_eq] at ht
  have h2:jn (oH (D:Rat) (mk4 fun j=>if j<atoms.length then rv (av x j) else 0)) j=(D:Rat)*rv (av x j):=by
   have h3:jn (oH (D:Rat) (mk4 fun j=>if j<atoms.length then rv (av x j) else 0)) j=(D:Rat)*(if j<atoms.length then rv (av x j) else 0):=by
    match j,(show j<4 by omega) with
    | 0,_=>rfl
    | 1,_=>rfl
    | 2,_=>rfl
    | 3,_=>rfl
   rw [h3,if_pos hja]
  rw [h2] at h1
  match j,(show j<4 by omega),h1 with
  | 0,_,h1=>exact ⟨y.1,ht.1.1.1,h1⟩
  | 1,_,h1=>exact ⟨y.2.1,ht.1.1.2,h1⟩
  | 2,_,h1=>exact ⟨y.2.2.1,ht.1.2,h1⟩
  | 3,_,h1=>exact ⟨y.2.2.2,ht.2,h1⟩
 have hden:∀ j,j<x.length→(av x j).2 ∣ D:=fun j hj=>by
  obtain ⟨w,_,hw⟩:=hcomp j hj
  obtain ⟨g1,_⟩:=F.ok j hj
  have hq:=jk hN g1
  have hg:=((eX hN).1 g1).2.2.2.2
  have h1:((D*(av x j).1:Int):Rat)=((w*(av x j).2:Int):Rat):=by
   rw [Rat.intCast_mul,Rat.intCast_mul,← hw]
   unfold rv
   grind
  have h2:=Rat.intCast_inj.1 h1
  have h3:(av x j).2 ∣ D*(av x j).1:=by rw [h2];exact Int.dvd_mul_left _ _
  have h4:=Int.natAbs_dvd_natAbs.2 h3
  rw [Int.natAbs_mul] at h4
  have h5:Nat.Coprime (av x j).2.natAbs (av x j).1.natAbs:=by
   unfold Nat.Coprime
   rw [Nat.gcd_comm]
   exact hg
  exact Int.natAbs_dvd_natAbs.1 (h5.dvd_of_dvd_mul_right h4)
 refine ⟨(D.natAbs:Int),⟨by omega,by omega,F.ok,fun j hj=>?_⟩,fun j hj=>?_⟩
 ·have h1:=hden j hj
  have h2:(av x j).2 ∣ (D.natAbs:Int):=Int.dvd_natAbs.2 h1
  have h3:=((eX hN).1 (F.ok j hj).1).1
  have h4:=Int.le_of_dvd (by omega) h2
  generalize (av x j).2=q at h2 h3 h4
  by_cases e1:q=1
  ·exact .inl e1
  ·by_cases e2:q=(D.natAbs:Int)
   ·exact .inr e2
   ·have e3:q=2:=by omega
    have e4:(D.natAbs:Int)=3:=by omega
    rw [e3,e4] at h2
    exact absurd h2 (by decide)
 ·obtain ⟨w,w3,hw⟩:=hcomp j hj
  have h0:0≤rv (av x j):=by
   have h1:=(F.ok j hj).2
   have h3:=((eX hN).1 (F.ok j hj).1).1
   unfold rv
   rw [Rat.div_def]
   exact Rat.mul_nonneg (Rat.intCast_nonneg.2 h1) (Rat.le_of_lt (Rat.inv_pos.2 (Rat.intCast_pos.2 (by omega))))
  have e3:((3:Int):Rat)=3:=rfl
  rcases Int.natAbs_eq D with e | e
  ·rw [← e,hw,← e3]
   exact Rat.intCast_le_intCast.2 (by omega)
  ·have h5:((D.natAbs:Int):Rat)*rv (av x j)=((-w:Int):Rat):=by
    have h6:(D.natAbs:Int)=-D:=by omega
    rw [h6,Rat.intCast_neg,Rat.intCast_neg,Rat.neg_mul,hw]
   rw [h5,← e3]
   exact Rat.intCast_le_intCast.2 (by omega)
end
def wtL (k:Nat→Nat) (I:List Nat):List Nat:=I.flatMap fun i=>List.replicate (k i) i
theorem tD (c:Nat→Bool) (m i:Nat):((List.replicate m i).filter c).length=if c i=true then m else 0:=by
 rw [List.filter_replicate]
 split <;> simp
theorem sB (c:Nat→Bool) (k:Nat→Nat):∀ I:List Nat,((wtL k I).filter c).length=smN (I.map fun i=>if c i=true then k i else 0)
 | []=>rfl
 | i :: I=>by
  have ih:=sB c k I
  unfold wtL at ih ⊢
  rw [List.flatMap_cons,List.filter_append,List.length_append,tD,ih];rfl
theorem sS:∀ a b:List Nat,prN (a++b)=prN a*prN b
 | [],b=>by rw [List.nil_append];exact (Nat.one_mul _).symm
 | x :: a,b=>by
  have:=sS a b
  show x*prN (a++b)=x*prN a*prN b
  rw [this,Nat.mul_assoc]
theorem rT (k:Nat→Nat):∀ n:Nat,cp n (fun j=>((k j:Nat):Rat))=((smN ((List.range' 0 n).map k):Nat):Rat)
 | 0=>rfl
 | n+1=>by
  have ih:=rT k n
  rw [List.range'_concat,List.map_append,o0]
  unfold cp
  rw [ih,Rat.natCast_add]
  simp only [Nat.zero_add,Nat.one_mul,List.map_cons,List.map_nil]
  congr 1
theorem rb {g:Nat→Rat} {c:Rat}:∀ n:Nat,c*cp n g=cp n (fun j=>c*g j)
 | 0=>by unfold cp;grind
 | n+1=>by
  have:=rb (g:=g) (c:=c) n
  unfold cp
  rw [← this];grind
section
variable {N:Nat}
theorem lM (hN:1073741824≤N) {n:Nat} {atoms:List aU} (n5:n≤5) (a1:1≤atoms.length) (a4:atoms.length≤4) {x:aW} (hp:d9 N n atoms x) :
  ∃ (d:Nat) (k:Nat→Nat),1≤d∧d≤3∧(∀ i,i<atoms.length→k i≤3)∧bV N x=some ((List.range' 0 atoms.length).map (fun i:Nat=>(k i:Int)),(d:Int))∧Cov atoms n (wtL k (List.range' 0 atoms.length)) d:=by
 obtain ⟨K,hD,hK⟩:=qr hN n5 a1 a4 hp
 obtain ⟨F,_⟩:=hp
 have hxl:=F.len
 obtain ⟨d,hd,es,hv⟩:=xE hN hD
 have hKK:=hD.hK
 have hd3:1≤d∧d≤3∧d≤K:=by omega
 refine ⟨d.toNat,fun i=>((gD x d x.length).getD i 0).toNat,by omega,by omega,fun i hi=>?_,?_,?_⟩
 ·obtain ⟨v,e,v0,ev⟩:=hv i (by omega)
  have h1:=hK i (by omega)
  have h0:0≤rv (av x i):=by
   have h1:=(F.ok i (by omega)).2
   have h3:=((eX hN).1 (F.ok i (by omega)).1).1
   unfold rv
   rw [Rat.div_def]
   exact Rat.mul_nonneg (Rat.intCast_nonneg.2 h1) (Rat.le_of_lt (Rat.inv_pos.2 (Rat.intCast_pos.2 (by omega))))
  have h2:(d:Rat)*rv (av x i)≤(K:Rat)*rv (av x i):=Rat.mul_le_mul_of_nonneg_right (Rat.intCast_le_intCast.2 hd3.2.2) h0
  have h3:(v:Rat)≤((3:Int):Rat):=by
   rw [ev]
   exact Rat.le_trans h2 h1
  have h4:=Rat.intCast_le_intCast.1 h3
  show ((gD x d x.length).getD i 0).toNat≤3
  rw [e];omega
 ·rw [es,Int.toNat_of_nonneg (by omega)]
  congr 2
  have hl:(gD x d x.length).length=atoms.length:=by unfold gD;simp [hxl]
  refine List.ext_getElem (by rw [hl];simp) fun i h1 h2=>?_
  obtain ⟨v,e,v0,_⟩:=hv i (by omega)
  rw [fA h1] at e
  simp only [List.getElem_map,List.getElem_range',Nat.zero_add,Nat.one_mul]
  rw [fA h1,e,Int.toNat_of_nonneg v0]
 ·refine ⟨by omega,fun i hi=>?_,fun v h0 h1=>?_⟩
  ·unfold wtL at hi
   obtain ⟨j,hj,h⟩:=List.mem_flatMap.1 hi
   rw [List.eq_of_mem_replicate h]
   simpa using hj
  ·rw [sB]
   obtain ⟨u,rfl⟩:∃ u:Nat,v=(u:Int):=⟨v.toNat,by omega⟩
   have hg:=F.ge u (by omega)
   have h2:(d:Rat)*1≤(d:Rat)*cp atoms.length (fun j=>cv (aR n atoms) u j*rv (av x j)):=Rat.mul_le_mul_of_nonneg_left hg (Rat.intCast_nonneg.2 (by omega))
   rw [rb,d8 (h:=fun j=>(((if decide ((u:Int)∈(eZ atoms j).2)=true then ((gD x d x.length).getD j 0).toNat else 0:Nat):Nat):Rat)) fun j hj=>by
    obtain ⟨w,e,w0,ew⟩:=hv j (by omega)
    have hb:cv (aR n atoms) u j=if decide ((u:Int)∈(eZ atoms j).2)=true then 1 else 0:=by
     unfold cv
     rw [iD (by omega) hj]
     unfold ib
     cases decide ((u:Int)∈(eZ atoms j).2) with
     | true=>rw [cond_true,if_pos rfl,iy];rfl
     | false=>rw [cond_false,if_neg (by decide),iy];rfl
    have hw:((w.toNat:Nat):Rat)=(w:Rat):=by
     rw [← Rat.intCast_natCast,Int.toNat_of_nonneg w0]
    rw [hb]
    split
    ·rw [e,hw,ew];grind
    ·have e0:((0:Nat):Rat)=0:=rfl
     rw [e0];grind,rT] at h2
   have h3:((d.toNat:Nat):Rat)=(d:Rat):=by rw [← Rat.intCast_natCast,Int.toNat_of_nonneg (by omega)]
   rw [Rat.mul_one,← h3] at h2
   exact Rat.natCast_le_natCast.1 h2
end
def ou {α:Type}:List (List α)→List (List α)
 | []=>[[]]
 | l :: ls=>l.flatMap fun a=>(ou ls).map fun s=>a :: s
theorem mt {ι α:Type} {f:ι→List α} {g:ι→α}:∀ {I:List ι},(∀ i∈I,g i∈f i)→I.map g∈ou (I.map f)
 | [],_=>List.mem_singleton.2 rfl
 | i :: I,h=>List.mem_flatMap.2 ⟨g i,h i List.mem_cons_self,List.mem_map.2 ⟨_,mt fun j hj=>h j (List.mem_cons_of_mem _ hj),rfl⟩⟩
def nZ (na:Nat) (S:List Nat) (i:Nat):List aW:=ou ((List.range' 0 na).map fun j=>bif S.contains j then [bif Nat.beq j i then (1,1) else (0,1)] else [(0,1),(1,1)])
def nv (na:Nat) (S:List Nat):List Nat:=(List.range' 0 na).filter fun j=>!S.contains j
def ptS (na:Nat) (S:List Nat):aW:=(List.range' 0 na).map fun j=>bif S.contains j then (1,1) else (0,1)
def th (na:Nat) (S:List Nat) (R:bh):bh:=R++(nv na S).map (dx na)
def tw (na:Nat) (S:List Nat):aW:=S.map (fun _=>(1,1))++(nv na S).map fun _=>(0,1)
def zR (M na:Nat) (S:List Nat) (R:bh):Bool:=decide (bq (M+100) (th na S R) (tw na S)=some (ptS na S,true))
def tf (na s:Nat):List (List Nat):=(ou (List.replicate s (List.range' 0 na))).filter fun S=>decide S.Nodup
def lC (M na s:Nat):Bool:=(tf na s).all fun S=>(ou (S.map (nZ na S))).all fun R=>zR M na S R
theorem Ar (M:Nat):lC M 1 1=true:=by kernel_rfl
theorem zQ (M:Nat):(lC M 2 1&&lC M 2 2)=true:=by kernel_rfl
theorem Au (M:Nat):(lC M 3 1&&(lC M 3 2&&lC M 3 3))=true:=by kernel_rfl
theorem zT (M:Nat):lC M 4 1=true:=by kernel_rfl
theorem Ad (M:Nat):lC M 4 2=true:=by kernel_rfl
theorem Ac (M:Nat):lC M 4 3=true:=by kernel_rfl
theorem zX (M:Nat):lC M 4 4=true:=by kernel_rfl
theorem Aq (bit:Nat→Nat→Bool) (n:Nat):∀ (m:Nat) (S:List Nat),S.length≤m→S.Nodup→(∀ v,v<n→∃ j∈S,bit v j=true) →
  ∃ S':List Nat,S'.Nodup∧(∀ j∈S',j∈S)∧(∀ v,v<n→∃ j∈S',bit v j=true)∧∀ i∈S',∃ v,v<n∧bit v i=true∧∀ j∈S',j≠i→bit v j=false:=by
 intro m
 induction m with
 | zero =>
  intro S hm hn hc
  have:S=[]:=List.length_eq_zero_iff.1 (by omega)
  subst this
  exact ⟨[],hn,fun _ h=>h,hc,by simp⟩
 | succ m ih =>
  intro S hm hn hc
  by_cases h:∃ i∈S,∀ v,v<n→∃ j∈S.erase i,bit v j=true
  ·obtain ⟨i,hi,h⟩:=h
   have hl:=List.length_erase_of_mem hi
   obtain ⟨S',h1,h2,h3,h4⟩:=ih (S.erase i) (by omega) (hn.erase i) h
   exact ⟨S',h1,fun j hj=>List.mem_of_mem_erase (h2 j hj),h3,h4⟩
  ·refine ⟨S,hn,fun _ h=>h,hc,fun i hi=>?_⟩
   have h1:¬ ∀ v,v<n→∃ j∈S.erase i,bit v j=true:=fun h2=>h ⟨i,hi,h2⟩
   obtain ⟨v,h2⟩:=Classical.not_forall.1 h1
   have hv:v<n:=Classical.byContradiction fun h3=>h2 fun h4=>absurd h4 h3
   have h5:∀ j∈S,j≠i→bit v j=false:=fun j hj hji=>by
    cases hb:bit v j with
    | false=>rfl
    | true=>exact absurd (fun _=>⟨j,(List.mem_erase_of_ne hji).2 hj,hb⟩) h2
   obtain ⟨j,hj,hb⟩:=hc v hv
   by_cases e:j=i
   ·subst e;exact ⟨v,hv,hb,h5⟩
   ·rw [h5 j hj e] at hb;cases hb
theorem qJ {S:List Nat} {na:Nat} (hn:S.Nodup) (hb:∀ j∈S,j<na):S.length+(nv na S).length=na:=by
 have h1:((List.range' 0 na).filter fun j=>S.contains j).length=S.length:=by
  refine Nat.le_antisymm (List.Nodup.length_le_of_subset (List.Nodup.sublist List.filter_sublist List.nodup_range') fun j hj=>?_) (List.Nodup.length_le_of_subset hn fun j hj=>?_)
  ·simpa using (List.mem_filter.1 hj).2
  ·exact List.mem_filter.2 ⟨by simpa using hb j hj,by simpa using hj⟩
 have h2:∀ I:List Nat,(I.filter fun j=>S.contains j).length+(I.filter fun j=>!S.contains j).length=I.length:=by
  intro I
  induction I with
  | nil=>rfl
  | cons i I ih =>
   rw [List.filter_cons,List.filter_cons]
   cases S.contains i
   ·simp only [Bool.not_false,if_true,Bool.false_eq_true,if_false,List.length_cons];omega
   ·simp only [Bool.not_true,if_true,Bool.false_eq_true,if_false,List.length_cons];omega
 have h3:=h2 (List.range' 0 na)
 rw [List.length_range',h1] at h3
 exact h3
theorem xI {M na:Nat} (h4:na≤4) {S:List Nat} (hn:S.Nodup) (hb:∀ j∈S,j<na) (hs:S≠[]) {R:bh} (hR:R∈ou (S.map (nZ na S))):bq (M+100) (th na S R) (tw na S)=some (ptS na S,true):=by
 have hl:=qJ hn hb
 have hp:=List.length_pos_iff.2 hs
 have key:lC M na S.length=true:=by
  have c2:=zQ M
  have c3:=Au M
  simp only [Bool.and_eq_true] at c2 c3
  match na,h4,S.length,(show S.length≤na by omega),hp with
  | 0,_,k,h1,h2=>omega
  | 1,_,1,_,_=>exact Ar M
  | 2,_,1,_,_=>exact c2.1
  | 2,_,2,_,_=>exact c2.2
  | 3,_,1,_,_=>exact c3.1
  | 3,_,2,_,_=>exact c3.2.1
  | 3,_,3,_,_=>exact c3.2.2
  | 4,_,1,_,_=>exact zT M
  | 4,_,2,_,_=>exact Ad M
  | 4,_,3,_,_=>exact Ac M
  | 4,_,4,_,_=>exact zX M
 have hm:S∈tf na S.length:=by
  unfold tf
  rw [List.mem_filter,decide_eq_true_eq]
  refine ⟨?_,hn⟩
  have h:=mt (f:=fun _:Nat=>List.range' 0 na) (g:=fun j=>j) (I:=S) fun j hj=>by simpa using hb j hj
  rw [List.map_id'] at h
  have e:S.map (fun _:Nat=>List.range' 0 na)=List.replicate S.length (List.range' 0 na):=List.map_const' ..
  rw [e] at h
  exact h
 have h1:=List.all_eq_true.1 (List.all_eq_true.1 key S hm) R hR
 exact of_decide_eq_true h1
section
variable {N:Nat}
theorem rp (hN:1073741824≤N) {n:Nat} {atoms:List aU} (n1:1≤n) (n5:n≤5) (a1:1≤atoms.length) (a4:atoms.length≤4) (hc:∀ v,v<n→∃ j,j<atoms.length∧((v:Nat):Int)∈(eZ atoms j).2) :
  ∃ x,d9 N n atoms x∧dA N (aR n atoms) (aB n) (aB atoms.length) x 1=some true:=by
 obtain ⟨S,s1,s2,s3,s4⟩:=Aq (fun v j=>decide ((v:Int)∈(eZ atoms j).2)) n atoms.length (List.range' 0 atoms.length) (by simp) List.nodup_range' fun v hv=>by
  obtain ⟨j,h1,h2⟩:=hc v hv
  exact ⟨j,by simpa using h1,decide_eq_true h2⟩
 have hpx:∀ i,∃ v,i∈S→v<n∧decide (((v:Nat):Int)∈(eZ atoms i).2)=true∧∀ j∈S,j≠i→decide (((v:Nat):Int)∈(eZ atoms j).2)=false:=fun i=>by
  by_cases h:i∈S
  ·obtain ⟨v,h1⟩:=s4 i h
   exact ⟨v,fun _=>h1⟩
  ·exact ⟨0,fun h'=>absurd h' h⟩
 obtain ⟨p,hp⟩:=Classical.skolem.1 hpx
 have inj:∀ i∈S,∀ j∈S,p i=p j→i=j:=fun i hi j hj e=>by
  refine Classical.byContradiction fun hne=>?_
  have h1:=(hp i hi).2.2 j hj fun h=>hne h.symm
  have h2:=(hp j hj).2.1
  rw [← e,h1] at h2;cases h2
 -- in the order of the rows
 have hperm:=List.mergeSort_perm S (fun a b=>decide (p a≤p b))
 have hsort:(S.mergeSort fun a b=>decide (p a≤p b)).Pairwise fun a b=>decide (p a≤p b)=true :=
  List.pairwise_mergeSort (le:=fun a b=>decide (p a≤p b)) (fun a b c h1 h2=>decide_eq_true (Nat.le_trans (of_decide_eq_true h1) (of_decide_eq_true h2))) (fun a b=>by
   rcases Nat.le_total (p a) (p b) with h | h
   ·rw [decide_eq_true h];rfl
   ·rw [decide_eq_true h,Bool.or_true]) S
 generalize S.mergeSort (fun a b=>decide (p a≤p b))=T at hperm hsort
 have hT:∀ j,j∈T↔j∈S:=fun j=>hperm.mem_iff
 have tn:T.Nodup:=hperm.nodup_iff.2 s1
 have tb:∀ j∈T,j<atoms.length:=fun j hj=>by simpa using s2 j ((hT j).1 hj)
 have tne:T≠[]:=fun e=>by
  obtain ⟨j,hj,_⟩:=s3 0 (by omega)
  rw [← hT j,e] at hj;cases hj
 have hlen:=qJ tn tb
 have hrowB:∀ i∈T,ba (aR n atoms) (p i)=(List.range' 0 atoms.length).map fun j=>ib (eZ atoms j) (p i:Int):=fun i hi=>by
  have hpi:=(hp i ((hT i).1 hi)).1
  refine List.ext_getElem (by rw [kx.2 _ hpi];simp) fun j h1 h2=>?_
  have hj:j<atoms.length:=by rw [kx.2 _ hpi] at h1;exact h1
  have h3:=iD (atoms:=atoms) hpi hj
  unfold cell av at h3
  rw [List.getElem_map,List.getElem_range',Nat.zero_add,Nat.one_mul,← h3]
  simp [h1]
 have hR:T.map (fun i=>ba (aR n atoms) (p i))∈ou (T.map (nZ atoms.length T)):=mt fun i hi=>by
  rw [hrowB i hi]
  unfold nZ
  refine mt fun j hj=>?_
  obtain ⟨_,g2,g3⟩:=hp i ((hT i).1 hi)
  by_cases hjT:j∈T
  ·rw [show T.contains j=true by simpa using hjT,cond_true,List.mem_singleton]
   unfold ib
   by_cases e:j=i
   ·subst e
    rw [g2,show Nat.beq j j=true from Nat.beq_refl j,cond_true]
   ·rw [g3 j ((hT j).1 hjT) e,show Nat.beq j i=false from by
     cases hb:Nat.beq j i with
     | false=>rfl
     | true=>exact absurd (Nat.eq_of_beq_eq_true hb) e,cond_false]
  ·rw [show T.contains j=false by simpa using hjT,cond_false]
   unfold ib
   cases decide ((p i:Int)∈(eZ atoms j).2)
   ·exact List.mem_cons_self
   ·exact List.mem_cons_of_mem _ List.mem_cons_self
 obtain ⟨M,rfl⟩:∃ M,N=M+100:=⟨N-100,by omega⟩
 have hsol:=xI (M:=M) a4 tn tb tne hR
 -- the pick
 let l:List Nat:=T.map p++(nv atoms.length T).map fun j=>n+j
 have hll:l.length=atoms.length:=by
  show (T.map p++(nv atoms.length T).map fun j=>n+j).length=_
  rw [List.length_append,List.length_map,List.length_map];exact hlen
 have hasc:l.Pairwise (·<·):=by
  refine List.pairwise_append.2 ⟨?_,?_,fun a ha b hb=>?_⟩
  ·rw [List.pairwise_map]
   refine (List.Pairwise.and hsort tn).imp_of_mem fun {a b} ha hb h=>?_
   have h1:p a≤p b:=of_decide_eq_true h.1
   have h2:p a≠p b:=fun e=>h.2 (inj a ((hT a).1 ha) b ((hT b).1 hb) e)
   omega
  ·rw [List.pairwise_map]
   have:(nv atoms.length T).Pairwise (·<·):=List.Pairwise.sublist List.filter_sublist List.pairwise_lt_range'
   exact this.imp fun h=>by omega
  ·obtain ⟨i,hi,rfl⟩:=List.mem_map.1 ha
   obtain ⟨j,_,rfl⟩:=List.mem_map.1 hb
   have:=(hp i ((hT i).1 hi)).1
   omega
 have hlb:∀ v∈l,0≤v∧v<n+atoms.length:=fun v hv=>by
  refine ⟨Nat.zero_le v,?_⟩
  rcases List.mem_append.1 hv with h | h
  ·obtain ⟨i,hi,rfl⟩:=List.mem_map.1 h
   have:=(hp i ((hT i).1 hi)).1
   omega
  ·obtain ⟨j,hj,rfl⟩:=List.mem_map.1 h
   have:j<atoms.length:=by simpa using (List.mem_filter.1 hj).1
   omega
 have hpick:=qv hll hasc hlb
 have enat:ik (l.map fun v:Nat=>(v:Int))=l:=by
  unfold ik
  rw [List.map_map]
  have:(Int.toNat ∘ fun v:Nat=>(v:Int))=id:=funext fun v=>Int.toNat_natCast v
  rw [this,List.map_id]
 have eA:dG (aR n atoms) n atoms.length (l.map fun v:Nat=>(v:Int))=th atoms.length T (T.map fun i=>ba (aR n atoms) (p i)):=by
  unfold dG th
  rw [enat]
  show (T.map p++(nv atoms.length T).map fun j=>n+j).map _=_
  rw [List.map_append,List.map_map,List.map_map]
  congr 1
  ·refine List.map_congr_left fun i hi=>?_
   show fW (aR n atoms) n atoms.length (p i)=_
   unfold fW
   rw [if_pos (hp i ((hT i).1 hi)).1]
  ·refine List.map_congr_left fun j _=>?_
   show fW (aR n atoms) n atoms.length (n+j)=_
   unfold fW
   rw [if_neg (by omega),Nat.add_sub_cancel_left]
 have eB:du n (l.map fun v:Nat=>(v:Int))=tw atoms.length T:=by
  unfold du tw
  rw [enat]
  show (T.map p++(nv atoms.length T).map fun j=>n+j).map _=_
  rw [List.map_append,List.map_map,List.map_map]
  congr 1
  ·refine List.map_congr_left fun i hi=>?_
   show hO n (p i)=_
   unfold hO
   rw [if_pos (hp i ((hT i).1 hi)).1]
  ·refine List.map_congr_left fun j _=>?_
   show hO n (n+j)=_
   unfold hO
   rw [if_neg (by omega)]
 have hpl:(ptS atoms.length T).length=atoms.length:=by unfold ptS;simp
 have hpc:∀ j,j<atoms.length→av (ptS atoms.length T) j=bif T.contains j then (1,1) else (0,1):=fun j hj=>by
  unfold ptS av;simp [hj]
 obtain ⟨b,eb,hb1,hb2⟩:=sN hN n1 n5 a1 a4 hpl
 have hbt:b=true:=hb2 (fun j hj=>by
  rw [hpc j (by omega)]
  cases T.contains j
  ·exact .inl rfl
  ·exact .inr rfl) fun v hv=>by
  obtain ⟨j,hj,hbit⟩:=s3 v hv
  have hjl:j<atoms.length:=by simpa using s2 j hj
  refine ⟨j,by omega,?_,?_⟩
  ·rw [iD hv hjl]
   unfold ib
   rw [hbit];rfl
  ·rw [hpc j hjl,show T.contains j=true by simpa using (hT j).2 hj];rfl
 subst hbt
 exact ⟨ptS atoms.length T,⟨hb1 rfl,_,hpick,by rw [eA,eB];exact hsol⟩,eb⟩
end
section
variable {N:Nat}
theorem wx (hN:1073741824≤N) {ss:List Int} (hs:ss.length≤1000) (hv:∀ v∈ss,0≤v∧v≤16) {A:bh} {B C:aW}:∀ (c i fuel:Nat),i+c=ss.length→c<fuel →
  ∃ z,cw N fuel ss A B C (i:Int)=some (.inr z):=by
 intro c
 induction c with
 | zero =>
  intro i fuel hi hf
  obtain ⟨fuel,rfl⟩:∃ k',fuel=k'+1:=⟨fuel-1,by omega⟩
  rw [cw,decide_eq_false (by omega),cond_false]
  exact ⟨_,rfl⟩
 | succ c ih =>
  intro i fuel hi hf
  obtain ⟨fuel,rfl⟩:∃ k',fuel=k'+1:=⟨fuel-1,by omega⟩
  have hil:i<ss.length:=by omega
  have h1:=hv _ (List.getElem_mem hil)
  rw [cw,decide_eq_true (by omega),cond_true,aZ hil,bs,dN,bs,show inR ss[i] 0 16=true from b9.2 h1,cond_true,bo (by omega) (by omega),bs]
  exact ih (i+1) fuel (by omega) (by omega)
end
section
variable {N:Nat}
theorem Aa (hN:1073741824≤N) {a b:List Int} (ha:Cn a) (hb:Cn b) (la:a.length≤60) (lb:b.length≤60) (h:vB a*vB b<10 ^ 60):∃ r,ga N a b=some (r,true)∧vB r=vB a*vB b∧Cn r∧r.length≤60:=by
 obtain ⟨r,e1,e2,_⟩:=oS hN (a:=a) (b:=b) (by omega) (by omega)
 obtain ⟨q,e3,h1,h2⟩:=sI hN ha hb la lb
 rw [e2] at e3
 obtain rfl:=Option.some.inj e3
 have ht:=h2.2 h
 obtain ⟨r1,r2⟩:=r
 obtain rfl:r2=true:=ht
 exact ⟨r1,e1,h1 rfl⟩
theorem ww (hN:1073741824≤N) {n:Int} (h0:0≤n) (h1:n≤9223372036854775807) {d:Nat} (hd:d≤100) (h:∀ j,j<d→n ^ (j+1)<10 ^ 60):∃ r,gd N n (d:Int)=some (r,true)∧vB r=n ^ d∧Cn r∧r.length≤60:=by
 obtain ⟨r,e1,e2,_⟩:=rN hN (n:=n) (k:=(d:Int)) h1
 obtain ⟨q,e3,h2,h3⟩:=xG hN h0 h1 hd
 rw [e2] at e3
 obtain rfl:=Option.some.inj e3
 have ht:=h3.2 h
 obtain ⟨r1,r2⟩:=r
 obtain rfl:r2=true:=ht
 exact ⟨r1,e1,h2 rfl⟩
theorem vn (hN:1073741824≤N) {a b:List Int} (ha:Cn a) (hb:Cn b) (la:a.length≤60) (lb:b.length≤60):∃ q,fd N a b=some q∧(q<0↔vB a<vB b)∧-1≤q∧q≤1:=by
 obtain ⟨c,e1,e2⟩:=rC hN (a:=a) (b:=b) (by omega) (by omega)
 obtain ⟨q,e3,_,h⟩:=vD hN ha hb la lb
 rw [e2] at e3
 obtain rfl:=Option.some.inj e3
 exact ⟨c,e1,h⟩
theorem Af (hN:1073741824≤N):∃ b,dz N 1=some b∧vB b=1∧Cn b∧b.length≤60:=by
 obtain ⟨r,e,h1,h2,h3⟩:=ww hN (n:=1) (by decide) (by decide) (d:=0) (by decide) (fun j hj=>absurd hj (Nat.not_lt_zero j))
 refine ⟨r,?_,by rw [h1];rfl,h2,h3⟩
 unfold gd at e
 rw [show decide ((1:Int)<0)=false from rfl,cond_false,dN,bs,show inR ((0:Nat):Int) 0 100=true from b9.2 (by omega),cond_true] at e
 cases hb:dz N 1 with
 | none=>rw [hb] at e;cases e
 | some b =>
  rw [hb,bs] at e
  obtain ⟨k,rfl⟩:∃ k,N=k+1:=⟨N-1,by omega⟩
  rw [cH,decide_eq_false (by omega),cond_false,bs,fI] at e
  injection e with e
  exact congrArg some (congrArg Prod.fst e)
end
section
variable {N:Nat}
theorem pk (hN:1073741824≤N) {na:Nat} (h4:na≤4) {s k:Nat→Nat} (hs:∀ i,i<na→s i≤16) (hk:∀ i,i<na→k i≤9) :
  ∃ r,c9 N ((List.range' 0 na).map fun i:Nat=>(s i:Int)) ((List.range' 0 na).map fun i:Nat=>(k i:Int))=some (r,true)∧vB r=((prN ((List.range' 0 na).map fun i=>s i ^ k i):Nat):Int)∧Cn r∧r.length≤60∧prN ((List.range' 0 na).map fun i=>s i ^ k i)≤68719476736 ^ na:=by
 have l1:∀ f:Nat→Nat,((List.range' 0 na).map fun i:Nat=>(f i:Int)).length=na:=fun f=>by simp
 have g1:∀ (f:Nat→Nat) (j:Nat),j<na→((List.range' 0 na).map fun i:Nat=>(f i:Int)).getD j 0=(f j:Int):=fun f j hj=>by
  rw [fA (by rw [l1];exact hj),List.getElem_map,List.getElem_range',Nat.zero_add,Nat.one_mul]
 have pw:∀ i,i<na→s i ^ k i≤68719476736:=fun i hi=>by
  rcases Nat.eq_zero_or_pos (s i) with h0 | h0
  ·rw [h0]
   rcases Nat.eq_zero_or_pos (k i) with h1 | h1
   ·rw [h1];decide
   ·rw [Nat.zero_pow h1];decide
  ·exact Nat.le_trans (Nat.pow_le_pow_right h0 (hk i hi)) (Nat.pow_le_pow_left (hs i hi) 9)
 have ps:∀ i,prN ((List.range' 0 (i+1)).map fun i=>s i ^ k i)=prN ((List.range' 0 i).map fun i=>s i ^ k i)*s i ^ k i:=fun i=>by
  rw [List.range'_concat,List.map_append,sS]
  simp only [Nat.zero_add,Nat.one_mul,List.map_cons,List.map_nil,prN,Nat.mul_one]
 have pb:∀ i,i≤na→prN ((List.range' 0 i).map fun i=>s i ^ k i)≤68719476736 ^ i:=by
  intro i
  induction i with
  | zero =>
   intro _
   exact Nat.le_refl 1
  | succ i ih =>
   intro hi
   rw [ps,Nat.pow_succ]
   exact Nat.mul_le_mul (ih (by omega)) (pw i (by omega))
 have key:∀ (c i fuel:Nat) (b:List Int),i+c=na→c<fuel→Cn b→b.length≤60→vB b=((prN ((List.range' 0 i).map fun i=>s i ^ k i):Nat):Int) →
   ∃ r z,be N fuel ((List.range' 0 na).map fun i:Nat=>(s i:Int)) ((List.range' 0 na).map fun i:Nat=>(k i:Int)) [] b (i:Int)=some (.inr (r,z))∧vB r=((prN ((List.range' 0 na).map fun i=>s i ^ k i):Nat):Int)∧Cn r∧r.length≤60:=by
  intro c
  induction c with
  | zero =>
   intro i fuel b hi hf hb lb hv
   obtain ⟨fuel,rfl⟩:∃ k',fuel=k'+1:=⟨fuel-1,by omega⟩
   rw [be,l1,decide_eq_false (by omega),cond_false]
   obtain rfl:i=na:=by omega
   exact ⟨b,_,rfl,hv,hb,lb⟩
  | succ c ih =>
   intro i fuel b hi hf hb lb hv
   obtain ⟨fuel,rfl⟩:∃ k',fuel=k'+1:=⟨fuel-1,by omega⟩
   have hsi:=hs i (by omega)
   have hki:=hk i (by omega)
   have hp:=pw i (by omega)
   obtain ⟨r,e,hr,cr,lr⟩:=ww hN (n:=(s i:Int)) (by omega) (by omega) (d:=k i) (by omega) fun j hj=>by
    have h1:s i ^ (j+1)≤16 ^ 9:=by
     rcases Nat.eq_zero_or_pos (s i) with h0 | h0
     ·rw [h0,Nat.zero_pow (by omega)];decide
     ·exact Nat.le_trans (Nat.pow_le_pow_right h0 (by omega)) (Nat.pow_le_pow_left hsi 9)
    have h2:((s i:Int)) ^ (j+1)=((s i ^ (j+1):Nat):Int):=(Int.natCast_pow ..).symm
    rw [h2]
    have:((s i ^ (j+1):Nat):Int)≤68719476736:=by omega
    exact Int.lt_of_le_of_lt this (by decide)
   have hr':vB r=((s i ^ k i:Nat):Int):=by rw [hr,Int.natCast_pow]
   have hb':=pb i (by omega)
   have hi4:(68719476736:Nat) ^ i≤68719476736 ^ 4:=Nat.pow_le_pow_right (by decide) (by omega)
   have hmul:=Nat.mul_le_mul (Nat.le_trans hb' hi4) hp
   have hm:vB b*vB r=((prN ((List.range' 0 (i+1)).map fun i=>s i ^ k i):Nat):Int):=by
    rw [hv,hr',ps,Int.natCast_mul]
   obtain ⟨y,e2,hy,cy,ly⟩:=Aa hN hb cr lb lr (by
    rw [hm,ps]
    have:((prN ((List.range' 0 i).map fun i=>s i ^ k i)*s i ^ k i:Nat):Int)≤((68719476736 ^ 4*68719476736:Nat):Int):=Int.ofNat_le.2 hmul
    exact Int.lt_of_le_of_lt this (by decide))
   rw [be,l1,decide_eq_true (by omega),cond_true,ixD (by rw [l1];omega),bs,g1 s i (by omega),ixD (by rw [l1];omega),bs,g1 k i (by omega),e,bs]
   dsimp only
   rw [e2,bs]
   dsimp only
   rw [cond_true,cond_true,bo (by omega) (by omega),bs]
   exact ih (i+1) fuel y (by omega) (by omega) cy ly (by rw [hy,hm])
 obtain ⟨b,eb,hb,cb,lb⟩:=Af hN
 obtain ⟨r,z,e,h1,h2,h3⟩:=key na 0 N b (by omega) (by omega) cb lb (by rw [hb];rfl)
 refine ⟨r,?_,h1,h2,h3,pb na (Nat.le_refl _)⟩
 unfold c9
 have e':be N N ((List.range' 0 na).map fun i:Nat=>(s i:Int)) ((List.range' 0 na).map fun i:Nat=>(k i:Int)) [] b 0=_:=e
 rw [l1,l1,show ((na:Int) != (na:Int))=false by rw [bne_eq_false_iff_eq],cond_false,eb,bs,e',bs,fI]
theorem oJ (f:Nat→Nat) (e:Nat):∀ L:List Nat,prN (L.map fun i=>f i ^ e)=prN (L.map f) ^ e
 | []=>(Nat.one_pow e).symm
 | i :: L=>by
  show f i ^ e*prN (L.map fun i=>f i ^ e)=(f i*prN (L.map f)) ^ e
  rw [oJ f e L,Nat.mul_pow]
def xsF (na:Nat) (k:Nat→Nat) (e i:Nat):List Int:=(List.range' 0 na).map fun j:Nat=>(((if j<i then k j*e else k j):Nat):Int)
theorem iA (na:Nat) (k:Nat→Nat) (e i:Nat):(xsF na k e i).length=na:=by unfold xsF;simp
theorem pd {na:Nat} {k:Nat→Nat} {e i j:Nat} (h:j<na):(xsF na k e i).getD j 0=(((if j<i then k j*e else k j):Nat):Int):=by
 rw [fA (by rw [iA];exact h)]
 unfold xsF
 rw [List.getElem_map,List.getElem_range',Nat.zero_add,Nat.one_mul]
theorem mz (na:Nat) (k:Nat→Nat) (e:Nat):xsF na k e 0=(List.range' 0 na).map fun j:Nat=>(k j:Int):=by
 unfold xsF
 simp
theorem mv (na:Nat) (k:Nat→Nat) (e:Nat):xsF na k e na=(List.range' 0 na).map fun j:Nat=>((k j*e:Nat):Int):=by
 unfold xsF
 refine List.map_congr_left fun j hj=>?_
 rw [if_pos (by simp at hj;omega)]
theorem sW {na:Nat} {k:Nat→Nat} {e i:Nat} (h:i<na):(xsF na k e i).set i ((k i*e:Nat):Int)=xsF na k e (i+1):=by
 refine List.ext_getElem (by rw [List.length_set,iA,iA]) fun j h1 h2=>?_
 rw [List.length_set,iA] at h1
 rw [List.getElem_set]
 have g1:=pd (k:=k) (e:=e) (i:=i) h1
 have g2:=pd (k:=k) (e:=e) (i:=i+1) h1
 rw [fA (by rw [iA];exact h1)] at g1 g2
 rw [g1,g2]
 by_cases hij:i=j
 ·subst hij
  rw [if_pos rfl,if_pos (by omega)]
 ·rw [if_neg hij]
  by_cases hl:j<i
  ·rw [if_pos hl,if_pos (by omega)]
  ·rw [if_neg hl,if_neg (by omega)]
theorem sZ (hN:1073741824≤N) {ss:List Int} {d e:Nat} (d3:d≤3) (e3:e≤3) {na:Nat} (hna:na≤4) {k q:Nat→Nat} (hk:∀ i,i<na→k i≤3) (hq:∀ i,i<na→q i≤3):∀ (c i fuel:Nat),i+c=na→c<fuel →
  ∃ z,cS N fuel ss (xsF na k e i) (d:Int) (xsF na q d i) (e:Int) (i:Int)=some (xsF na k e na,xsF na q d na,z):=by
 intro c
 induction c with
 | zero =>
  intro i fuel hi hf
  obtain ⟨fuel,rfl⟩:∃ k',fuel=k'+1:=⟨fuel-1,by omega⟩
  rw [cS,iA,decide_eq_false (by omega),cond_false]
  obtain rfl:i=na:=by omega
  exact ⟨_,rfl⟩
 | succ c ih =>
  intro i fuel hi hf
  obtain ⟨fuel,rfl⟩:∃ k',fuel=k'+1:=⟨fuel-1,by omega⟩
  have hin:i<na:=by omega
  have m1:k i*e≤3*3:=Nat.mul_le_mul (hk i hin) e3
  have m2:q i*d≤3*3:=Nat.mul_le_mul (hq i hin) d3
  have x1:(xsF na k e i).getD i 0=(k i:Int):=by rw [pd hin,if_neg (by omega)]
  have x2:(xsF na q d i).getD i 0=(q i:Int):=by rw [pd hin,if_neg (by omega)]
  have p1:(k i:Int)*(e:Int)=((k i*e:Nat):Int):=(Int.natCast_mul ..).symm
  have p2:(q i:Int)*(d:Int)=((q i*d:Nat):Int):=(Int.natCast_mul ..).symm
  rw [cS,iA,decide_eq_true (by omega),cond_true,ixD (by rw [iA];exact hin),bs,x1,dL (by rw [p1];omega) (by rw [p1];omega),bs,p1,bs,kQ (by rw [iA];exact hin),bs,sW hin,ixD (by rw [iA];exact hin),bs,x2,dL (by rw [p2];omega) (by rw [p2];omega),bs,p2,bs,kQ (by rw [iA];exact hin),bs,sW hin,bo (by omega) (by omega),bs]
  exact ih (i+1) fuel (by omega) (by omega)
def PVx (N:Nat) (na:Nat) (s:Nat→Nat) (x:aW):Nat × Nat :=
 match bV N x with
 | some (ws,d)=>(prN ((List.range' 0 na).map fun i=>s i ^ (ws.getD i 0).toNat),d.toNat)
 | none=>(0,0)
theorem uX {na:Nat} {s k:Nat→Nat} {d:Nat} {x:aW} (h:bV N x=some ((List.range' 0 na).map (fun i:Nat=>(k i:Int)),(d:Int))):PVx N na s x=(prN ((List.range' 0 na).map fun i=>s i ^ k i),d):=by
 unfold PVx
 rw [h]
 dsimp only
 congr 2
 refine List.map_congr_left fun i hi=>?_
 have hin:i<na:=by simp at hi;omega
 rw [fA (by simp;exact hin),List.getElem_map,List.getElem_range',Nat.zero_add,Nat.one_mul,Int.toNat_natCast]
def LeV (N na:Nat) (s:Nat→Nat) (x y:aW):Prop:=(PVx N na s x).1 ^ (PVx N na s y).2≤(PVx N na s y).1 ^ (PVx N na s x).2
theorem LeV.refl {na:Nat} {s:Nat→Nat} (x:aW):LeV N na s x x:=Nat.le_refl _
theorem LeV.trans {na:Nat} {s:Nat→Nat} {x y z:aW} (hy:1≤(PVx N na s y).2) (h1:LeV N na s x y) (h2:LeV N na s y z):LeV N na s x z:=by
 unfold LeV at *
 generalize PVx N na s x=X at *
 generalize PVx N na s y=Y at *
 generalize PVx N na s z=Z at *
 refine (Nat.pow_le_pow_iff_left (show Y.2≠0 by omega)).1 ?_
 have a1:=Nat.pow_le_pow_left h1 Z.2
 have a2:=Nat.pow_le_pow_left h2 X.2
 rw [← Nat.pow_mul,← Nat.pow_mul] at a1 a2 ⊢
 rw [Nat.mul_comm Z.2 Y.2,Nat.mul_comm X.2 Y.2]
 rw [Nat.mul_comm X.2 Z.2] at a1
 rw [Nat.mul_comm Z.2 X.2] at a2
 refine Nat.le_trans a1 ?_
 rw [Nat.mul_comm Z.2 X.2]
 exact Nat.le_trans a2 (Nat.le_of_eq (by rw [Nat.mul_comm]))
theorem u4 (hN:1073741824≤N) {n:Nat} {atoms:List aU} (n5:n≤5) (a1:1≤atoms.length) (a4:atoms.length≤4) {s:Nat→Nat} (hs:∀ i,i<atoms.length→s i≤16) {x y:aW} (hx:d9 N n atoms x) (hy:d9 N n atoms y) :
  ∃ c,dQ N ((List.range' 0 atoms.length).map fun i:Nat=>(s i:Int)) x y=some (c,true)∧-1≤c∧c≤1∧(c<0↔¬ LeV N atoms.length s y x)∧1≤(PVx N atoms.length s x).2∧1≤(PVx N atoms.length s y).2:=by
 obtain ⟨d,k,d1,d3,hk,ed,_⟩:=lM hN n5 a1 a4 hx
 obtain ⟨e,q,e1,e3,hq,ee,_⟩:=lM hN n5 a1 a4 hy
 have v1:=uX (s:=s) ed
 have v2:=uX (s:=s) ee
 have l1:∀ f:Nat→Nat,((List.range' 0 atoms.length).map fun i:Nat=>(f i:Int)).length=atoms.length:=fun f=>by simp
 obtain ⟨z,e4⟩:=sZ hN (ss:=(List.range' 0 atoms.length).map fun i:Nat=>(s i:Int)) d3 e3 a4 hk hq atoms.length 0 N (by omega) (by omega)
 rw [mz,mz,mv,mv] at e4
 have e4':cS N N ((List.range' 0 atoms.length).map fun i:Nat=>(s i:Int)) ((List.range' 0 atoms.length).map fun i:Nat=>(k i:Int)) (d:Int) ((List.range' 0 atoms.length).map fun i:Nat=>(q i:Int)) (e:Int) 0=_:=e4
 obtain ⟨r1,f1,g1,c1,lr1,_⟩:=pk hN a4 hs (k:=fun i=>k i*e) fun i hi=>Nat.le_trans (Nat.mul_le_mul (hk i hi) e3) (by decide)
 obtain ⟨r2,f2,g2,c2,lr2,_⟩:=pk hN a4 hs (k:=fun i=>q i*d) fun i hi=>Nat.le_trans (Nat.mul_le_mul (hq i hi) d3) (by decide)
 obtain ⟨c,ec,h1,h2,h3⟩:=vn hN c1 c2 lr1 lr2
 have w1:prN ((List.range' 0 atoms.length).map fun i=>s i ^ (k i*e))=prN ((List.range' 0 atoms.length).map fun i=>s i ^ k i) ^ e:=by
  rw [← oJ]
  congr 2
  funext i
  rw [Nat.pow_mul]
 have w2:prN ((List.range' 0 atoms.length).map fun i=>s i ^ (q i*d))=prN ((List.range' 0 atoms.length).map fun i=>s i ^ q i) ^ d:=by
  rw [← oJ]
  congr 2
  funext i
  rw [Nat.pow_mul]
 refine ⟨c,?_,h2,h3,?_,by rw [v1];exact d1,by rw [v2];exact e1⟩
 ·unfold dQ
  rw [ed,bs,ee,bs]
  dsimp only
  rw [show ((d:Int) == 0)=false by rw [beq_eq_false_iff_ne];omega,cond_false,show ((e:Int) == 0)=false by rw [beq_eq_false_iff_ne];omega,cond_false,l1,l1,l1,show ((atoms.length:Int) != (atoms.length:Int))=false by rw [bne_eq_false_iff_eq],cond_false,cond_false,e4',bs,lpB]
  dsimp only
  rw [f1,bs,f2,bs]
  dsimp only
  rw [cond_true,cond_true,ec,bs]
 ·unfold LeV
  rw [v1,v2,h1,g1,g2,w1,w2,Nat.not_le]
  exact Int.ofNat_lt
end
section
variable {N:Nat}
theorem uj {ss:List Int} (hv:∀ v∈ss,0≤v∧v≤16):∃ s:Nat→Nat,(∀ i,i<ss.length→s i≤16)∧ss=(List.range' 0 ss.length).map fun i:Nat=>(s i:Int):=by
 refine ⟨fun i=>(ss.getD i 0).toNat,fun i hi=>?_,List.ext_getElem (by simp) fun i h1 h2=>?_⟩
 ·have:=hv _ (List.getElem_mem hi)
  dsimp only
  rw [fA hi]
  omega
 ·have:=hv _ (List.getElem_mem h1)
  rw [List.getElem_map,List.getElem_range',Nat.zero_add,Nat.one_mul]
  dsimp only
  rw [fA h1]
  omega
theorem zl (hN:1073741824≤N) {n:Nat} {atoms:List aU} (n5:n≤5) (a1:1≤atoms.length) (a4:atoms.length≤4) {s:Nat→Nat} (hs:∀ i,i<atoms.length→s i≤16) {P:bh} (hP:∀ x∈P,d9 N n atoms x) (hl:P.length≤100000):∀ (c i fuel:Nat) (x:aW),i+c=P.length→c<fuel→d9 N n atoms x→(∀ j,j<i→LeV N atoms.length s x (ba P j)) →
  ∃ x' z,bR N fuel ((List.range' 0 atoms.length).map fun i:Nat=>(s i:Int)) P x (i:Int)=some (x',z)∧d9 N n atoms x'∧∀ j,j<P.length→LeV N atoms.length s x' (ba P j):=by
 intro c
 induction c with
 | zero =>
  intro i fuel x hi hf hx hj
  obtain ⟨fuel,rfl⟩:∃ k',fuel=k'+1:=⟨fuel-1,by omega⟩
  rw [bR,decide_eq_false (by omega),cond_false]
  exact ⟨x,_,rfl,hx,fun j h=>hj j (by omega)⟩
 | succ c ih =>
  intro i fuel x hi hf hx hj
  obtain ⟨fuel,rfl⟩:∃ k',fuel=k'+1:=⟨fuel-1,by omega⟩
  have hil:i<P.length:=by omega
  have hm:ba P i∈P:=by unfold ba;simp [hil]
  obtain ⟨q,eq,_,_,hq,_,hd⟩:=u4 hN n5 a1 a4 hs (hP _ hm) hx
  rw [bR,decide_eq_true (by omega),cond_true,ixM hil,bs,eq,bs]
  dsimp only
  by_cases hc:q<0
  ·rw [decide_eq_true hc,cond_true,bs,bo (by omega) (by omega),bs]
   have h1:LeV N atoms.length s (ba P i) x:=Nat.le_of_lt (Nat.not_le.1 (hq.1 hc))
   refine ih (i+1) fuel _ (by omega) (by omega) (hP _ hm) fun j h=>?_
   by_cases e:j=i
   ·rw [e];exact LeV.refl _
   ·exact LeV.trans hd h1 (hj j (by omega))
  ·rw [decide_eq_false hc,cond_false,bo (by omega) (by omega),bs]
   have h1:LeV N atoms.length s x (ba P i):=Classical.byContradiction fun h=>hc (hq.2 h)
   refine ih (i+1) fuel x (by omega) (by omega) hx fun j h=>?_
   by_cases e:j=i
   ·rw [e];exact h1
   ·exact hj j (by omega)
theorem qQ (hN:1073741824≤N) {n:Nat} {atoms:List aU} {out:List Int} (ha:eN atoms) (ho:okI out) (hq:eO (n:Int) atoms out=true) (hc:∀ v,v<n→∃ j,j<atoms.length∧((v:Nat):Int)∈(eZ atoms j).2) {s:Nat→Nat} (hs:∀ i,i<atoms.length→s i≤16) :
  ∃ x P,ft N (n:Int) atoms out ((List.range' 0 atoms.length).map fun i:Nat=>(s i:Int))=some (x,true)∧bK N (aR n atoms) (aB n) (aB atoms.length)=some P∧d9 N n atoms x∧(∀ y∈P,d9 N n atoms y)∧P.length≤100000∧∀ j,j<P.length→LeV N atoms.length s x (ba P j):=by
 obtain ⟨n1,n5,a1,a4⟩:=jf hq
 have n1:1≤n:=by omega
 have n5:n≤5:=by omega
 have a1:1≤atoms.length:=by omega
 have a4:atoms.length≤4:=by omega
 obtain ⟨P,eP,hl,hP,hne⟩:=rx hN n1 n5 a1 a4
 have hne:=hne (rp hN n1 n5 a1 a4 hc)
 have h0:0<P.length:=List.length_pos_iff.2 hne
 have hm:ba P 0∈P:=by unfold ba;simp [h0]
 have hsl:((List.range' 0 atoms.length).map fun i:Nat=>(s i:Int)).length=atoms.length:=by simp
 have hv:∀ v∈(List.range' 0 atoms.length).map (fun i:Nat=>(s i:Int)),0≤v∧v≤16:=fun v hv=>by
  obtain ⟨i,hi,rfl⟩:=List.mem_map.1 hv
  have:=hs i (by simp at hi;omega)
  omega
 obtain ⟨z,e1⟩:=wx hN (ss:=(List.range' 0 atoms.length).map fun i:Nat=>(s i:Int)) (by omega) hv (A:=aR n atoms) (B:=aB n) (C:=aB atoms.length) atoms.length 0 N (by omega) (by omega)
 have e1':cw N N ((List.range' 0 atoms.length).map fun i:Nat=>(s i:Int)) (aR n atoms) (aB n) (aB atoms.length) 0=some (.inr z):=e1
 have i0:ix P 0=some (ba P 0):=ixM (i:=0) h0
 obtain ⟨x,z2,e2,hx,hmin⟩:=zl hN n5 a1 a4 hs hP hl (P.length-1) 1 N (ba P 0) (by omega) (by omega) (hP _ hm) fun j hj=>by
  obtain rfl:j=0:=by omega
  exact LeV.refl _
 have e2':bR N N ((List.range' 0 atoms.length).map fun i:Nat=>(s i:Int)) P (ba P 0) 1=some (x,z2):=e2
 refine ⟨x,P,?_,eP,hx,hP,hl,hmin⟩
 unfold ft
 rw [j9 hN ha ho hq,bs]
 dsimp only
 rw [cond_true,hsl,show ((atoms.length:Int) != (atoms.length:Int))=false by rw [bne_eq_false_iff_eq],cond_false,e1',bs,fI,eP,bs,i0,bs,e2',bs,lpB]
end
section
variable {N:Nat}
theorem vN {α:Type} (N:Nat) (x:Int) (k:Int→Option α):(iH N x).bind k=(sb 0 x).bind fun y=>k (imx x y):=by
 unfold iH
 cases sb 0 x <;> rfl
theorem og (N:Nat) (x a b:Int):cA N x a b=cJ N x a b:=by
 rw [eW];unfold cA inR
 by_cases h:a≤x
 ·rw [decide_eq_true h,cond_true,Bool.true_and]
 ·rw [decide_eq_false h,cond_false,Bool.false_and]
theorem oR (N:Nat) (n d:Int):fo N n d=bz N n d:=by
 unfold fo bz
 have e:sb 0 4000000000000000000=some (-4000000000000000000):=by decide
 simp only [e,Option.bind_some,og,lx,oL,vN]
theorem tt (N:Nat) (a b c d:Int):eY N a b c d=(ax N a b).bind fun r=>bif r then ax N c d else some false:=by
 unfold eY
 simp only [lx]
 cases bk N a b with
 | none=>rfl
 | some r =>
  cases r
  ·rfl
  ·simp only [Option.bind_some,cond_true]
   cases bk N c d <;> rfl
theorem lJ {α:Type} (N:Nat) (a b c d:Int) {x y:Option α}:(eY N a b c d).bind (fun r=>bif r then x else y)=(ax N a b).bind fun r=>bif r then (ax N c d).bind fun r=>bif r then x else y else y:=by
 rw [tt]
 cases ax N a b with
 | none=>rfl
 | some r=>cases r <;> rfl
theorem ra (N:Nat) (a b c d:Int):fY N a b c d=bA N a b c d:=by
 unfold fY bA
 rw [lJ];simp only [oR]
theorem rP (N:Nat) (a b c d:Int):f5 N a b c d=bL N a b c d:=by
 unfold f5 bL
 rw [lJ];simp only [oR]
theorem vJ (N:Nat) (a b c d:Int):fz N a b c d=bO N a b c d:=by
 unfold fz bO
 rw [lJ]
 simp only [it,Option.bind_some,mL]
 have e:∀ x y:Int,(some (if x<y then (-1:Int) else if y<x then 1 else 0))=(bif decide (x<y) then some (-1) else bif decide (y<x) then some 1 else some 0):=by
  intro x y
  by_cases h1:x<y
  ·rw [if_pos h1,decide_eq_true h1,cond_true]
  ·rw [if_neg h1,decide_eq_false h1,cond_false]
   by_cases h2:y<x
   ·rw [if_pos h2,decide_eq_true h2,cond_true]
   ·rw [if_neg h2,decide_eq_false h2,cond_false]
 simp only [e]
theorem vV (N:Nat) (n:Int):bz N n 0=some ((0,0),false):=by
 unfold bz;rfl
theorem re (hN:1073741824≤N) (a b c d:Int):fZ N a b c d=dm N a b c d:=by
 unfold fZ dm
 rw [lJ];simp only [oR]
 rcases ic hN (a,b) with h | h
 ·rcases ic hN (c,d) with h2 | h2
  ·by_cases hc:c=0
   ·subst hc
    have e1:=(eX hN).1 h
    have e2:=(eX hN).1 h2
    have hm:=iw (a:=a) (b:=d) e1.2.2.1 e1.2.2.2.1 (by have:=e2.1;simp only at this;omega) e2.2.1
    have m1:ml a d=some (a*d):=dL (by omega) (by omega)
    have m2:ml b 0=some (b*0):=dL (by omega) (by omega)
    have h:ax N a b=some true:=h
    have h2:ax N 0 d=some true:=h2
    rw [h,h2,m1,m2]
    simp only [Option.bind_some,cond_true,Int.mul_zero,vV]
    rfl
   ·have e:(c == 0)=false:=by simpa using hc
    simp only [e,cond_false]
  ·have h2:ax N c d=some false:=h2
   rw [h2];rfl
 ·have h:ax N a b=some false:=h
  rw [h];rfl
def Rs (N:Nat) (r:cj) (ok:Bool):Prop:=ok=true∧VR N r∨ok=false∧r=(0,0)
theorem zw {N:Nat} {n d:Int} {r:cj} {ok:Bool} (h:bz N n d=some (r,ok)):Rs N r ok:=by
 unfold bz at h
 have fin:∀ {x y:Int} {q:Bool},ax N x y=some q→(bif q then some ((x,y),true) else some ((0,0),false))=some (r,ok)→Rs N r ok:=by
  intro x y q hq h
  cases q
  ·cases h;exact .inr ⟨rfl,rfl⟩
  ·cases h;exact .inl ⟨rfl,hq⟩
 have no:some (((0:Int),(0:Int)),false)=some (r,ok)→Rs N r ok:=by
  intro h;cases h;exact .inr ⟨rfl,rfl⟩
 rcases oif h with ⟨_,h⟩ | ⟨_,h⟩
 ·exact no h
 obtain ⟨_,_,h⟩:=ob h
 obtain ⟨_,_,h⟩:=ob h
 rcases oif h with ⟨_,h⟩ | ⟨_,h⟩
 rotate_left
 ·exact no h
 obtain ⟨_,_,h⟩:=ob h
 obtain ⟨_,_,h⟩:=ob h
 rcases oif h with ⟨_,h⟩ | ⟨_,h⟩
 rotate_left
 ·exact no h
 rcases oif h with ⟨_,h⟩ | ⟨_,h⟩
 ·obtain ⟨_,_,h⟩:=ob h
  obtain ⟨_,_,h⟩:=ob h
  obtain ⟨_,_,h⟩:=ob h
  obtain ⟨_,_,h⟩:=ob h
  obtain ⟨_,_,h⟩:=ob h
  obtain ⟨_,_,h⟩:=ob h
  obtain ⟨_,hq,h⟩:=ob h
  exact fin hq h
 ·obtain ⟨_,_,h⟩:=ob h
  obtain ⟨_,_,h⟩:=ob h
  obtain ⟨_,_,h⟩:=ob h
  obtain ⟨_,_,h⟩:=ob h
  obtain ⟨_,hq,h⟩:=ob h
  exact fin hq h
theorem tZ {N:Nat} {a b c d:Int} {r:cj × Bool} (h:bL N a b c d=some r):Rs N r.1 r.2:=by
 unfold bL at h
 have no:some (((0:Int),(0:Int)),false)=some r→Rs N r.1 r.2:=by
  intro h;cases h;exact .inr ⟨rfl,rfl⟩
 obtain ⟨_,_,h⟩:=ob h
 rcases oif h with ⟨_,h⟩ | ⟨_,h⟩
 rotate_left
 ·exact no h
 obtain ⟨_,_,h⟩:=ob h
 rcases oif h with ⟨_,h⟩ | ⟨_,h⟩
 rotate_left
 ·exact no h
 obtain ⟨_,_,h⟩:=ob h
 obtain ⟨_,_,h⟩:=ob h
 obtain ⟨⟨r1,r2⟩,hq,h⟩:=ob h
 cases h
 exact zw hq
theorem oN (hN:1073741824≤N):ax N 0 0=some false:=by
 rcases ic hN (0,0) with h | h
 ·exact absurd ((eX hN).1 h).1 (by decide)
 ·exact h
theorem vO (hN:1073741824≤N) (a b:Int) {r:cj} {ok:Bool} (hr:Rs N r ok):gY N a b r.1 r.2=dD N a b r.1 r.2:=by
 unfold gY dD
 simp only [ra]
 rcases hr with ⟨_,h⟩ | ⟨_,rfl⟩
 ·have h':ax N r.1 r.2=some true:=h
  rw [h'];rfl
 ·have e0:sb 0 0=some 0:=by decide
  simp only [e0,oN hN,Option.bind_some,cond_false]
  unfold bA
  rw [oN hN]
  rcases ic hN (a,b) with h | h
  ·have h:ax N a b=some true:=h
   rw [h];rfl
  ·have h:ax N a b=some false:=h
   rw [h];rfl
end
end Go.Proofs.YtijmbnbnojicjaaGreatDoor
