/- What functions of the program come to, written out by a program: none where a bound is passed. -/
import Derived.Test.YtkpeabpdiffjhaaV0
namespace Go.Proofs.Ytkpeabpdiffjhaa
open Go.RowKit
def impl_copyRows_L1 (N:Nat):Nat→(List (List Int))→(List (List Int))→Int→Int→Option ((List (List Int)) × Int)
 | 0,_,_,_,_=>none
 | k+1,x203,x207,x208,x209 =>
  (bif decide (x209<x208) then
  (ix x207 x209).bind fun x216 =>
  (impl_copyInts N x216).bind fun r223 =>
  (apd 24 x203 [r223]).bind fun x234 =>
  (ad x209 1).bind fun x237 =>
  impl_copyRows_L1 N k x234 x207 x208 x237
  else
  some (x203,x209))
def impl_copyRows (N:Nat) (a0:List (List Int)):Option (List (List Int)) :=
  (impl_copyRows_L1 N N [] a0 (a0.length:Int) 0).bind fun s244 =>
  lpB s244 fun (x240,x242) =>
  some x240
def impl_copyRelation (N:Nat) (a0:Int) (a1:List (List Int)):Option (Int × List (List Int)) :=
  (impl_copyRows N a1).bind fun r113 =>
  some (a0,r113)
def impl_LookupRelation_L1 (N:Nat):Nat→ByteArray→Int→(List (List Int))→(List (ByteArray × (Int × List (List Int))))→Int→Int→Option (Sum ((Int × List (List Int)) × Bool) Int)
 | 0,_,_,_,_,_,_=>none
 | k+1,x185,x186,x189,x192,x193,x194 =>
  (bif decide (x194<x193) then
  (ix x192 x194).bind fun x201 =>
  (bif (eqS x201.1 x185) then
  (impl_copyRelation N x201.2.1 x201.2.2).bind fun r221 =>
  some (.inl ((r221.1,r221.2),true))
  else
  (ad x194 1).bind fun x227 =>
  impl_LookupRelation_L1 N k x185 x186 x189 x192 x193 x227)
  else
  some (.inr x194))
def impl_LookupRelation (N:Nat) (a0:List (ByteArray × (Int × List (List Int)))) (a1:ByteArray):Option ((Int × List (List Int)) × Bool) :=
  (impl_IsValidDatabase N a0).bind fun r112 =>
  (bif r112 then
  (impl_LookupRelation_L1 N N a1 0 [] a0 (a0.length:Int) 0).bind fun s231 =>
  lpS s231 (fun q=>some q) fun x228 =>
  some ((0,[]),false)
  else
  some ((0,[]),false))
def impl_IsQueryFor_L1 (N:Nat):Nat→(List (ByteArray × (Int × List (List Int))))→(List (ByteArray × List Int))→Int→Int→Option (Sum Bool Int)
 | 0,_,_,_,_=>none
 | k+1,x202,x205,x206,x207 =>
  (bif decide (x207<x206) then
  (ix x205 x207).bind fun x214 =>
  (impl_LookupRelation N x202 x214.1).bind fun r230 =>
  (bif r230.2 then
  (bif (r230.1.1 != (x214.2.length:Int)) then
  some (.inl false)
  else
  (ad x207 1).bind fun x244 =>
  impl_IsQueryFor_L1 N k x202 x205 x206 x244)
  else
  some (.inl false))
  else
  some (.inr x207))
def impl_IsQueryFor (N:Nat) (a0:List (ByteArray × (Int × List (List Int)))) (a1:Int) (a2:List (ByteArray × List Int)) (a3:List Int):Option Bool :=
  (impl_IsValidQuery N a1 a2 a3).bind fun r112 =>
  (bif r112 then
  (impl_IsValidDatabase N a0).bind fun r116 =>
  (bif r116 then
  (impl_IsQueryFor_L1 N N a0 a2 (a2.length:Int) 0).bind fun s248 =>
  lpS s248 (fun q=>some q) fun x246 =>
  some true
  else
  some false)
  else
  some false)
def impl_ContainsVariable (N:Nat) (a0:ByteArray) (a1:List Int) (a2:Int):Option Bool :=
  (impl_hasInt N a1 a2).bind fun r107 =>
  some r107
def impl_AtomVariables_L1 (N:Nat):Nat→ByteArray→(List Int)→(List Int)→Int→Option ((List Int) × Int)
 | 0,_,_,_,_=>none
 | k+1,x184,x187,x190,x192 =>
  (bif decide (x192<5) then
  (impl_ContainsVariable N x184 x187 x192).bind fun r199 =>
  (bif r199 then
  (apd 8 x190 [x192]).bind fun x209 =>
  (ad x192 1).bind fun x212 =>
  impl_AtomVariables_L1 N k x184 x187 x209 x212
  else
  (ad x192 1).bind fun x213 =>
  impl_AtomVariables_L1 N k x184 x187 x190 x213)
  else
  some (x190,x192))
def impl_AtomVariables (N:Nat) (a0:ByteArray) (a1:List Int):Option (List Int) :=
  (impl_AtomVariables_L1 N N a0 a1 [] 0).bind fun s220 =>
  lpB s220 fun (x216,x218) =>
  some x216
def impl_columnsFit_L1 (N:Nat):Nat→Int→(List Int)→Int→Int→Option (Sum Bool Int)
 | 0,_,_,_,_=>none
 | k+1,x150,x153,x154,x155 =>
  (bif decide (x155<x154) then
  (ix x153 x155).bind fun x162 =>
  (sb x150 1).bind fun x169 =>
  (impl_within N x162 0 x169).bind fun r170 =>
  (bif r170 then
  (ad x155 1).bind fun x174 =>
  impl_columnsFit_L1 N k x150 x153 x154 x174
  else
  some (.inl false))
  else
  some (.inr x155))
def impl_columnsFit (N:Nat) (a0:Int) (a1:List Int):Option Bool :=
  (bif decide (5<(a1.length:Int)) then
  some false
  else
  (impl_columnsFit_L1 N N a0 a1 (a1.length:Int) 0).bind fun s178 =>
  lpS s178 (fun q=>some q) fun x176 =>
  some true)
def impl_pick_L1 (N:Nat):Nat→(List Int)→(List Int)→(List Int)→Int→Int→Option ((List Int) × Int)
 | 0,_,_,_,_,_=>none
 | k+1,x204,x207,x210,x211,x212 =>
  (bif decide (x212<x211) then
  (ix x210 x212).bind fun x219 =>
  (ix x204 x219).bind fun x225 =>
  (apd 8 x207 [x225]).bind fun x237 =>
  (ad x212 1).bind fun x240 =>
  impl_pick_L1 N k x204 x237 x210 x211 x240
  else
  some (x207,x212))
def impl_pick (N:Nat) (a0:List Int) (a1:List Int):Option (List Int) :=
  (impl_pick_L1 N N a0 [] a1 (a1.length:Int) 0).bind fun s246 =>
  lpB s246 fun (x243,x244) =>
  some x243
def impl_sorted_L1 (rec:(List (List Int))→Option (List (List Int))) (N:Nat):Nat→(List (List Int))→(List (List Int))→(List (List Int))→Option ((List (List Int)) × (List (List Int)) × (List (List Int)))
 | 0,_,_,_=>none
 | k+1,x1565,x1568,x1571 =>
  (bif decide (0<(x1565.length:Int)) then
  (bif ((x1565.length:Int) == 0) then
  (bif decide ((1:Int)≤0) then
  (ix x1565 0).bind fun x1585 =>
  (apd 24 x1571 [x1585]).bind fun x1599 =>
  (slc x1565 1 (x1565.length:Int)).bind fun x1603 =>
  (bif decide (0≤(1:Int)) then
  (bif decide (0<(1:Int)) then
  (ix x1568 0).bind fun x1611 =>
  (apd 24 x1599 [x1611]).bind fun x1625 =>
  (slc x1568 1 (x1568.length:Int)).bind fun x1629 =>
  impl_sorted_L1 rec N k x1603 x1629 x1625
  else
  (slc x1568 1 (x1568.length:Int)).bind fun x1632 =>
  impl_sorted_L1 rec N k x1603 x1632 x1599)
  else
  impl_sorted_L1 rec N k x1603 x1568 x1599)
  else
  (bif decide (0≤(1:Int)) then
  (bif decide (0<(1:Int)) then
  (ix x1568 0).bind fun x1640 =>
  (apd 24 x1571 [x1640]).bind fun x1654 =>
  (slc x1568 1 (x1568.length:Int)).bind fun x1658 =>
  impl_sorted_L1 rec N k x1565 x1658 x1654
  else
  (slc x1568 1 (x1568.length:Int)).bind fun x1661 =>
  impl_sorted_L1 rec N k x1565 x1661 x1571)
  else
  impl_sorted_L1 rec N k x1565 x1568 x1571))
  else
  (bif decide (0<(x1568.length:Int)) then
  (ix x1565 0).bind fun x1666 =>
  (ix x1568 0).bind fun x1673 =>
  (impl_CompareRows N x1666 x1673).bind fun r1680 =>
  (bif decide (r1680≤0) then
  (ix x1565 0).bind fun x1687 =>
  (apd 24 x1571 [x1687]).bind fun x1701 =>
  (slc x1565 1 (x1565.length:Int)).bind fun x1705 =>
  (bif decide (0≤r1680) then
  (bif decide (0<r1680) then
  (ix x1568 0).bind fun x1713 =>
  (apd 24 x1701 [x1713]).bind fun x1727 =>
  (slc x1568 1 (x1568.length:Int)).bind fun x1731 =>
  impl_sorted_L1 rec N k x1705 x1731 x1727
  else
  (slc x1568 1 (x1568.length:Int)).bind fun x1734 =>
  impl_sorted_L1 rec N k x1705 x1734 x1701)
  else
  impl_sorted_L1 rec N k x1705 x1568 x1701)
  else
  (bif decide (0≤r1680) then
  (bif decide (0<r1680) then
  (ix x1568 0).bind fun x1742 =>
  (apd 24 x1571 [x1742]).bind fun x1756 =>
  (slc x1568 1 (x1568.length:Int)).bind fun x1760 =>
  impl_sorted_L1 rec N k x1565 x1760 x1756
  else
  (slc x1568 1 (x1568.length:Int)).bind fun x1763 =>
  impl_sorted_L1 rec N k x1565 x1763 x1571)
  else
  impl_sorted_L1 rec N k x1565 x1568 x1571))
  else
  (bif decide (((-1):Int)≤0) then
  (ix x1565 0).bind fun x1770 =>
  (apd 24 x1571 [x1770]).bind fun x1784 =>
  (slc x1565 1 (x1565.length:Int)).bind fun x1788 =>
  (bif decide (0≤((-1):Int)) then
  (bif decide (0<((-1):Int)) then
  (ix x1568 0).bind fun x1796 =>
  (apd 24 x1784 [x1796]).bind fun x1810 =>
  (slc x1568 1 (x1568.length:Int)).bind fun x1814 =>
  impl_sorted_L1 rec N k x1788 x1814 x1810
  else
  (slc x1568 1 (x1568.length:Int)).bind fun x1817 =>
  impl_sorted_L1 rec N k x1788 x1817 x1784)
  else
  impl_sorted_L1 rec N k x1788 x1568 x1784)
  else
  (bif decide (0≤((-1):Int)) then
  (bif decide (0<((-1):Int)) then
  (ix x1568 0).bind fun x1825 =>
  (apd 24 x1571 [x1825]).bind fun x1839 =>
  (slc x1568 1 (x1568.length:Int)).bind fun x1843 =>
  impl_sorted_L1 rec N k x1565 x1843 x1839
  else
  (slc x1568 1 (x1568.length:Int)).bind fun x1846 =>
  impl_sorted_L1 rec N k x1565 x1846 x1571)
  else
  impl_sorted_L1 rec N k x1565 x1568 x1571))))
  else
  (bif decide (0<(x1568.length:Int)) then
  (bif ((x1565.length:Int) == 0) then
  (bif decide ((1:Int)≤0) then
  (ix x1565 0).bind fun x1859 =>
  (apd 24 x1571 [x1859]).bind fun x1873 =>
  (slc x1565 1 (x1565.length:Int)).bind fun x1877 =>
  (bif decide (0≤(1:Int)) then
  (bif decide (0<(1:Int)) then
  (ix x1568 0).bind fun x1885 =>
  (apd 24 x1873 [x1885]).bind fun x1899 =>
  (slc x1568 1 (x1568.length:Int)).bind fun x1903 =>
  impl_sorted_L1 rec N k x1877 x1903 x1899
  else
  (slc x1568 1 (x1568.length:Int)).bind fun x1906 =>
  impl_sorted_L1 rec N k x1877 x1906 x1873)
  else
  impl_sorted_L1 rec N k x1877 x1568 x1873)
  else
  (bif decide (0≤(1:Int)) then
  (bif decide (0<(1:Int)) then
  (ix x1568 0).bind fun x1914 =>
  (apd 24 x1571 [x1914]).bind fun x1928 =>
  (slc x1568 1 (x1568.length:Int)).bind fun x1932 =>
  impl_sorted_L1 rec N k x1565 x1932 x1928
  else
  (slc x1568 1 (x1568.length:Int)).bind fun x1935 =>
  impl_sorted_L1 rec N k x1565 x1935 x1571)
  else
  impl_sorted_L1 rec N k x1565 x1568 x1571))
  else
  (ix x1565 0).bind fun x1939 =>
  (ix x1568 0).bind fun x1946 =>
  (impl_CompareRows N x1939 x1946).bind fun r1953 =>
  (bif decide (r1953≤0) then
  (ix x1565 0).bind fun x1960 =>
  (apd 24 x1571 [x1960]).bind fun x1974 =>
  (slc x1565 1 (x1565.length:Int)).bind fun x1978 =>
  (bif decide (0≤r1953) then
  (bif decide (0<r1953) then
  (ix x1568 0).bind fun x1986 =>
  (apd 24 x1974 [x1986]).bind fun x2000 =>
  (slc x1568 1 (x1568.length:Int)).bind fun x2004 =>
  impl_sorted_L1 rec N k x1978 x2004 x2000
  else
  (slc x1568 1 (x1568.length:Int)).bind fun x2007 =>
  impl_sorted_L1 rec N k x1978 x2007 x1974)
  else
  impl_sorted_L1 rec N k x1978 x1568 x1974)
  else
  (bif decide (0≤r1953) then
  (bif decide (0<r1953) then
  (ix x1568 0).bind fun x2015 =>
  (apd 24 x1571 [x2015]).bind fun x2029 =>
  (slc x1568 1 (x1568.length:Int)).bind fun x2033 =>
  impl_sorted_L1 rec N k x1565 x2033 x2029
  else
  (slc x1568 1 (x1568.length:Int)).bind fun x2036 =>
  impl_sorted_L1 rec N k x1565 x2036 x1571)
  else
  impl_sorted_L1 rec N k x1565 x1568 x1571)))
  else
  some (x1565,x1568,x1571)))
def impl_sorted:Nat→(List (List Int))→Option (List (List Int))
 | 0,_=>none
 | N+1,a0 =>
  (bif decide ((a0.length:Int)<2) then
  (impl_copyRows N a0).bind fun r106 =>
  some r106
  else
  (qt (a0.length:Int) 2).bind fun x112 =>
  (slc a0 0 x112).bind fun x116 =>
  (slc a0 x112 (a0.length:Int)).bind fun x119 =>
  (impl_sorted N x116).bind fun r122 =>
  (impl_sorted N x119).bind fun r127 =>
  (impl_sorted_L1 (impl_sorted N) N N r122 r127 []).bind fun s2050 =>
  lpB s2050 fun (x2041,x2044,x2047) =>
  some x2047)
def impl_AtomBindings_L2 (N:Nat):Nat→ByteArray→(List Int)→Int→(List (List Int))→(List Int)→Int→(List (List Int))→(List (List Int))→(List Int)→(List Int)→Bool→(List (List Int))→Int→Int→(List Int)→Int→Int→Option ((List Int) × Bool × Int)
 | 0,_,_,_,_,_,_,_,_,_,_,_,_,_,_,_,_,_=>none
 | k+1,x495,x498,x499,x502,x505,x506,x509,x512,x515,x518,x519,x522,x523,x524,x527,x528,x529 =>
  (bif decide (x529<x528) then
  (ix x527 x529).bind fun x536 =>
  (impl_indexOf N x498 x536).bind fun r543 =>
  (bif x519 then
  (ix x515 r543).bind fun x548 =>
  (ix x515 x529).bind fun x557 =>
  (ix x515 x529).bind fun x568 =>
  (ix x518 x536).bind fun x577 =>
  (sto x518 x536 x568).bind fun x582 =>
  (ad x529 1).bind fun x583 =>
  impl_AtomBindings_L2 N k x495 x498 x499 x502 x505 x506 x509 x512 x515 x582 (x548 == x557) x522 x523 x524 x527 x528 x583
  else
  (ix x515 x529).bind fun x586 =>
  (ix x518 x536).bind fun x595 =>
  (sto x518 x536 x586).bind fun x600 =>
  (ad x529 1).bind fun x601 =>
  impl_AtomBindings_L2 N k x495 x498 x499 x502 x505 x506 x509 x512 x515 x600 false x522 x523 x524 x527 x528 x601)
  else
  some (x518,x519,x529))
def impl_AtomBindings_L1 (N:Nat):Nat→ByteArray→(List Int)→Int→(List (List Int))→(List Int)→Int→(List (List Int))→(List (List Int))→(List (List Int))→Int→Int→Option ((List (List Int)) × Int)
 | 0,_,_,_,_,_,_,_,_,_,_,_=>none
 | k+1,x444,x447,x448,x451,x454,x455,x458,x461,x465,x466,x467 =>
  (bif decide (x467<x466) then
  (ix x465 x467).bind fun x474 =>
  (mk 8 (0:Int) 5).bind fun x488 =>
  (impl_AtomBindings_L2 N N x444 x447 x448 x451 x454 x455 x458 x461 x474 x488 true x465 x466 x467 x447 (x447.length:Int) 0).bind fun s625 =>
  lpB s625 fun (x604,x605,x606) =>
  (bif x605 then
  (impl_pick N x604 x454).bind fun r609 =>
  (apd 24 x461 [r609]).bind fun x620 =>
  (ad x467 1).bind fun x623 =>
  impl_AtomBindings_L1 N k x444 x447 x448 x451 x454 x455 x458 x620 x465 x466 x623
  else
  (ad x467 1).bind fun x624 =>
  impl_AtomBindings_L1 N k x444 x447 x448 x451 x454 x455 x458 x461 x465 x466 x624)
  else
  some (x461,x467))
def impl_AtomBindings (N:Nat) (a0:List (ByteArray × (Int × List (List Int)))) (a1:ByteArray) (a2:List Int):Option (Int × List (List Int)) :=
  (impl_AtomVariables N a1 a2).bind fun r115 =>
  (impl_LookupRelation N a0 a1).bind fun r127 =>
  (bif r127.2 then
  (bif (r127.1.1 != (a2.length:Int)) then
  some ((r115.length:Int),[])
  else
  (impl_columnsFit N 5 a2).bind fun r145 =>
  (bif r145 then
  (impl_AtomBindings_L1 N N a1 a2 0 [] r115 (r115.length:Int) [] [] r127.1.2 (r127.1.2.length:Int) 0).bind fun s640 =>
  lpB s640 fun (x628,x630) =>
  (impl_sorted N x628).bind fun r632 =>
  some ((r115.length:Int),r632)
  else
  some ((r115.length:Int),[])))
  else
  some ((r115.length:Int),[]))
def impl_AtomRelation (N:Nat) (a0:List (ByteArray × (Int × List (List Int)))) (a1:ByteArray) (a2:List Int):Option (List Int × (Int × List (List Int))) :=
  (impl_AtomVariables N a1 a2).bind fun r117 =>
  (impl_AtomBindings N a0 a1 a2).bind fun r122 =>
  some (r117,(r122.1,r122.2))
def impl_IsValidVarRelation_L1 (N:Nat):Nat→(List Int)→Int→(List (List Int))→(List Int)→Int→Int→Option (Sum Bool Int)
 | 0,_,_,_,_,_,_=>none
 | k+1,x172,x173,x176,x179,x180,x181 =>
  (bif decide (x181<x180) then
  (ix x179 x181).bind fun x188 =>
  (impl_within N x188 0 4).bind fun r195 =>
  (bif r195 then
  (bif decide (0<x181) then
  (sb x181 1).bind fun x200 =>
  (ix x172 x200).bind fun x201 =>
  (bif decide (x188≤x201) then
  some (.inl false)
  else
  (ad x181 1).bind fun x209 =>
  impl_IsValidVarRelation_L1 N k x172 x173 x176 x179 x180 x209)
  else
  (ad x181 1).bind fun x210 =>
  impl_IsValidVarRelation_L1 N k x172 x173 x176 x179 x180 x210)
  else
  some (.inl false))
  else
  some (.inr x181))
def impl_IsValidVarRelation (N:Nat) (a0:List Int) (a1:Int) (a2:List (List Int)):Option Bool :=
  (impl_IsValidVarRelation_L1 N N a0 a1 a2 a0 (a0.length:Int) 0).bind fun s218 =>
  lpS s218 (fun q=>some q) fun x212 =>
  (impl_IsValidRelation N a1 a2).bind fun r214 =>
  (bif r214 then
  some (a1 == (a0.length:Int))
  else
  some false)
end Go.Proofs.Ytkpeabpdiffjhaa
namespace Go.Proofs.Ytkpeabpdiffjhaa
open Go.RowKit
def impl_unite_L2 (N:Nat):Nat→(List Int)→Int→Int→(List Int)→Int→Int→Option Int
 | 0,_,_,_,_,_,_=>none
 | k+1,x429,x430,x431,x434,x435,x436 =>
  (bif decide (x431<(x429.length:Int)) then
  (ix x429 x431).bind fun x440 =>
  (bif decide (x440<x430) then
  (ad x431 1).bind fun x446 =>
  impl_unite_L2 N k x429 x430 x446 x434 x435 x436
  else
  some x431)
  else
  some x431)
def impl_unite_L1 (N:Nat):Nat→(List Int)→(List Int)→Int→Int→Option ((List Int) × Int)
 | 0,_,_,_,_=>none
 | k+1,x406,x409,x410,x411 =>
  (bif decide (x411<x410) then
  (ix x409 x411).bind fun x418 =>
  (impl_unite_L2 N N x406 x418 0 x409 x410 x411).bind fun s520 =>
  lpB s520 fun x447 =>
  (bif (x447 == (x406.length:Int)) then
  (slc x406 0 x447).bind fun x452 =>
  (slc x406 x447 (x406.length:Int)).bind fun x455 =>
  (impl_copyInts N x452).bind fun r458 =>
  (apd 8 r458 [x418]).bind fun x469 =>
  (apd 8 x469 x455).bind fun x474 =>
  (ad x411 1).bind fun x481 =>
  impl_unite_L1 N k x474 x409 x410 x481
  else
  (ix x406 x447).bind fun x482 =>
  (bif (x482 != x418) then
  (slc x406 0 x447).bind fun x489 =>
  (slc x406 x447 (x406.length:Int)).bind fun x492 =>
  (impl_copyInts N x489).bind fun r495 =>
  (apd 8 r495 [x418]).bind fun x506 =>
  (apd 8 x506 x492).bind fun x511 =>
  (ad x411 1).bind fun x518 =>
  impl_unite_L1 N k x511 x409 x410 x518
  else
  (ad x411 1).bind fun x519 =>
  impl_unite_L1 N k x406 x409 x410 x519))
  else
  some (x406,x411))
def impl_unite (N:Nat) (a0:List Int) (a1:List Int):Option (List Int) :=
  (impl_copyInts N a0).bind fun r103 =>
  (impl_unite_L1 N N r103 a1 (a1.length:Int) 0).bind fun s526 =>
  lpB s526 fun (x523,x524) =>
  some x523
def impl_glue_L1 (N:Nat):Nat→(List Int)→(List Int)→(List Int)→(List Int)→(List Int)→(List Int)→Int→Int→Option (Sum ((List Int) × Bool) ((List Int) × Int))
 | 0,_,_,_,_,_,_,_,_=>none
 | k+1,x402,x405,x408,x411,x414,x417,x418,x419 =>
  (bif decide (x419<x418) then
  (ix x417 x419).bind fun x426 =>
  (impl_indexOf N x402 x426).bind fun r433 =>
  (impl_indexOf N x408 x426).bind fun r436 =>
  (bif decide (0≤r433) then
  (bif decide (0≤r436) then
  (ix x405 r433).bind fun x443 =>
  (ix x411 r436).bind fun x449 =>
  (bif (x443 != x449) then
  some (.inl ([],false))
  else
  (ix x405 r433).bind fun x460 =>
  (apd 8 x414 [x460]).bind fun x472 =>
  (ad x419 1).bind fun x475 =>
  impl_glue_L1 N k x402 x405 x408 x411 x472 x417 x418 x475)
  else
  (ix x405 r433).bind fun x479 =>
  (apd 8 x414 [x479]).bind fun x491 =>
  (ad x419 1).bind fun x494 =>
  impl_glue_L1 N k x402 x405 x408 x411 x491 x417 x418 x494)
  else
  (ix x411 r436).bind fun x498 =>
  (apd 8 x414 [x498]).bind fun x510 =>
  (ad x419 1).bind fun x513 =>
  impl_glue_L1 N k x402 x405 x408 x411 x510 x417 x418 x513)
  else
  some (.inr (x414,x419)))
def impl_glue (N:Nat) (a0:List Int) (a1:List Int) (a2:List Int) (a3:List Int) (a4:List Int):Option ((List Int) × Bool) :=
  (impl_glue_L1 N N a1 a2 a3 a4 [] a0 (a0.length:Int) 0).bind fun s519 =>
  lpS s519 (fun q=>some q) fun (x516,x517) =>
  some (x516,true)
def impl_NaturalJoin_L2 (N:Nat):Nat→(List Int)→Int→(List (List Int))→(List Int)→Int→(List (List Int))→(List Int)→Int→(List (List Int))→(List Int)→(List (List Int))→(List Int)→(List (List Int))→Int→Int→(List (List Int))→Int→Int→Option ((List (List Int)) × Int)
 | 0,_,_,_,_,_,_,_,_,_,_,_,_,_,_,_,_,_,_=>none
 | k+1,x378,x379,x382,x385,x386,x389,x392,x393,x396,x399,x402,x405,x408,x409,x410,x413,x414,x415 =>
  (bif decide (x415<x414) then
  (ix x413 x415).bind fun x422 =>
  (impl_glue N x399 x378 x405 x385 x422).bind fun r430 =>
  (bif r430.2 then
  (apd 24 x402 [r430.1]).bind fun x443 =>
  (ad x415 1).bind fun x446 =>
  impl_NaturalJoin_L2 N k x378 x379 x382 x385 x386 x389 x392 x393 x396 x399 x443 x405 x408 x409 x410 x413 x414 x446
  else
  (ad x415 1).bind fun x447 =>
  impl_NaturalJoin_L2 N k x378 x379 x382 x385 x386 x389 x392 x393 x396 x399 x402 x405 x408 x409 x410 x413 x414 x447)
  else
  some (x402,x415))
def impl_NaturalJoin_L1 (N:Nat):Nat→(List Int)→Int→(List (List Int))→(List Int)→Int→(List (List Int))→(List Int)→Int→(List (List Int))→(List Int)→(List (List Int))→(List (List Int))→Int→Int→Option (Sum ((List Int × (Int × List (List Int))) × Bool) ((List (List Int)) × Int))
 | 0,_,_,_,_,_,_,_,_,_,_,_,_,_,_=>none
 | k+1,x329,x330,x333,x336,x337,x340,x343,x344,x347,x350,x353,x357,x358,x359 =>
  (bif decide (x359<x358) then
  (ix x357 x359).bind fun x366 =>
  (impl_NaturalJoin_L2 N N x329 x330 x333 x336 x337 x340 x343 x344 x347 x350 x353 x366 x357 x358 x359 x340 (x340.length:Int) 0).bind fun s457 =>
  lpB s457 fun (x450,x451) =>
  (bif decide (4000<(x450.length:Int)) then
  some (.inl (([],(0,[])),false))
  else
  (ad x359 1).bind fun x456 =>
  impl_NaturalJoin_L1 N k x329 x330 x333 x336 x337 x340 x343 x344 x347 x350 x450 x357 x358 x456)
  else
  some (.inr (x353,x359)))
def impl_NaturalJoin (N:Nat) (a0:List Int) (a1:Int) (a2:List (List Int)) (a3:List Int) (a4:Int) (a5:List (List Int)):Option ((List Int × (Int × List (List Int))) × Bool) :=
  (impl_IsValidVarRelation N a0 a1 a2).bind fun r116 =>
  (bif r116 then
  (impl_IsValidVarRelation N a3 a4 a5).bind fun r120 =>
  (bif r120 then
  (impl_unite N a0 a3).bind fun r125 =>
  (impl_NaturalJoin_L1 N N a0 a1 a2 a3 a4 a5 [] 0 [] r125 [] a2 (a2.length:Int) 0).bind fun s470 =>
  lpS s470 (fun q=>some q) fun (x460,x462) =>
  (impl_sorted N x460).bind fun r464 =>
  some ((r125,((r125.length:Int),r464)),true)
  else
  some (([],(0,[])),false))
  else
  some (([],(0,[])),false))
def impl_NewRelation_L1 (N:Nat):Nat→Int→(List (List Int))→Int→(List (List Int))→(List (List Int))→Int→Int→Option (Sum ((Int × List (List Int)) × Bool) Int)
 | 0,_,_,_,_,_,_,_=>none
 | k+1,x158,x161,x162,x165,x168,x169,x170 =>
  (bif decide (x170<x169) then
  (ix x168 x170).bind fun x177 =>
  (bif ((x177.length:Int) != x158) then
  some (.inl ((0,[]),false))
  else
  (impl_AreValidValues N x177).bind fun r188 =>
  (bif r188 then
  (ad x170 1).bind fun x192 =>
  impl_NewRelation_L1 N k x158 x161 x162 x165 x168 x169 x192
  else
  some (.inl ((0,[]),false))))
  else
  some (.inr x170))
def impl_NewRelation (N:Nat) (a0:Int) (a1:List (List Int)):Option ((Int × List (List Int)) × Bool) :=
  (impl_NewRelation_L1 N N a0 a1 0 [] a1 (a1.length:Int) 0).bind fun s217 =>
  lpS s217 (fun q=>some q) fun x195 =>
  (impl_sorted N a1).bind fun r197 =>
  (impl_IsValidRelation N a0 r197).bind fun r209 =>
  (bif r209 then
  some ((a0,r197),true)
  else
  some ((0,[]),false))
def impl_Project_L1 (N:Nat):Nat→(List Int)→Int→(List (List Int))→(List (List Int))→(List (List Int))→Int→Int→Option ((List (List Int)) × Int)
 | 0,_,_,_,_,_,_,_=>none
 | k+1,x221,x222,x225,x228,x232,x233,x234 =>
  (bif decide (x234<x233) then
  (ix x232 x234).bind fun x241 =>
  (impl_pick N x241 x221).bind fun r248 =>
  (apd 24 x228 [r248]).bind fun x259 =>
  (ad x234 1).bind fun x262 =>
  impl_Project_L1 N k x221 x222 x225 x259 x232 x233 x262
  else
  some (x228,x234))
def impl_Project (N:Nat) (a0:Int) (a1:List (List Int)) (a2:List Int):Option ((Int × List (List Int)) × Bool) :=
  (impl_IsValidRelation N a0 a1).bind fun r112 =>
  (bif r112 then
  (impl_columnsFit N a0 a2).bind fun r116 =>
  (bif r116 then
  (impl_Project_L1 N N a2 0 [] [] a1 (a1.length:Int) 0).bind fun s275 =>
  lpB s275 fun (x265,x267) =>
  (impl_NewRelation N (a2.length:Int) x265).bind fun r269 =>
  some ((r269.1.1,r269.1.2),r269.2)
  else
  some ((0,[]),false))
  else
  some ((0,[]),false))
def impl_PairwiseJoin_L1 (N:Nat):Nat→(List (ByteArray × (Int × List (List Int))))→Int→(List (ByteArray × List Int))→(List Int)→Int→(List (List Int))→(List Int)→Int→(List (List Int))→Int→(List (ByteArray × List Int))→Int→Int→Option (Sum ((Int × List (List Int)) × Int × Bool) ((List Int) × Int × (List (List Int)) × Int × Int))
 | 0,_,_,_,_,_,_,_,_,_,_,_,_,_=>none
 | k+1,x328,x329,x332,x335,x336,x339,x342,x343,x346,x347,x350,x351,x352 =>
  (bif decide (x352<x351) then
  (ix x350 x352).bind fun x359 =>
  (impl_AtomRelation N x328 x359.1 x359.2).bind fun r377 =>
  (impl_NaturalJoin N x342 x343 x346 r377.1 r377.2.1 r377.2.2).bind fun r384 =>
  (bif r384.2 then
  (ad x347 (r384.1.2.2.length:Int)).bind fun x401 =>
  (ad x352 1).bind fun x402 =>
  impl_PairwiseJoin_L1 N k x328 x329 x332 x335 x336 x339 r384.1.1 r384.1.2.1 r384.1.2.2 x401 x350 x351 x402
  else
  some (.inl ((0,[]),0,false)))
  else
  some (.inr (x342,x343,x346,x347,x352)))
def impl_PairwiseJoin (N:Nat) (a0:List (ByteArray × (Int × List (List Int)))) (a1:Int) (a2:List (ByteArray × List Int)) (a3:List Int):Option ((Int × List (List Int)) × Int × Bool) :=
  (impl_IsQueryFor N a0 a1 a2 a3).bind fun r116 =>
  (bif r116 then
  (ix a2 0).bind fun x123 =>
  (impl_AtomRelation N a0 x123.1 x123.2).bind fun r133 =>
  (slc a2 1 (a2.length:Int)).bind fun x148 =>
  (impl_PairwiseJoin_L1 N N a0 a1 a2 a3 0 [] r133.1 r133.2.1 r133.2.2 (r133.2.2.length:Int) x148 (x148.length:Int) 0).bind fun s427 =>
  lpS s427 (fun q=>some q) fun (x407,x408,x411,x412,x413) =>
  (impl_Project N x408 x411 a3).bind fun r415 =>
  some ((r415.1.1,r415.1.2),x412,r415.2)
  else
  some ((0,[]),0,false))
def laws_markRelation (N:Nat) (a0:Int) (a1:List (List Int)) (a2:Int):Option (Int × (List (List Int))) :=
  (laws_markIntSS N a1 a2).bind fun r107 =>
  some (r107.1,r107.2)
def laws_heldIntS_L1 (N:Nat):Nat→(List Int)→Int→Int→Option (Sum Int (Int × Int))
 | 0,_,_,_=>none
 | k+1,x143,x144,x145 =>
  (bif decide (x145<(x143.length:Int)) then
  (ix x143 x145).bind fun x153 =>
  (bif (x153 != x144) then
  some (.inl (-1))
  else
  (ad x144 1).bind fun x161 =>
  (ad x145 1).bind fun x162 =>
  laws_heldIntS_L1 N k x143 x161 x162)
  else
  some (.inr (x144,x145)))
def laws_heldIntS (N:Nat) (a0:List Int) (a1:Int):Option Int :=
  (laws_heldIntS_L1 N N a0 a1 0).bind fun s166 =>
  lpS s166 (fun q=>some q) fun (x163,x164) =>
  some x163
def laws_heldIntSS_L1 (N:Nat):Nat→(List (List Int))→Int→Int→Option (Sum Int (Int × Int))
 | 0,_,_,_=>none
 | k+1,x149,x150,x151 =>
  (bif decide (x151<(x149.length:Int)) then
  (ix x149 x151).bind fun x158 =>
  (laws_heldIntS N x158 x150).bind fun r165 =>
  (bif decide (r165<0) then
  some (.inl (-1))
  else
  (ad x151 1).bind fun x171 =>
  laws_heldIntSS_L1 N k x149 r165 x171)
  else
  some (.inr (x150,x151)))
def laws_heldIntSS (N:Nat) (a0:List (List Int)) (a1:Int):Option Int :=
  (laws_heldIntSS_L1 N N a0 a1 0).bind fun s175 =>
  lpS s175 (fun q=>some q) fun (x172,x173) =>
  some x172
def laws_heldRelation (N:Nat) (a0:Int) (a1:List (List Int)) (a2:Int):Option Int :=
  (laws_heldIntSS N a1 a2).bind fun r107 =>
  (bif decide (r107<0) then
  some (-1)
  else
  some r107)
def laws_FnExactPairwiseJoin (N:Nat) (a0:List (ByteArray × (Int × List (List Int)))) (a1:Int) (a2:List (ByteArray × List Int)) (a3:List Int):Option Bool :=
  (laws_szDatabase N a0 1048576).bind fun r112 =>
  (bif decide (r112<0) then
  some true
  else
  (laws_szQuery N a1 a2 a3 r112).bind fun r120 =>
  (bif decide (r120<0) then
  some true
  else
  (laws_toDatabase N a0).bind fun r130 =>
  (laws_toQuery N a1 a2 a3).bind fun r135 =>
  (spec_PairwiseJoin N r130 r135.1 r135.2.1 r135.2.2).bind fun r142 =>
  (laws_toDatabase N a0).bind fun r153 =>
  (laws_toQuery N a1 a2 a3).bind fun r164 =>
  (impl_PairwiseJoin N r153 r164.1 r164.2.1 r164.2.2).bind fun r177 =>
  (laws_eqRelation N r177.1.1 r177.1.2 r142.1.1 r142.1.2).bind fun r189 =>
  (bif r189 then
  (bif (r177.2.1 != r142.2.1) then
  some false
  else
  (bif (r177.2.2 != r142.2.2) then
  some false
  else
  (laws_toDatabase N a0).bind fun r201 =>
  (laws_eqDatabase N r153 r201).bind fun r206 =>
  (bif r206 then
  (laws_toQuery N a1 a2 a3).bind fun r214 =>
  (laws_eqQuery N r164.1 r164.2.1 r164.2.2 r214.1 r214.2.1 r214.2.2).bind fun r221 =>
  (bif r221 then
  (laws_markDatabase N r153 1).bind fun r227 =>
  (laws_markQuery N r164.1 r164.2.1 r164.2.2 r227.1).bind fun r230 =>
  (bif decide (r230.1<0) then
  some false
  else
  (laws_eqRelation N r177.1.1 r177.1.2 r142.1.1 r142.1.2).bind fun r236 =>
  (bif r236 then
  (laws_markRelation N r177.1.1 r177.1.2 1).bind fun r242 =>
  (laws_heldRelation N r177.1.1 r242.2 1).bind fun r246 =>
  (bif decide (r246<0) then
  some false
  else
  (bif (r246 != r242.1) then
  some false
  else
  (laws_toDatabase N a0).bind fun r260 =>
  (laws_toQuery N a1 a2 a3).bind fun r265 =>
  (impl_PairwiseJoin N r260 r265.1 r265.2.1 r265.2.2).bind fun r272 =>
  (laws_eqRelation N r272.1.1 r272.1.2 r142.1.1 r142.1.2).bind fun r284 =>
  (bif r284 then
  (bif (r272.2.1 != r142.2.1) then
  some false
  else
  (bif (r272.2.2 != r142.2.2) then
  some false
  else
  (laws_heldRelation N r177.1.1 r242.2 1).bind fun r294 =>
  (bif decide (r294<0) then
  some false
  else
  (bif (r294 != r242.1) then
  some false
  else
  some true))))
  else
  some false)))
  else
  some false))
  else
  some false)
  else
  some false)))
  else
  some false)))
end Go.Proofs.Ytkpeabpdiffjhaa
namespace Go.Proofs.Ytkpeabpdiffjhaa
open Go.RowKit
theorem markTextL {N:Nat}:∀ (m k:Nat) (x:Int) (b:ByteArray),0≤x→x≤9000000000000000000→x<10 ^ m→m<k→b.size+m≤1000000→∃ x' b',laws_markText_L1 N k x b=some (x',b')∧b'.size≤b.size+m:=by
 intro m
 induction m with
 | zero =>
  intro k x b h0 hx9 h1 hk hb
  obtain ⟨k,rfl⟩:∃ k',k=k'+1:=⟨k-1,by omega⟩
  rw [laws_markText_L1,decide_eq_false (by simp at h1;omega),cond_false]
  exact ⟨_,_,rfl,by omega⟩
 | succ m ih =>
  intro k x b h0 hx9 h1 hk hb
  obtain ⟨k,rfl⟩:∃ k',k=k'+1:=⟨k-1,by omega⟩
  rw [laws_markText_L1]
  by_cases hx:0<x
  ·have hm:=Int.tmod_nonneg 10 h0
   have hm2:=Int.tmod_lt_of_pos x (by omega:(0:Int)<10)
   have hsz:(ofB [IntKind.u8.wrap (48+x.tmod 10)]++b).size=b.size+1:=by rw [ByteArray.size_append,ofB_size];simp;omega
   have hq:x.tdiv 10=x / 10:=Int.tdiv_eq_ediv_of_nonneg h0
   have hd:0≤x / 10∧x / 10<10 ^ m:=by
    rw [Int.pow_succ] at h1
    refine ⟨by omega,?_⟩
    generalize (10:Int) ^ m=p at *
    omega
   have hxb:x / 10≤x:=by omega
   rw [decide_eq_true hx,cond_true]
   unfold rm
   rw [if_pos (by decide),bs,ad_ok (by omega) (by omega),bs]
   unfold scat
   rw [if_pos (by rw [ofB_size];simp;omega),bs]
   by_cases hr:rng (x.tdiv 10)=true
   ·unfold qt
    rw [if_pos ⟨by decide,hr⟩,bs,hq]
    obtain ⟨x',b',e1,e2⟩:=ih k (x / 10) (ofB [IntKind.u8.wrap (48+x.tmod 10)]++b) hd.1 (by omega) hd.2 (by omega) (by omega)
    exact ⟨x',b',e1,by omega⟩
   ·exact absurd (by rw [hq];unfold rng;simp only [Bool.and_eq_true,decide_eq_true_eq];omega) hr
  ·rw [decide_eq_false hx,cond_false]
   exact ⟨_,_,rfl,by omega⟩
theorem markText_ok {N:Nat} (hN:1073741824≤N) {s:Int} (h0:0≤s) (h1:s≤4611686018427387904):∃ t,laws_markText N s=some t∧t.size≤1000:=by
 unfold laws_markText
 by_cases h:s≤0
 ·rw [decide_eq_true h,cond_true];exact ⟨_,rfl,by decide⟩
 ·rw [decide_eq_false h,cond_false]
  obtain ⟨x',b',e1,e2⟩:=markTextL (N:=N) 19 N s ByteArray.empty h0 (by omega) (by omega) (by omega) (by simp)
  rw [e1,bs,lpB]
  simp only []
  unfold scat
  have:(ByteArray.empty).size=0:=rfl
  have h2:(⟨#[109]⟩:ByteArray).size=1:=rfl
  rw [if_pos (by omega),bs]
  exact ⟨_,rfl,by rw [ByteArray.size_append];omega⟩
theorem ix_set {α:Type} {xs:List α} {i:Nat} {y:α} (h:i<xs.length):ix (xs.set i y) (i:Int)=some y:=by rw [ix_nat (by simpa using h)];simp
theorem sto_set {α:Type} {xs:List α} {i:Nat} {y z:α} (h:i<xs.length):sto (xs.set i y) (i:Int) z=some (xs.set i z):=by rw [sto_nat (by simpa using h),List.set_set]
theorem sz_IntS {N:Nat} {x:List Int} {l:Int} (_:1073741824≤N) (hp:(AllL (fun _=>True) 9223372036854775807) x) (h0:0≤l) (h1:l≤1048576):∃ r,laws_szIntS N x l=some r∧(0≤r→(AllL (fun _=>True) 1048576) x∧r≤1048576):=by
 unfold laws_szIntS
 have hs:sb l (x.length:Int)=some (l-x.length):=by
  unfold sb;rw [if_pos];unfold rng;simp only [Bool.and_eq_true,decide_eq_true_eq];have:=hp.1;omega
 rw [hs,bs]
 by_cases hl:l-x.length<0
 ·rw [decide_eq_true hl,cond_true];exact ⟨-1,rfl,fun h=>absurd h (by omega)⟩
 ·rw [decide_eq_false hl,cond_false];exact ⟨_,rfl,fun _=>⟨⟨by omega,fun _ _=>trivial⟩,by omega⟩⟩
theorem toL_IntS (N:Nat):∀ k xs ys i,laws_toIntS_L1 N k xs ys i=gtoL (fun x:Int=>some x) k xs ys i:=by
 intro k
 induction k with
 | zero=>intros;rfl
 | succ k ih=>intro xs ys i;rw [laws_toIntS_L1,gtoL];simp only [ih,bs]
theorem to_IntS {N:Nat} {x:List Int} (hN:1073741824≤N) (h:(AllL (fun _=>True) 1048576) x):laws_toIntS N x=some x:=by
 have:=gto_ok (b:=8) (z:=(0:Int)) (by decide) hN (f:=fun x:Int=>some x) (fun x _=>rfl) h
 unfold gto at this;unfold laws_toIntS;simp only [toL_IntS];exact this
theorem eqL_IntS (N:Nat):∀ k xs ys i,laws_eqIntS_L1 N k xs ys i=geqL (fun x y:Int=>some (decide (x=y))) k xs ys i:=by
 intro k
 induction k with
 | zero=>intros;rfl
 | succ k ih =>
  intro xs ys i;rw [laws_eqIntS_L1,geqL];simp only [ih,bs]
  have e:∀ x y:Int,(x != y)=!decide (x=y):=fun x y=>by by_cases h:x=y <;> simp [h]
  congr 1
  refine congrArg _ (funext fun x=>congrArg _ (funext fun y=>?_))
  rw [e];cases decide (x=y) <;> rfl
theorem eq_IntS {N:Nat} {x y:List Int} (hN:1073741824≤N) (hx:(AllL (fun _=>True) 1048576) x) (hy:(AllL (fun _=>True) 1048576) y):laws_eqIntS N x y=some (decide (x=y)):=by
 have:=geq_ok hN (f:=fun x y:Int=>some (decide (x=y))) (fun x y _ _=>rfl) hx hy
 unfold geq at this;unfold laws_eqIntS;simp only [eqL_IntS];exact this
theorem sz_Atom {N:Nat} {x:ByteArray × List Int} {l:Int} (hN:1073741824≤N) (hp:(fun x=>(fun s=>s.size≤9223372036854775807) x.1∧(AllL (fun _=>True) 9223372036854775807) x.2) x) (h0:0≤l) (h1:l≤1048576):∃ r,laws_szAtom N x.1 x.2 l=some r∧(0≤r→(fun x=>(fun s=>s.size≤1048576) x.1∧(AllL (fun _=>True) 1048576) x.2) x∧r≤1048576):=by
 unfold laws_szAtom
 have e0:sb l ((x.1).size:Int)=some (l-(x.1).size):=by unfold sb;rw [if_pos];unfold rng;simp only [Bool.and_eq_true,decide_eq_true_eq];have:=hp.1;omega
 rw [e0,bs]
 generalize hr0:l-((x.1).size:Int)=r0
 by_cases hn0:r0<0
 ·rw [decide_eq_true hn0,cond_true];exact ⟨-1,rfl,fun h=>absurd h (by omega)⟩
 rw [decide_eq_false hn0,cond_false]
 have b0:r0≤1048576:=by omega
 obtain ⟨r1,e1,k1⟩:=sz_IntS hN hp.2 (l:=r0) (by omega) (by omega)
 rw [e1,bs]
 by_cases hn1:r1<0
 ·rw [decide_eq_true hn1,cond_true];exact ⟨-1,rfl,fun h=>absurd h (by omega)⟩
 rw [decide_eq_false hn1,cond_false]
 have b1:r1≤1048576:=(k1 (by omega)).2
 exact ⟨_,rfl,fun _=>⟨⟨(by show (x.1).size≤1048576;omega),(k1 (by omega)).1⟩,b1⟩⟩
theorem to_Atom {N:Nat} {x:ByteArray × List Int} (hN:1073741824≤N) (h:(fun x=>(fun s=>s.size≤1048576) x.1∧(AllL (fun _=>True) 1048576) x.2) x):laws_toAtom N x.1 x.2=some x:=by
 unfold laws_toAtom
 rw [to_IntS hN h.2,bs]
theorem eq_Atom {N:Nat} {x y:ByteArray × List Int} (hN:1073741824≤N) (hx:(fun x=>(fun s=>s.size≤1048576) x.1∧(AllL (fun _=>True) 1048576) x.2) x) (hy:(fun x=>(fun s=>s.size≤1048576) x.1∧(AllL (fun _=>True) 1048576) x.2) y):laws_eqAtom N x.1 x.2 y.1 y.2=some (decide (x=y)):=by
 unfold laws_eqAtom
 simp only [eq_IntS hN hx.2 hy.2,bs,eqS_dec,bneD]
 obtain ⟨x0,x1⟩:=x
 obtain ⟨y0,y1⟩:=y
 clear hx hy
 by_cases h0:x0=y0 <;> by_cases h1:x1=y1 <;> simp [h0,h1]
theorem szL_AtomS (N:Nat):∀ k xs l i,laws_szAtomS_L1 N k xs l i=gszL (fun (x:ByteArray × List Int) l=>laws_szAtom N x.1 x.2 l) k xs l i:=by
 intro k
 induction k with
 | zero=>intros;rfl
 | succ k ih=>intro xs l i;rw [laws_szAtomS_L1,gszL];simp only [ih]
theorem sz_AtomS {N:Nat} {x:List (ByteArray × List Int)} {l:Int} (hN:1073741824≤N) (hp:(AllL (fun x=>(fun s=>s.size≤9223372036854775807) x.1∧(AllL (fun _=>True) 9223372036854775807) x.2) 9223372036854775807) x) (h0:0≤l) (h1:l≤1048576):∃ r,laws_szAtomS N x l=some r∧(0≤r→(AllL (fun x=>(fun s=>s.size≤1048576) x.1∧(AllL (fun _=>True) 1048576) x.2) 1048576) x∧r≤1048576):=by
 have:=gsz_ok hN (f:=fun (x:ByteArray × List Int) l=>laws_szAtom N x.1 x.2 l) (p:=fun x=>(fun s=>s.size≤9223372036854775807) x.1∧(AllL (fun _=>True) 9223372036854775807) x.2) (ok:=fun x=>(fun s=>s.size≤1048576) x.1∧(AllL (fun _=>True) 1048576) x.2) (fun x l hp h0 h1=>sz_Atom hN hp h0 h1) hp h0 h1
 unfold gsz at this;unfold laws_szAtomS;simp only [szL_AtomS];exact this
theorem toL_AtomS (N:Nat):∀ k xs ys i,laws_toAtomS_L1 N k xs ys i=gtoL (fun (x:ByteArray × List Int)=>laws_toAtom N x.1 x.2) k xs ys i:=by
 intro k
 induction k with
 | zero=>intros;rfl
 | succ k ih=>intro xs ys i;rw [laws_toAtomS_L1,gtoL];simp only [ih]
theorem to_AtomS {N:Nat} {x:List (ByteArray × List Int)} (hN:1073741824≤N) (h:(AllL (fun x=>(fun s=>s.size≤1048576) x.1∧(AllL (fun _=>True) 1048576) x.2) 1048576) x):laws_toAtomS N x=some x:=by
 have:=gto_ok (b:=40) (z:=((ByteArray.empty,[]):ByteArray × List Int)) (by decide) hN (f:=fun (x:ByteArray × List Int)=>laws_toAtom N x.1 x.2) (fun x hx=>to_Atom hN hx) h
 unfold gto at this;unfold laws_toAtomS;simp only [toL_AtomS];exact this
theorem eqL_AtomS (N:Nat):∀ k xs ys i,laws_eqAtomS_L1 N k xs ys i=geqL (fun (x y:ByteArray × List Int)=>laws_eqAtom N x.1 x.2 y.1 y.2) k xs ys i:=by
 intro k
 induction k with
 | zero=>intros;rfl
 | succ k ih=>intro xs ys i;rw [laws_eqAtomS_L1,geqL];simp only [ih]
theorem eq_AtomS {N:Nat} {x y:List (ByteArray × List Int)} (hN:1073741824≤N) (hx:(AllL (fun x=>(fun s=>s.size≤1048576) x.1∧(AllL (fun _=>True) 1048576) x.2) 1048576) x) (hy:(AllL (fun x=>(fun s=>s.size≤1048576) x.1∧(AllL (fun _=>True) 1048576) x.2) 1048576) y):laws_eqAtomS N x y=some (decide (x=y)):=by
 have:=geq_ok hN (f:=fun (x y:ByteArray × List Int)=>laws_eqAtom N x.1 x.2 y.1 y.2) (fun x y hx hy=>eq_Atom hN hx hy) hx hy
 unfold geq at this;unfold laws_eqAtomS;simp only [eqL_AtomS];exact this
theorem sz_Query {N:Nat} {x:Int × List (ByteArray × List Int) × List Int} {l:Int} (hN:1073741824≤N) (hp:(fun x=>(AllL (fun x=>(fun s=>s.size≤9223372036854775807) x.1∧(AllL (fun _=>True) 9223372036854775807) x.2) 9223372036854775807) x.2.1∧(AllL (fun _=>True) 9223372036854775807) x.2.2) x) (h0:0≤l) (h1:l≤1048576):∃ r,laws_szQuery N x.1 x.2.1 x.2.2 l=some r∧(0≤r→(fun x=>(AllL (fun x=>(fun s=>s.size≤1048576) x.1∧(AllL (fun _=>True) 1048576) x.2) 1048576) x.2.1∧(AllL (fun _=>True) 1048576) x.2.2) x∧r≤1048576):=by
 unfold laws_szQuery
 obtain ⟨r0,e0,k0⟩:=sz_AtomS hN hp.1 (l:=l) (by omega) (by omega)
 rw [e0,bs]
 by_cases hn0:r0<0
 ·rw [decide_eq_true hn0,cond_true];exact ⟨-1,rfl,fun h=>absurd h (by omega)⟩
 rw [decide_eq_false hn0,cond_false]
 have b0:r0≤1048576:=(k0 (by omega)).2
 obtain ⟨r1,e1,k1⟩:=sz_IntS hN hp.2 (l:=r0) (by omega) (by omega)
 rw [e1,bs]
 by_cases hn1:r1<0
 ·rw [decide_eq_true hn1,cond_true];exact ⟨-1,rfl,fun h=>absurd h (by omega)⟩
 rw [decide_eq_false hn1,cond_false]
 have b1:r1≤1048576:=(k1 (by omega)).2
 exact ⟨_,rfl,fun _=>⟨⟨(k0 (by omega)).1,(k1 (by omega)).1⟩,b1⟩⟩
theorem to_Query {N:Nat} {x:Int × List (ByteArray × List Int) × List Int} (hN:1073741824≤N) (h:(fun x=>(AllL (fun x=>(fun s=>s.size≤1048576) x.1∧(AllL (fun _=>True) 1048576) x.2) 1048576) x.2.1∧(AllL (fun _=>True) 1048576) x.2.2) x):laws_toQuery N x.1 x.2.1 x.2.2=some x:=by
 unfold laws_toQuery
 rw [to_AtomS hN h.1,bs,to_IntS hN h.2,bs]
theorem eq_Query {N:Nat} {x y:Int × List (ByteArray × List Int) × List Int} (hN:1073741824≤N) (hx:(fun x=>(AllL (fun x=>(fun s=>s.size≤1048576) x.1∧(AllL (fun _=>True) 1048576) x.2) 1048576) x.2.1∧(AllL (fun _=>True) 1048576) x.2.2) x) (hy:(fun x=>(AllL (fun x=>(fun s=>s.size≤1048576) x.1∧(AllL (fun _=>True) 1048576) x.2) 1048576) x.2.1∧(AllL (fun _=>True) 1048576) x.2.2) y):laws_eqQuery N x.1 x.2.1 x.2.2 y.1 y.2.1 y.2.2=some (decide (x=y)):=by
 unfold laws_eqQuery
 simp only [eq_AtomS hN hx.1 hy.1,eq_IntS hN hx.2 hy.2,bs,eqS_dec,bneD]
 obtain ⟨x0,x1,x2⟩:=x
 obtain ⟨y0,y1,y2⟩:=y
 clear hx hy
 by_cases h0:x0=y0 <;> by_cases h1:x1=y1 <;> by_cases h2:x2=y2 <;> simp [h0,h1,h2]
theorem szL_IntSS (N:Nat):∀ k xs l i,laws_szIntSS_L1 N k xs l i=gszL (fun (x:List Int) l=>laws_szIntS N x l) k xs l i:=by
 intro k
 induction k with
 | zero=>intros;rfl
 | succ k ih=>intro xs l i;rw [laws_szIntSS_L1,gszL];simp only [ih]
theorem sz_IntSS {N:Nat} {x:List (List Int)} {l:Int} (hN:1073741824≤N) (hp:(AllL (AllL (fun _=>True) 9223372036854775807) 9223372036854775807) x) (h0:0≤l) (h1:l≤1048576):∃ r,laws_szIntSS N x l=some r∧(0≤r→(AllL (AllL (fun _=>True) 1048576) 1048576) x∧r≤1048576):=by
 have:=gsz_ok hN (f:=fun (x:List Int) l=>laws_szIntS N x l) (p:=AllL (fun _=>True) 9223372036854775807) (ok:=AllL (fun _=>True) 1048576) (fun x l hp h0 h1=>sz_IntS hN hp h0 h1) hp h0 h1
 unfold gsz at this;unfold laws_szIntSS;simp only [szL_IntSS];exact this
theorem toL_IntSS (N:Nat):∀ k xs ys i,laws_toIntSS_L1 N k xs ys i=gtoL (fun (x:List Int)=>laws_toIntS N x) k xs ys i:=by
 intro k
 induction k with
 | zero=>intros;rfl
 | succ k ih=>intro xs ys i;rw [laws_toIntSS_L1,gtoL];simp only [ih]
theorem to_IntSS {N:Nat} {x:List (List Int)} (hN:1073741824≤N) (h:(AllL (AllL (fun _=>True) 1048576) 1048576) x):laws_toIntSS N x=some x:=by
 have:=gto_ok (b:=24) (z:=([]:List Int)) (by decide) hN (f:=fun (x:List Int)=>laws_toIntS N x) (fun x hx=>to_IntS hN hx) h
 unfold gto at this;unfold laws_toIntSS;simp only [toL_IntSS];exact this
theorem eqL_IntSS (N:Nat):∀ k xs ys i,laws_eqIntSS_L1 N k xs ys i=geqL (fun (x y:List Int)=>laws_eqIntS N x y) k xs ys i:=by
 intro k
 induction k with
 | zero=>intros;rfl
 | succ k ih=>intro xs ys i;rw [laws_eqIntSS_L1,geqL];simp only [ih]
theorem eq_IntSS {N:Nat} {x y:List (List Int)} (hN:1073741824≤N) (hx:(AllL (AllL (fun _=>True) 1048576) 1048576) x) (hy:(AllL (AllL (fun _=>True) 1048576) 1048576) y):laws_eqIntSS N x y=some (decide (x=y)):=by
 have:=geq_ok hN (f:=fun (x y:List Int)=>laws_eqIntS N x y) (fun x y hx hy=>eq_IntS hN hx hy) hx hy
 unfold geq at this;unfold laws_eqIntSS;simp only [eqL_IntSS];exact this
theorem sz_Relation {N:Nat} {x:Int × List (List Int)} {l:Int} (hN:1073741824≤N) (hp:(fun x=>(AllL (AllL (fun _=>True) 9223372036854775807) 9223372036854775807) x.2) x) (h0:0≤l) (h1:l≤1048576):∃ r,laws_szRelation N x.1 x.2 l=some r∧(0≤r→(fun x=>(AllL (AllL (fun _=>True) 1048576) 1048576) x.2) x∧r≤1048576):=by
 unfold laws_szRelation
 obtain ⟨r0,e0,k0⟩:=sz_IntSS hN hp (l:=l) (by omega) (by omega)
 rw [e0,bs]
 by_cases hn0:r0<0
 ·rw [decide_eq_true hn0,cond_true];exact ⟨-1,rfl,fun h=>absurd h (by omega)⟩
 rw [decide_eq_false hn0,cond_false]
 have b0:r0≤1048576:=(k0 (by omega)).2
 exact ⟨_,rfl,fun _=>⟨(k0 (by omega)).1,b0⟩⟩
theorem to_Relation {N:Nat} {x:Int × List (List Int)} (hN:1073741824≤N) (h:(fun x=>(AllL (AllL (fun _=>True) 1048576) 1048576) x.2) x):laws_toRelation N x.1 x.2=some x:=by
 unfold laws_toRelation
 rw [to_IntSS hN h,bs]
theorem eq_Relation {N:Nat} {x y:Int × List (List Int)} (hN:1073741824≤N) (hx:(fun x=>(AllL (AllL (fun _=>True) 1048576) 1048576) x.2) x) (hy:(fun x=>(AllL (AllL (fun _=>True) 1048576) 1048576) x.2) y):laws_eqRelation N x.1 x.2 y.1 y.2=some (decide (x=y)):=by
 unfold laws_eqRelation
 simp only [eq_IntSS hN hx hy,bs,eqS_dec,bneD]
 obtain ⟨x0,x1⟩:=x
 obtain ⟨y0,y1⟩:=y
 clear hx hy
 by_cases h0:x0=y0 <;> by_cases h1:x1=y1 <;> simp [h0,h1]
theorem sz_Table {N:Nat} {x:ByteArray × (Int × List (List Int))} {l:Int} (hN:1073741824≤N) (hp:(fun x=>(fun s=>s.size≤9223372036854775807) x.1∧(fun x=>(AllL (AllL (fun _=>True) 9223372036854775807) 9223372036854775807) x.2) x.2) x) (h0:0≤l) (h1:l≤1048576):∃ r,laws_szTable N x.1 x.2.1 x.2.2 l=some r∧(0≤r→(fun x=>(fun s=>s.size≤1048576) x.1∧(fun x=>(AllL (AllL (fun _=>True) 1048576) 1048576) x.2) x.2) x∧r≤1048576):=by
 unfold laws_szTable
 have e0:sb l ((x.1).size:Int)=some (l-(x.1).size):=by unfold sb;rw [if_pos];unfold rng;simp only [Bool.and_eq_true,decide_eq_true_eq];have:=hp.1;omega
 rw [e0,bs]
 generalize hr0:l-((x.1).size:Int)=r0
 by_cases hn0:r0<0
 ·rw [decide_eq_true hn0,cond_true];exact ⟨-1,rfl,fun h=>absurd h (by omega)⟩
 rw [decide_eq_false hn0,cond_false]
 have b0:r0≤1048576:=by omega
 obtain ⟨r1,e1,k1⟩:=sz_Relation hN hp.2 (l:=r0) (by omega) (by omega)
 rw [e1,bs]
 by_cases hn1:r1<0
 ·rw [decide_eq_true hn1,cond_true];exact ⟨-1,rfl,fun h=>absurd h (by omega)⟩
 rw [decide_eq_false hn1,cond_false]
 have b1:r1≤1048576:=(k1 (by omega)).2
 exact ⟨_,rfl,fun _=>⟨⟨(by show (x.1).size≤1048576;omega),(k1 (by omega)).1⟩,b1⟩⟩
theorem to_Table {N:Nat} {x:ByteArray × (Int × List (List Int))} (hN:1073741824≤N) (h:(fun x=>(fun s=>s.size≤1048576) x.1∧(fun x=>(AllL (AllL (fun _=>True) 1048576) 1048576) x.2) x.2) x):laws_toTable N x.1 x.2.1 x.2.2=some x:=by
 unfold laws_toTable
 rw [to_Relation hN h.2,bs]
theorem eq_Table {N:Nat} {x y:ByteArray × (Int × List (List Int))} (hN:1073741824≤N) (hx:(fun x=>(fun s=>s.size≤1048576) x.1∧(fun x=>(AllL (AllL (fun _=>True) 1048576) 1048576) x.2) x.2) x) (hy:(fun x=>(fun s=>s.size≤1048576) x.1∧(fun x=>(AllL (AllL (fun _=>True) 1048576) 1048576) x.2) x.2) y):laws_eqTable N x.1 x.2.1 x.2.2 y.1 y.2.1 y.2.2=some (decide (x=y)):=by
 unfold laws_eqTable
 simp only [eq_Relation hN hx.2 hy.2,bs,eqS_dec,bneD]
 obtain ⟨x0,x1⟩:=x
 obtain ⟨y0,y1⟩:=y
 clear hx hy
 by_cases h0:x0=y0 <;> by_cases h1:x1=y1 <;> simp [h0,h1]
theorem szL_TableS (N:Nat):∀ k xs l i,laws_szTableS_L1 N k xs l i=gszL (fun (x:ByteArray × (Int × List (List Int))) l=>laws_szTable N x.1 x.2.1 x.2.2 l) k xs l i:=by
 intro k
 induction k with
 | zero=>intros;rfl
 | succ k ih=>intro xs l i;rw [laws_szTableS_L1,gszL];simp only [ih]
theorem sz_TableS {N:Nat} {x:List (ByteArray × (Int × List (List Int)))} {l:Int} (hN:1073741824≤N) (hp:(AllL (fun x=>(fun s=>s.size≤9223372036854775807) x.1∧(fun x=>(AllL (AllL (fun _=>True) 9223372036854775807) 9223372036854775807) x.2) x.2) 9223372036854775807) x) (h0:0≤l) (h1:l≤1048576):∃ r,laws_szTableS N x l=some r∧(0≤r→(AllL (fun x=>(fun s=>s.size≤1048576) x.1∧(fun x=>(AllL (AllL (fun _=>True) 1048576) 1048576) x.2) x.2) 1048576) x∧r≤1048576):=by
 have:=gsz_ok hN (f:=fun (x:ByteArray × (Int × List (List Int))) l=>laws_szTable N x.1 x.2.1 x.2.2 l) (p:=fun x=>(fun s=>s.size≤9223372036854775807) x.1∧(fun x=>(AllL (AllL (fun _=>True) 9223372036854775807) 9223372036854775807) x.2) x.2) (ok:=fun x=>(fun s=>s.size≤1048576) x.1∧(fun x=>(AllL (AllL (fun _=>True) 1048576) 1048576) x.2) x.2) (fun x l hp h0 h1=>sz_Table hN hp h0 h1) hp h0 h1
 unfold gsz at this;unfold laws_szTableS;simp only [szL_TableS];exact this
theorem toL_TableS (N:Nat):∀ k xs ys i,laws_toTableS_L1 N k xs ys i=gtoL (fun (x:ByteArray × (Int × List (List Int)))=>laws_toTable N x.1 x.2.1 x.2.2) k xs ys i:=by
 intro k
 induction k with
 | zero=>intros;rfl
 | succ k ih=>intro xs ys i;rw [laws_toTableS_L1,gtoL];simp only [ih]
theorem to_TableS {N:Nat} {x:List (ByteArray × (Int × List (List Int)))} (hN:1073741824≤N) (h:(AllL (fun x=>(fun s=>s.size≤1048576) x.1∧(fun x=>(AllL (AllL (fun _=>True) 1048576) 1048576) x.2) x.2) 1048576) x):laws_toTableS N x=some x:=by
 have:=gto_ok (b:=48) (z:=((ByteArray.empty,(0,[])):ByteArray × (Int × List (List Int)))) (by decide) hN (f:=fun (x:ByteArray × (Int × List (List Int)))=>laws_toTable N x.1 x.2.1 x.2.2) (fun x hx=>to_Table hN hx) h
 unfold gto at this;unfold laws_toTableS;simp only [toL_TableS];exact this
theorem eqL_TableS (N:Nat):∀ k xs ys i,laws_eqTableS_L1 N k xs ys i=geqL (fun (x y:ByteArray × (Int × List (List Int)))=>laws_eqTable N x.1 x.2.1 x.2.2 y.1 y.2.1 y.2.2) k xs ys i:=by
 intro k
 induction k with
 | zero=>intros;rfl
 | succ k ih=>intro xs ys i;rw [laws_eqTableS_L1,geqL];simp only [ih]
theorem eq_TableS {N:Nat} {x y:List (ByteArray × (Int × List (List Int)))} (hN:1073741824≤N) (hx:(AllL (fun x=>(fun s=>s.size≤1048576) x.1∧(fun x=>(AllL (AllL (fun _=>True) 1048576) 1048576) x.2) x.2) 1048576) x) (hy:(AllL (fun x=>(fun s=>s.size≤1048576) x.1∧(fun x=>(AllL (AllL (fun _=>True) 1048576) 1048576) x.2) x.2) 1048576) y):laws_eqTableS N x y=some (decide (x=y)):=by
 have:=geq_ok hN (f:=fun (x y:ByteArray × (Int × List (List Int)))=>laws_eqTable N x.1 x.2.1 x.2.2 y.1 y.2.1 y.2.2) (fun x y hx hy=>eq_Table hN hx hy) hx hy
 unfold geq at this;unfold laws_eqTableS;simp only [eqL_TableS];exact this
theorem sz_Database {N:Nat} {x:List (ByteArray × (Int × List (List Int)))} {l:Int} (hN:1073741824≤N) (hp:(fun x=>(AllL (fun x=>(fun s=>s.size≤9223372036854775807) x.1∧(fun x=>(AllL (AllL (fun _=>True) 9223372036854775807) 9223372036854775807) x.2) x.2) 9223372036854775807) x) x) (h0:0≤l) (h1:l≤1048576):∃ r,laws_szDatabase N x l=some r∧(0≤r→(fun x=>(AllL (fun x=>(fun s=>s.size≤1048576) x.1∧(fun x=>(AllL (AllL (fun _=>True) 1048576) 1048576) x.2) x.2) 1048576) x) x∧r≤1048576):=by
 unfold laws_szDatabase
 obtain ⟨r0,e0,k0⟩:=sz_TableS hN hp (l:=l) (by omega) (by omega)
 rw [e0,bs]
 by_cases hn0:r0<0
 ·rw [decide_eq_true hn0,cond_true];exact ⟨-1,rfl,fun h=>absurd h (by omega)⟩
 rw [decide_eq_false hn0,cond_false]
 have b0:r0≤1048576:=(k0 (by omega)).2
 exact ⟨_,rfl,fun _=>⟨(k0 (by omega)).1,b0⟩⟩
theorem to_Database {N:Nat} {x:List (ByteArray × (Int × List (List Int)))} (hN:1073741824≤N) (h:(fun x=>(AllL (fun x=>(fun s=>s.size≤1048576) x.1∧(fun x=>(AllL (AllL (fun _=>True) 1048576) 1048576) x.2) x.2) 1048576) x) x):laws_toDatabase N x=some x:=by
 unfold laws_toDatabase
 rw [to_TableS hN h,bs]
theorem eq_Database {N:Nat} {x y:List (ByteArray × (Int × List (List Int)))} (hN:1073741824≤N) (hx:(fun x=>(AllL (fun x=>(fun s=>s.size≤1048576) x.1∧(fun x=>(AllL (AllL (fun _=>True) 1048576) 1048576) x.2) x.2) 1048576) x) x) (hy:(fun x=>(AllL (fun x=>(fun s=>s.size≤1048576) x.1∧(fun x=>(AllL (AllL (fun _=>True) 1048576) 1048576) x.2) x.2) 1048576) x) y):laws_eqDatabase N x y=some (decide (x=y)):=by
 unfold laws_eqDatabase
 simp only [eq_TableS hN hx hy,bs,eqS_dec,bneD]
 clear hx hy
 by_cases h0:x=y <;> simp [h0]
theorem mk_IntS {N:Nat} {x:List Int} (hN:1073741824≤N) (h:(AllL (fun _=>True) 1048576) x) {k:Int} (h0:0≤k) (h1:k+1048576≤4611686018427387904):∃ r,laws_markIntS N x k=some r∧k≤r.1∧r.1≤k+1048576∧laws_heldIntS N r.2 k=some r.1:=by
 have hl:x.length≤1048576:=by have:=h.1;omega
 obtain ⟨ys,s',e1,e2,e3,e4,_,e6⟩:=gmk (fun n xs s i=>laws_markIntS_L1 N n xs s i) (fun n xs s i=>laws_heldIntS_L1 N n xs s i) (fun (_:Int) s=>(ad s 1).bind fun t=>some (t,s)) (fun (y:Int) s=>bif (y != s) then none else ad s 1) (fun _=>True) 1 4611686018427387904 (by omega)
   (fun n xs s i h r hl hr=>by
    obtain ⟨t,ht,h2⟩:=ob hr
    cases h2
    show laws_markIntS_L1 N (n+1) xs s (i:Int)=_
    rw [laws_markIntS_L1,dlt h,cond_true,ix_nat h,bs,sto_nat h,bs,ht,bs,ad1 (by omega),bs])
   (fun n xs s=>by
    show laws_markIntS_L1 N (n+1) xs s (xs.length:Int)=_
    rw [laws_markIntS_L1,dge (by omega),cond_false])
   (fun n xs s i h r hl hr h0 h1=>by
    show laws_heldIntS_L1 N (n+1) xs s (i:Int)=_
    rw [laws_heldIntS_L1,dlt h,cond_true,ix_nat h,bs]
    revert hr
    cases (xs[i] != s) with
    | true=>intro hr;cases hr
    | false=>intro hr;rw [cond_false] at hr ⊢;rw [hr,bs,ad1 (by omega),bs])
   (fun n xs s=>by
    show laws_heldIntS_L1 N (n+1) xs s (xs.length:Int)=_
    rw [laws_heldIntS_L1,dge (by omega),cond_false])
   (fun x s _ h0 h1=>⟨(s+1,s),by rw [ad_ok (by omega) (by omega),bs],by simp only [];omega,by simp only [];omega,by simp only [bne_self_eq_false,cond_false];exact ad_ok (by omega) (by omega)⟩) x.length 0 N x k (by omega) (by omega) (by omega) (fun j hj _=>h.2 _ (List.getElem_mem hj)) h0 (by have h9:(x.length:Int)*1≤1048576:=(by omega);omega)
 have e1':laws_markIntS_L1 N N x k 0=some (ys,s',(ys.length:Int)):=e1
 refine ⟨(s',ys),by unfold laws_markIntS;rw [e1',bs,lpB],e2,?_,?_⟩
 ·have:(x.length:Int)*1≤1048576:=by omega
  simp only [];omega
 ·have e6':laws_heldIntS_L1 N N ys k 0=some (.inr (s',(ys.length:Int))):=e6 N (by omega)
  unfold laws_heldIntS;simp only [];rw [e6',bs];rfl
theorem mk_AtomS {N:Nat} {x:List (ByteArray × List Int)} (hN:1073741824≤N) (h:(AllL (fun x=>(fun s=>s.size≤1048576) x.1∧(AllL (fun _=>True) 1048576) x.2) 1048576) x) {k:Int} (h0:0≤k) (h1:k+1099512676352≤4611686018427387904):∃ r,laws_markAtomS N x k=some r∧k≤r.1∧r.1≤k+1099512676352:=by
 have hl:x.length≤1048576:=by have:=h.1;omega
 obtain ⟨ys,s',e1,e2,e3,e4⟩:=gmk0 (fun n xs s i=>laws_markAtomS_L1 N n xs s i) (fun (x:ByteArray × List Int) s=>(laws_markText N s).bind fun t0=>(ad s 1).bind fun s0=>(laws_markIntS N x.2 s0).bind fun r1=>some (r1.1,(t0,r1.2))) (fun x=>(fun s=>s.size≤1048576) x.1∧(AllL (fun _=>True) 1048576) x.2) 1048577 4611686018427387904 (by omega)
   (by
  intro n xs s i h r hl hr
  obtain ⟨t0,ht0,hr⟩:=ob hr
  obtain ⟨s0,hs0,hr⟩:=ob hr
  obtain ⟨r1,hr1,hr⟩:=ob hr
  cases hr
  show laws_markAtomS_L1 N (n+1) xs s (i:Int)=_
  rw [laws_markAtomS_L1]
  simp only [dlt h,cond_true,ix_nat h,sto_nat h,bs,ix_set h,sto_set h,ht0,hs0,hr1,ad1 (show i<1099511627776 by omega)])
   (fun n xs s=>by
    show laws_markAtomS_L1 N (n+1) xs s (xs.length:Int)=_
    rw [laws_markAtomS_L1,dge (by omega),cond_false])
   (by
  intro x s hx h0 h1
  obtain ⟨t0,ht0,_⟩:=markText_ok (N:=N) hN (s:=s) (by omega) (by omega)
  have hs0:ad s 1=some (s+1):=ad_ok (by omega) (by omega)
  obtain ⟨r1,hr1,a1,b1,d1⟩:=mk_IntS (x:=x.2) hN hx.2 (k:=(s+1)) (by omega) (by omega)
  exact ⟨(r1.1,(t0,r1.2)),by simp only [ht0,hs0,hr1,bs],by simp only [];omega,by simp only [];omega⟩) x.length 0 N x k (by omega) (by omega) (by omega) (fun j hj _=>h.2 _ (List.getElem_mem hj)) h0 (by have h9:(x.length:Int)*1048577≤1099512676352:=(by omega);omega)
 have e1':laws_markAtomS_L1 N N x k 0=some (ys,s',(ys.length:Int)):=e1
 refine ⟨(s',ys),by unfold laws_markAtomS;rw [e1',bs,lpB],e2,?_⟩
 ·have:(x.length:Int)*1048577≤1099512676352:=by omega
  simp only [];omega
theorem mk_Query {N:Nat} {x:Int × List (ByteArray × List Int) × List Int} (hN:1073741824≤N) (h:(fun x=>(AllL (fun x=>(fun s=>s.size≤1048576) x.1∧(AllL (fun _=>True) 1048576) x.2) 1048576) x.2.1∧(AllL (fun _=>True) 1048576) x.2.2) x) {k:Int} (h0:0≤k) (h1:k+1099513724928≤4611686018427387904):∃ r,laws_markQuery N x.1 x.2.1 x.2.2 k=some r∧k≤r.1∧r.1≤k+1099513724928:=by
 obtain ⟨r0,e0,a0,b0⟩:=mk_AtomS hN h.1 (k:=k) (by omega) (by omega)
 obtain ⟨r1,e1,a1,b1,d1⟩:=mk_IntS hN h.2 (k:=r0.1) (by omega) (by omega)
 unfold laws_markQuery
 rw [e0,bs,e1,bs]
 refine ⟨_,rfl,by simp only [];omega,by simp only [];omega⟩
theorem mk_IntSS {N:Nat} {x:List (List Int)} (hN:1073741824≤N) (h:(AllL (AllL (fun _=>True) 1048576) 1048576) x) {k:Int} (h0:0≤k) (h1:k+1099511627776≤4611686018427387904):∃ r,laws_markIntSS N x k=some r∧k≤r.1∧r.1≤k+1099511627776∧laws_heldIntSS N r.2 k=some r.1:=by
 have hl:x.length≤1048576:=by have:=h.1;omega
 obtain ⟨ys,s',e1,e2,e3,e4,_,e6⟩:=gmk (fun n xs s i=>laws_markIntSS_L1 N n xs s i) (fun n xs s i=>laws_heldIntSS_L1 N n xs s i) (fun (x:List Int) s=>laws_markIntS N x s) (fun (y:List Int) s=>laws_heldIntS N y s) (AllL (fun _=>True) 1048576) 1048576 4611686018427387904 (by omega)
   (fun n xs s i h r hl hr=>by
    show laws_markIntSS_L1 N (n+1) xs s (i:Int)=_
    rw [laws_markIntSS_L1,dlt h,cond_true,ix_nat h,bs,hr,bs,sto_nat h,bs,ad1 (by omega),bs])
   (fun n xs s=>by
    show laws_markIntSS_L1 N (n+1) xs s (xs.length:Int)=_
    rw [laws_markIntSS_L1,dge (by omega),cond_false])
   (fun n xs s i h r hl hr h0 h1=>by
    show laws_heldIntSS_L1 N (n+1) xs s (i:Int)=_
    rw [laws_heldIntSS_L1,dlt h,cond_true,ix_nat h,bs,hr,bs,decide_eq_false (by omega),cond_false,ad1 (by omega),bs])
   (fun n xs s=>by
    show laws_heldIntSS_L1 N (n+1) xs s (xs.length:Int)=_
    rw [laws_heldIntSS_L1,dge (by omega),cond_false])
   (fun x s hx h0 h1=>mk_IntS hN hx h0 h1) x.length 0 N x k (by omega) (by omega) (by omega) (fun j hj _=>h.2 _ (List.getElem_mem hj)) h0 (by have h9:(x.length:Int)*1048576≤1099511627776:=(by omega);omega)
 have e1':laws_markIntSS_L1 N N x k 0=some (ys,s',(ys.length:Int)):=e1
 refine ⟨(s',ys),by unfold laws_markIntSS;rw [e1',bs,lpB],e2,?_,?_⟩
 ·have:(x.length:Int)*1048576≤1099511627776:=by omega
  simp only [];omega
 ·have e6':laws_heldIntSS_L1 N N ys k 0=some (.inr (s',(ys.length:Int))):=e6 N (by omega)
  unfold laws_heldIntSS;simp only [];rw [e6',bs];rfl
theorem mk_TableS {N:Nat} {x:List (ByteArray × (Int × List (List Int)))} (hN:1073741824≤N) (h:(AllL (fun x=>(fun s=>s.size≤1048576) x.1∧(fun x=>(AllL (AllL (fun _=>True) 1048576) 1048576) x.2) x.2) 1048576) x) {k:Int} (h0:0≤k) (h1:k+1152921504608944128≤4611686018427387904):∃ r,laws_markTableS N x k=some r∧k≤r.1∧r.1≤k+1152921504608944128:=by
 have hl:x.length≤1048576:=by have:=h.1;omega
 obtain ⟨ys,s',e1,e2,e3,e4⟩:=gmk0 (fun n xs s i=>laws_markTableS_L1 N n xs s i) (fun (x:ByteArray × (Int × List (List Int))) s=>(laws_markText N s).bind fun t0=>(ad s 1).bind fun s0=>(ad s0 1).bind fun s1=>(laws_markIntSS N x.2.2 s1).bind fun r2=>some (r2.1,(t0,(s0,r2.2)))) (fun x=>(fun s=>s.size≤1048576) x.1∧(fun x=>(AllL (AllL (fun _=>True) 1048576) 1048576) x.2) x.2) 1099511627778 4611686018427387904 (by omega)
   (by
  intro n xs s i h r hl hr
  obtain ⟨t0,ht0,hr⟩:=ob hr
  obtain ⟨s0,hs0,hr⟩:=ob hr
  obtain ⟨s1,hs1,hr⟩:=ob hr
  obtain ⟨r2,hr2,hr⟩:=ob hr
  cases hr
  show laws_markTableS_L1 N (n+1) xs s (i:Int)=_
  rw [laws_markTableS_L1]
  simp only [dlt h,cond_true,ix_nat h,sto_nat h,bs,ix_set h,sto_set h,ht0,hs0,hs1,hr2,ad1 (show i<1099511627776 by omega)])
   (fun n xs s=>by
    show laws_markTableS_L1 N (n+1) xs s (xs.length:Int)=_
    rw [laws_markTableS_L1,dge (by omega),cond_false])
   (by
  intro x s hx h0 h1
  obtain ⟨t0,ht0,_⟩:=markText_ok (N:=N) hN (s:=s) (by omega) (by omega)
  have hs0:ad s 1=some (s+1):=ad_ok (by omega) (by omega)
  have hs1:ad (s+1) 1=some ((s+1)+1):=ad_ok (by omega) (by omega)
  obtain ⟨r2,hr2,a2,b2,d2⟩:=mk_IntSS (x:=x.2.2) hN hx.2 (k:=((s+1)+1)) (by omega) (by omega)
  exact ⟨(r2.1,(t0,((s+1),r2.2))),by simp only [ht0,hs0,hs1,hr2,bs],by simp only [];omega,by simp only [];omega⟩) x.length 0 N x k (by omega) (by omega) (by omega) (fun j hj _=>h.2 _ (List.getElem_mem hj)) h0 (by have h9:(x.length:Int)*1099511627778≤1152921504608944128:=(by omega);omega)
 have e1':laws_markTableS_L1 N N x k 0=some (ys,s',(ys.length:Int)):=e1
 refine ⟨(s',ys),by unfold laws_markTableS;rw [e1',bs,lpB],e2,?_⟩
 ·have:(x.length:Int)*1099511627778≤1152921504608944128:=by omega
  simp only [];omega
theorem mk_Database {N:Nat} {x:List (ByteArray × (Int × List (List Int)))} (hN:1073741824≤N) (h:(fun x=>(AllL (fun x=>(fun s=>s.size≤1048576) x.1∧(fun x=>(AllL (AllL (fun _=>True) 1048576) 1048576) x.2) x.2) 1048576) x) x) {k:Int} (h0:0≤k) (h1:k+1152921504608944128≤4611686018427387904):∃ r,laws_markDatabase N x k=some r∧k≤r.1∧r.1≤k+1152921504608944128:=by
 obtain ⟨r0,e0,a0,b0⟩:=mk_TableS hN h (k:=k) (by omega) (by omega)
 unfold laws_markDatabase
 rw [e0,bs]
 refine ⟨_,rfl,by simp only [];omega,by simp only [];omega⟩
theorem mk_Relation {N:Nat} {x:Int × List (List Int)} (hN:1073741824≤N) (h:(fun x=>(AllL (AllL (fun _=>True) 1048576) 1048576) x.2) x) {k:Int} (h0:0≤k) (h1:k+1099511627776≤4611686018427387904):∃ r,laws_markRelation N x.1 x.2 k=some r∧k≤r.1∧r.1≤k+1099511627776∧laws_heldRelation N x.1 r.2 k=some r.1:=by
 obtain ⟨r0,e0,a0,b0,d0⟩:=mk_IntSS hN h (k:=k) (by omega) (by omega)
 unfold laws_markRelation
 rw [e0,bs]
 refine ⟨_,rfl,by simp only [];omega,by simp only [];omega,?_⟩
 unfold laws_heldRelation
 rw [d0,bs,decide_eq_false (by omega),cond_false]
end Go.Proofs.Ytkpeabpdiffjhaa
namespace Go.Proofs.Ytkpeabpdiffjhaa
open Go.RowKit

def inR (n lo hi:Int):Bool:=decide (lo≤n)&&decide (n≤hi)
theorem within_eq (N:Nat) (n lo hi:Int):impl_within N n lo hi=some (inR n lo hi):=by
 unfold impl_within inR;cases decide (lo≤n) <;> rfl
theorem l1In_eq (N:Nat) (n lo hi:Int):spec_l1In N n lo hi=some (inR n lo hi):=by
 unfold spec_l1In inR;cases decide (lo≤n) <;> rfl
theorem inR_iff {n lo hi:Int}:inR n lo hi=true↔lo≤n∧n≤hi:=by unfold inR;simp
def cmpI (a b:Int):Int:=if a<b then -1 else if b<a then 1 else 0
def cmpR:List Int→List Int→Int
 | [],[]=>0
 | [],_ :: _=>-1
 | _ :: _,[]=>1
 | a :: xs,b :: ys=>if a<b then -1 else if b<a then 1 else cmpR xs ys
theorem cmpR_zero:∀ {xs ys:List Int},cmpR xs ys=0↔xs=ys
 | [],[]=>by simp [cmpR]
 | [],_ :: _=>by simp [cmpR]
 | _ :: _,[]=>by simp [cmpR]
 | a :: xs,b :: ys=>by
  unfold cmpR
  by_cases h1:a<b
  ·rw [if_pos h1];simp;omega
  ·rw [if_neg h1]
   by_cases h2:b<a
   ·rw [if_pos h2];simp;omega
   ·rw [if_neg h2,cmpR_zero,List.cons.injEq]
    constructor
    ·rintro rfl;exact ⟨by omega,rfl⟩
    ·exact fun h=>h.2
theorem cmpR_nil (xs:List Int):cmpR xs []=if xs.length=0 then 0 else 1:=by cases xs <;> simp [cmpR]
theorem nil_cmpR (xs:List Int):cmpR [] xs=if xs.length=0 then 0 else -1:=by cases xs <;> simp [cmpR]
theorem compareInts_eq (N:Nat) (a b:Int):impl_compareInts N a b=some (cmpI a b):=by
 unfold impl_compareInts cmpI
 by_cases h1:a<b
 ·rw [decide_eq_true h1,if_pos h1];rfl
 ·rw [decide_eq_false h1,if_neg h1]
  by_cases h2:b<a
  ·rw [decide_eq_true h2,if_pos h2];rfl
  ·rw [decide_eq_false h2,if_neg h2];rfl
theorem drop_cons {α:Type} {xs:List α} {i:Nat} (h:i<xs.length):xs.drop i=xs[i] :: xs.drop (i+1):=List.drop_eq_getElem_cons h
section
variable {N:Nat} {xs ys:List Int}
theorem cmpImplL (hx:xs.length≤1048576) (hy:ys.length≤9223372036854775807):∀ k i,i≤xs.length→i≤ys.length→xs.length-i<k →
  ∃ s,impl_CompareRows_L1 N k xs ys (i:Int)=some s∧(match s with | .inl r=>cmpR (xs.drop i) (ys.drop i)=r | .inr _=>cmpR (xs.drop i) (ys.drop i)=cmpI xs.length ys.length):=by
 intro k
 induction k with
 | zero=>intro i h1 h2 h3;omega
 | succ k ih =>
  intro i h1 h2 h3
  rw [impl_CompareRows_L1]
  by_cases h:i<xs.length
  ·by_cases h':i<ys.length
   ·rw [dlt h,cond_true,dlt h',cond_true,ix_nat h,bs,ix_nat h',bs,drop_cons h,drop_cons h',cmpR]
    by_cases he:xs[i]=ys[i]
    ·rw [show (xs[i] != ys[i])=false by simpa using he,cond_false,ad1 (by omega),bs,if_neg (by omega),if_neg (by omega)]
     exact ih (i+1) (by omega) (by omega) (by omega)
    ·rw [show (xs[i] != ys[i])=true by simpa using he,cond_true,bs,bs,compareInts_eq,bs]
     refine ⟨_,rfl,?_⟩
     show _=cmpI xs[i] ys[i]
     unfold cmpI
     by_cases h1:xs[i]<ys[i]
     ·rw [if_pos h1,if_pos h1]
     ·rw [if_neg h1,if_neg h1,if_pos (by omega),if_pos (by omega)]
   ·rw [dlt h,cond_true,dge h',cond_false]
    refine ⟨_,rfl,?_⟩
    show _=cmpI _ _
    rw [List.drop_of_length_le (l:=ys) (by omega),cmpR_nil,if_neg (by simp;omega)]
    unfold cmpI;rw [if_neg (by omega),if_pos (by omega)]
  ·rw [dge h,cond_false]
   refine ⟨_,rfl,?_⟩
   show _=cmpI _ _
   rw [List.drop_of_length_le (l:=xs) (by omega),nil_cmpR]
   unfold cmpI
   by_cases h':i<ys.length
   ·rw [if_neg (by simp;omega),if_pos (by omega)]
   ·rw [if_pos (by simp;omega),if_neg (by omega),if_neg (by omega)]
theorem CompareRows_impl_eq (hN:1073741824≤N) (hx:xs.length≤1048576) (hy:ys.length≤9223372036854775807):impl_CompareRows N xs ys=some (cmpR xs ys):=by
 obtain ⟨s,h1,h2⟩:=cmpImplL (N:=N) hx hy N 0 (by omega) (by omega) (by omega)
 unfold impl_CompareRows
 rw [show ((0:Int))=((0:Nat):Int) from rfl,h1,bs]
 simp only [List.drop_zero] at h2
 cases s with
 | inl r=>rw [h2];rfl
 | inr v=>show (impl_compareInts N _ _).bind _=_;rw [compareInts_eq,bs,h2]
theorem cmpSpecL (hx:xs.length≤1048576) (hy:ys.length≤9223372036854775807):∀ k i,i≤xs.length→i≤ys.length→xs.length-i<k →
  ∃ s,spec_CompareRows_L1 N k xs ys (i:Int)=some s∧(match s with | .inl r=>cmpR (xs.drop i) (ys.drop i)=r | .inr _=>cmpR (xs.drop i) (ys.drop i)=cmpI xs.length ys.length):=by
 intro k
 induction k with
 | zero=>intro i h1 h2 h3;omega
 | succ k ih =>
  intro i h1 h2 h3
  rw [spec_CompareRows_L1]
  by_cases h:i<xs.length
  ·by_cases h':i<ys.length
   ·rw [dlt h,cond_true,dlt h',cond_true,ix_nat h,bs,ix_nat h',bs,drop_cons h,drop_cons h',cmpR]
    by_cases he:xs[i]<ys[i]
    ·rw [decide_eq_true he,cond_true,if_pos he];exact ⟨_,rfl,rfl⟩
    ·rw [decide_eq_false he,cond_false,if_neg he,bs,bs]
     by_cases he2:ys[i]<xs[i]
     ·rw [decide_eq_true he2,cond_true,if_pos he2];exact ⟨_,rfl,rfl⟩
     ·rw [decide_eq_false he2,cond_false,if_neg he2,ad1 (by omega),bs]
      exact ih (i+1) (by omega) (by omega) (by omega)
   ·rw [dlt h,cond_true,dge h',cond_false]
    refine ⟨_,rfl,?_⟩
    show _=cmpI _ _
    rw [List.drop_of_length_le (l:=ys) (by omega),cmpR_nil,if_neg (by simp;omega)]
    unfold cmpI;rw [if_neg (by omega),if_pos (by omega)]
  ·rw [dge h,cond_false]
   refine ⟨_,rfl,?_⟩
   show _=cmpI _ _
   rw [List.drop_of_length_le (l:=xs) (by omega),nil_cmpR]
   unfold cmpI
   by_cases h':i<ys.length
   ·rw [if_neg (by simp;omega),if_pos (by omega)]
   ·rw [if_pos (by simp;omega),if_neg (by omega),if_neg (by omega)]
theorem CompareRows_spec_eq (hN:1073741824≤N) (hx:xs.length≤1048576) (hy:ys.length≤9223372036854775807):spec_CompareRows N xs ys=some (cmpR xs ys):=by
 obtain ⟨s,h1,h2⟩:=cmpSpecL (N:=N) hx hy N 0 (by omega) (by omega) (by omega)
 unfold spec_CompareRows
 rw [show ((0:Int))=((0:Nat):Int) from rfl,h1,bs]
 simp only [List.drop_zero] at h2
 cases s with
 | inl r=>rw [h2];rfl
 | inr v =>
  rw [h2]
  show (bif decide ((xs.length:Int)<(ys.length:Int)) then _ else _)=_
  unfold cmpI
  by_cases h1:(xs.length:Int)<ys.length
  ·rw [decide_eq_true h1,if_pos h1];rfl
  ·rw [decide_eq_false h1,if_neg h1,cond_false]
   by_cases h2:(ys.length:Int)<xs.length
   ·rw [decide_eq_true h2,if_pos h2];rfl
   ·rw [decide_eq_false h2,if_neg h2];rfl
def fnd (v:Int):List Int→Int→Int
 | [],_=>-1
 | x :: xs,i=>if x=v then i else fnd v xs (i+1)
def findI (xs:List Int) (v:Int):Int:=fnd v xs 0
theorem fnd_spec (v:Int):∀ (xs:List Int) (i:Nat),(v∉xs∧fnd v xs i=-1)∨∃ j,∃ h:j<xs.length,xs[j]=v∧fnd v xs i=((i+j:Nat):Int)∧v∉xs.take j
 | [],i=>.inl ⟨by simp,rfl⟩
 | x :: xs,i=>by
  unfold fnd
  by_cases h:x=v
  ·rw [if_pos h];exact .inr ⟨0,by simp,by simpa using h,by simp,by simp⟩
  ·rw [if_neg h]
   rcases fnd_spec v xs (i+1) with ⟨h1,h2⟩ | ⟨j,hj,h1,h2,h3⟩
   ·exact .inl ⟨by simp [h1,Ne.symm h],by simpa using h2⟩
   ·exact .inr ⟨j+1,by simpa using hj,by simpa using h1,by rw [show ((i:Int)+1)=((i+1:Nat):Int) by simp,h2];congr 1;omega,by simp [h3,Ne.symm h]⟩
theorem findI_spec (xs:List Int) (v:Int):(v∉xs∧findI xs v=-1)∨∃ j,∃ h:j<xs.length,xs[j]=v∧findI xs v=(j:Int)∧v∉xs.take j:=by
 have:=fnd_spec v xs 0
 simpa [findI] using this
theorem findI_nonneg (xs:List Int) (v:Int):decide (0≤findI xs v)=decide (v∈xs):=by
 rcases findI_spec xs v with ⟨h1,h2⟩ | ⟨j,hj,h1,h2,_⟩
 ·rw [h2,decide_eq_false (by omega),decide_eq_false h1]
 ·rw [h2,decide_eq_true (by omega),decide_eq_true (h1 ▸ List.getElem_mem hj)]
theorem indexOf_eq (hN:1073741824≤N) (hx:xs.length≤1048576) (v:Int):impl_indexOf N xs v=some (findI xs v):=by
 have key:∀ k i,i≤xs.length→xs.length-i<k→∃ s,impl_indexOf_L1 N k v xs (xs.length:Int) (i:Int)=some s∧(match s with | .inl r=>fnd v (xs.drop i) i=r | .inr _=>fnd v (xs.drop i) i=-1):=by
  intro k
  induction k with
  | zero=>intro i h1 h2;omega
  | succ k ih =>
   intro i h1 h2
   rw [impl_indexOf_L1]
   by_cases h:i<xs.length
   ·rw [dlt h,cond_true,ix_nat h,bs,drop_cons h,fnd]
    by_cases he:xs[i]=v
    ·rw [show (xs[i] == v)=true by simpa using he,cond_true,if_pos he];exact ⟨_,rfl,rfl⟩
    ·rw [show (xs[i] == v)=false by simpa using he,cond_false,if_neg he,ad1 (by omega),bs]
     have:=ih (i+1) (by omega) (by omega)
     simpa using this
   ·rw [dge h,cond_false,List.drop_of_length_le (by omega)];exact ⟨_,rfl,rfl⟩
 obtain ⟨s,h1,h2⟩:=key N 0 (by omega) (by omega)
 unfold impl_indexOf findI
 rw [show ((0:Int))=((0:Nat):Int) from rfl,h1,bs]
 simp only [List.drop_zero] at h2
 cases s with
 | inl r=>rw [h2];rfl
 | inr r=>rw [h2];rfl
theorem l7Find_eq (hN:1073741824≤N) (hx:xs.length≤1048576) (v:Int):spec_l7Find N xs v=some (findI xs v):=by
 have key:∀ k i,i≤xs.length→xs.length-i<k→∃ s,spec_l7Find_L1 N k xs v (i:Int)=some s∧(match s with | .inl r=>fnd v (xs.drop i) i=r | .inr _=>fnd v (xs.drop i) i=-1):=by
  intro k
  induction k with
  | zero=>intro i h1 h2;omega
  | succ k ih =>
   intro i h1 h2
   rw [spec_l7Find_L1]
   by_cases h:i<xs.length
   ·rw [dlt h,cond_true,ix_nat h,bs,drop_cons h,fnd]
    by_cases he:xs[i]=v
    ·rw [show (xs[i] == v)=true by simpa using he,cond_true,if_pos he];exact ⟨_,rfl,rfl⟩
    ·rw [show (xs[i] == v)=false by simpa using he,cond_false,if_neg he,ad1 (by omega),bs]
     have:=ih (i+1) (by omega) (by omega)
     simpa using this
   ·rw [dge h,cond_false,List.drop_of_length_le (by omega)];exact ⟨_,rfl,rfl⟩
 obtain ⟨s,h1,h2⟩:=key N 0 (by omega) (by omega)
 unfold spec_l7Find findI
 rw [show ((0:Int))=((0:Nat):Int) from rfl,h1,bs]
 simp only [List.drop_zero] at h2
 cases s with
 | inl r=>rw [h2];rfl
 | inr r=>rw [h2];rfl
theorem hasInt_eq (hN:1073741824≤N) (hx:xs.length≤1048576) (v:Int):impl_hasInt N xs v=some (decide (v∈xs)):=by
 unfold impl_hasInt;rw [indexOf_eq hN hx,bs,findI_nonneg]
def validVals (xs:List Int):Bool:=xs.all fun x=>inR x 0 99
theorem AreValidValues_impl_eq (hN:1073741824≤N) (hx:xs.length≤1048576):impl_AreValidValues N xs=some (validVals xs):=by
 have:=loopA (L:=fun k i=>impl_AreValidValues_L1 N k xs (xs.length:Int) i) xs.length (by omega) false (fun i=>if h:i<xs.length then inR xs[i] 0 99 else true) (xs.length:Int)
  (fun k i h=>by
   show impl_AreValidValues_L1 N (k+1) xs _ (i:Int)=_
   rw [impl_AreValidValues_L1,dlt h,cond_true,ix_nat h,bs,within_eq,bs,ad1 (by omega),bs]
   simp only [dif_pos h])
  (fun k=>by
   show impl_AreValidValues_L1 N (k+1) xs _ (xs.length:Int)=_
   rw [impl_AreValidValues_L1,dge (by omega),cond_false]) N 0 (by omega) (by omega)
 unfold impl_AreValidValues validVals
 rw [show ((0:Int))=((0:Nat):Int) from rfl,this,bs,Nat.sub_zero,range_all xs (fun x=>inR x 0 99) _ (fun i hi=>by rw [dif_pos hi])]
 cases xs.all fun x=>inR x 0 99 <;> rfl
theorem AreValidValues_spec_eq (hN:1073741824≤N) (hx:xs.length≤1048576):spec_AreValidValues N xs=some (validVals xs):=by
 have:=loopA (L:=fun k i=>spec_AreValidValues_L1 N k xs i) xs.length (by omega) false (fun i=>if h:i<xs.length then inR xs[i] 0 99 else true) (xs.length:Int)
  (fun k i h=>by
   show spec_AreValidValues_L1 N (k+1) xs (i:Int)=_
   rw [spec_AreValidValues_L1,dlt h,cond_true,ix_nat h,bs,l1In_eq,bs,ad1 (by omega),bs]
   simp only [dif_pos h])
  (fun k=>by
   show spec_AreValidValues_L1 N (k+1) xs (xs.length:Int)=_
   rw [spec_AreValidValues_L1,dge (by omega),cond_false]) N 0 (by omega) (by omega)
 unfold spec_AreValidValues validVals
 rw [show ((0:Int))=((0:Nat):Int) from rfl,this,bs,Nat.sub_zero,range_all xs (fun x=>inR x 0 99) _ (fun i hi=>by rw [dif_pos hi])]
 cases xs.all fun x=>inR x 0 99 <;> rfl
def asc:List Int→Bool
 | []=>true
 | [_]=>true
 | x :: y :: t=>decide (x<y)&&asc (y :: t)
def isSetB (xs:List Int) (n:Int):Bool:=(List.range' 0 xs.length).all fun i=>inR (xs.getD i 0) 0 (n-1)&&!decide (xs.getD i 0∈xs.take i)
theorem getD_at {xs:List Int} {i:Nat} (h:i<xs.length):xs.getD i 0=xs[i]:=by simp [h]
theorem isSetOf_eq (hN:1073741824≤N) (hx:xs.length≤1048576) {n:Int} (hn:-1099511627776≤n∧n≤1099511627776):impl_isSetOf N xs n=some (isSetB xs n):=by
 have:=loopA (L:=fun k i=>impl_isSetOf_L1 N k xs n xs (xs.length:Int) i) xs.length (by omega) false (fun i=>inR (xs.getD i 0) 0 (n-1)&&!decide (xs.getD i 0∈xs.take i)) (xs.length:Int)
  (fun k i h=>by
   show impl_isSetOf_L1 N (k+1) xs n xs _ (i:Int)=_
   rw [impl_isSetOf_L1,dlt h,cond_true,ix_nat h,bs,sb_ok (by omega) (by omega),bs,within_eq,bs,show ((0:Int))=((0:Nat):Int) from rfl,slc_ok (Nat.zero_le _) (by omega),bs,List.drop_zero,hasInt_eq hN (by simp;omega),bs,ad1 (by omega),bs]
   simp only [show ((0:Nat):Int)=0 from rfl,getD_at h]
   cases inR xs[i] 0 (n-1)
   ·rfl
   ·cases decide (xs[i]∈xs.take i) <;> rfl)
  (fun k=>by
   show impl_isSetOf_L1 N (k+1) xs n xs _ (xs.length:Int)=_
   rw [impl_isSetOf_L1,dge (by omega),cond_false]) N 0 (by omega) (by omega)
 unfold impl_isSetOf isSetB
 rw [show ((0:Int))=((0:Nat):Int) from rfl,this,bs,Nat.sub_zero]
 simp only [show ((0:Nat):Int)=0 from rfl]
 cases (List.range' 0 xs.length).all fun i=>inR (xs.getD i 0) 0 (n-1)&&!decide (xs.getD i 0∈xs.take i) <;> rfl
def isPermB (xs:List Int):Bool:=decide ((xs.length:Int)≤5)&&isSetB xs xs.length
end
end Go.Proofs.Ytkpeabpdiffjhaa
namespace Go.Proofs.Ytkpeabpdiffjhaa
open Go.RowKit

abbrev okI (xs:List Int):Prop:=AllL (fun _=>True) 1048576 xs
abbrev okII (xs:List (List Int)):Prop:=AllL (AllL (fun _=>True) 1048576) 1048576 xs
section
variable {N:Nat}
theorem cmpR_bne (xs ys:List Int):(cmpR xs ys != 0)=!decide (xs=ys):=by
 rw [bneD];congr 1;rw [decide_eq_decide];exact cmpR_zero
end
end Go.Proofs.Ytkpeabpdiffjhaa
namespace Go.Proofs.Ytkpeabpdiffjhaa
open Go.RowKit

def rowOk (n:Int) (rows:List (List Int)) (i:Nat):Bool :=
 decide (((rows.getD i []).length:Int)=n)&&validVals (rows.getD i [])&&(Nat.beq i 0||decide (cmpR (rows.getD (i-1) []) (rows.getD i [])<0))
def validRows (n:Int) (rows:List (List Int)):Bool:=inR n 0 5&&decide ((rows.length:Int)≤4000)&&(List.range' 0 rows.length).all (rowOk n rows)
theorem getL_at {rows:List (List Int)} {i:Nat} (h:i<rows.length):rows.getD i []=rows[i]:=by simp [h]
section
variable {N:Nat}
theorem not_le_lt (a:Int):decide (0≤a)=!decide (a<0):=by by_cases h:a<0 <;> simp [h];omega
theorem rowsValid_eq (hN:1073741824≤N) {n:Int} {rows:List (List Int)} (hx:okII rows):impl_rowsValid N n rows=some (validRows n rows):=by
 have hl:=hx.1
 have:=loopA (L:=fun k i=>impl_rowsValid_L1 N k n rows rows (rows.length:Int) i) rows.length (by omega) false (rowOk n rows) (rows.length:Int)
  (fun k i h=>by
   have h1:=(hx.2 _ (List.getElem_mem h)).1
   show impl_rowsValid_L1 N (k+1) n rows rows _ (i:Int)=_
   rw [impl_rowsValid_L1,dlt h,cond_true,ix_nat h,bs,bneD,AreValidValues_impl_eq hN h1,bs]
   unfold rowOk
   rw [getL_at h]
   cases decide ((rows[i].length:Int)=n)
   ·rfl
   cases validVals rows[i]
   ·rfl
   cases i with
   | zero=>rw [ad1 (by omega)];rfl
   | succ j =>
    rw [show decide (0<((j+1:Nat):Int))=true from decide_eq_true (by omega),sb_ok (by omega) (by omega),bs,show (((j+1:Nat):Int)-1)=(j:Int) by omega,ix_nat (by omega),bs,CompareRows_impl_eq hN (hx.2 _ (List.getElem_mem (by omega))).1 (by omega),bs,ad1 (by omega),bs,not_le_lt,Nat.add_sub_cancel,getL_at (by omega)]
    cases decide (cmpR rows[j] rows[j+1]<0) <;> rfl)
  (fun k=>by
   show impl_rowsValid_L1 N (k+1) n rows rows _ (rows.length:Int)=_
   rw [impl_rowsValid_L1,dge (by omega),cond_false]) N 0 (by omega) (by omega)
 unfold impl_rowsValid validRows
 rw [within_eq,bs,show ((0:Int))=((0:Nat):Int) from rfl,this,bs,Nat.sub_zero]
 by_cases h4:(rows.length:Int)≤4000
 ·rw [decide_eq_true h4,decide_eq_false (by omega:¬ (4000:Int)<rows.length)]
  simp only [show ((0:Nat):Int)=0 from rfl]
  cases inR n 0 5 <;> cases (List.range' 0 rows.length).all (rowOk n rows) <;> rfl
 ·rw [decide_eq_false h4,decide_eq_true (by omega:(4000:Int)<rows.length)]
  simp only [show ((0:Nat):Int)=0 from rfl]
  cases inR n 0 5 <;> rfl
theorem IsValidRelation_impl_eq (hN:1073741824≤N) {n:Int} {rows:List (List Int)} (hx:okII rows):impl_IsValidRelation N n rows=some (validRows n rows):=by
 unfold impl_IsValidRelation;rw [rowsValid_eq hN hx,bs]
theorem IsValidRelation_spec_eq (hN:1073741824≤N) {n:Int} {rows:List (List Int)} (hx:okII rows):spec_IsValidRelation N n rows=some (validRows n rows):=by
 have hl:=hx.1
 have:=loopA (L:=fun k i=>spec_IsValidRelation_L1 N k n rows i) rows.length (by omega) false (rowOk n rows) (rows.length:Int)
  (fun k i h=>by
   have h1:=(hx.2 _ (List.getElem_mem h)).1
   show spec_IsValidRelation_L1 N (k+1) n rows (i:Int)=_
   rw [spec_IsValidRelation_L1,dlt h,cond_true,ix_nat h,bs,bneD,bs,AreValidValues_spec_eq hN h1,bs]
   unfold rowOk
   rw [getL_at h]
   cases decide ((rows[i].length:Int)=n)
   ·rfl
   cases validVals rows[i]
   ·rfl
   cases i with
   | zero=>rw [ad1 (by omega)];rfl
   | succ j =>
    rw [show decide (0<((j+1:Nat):Int))=true from decide_eq_true (by omega),sb_ok (by omega) (by omega),bs,show (((j+1:Nat):Int)-1)=(j:Int) by omega,ix_nat (by omega),bs,bs,CompareRows_spec_eq hN (hx.2 _ (List.getElem_mem (by omega))).1 (by omega),bs,ad1 (by omega),bs,not_le_lt,Nat.add_sub_cancel,getL_at (by omega)]
    cases decide (cmpR rows[j] rows[j+1]<0) <;> rfl)
  (fun k=>by
   show spec_IsValidRelation_L1 N (k+1) n rows (rows.length:Int)=_
   rw [spec_IsValidRelation_L1,dge (by omega),cond_false]) N 0 (by omega) (by omega)
 unfold spec_IsValidRelation validRows
 rw [l1In_eq,bs,show ((0:Int))=((0:Nat):Int) from rfl,this,bs,Nat.sub_zero]
 by_cases h4:(rows.length:Int)≤4000
 ·rw [decide_eq_true h4,decide_eq_false (by omega:¬ (4000:Int)<rows.length)]
  simp only [show ((0:Nat):Int)=0 from rfl]
  cases inR n 0 5 <;> cases (List.range' 0 rows.length).all (rowOk n rows) <;> rfl
 ·rw [decide_eq_false h4,decide_eq_true (by omega:(4000:Int)<rows.length)]
  simp only [show ((0:Nat):Int)=0 from rfl]
  cases inR n 0 5 <;> rfl
theorem validRows_spec {n:Int} {rows:List (List Int)} (h:validRows n rows=true):0≤n∧n≤5∧rows.length≤4000∧∀ i (hi:i<rows.length),(rows[i].length:Int)=n∧validVals rows[i]=true∧(∀ j (hj:j+1=i),cmpR (rows[j]'(by omega)) rows[i]<0):=by
 unfold validRows at h
 simp only [Bool.and_eq_true,inR_iff,decide_eq_true_eq,List.all_eq_true] at h
 refine ⟨h.1.1.1,h.1.1.2,by omega,fun i hi=>?_⟩
 have:=h.2 i (by simp;omega)
 unfold rowOk at this
 rw [getL_at hi] at this
 simp only [Bool.and_eq_true,decide_eq_true_eq,Bool.or_eq_true] at this
 refine ⟨this.1.1,this.1.2,?_⟩
 rintro j rfl
 rcases this.2 with h2 | h2
 ·exact absurd (Nat.eq_of_beq_eq_true h2) (by omega)
 ·rw [Nat.add_sub_cancel,getL_at (by omega)] at h2;exact h2

end
end Go.Proofs.Ytkpeabpdiffjhaa
namespace Go.Proofs.Ytkpeabpdiffjhaa
open Go.RowKit

abbrev FNode:=List Int × List Int
def chOk (far:List Int) (i:Nat) (ch:List Int) (j:Nat):Bool:=inR (ch.getD j 0) 0 ((i:Int)-1)&&decide (far.getD (ch.getD j 0).toNat 0=far.getD (ch.getD 0 0).toNat 0)
def newNode (nodes:List FNode) (i:Nat) (x:FNode):Bool:=((nodes.take i).drop 1).all fun m=>!decide (m=x)
def nodeX (nodes:List FNode) (olen:Nat) (far:List Int) (i:Nat) (x:FNode):Option Int :=
 bif decide (x.1.length=x.2.length)&&validVals x.1&&asc x.1 then
  bif decide (x.1.length=0) then (bif decide (i+1=nodes.length) then some (olen:Int) else none)
  else bif (List.range' 0 x.2.length).all (chOk far i x.2)&&newNode nodes i x then some (far.getD (x.2.getD 0 0).toNat 0+1) else none
 else none
end Go.Proofs.Ytkpeabpdiffjhaa
namespace Go.Proofs.Ytkpeabpdiffjhaa
open Go.RowKit

structure VF (olen:Nat) (nodes:List FNode) (far:List Int):Prop where
 pos:1≤nodes.length
 le:nodes.length≤4000
 z1:(nodes.getD 0 ([],[])).1=[]
 z2:(nodes.getD 0 ([],[])).2=[]
 len:far.length=nodes.length
 f0:far.getD 0 0=0
 last:far.getD (nodes.length-1) 0=(olen:Int)
 nd:∀ i,1≤i→i<nodes.length→nodeX nodes olen (far.take i) i (nodes.getD i ([],[]))=some (far.getD i 0)
theorem take_getD {xs:List Int} {i j:Nat} (h:j<i):(xs.take i).getD j 0=xs.getD j 0:=by
 rw [List.getD_eq_getElem?_getD,List.getD_eq_getElem?_getD,List.getElem?_take,if_pos h]
theorem VF.node {olen:Nat} {nodes:List FNode} {far:List Int} (V:VF olen nodes far) {i:Nat} (h1:1≤i) (h2:i<nodes.length) :
    (nodes.getD i ([],[])).1.length=(nodes.getD i ([],[])).2.length∧asc (nodes.getD i ([],[])).1=true ∧
    ((nodes.getD i ([],[])).1=[]∧i+1=nodes.length∧far.getD i 0=olen ∨
     (nodes.getD i ([],[])).1≠[]∧∀ j,j<(nodes.getD i ([],[])).2.length→0≤(nodes.getD i ([],[])).2.getD j 0∧(nodes.getD i ([],[])).2.getD j 0<i∧far.getD ((nodes.getD i ([],[])).2.getD j 0).toNat 0+1=far.getD i 0):=by
  have h:=V.nd i h1 h2
  generalize nodes.getD i ([],[])=x at *
  unfold nodeX at h
  cases e1:(decide (x.1.length=x.2.length)&&validVals x.1&&asc x.1) with
  | false=>rw [e1] at h;cases h
  | true =>
    rw [e1,cond_true] at h
    simp only [Bool.and_eq_true,decide_eq_true_eq] at e1
    refine ⟨e1.1.1,e1.2,?_⟩
    by_cases hz:x.1.length=0
    · rw [decide_eq_true hz,cond_true] at h
      by_cases hi:i+1=nodes.length
      · rw [decide_eq_true hi,cond_true] at h
        exact .inl ⟨List.length_eq_zero_iff.1 hz,hi,(Option.some.inj h).symm⟩
      · rw [decide_eq_false hi] at h;cases h
    · rw [decide_eq_false hz,cond_false] at h
      cases ha:(List.range' 0 x.2.length).all (chOk (far.take i) i x.2) with
      | false=>rw [ha] at h;cases h
      | true =>
        rw [ha,Bool.true_and] at h
        cases hb:newNode nodes i x with
        | false=>rw [hb] at h;cases h
        | true =>
          rw [hb,cond_true] at h
          refine .inr ⟨fun e=>hz (by simp [e]),fun j hj=>?_⟩
          have hc:∀ j,j<x.2.length→0≤x.2.getD j 0∧x.2.getD j 0<i∧far.getD (x.2.getD j 0).toNat 0=(far.take i).getD (x.2.getD 0 0).toNat 0:=by
            intro j hj
            have:=(List.all_eq_true.1 ha) j (by simp;omega)
            unfold chOk at this
            simp only [Bool.and_eq_true,decide_eq_true_eq] at this
            have g:=inR_iff.1 this.1
            refine ⟨g.1,by omega,?_⟩
            rw [← this.2,take_getD (by omega)]
          obtain ⟨q1,q2,q3⟩:=hc j hj
          exact ⟨q1,q2,by rw [q3];exact Option.some.inj h⟩
end Go.Proofs.Ytkpeabpdiffjhaa
namespace Go.Proofs.Ytkpeabpdiffjhaa
open Go.RowKit

theorem loopI {σ V:Type} (L:Nat→σ→Int→Option V) (n:Nat) (A:Nat→σ) (v:V)
  (hstep:∀ k i,i<n→L (k+1) (A i) (i:Int)=L k (A (i+1)) ((i+1:Nat):Int)) (hend:∀ k,L (k+1) (A n) (n:Int)=some v) :
  ∀ k i,i≤n→n-i<k→L k (A i) (i:Int)=some v:=by
 intro k
 induction k with
 | zero=>intro i hi hk;omega
 | succ k ih =>
  intro i hi hk
  by_cases h:i<n
  ·rw [hstep k i h];exact ih (i+1) (by omega) (by omega)
  ·obtain rfl:i=n:=by omega
   exact hend k
end Go.Proofs.Ytkpeabpdiffjhaa
namespace Go.Proofs.Ytkpeabpdiffjhaa
open Go.RowKit

theorem VF.asc {olen:Nat} {nodes:List FNode} {far:List Int} (V:VF olen nodes far) {i:Nat} (h2:i<nodes.length):Go.Proofs.Ytkpeabpdiffjhaa.asc (nodes.getD i ([],[])).1=true:=by
 by_cases h1:1≤i
 ·exact (V.node h1 h2).2.1
 ·obtain rfl:i=0:=by omega
  rw [V.z1];rfl
end Go.Proofs.Ytkpeabpdiffjhaa
namespace Go.Proofs.Ytkpeabpdiffjhaa
open Go.RowKit

section
variable {N:Nat}
theorem apd_nil {b:Nat} {α:Type} {xs:List α} (hb:b≤64) (h:xs.length≤1048576):apd b [] xs=some xs:=by
 rw [apd_ok' hb (by simp;omega)];rfl
theorem apd_take {b:Nat} {α:Type} {xs:List α} {i:Nat} (hb:b≤64) (h:i<xs.length) (hl:xs.length≤1048576):apd b (xs.take i) [xs[i]]=some (xs.take (i+1)):=by
 rw [apd_ok' hb (by simp;omega),List.take_succ_eq_append_getElem h]
theorem okII_at {rows:List (List Int)} (h:okII rows) {i:Nat} (hi:i<rows.length):rows[i].length≤1048576:=(h.2 _ (List.getElem_mem hi)).1
theorem l5Copy_eq (hN:1073741824≤N) {a:Int} {rows:List (List Int)} (h:okII rows):spec_l5Copy N a rows=some (a,rows):=by
 have hl:=h.1
 unfold spec_l5Copy
 have hL:=loopI (fun k (s:List (List Int)) i=>spec_l5Copy_L1 N k a rows 0 [] a s i) rows.length (fun i=>rows.take i) (rows,(rows.length:Int))
  (fun k i hi=>by
   show spec_l5Copy_L1 N (k+1) a rows 0 [] a (rows.take i) (i:Int)=_
   rw [spec_l5Copy_L1,dlt hi,cond_true,ix_nat hi,bs,apd_nil (by decide) (okII_at h hi),bs,apd_take (by decide) hi hl,bs,ad1 (by omega),bs])
  (fun k=>by
   show spec_l5Copy_L1 N (k+1) a rows 0 [] a (rows.take rows.length) (rows.length:Int)=_
   rw [spec_l5Copy_L1,dge (by omega),cond_false,List.take_length]) N 0 (by omega) (by omega)
 have hL':spec_l5Copy_L1 N N a rows 0 [] a [] 0=_:=hL
 rw [hL',bs,lpB]
theorem copyRows_eq (hN:1073741824≤N) {rows:List (List Int)} (h:okII rows):impl_copyRows N rows=some rows:=by
 have hl:=h.1
 unfold impl_copyRows
 have hL:=loopI (fun k (s:List (List Int)) i=>impl_copyRows_L1 N k s rows (rows.length:Int) i) rows.length (fun i=>rows.take i) (rows,(rows.length:Int))
  (fun k i hi=>by
   show impl_copyRows_L1 N (k+1) (rows.take i) rows (rows.length:Int) (i:Int)=_
   rw [impl_copyRows_L1,dlt hi,cond_true,ix_nat hi,bs,impl_copyInts,apd_nil (by decide) (okII_at h hi),bs,bs,apd_take (by decide) hi hl,bs,ad1 (by omega),bs])
  (fun k=>by
   show impl_copyRows_L1 N (k+1) (rows.take rows.length) rows (rows.length:Int) (rows.length:Int)=_
   rw [impl_copyRows_L1,dge (by omega),cond_false,List.take_length]) N 0 (by omega) (by omega)
 have hL':impl_copyRows_L1 N N [] rows (rows.length:Int) 0=_:=hL
 rw [hL',bs,lpB]
theorem copyRelation_eq (hN:1073741824≤N) {a:Int} {rows:List (List Int)} (h:okII rows):impl_copyRelation N a rows=some (a,rows):=by
 unfold impl_copyRelation
 rw [copyRows_eq hN h,bs]
end
end Go.Proofs.Ytkpeabpdiffjhaa
namespace Go.Proofs.Ytkpeabpdiffjhaa
open Go.RowKit

theorem loopFind {α R V:Type} (L:Nat→Int→Option (Sum R V)) (xs:List α) (q:α→Bool) (g:α→R) (v:V) (hl:xs.length<1099511627776)
  (hstep:∀ k i (h:i<xs.length),L (k+1) (i:Int)=bif q xs[i] then some (.inl (g xs[i])) else L k ((i+1:Nat):Int)) (hend:∀ k,L (k+1) (xs.length:Int)=some (.inr v)) :
  ∀ k i,i≤xs.length→xs.length-i<k→L k (i:Int)=some (match (xs.drop i).find? q with | some x=>.inl (g x) | none=>.inr v):=by
 intro k
 induction k with
 | zero=>intro i h1 h2;omega
 | succ k ih =>
  intro i h1 h2
  by_cases h:i<xs.length
  ·rw [hstep k i h,drop_cons h,List.find?_cons]
   cases hq:q xs[i]
   ·rw [cond_false];exact ih (i+1) (by omega) (by omega)
   ·rfl
  ·obtain rfl:i=xs.length:=by omega
   rw [hend,List.drop_length];rfl
abbrev DTable:=ByteArray × (Int × List (List Int))
abbrev okDb (ts:List DTable):Prop:=AllL (fun x=>x.1.size≤1048576∧AllL (AllL (fun _=>True) 1048576) 1048576 x.2.2) 1048576 ts
def byteAt (s:ByteArray) (i:Nat):Int:=match s[i]? with | some b=>(b.toNat:Int) | none=>0
theorem bx_nat {s:ByteArray} {i:Nat} (h:i<s.size):bx s (i:Int)=some (byteAt s i):=by
 unfold bx byteAt
 rw [if_pos (by omega),Int.toNat_natCast,getElem?_pos s i h];rfl
def letterAt (s:ByteArray) (i:Nat):Bool:=!decide (byteAt s i<97)&&!decide (122<byteAt s i)
def nameOk (s:ByteArray):Bool:=inR s.size 1 4&&(List.range' 0 s.size).all (letterAt s)
def tabOk (ts:List DTable) (i:Nat):Bool :=
 let t:=ts.getD i (ByteArray.empty,0,[])
 nameOk t.1&&(Nat.beq i 0||ltS (ts.getD (i-1) (ByteArray.empty,0,[])).1 t.1)&&validRows t.2.1 t.2.2&&!decide (t.2.1<1)&&!decide (16<(t.2.2.length:Int))
def dbOk (ts:List DTable):Bool:=decide ((ts.length:Int)≤6)&&(List.range' 0 ts.length).all (tabOk ts)
def lookV (ts:List DTable) (s:ByteArray):(Int × List (List Int)) × Bool :=
 bif dbOk ts then (match ts.find? (fun t=>decide (t.1=s)) with | some t=>(t.2,true) | none=>((0,[]),false)) else ((0,[]),false)
theorem getT_at {ts:List DTable} {i:Nat} (h:i<ts.length):ts.getD i (ByteArray.empty,0,[])=ts[i]:=by simp [h]
section
variable {N:Nat}
theorem letL {L:Nat→Int→Option (Sum Bool Int)} {s:ByteArray} (hs:s.size≤1048576) (hN:1073741824≤N)
  (hstep:∀ k i,L (k+1) i=(bif decide (i<(s.size:Int)) then (bx s i).bind fun a=>(bif decide (a<97) then some (.inl false) else (bx s i).bind fun b=>(bif decide (122<b) then some (.inl false) else (ad i 1).bind fun j=>L k j)) else some (.inr i))) :
  L N 0=some (bif (List.range' 0 s.size).all (letterAt s) then .inr (s.size:Int) else .inl false):=by
 have:=loopA L s.size (by omega) false (letterAt s) (s.size:Int)
  (fun k i h=>by
   rw [hstep,dlt h,cond_true,bx_nat h,bs,bs,ad1 (by omega),bs]
   unfold letterAt
   cases decide (byteAt s i<97)
   ·cases decide (122<byteAt s i) <;> rfl
   ·rfl)
  (fun k=>by rw [hstep,dge (by omega),cond_false]) N 0 (by omega) (by omega)
 rw [Nat.sub_zero] at this
 exact this
theorem IsValidName_impl_eq (hN:1073741824≤N) {s:ByteArray} (hs:s.size≤1048576):impl_IsValidName N s=some (nameOk s):=by
 unfold impl_IsValidName impl_isLetters nameOk
 by_cases h1:(s.size:Int)<1
 ·rw [decide_eq_true h1,show inR (s.size:Int) 1 4=false by rw [← Bool.not_eq_true,inR_iff];omega];rfl
 by_cases h4:(4:Int)<s.size
 ·rw [decide_eq_false h1,decide_eq_true h4,show inR (s.size:Int) 1 4=false by rw [← Bool.not_eq_true,inR_iff];omega];rfl
 rw [decide_eq_false h1,decide_eq_false h4,show inR (s.size:Int) 1 4=true by rw [inR_iff];omega,cond_false,cond_false,letL (L:=fun k i=>impl_isLetters_L1 N k s i) hs hN (fun k i=>by
  show impl_isLetters_L1 N (k+1) s i=_
  rw [impl_isLetters_L1]),bs]
 cases (List.range' 0 s.size).all (letterAt s) <;> rfl
theorem IsValidName_spec_eq (hN:1073741824≤N) {s:ByteArray} (hs:s.size≤1048576):spec_IsValidName N s=some (nameOk s):=by
 unfold spec_IsValidName nameOk
 rw [letL (L:=fun k i=>spec_IsValidName_L1 N k s i) hs hN (fun k i=>by
  show spec_IsValidName_L1 N (k+1) s i=_
  rw [spec_IsValidName_L1]),bs]
 cases (List.range' 0 s.size).all (letterAt s)
 ·cases inR (s.size:Int) 1 4 <;> rfl
 ·simp only [cond_true,lpS,l1In_eq,bs,Bool.and_true]
theorem IsValidDatabase_impl_eq (hN:1073741824≤N) {ts:List DTable} (hx:okDb ts):impl_IsValidDatabase N ts=some (dbOk ts):=by
 have hl:=hx.1
 have:=loopA (L:=fun k i=>impl_IsValidDatabase_L1 N k ts ts (ts.length:Int) i) ts.length (by omega) false (tabOk ts) (ts.length:Int)
  (fun k i h=>by
   obtain ⟨g1,g2⟩:=hx.2 _ (List.getElem_mem h)
   show impl_IsValidDatabase_L1 N (k+1) ts ts (ts.length:Int) (i:Int)=_
   rw [impl_IsValidDatabase_L1,dlt h,cond_true,ix_nat h,bs,IsValidName_impl_eq hN g1,bs]
   unfold tabOk
   rw [getT_at h]
   simp only []
   cases nameOk ts[i].1
   ·rfl
   rw [IsValidRelation_impl_eq hN g2,bs]
   cases i with
   | zero =>
    rw [ad1 (by omega)]
    simp only [bs]
    cases validRows ts[0].2.1 ts[0].2.2
    ·rfl
    ·show (bif decide _ then _ else _)=_
     cases decide (ts[0].2.1<1)
     ·cases decide (16<(ts[0].2.2.length:Int)) <;> rfl
     ·cases decide (16<(ts[0].2.2.length:Int)) <;> rfl
   | succ j =>
    rw [show decide (0<((j+1:Nat):Int))=true from decide_eq_true (by omega),sb_ok (by omega) (by omega),bs,show (((j+1:Nat):Int)-1)=(j:Int) by omega,ix_nat (by omega),bs,ad1 (by omega),Nat.add_sub_cancel,getT_at (by omega)]
    simp only [bs]
    cases ltS ts[j].1 ts[j+1].1
    ·rfl
    cases validRows ts[j+1].2.1 ts[j+1].2.2
    ·rfl
    ·show (bif decide _ then _ else _)=_
     cases decide (ts[j+1].2.1<1)
     ·cases decide (16<(ts[j+1].2.2.length:Int)) <;> rfl
     ·cases decide (16<(ts[j+1].2.2.length:Int)) <;> rfl)
  (fun k=>by
   show impl_IsValidDatabase_L1 N (k+1) ts ts (ts.length:Int) (ts.length:Int)=_
   rw [impl_IsValidDatabase_L1,dge (by omega),cond_false]) N 0 (by omega) (by omega)
 rw [Nat.sub_zero] at this
 unfold impl_IsValidDatabase dbOk
 by_cases h6:(6:Int)<ts.length
 ·rw [decide_eq_true h6,decide_eq_false (by omega:¬ (ts.length:Int)≤6)];rfl
 rw [decide_eq_false h6,decide_eq_true (by omega:(ts.length:Int)≤6),cond_false,Bool.true_and]
 have this':impl_IsValidDatabase_L1 N N ts ts (ts.length:Int) 0=_:=this
 rw [this',bs]
 cases (List.range' 0 ts.length).all (tabOk ts) <;> rfl
theorem IsValidDatabase_spec_eq (hN:1073741824≤N) {ts:List DTable} (hx:okDb ts):spec_IsValidDatabase N ts=some (dbOk ts):=by
 have hl:=hx.1
 have:=loopA (L:=fun k i=>spec_IsValidDatabase_L1 N k ts i) ts.length (by omega) false (tabOk ts) (ts.length:Int)
  (fun k i h=>by
   obtain ⟨g1,g2⟩:=hx.2 _ (List.getElem_mem h)
   show spec_IsValidDatabase_L1 N (k+1) ts (i:Int)=_
   rw [spec_IsValidDatabase_L1,dlt h,cond_true,ix_nat h,bs,IsValidName_spec_eq hN g1,bs]
   unfold tabOk
   rw [getT_at h]
   simp only []
   cases nameOk ts[i].1
   ·rfl
   rw [IsValidRelation_spec_eq hN g2,bs]
   cases i with
   | zero =>
    rw [ad1 (by omega)]
    simp only [bs]
    cases validRows ts[0].2.1 ts[0].2.2
    ·rfl
    ·show (bif decide _ then _ else _)=_
     cases decide (ts[0].2.1<1)
     ·cases decide (16<(ts[0].2.2.length:Int)) <;> rfl
     ·cases decide (16<(ts[0].2.2.length:Int)) <;> rfl
   | succ j =>
    rw [show decide (0<((j+1:Nat):Int))=true from decide_eq_true (by omega),sb_ok (by omega) (by omega),bs,show (((j+1:Nat):Int)-1)=(j:Int) by omega,ix_nat (by omega),bs,ad1 (by omega),Nat.add_sub_cancel,getT_at (by omega)]
    simp only [bs]
    cases ltS ts[j].1 ts[j+1].1
    ·rfl
    cases validRows ts[j+1].2.1 ts[j+1].2.2
    ·rfl
    ·show (bif decide _ then _ else _)=_
     cases decide (ts[j+1].2.1<1)
     ·cases decide (16<(ts[j+1].2.2.length:Int)) <;> rfl
     ·cases decide (16<(ts[j+1].2.2.length:Int)) <;> rfl)
  (fun k=>by
   show spec_IsValidDatabase_L1 N (k+1) ts (ts.length:Int)=_
   rw [spec_IsValidDatabase_L1,dge (by omega),cond_false]) N 0 (by omega) (by omega)
 rw [Nat.sub_zero] at this
 unfold spec_IsValidDatabase dbOk
 have this':spec_IsValidDatabase_L1 N N ts 0=_:=this
 rw [this',bs]
 cases (List.range' 0 ts.length).all (tabOk ts)
 ·simp only [cond_false,lpS,Bool.and_false]
 ·simp only [cond_true,lpS,Bool.and_true]
theorem LookupRelation_impl_eq (hN:1073741824≤N) {ts:List DTable} {s:ByteArray} (hx:okDb ts):impl_LookupRelation N ts s=some (lookV ts s):=by
 have hl:=hx.1
 unfold impl_LookupRelation lookV
 rw [IsValidDatabase_impl_eq hN hx,bs]
 cases dbOk ts
 ·rfl
 rw [cond_true,cond_true]
 have:=loopFind (fun k i=>impl_LookupRelation_L1 N k s 0 [] ts (ts.length:Int) i) ts (fun t=>decide (t.1=s)) (fun t=>(t.2,true)) (ts.length:Int) (by omega)
  (fun k i h=>by
   obtain ⟨g1,g2⟩:=hx.2 _ (List.getElem_mem h)
   show impl_LookupRelation_L1 N (k+1) s 0 [] ts _ (i:Int)=_
   rw [impl_LookupRelation_L1,dlt h,cond_true,ix_nat h,bs,copyRelation_eq hN g2,bs,ad1 (by omega),bs,eqS_dec])
  (fun k=>by
   show impl_LookupRelation_L1 N (k+1) s 0 [] ts _ (ts.length:Int)=_
   rw [impl_LookupRelation_L1,dge (by omega),cond_false]) N 0 (by omega) (by omega)
 rw [List.drop_zero] at this
 have this':impl_LookupRelation_L1 N N s 0 [] ts (ts.length:Int) 0=_:=this
 rw [this',bs]
 cases ts.find? (fun t=>decide (t.1=s)) <;> rfl
theorem LookupRelation_spec_eq (hN:1073741824≤N) {ts:List DTable} {s:ByteArray} (hx:okDb ts):spec_LookupRelation N ts s=some (lookV ts s):=by
 have hl:=hx.1
 unfold spec_LookupRelation lookV
 cases hv:dbOk ts
 ·obtain ⟨M,rfl⟩:∃ M,N=M+1:=⟨N-1,by omega⟩
  rw [spec_LookupRelation_L1,IsValidDatabase_spec_eq hN hx,bs,hv]
  cases decide ((0:Int)<(ts.length:Int)) <;> rfl
 rw [cond_true]
 have:=loopFind (fun k i=>spec_LookupRelation_L1 N k s ts 0 [] i) ts (fun t=>decide (t.1=s)) (fun t=>(t.2,true)) (ts.length:Int) (by omega)
  (fun k i h=>by
   obtain ⟨g1,g2⟩:=hx.2 _ (List.getElem_mem h)
   show spec_LookupRelation_L1 N (k+1) s ts 0 [] (i:Int)=_
   rw [spec_LookupRelation_L1,dlt h,cond_true,IsValidDatabase_spec_eq hN hx,bs,hv,cond_true,ix_nat h,bs,bs,l5Copy_eq hN g2,bs,ad1 (by omega),bs,eqS_dec])
  (fun k=>by
   show spec_LookupRelation_L1 N (k+1) s ts 0 [] (ts.length:Int)=_
   rw [spec_LookupRelation_L1,dge (by omega),cond_false]) N 0 (by omega) (by omega)
 rw [List.drop_zero] at this
 have this':spec_LookupRelation_L1 N N s ts 0 [] 0=_:=this
 rw [this',bs]
 cases ts.find? (fun t=>decide (t.1=s)) <;> rfl
end
theorem cmpR_neg:∀ (a b:List Int),cmpR b a=- cmpR a b
 | [],[]=>by simp [cmpR]
 | [],_ :: _=>by simp [cmpR]
 | _ :: _,[]=>by simp [cmpR]
 | x :: a,y :: b=>by
  unfold cmpR
  have:=cmpR_neg a b
  (repeat' split) <;> omega
theorem cmpR_trans:∀ {a b c:List Int},cmpR a b<0→cmpR b c<0→cmpR a c<0
 | [],[],_,h,_=>by simp [cmpR] at h
 | [],_ :: _,[],_,h=>by simp [cmpR] at h
 | [],_ :: _,_ :: _,_,_=>by simp [cmpR]
 | _ :: _,[],_,h,_=>by simp [cmpR] at h
 | _ :: _,_ :: _,[],_,h=>by simp [cmpR] at h
 | x :: a,y :: b,z :: c,h1,h2=>by
  unfold cmpR at h1 h2 ⊢
  have:=@cmpR_trans a b c
  split at h1
  ·split at h2
   ·rw [if_pos (by omega)];omega
   ·split at h2
    ·omega
    ·rw [if_pos (by omega)];omega
  ·split at h1
   ·omega
   ·split at h2
    ·rw [if_pos (by omega)];omega
    ·split at h2
     ·omega
     ·rw [if_neg (by omega),if_neg (by omega)];exact this h1 h2
def ascR (rows:List (List Int)):Prop:=∀ i j (_:i<j) (hj:j<rows.length),cmpR (rows[i]'(by omega)) rows[j]<0
theorem ascR_of {rows:List (List Int)} (h:∀ i (hi:i<rows.length) j (hj:j+1=i),cmpR (rows[j]'(by omega)) rows[i]<0):ascR rows:=by
 intro i j hij hj
 induction j with
 | zero=>omega
 | succ j ih =>
  have h1:=h (j+1) hj j rfl
  by_cases e:i=j
  ·subst e;exact h1
  ·exact cmpR_trans (ih (by omega) (by omega)) h1
theorem validRows_asc {n:Int} {rows:List (List Int)} (h:validRows n rows=true):ascR rows:=by
 obtain ⟨_,_,_,h4⟩:=validRows_spec h
 exact ascR_of fun i hi j hj=>(h4 i hi).2.2 j hj
section
variable {N:Nat}
theorem allL {α:Type} {N:Nat} (L:Nat→Int→Option (Sum Bool Int)) (xs:List α) (q:α→Bool) (hN:1073741824≤N) (hl:xs.length≤1048576)
  (hstep:∀ k i (h:i<xs.length),L (k+1) (i:Int)=bif q xs[i] then L k ((i+1:Nat):Int) else some (.inl false)) (hend:∀ k,L (k+1) (xs.length:Int)=some (.inr (xs.length:Int))) :
  L N 0=some (bif xs.all q then .inr (xs.length:Int) else .inl false):=by
 have:=loopA L xs.length (by omega) false (fun i=>if h:i<xs.length then q xs[i] else true) (xs.length:Int) (fun k i h=>by rw [hstep k i h];simp only [dif_pos h]) hend N 0 (by omega) (by omega)
 rw [Nat.sub_zero,range_all xs q _ (fun i hi=>by rw [dif_pos hi])] at this
 exact this
end
end Go.Proofs.Ytkpeabpdiffjhaa
namespace Go.Proofs.Ytkpeabpdiffjhaa
open Go.RowKit

theorem loopAS {σ R V:Type} (L:Nat→σ→Int→Option (Sum R V)) (n:Nat) (b:R) (p:Nat→Bool) (A:Nat→σ) (v:V)
  (hstep:∀ k i,i<n→L (k+1) (A i) (i:Int)=bif p i then L k (A (i+1)) ((i+1:Nat):Int) else some (.inl b)) (hend:∀ k,L (k+1) (A n) (n:Int)=some (.inr v)) :
  ∀ k i,i≤n→n-i<k→L k (A i) (i:Int)=some (bif (List.range' i (n-i)).all p then .inr v else .inl b):=by
 intro k
 induction k with
 | zero=>intro i hi hk;omega
 | succ k ih =>
  intro i hi hk
  by_cases h:i<n
  ·rw [hstep k i h,show n-i=(n-(i+1))+1 by omega,List.range'_succ,List.all_cons]
   cases hp:p i with
   | true=>rw [cond_true,Bool.true_and];exact ih (i+1) (by omega) (by omega)
   | false=>rfl
  ·obtain rfl:i=n:=by omega
   rw [hend k,Nat.sub_self];rfl
theorem lpSr {R V S:Type} {v:V} {f:R→Option S} {g:V→Option S}:lpS (.inr v) f g=g v:=rfl
theorem lpSl {R V S:Type} {v:R} {f:R→Option S} {g:V→Option S}:lpS (.inl v) f g=f v:=rfl
abbrev QAtom:=ByteArray × List Int
abbrev okAtoms (xs:List QAtom):Prop:=AllL (fun x=>x.1.size≤1048576∧(AllL (fun _=>True) 1048576) x.2) 1048576 xs
def atomOk (n:Int) (a:QAtom):Bool:=nameOk a.1&&inR a.2.length 1 5&&a.2.all fun v=>inR v 0 (n-1)
def covered (n:Int) (atoms:List QAtom):Bool:=(List.range' 0 n.toNat).all fun v=>atoms.any fun a=>decide ((v:Int)∈a.2)
def queryOk (n:Int) (atoms:List QAtom) (out:List Int):Bool:=inR n 1 5&&inR atoms.length 1 4&&isSetB out n&&atoms.all (atomOk n)&&covered n atoms
theorem nodup_bound:∀ (n:Nat) (xs:List Int),xs.Nodup→(∀ x∈xs,0≤x∧x<n)→xs.length≤n:=by
 intro n
 induction n with
 | zero =>
  intro xs _ h
  cases xs with
  | nil=>simp
  | cons x xs=>have:=h x (by simp);omega
 | succ n ih =>
  intro xs hn h
  by_cases hm:(n:Int)∈xs
  ·have h1:=ih (xs.erase (n:Int)) (hn.erase _) (fun x hx=>by
    have h2:=h x (List.mem_of_mem_erase hx)
    have h3:x≠n:=by rintro rfl;exact (hn.mem_erase_iff.1 hx).1 rfl
    omega)
   rw [List.length_erase_of_mem hm] at h1
   omega
  ·have:=ih xs hn (fun x hx=>by
    have h2:=h x hx
    have h3:x≠n:=by rintro rfl;exact hm hx
    omega)
   omega
theorem isSetB_spec {xs:List Int} {n:Int} (h:isSetB xs n=true):xs.Nodup∧∀ x∈xs,0≤x∧x≤n-1:=by
 unfold isSetB at h
 rw [List.all_eq_true] at h
 have hk:∀ i (hi:i<xs.length),(0≤xs[i]∧xs[i]≤n-1)∧xs[i]∉xs.take i:=by
  intro i hi
  have:=h i (by simp;omega)
  simp only [getD_at hi,Bool.and_eq_true,inR_iff,Bool.not_eq_true',decide_eq_false_iff_not] at this
  exact this
 refine ⟨?_,fun x hx=>?_⟩
 ·rw [List.nodup_iff_pairwise_ne,List.pairwise_iff_getElem]
  intro i j hi hj hij e
  refine (hk j hj).2 ?_
  rw [← e]
  have:(xs.take j)[i]'(by simp;omega)=xs[i]:=List.getElem_take
  rw [← this];exact List.getElem_mem _
 ·obtain ⟨i,hi,rfl⟩:=List.getElem_of_mem hx
  exact (hk i hi).1
theorem isSetB_len {xs:List Int} {n:Int} (h0:0≤n) (h:isSetB xs n=true):(xs.length:Int)≤n:=by
 obtain ⟨h1,h2⟩:=isSetB_spec h
 have:=nodup_bound n.toNat xs h1 (fun x hx=>by have:=h2 x hx;omega)
 omega
def mapR (m:Nat) (g:Nat→Bool):List Bool:=(List.range' 0 m).map g
theorem mapR_len (m:Nat) (g:Nat→Bool):(mapR m g).length=m:=by simp [mapR]
theorem mapR_at {m:Nat} {g:Nat→Bool} {i:Nat} (h:i<m):ix (mapR m g) (i:Int)=some (g i):=by
 rw [ix_nat (by rw [mapR_len];exact h)];simp [mapR]
theorem mapR_sto {m:Nat} {g:Nat→Bool} {c:Nat} (h:c<m):sto (mapR m g) (c:Int) true=some (mapR m fun v=>g v||decide (v=c)):=by
 rw [sto_nat (by rw [mapR_len];exact h)]
 congr 1
 refine List.ext_getElem (by simp [mapR]) fun i h1 h2=>?_
 simp only [mapR,List.getElem_set,List.getElem_map,List.getElem_range']
 simp only [Nat.zero_add,Nat.one_mul]
 by_cases e:c=i
 ·subst e;simp
 ·have e2:¬ i=c:=fun h=>e h.symm
  rw [if_neg e,decide_eq_false e2,Bool.or_false]
theorem mapR_ext {m:Nat} {f g:Nat→Bool} (h:∀ v,f v=g v):mapR m f=mapR m g:=by rw [show f=g from funext h]
theorem mapR_all (m:Nat) (g:Nat→Bool):(mapR m g).all id=(List.range' 0 m).all g:=by simp [mapR,List.all_map]
theorem any_take_succ {α:Type} {p:α→Bool} {xs:List α} {i:Nat} (h:i<xs.length):(xs.take (i+1)).any p=((xs.take i).any p||p xs[i]):=by
 rw [List.take_succ_eq_append_getElem h,List.any_append];simp
theorem mem_take_succ {xs:List Int} {i:Nat} (h:i<xs.length) (v:Int):decide (v∈xs.take (i+1))=(decide (v∈xs.take i)||decide (v=xs[i])):=by
 have e:v∈xs.take (i+1)↔v∈xs.take i∨v=xs[i]:=by
  rw [List.take_succ_eq_append_getElem h,List.mem_append,List.mem_singleton]
 rw [Bool.eq_iff_iff];simp only [decide_eq_true_eq,Bool.or_eq_true];exact e
section
variable {N:Nat}
def seenR (m:Nat) (atoms:List QAtom) (i:Nat):List Bool:=mapR m fun v=>(atoms.take i).any fun a=>decide ((v:Int)∈a.2)
def seenA (m:Nat) (atoms:List QAtom) (i:Nat) (xs:List Int) (j:Nat):List Bool:=mapR m fun v=>(atoms.take i).any (fun a=>decide ((v:Int)∈a.2))||decide ((v:Int)∈xs.take j)
theorem seenA_0 (m:Nat) (atoms:List QAtom) (i:Nat) (xs:List Int):seenA m atoms i xs 0=seenR m atoms i:=mapR_ext fun v=>by simp
theorem seenA_all (m:Nat) (atoms:List QAtom) {i:Nat} (h:i<atoms.length):seenA m atoms i atoms[i].2 atoms[i].2.length=seenR m atoms (i+1):=mapR_ext fun v=>by rw [List.take_length,any_take_succ h]
theorem seenA_succ {m:Nat} {atoms:List QAtom} {i:Nat} {xs:List Int} {j c:Nat} (hj:j<xs.length) (hc:xs[j]=(c:Int)) (hm:c<m):sto (seenA m atoms i xs j) (c:Int) true=some (seenA m atoms i xs (j+1)):=by
 unfold seenA
 rw [mapR_sto hm]
 congr 1
 refine mapR_ext fun v=>?_
 rw [mem_take_succ hj,hc,Bool.or_assoc]
 congr 2
 rw [decide_eq_decide];omega
theorem seenA_at {m:Nat} {atoms:List QAtom} {i:Nat} {xs:List Int} {j c:Nat} (hm:c<m):∃ b,ix (seenA m atoms i xs j) (c:Int)=some b:=⟨_,mapR_at hm⟩
theorem seenR_0 (m:Nat) (atoms:List QAtom):List.replicate m false=seenR m atoms 0:=by
 refine List.ext_getElem (by simp [seenR,mapR]) fun i h1 h2=>?_
 simp [seenR,mapR]
theorem IVQ_L2_step {m:Nat} {atoms:List QAtom} {i:Nat} {xs:List Int} {t:List QAtom} {tl ti:Int} (hx:xs.length≤1048576) (hm:m≤5) (k j:Nat) (hj:j<xs.length) :
  impl_IsValidQuery_L2 N (k+1) (m:Int) (seenA m atoms i xs j) t tl ti xs (xs.length:Int) (j:Int)=bif (if h:j<xs.length then inR xs[j] 0 ((m:Int)-1) else true) then impl_IsValidQuery_L2 N k (m:Int) (seenA m atoms i xs (j+1)) t tl ti xs (xs.length:Int) ((j+1:Nat):Int) else some (.inl false):=by
 rw [impl_IsValidQuery_L2,dlt hj,cond_true,ix_nat hj,bs,sb_ok (by omega) (by omega),bs,within_eq,bs,dif_pos hj]
 cases hc:inR xs[j] 0 ((m:Int)-1) with
 | false=>rw [cond_false,cond_false]
 | true =>
  have hc':=inR_iff.1 hc
  obtain ⟨c,hcc⟩:=Int.eq_ofNat_of_zero_le hc'.1
  obtain ⟨b,hb⟩:=seenA_at (m:=m) (atoms:=atoms) (i:=i) (xs:=xs) (j:=j) (c:=c) (by omega)
  rw [cond_true,cond_true,hcc,hb,bs,seenA_succ hj hcc (by omega),bs,ad1 (by omega),bs]
theorem IVQ_L2 (hN:1073741824≤N) {m:Nat} {atoms:List QAtom} {i:Nat} {xs:List Int} {t:List QAtom} {tl ti:Int} (hx:xs.length≤1048576) (hm:m≤5) :
  impl_IsValidQuery_L2 N N (m:Int) (seenR m atoms i) t tl ti xs (xs.length:Int) 0=some (bif xs.all (fun v=>inR v 0 ((m:Int)-1)) then .inr (seenA m atoms i xs xs.length,(xs.length:Int)) else .inl false):=by
 have h:=loopAS (fun k (s:List Bool) j=>impl_IsValidQuery_L2 N k (m:Int) s t tl ti xs (xs.length:Int) j) xs.length false (fun j=>if h:j<xs.length then inR xs[j] 0 ((m:Int)-1) else true) (seenA m atoms i xs) (seenA m atoms i xs xs.length,(xs.length:Int))
  (fun k j hj=>IVQ_L2_step hx hm k j hj)
  (fun k=>by
   show impl_IsValidQuery_L2 N (k+1) (m:Int) _ t tl ti xs _ (xs.length:Int)=_
   rw [impl_IsValidQuery_L2,dge (by omega),cond_false]) N 0 (by omega) (by omega)
 rw [Nat.sub_zero,range_all xs (fun v=>inR v 0 ((m:Int)-1)) _ (fun j hj=>by rw [dif_pos hj]),seenA_0] at h
 exact h
theorem IVQ_L1_step (hN:1073741824≤N) {m:Nat} {atoms:List QAtom} (ha:okAtoms atoms) (hm:m≤5) (k i:Nat) (h:i<atoms.length) :
  impl_IsValidQuery_L1 N (k+1) (m:Int) (seenR m atoms i) atoms (atoms.length:Int) (i:Int)=bif (if h:i<atoms.length then atomOk m atoms[i] else true) then impl_IsValidQuery_L1 N k (m:Int) (seenR m atoms (i+1)) atoms (atoms.length:Int) ((i+1:Nat):Int) else some (.inl false):=by
 have hl:=ha.1
 obtain ⟨g1,g2⟩:=ha.2 _ (List.getElem_mem h)
 rw [impl_IsValidQuery_L1,dlt h,cond_true,ix_nat h,bs,IsValidName_impl_eq hN g1,bs,within_eq,bs,dif_pos h]
 unfold atomOk
 cases nameOk atoms[i].1 with
 | false=>simp only [Bool.false_and,Bool.and_false,Bool.true_and,cond_false,cond_true]
 | true =>
  cases inR (atoms[i].2.length:Int) 1 5 with
  | false=>simp only [Bool.false_and,Bool.and_false,Bool.true_and,cond_false,cond_true]
  | true =>
   simp only [cond_true,Bool.true_and]
   rw [IVQ_L2 hN g2.1 hm,bs]
   cases atoms[i].2.all fun v=>inR v 0 ((m:Int)-1) with
   | false=>simp only [cond_false,lpS]
   | true =>
    rw [cond_true,lpSr,ad1 (by omega),bs,seenA_all m atoms h,cond_true]
theorem IVQ_L1 (hN:1073741824≤N) {m:Nat} {atoms:List QAtom} (ha:okAtoms atoms) (hm:m≤5) :
  impl_IsValidQuery_L1 N N (m:Int) (List.replicate m false) atoms (atoms.length:Int) 0=some (bif atoms.all (atomOk m) then .inr (seenR m atoms atoms.length,(atoms.length:Int)) else .inl false):=by
 have hl:=ha.1
 have h:=loopAS (fun k (s:List Bool) i=>impl_IsValidQuery_L1 N k (m:Int) s atoms (atoms.length:Int) i) atoms.length false (fun i=>if h:i<atoms.length then atomOk m atoms[i] else true) (seenR m atoms) (seenR m atoms atoms.length,(atoms.length:Int))
  (fun k i h=>IVQ_L1_step hN ha hm k i h)
  (fun k=>by
   show impl_IsValidQuery_L1 N (k+1) (m:Int) _ atoms _ (atoms.length:Int)=_
   rw [impl_IsValidQuery_L1,dge (by omega),cond_false]) N 0 (by omega) (by omega)
 rw [Nat.sub_zero,range_all atoms (atomOk m) _ (fun i hi=>by rw [dif_pos hi]),← seenR_0] at h
 exact h
theorem IVQ_L3 (hN:1073741824≤N) {xs:List Bool} (hx:xs.length≤1048576):impl_IsValidQuery_L3 N N xs (xs.length:Int) 0=some (bif xs.all id then .inr (xs.length:Int) else .inl false) :=
 allL (fun k i=>impl_IsValidQuery_L3 N k xs (xs.length:Int) i) xs id hN hx
  (fun k i h=>by
   show impl_IsValidQuery_L3 N (k+1) _ _ (i:Int)=_
   rw [impl_IsValidQuery_L3,dlt h,cond_true,ix_nat h,bs,ad1 (by omega),bs];rfl)
  (fun k=>by
   show impl_IsValidQuery_L3 N (k+1) _ _ (xs.length:Int)=_
   rw [impl_IsValidQuery_L3,dge (by omega),cond_false])
theorem seenR_all {m:Nat} {atoms:List QAtom}:(seenR m atoms atoms.length).all id=covered m atoms:=by
 unfold seenR covered
 rw [mapR_all,Int.toNat_natCast,List.take_length]
theorem queryOk_no {n:Int} {atoms:List QAtom} {out:List Int} (h:inR n 1 5=false):queryOk n atoms out=false:=by unfold queryOk;rw [h];rfl
theorem IsValidQuery_impl_eq (hN:1073741824≤N) {n:Int} {atoms:List QAtom} {out:List Int} (ha:okAtoms atoms) (ho:okI out):impl_IsValidQuery N n atoms out=some (queryOk n atoms out):=by
 have hl:=ha.1
 unfold impl_IsValidQuery
 rw [within_eq,bs,within_eq,bs]
 cases hn:inR n 1 5 with
 | false=>rw [queryOk_no hn];rfl
 | true =>
  have hn':=inR_iff.1 hn
  unfold queryOk
  rw [hn,cond_true,isSetOf_eq hN ho.1 (by omega),bs]
  cases inR (atoms.length:Int) 1 4 with
  | false=>rfl
  | true =>
   cases isSetB out n with
   | false=>rfl
   | true =>
    obtain ⟨m,rfl⟩:=Int.eq_ofNat_of_zero_le (by omega:0≤n)
    simp only [cond_true,Bool.and_self,Bool.true_and]
    rw [mk_ok (by decide) (by omega),bs,IVQ_L1 hN ha (by omega),bs]
    cases atoms.all (atomOk m) with
    | false=>rfl
    | true =>
     simp only [cond_true,lpS,Bool.true_and]
     rw [IVQ_L3 hN (by unfold seenR;rw [mapR_len];omega),bs,seenR_all]
     cases covered m atoms <;> rfl
theorem ContainsVariable_spec_eq (hN:1073741824≤N) {s:ByteArray} {xs:List Int} {v:Int} (hx:okI xs):spec_ContainsVariable N s xs v=some (decide (v∈xs)):=by
 have hl:=hx.1
 have:=loopFind (fun k i=>spec_ContainsVariable_L1 N k v s xs i) xs (fun x=>decide (x=v)) (fun _=>true) (xs.length:Int) (by omega)
  (fun k i h=>by
   show spec_ContainsVariable_L1 N (k+1) v s xs (i:Int)=_
   rw [spec_ContainsVariable_L1,dlt h,cond_true,ix_nat h,bs,ad1 (by omega),bs,beqD])
  (fun k=>by
   show spec_ContainsVariable_L1 N (k+1) v s xs (xs.length:Int)=_
   rw [spec_ContainsVariable_L1,dge (by omega),cond_false]) N 0 (by omega) (by omega)
 rw [List.drop_zero] at this
 have this':spec_ContainsVariable_L1 N N v s xs 0=_:=this
 unfold spec_ContainsVariable
 rw [this',bs]
 cases hf:xs.find? (fun x=>decide (x=v)) with
 | none =>
  have:v∉xs:=fun hm=>by have:=(List.find?_eq_none.1 hf) v hm;simp at this
  simp [lpS,this]
 | some y =>
  have h1:=List.find?_some hf
  have h2:=List.mem_of_find?_eq_some hf
  have:v∈xs:=by simp at h1;rw [← h1];exact h2
  simp [lpS,this]
theorem ContainsVariable_impl_eq (hN:1073741824≤N) {s:ByteArray} {xs:List Int} {v:Int} (hx:okI xs):impl_ContainsVariable N s xs v=some (decide (v∈xs)):=by
 unfold impl_ContainsVariable;rw [hasInt_eq hN hx.1,bs]
theorem SVQ_L2 (hN:1073741824≤N) {n:Int} {atoms:List QAtom} {out:List Int} {i:Nat} (h:i<atoms.length) (hn:n≤5) (h0:0≤n) (hx:atoms[i].2.length≤1048576) :
  spec_IsValidQuery_L2 N N n atoms out (i:Int) 0=some (bif atoms[i].2.all (fun v=>inR v 0 (n-1)) then .inr (atoms[i].2.length:Int) else .inl false) :=
 allL (fun k2 j=>spec_IsValidQuery_L2 N k2 n atoms out (i:Int) j) atoms[i].2 (fun v=>inR v 0 (n-1)) hN hx
  (fun k2 j hj=>by
   show spec_IsValidQuery_L2 N (k2+1) n atoms out (i:Int) (j:Int)=_
   rw [spec_IsValidQuery_L2,ix_nat h,bs,dlt hj,cond_true,bs,ix_nat hj,bs,sb_ok (by omega) (by omega),bs,l1In_eq,bs,ad1 (by omega),bs])
  (fun k2=>by
   show spec_IsValidQuery_L2 N (k2+1) n atoms out (i:Int) (atoms[i].2.length:Int)=_
   rw [spec_IsValidQuery_L2,ix_nat h,bs,dge (by omega),cond_false])
theorem SVQ_L1 (hN:1073741824≤N) {n:Int} {atoms:List QAtom} {out:List Int} (ha:okAtoms atoms) (hn:n≤5) (h0:0≤n) :
  spec_IsValidQuery_L1 N N n atoms out 0=some (bif atoms.all (atomOk n) then .inr (atoms.length:Int) else .inl false) :=
 allL (fun k i=>spec_IsValidQuery_L1 N k n atoms out i) atoms (atomOk n) hN ha.1
  (fun k i h=>by
   have hl:=ha.1
   obtain ⟨g1,g2⟩:=ha.2 _ (List.getElem_mem h)
   show spec_IsValidQuery_L1 N (k+1) n atoms out (i:Int)=_
   rw [spec_IsValidQuery_L1,dlt h,cond_true,ix_nat h,bs,IsValidName_spec_eq hN g1,bs,bs,l1In_eq,bs]
   unfold atomOk
   cases nameOk atoms[i].1 with
   | false=>simp only [Bool.false_and,Bool.and_false,Bool.true_and,cond_false,cond_true]
   | true =>
    cases inR (atoms[i].2.length:Int) 1 5 with
    | false=>simp only [Bool.false_and,Bool.and_false,Bool.true_and,cond_false,cond_true]
    | true =>
     simp only [cond_true,Bool.true_and]
     rw [SVQ_L2 hN h hn h0 g2.1,bs]
     cases atoms[i].2.all fun v=>inR v 0 (n-1) with
     | false=>simp only [cond_false,lpS]
     | true =>
      rw [cond_true,lpSr,ad1 (by omega),bs,cond_true])
  (fun k=>by
   show spec_IsValidQuery_L1 N (k+1) n atoms out (atoms.length:Int)=_
   rw [spec_IsValidQuery_L1,dge (by omega),cond_false])
theorem SVQ_L4 (hN:1073741824≤N) {n v:Int} {atoms:List QAtom} {out:List Int} (ha:okAtoms atoms) :
  spec_IsValidQuery_L4 N N n atoms out v false 0=some (atoms.any (fun a=>decide (v∈a.2)),(atoms.length:Int)):=by
 have hl:=ha.1
 exact loopI (fun k2 (s:Bool) j=>spec_IsValidQuery_L4 N k2 n atoms out v s j) atoms.length (fun j=>(atoms.take j).any fun a=>decide (v∈a.2)) (atoms.any (fun a=>decide (v∈a.2)),(atoms.length:Int))
  (fun k2 j hj=>by
   obtain ⟨g1,g2⟩:=ha.2 _ (List.getElem_mem hj)
   show spec_IsValidQuery_L4 N (k2+1) n atoms out v _ (j:Int)=_
   rw [spec_IsValidQuery_L4,dlt hj,cond_true,any_take_succ hj,ad1 (by omega),bs,ix_nat hj,bs,ContainsVariable_spec_eq hN g2,bs,bs]
   cases (atoms.take j).any fun a=>decide (v∈a.2) <;> rfl)
  (fun k2=>by
   show spec_IsValidQuery_L4 N (k2+1) n atoms out v _ (atoms.length:Int)=_
   rw [spec_IsValidQuery_L4,dge (by omega),cond_false,List.take_length]) N 0 (by omega) (by omega)
theorem SVQ_L3 (hN:1073741824≤N) {m:Nat} {atoms:List QAtom} {out:List Int} (ha:okAtoms atoms) (hm:m≤5) :
  spec_IsValidQuery_L3 N N (m:Int) atoms out 0=some (bif covered m atoms then .inr (m:Int) else .inl false):=by
 have h:=loopA (fun k i=>spec_IsValidQuery_L3 N k (m:Int) atoms out i) m (by omega) false (fun v=>atoms.any fun a=>decide ((v:Int)∈a.2)) (m:Int)
  (fun k v h=>by
   show spec_IsValidQuery_L3 N (k+1) (m:Int) atoms out (v:Int)=_
   rw [spec_IsValidQuery_L3,dlt h,cond_true,SVQ_L4 hN ha,bs,lpB]
   simp only []
   rw [ad1 (by omega),bs])
  (fun k=>by
   show spec_IsValidQuery_L3 N (k+1) (m:Int) atoms out (m:Int)=_
   rw [spec_IsValidQuery_L3,dge (by omega),cond_false]) N 0 (by omega) (by omega)
 unfold covered
 rw [Int.toNat_natCast]
 rw [Nat.sub_zero] at h
 exact h
theorem SVQ_L5 (hN:1073741824≤N) {n:Int} {atoms:List QAtom} {out:List Int} (ho:out.length≤1048576) (hn:n≤5) (h0:0≤n) :
  spec_IsValidQuery_L5 N N n atoms out 0=some (bif isSetB out n then .inr (out.length:Int) else .inl false):=by
 have h:=loopA (fun k i=>spec_IsValidQuery_L5 N k n atoms out i) out.length (by omega) false (fun i=>inR (out.getD i 0) 0 (n-1)&&!decide (out.getD i 0∈out.take i)) (out.length:Int)
  (fun k i h=>by
   show spec_IsValidQuery_L5 N (k+1) n atoms out (i:Int)=_
   rw [spec_IsValidQuery_L5,dlt h,cond_true,ix_nat h,bs,sb_ok (by omega) (by omega),bs,l1In_eq,bs,show ((0:Int))=((0:Nat):Int) from rfl,slc_ok (Nat.zero_le _) (by omega),bs,bs,List.drop_zero,l7Find_eq hN (by simp;omega),bs,ad1 (by omega),bs]
   simp only [getD_at h,findI_nonneg,show ((0:Nat):Int)=0 from rfl]
   cases inR out[i] 0 (n-1)
   ·rfl
   ·cases decide (out[i]∈out.take i) <;> rfl)
  (fun k=>by
   show spec_IsValidQuery_L5 N (k+1) n atoms out (out.length:Int)=_
   rw [spec_IsValidQuery_L5,dge (by omega),cond_false]) N 0 (by omega) (by omega)
 rw [Nat.sub_zero] at h
 exact h
theorem IsValidQuery_spec_eq (hN:1073741824≤N) {n:Int} {atoms:List QAtom} {out:List Int} (ha:okAtoms atoms) (ho:okI out):spec_IsValidQuery N n atoms out=some (queryOk n atoms out):=by
 have hl:=ha.1
 have hol:=ho.1
 unfold spec_IsValidQuery
 rw [l1In_eq,bs,l1In_eq,bs]
 cases hn:inR n 1 5 with
 | false=>rw [queryOk_no hn];rfl
 | true =>
  have hn':=inR_iff.1 hn
  unfold queryOk
  rw [hn]
  cases inR (atoms.length:Int) 1 4 with
  | false=>rfl
  | true =>
   simp only [cond_true,Bool.true_and]
   by_cases hlen:n<(out.length:Int)
   ·have:isSetB out n=false:=by
     rw [← Bool.not_eq_true];intro h
     have:=isSetB_len (by omega) h;omega
    rw [decide_eq_true hlen,cond_true,this];rfl
   ·obtain ⟨m,rfl⟩:=Int.eq_ofNat_of_zero_le (by omega:0≤n)
    rw [decide_eq_false hlen,cond_false,SVQ_L1 hN ha (by omega) (by omega),bs]
    cases atoms.all (atomOk m) with
    | false=>rw [Bool.and_false,Bool.false_and];rfl
    | true =>
     simp only [cond_true,lpS,Bool.and_true]
     rw [SVQ_L3 hN ha (by omega),bs]
     cases covered m atoms with
     | false=>rw [Bool.and_false];rfl
     | true =>
      simp only [cond_true,lpS,Bool.and_true]
      rw [SVQ_L5 hN hol (by omega) (by omega),bs]
      cases isSetB out m <;> rfl
theorem queryOk_n {n:Int} {atoms:List QAtom} {out:List Int} (h:queryOk n atoms out=true):1≤n∧n≤5∧1≤(atoms.length:Int)∧(atoms.length:Int)≤4:=by
 unfold queryOk at h
 simp only [Bool.and_eq_true,inR_iff] at h
 exact ⟨h.1.1.1.1.1,h.1.1.1.1.2,h.1.1.1.2.1,h.1.1.1.2.2⟩
end
end Go.Proofs.Ytkpeabpdiffjhaa
namespace Go.Proofs.Ytkpeabpdiffjhaa
open Go.RowKit

theorem loop2 {σ V:Type} (L1 L2:Nat→σ→Int→Option V) (n:Nat) (I:Nat→σ→Prop) (P:V→Prop)
  (hstep:∀ k i s,i<n→I i s→(∃ s',L1 (k+1) s (i:Int)=L1 k s' ((i+1:Nat):Int)∧L2 (k+1) s (i:Int)=L2 k s' ((i+1:Nat):Int)∧I (i+1) s')∨∃ v,L1 (k+1) s (i:Int)=some v∧L2 (k+1) s (i:Int)=some v∧P v)
  (hend:∀ k s,I n s→∃ v,L1 (k+1) s (n:Int)=some v∧L2 (k+1) s (n:Int)=some v∧P v) :
  ∀ k i s,i≤n→n-i<k→I i s→∃ v,L1 k s (i:Int)=some v∧L2 k s (i:Int)=some v∧P v:=by
 intro k
 induction k with
 | zero=>intro i s hi hk;omega
 | succ k ih =>
  intro i s hi hk hI
  by_cases h:i<n
  ·rcases hstep k i s h hI with ⟨s',e1,e2,hI'⟩ | ⟨v,e1,e2,hP⟩
   ·rw [e1,e2];exact ih (i+1) s' (by omega) (by omega) hI'
   ·exact ⟨v,e1,e2,hP⟩
  ·obtain rfl:i=n:=by omega
   exact hend k s hI
end Go.Proofs.Ytkpeabpdiffjhaa
namespace Go.Proofs.Ytkpeabpdiffjhaa
open Go.RowKit

section
variable {N:Nat}
def ordV (n:Nat):List Int:=(List.range' 0 n).map fun i:Nat=>(i:Int)
theorem ordV_len (n:Nat):(ordV n).length=n:=by simp [ordV]
end
end Go.Proofs.Ytkpeabpdiffjhaa
namespace Go.Proofs.Ytkpeabpdiffjhaa
open Go.RowKit

abbrev RowL:=List (List Int)
def mergeV:Nat→RowL→RowL→RowL
 | 0,_,_=>[]
 | _+1,[],[]=>[]
 | m+1,[],y :: b=>y :: mergeV m [] b
 | m+1,x :: a,[]=>x :: mergeV m a []
 | m+1,x :: a,y :: b=>if cmpR x y<0 then x :: mergeV m a (y :: b) else if cmpR x y=0 then x :: mergeV m a b else y :: mergeV m (x :: a) b
theorem mergeV_fuel:∀ (m m':Nat) (a b:RowL),a.length+b.length≤m→a.length+b.length≤m'→mergeV m a b=mergeV m' a b:=by
 intro m
 induction m with
 | zero =>
  intro m' a b h1 h2
  obtain rfl:a=[]:=List.length_eq_zero_iff.1 (by omega)
  obtain rfl:b=[]:=List.length_eq_zero_iff.1 (by simpa using h1)
  cases m' <;> rfl
 | succ m ih =>
  intro m' a b h1 h2
  cases m' with
  | zero =>
   obtain rfl:a=[]:=List.length_eq_zero_iff.1 (by omega)
   obtain rfl:b=[]:=List.length_eq_zero_iff.1 (by simpa using h2)
   rfl
  | succ m' =>
   match a,b with
   | [],[]=>rfl
   | [],y :: b=>rw [mergeV,mergeV,ih m' [] b (by simp at h1 ⊢;omega) (by simp at h2 ⊢;omega)]
   | x :: a,[]=>rw [mergeV,mergeV,ih m' a [] (by simp at h1 ⊢;omega) (by simp at h2 ⊢;omega)]
   | x :: a,y :: b =>
    simp only [List.length_cons] at h1 h2
    rw [mergeV,mergeV,ih m' a (y :: b) (by simp only [List.length_cons];omega) (by simp only [List.length_cons];omega),ih m' a b (by omega) (by omega),ih m' (x :: a) b (by simp only [List.length_cons];omega) (by simp only [List.length_cons];omega)]
theorem mergeV_mem:∀ (m:Nat) (a b:RowL) (r:List Int),r∈mergeV m a b→r∈a∨r∈b:=by
 intro m
 induction m with
 | zero=>intro a b r h;simp [mergeV] at h
 | succ m ih =>
  intro a b r h
  match a,b with
  | [],[]=>simp [mergeV] at h
  | [],y :: b =>
   rw [mergeV,List.mem_cons] at h
   rcases h with rfl | h
   ·simp
   ·rcases ih _ _ _ h with h | h
    ·simp at h
    ·simp [h]
  | x :: a,[] =>
   rw [mergeV,List.mem_cons] at h
   rcases h with rfl | h
   ·simp
   ·rcases ih _ _ _ h with h | h
    ·simp [h]
    ·simp at h
  | x :: a,y :: b =>
   rw [mergeV] at h
   split at h
   ·rcases List.mem_cons.1 h with rfl | h
    ·simp
    ·rcases ih _ _ _ h with h | h
     ·simp [h]
     ·exact .inr h
   ·split at h
    ·rcases List.mem_cons.1 h with rfl | h
     ·simp
     ·rcases ih _ _ _ h with h | h
      ·simp [h]
      ·simp [h]
    ·rcases List.mem_cons.1 h with rfl | h
     ·simp
     ·rcases ih _ _ _ h with h | h
      ·exact .inl h
      ·simp [h]
theorem mergeV_len:∀ (m:Nat) (a b:RowL),(mergeV m a b).length≤a.length+b.length:=by
 intro m
 induction m with
 | zero=>intro a b;simp [mergeV]
 | succ m ih =>
  intro a b
  match a,b with
  | [],[]=>simp [mergeV]
  | [],y :: b=>have:=ih [] b;rw [mergeV];simp only [List.length_cons,List.length_nil] at *;omega
  | x :: a,[]=>have:=ih a [];rw [mergeV];simp only [List.length_cons,List.length_nil] at *;omega
  | x :: a,y :: b =>
   have h1:=ih a (y :: b);have h2:=ih a b;have h3:=ih (x :: a) b
   rw [mergeV]
   simp only [List.length_cons] at *
   split
   ·simp only [List.length_cons];omega
   ·split <;> (simp only [List.length_cons];omega)
def ascP (rows:RowL):Prop:=rows.Pairwise fun a b=>cmpR a b<0
theorem cmpR_gt {a b:List Int} (h1:¬ cmpR a b<0) (h2:¬ cmpR a b=0):cmpR b a<0:=by
 have:=cmpR_neg a b;omega
theorem mergeV_asc:∀ (m:Nat) (a b:RowL),ascP a→ascP b→ascP (mergeV m a b):=by
 intro m
 induction m with
 | zero=>intro a b _ _;exact List.Pairwise.nil
 | succ m ih =>
  intro a b ha hb
  match a,b with
  | [],[]=>exact List.Pairwise.nil
  | [],y :: b =>
   rw [mergeV]
   obtain ⟨h1,h2⟩:=List.pairwise_cons.1 hb
   refine List.pairwise_cons.2 ⟨fun r hr=>?_,ih [] b ha h2⟩
   rcases mergeV_mem _ _ _ _ hr with h | h
   ·simp at h
   ·exact h1 r h
  | x :: a,[] =>
   rw [mergeV]
   obtain ⟨h1,h2⟩:=List.pairwise_cons.1 ha
   refine List.pairwise_cons.2 ⟨fun r hr=>?_,ih a [] h2 hb⟩
   rcases mergeV_mem _ _ _ _ hr with h | h
   ·exact h1 r h
   ·simp at h
  | x :: a,y :: b =>
   obtain ⟨h1,h2⟩:=List.pairwise_cons.1 ha
   obtain ⟨g1,g2⟩:=List.pairwise_cons.1 hb
   rw [mergeV]
   by_cases hlt:cmpR x y<0
   ·rw [if_pos hlt]
    refine List.pairwise_cons.2 ⟨fun r hr=>?_,ih a (y :: b) h2 hb⟩
    rcases mergeV_mem _ _ _ _ hr with h | h
    ·exact h1 r h
    ·rcases List.mem_cons.1 h with rfl | h
     ·exact hlt
     ·exact cmpR_trans hlt (g1 r h)
   ·rw [if_neg hlt]
    by_cases heq:cmpR x y=0
    ·rw [if_pos heq]
     have e:=cmpR_zero.1 heq
     refine List.pairwise_cons.2 ⟨fun r hr=>?_,ih a b h2 g2⟩
     rcases mergeV_mem _ _ _ _ hr with h | h
     ·exact h1 r h
     ·rw [e];exact g1 r h
    ·rw [if_neg heq]
     have hgt:=cmpR_gt hlt heq
     refine List.pairwise_cons.2 ⟨fun r hr=>?_,ih (x :: a) b ha g2⟩
     rcases mergeV_mem _ _ _ _ hr with h | h
     ·rcases List.mem_cons.1 h with rfl | h
      ·exact hgt
      ·exact cmpR_trans hgt (h1 r h)
     ·exact g1 r h
def sortV:Nat→RowL→RowL
 | 0,rows=>rows
 | f+1,rows=>if rows.length<2 then rows else mergeV rows.length (sortV f (rows.take (rows.length / 2))) (sortV f (rows.drop (rows.length / 2)))
theorem sortV_len:∀ (f:Nat) (rows:RowL),(sortV f rows).length≤rows.length:=by
 intro f
 induction f with
 | zero=>intro rows;exact Nat.le_refl _
 | succ f ih =>
  intro rows
  unfold sortV
  split
  ·exact Nat.le_refl _
  ·have h1:=mergeV_len rows.length (sortV f (rows.take (rows.length / 2))) (sortV f (rows.drop (rows.length / 2)))
   have h2:=ih (rows.take (rows.length / 2))
   have h3:=ih (rows.drop (rows.length / 2))
   rw [List.length_take] at h2
   rw [List.length_drop] at h3
   omega
theorem sortV_mem:∀ (f:Nat) (rows:RowL) (r:List Int),r∈sortV f rows→r∈rows:=by
 intro f
 induction f with
 | zero=>intro rows r h;exact h
 | succ f ih =>
  intro rows r h
  unfold sortV at h
  split at h
  ·exact h
  ·rcases mergeV_mem _ _ _ _ h with h | h
   ·exact List.mem_of_mem_take (ih _ _ h)
   ·exact List.mem_of_mem_drop (ih _ _ h)
theorem sortV_asc:∀ (f:Nat) (rows:RowL),rows.length≤2 ^ f→ascP (sortV f rows):=by
 intro f
 induction f with
 | zero =>
  intro rows h
  match rows,h with
  | [],_=>exact List.Pairwise.nil
  | [x],_=>exact List.pairwise_singleton _ _
  | _ :: _ :: _,h=>simp at h
 | succ f ih =>
  intro rows h
  rw [Nat.pow_succ] at h
  unfold sortV
  by_cases h2:rows.length<2
  ·rw [if_pos h2]
   match rows,h2 with
   | [],_=>exact List.Pairwise.nil
   | [x],_=>exact List.pairwise_singleton _ _
   | _ :: _ :: _,h2=>simp at h2;omega
  ·rw [if_neg h2]
   exact mergeV_asc _ _ _ (ih _ (by rw [List.length_take];omega)) (ih _ (by rw [List.length_drop];omega))
section
variable {N:Nat}
theorem ixc {α:Type} (x:α) (a:List α):ix (x :: a) 0=some x:=by unfold ix;rw [if_pos (by omega)];rfl
theorem slcc {α:Type} (x:α) (a:List α):slc (x :: a) 1 ((x :: a).length:Int)=some a:=by
 have h:=slc_ok (xs:=x :: a) (lo:=1) (hi:=(x :: a).length) (by simp) (Nat.le_refl _)
 rw [List.take_length] at h
 exact h
theorem lenp {α:Type} (x:α) (a:List α):decide ((0:Int)<((x :: a).length:Int))=true:=decide_eq_true (by rw [List.length_cons];omega)
theorem lenz {α:Type}:decide ((0:Int)<(([]:List α).length:Int))=false:=rfl
theorem lenq {α:Type} (x:α) (a:List α):(((x :: a).length:Int) == 0)=false:=by simp;omega
theorem sortI_L1 (hN:1073741824≤N) {rec:RowL→Option RowL}:∀ (m k:Nat) (a b out:RowL),a.length+b.length≤m→m<k→(∀ r∈a,r.length≤1048576)→(∀ r∈b,r.length≤1048576)→out.length+m≤4194304 →
  impl_sorted_L1 rec N k a b out=some ([],[],out++mergeV m a b):=by
 intro m
 induction m with
 | zero =>
  intro k a b out h hk ha hb ho
  obtain ⟨k,rfl⟩:∃ k',k=k'+1:=⟨k-1,by omega⟩
  obtain rfl:a=[]:=List.length_eq_zero_iff.1 (by omega)
  obtain rfl:b=[]:=List.length_eq_zero_iff.1 (by simpa using h)
  rw [impl_sorted_L1,lenz,cond_false,cond_false,mergeV,List.append_nil]
 | succ m ih =>
  intro k a b out h hk ha hb ho
  obtain ⟨k,rfl⟩:∃ k',k=k'+1:=⟨k-1,by omega⟩
  match a,b with
  | [],[]=>rw [impl_sorted_L1,lenz,cond_false,cond_false,mergeV,List.append_nil]
  | [],y :: b =>
   simp only [List.length_cons,List.length_nil] at h
   rw [impl_sorted_L1,lenz,cond_false,lenp,cond_true,show ((([]:RowL).length:Int) == 0)=true from rfl,cond_true,show decide ((1:Int)≤0)=false from rfl,cond_false,show decide ((0:Int)≤1)=true from rfl,cond_true,show decide ((0:Int)<1)=true from rfl,cond_true,ixc,bs,apd_ok' (by decide) (by simp;omega),bs,slcc,bs,
    ih k [] b (out++[y]) (by simp;omega) (by omega) ha (fun r hr=>hb r (by simp [hr])) (by rw [List.length_append,List.length_singleton];omega),mergeV,List.append_assoc]
   rfl
  | x :: a,[] =>
   simp only [List.length_cons,List.length_nil] at h
   rw [impl_sorted_L1,lenp,cond_true,lenq,cond_false,lenz,cond_false,show decide ((-1:Int)≤0)=true from rfl,cond_true,ixc,bs,apd_ok' (by decide) (by simp;omega),bs,slcc,bs,show decide ((0:Int)≤-1)=false from rfl,cond_false,
    ih k a [] (out++[x]) (by simp;omega) (by omega) (fun r hr=>ha r (by simp [hr])) hb (by rw [List.length_append,List.length_singleton];omega),mergeV,List.append_assoc]
   rfl
  | x :: a,y :: b =>
   simp only [List.length_cons] at h
   have hx:=ha x (by simp);have hy:=hb y (by simp)
   rw [impl_sorted_L1,lenp,cond_true,lenq,cond_false,lenp,cond_true,ixc,bs,ixc,bs,CompareRows_impl_eq hN hx (by omega),bs,mergeV]
   by_cases hlt:cmpR x y<0
   ·rw [if_pos hlt,decide_eq_true (by omega:cmpR x y≤0),cond_true,bs,apd_ok' (by decide) (by simp;omega),bs,slcc,bs,decide_eq_false (by omega:¬ 0≤cmpR x y),cond_false,
     ih k a (y :: b) (out++[x]) (by simp only [List.length_cons];omega) (by omega) (fun r hr=>ha r (by simp [hr])) hb (by rw [List.length_append,List.length_singleton];omega),List.append_assoc]
    rfl
   ·rw [if_neg hlt]
    by_cases heq:cmpR x y=0
    ·rw [if_pos heq,decide_eq_true (by omega:cmpR x y≤0),cond_true,bs,apd_ok' (by decide) (by simp;omega),bs,slcc,bs,decide_eq_true (by omega:0≤cmpR x y),cond_true,decide_eq_false (by omega:¬ 0<cmpR x y),cond_false,slcc,bs,
      ih k a b (out++[x]) (by omega) (by omega) (fun r hr=>ha r (by simp [hr])) (fun r hr=>hb r (by simp [hr])) (by rw [List.length_append,List.length_singleton];omega),List.append_assoc]
     rfl
    ·rw [if_neg heq,decide_eq_false (by omega:¬ cmpR x y≤0),cond_false,decide_eq_true (by omega:0≤cmpR x y),cond_true,decide_eq_true (by omega:0<cmpR x y),cond_true,bs,apd_ok' (by decide) (by simp;omega),bs,slcc,bs,
      ih k (x :: a) b (out++[y]) (by simp only [List.length_cons];omega) (by omega) ha (fun r hr=>hb r (by simp [hr])) (by rw [List.length_append,List.length_singleton];omega),List.append_assoc]
     rfl
def dropEq (z:Option (List Int)):RowL→RowL
 | []=>[]
 | y :: b=>if z=some y then b else y :: b
def InvS (z:Option (List Int)) (a b:RowL):Prop:=ascP a∧ascP b∧∀ w,z=some w→(∀ x∈a,cmpR w x<0)∧∀ y∈b,cmpR w y≤0
theorem cmpR_self (x:List Int):cmpR x x=0:=cmpR_zero.2 rfl
theorem dropEq_lt {x:List Int} {b:RowL} (h:∀ y∈b,cmpR x y<0):dropEq (some x) b=b:=by
 match b with
 | []=>rfl
 | y :: b =>
  show (if some x=some y then b else y :: b)=y :: b
  rw [if_neg]
  intro e
  have:=h y (by simp)
  rw [Option.some.inj e,cmpR_self] at this;omega
theorem dropEq_eq {z:Option (List Int)} {y:List Int} {b:RowL} (h:z=some y):dropEq z (y :: b)=b:=if_pos h
theorem dropEq_ne {z:Option (List Int)} {y:List Int} {b:RowL} (h:¬ z=some y):dropEq z (y :: b)=y :: b:=if_neg h
theorem app1 {out r:RowL} {x:List Int}:(out++[x])++r=out++x :: r:=by simp
theorem lastS {out:RowL} {x:List Int}:(out++[x]).getLast? = some x:=by simp
theorem skipS (hN:1073741824≤N) {α:Type} {out:RowL} {x:List Int} {F G:Option α} (hl:∀ r∈out,r.length≤1048576) (hx:x.length≤1048576) (ho:out.length≤4194304) (f:RowL→Option α) (hF:F=(apd 24 out [x]).bind f) (hG:G=(sb (out.length:Int) 1).bind fun i=>(ix out i).bind fun w=>(spec_CompareRows N w x).bind fun r=>bif (r != 0) then (apd 24 out [x]).bind f else f out) :
  (bif ((out.length:Int) == 0) then F else G)=f (if out.getLast? = some x then out else out++[x]):=by
 have hap:apd 24 out [x]=some (out++[x]):=apd_ok' (by decide) (by simp;omega)
 by_cases h0:out=[]
 ·subst h0
  rw [show ((([]:RowL).length:Int) == 0)=true from rfl,cond_true,hF,hap,bs]
  rfl
 ·have hp:0<out.length:=List.length_pos_iff.2 h0
  have hlast:out.getLast? = some out[out.length-1]:=by rw [List.getLast?_eq_getElem?,List.getElem?_eq_getElem (by omega)]
  rw [show ((out.length:Int) == 0)=false by simp;omega,cond_false,hG,sb_ok (by omega) (by omega),bs,show (out.length:Int)-1=((out.length-1:Nat):Int) by omega,ix_nat (by omega),bs,CompareRows_spec_eq hN (hl _ (List.getElem_mem _)) (by omega),bs,hap,bs,cmpR_bne,hlast]
  by_cases e:out[out.length-1]=x
  ·rw [decide_eq_true e,Bool.not_true,cond_false,if_pos (by rw [e])]
  ·rw [decide_eq_false e,Bool.not_false,cond_true,if_neg (fun h=>e (Option.some.inj h))]
def lenR (rows:RowL):Prop:=∀ r∈rows,r.length≤1048576
theorem lenR_tail {x:List Int} {a:RowL} (h:lenR (x :: a)):lenR a:=fun r hr=>h r (by simp [hr])
theorem lenR_app {out:RowL} {x:List Int} (h:lenR out) (hx:x.length≤1048576):lenR (out++[x]):=by
 intro r hr
 rcases List.mem_append.1 hr with hr | hr
 ·exact h r hr
 ·simp only [List.mem_singleton] at hr;subst hr;exact hx
theorem asc_tail {x:List Int} {a:RowL} (h:ascP (x :: a)):(∀ y∈a,cmpR x y<0)∧ascP a:=List.pairwise_cons.1 h
theorem sortS_L1 (hN:1073741824≤N) {rec:RowL→Option RowL}:∀ (m k:Nat) (a b out:RowL),a.length+b.length≤m→m<k→lenR a→lenR b→lenR out→out.length+m≤4194304→InvS out.getLast? a b →
  spec_l5Sort_L1 rec N k a b out=some ([],[],out++mergeV m a (dropEq out.getLast? b)):=by
 intro m
 induction m with
 | zero =>
  intro k a b out h hk ha hb hl ho hI
  obtain ⟨k,rfl⟩:∃ k',k=k'+1:=⟨k-1,by omega⟩
  obtain rfl:a=[]:=List.length_eq_zero_iff.1 (by omega)
  obtain rfl:b=[]:=List.length_eq_zero_iff.1 (by simpa using h)
  rw [spec_l5Sort_L1,lenz,cond_false,cond_false,mergeV,List.append_nil]
 | succ m ih =>
  intro k a b out h hk ha hb hl ho hI
  obtain ⟨k,rfl⟩:∃ k',k=k'+1:=⟨k-1,by omega⟩
  obtain ⟨aa,ab,iz⟩:=hI
  match a,b with
  | [],[] =>
   rw [spec_l5Sort_L1,lenz,cond_false,cond_false]
   show _=some ([],[],out++mergeV (m+1) [] [])
   rw [mergeV,List.append_nil]
  | [],y :: b =>
   simp only [List.length_cons,List.length_nil] at h
   have hy:=hb y (by simp)
   obtain ⟨b1,b2⟩:=asc_tail ab
   rw [spec_l5Sort_L1,lenz,cond_false,lenp,cond_true,show ((([]:RowL).length:Int) == 0)=true from rfl,cond_true,show decide ((0:Int)<1)=true from rfl,cond_true,ixc,bs,slcc,bs]
   refine Eq.trans (skipS (f:=fun o=>spec_l5Sort_L1 rec N k [] b o) hN hl hy (by omega) rfl rfl) ?_
   by_cases e:out.getLast? = some y
   ·rw [if_pos e]
    show spec_l5Sort_L1 rec N k [] b out=_
    rw [ih k [] b out (by simp;omega) (by omega) ha (lenR_tail hb) hl (by omega) ⟨aa,b2,fun w hw=>⟨by simp,fun y' hy'=>(iz w hw).2 y' (by simp [hy'])⟩⟩,dropEq_eq e,e,dropEq_lt b1,mergeV_fuel m (m+1) [] b (by simp;omega) (by simp;omega)]
   ·rw [if_neg e]
    show spec_l5Sort_L1 rec N k [] b (out++[y])=_
    rw [ih k [] b (out++[y]) (by simp;omega) (by omega) ha (lenR_tail hb) (lenR_app hl hy) (by rw [List.length_append,List.length_singleton];omega) ⟨aa,b2,fun w hw=>by
      rw [lastS] at hw;cases hw;exact ⟨by simp,fun y' hy'=>Int.le_of_lt (b1 y' hy')⟩⟩,lastS,dropEq_lt b1,dropEq_ne e,mergeV,app1]
  | x :: a,[] =>
   simp only [List.length_cons,List.length_nil] at h
   have hx:=ha x (by simp)
   obtain ⟨a1,a2⟩:=asc_tail aa
   have e:¬ out.getLast? = some x:=fun e=>by have:=(iz x e).1 x (by simp);rw [cmpR_self] at this;omega
   rw [spec_l5Sort_L1,lenp,cond_true,lenq,cond_false,lenz,cond_false,show decide ((0:Int) < -1)=false from rfl,cond_false,ixc,bs,slcc,bs]
   refine Eq.trans (skipS (f:=fun o=>spec_l5Sort_L1 rec N k a [] o) hN hl hx (by omega) rfl rfl) ?_
   rw [if_neg e]
   show spec_l5Sort_L1 rec N k a [] (out++[x])=_
   rw [ih k a [] (out++[x]) (by simp;omega) (by omega) (lenR_tail ha) hb (lenR_app hl hx) (by rw [List.length_append,List.length_singleton];omega) ⟨a2,ab,fun w hw=>by
     rw [lastS] at hw;cases hw;exact ⟨a1,by simp⟩⟩]
   show some ([],[],(out++[x])++mergeV m a [])=some ([],[],out++mergeV (m+1) (x :: a) [])
   rw [mergeV,app1]
  | x :: a,y :: b =>
   simp only [List.length_cons] at h
   have hx:=ha x (by simp);have hy:=hb y (by simp)
   obtain ⟨a1,a2⟩:=asc_tail aa
   obtain ⟨b1,b2⟩:=asc_tail ab
   have ex:¬ out.getLast? = some x:=fun e=>by have:=(iz x e).1 x (by simp);rw [cmpR_self] at this;omega
   rw [spec_l5Sort_L1,lenp,cond_true,lenq,cond_false,lenp,cond_true,ixc,bs,ixc,bs,CompareRows_spec_eq hN hx (by omega),bs]
   by_cases hgt:0<cmpR x y
   ·have hyx:cmpR y x<0:=by have:=cmpR_neg x y;omega
    rw [decide_eq_true hgt,cond_true,bs,slcc,bs]
    refine Eq.trans (skipS (f:=fun o=>spec_l5Sort_L1 rec N k (x :: a) b o) hN hl hy (by omega) rfl rfl) ?_
    by_cases e:out.getLast? = some y
    ·rw [if_pos e]
     show spec_l5Sort_L1 rec N k (x :: a) b out=_
     rw [ih k (x :: a) b out (by simp only [List.length_cons];omega) (by omega) ha (lenR_tail hb) hl (by omega) ⟨aa,b2,fun w hw=>⟨(iz w hw).1,fun y' hy'=>(iz w hw).2 y' (by simp [hy'])⟩⟩,dropEq_eq e,e,dropEq_lt b1,mergeV_fuel m (m+1) (x :: a) b (by simp only [List.length_cons];omega) (by simp only [List.length_cons];omega)]
    ·rw [if_neg e]
     show spec_l5Sort_L1 rec N k (x :: a) b (out++[y])=_
     rw [ih k (x :: a) b (out++[y]) (by simp only [List.length_cons];omega) (by omega) ha (lenR_tail hb) (lenR_app hl hy) (by rw [List.length_append,List.length_singleton];omega) ⟨aa,b2,fun w hw=>by
       rw [lastS] at hw;cases hw
       refine ⟨fun x' hx'=>?_,fun y' hy'=>Int.le_of_lt (b1 y' hy')⟩
       rcases List.mem_cons.1 hx' with rfl | hx'
       ·exact hyx
       ·exact cmpR_trans hyx (a1 x' hx')⟩,lastS,dropEq_lt b1,dropEq_ne e,mergeV,if_neg (by omega),if_neg (by omega),app1]
   ·rw [decide_eq_false hgt,cond_false,bs,slcc,bs]
    refine Eq.trans (skipS (f:=fun o=>spec_l5Sort_L1 rec N k a (y :: b) o) hN hl hx (by omega) rfl rfl) ?_
    rw [if_neg ex]
    show spec_l5Sort_L1 rec N k a (y :: b) (out++[x])=_
    have ey:¬ out.getLast? = some y:=fun e=>by
     have h1:=(iz y e).1 x (by simp)
     have:=cmpR_neg x y
     omega
    have hb':∀ y'∈b,cmpR x y'<0:=fun y' hy'=>by
     by_cases h0:cmpR x y=0
     ·rw [cmpR_zero.1 h0];exact b1 y' hy'
     ·exact cmpR_trans (by omega) (b1 y' hy')
    rw [ih k a (y :: b) (out++[x]) (by simp only [List.length_cons];omega) (by omega) (lenR_tail ha) hb (lenR_app hl hx) (by rw [List.length_append,List.length_singleton];omega) ⟨a2,ab,fun w hw=>by
      rw [lastS] at hw;cases hw
      refine ⟨a1,fun y' hy'=>?_⟩
      rcases List.mem_cons.1 hy' with rfl | hy'
      ·omega
      ·exact Int.le_of_lt (hb' y' hy')⟩,lastS,dropEq_ne ey,mergeV]
    by_cases h0:cmpR x y=0
    ·rw [dropEq_eq (by rw [cmpR_zero.1 h0]),if_neg (by omega),if_pos h0,app1]
    ·rw [dropEq_ne (fun e=>h0 (by rw [Option.some.inj e,cmpR_self])),if_pos (by omega),app1]
theorem qt2 {n:Nat} (h:n≤1048576):qt (n:Int) 2=some ((n / 2:Nat):Int):=by
 have e:(n:Int).tdiv 2=((n / 2:Nat):Int):=rfl
 unfold qt
 rw [e,if_pos ⟨by decide,by unfold rng;simp only [Bool.and_eq_true,decide_eq_true_eq];omega⟩]
theorem sorted_eq:∀ (d M:Nat) (rows:RowL),rows.length≤2 ^ d→1073741825+d≤M→okII rows→impl_sorted M rows=some (sortV d rows):=by
 intro d
 induction d with
 | zero =>
  intro M rows h hM hr
  obtain ⟨M,rfl⟩:∃ M',M=M'+1:=⟨M-1,by omega⟩
  rw [impl_sorted,decide_eq_true (by simp at h;omega),cond_true,copyRows_eq (by omega) hr,bs];rfl
 | succ d ih =>
  intro M rows h hM hr
  obtain ⟨M,rfl⟩:∃ M',M=M'+1:=⟨M-1,by omega⟩
  rw [Nat.pow_succ] at h
  have hl:=hr.1
  rw [impl_sorted,sortV]
  by_cases h2:rows.length<2
  ·rw [decide_eq_true (by omega),cond_true,copyRows_eq (by omega) hr,bs,if_pos h2]
  ·have ht:okII (rows.take (rows.length / 2)):=⟨by rw [List.length_take];omega,fun r h=>hr.2 r (List.mem_of_mem_take h)⟩
   have hd:okII (rows.drop (rows.length / 2)):=⟨by rw [List.length_drop];omega,fun r h=>hr.2 r (List.mem_of_mem_drop h)⟩
   have l1:=sortV_len d (rows.take (rows.length / 2))
   have l2:=sortV_len d (rows.drop (rows.length / 2))
   rw [List.length_take] at l1
   rw [List.length_drop] at l2
   rw [decide_eq_false (by omega),cond_false,if_neg h2,qt2 hl,bs,show (0:Int)=((0:Nat):Int) from rfl,slc_ok (Nat.zero_le _) (by omega),bs,slc_ok (by omega) (Nat.le_refl _),bs,List.drop_zero,List.take_length,
    ih M _ (by rw [List.length_take];omega) (by omega) ht,bs,ih M _ (by rw [List.length_drop];omega) (by omega) hd,bs,
    sortI_L1 (by omega) rows.length M _ _ [] (by omega) (by omega) (fun r h=>(ht.2 r (sortV_mem _ _ _ h)).1) (fun r h=>(hd.2 r (sortV_mem _ _ _ h)).1) (by rw [List.length_nil];omega),bs,lpB]
   rfl
theorem l5Sort_eq:∀ (d M:Nat) (rows:RowL),rows.length≤2 ^ d→1073741825+d≤M→okII rows→spec_l5Sort M rows=some (sortV d rows):=by
 intro d
 induction d with
 | zero =>
  intro M rows h hM hr
  obtain ⟨M,rfl⟩:∃ M',M=M'+1:=⟨M-1,by omega⟩
  rw [spec_l5Sort,decide_eq_true (by simp at h;omega),cond_true];rfl
 | succ d ih =>
  intro M rows h hM hr
  obtain ⟨M,rfl⟩:∃ M',M=M'+1:=⟨M-1,by omega⟩
  rw [Nat.pow_succ] at h
  have hl:=hr.1
  rw [spec_l5Sort,sortV]
  by_cases h2:rows.length<2
  ·rw [decide_eq_true (by omega),cond_true,if_pos h2]
  ·have ht:okII (rows.take (rows.length / 2)):=⟨by rw [List.length_take];omega,fun r h=>hr.2 r (List.mem_of_mem_take h)⟩
   have hd:okII (rows.drop (rows.length / 2)):=⟨by rw [List.length_drop];omega,fun r h=>hr.2 r (List.mem_of_mem_drop h)⟩
   have l1:=sortV_len d (rows.take (rows.length / 2))
   have l2:=sortV_len d (rows.drop (rows.length / 2))
   have ha1:=sortV_asc d (rows.take (rows.length / 2)) (by rw [List.length_take];omega)
   have ha2:=sortV_asc d (rows.drop (rows.length / 2)) (by rw [List.length_drop];omega)
   rw [List.length_take] at l1
   rw [List.length_drop] at l2
   rw [decide_eq_false (by omega),cond_false,if_neg h2,qt2 hl,bs,show (0:Int)=((0:Nat):Int) from rfl,slc_ok (Nat.zero_le _) (by omega),bs,List.drop_zero,
    ih M _ (by rw [List.length_take];omega) (by omega) ht,bs,slc_ok (by omega) (Nat.le_refl _),bs,List.take_length,ih M _ (by rw [List.length_drop];omega) (by omega) hd,bs,
    sortS_L1 (by omega) rows.length M _ _ [] (by omega) (by omega) (fun r h=>(ht.2 r (sortV_mem _ _ _ h)).1) (fun r h=>(hd.2 r (sortV_mem _ _ _ h)).1) (fun r h=>by simp at h) (by rw [List.length_nil];omega) ⟨ha1,ha2,fun w hw=>by simp at hw⟩,bs,lpB]
   have hdz:dropEq (([]:RowL).getLast?) (sortV d (rows.drop (rows.length / 2)))=sortV d (rows.drop (rows.length / 2)):=by
    cases sortV d (rows.drop (rows.length / 2)) with
    | nil=>rfl
    | cons y b=>exact dropEq_ne (by simp)
   rw [hdz]
   rfl
end
end Go.Proofs.Ytkpeabpdiffjhaa
namespace Go.Proofs.Ytkpeabpdiffjhaa
open Go.RowKit

def rowsFit (n:Int) (rows:RowL):Bool:=rows.all fun r=>decide ((r.length:Int)=n)&&validVals r
def noRel:(Int × RowL) × Bool:=((0,[]),false)
def newRelV (n:Int) (rows:RowL):(Int × RowL) × Bool:=bif rowsFit n rows&&validRows n (sortV 20 rows) then ((n,sortV 20 rows),true) else noRel
def pickV (row cols:List Int):List Int:=cols.map fun c=>row.getD c.toNat 0
theorem pickV_len (row cols:List Int):(pickV row cols).length=cols.length:=by simp [pickV]
theorem pickV_succ {row cols:List Int} {i:Nat} (h:i<cols.length):pickV row (cols.take i)++[row.getD cols[i].toNat 0]=pickV row (cols.take (i+1)):=by
 unfold pickV;rw [List.take_succ_eq_append_getElem h,List.map_append];rfl
def colsFit (n:Int) (cols:List Int):Bool:=cols.all fun c=>inR c 0 (n-1)
def projV (n:Int) (rows:RowL) (cols:List Int):(Int × RowL) × Bool :=
 bif validRows n rows&&(decide ((cols.length:Int)≤5)&&colsFit n cols) then newRelV (cols.length:Int) (rows.map fun r=>pickV r cols) else noRel
def trieV (n:Int) (rows:RowL) (cols:List Int):(Int × RowL) × Bool:=bif isPermB cols&&decide ((cols.length:Int)=n) then (bif (projV n rows cols).2 then ((projV n rows cols).1,true) else noRel) else noRel
theorem sortV_ok {rows:RowL} (d:Nat) (h:okII rows):okII (sortV d rows):=⟨Nat.le_trans (sortV_len d rows) h.1,fun r hr=>h.2 r (sortV_mem _ _ _ hr)⟩
theorem newRelV_ok {n:Int} {rows:RowL} (h:okII rows):okII (newRelV n rows).1.2:=by
 unfold newRelV
 cases rowsFit n rows&&validRows n (sortV 20 rows) with
 | false=>exact ⟨Nat.zero_le _,fun r hr=>by simp [noRel] at hr⟩
 | true=>exact sortV_ok 20 h
section
variable {N:Nat}
theorem newI_L1 (hN:1073741824≤N) {n:Int} {rows:RowL} (hr:okII rows):impl_NewRelation_L1 N N n rows 0 [] rows (rows.length:Int) 0=some (bif rowsFit n rows then .inr (rows.length:Int) else .inl noRel):=by
 have hl:=hr.1
 have h:=loopA (fun k i=>impl_NewRelation_L1 N k n rows 0 [] rows (rows.length:Int) i) rows.length (by omega) noRel (fun i=>if h:i<rows.length then decide ((rows[i].length:Int)=n)&&validVals rows[i] else true) (rows.length:Int)
  (fun k i h=>by
   have hx:=(hr.2 _ (List.getElem_mem h)).1
   show impl_NewRelation_L1 N (k+1) n rows 0 [] rows (rows.length:Int) (i:Int)=_
   rw [impl_NewRelation_L1,dlt h,cond_true,ix_nat h,bs,AreValidValues_impl_eq hN hx,bs,ad1 (by omega),bs,dif_pos h]
   by_cases e:(rows[i].length:Int)=n
   ·rw [show ((rows[i].length:Int) != n)=false by simpa using e,cond_false,decide_eq_true e,Bool.true_and];rfl
   ·rw [show ((rows[i].length:Int) != n)=true by simpa using e,cond_true,decide_eq_false e,Bool.false_and,cond_false];rfl)
  (fun k=>by
   show impl_NewRelation_L1 N (k+1) n rows 0 [] rows (rows.length:Int) (rows.length:Int)=_
   rw [impl_NewRelation_L1,dge (by omega),cond_false]) N 0 (by omega) (by omega)
 rw [Nat.sub_zero,range_all rows (fun r=>decide ((r.length:Int)=n)&&validVals r) _ (fun i hi=>by rw [dif_pos hi])] at h
 exact h
theorem newS_L1 (hN:1073741824≤N) {n:Int} {rows:RowL} (hr:okII rows):spec_NewRelation_L1 N N n rows 0 [] 0=some (bif rowsFit n rows then .inr (rows.length:Int) else .inl noRel):=by
 have hl:=hr.1
 have h:=loopA (fun k i=>spec_NewRelation_L1 N k n rows 0 [] i) rows.length (by omega) noRel (fun i=>if h:i<rows.length then decide ((rows[i].length:Int)=n)&&validVals rows[i] else true) (rows.length:Int)
  (fun k i h=>by
   have hx:=(hr.2 _ (List.getElem_mem h)).1
   show spec_NewRelation_L1 N (k+1) n rows 0 [] (i:Int)=_
   rw [spec_NewRelation_L1,dlt h,cond_true,ix_nat h,bs,bs,AreValidValues_spec_eq hN hx,bs,ad1 (by omega),bs,dif_pos h]
   by_cases e:(rows[i].length:Int)=n
   ·rw [show ((rows[i].length:Int) != n)=false by simpa using e,cond_false,decide_eq_true e,Bool.true_and];rfl
   ·rw [show ((rows[i].length:Int) != n)=true by simpa using e,cond_true,decide_eq_false e,Bool.false_and,cond_false];rfl)
  (fun k=>by
   show spec_NewRelation_L1 N (k+1) n rows 0 [] (rows.length:Int)=_
   rw [spec_NewRelation_L1,dge (by omega),cond_false]) N 0 (by omega) (by omega)
 rw [Nat.sub_zero,range_all rows (fun r=>decide ((r.length:Int)=n)&&validVals r) _ (fun i hi=>by rw [dif_pos hi])] at h
 exact h
theorem NewRelation_impl_eq (hM:1073742848≤N) {n:Int} {rows:RowL} (hr:okII rows):impl_NewRelation N n rows=some (newRelV n rows):=by
 unfold impl_NewRelation newRelV
 rw [newI_L1 (by omega) hr,bs]
 cases rowsFit n rows with
 | false=>rw [cond_false,lpSl];rfl
 | true =>
  rw [cond_true,lpSr,sorted_eq 20 N rows (by have:=hr.1;omega) (by omega) hr,bs,IsValidRelation_impl_eq (by omega) (sortV_ok 20 hr),bs,Bool.true_and]
  cases validRows n (sortV 20 rows) <;> rfl
theorem NewRelation_spec_eq (hM:1073742848≤N) {n:Int} {rows:RowL} (hr:okII rows):spec_NewRelation N n rows=some (newRelV n rows):=by
 unfold spec_NewRelation newRelV
 rw [newS_L1 (by omega) hr,bs]
 cases rowsFit n rows with
 | false=>rw [cond_false,lpSl];rfl
 | true =>
  rw [cond_true,lpSr,l5Sort_eq 20 N rows (by have:=hr.1;omega) (by omega) hr,bs,l5Copy_eq (by omega) (sortV_ok 20 hr),bs,IsValidRelation_spec_eq (by omega) (sortV_ok 20 hr),bs,Bool.true_and]
  cases validRows n (sortV 20 rows) <;> rfl
theorem pick_eq (hN:1073741824≤N) {row cols:List Int} (hc:cols.length≤1048576) (hin:∀ c∈cols,0≤c∧c<row.length):impl_pick N row cols=some (pickV row cols):=by
 have h:=loopI (fun k (s:List Int) i=>impl_pick_L1 N k row s cols (cols.length:Int) i) cols.length (fun i=>pickV row (cols.take i)) (pickV row cols,(cols.length:Int))
  (fun k i h=>by
   have hb:=hin _ (List.getElem_mem h)
   show impl_pick_L1 N (k+1) row (pickV row (cols.take i)) cols (cols.length:Int) (i:Int)=_
   rw [impl_pick_L1,dlt h,cond_true,ix_nat h,bs,ix_int hb.1 hb.2,bs,apd_ok' (by decide) (by rw [pickV_len];simp;omega),bs,ad1 (by omega),bs,← getD_at (by omega),pickV_succ h])
  (fun k=>by
   show impl_pick_L1 N (k+1) row (pickV row (cols.take cols.length)) cols (cols.length:Int) (cols.length:Int)=_
   rw [impl_pick_L1,dge (by omega),cond_false,List.take_length]) N 0 (by omega) (by omega)
 have h':impl_pick_L1 N N row [] cols (cols.length:Int) 0=_:=h
 unfold impl_pick
 rw [h',bs,lpB]
theorem l5Cols_eq (hN:1073741824≤N) {row cols:List Int} (hc:cols.length≤1048576) (hin:∀ c∈cols,0≤c∧c<row.length):spec_l5Cols N row cols=some (pickV row cols):=by
 have h:=loopI (fun k (s:List Int) i=>spec_l5Cols_L1 N k row cols s i) cols.length (fun i=>pickV row (cols.take i)) (pickV row cols,(cols.length:Int))
  (fun k i h=>by
   have hb:=hin _ (List.getElem_mem h)
   show spec_l5Cols_L1 N (k+1) row cols (pickV row (cols.take i)) (i:Int)=_
   rw [spec_l5Cols_L1,dlt h,cond_true,ix_nat h,bs,ix_int hb.1 hb.2,bs,apd_ok' (by decide) (by rw [pickV_len];simp;omega),bs,ad1 (by omega),bs,← getD_at (by omega),pickV_succ h])
  (fun k=>by
   show spec_l5Cols_L1 N (k+1) row cols (pickV row (cols.take cols.length)) (cols.length:Int)=_
   rw [spec_l5Cols_L1,dge (by omega),cond_false,List.take_length]) N 0 (by omega) (by omega)
 have h':spec_l5Cols_L1 N N row cols [] 0=_:=h
 unfold spec_l5Cols
 rw [h',bs,lpB]
theorem columnsFit_eq (hN:1073741824≤N) {n:Int} {cols:List Int} (hc:cols.length≤1048576) (hn:-1000≤n∧n≤1000):impl_columnsFit N n cols=some (decide ((cols.length:Int)≤5)&&colsFit n cols):=by
 unfold impl_columnsFit
 by_cases h5:5<(cols.length:Int)
 ·rw [decide_eq_true h5,cond_true,decide_eq_false (by omega)];rfl
 rw [decide_eq_false h5,cond_false,decide_eq_true (by omega),Bool.true_and]
 have h:=allL (fun k i=>impl_columnsFit_L1 N k n cols (cols.length:Int) i) cols (fun c=>inR c 0 (n-1)) hN hc
  (fun k i h=>by
   show impl_columnsFit_L1 N (k+1) n cols (cols.length:Int) (i:Int)=_
   rw [impl_columnsFit_L1,dlt h,cond_true,ix_nat h,bs,sb_ok (by omega) (by omega),bs,within_eq,bs,ad1 (by omega),bs])
  (fun k=>by
   show impl_columnsFit_L1 N (k+1) n cols (cols.length:Int) (cols.length:Int)=_
   rw [impl_columnsFit_L1,dge (by omega),cond_false])
 rw [h,bs]
 unfold colsFit
 cases cols.all fun c=>inR c 0 (n-1) <;> rfl
theorem projS_L1 (hN:1073741824≤N) {n:Int} {rows:RowL} {cols:List Int} (hc:cols.length≤1048576) (hn:-1000≤n∧n≤1000):spec_Project_L1 N N cols n rows 0 [] 0=some (bif colsFit n cols then .inr (cols.length:Int) else .inl noRel):=by
 have h:=loopA (fun k i=>spec_Project_L1 N k cols n rows 0 [] i) cols.length (by omega) noRel (fun i=>if h:i<cols.length then inR cols[i] 0 (n-1) else true) (cols.length:Int)
  (fun k i h=>by
   show spec_Project_L1 N (k+1) cols n rows 0 [] (i:Int)=_
   rw [spec_Project_L1,dlt h,cond_true,ix_nat h,bs,sb_ok (by omega) (by omega),bs,l1In_eq,bs,ad1 (by omega),bs,dif_pos h];rfl)
  (fun k=>by
   show spec_Project_L1 N (k+1) cols n rows 0 [] (cols.length:Int)=_
   rw [spec_Project_L1,dge (by omega),cond_false]) N 0 (by omega) (by omega)
 rw [Nat.sub_zero,range_all cols (fun c=>inR c 0 (n-1)) _ (fun i hi=>by rw [dif_pos hi])] at h
 exact h
theorem take_map_succ {rows:RowL} {f:List Int→List Int} {i:Nat} (h:i<rows.length):(rows.take i).map f++[f rows[i]]=(rows.take (i+1)).map f:=by
 rw [List.take_succ_eq_append_getElem h,List.map_append];rfl
theorem cols_in {n:Int} {rows:RowL} {cols:List Int} (hv:validRows n rows=true) (hc:colsFit n cols=true) {i:Nat} (h:i<rows.length):∀ c∈cols,0≤c∧c<rows[i].length:=by
 obtain ⟨_,_,_,h3⟩:=validRows_spec hv
 intro c hcm
 have h1:=(h3 i h).1
 unfold colsFit at hc
 have h2:=inR_iff.1 ((List.all_eq_true.1 hc) c hcm)
 omega
theorem Project_impl_eq (hM:1073742848≤N) {n:Int} {rows:RowL} {cols:List Int} (hr:okII rows) (hc:cols.length≤1048576):impl_Project N n rows cols=some (projV n rows cols):=by
 have hl:=hr.1
 unfold impl_Project projV
 rw [IsValidRelation_impl_eq (by omega) hr,bs]
 cases hv:validRows n rows with
 | false=>rfl
 | true =>
  obtain ⟨n0,n5,_,_⟩:=validRows_spec hv
  rw [cond_true,columnsFit_eq (by omega) hc (by omega),bs,Bool.true_and]
  cases h5:decide ((cols.length:Int)≤5)&&colsFit n cols with
  | false=>rfl
  | true =>
   rw [Bool.and_eq_true] at h5
   have hin:=fun (i:Nat) (h:i<rows.length)=>cols_in hv h5.2 h
   have h:=loopI (fun k (s:RowL) i=>impl_Project_L1 N k cols 0 [] s rows (rows.length:Int) i) rows.length (fun i=>(rows.take i).map fun r=>pickV r cols) (rows.map (fun r=>pickV r cols),(rows.length:Int))
    (fun k i h=>by
     show impl_Project_L1 N (k+1) cols 0 [] ((rows.take i).map fun r=>pickV r cols) rows (rows.length:Int) (i:Int)=_
     rw [impl_Project_L1,dlt h,cond_true,ix_nat h,bs,pick_eq (by omega) hc (hin i h),bs,apd_ok' (by decide) (by simp;omega),bs,ad1 (by omega),bs,take_map_succ (f:=fun r=>pickV r cols) h])
    (fun k=>by
     show impl_Project_L1 N (k+1) cols 0 [] ((rows.take rows.length).map fun r=>pickV r cols) rows (rows.length:Int) (rows.length:Int)=_
     rw [impl_Project_L1,dge (by omega),cond_false,List.take_length]) N 0 (by omega) (by omega)
   have h':impl_Project_L1 N N cols 0 [] [] rows (rows.length:Int) 0=_:=h
   have hok:okII (rows.map fun r=>pickV r cols):=⟨by rw [List.length_map];exact hl,fun r hr=>by
    obtain ⟨x,_,rfl⟩:=List.mem_map.1 hr
    exact ⟨by rw [pickV_len];exact hc,fun _ _=>trivial⟩⟩
   rw [cond_true,h',bs,lpB]
   show (impl_NewRelation N (cols.length:Int) (rows.map fun r=>pickV r cols)).bind _=_
   rw [NewRelation_impl_eq hM hok,bs]
   rfl
theorem Project_spec_eq (hM:1073742848≤N) {n:Int} {rows:RowL} {cols:List Int} (hr:okII rows) (hc:cols.length≤1048576) (hn:-1000≤n∧n≤1000):spec_Project N n rows cols=some (projV n rows cols):=by
 have hl:=hr.1
 unfold spec_Project projV
 rw [projS_L1 (by omega) hc hn,bs]
 cases hcf:colsFit n cols with
 | false=>rw [cond_false,lpSl,Bool.and_false,Bool.and_false];rfl
 | true =>
  rw [cond_true,lpSr,IsValidRelation_spec_eq (by omega) hr,bs]
  cases hv:validRows n rows with
  | false=>rfl
  | true =>
   rw [cond_true]
   by_cases h5:5<(cols.length:Int)
   ·rw [decide_eq_true h5,cond_true,decide_eq_false (by omega)];rfl
   ·have hin:=fun (i:Nat) (h:i<rows.length)=>cols_in hv hcf h
    have h:=loopI (fun k (s:RowL) i=>spec_Project_L2 N k cols n rows 0 [] s i) rows.length (fun i=>(rows.take i).map fun r=>pickV r cols) (rows.map (fun r=>pickV r cols),(rows.length:Int))
     (fun k i h=>by
      show spec_Project_L2 N (k+1) cols n rows 0 [] ((rows.take i).map fun r=>pickV r cols) (i:Int)=_
      rw [spec_Project_L2,dlt h,cond_true,ix_nat h,bs,l5Cols_eq (by omega) hc (hin i h),bs,apd_ok' (by decide) (by simp;omega),bs,ad1 (by omega),bs,take_map_succ (f:=fun r=>pickV r cols) h])
     (fun k=>by
      show spec_Project_L2 N (k+1) cols n rows 0 [] ((rows.take rows.length).map fun r=>pickV r cols) (rows.length:Int)=_
      rw [spec_Project_L2,dge (by omega),cond_false,List.take_length]) N 0 (by omega) (by omega)
    have h':spec_Project_L2 N N cols n rows 0 [] [] 0=_:=h
    have hok:okII (rows.map fun r=>pickV r cols):=⟨by rw [List.length_map];exact hl,fun r hr=>by
     obtain ⟨x,_,rfl⟩:=List.mem_map.1 hr
     exact ⟨by rw [pickV_len];exact hc,fun _ _=>trivial⟩⟩
    rw [decide_eq_false h5,cond_false,h',bs,lpB,decide_eq_true (by omega)]
    show (spec_NewRelation N (cols.length:Int) (rows.map fun r=>pickV r cols)).bind _=_
    rw [NewRelation_spec_eq hM hok,bs]
    rfl
end
end Go.Proofs.Ytkpeabpdiffjhaa
namespace Go.Proofs.Ytkpeabpdiffjhaa
open Go.RowKit

def varsV (xs:List Int):List Int:=(ordV 5).filter fun v=>decide (v∈xs)
theorem varsV_len (xs:List Int):(varsV xs).length≤5:=by
 unfold varsV
 exact Nat.le_trans (List.length_filter_le _ _) (by rw [ordV_len];omega)
def varsT (xs:List Int) (i:Nat):List Int:=(ordV i).filter fun v=>decide (v∈xs)
theorem varsT_len (xs:List Int) (i:Nat):(varsT xs i).length≤i:=by
 unfold varsT
 exact Nat.le_trans (List.length_filter_le _ _) (by rw [ordV_len];omega)
theorem ordV_succ (i:Nat):ordV (i+1)=ordV i++[(i:Int)]:=by unfold ordV;rw [List.range'_concat];simp
theorem varsT_in {xs:List Int} {i:Nat} (h:decide ((i:Int)∈xs)=true):varsT xs i++[(i:Int)]=varsT xs (i+1):=by
 unfold varsT;rw [ordV_succ,List.filter_append];simp only [List.filter_cons,List.filter_nil,h,if_true]
theorem varsT_out {xs:List Int} {i:Nat} (h:decide ((i:Int)∈xs)=false):varsT xs i=varsT xs (i+1):=by
 unfold varsT;rw [ordV_succ,List.filter_append];simp [h]
def colStep (vars out:List Int) (v:Int):List Int:=bif decide (0≤findI vars v)&&!decide (findI vars v∈out) then out++[findI vars v] else out
def colsV (xs order:List Int):List Int:=order.foldl (colStep (varsV xs)) []
section
variable {N:Nat}
theorem AtomVariables_impl_eq (hN:1073741824≤N) {s:ByteArray} {xs:List Int} (hx:okI xs):impl_AtomVariables N s xs=some (varsV xs):=by
 have h:=loopI (fun k (o:List Int) i=>impl_AtomVariables_L1 N k s xs o i) 5 (varsT xs) (varsV xs,5)
  (fun k i h=>by
   have hl:=varsT_len xs i
   show impl_AtomVariables_L1 N (k+1) s xs (varsT xs i) (i:Int)=_
   rw [impl_AtomVariables_L1,decide_eq_true (by omega),cond_true,ContainsVariable_impl_eq hN hx,bs]
   cases hc:decide ((i:Int)∈xs) with
   | true=>rw [cond_true,apd_ok' (by decide) (by simp;omega),bs,ad1 (by omega),bs,varsT_in hc]
   | false=>rw [cond_false,ad1 (by omega),bs,← varsT_out hc])
  (fun k=>by
   show impl_AtomVariables_L1 N (k+1) s xs (varsT xs 5) ((5:Nat):Int)=_
   rw [impl_AtomVariables_L1,decide_eq_false (by omega),cond_false];rfl) N 0 (by omega) (by omega)
 have h':impl_AtomVariables_L1 N N s xs [] 0=_:=h
 unfold impl_AtomVariables
 rw [h',bs,lpB]
theorem AtomVariables_spec_eq (hN:1073741824≤N) {s:ByteArray} {xs:List Int} (hx:okI xs):spec_AtomVariables N s xs=some (varsV xs):=by
 have h:=loopI (fun k (o:List Int) i=>spec_AtomVariables_L1 N k s xs o i) 5 (varsT xs) (varsV xs,5)
  (fun k i h=>by
   have hl:=varsT_len xs i
   show spec_AtomVariables_L1 N (k+1) s xs (varsT xs i) (i:Int)=_
   rw [spec_AtomVariables_L1,decide_eq_true (by omega),cond_true,ContainsVariable_spec_eq hN hx,bs]
   cases hc:decide ((i:Int)∈xs) with
   | true=>rw [cond_true,apd_ok' (by decide) (by simp;omega),bs,ad1 (by omega),bs,varsT_in hc]
   | false=>rw [cond_false,ad1 (by omega),bs,← varsT_out hc])
  (fun k=>by
   show spec_AtomVariables_L1 N (k+1) s xs (varsT xs 5) ((5:Nat):Int)=_
   rw [spec_AtomVariables_L1,decide_eq_false (by omega),cond_false];rfl) N 0 (by omega) (by omega)
 have h':spec_AtomVariables_L1 N N s xs [] 0=_:=h
 unfold spec_AtomVariables
 rw [h',bs,lpB]
end
end Go.Proofs.Ytkpeabpdiffjhaa
namespace Go.Proofs.Ytkpeabpdiffjhaa
open Go.RowKit

def atomFor (ts:List DTable) (a:QAtom):Bool:=(lookV ts a.1).2&&decide ((lookV ts a.1).1.1=(a.2.length:Int))
def queryFor (ts:List DTable) (n:Int) (atoms:List QAtom) (out:List Int):Bool:=queryOk n atoms out&&(dbOk ts&&atoms.all (atomFor ts))
section
variable {N:Nat}
theorem qfI_L1 (hN:1073741824≤N) {ts:List DTable} {atoms:List QAtom} (ht:okDb ts) (ha:okAtoms atoms):impl_IsQueryFor_L1 N N ts atoms (atoms.length:Int) 0=some (bif atoms.all (atomFor ts) then .inr (atoms.length:Int) else .inl false) :=
 allL (fun k i=>impl_IsQueryFor_L1 N k ts atoms (atoms.length:Int) i) atoms (atomFor ts) hN ha.1
  (fun k i h=>by
   have hl:=ha.1
   show impl_IsQueryFor_L1 N (k+1) ts atoms (atoms.length:Int) (i:Int)=_
   rw [impl_IsQueryFor_L1,dlt h,cond_true,ix_nat h,bs,LookupRelation_impl_eq hN ht,bs,ad1 (by omega),bs]
   unfold atomFor
   cases (lookV ts atoms[i].1).2 with
   | false=>rw [cond_false,Bool.false_and,cond_false]
   | true =>
    rw [cond_true,Bool.true_and]
    by_cases e:(lookV ts atoms[i].1).1.1=(atoms[i].2.length:Int)
    ·rw [show ((lookV ts atoms[i].1).1.1 != (atoms[i].2.length:Int))=false by simpa using e,cond_false,decide_eq_true e,cond_true]
    ·rw [show ((lookV ts atoms[i].1).1.1 != (atoms[i].2.length:Int))=true by simpa using e,cond_true,decide_eq_false e,cond_false])
  (fun k=>by
   show impl_IsQueryFor_L1 N (k+1) ts atoms (atoms.length:Int) (atoms.length:Int)=_
   rw [impl_IsQueryFor_L1,dge (by omega),cond_false])
theorem qfS_L1 (hN:1073741824≤N) {ts:List DTable} {n:Int} {atoms:List QAtom} {out:List Int} (ht:okDb ts) (ha:okAtoms atoms):spec_IsQueryFor_L1 N N ts n atoms out 0=some (bif atoms.all (atomFor ts) then .inr (atoms.length:Int) else .inl false) :=
 allL (fun k i=>spec_IsQueryFor_L1 N k ts n atoms out i) atoms (atomFor ts) hN ha.1
  (fun k i h=>by
   have hl:=ha.1
   show spec_IsQueryFor_L1 N (k+1) ts n atoms out (i:Int)=_
   rw [spec_IsQueryFor_L1,dlt h,cond_true,ix_nat h,bs,LookupRelation_spec_eq hN ht,bs,bs,ad1 (by omega),bs]
   unfold atomFor
   cases (lookV ts atoms[i].1).2 with
   | false=>rw [cond_false,Bool.false_and,cond_false]
   | true =>
    rw [cond_true,Bool.true_and]
    by_cases e:(lookV ts atoms[i].1).1.1=(atoms[i].2.length:Int)
    ·rw [show ((lookV ts atoms[i].1).1.1 != (atoms[i].2.length:Int))=false by simpa using e,cond_false,decide_eq_true e,cond_true]
    ·rw [show ((lookV ts atoms[i].1).1.1 != (atoms[i].2.length:Int))=true by simpa using e,cond_true,decide_eq_false e,cond_false])
  (fun k=>by
   show spec_IsQueryFor_L1 N (k+1) ts n atoms out (atoms.length:Int)=_
   rw [spec_IsQueryFor_L1,dge (by omega),cond_false])
theorem IsQueryFor_impl_eq (hN:1073741824≤N) {ts:List DTable} {n:Int} {atoms:List QAtom} {out:List Int} (ht:okDb ts) (ha:okAtoms atoms) (ho:okI out):impl_IsQueryFor N ts n atoms out=some (queryFor ts n atoms out):=by
 unfold impl_IsQueryFor queryFor
 rw [IsValidQuery_impl_eq hN ha ho,bs,IsValidDatabase_impl_eq hN ht,bs,qfI_L1 hN ht ha,bs]
 cases queryOk n atoms out <;> cases dbOk ts <;> cases atoms.all (atomFor ts) <;> rfl
theorem IsQueryFor_spec_eq (hN:1073741824≤N) {ts:List DTable} {n:Int} {atoms:List QAtom} {out:List Int} (ht:okDb ts) (ha:okAtoms atoms) (ho:okI out):spec_IsQueryFor N ts n atoms out=some (queryFor ts n atoms out):=by
 unfold spec_IsQueryFor queryFor
 rw [qfS_L1 hN ht ha,bs,IsValidQuery_spec_eq hN ha ho,bs,IsValidDatabase_spec_eq hN ht,bs]
 cases queryOk n atoms out <;> cases dbOk ts <;> cases atoms.all (atomFor ts) <;> rfl
end
end Go.Proofs.Ytkpeabpdiffjhaa
namespace Go.Proofs.Ytkpeabpdiffjhaa
open Go.RowKit

def fitAt (vs row:List Int) (i:Nat):Bool:=decide (row.getD (findI vs (vs.getD i 0)).toNat 0=row.getD i 0)
def fitT (vs row:List Int) (i:Nat):Bool:=(List.range' 0 i).all (fitAt vs row)
def rowFits (vs row:List Int):Bool:=fitT vs row vs.length
def bindRow (vs row:List Int):List Int:=(varsV vs).map fun v=>row.getD (findI vs v).toNat 0
theorem fitT_succ (vs row:List Int) (i:Nat):fitT vs row (i+1)=(fitT vs row i&&fitAt vs row i):=by
 unfold fitT;rw [List.range'_concat,List.all_append];simp
theorem findI_mem {vs:List Int} {v:Int} (h:v∈vs):∃ j:Nat,findI vs v=(j:Int)∧j<vs.length:=by
 rcases findI_spec vs v with ⟨h1,_⟩ | ⟨j,hj,_,e,_⟩
 ·exact absurd h h1
 ·exact ⟨j,e,hj⟩
section
variable {N:Nat}
theorem abI_L2 (hN:1073741824≤N) {p0:ByteArray} {vs row p3:List Int} {p1 p4 p8 p9:Int} {p2 p5 p6 p7:RowL} (hl:row.length=vs.length) (h5:vs.length≤1000) (hv:∀ v∈vs,0≤v∧v<5) :
  ∃ val:List Int,impl_AtomBindings_L2 N N p0 vs p1 p2 p3 p4 p5 p6 row (List.replicate 5 0) true p7 p8 p9 vs (vs.length:Int) 0=some (val,rowFits vs row,(vs.length:Int))∧val.length=5∧(rowFits vs row=true→∀ v∈vs,val.getD v.toNat 0=row.getD (findI vs v).toNat 0):=by
 obtain ⟨⟨val,f,z⟩,e1,_,h1,h2,h3,h4⟩:=loop2 (fun k (s:List Int × Bool) i=>impl_AtomBindings_L2 N k p0 vs p1 p2 p3 p4 p5 p6 row s.1 s.2 p7 p8 p9 vs (vs.length:Int) i) (fun k (s:List Int × Bool) i=>impl_AtomBindings_L2 N k p0 vs p1 p2 p3 p4 p5 p6 row s.1 s.2 p7 p8 p9 vs (vs.length:Int) i) vs.length
  (fun i s=>s.1.length=5∧s.2=fitT vs row i∧(fitT vs row i=true→∀ v∈vs.take i,s.1.getD v.toNat 0=row.getD (findI vs v).toNat 0))
  (fun v=>v.1.length=5∧v.2.1=rowFits vs row∧v.2.2=(vs.length:Int)∧(rowFits vs row=true→∀ w∈vs,v.1.getD w.toNat 0=row.getD (findI vs w).toNat 0))
  (fun k i s h hI=>by
   obtain ⟨i1,i2,i3⟩:=hI
   have hm:vs[i]∈vs:=List.getElem_mem h
   have hb:=hv _ hm
   obtain ⟨j,hj,hj2⟩:=findI_mem hm
   have hi2:i<row.length:=by omega
   have hj3:j<row.length:=by omega
   have hix:ix s.1 vs[i]=some (s.1[vs[i].toNat]'(by omega)):=ix_int hb.1 (by omega)
   have hst:sto s.1 vs[i] row[i]=some (s.1.set vs[i].toNat row[i]):=by
    have:=sto_nat (xs:=s.1) (i:=vs[i].toNat) (y:=row[i]) (by omega)
    rw [show ((vs[i].toNat:Nat):Int)=vs[i] by omega] at this
    exact this
   have hfa:fitAt vs row i=decide (row[j]=row[i]):=by
    unfold fitAt
    rw [getD_at h,hj,show ((j:Nat):Int).toNat=j from rfl,getD_at hj3,getD_at hi2]
   have step:impl_AtomBindings_L2 N (k+1) p0 vs p1 p2 p3 p4 p5 p6 row s.1 s.2 p7 p8 p9 vs (vs.length:Int) (i:Int)=impl_AtomBindings_L2 N k p0 vs p1 p2 p3 p4 p5 p6 row (s.1.set vs[i].toNat row[i]) (fitT vs row (i+1)) p7 p8 p9 vs (vs.length:Int) ((i+1:Nat):Int):=by
    rw [impl_AtomBindings_L2,dlt h,cond_true,ix_nat h,bs,indexOf_eq hN (by omega),bs,fitT_succ,← i2,hfa]
    cases s.2 with
    | true=>rw [cond_true,hj,ix_nat hj3,bs,ix_nat hi2,bs,bs,hix,bs,hst,bs,ad1 (by omega),bs,beqD,Bool.true_and]
    | false=>rw [cond_false,ix_nat hi2,bs,hix,bs,hst,bs,ad1 (by omega),bs,Bool.false_and]
   refine .inl ⟨(s.1.set vs[i].toNat row[i],fitT vs row (i+1)),step,step,by simpa using i1,rfl,fun hf v hvm=>?_⟩
   rw [fitT_succ,Bool.and_eq_true,hfa,decide_eq_true_eq] at hf
   rw [List.take_succ_eq_append_getElem h] at hvm
   by_cases e:v=vs[i]
   ·subst e
    show (s.1.set vs[i].toNat row[i]).getD vs[i].toNat 0=_
    rw [hj,show ((j:Nat):Int).toNat=j from rfl,getD_at hj3,hf.2,getD_at (by rw [List.length_set];omega),List.getElem_set_self]
   ·have hmem:v∈vs.take i:=by
     rcases List.mem_append.1 hvm with h | h
     ·exact h
     ·simp only [List.mem_singleton] at h;exact absurd h e
    have hbv:=hv v (List.mem_of_mem_take hmem)
    rw [← i3 hf.1 v hmem]
    show (s.1.set vs[i].toNat row[i]).getD v.toNat 0=_
    rw [getD_at (by rw [List.length_set];omega),getD_at (by omega),List.getElem_set_ne (by omega)])
  (fun k s hI=>by
   obtain ⟨i1,i2,i3⟩:=hI
   have step:impl_AtomBindings_L2 N (k+1) p0 vs p1 p2 p3 p4 p5 p6 row s.1 s.2 p7 p8 p9 vs (vs.length:Int) (vs.length:Int)=some (s.1,s.2,(vs.length:Int)):=by
    rw [impl_AtomBindings_L2,dge (by omega),cond_false]
   rw [List.take_length] at i3
   exact ⟨(s.1,s.2,(vs.length:Int)),step,step,i1,i2,rfl,i3⟩) N 0 (List.replicate 5 0,true) (by omega) (by omega) ⟨by simp,rfl,fun _ v hv=>by simp at hv⟩
 refine ⟨val,?_,h1,h4⟩
 have e1':impl_AtomBindings_L2 N N p0 vs p1 p2 p3 p4 p5 p6 row (List.replicate 5 0) true p7 p8 p9 vs (vs.length:Int) 0=some (val,f,z):=e1
 have h2':f=rowFits vs row:=h2
 have h3':z=(vs.length:Int):=h3
 rw [e1',h2',h3']
end
end Go.Proofs.Ytkpeabpdiffjhaa
namespace Go.Proofs.Ytkpeabpdiffjhaa
open Go.RowKit

theorem mem_ordV {n:Nat} {v:Int}:v∈ordV n↔0≤v∧v<n:=by
 unfold ordV
 rw [List.mem_map]
 constructor
 ·rintro ⟨i,hi,rfl⟩
  simp at hi;omega
 ·rintro ⟨h0,h1⟩
  exact ⟨v.toNat,by simp;omega,by omega⟩
theorem mem_varsV {vs:List Int} {v:Int}:v∈varsV vs↔(0≤v∧v<5)∧v∈vs:=by
 unfold varsV
 rw [List.mem_filter,mem_ordV,decide_eq_true_eq];rfl
def bindT (vs row:List Int) (i:Nat):List Int:=((varsV vs).take i).map fun v=>row.getD (findI vs v).toNat 0
theorem bindT_len (vs row:List Int) (i:Nat):(bindT vs row i).length≤5:=by
 have:=varsV_len vs
 unfold bindT;rw [List.length_map,List.length_take];omega
theorem bindRow_len (vs row:List Int):(bindRow vs row).length=(varsV vs).length:=by simp [bindRow]
section
variable {N:Nat}
theorem abS_L2 (hN:1073741824≤N) {p0:ByteArray} {vs row:List Int} {p1 p4 p6:Int} {p2 rows p5 p7:RowL} {r:Nat} (hr:r<rows.length) (hrow:rows[r]=row) (hl:row.length=vs.length) (h5:vs.length≤1000) :
  spec_AtomBindings_L2 N N p0 vs p1 p2 (varsV vs) p4 rows p6 p5 p7 (r:Int) [] 0=some (bindRow vs row,((varsV vs).length:Int)):=by
 have hv5:=varsV_len vs
 have h:=loopI (fun k (s:List Int) i=>spec_AtomBindings_L2 N k p0 vs p1 p2 (varsV vs) p4 rows p6 p5 p7 (r:Int) s i) (varsV vs).length (bindT vs row) (bindRow vs row,((varsV vs).length:Int))
  (fun k i h=>by
   have hm:(varsV vs)[i]∈vs:=(mem_varsV.1 (List.getElem_mem h)).2
   obtain ⟨j,hj,hj2⟩:=findI_mem hm
   have hj3:j<row.length:=by omega
   have hlen:=bindT_len vs row i
   have hs:bindT vs row i++[row[j]]=bindT vs row (i+1):=by
    unfold bindT;rw [List.take_succ_eq_append_getElem h,List.map_append]
    simp only [List.map_cons,List.map_nil,hj]
    rw [show ((j:Nat):Int).toNat=j from rfl,getD_at hj3]
   show spec_AtomBindings_L2 N (k+1) p0 vs p1 p2 (varsV vs) p4 rows p6 p5 p7 (r:Int) (bindT vs row i) (i:Int)=_
   rw [spec_AtomBindings_L2,dlt h,cond_true,ix_nat hr,bs,ix_nat h,bs,l7Find_eq hN (by omega),bs,hrow,hj,ix_nat hj3,bs,apd_ok' (by decide) (by simp;omega),bs,ad1 (by omega),bs,hs])
  (fun k=>by
   show spec_AtomBindings_L2 N (k+1) p0 vs p1 p2 (varsV vs) p4 rows p6 p5 p7 (r:Int) (bindT vs row (varsV vs).length) ((varsV vs).length:Int)=_
   rw [spec_AtomBindings_L2,dge (by omega),cond_false]
   unfold bindT bindRow;rw [List.take_length]) N 0 (by omega) (by omega)
 exact h
theorem abS_L3 (hN:1073741824≤N) {p0:ByteArray} {vs row:List Int} {p1 p4 p6:Int} {p2 rows p5 p7:RowL} {r:Nat} (hr:r<rows.length) (hrow:rows[r]=row) (hl:row.length=vs.length) (h5:vs.length≤1000) (hv:∀ v∈vs,0≤v∧v<5) :
  spec_AtomBindings_L3 N N p0 vs p1 p2 (varsV vs) p4 rows p6 p5 p7 (r:Int) (bindRow vs row) true 0=some (rowFits vs row,(vs.length:Int)):=by
 have hv5:=varsV_len vs
 have h:=loopI (fun k (s:Bool) i=>spec_AtomBindings_L3 N k p0 vs p1 p2 (varsV vs) p4 rows p6 p5 p7 (r:Int) (bindRow vs row) s i) vs.length (fitT vs row) (rowFits vs row,(vs.length:Int))
  (fun k i h=>by
   have hm:vs[i]∈vs:=List.getElem_mem h
   have hmv:vs[i]∈varsV vs:=mem_varsV.2 ⟨hv _ hm,hm⟩
   obtain ⟨j,hj,hj2⟩:=findI_mem hm
   have hj3:j<row.length:=by omega
   have hi2:i<row.length:=by omega
   have hex:∃ q:Nat,∃ hq:q<(varsV vs).length,(varsV vs)[q]=vs[i]∧findI (varsV vs) vs[i]=(q:Int):=by
    rcases findI_spec (varsV vs) vs[i] with ⟨h1,_⟩ | ⟨q,hq,e1,e2,_⟩
    ·exact absurd hmv h1
    ·exact ⟨q,hq,e1,e2⟩
   obtain ⟨q,hq,hq1,hq2⟩:=hex
   have hq3:q<(bindRow vs row).length:=by rw [bindRow_len];exact hq
   have hval:(bindRow vs row)[q]=row[j]:=by
    have e:(bindRow vs row)[q]=row.getD (findI vs (varsV vs)[q]).toNat 0:=by simp only [bindRow,List.getElem_map]
    rw [e,hq1,hj,show ((j:Nat):Int).toNat=j from rfl,getD_at hj3]
   have hfa:fitAt vs row i=decide (row[j]=row[i]):=by
    unfold fitAt
    rw [getD_at h,hj,show ((j:Nat):Int).toNat=j from rfl,getD_at hj3,getD_at hi2]
   show spec_AtomBindings_L3 N (k+1) p0 vs p1 p2 (varsV vs) p4 rows p6 p5 p7 (r:Int) (bindRow vs row) (fitT vs row i) (i:Int)=_
   rw [spec_AtomBindings_L3,dlt h,cond_true,ix_nat h,bs,l7Find_eq hN (by omega),bs,hq2,fitT_succ,hfa]
   cases fitT vs row i with
   | true=>rw [cond_true,decide_eq_true (by omega),cond_true,ix_nat hq3,bs,ix_nat hr,bs,hrow,ix_nat hi2,bs,ad1 (by omega),bs,hval,beqD,Bool.true_and]
   | false=>rw [cond_false,ad1 (by omega),bs,Bool.false_and])
  (fun k=>by
   show spec_AtomBindings_L3 N (k+1) p0 vs p1 p2 (varsV vs) p4 rows p6 p5 p7 (r:Int) (bindRow vs row) (fitT vs row vs.length) (vs.length:Int)=_
   rw [spec_AtomBindings_L3,dge (by omega),cond_false];rfl) N 0 (by omega) (by omega)
 exact h
end
end Go.Proofs.Ytkpeabpdiffjhaa
namespace Go.Proofs.Ytkpeabpdiffjhaa
open Go.RowKit

def bindRows (vs:List Int) (rows:RowL):RowL:=(rows.filter (rowFits vs)).map (bindRow vs)
theorem bindRows_succ {vs:List Int} {rows:RowL} {i:Nat} (h:i<rows.length):bindRows vs (rows.take (i+1))=bif rowFits vs rows[i] then bindRows vs (rows.take i)++[bindRow vs rows[i]] else bindRows vs (rows.take i):=by
 unfold bindRows
 rw [List.take_succ_eq_append_getElem h,List.filter_append,List.map_append]
 cases hf:rowFits vs rows[i] <;> simp [hf]
theorem bindRows_len (vs:List Int) (rows:RowL):(bindRows vs rows).length≤rows.length:=by
 unfold bindRows;rw [List.length_map];exact List.length_filter_le _ _
section
variable {N:Nat}
theorem abI_L1 (hN:1073741824≤N) {s:ByteArray} {vs:List Int} {rows:RowL} {vl:Int} (hlen:∀ i (h:i<rows.length),rows[i].length=vs.length) (h5:vs.length≤1000) (hv:∀ v∈vs,0≤v∧v<5) (hr:rows.length≤1048576) :
  impl_AtomBindings_L1 N N s vs 0 [] (varsV vs) vl [] [] rows (rows.length:Int) 0=some (bindRows vs rows,(rows.length:Int)):=by
 have hv5:=varsV_len vs
 have h:=loopI (fun k (o:RowL) i=>impl_AtomBindings_L1 N k s vs 0 [] (varsV vs) vl [] o rows (rows.length:Int) i) rows.length (fun i=>bindRows vs (rows.take i)) (bindRows vs rows,(rows.length:Int))
  (fun k i h=>by
   obtain ⟨val,e,hl,hval⟩:=abI_L2 (N:=N) hN (p0:=s) (vs:=vs) (row:=rows[i]) (p3:=varsV vs) (p1:=0) (p4:=vl) (p8:=(rows.length:Int)) (p9:=(i:Int)) (p2:=[]) (p5:=[]) (p6:=bindRows vs (rows.take i)) (p7:=rows) (hlen i h) h5 hv
   have hbl:=bindRows_len vs (rows.take i)
   rw [List.length_take] at hbl
   show impl_AtomBindings_L1 N (k+1) s vs 0 [] (varsV vs) vl [] (bindRows vs (rows.take i)) rows (rows.length:Int) (i:Int)=_
   rw [impl_AtomBindings_L1,dlt h,cond_true,ix_nat h,bs,show (5:Int)=((5:Nat):Int) from rfl,mk_ok (by decide) (by decide),bs,e,bs,lpB,bindRows_succ h]
   show (bif rowFits vs rows[i] then _ else _)=_
   cases hf:rowFits vs rows[i] with
   | true =>
    have hp:pickV val (varsV vs)=bindRow vs rows[i]:=by
     unfold pickV bindRow
     exact List.map_congr_left fun v hvm=>hval hf v (mem_varsV.1 hvm).2
    rw [cond_true,cond_true,pick_eq hN (by omega) (fun c hc=>by have:=(mem_varsV.1 hc).1;omega),bs,hp,apd_ok' (by decide) (by simp;omega),bs,ad1 (by omega),bs]
   | false=>rw [cond_false,cond_false,ad1 (by omega),bs])
  (fun k=>by
   show impl_AtomBindings_L1 N (k+1) s vs 0 [] (varsV vs) vl [] (bindRows vs (rows.take rows.length)) rows (rows.length:Int) (rows.length:Int)=_
   rw [impl_AtomBindings_L1,dge (by omega),cond_false,List.take_length]) N 0 (by omega) (by omega)
 exact h
theorem abS_L1 (hN:1073741824≤N) {s:ByteArray} {vs:List Int} {rows:RowL} {vl ar:Int} (hlen:∀ i (h:i<rows.length),rows[i].length=vs.length) (h5:vs.length≤1000) (hv:∀ v∈vs,0≤v∧v<5) (hr:rows.length≤1048576) :
  spec_AtomBindings_L1 N N s vs 0 [] (varsV vs) ar rows vl [] [] 0=some (bindRows vs rows,(rows.length:Int)):=by
 have hv5:=varsV_len vs
 have h:=loopI (fun k (o:RowL) i=>spec_AtomBindings_L1 N k s vs 0 [] (varsV vs) ar rows vl [] o i) rows.length (fun i=>bindRows vs (rows.take i)) (bindRows vs rows,(rows.length:Int))
  (fun k i h=>by
   have hbl:=bindRows_len vs (rows.take i)
   rw [List.length_take] at hbl
   show spec_AtomBindings_L1 N (k+1) s vs 0 [] (varsV vs) ar rows vl [] (bindRows vs (rows.take i)) (i:Int)=_
   rw [spec_AtomBindings_L1,dlt h,cond_true,abS_L2 hN h rfl (hlen i h) h5,bs,lpB]
   show (spec_AtomBindings_L3 N N s vs 0 [] (varsV vs) ar rows vl [] (bindRows vs (rows.take i)) (i:Int) (bindRow vs rows[i]) true 0).bind _=_
   rw [abS_L3 hN h rfl (hlen i h) h5 hv,bs,lpB,bindRows_succ h]
   show (bif rowFits vs rows[i] then _ else _)=_
   cases hf:rowFits vs rows[i] with
   | true=>rw [cond_true,cond_true,apd_ok' (by decide) (by simp;omega),bs,ad1 (by omega),bs]
   | false=>rw [cond_false,cond_false,ad1 (by omega),bs])
  (fun k=>by
   show spec_AtomBindings_L1 N (k+1) s vs 0 [] (varsV vs) ar rows vl [] (bindRows vs (rows.take rows.length)) (rows.length:Int)=_
   rw [spec_AtomBindings_L1,dge (by omega),cond_false,List.take_length]) N 0 (by omega) (by omega)
 exact h
end
end Go.Proofs.Ytkpeabpdiffjhaa
namespace Go.Proofs.Ytkpeabpdiffjhaa
open Go.RowKit

theorem newRelV_true {n:Int} {rows:RowL} (h0:0≤n∧n≤5) (hl:rows.length≤4000) (hf:∀ r∈rows,(r.length:Int)=n∧validVals r=true):newRelV n rows=((n,sortV 20 rows),true):=by
 have hfit:rowsFit n rows=true:=by
  unfold rowsFit
  rw [List.all_eq_true]
  intro r hr
  rw [decide_eq_true (hf r hr).1,(hf r hr).2];rfl
 have hlen:=sortV_len 20 rows
 have hasc:=sortV_asc 20 rows (by omega)
 have hv:validRows n (sortV 20 rows)=true:=by
  unfold validRows
  rw [Bool.and_eq_true,Bool.and_eq_true,decide_eq_true_eq,List.all_eq_true]
  refine ⟨⟨inR_iff.2 h0,by omega⟩,fun i hi=>?_⟩
  have hi':i<(sortV 20 rows).length:=by simp at hi;omega
  obtain ⟨g1,g2⟩:=hf _ (sortV_mem 20 rows _ (List.getElem_mem hi'))
  unfold rowOk
  rw [getL_at hi',decide_eq_true g1,g2,Bool.true_and,Bool.true_and]
  cases i with
  | zero=>rfl
  | succ i =>
   rw [Nat.add_sub_cancel,getL_at (by omega)]
   have:=List.pairwise_iff_getElem.1 hasc i (i+1) (by omega) hi' (by omega)
   rw [decide_eq_true this,Bool.or_true]
 unfold newRelV
 rw [hfit,hv];rfl
theorem bindRow_vals {vs row:List Int} (h:validVals row=true) (hl:row.length=vs.length):validVals (bindRow vs row)=true:=by
 unfold validVals at *
 rw [List.all_eq_true] at *
 intro x hx
 unfold bindRow at hx
 obtain ⟨v,hv,rfl⟩:=List.mem_map.1 hx
 obtain ⟨j,hj,hj2⟩:=findI_mem (mem_varsV.1 hv).2
 rw [hj,show ((j:Nat):Int).toNat=j from rfl,getD_at (by omega)]
 exact h _ (List.getElem_mem _)
end Go.Proofs.Ytkpeabpdiffjhaa
namespace Go.Proofs.Ytkpeabpdiffjhaa
open Go.RowKit

theorem lookV_valid {ts:List DTable} {s:ByteArray} (h:(lookV ts s).2=true):validRows (lookV ts s).1.1 (lookV ts s).1.2=true:=by
 unfold lookV at h ⊢
 cases hd:dbOk ts with
 | false=>rw [hd] at h;cases h
 | true =>
  rw [hd,cond_true] at h
  rw [cond_true]
  cases hf:ts.find? (fun t=>decide (t.1=s)) with
  | none=>rw [hf] at h;cases h
  | some t =>
   have hm:=List.mem_of_find?_eq_some hf
   obtain ⟨i,hi,rfl⟩:=List.getElem_of_mem hm
   unfold dbOk at hd
   rw [Bool.and_eq_true,List.all_eq_true] at hd
   have:=hd.2 i (by simp;omega)
   unfold tabOk at this
   rw [getT_at hi] at this
   simp only [Bool.and_eq_true] at this
   exact this.1.1.2
def bindV (ts:List DTable) (s:ByteArray) (vs:List Int):Int × RowL :=
 bif (lookV ts s).2&&decide ((lookV ts s).1.1=(vs.length:Int)) then (((varsV vs).length:Int),sortV 20 (bindRows vs (lookV ts s).1.2)) else (((varsV vs).length:Int),[])
theorem bindRows_mem {vs:List Int} {rows:RowL} {r:List Int} (h:r∈bindRows vs rows):∃ x∈rows,r=bindRow vs x:=by
 unfold bindRows at h
 obtain ⟨x,hx,rfl⟩:=List.mem_map.1 h
 exact ⟨x,(List.mem_filter.1 hx).1,rfl⟩
theorem bindRows_ok {vs:List Int} {rows:RowL} (hr:rows.length≤1048576):okII (bindRows vs rows):=by
 refine ⟨Nat.le_trans (bindRows_len vs rows) hr,fun r h=>?_⟩
 obtain ⟨x,_,rfl⟩:=bindRows_mem h
 exact ⟨by rw [bindRow_len];have:=varsV_len vs;omega,fun _ _=>trivial⟩
section
variable {N:Nat}
theorem look_len {ts:List DTable} {s:ByteArray} {vs:List Int} (h2:(lookV ts s).2=true) (e:(lookV ts s).1.1=(vs.length:Int)):(lookV ts s).1.2.length≤4000∧∀ i (h:i<(lookV ts s).1.2.length),(lookV ts s).1.2[i].length=vs.length∧validVals (lookV ts s).1.2[i]=true:=by
 obtain ⟨_,_,h3,h4⟩:=validRows_spec (lookV_valid h2)
 refine ⟨h3,fun i h=>?_⟩
 obtain ⟨g1,g2,_⟩:=h4 i h
 exact ⟨by omega,g2⟩
theorem AtomBindings_impl_eq (hM:1073742848≤N) {ts:List DTable} {s:ByteArray} {vs:List Int} (ht:okDb ts) (hx:okI vs) (h5:vs.length≤5) (hv:∀ v∈vs,0≤v∧v<5):impl_AtomBindings N ts s vs=some (bindV ts s vs):=by
 unfold impl_AtomBindings bindV
 rw [AtomVariables_impl_eq (by omega) hx,bs,LookupRelation_impl_eq (by omega) ht,bs]
 cases h2:(lookV ts s).2 with
 | false=>rfl
 | true =>
  rw [cond_true,Bool.true_and]
  by_cases e:(lookV ts s).1.1=(vs.length:Int)
  ·obtain ⟨l1,l2⟩:=look_len h2 e
   have hcf:(decide ((vs.length:Int)≤5)&&colsFit 5 vs)=true:=by
    rw [Bool.and_eq_true,decide_eq_true_eq]
    refine ⟨by omega,?_⟩
    unfold colsFit
    rw [List.all_eq_true]
    exact fun c hc=>inR_iff.2 (by have:=hv c hc;omega)
   have hb:=bindRows_ok (vs:=vs) (rows:=(lookV ts s).1.2) (by omega)
   rw [show ((lookV ts s).1.1 != (vs.length:Int))=false by simpa using e,cond_false,columnsFit_eq (by omega) hx.1 (by omega),bs,hcf,cond_true,abI_L1 (by omega) (fun i h=>(l2 i h).1) (by omega) hv (by omega),bs,lpB,decide_eq_true e]
   show (impl_sorted N (bindRows vs (lookV ts s).1.2)).bind _=_
   rw [sorted_eq 20 N _ (by have:=hb.1;omega) (by omega) hb,bs]
   rfl
  ·rw [show ((lookV ts s).1.1 != (vs.length:Int))=true by simpa using e,cond_true,decide_eq_false e];rfl
theorem AtomBindings_spec_eq (hM:1073742848≤N) {ts:List DTable} {s:ByteArray} {vs:List Int} (ht:okDb ts) (hx:okI vs) (h5:vs.length≤5) (hv:∀ v∈vs,0≤v∧v<5):spec_AtomBindings N ts s vs=some (bindV ts s vs):=by
 unfold spec_AtomBindings bindV
 rw [AtomVariables_spec_eq (by omega) hx,bs,LookupRelation_spec_eq (by omega) ht,bs]
 cases h2:(lookV ts s).2 with
 | false=>rfl
 | true =>
  rw [cond_true,Bool.true_and]
  by_cases e:(lookV ts s).1.1=(vs.length:Int)
  ·obtain ⟨l1,l2⟩:=look_len h2 e
   have hb:=bindRows_ok (vs:=vs) (rows:=(lookV ts s).1.2) (by omega)
   have hv5:=varsV_len vs
   have hbl:=bindRows_len vs (lookV ts s).1.2
   have hnr:=newRelV_true (n:=((varsV vs).length:Int)) (rows:=bindRows vs (lookV ts s).1.2) (by omega) (by omega) (fun r hr=>by
    obtain ⟨x,hxm,rfl⟩:=bindRows_mem hr
    obtain ⟨i,hi,rfl⟩:=List.getElem_of_mem hxm
    exact ⟨by rw [bindRow_len],bindRow_vals (l2 i hi).2 (l2 i hi).1⟩)
   rw [show ((lookV ts s).1.1 != (vs.length:Int))=false by simpa using e,cond_false,abS_L1 (by omega) (fun i h=>(l2 i h).1) (by omega) hv (by omega),bs,lpB,decide_eq_true e]
   show (spec_NewRelation N ((varsV vs).length:Int) (bindRows vs (lookV ts s).1.2)).bind _=_
   rw [NewRelation_spec_eq hM hb,bs,hnr]
   rfl
  ·rw [show ((lookV ts s).1.1 != (vs.length:Int))=true by simpa using e,cond_true,decide_eq_false e];rfl
end
end Go.Proofs.Ytkpeabpdiffjhaa
namespace Go.Proofs.Ytkpeabpdiffjhaa
open Go.RowKit

theorem nodup_full {n:Nat} {xs:List Int} (hn:xs.Nodup) (hl:xs.length=n) (hb:∀ x∈xs,0≤x∧x<n) (v:Int) (h0:0≤v) (h1:v<n):v∈xs:=by
 refine Classical.byContradiction fun hv=>?_
 have:=nodup_bound n (v :: xs) (List.nodup_cons.2 ⟨hv,hn⟩) (fun x hx=>by
  rcases List.mem_cons.1 hx with rfl | hx
  ·exact ⟨h0,h1⟩
  ·exact hb x hx)
 rw [List.length_cons] at this;omega
theorem nodup_inj {xs:List Int} (h:xs.Nodup) {i j:Nat} (hi:i<xs.length) (hj:j<xs.length) (e:xs[i]=xs[j]):i=j:=by
 rw [List.Nodup,List.pairwise_iff_getElem] at h
 rcases Nat.lt_trichotomy i j with hl | hl | hl
 ·exact absurd e (h i j hi hj hl)
 ·exact hl
 ·exact absurd e.symm (h j i hj hi hl)
theorem isSetB_of {xs:List Int} {n:Int} (hn:xs.Nodup) (hb:∀ x∈xs,0≤x∧x≤n-1):isSetB xs n=true:=by
 unfold isSetB
 rw [List.all_eq_true]
 intro i hi
 have hi':i<xs.length:=by simpa using hi
 rw [getD_at hi',Bool.and_eq_true,Bool.not_eq_true',decide_eq_false_iff_not]
 refine ⟨inR_iff.2 (hb _ (List.getElem_mem hi')),fun hm=>?_⟩
 obtain ⟨j,hj,e⟩:=List.mem_iff_getElem.1 hm
 rw [List.getElem_take] at e
 have:=nodup_inj hn (by rw [List.length_take] at hj;omega) hi' e
 rw [List.length_take] at hj;omega
theorem findI_at {vs:List Int} (hn:vs.Nodup) {k:Nat} (h:k<vs.length):findI vs vs[k]=(k:Int):=by
 rcases findI_spec vs vs[k] with ⟨h1,_⟩ | ⟨j,hj,e,h2,_⟩
 ·exact absurd (List.getElem_mem h) h1
 ·rw [h2,nodup_inj hn hj h e]
theorem ordV_nodup (n:Nat):(ordV n).Nodup:=by
 unfold ordV
 rw [List.Nodup,List.pairwise_map]
 exact List.Pairwise.imp (fun h=>by omega) (List.pairwise_lt_range' (s:=0) (n:=n))
theorem varsV_nodup (xs:List Int):(varsV xs).Nodup:=(ordV_nodup 5).filter _
theorem findI_ge {vs:List Int} {v:Int}:0≤findI vs v↔v∈vs:=by
 have:=findI_nonneg vs v
 rw [Bool.eq_iff_iff,decide_eq_true_eq,decide_eq_true_eq] at this;exact this
theorem findI_len {vs:List Int} {v:Int} (h:v∈vs):findI vs v<vs.length:=by
 obtain ⟨j,e,hj⟩:=findI_mem h;omega
theorem colStep_mem (vars out:List Int) (v k:Int):k∈colStep vars out v↔k∈out∨(v∈vars∧findI vars v=k):=by
 unfold colStep
 by_cases h1:v∈vars
 ·rw [decide_eq_true (findI_ge.2 h1),Bool.true_and]
  by_cases h2:findI vars v∈out
  ·rw [decide_eq_true h2,Bool.not_true,cond_false]
   exact ⟨.inl,fun h=>h.elim id fun ⟨_,e⟩=>e ▸ h2⟩
  ·rw [decide_eq_false h2,Bool.not_false,cond_true,List.mem_append,List.mem_singleton]
   exact ⟨fun h=>h.imp id fun e=>⟨h1,e.symm⟩,fun h=>h.imp id fun e=>e.2.symm⟩
 ·rw [decide_eq_false (fun h=>h1 (findI_ge.1 h)),Bool.false_and,cond_false]
  exact ⟨.inl,fun h=>h.elim id fun e=>absurd e.1 h1⟩
theorem colStep_nodup {vars out:List Int} {v:Int} (h:out.Nodup):(colStep vars out v).Nodup:=by
 unfold colStep
 by_cases h2:findI vars v∈out
 ·rw [decide_eq_true h2,Bool.not_true,Bool.and_false,cond_false];exact h
 ·rw [decide_eq_false h2,Bool.not_false,Bool.and_true]
  cases decide (0≤findI vars v)
  ·exact h
  ·rw [cond_true,List.nodup_append]
   refine ⟨h,by simp,fun a ha b hb=>?_⟩
   rw [List.mem_singleton] at hb
   rintro rfl;exact h2 (hb ▸ ha)
theorem colFold_mem (vars:List Int):∀ (l out:List Int) (k:Int),k∈l.foldl (colStep vars) out↔k∈out∨∃ v∈l,v∈vars∧findI vars v=k
 | [],out,k=>by simp
 | v :: l,out,k=>by
  rw [List.foldl_cons,colFold_mem vars l,colStep_mem]
  constructor
  ·rintro ((h | h) | ⟨w,hw,h⟩)
   ·exact .inl h
   ·exact .inr ⟨v,List.mem_cons_self,h⟩
   ·exact .inr ⟨w,List.mem_cons_of_mem _ hw,h⟩
  ·rintro (h | ⟨w,hw,h⟩)
   ·exact .inl (.inl h)
   ·rcases List.mem_cons.1 hw with rfl | hw
    ·exact .inl (.inr h)
    ·exact .inr ⟨w,hw,h⟩
theorem colFold_nodup (vars:List Int):∀ (l out:List Int),out.Nodup→(l.foldl (colStep vars) out).Nodup
 | [],_,h=>h
 | _ :: l,_,h=>colFold_nodup vars l _ (colStep_nodup h)
theorem colsV_perm {xs order:List Int} {n:Nat} (hn:n≤5) (hx:∀ v∈xs,0≤v∧v<n) (ho:isSetB order n=true) (hl:order.length=n):isPermB (colsV xs order)=true∧(colsV xs order).length=(varsV xs).length:=by
 obtain ⟨o1,o2⟩:=isSetB_spec ho
 have hnd:(colsV xs order).Nodup:=colFold_nodup _ _ _ List.nodup_nil
 have hmem:∀ k:Int,k∈colsV xs order↔0≤k∧k<(varsV xs).length:=fun k=>by
  unfold colsV
  rw [colFold_mem]
  constructor
  ·rintro (h | ⟨v,_,h,rfl⟩)
   ·cases h
   ·exact ⟨findI_ge.2 h,findI_len h⟩
  ·rintro ⟨h0,h1⟩
   have hk:k.toNat<(varsV xs).length:=by omega
   have hm:=List.getElem_mem hk
   refine .inr ⟨(varsV xs)[k.toNat],?_,hm,by rw [findI_at (varsV_nodup xs) hk];omega⟩
   have:=hx _ (mem_varsV.1 hm).2
   exact nodup_full o1 hl (fun x hx=>by have:=o2 x hx;omega) _ this.1 this.2
 have h5:=varsV_len xs
 have le1:(colsV xs order).length≤(varsV xs).length:=nodup_bound _ _ hnd fun k hk=>(hmem k).1 hk
 have le2:(varsV xs).length≤(colsV xs order).length:=by
  refine Classical.byContradiction fun hlt=>?_
  have hsub:∀ (m:Nat) (ys:List Int),(∀ k:Nat,k<m→(k:Int)∈ys)→m≤ys.length:=by
   intro m
   induction m with
   | zero=>intro ys _;omega
   | succ m ih =>
    intro ys h
    have h1:=ih (ys.erase (m:Int)) fun k hk=>(List.mem_erase_of_ne (by omega)).2 (h k (by omega))
    rw [List.length_erase_of_mem (h m (by omega))] at h1
    have:=List.length_pos_of_mem (h m (by omega))
    omega
  exact hlt (hsub _ _ fun k hk=>(hmem k).2 (by omega))
 have e:(colsV xs order).length=(varsV xs).length:=by omega
 refine ⟨?_,e⟩
 unfold isPermB
 rw [decide_eq_true (by omega),Bool.true_and]
 exact isSetB_of hnd fun k hk=>by have:=(hmem k).1 hk;omega
theorem sortV_valid {n:Int} {rows:RowL} (h0:0≤n∧n≤5) (hl:rows.length≤4000) (hf:∀ r∈rows,(r.length:Int)=n∧validVals r=true):validRows n (sortV 20 rows)=true:=by
 have h:=newRelV_true h0 hl hf
 unfold newRelV at h
 cases hv:validRows n (sortV 20 rows) with
 | true=>rfl
 | false=>rw [hv,Bool.and_false] at h;have:=congrArg Prod.snd h;cases this
theorem pickV_vals {row cols:List Int} (h:validVals row=true) (hin:∀ c∈cols,0≤c∧c<row.length):validVals (pickV row cols)=true:=by
 unfold validVals at *
 rw [List.all_eq_true] at *
 intro x hx
 unfold pickV at hx
 obtain ⟨c,hc,rfl⟩:=List.mem_map.1 hx
 have:=hin c hc
 rw [getD_at (by omega)]
 exact h _ (List.getElem_mem _)
theorem trieV_true {n:Int} {rows:RowL} {cols:List Int} (hv:validRows n rows=true) (hp:isPermB cols=true) (hl:(cols.length:Int)=n):trieV n rows cols=((n,sortV 20 (rows.map fun r=>pickV r cols)),true)∧validRows n (sortV 20 (rows.map fun r=>pickV r cols))=true:=by
 obtain ⟨v1,v2,v3,v4⟩:=validRows_spec hv
 have hp':=hp
 unfold isPermB at hp
 rw [Bool.and_eq_true,decide_eq_true_eq] at hp
 obtain ⟨_,o2⟩:=isSetB_spec hp.2
 have hc:colsFit n cols=true:=by
  unfold colsFit;rw [List.all_eq_true]
  exact fun c hc=>inR_iff.2 (by have:=o2 c hc;omega)
 have hf:∀ r∈rows.map (fun r=>pickV r cols),(r.length:Int)=n∧validVals r=true:=fun r hr=>by
  obtain ⟨x,hx,rfl⟩:=List.mem_map.1 hr
  obtain ⟨i,hi,rfl⟩:=List.getElem_of_mem hx
  obtain ⟨g1,g2,_⟩:=v4 i hi
  exact ⟨by rw [pickV_len];exact hl,pickV_vals g2 fun c hc=>by have:=o2 c hc;omega⟩
 have hnr:=newRelV_true ⟨v1,v2⟩ (by rw [List.length_map];exact v3) hf
 refine ⟨?_,sortV_valid ⟨v1,v2⟩ (by rw [List.length_map];exact v3) hf⟩
 unfold trieV projV
 rw [hp',decide_eq_true hl,Bool.true_and,cond_true,hv,decide_eq_true hp.1,hc,Bool.true_and,Bool.true_and,cond_true,hl,hnr];rfl
def trieA (ts:List DTable) (order:List Int) (a:QAtom):Int × RowL:=(((varsV a.2).length:Int),sortV 20 ((sortV 20 (bindRows a.2 (lookV ts a.1).1.2)).map fun r=>pickV r (colsV a.2 order)))
theorem lookV_16 {ts:List DTable} {s:ByteArray} (h:(lookV ts s).2=true):(lookV ts s).1.2.length≤16:=by
 unfold lookV at h ⊢
 cases hd:dbOk ts with
 | false=>rw [hd] at h;cases h
 | true =>
  rw [hd,cond_true] at h
  rw [cond_true]
  cases hf:ts.find? (fun t=>decide (t.1=s)) with
  | none=>rw [hf] at h;cases h
  | some t =>
   have hm:=List.mem_of_find?_eq_some hf
   obtain ⟨i,hi,rfl⟩:=List.getElem_of_mem hm
   unfold dbOk at hd
   rw [Bool.and_eq_true,List.all_eq_true] at hd
   have:=hd.2 i (by simp;omega)
   unfold tabOk at this
   rw [getT_at hi] at this
   simp only [Bool.and_eq_true,Bool.not_eq_true',decide_eq_false_iff_not] at this
   have:=this.2
   show ts[i].2.2.length≤16
   omega
structure QFor (ts:List DTable) (n:Nat) (atoms:List QAtom) (order:List Int):Prop where
 n1:1≤n
 n5:n≤5
 ol:order.length=n
 os:isSetB order n=true
 a1:1≤atoms.length
 a4:atoms.length≤4
 al:∀ a∈atoms,a.2.length≤5∧1≤a.2.length∧∀ v∈a.2,0≤v∧v<n
 af:∀ a∈atoms,(lookV ts a.1).2=true∧(lookV ts a.1).1.1=(a.2.length:Int)
 cov:∀ v:Int,0≤v→v<n→∃ a∈atoms,v∈a.2
theorem QFor_of {ts:List DTable} {n:Int} {atoms:List QAtom} {out order:List Int} (h1:queryFor ts n atoms out=true) (h2:(order.length:Int)=n) (h3:isSetB order n=true):∃ m:Nat,n=(m:Int)∧QFor ts m atoms order:=by
 unfold queryFor at h1
 rw [Bool.and_eq_true,Bool.and_eq_true,List.all_eq_true] at h1
 obtain ⟨q,_,q3⟩:=h1
 obtain ⟨n1,n5,a1,a4⟩:=queryOk_n q
 unfold queryOk at q
 simp only [Bool.and_eq_true,List.all_eq_true] at q
 obtain ⟨⟨_,qa⟩,qc⟩:=q
 have hm:(n.toNat:Int)=n:=by omega
 refine ⟨n.toNat,hm.symm,⟨by omega,by omega,by omega,hm ▸ h3,by omega,by omega,fun a ha=>?_,fun a ha=>?_,fun v v0 v1=>?_⟩⟩
 ·have:=qa a ha
  unfold atomOk at this
  rw [Bool.and_eq_true,Bool.and_eq_true,inR_iff,List.all_eq_true] at this
  exact ⟨by omega,by omega,fun v hv=>by have:=inR_iff.1 (this.2 v hv);omega⟩
 ·have:=q3 a ha
  unfold atomFor at this
  rw [Bool.and_eq_true,decide_eq_true_eq] at this
  exact this
 ·unfold covered at qc
  rw [List.all_eq_true] at qc
  have:=qc v.toNat (by simp;omega)
  rw [List.any_eq_true] at this
  obtain ⟨a,ha,h⟩:=this
  rw [decide_eq_true_eq] at h
  exact ⟨a,ha,by rw [show v=((v.toNat:Nat):Int) by omega];exact h⟩
theorem trieA_ok {ts:List DTable} {n:Nat} {atoms:List QAtom} {order:List Int} (q:QFor ts n atoms order) {a:QAtom} (ha:a∈atoms) :
  bindV ts a.1 a.2=(((varsV a.2).length:Int),sortV 20 (bindRows a.2 (lookV ts a.1).1.2))∧trieV (bindV ts a.1 a.2).1 (bindV ts a.1 a.2).2 (colsV a.2 order)=(trieA ts order a,true)∧validRows (trieA ts order a).1 (trieA ts order a).2=true∧(trieA ts order a).2.length≤16∧validRows ((varsV a.2).length:Int) (sortV 20 (bindRows a.2 (lookV ts a.1).1.2))=true:=by
 obtain ⟨h1,h2⟩:=q.af a ha
 obtain ⟨h3,h4,h5⟩:=q.al a ha
 have e:bindV ts a.1 a.2=(((varsV a.2).length:Int),sortV 20 (bindRows a.2 (lookV ts a.1).1.2)):=by
  unfold bindV
  rw [h1,decide_eq_true h2];rfl
 obtain ⟨p1,p2⟩:=colsV_perm q.n5 h5 q.os q.ol
 obtain ⟨_,l2⟩:=look_len h1 h2
 have l16:=lookV_16 h1
 have hbl:=bindRows_len a.2 (lookV ts a.1).1.2
 have hv5:=varsV_len a.2
 have hval:validRows ((varsV a.2).length:Int) (sortV 20 (bindRows a.2 (lookV ts a.1).1.2))=true:=sortV_valid (by omega) (by omega) fun r hr=>by
  obtain ⟨x,hxm,rfl⟩:=bindRows_mem hr
  obtain ⟨i,hi,rfl⟩:=List.getElem_of_mem hxm
  exact ⟨by rw [bindRow_len],bindRow_vals (l2 i hi).2 (l2 i hi).1⟩
 obtain ⟨t1,t2⟩:=trieV_true hval p1 (by rw [p2])
 refine ⟨e,?_,t2,?_,hval⟩
 ·rw [e];exact t1
 ·have g1:=sortV_len 20 ((sortV 20 (bindRows a.2 (lookV ts a.1).1.2)).map fun r=>pickV r (colsV a.2 order))
  have g2:=sortV_len 20 (bindRows a.2 (lookV ts a.1).1.2)
  rw [List.length_map] at g1
  exact Nat.le_trans g1 (by omega)
end Go.Proofs.Ytkpeabpdiffjhaa
namespace Go.Proofs.Ytkpeabpdiffjhaa
open Go.RowKit

section
variable {N:Nat}
theorem valid_ok {n:Int} {rows:RowL} (h:validRows n rows=true):okII rows:=by
 obtain ⟨h1,h2,h3,h4⟩:=validRows_spec h
 refine ⟨by omega,fun r hr=>?_⟩
 obtain ⟨i,hi,rfl⟩:=List.getElem_of_mem hr
 obtain ⟨g1,_⟩:=h4 i hi
 exact ⟨by omega,fun _ _=>trivial⟩
end
end Go.Proofs.Ytkpeabpdiffjhaa
namespace Go.Proofs.Ytkpeabpdiffjhaa
open Go.RowKit

theorem subset_len {α:Type} [DecidableEq α]:∀ (xs ys:List α),xs.Nodup→(∀ x∈xs,x∈ys)→xs.length≤ys.length
 | [],ys,_,_=>Nat.zero_le _
 | x :: xs,ys,hn,h=>by
  obtain ⟨h1,h2⟩:=List.nodup_cons.1 hn
  have hx:=h x List.mem_cons_self
  have:=subset_len xs (ys.erase x) h2 fun z hz=>(List.mem_erase_of_ne (fun (e:z=x)=>h1 (by rw [e] at hz;exact hz))).2 (h z (List.mem_cons_of_mem _ hz))
  rw [List.length_erase_of_mem hx] at this
  have:=List.length_pos_of_mem hx
  rw [List.length_cons];omega
theorem mergeV_mem2:∀ (m:Nat) (a b:RowL) (r:List Int),a.length+b.length≤m→r∈a∨r∈b→r∈mergeV m a b:=by
 intro m
 induction m with
 | zero =>
  intro a b r hl h
  obtain rfl:a=[]:=List.length_eq_zero_iff.1 (by omega)
  obtain rfl:b=[]:=List.length_eq_zero_iff.1 (by simpa using hl)
  simp at h
 | succ m ih =>
  intro a b r hl h
  match a,b with
  | [],[]=>simp at h
  | [],y :: b =>
   rw [mergeV]
   rcases h with h | h
   ·simp at h
   ·rcases List.mem_cons.1 h with rfl | h
    ·exact List.mem_cons_self
    ·exact List.mem_cons_of_mem _ (ih [] b r (by simp at hl ⊢;omega) (.inr h))
  | x :: a,[] =>
   rw [mergeV]
   rcases h with h | h
   ·rcases List.mem_cons.1 h with rfl | h
    ·exact List.mem_cons_self
    ·exact List.mem_cons_of_mem _ (ih a [] r (by simp at hl ⊢;omega) (.inl h))
   ·simp at h
  | x :: a,y :: b =>
   simp only [List.length_cons] at hl
   rw [mergeV]
   by_cases h1:cmpR x y<0
   ·rw [if_pos h1]
    rcases h with h | h
    ·rcases List.mem_cons.1 h with rfl | h
     ·exact List.mem_cons_self
     ·exact List.mem_cons_of_mem _ (ih a (y :: b) r (by simp only [List.length_cons];omega) (.inl h))
    ·exact List.mem_cons_of_mem _ (ih a (y :: b) r (by simp only [List.length_cons];omega) (.inr h))
   ·rw [if_neg h1]
    by_cases h2:cmpR x y=0
    ·rw [if_pos h2]
     have e:=cmpR_zero.1 h2
     rcases h with h | h
     ·rcases List.mem_cons.1 h with rfl | h
      ·exact List.mem_cons_self
      ·exact List.mem_cons_of_mem _ (ih a b r (by omega) (.inl h))
     ·rcases List.mem_cons.1 h with rfl | h
      ·rw [e];exact List.mem_cons_self
      ·exact List.mem_cons_of_mem _ (ih a b r (by omega) (.inr h))
    ·rw [if_neg h2]
     rcases h with h | h
     ·exact List.mem_cons_of_mem _ (ih (x :: a) b r (by simp only [List.length_cons];omega) (.inl h))
     ·rcases List.mem_cons.1 h with rfl | h
      ·exact List.mem_cons_self
      ·exact List.mem_cons_of_mem _ (ih (x :: a) b r (by simp only [List.length_cons];omega) (.inr h))
theorem sortV_mem2:∀ (f:Nat) (rows:RowL) (r:List Int),r∈rows→r∈sortV f rows:=by
 intro f
 induction f with
 | zero=>intro rows r h;exact h
 | succ f ih =>
  intro rows r h
  unfold sortV
  split
  ·exact h
  ·refine mergeV_mem2 _ _ _ _ ?_ ?_
   ·have h2:=sortV_len f (rows.take (rows.length / 2))
    have h3:=sortV_len f (rows.drop (rows.length / 2))
    rw [List.length_take] at h2
    rw [List.length_drop] at h3
    omega
   ·rw [← List.take_append_drop (rows.length / 2) rows,List.mem_append] at h
    exact h.imp (ih _ _) (ih _ _)
theorem cmpR_irr (x:List Int):¬ cmpR x x<0:=by rw [cmpR_self];decide
theorem ascP_nodup {rows:RowL} (h:ascP rows):rows.Nodup:=List.Pairwise.imp (fun {a b} (hab:cmpR a b<0) (e:a=b)=>cmpR_irr b (by rw [e] at hab;exact hab)) h
theorem sortV_nodup {rows:RowL} (h:rows.Nodup):(sortV 20 rows).length=rows.length:=by
 have h1:=subset_len rows (sortV 20 rows) h fun r hr=>sortV_mem2 20 rows r hr
 have h2:=sortV_len 20 rows
 omega
theorem validRows_ascP {n:Int} {rows:RowL} (h:validRows n rows=true):ascP rows:=by
 rw [ascP,List.pairwise_iff_getElem]
 exact fun i j hi hj hij=>validRows_asc h i j hij hj
theorem newRelV_nodup {n:Int} {rows:RowL} (h0:0≤n∧n≤5) (hf:∀ r∈rows,(r.length:Int)=n∧validVals r=true) (hn:rows.Nodup):newRelV n rows=bif decide ((rows.length:Int)≤4000) then ((n,sortV 20 rows),true) else noRel:=by
 by_cases h:rows.length≤4000
 ·rw [decide_eq_true (by omega),cond_true,newRelV_true h0 h hf]
 ·rw [decide_eq_false (by omega),cond_false]
  unfold newRelV
  cases hv:validRows n (sortV 20 rows) with
  | true=>have:=(validRows_spec hv).2.2.1;rw [sortV_nodup hn] at this;omega
  | false=>rw [Bool.and_false,cond_false]
end Go.Proofs.Ytkpeabpdiffjhaa
namespace Go.Proofs.Ytkpeabpdiffjhaa
open Go.RowKit

theorem whileL {α:Type} (L:Nat→Int→Option Int) (xs:List α) (f:α→Bool)
  (hstep:∀ k i (h:i<xs.length),L (k+1) (i:Int)=bif f xs[i] then L k ((i+1:Nat):Int) else some (i:Int)) (hend:∀ k,L (k+1) (xs.length:Int)=some (xs.length:Int)) :
  ∀ k i,i≤xs.length→xs.length-i<k→L k (i:Int)=some ((i+((xs.drop i).takeWhile f).length:Nat):Int):=by
 intro k
 induction k with
 | zero=>intro i hi hk;omega
 | succ k ih =>
  intro i hi hk
  by_cases h:i<xs.length
  ·rw [hstep k i h,drop_cons h,List.takeWhile_cons]
   cases f xs[i] with
   | true=>rw [cond_true,ih (i+1) (by omega) (by omega),if_pos rfl,List.length_cons];congr 2;omega
   | false=>rw [cond_false,if_neg (by decide)];rfl
  ·obtain rfl:i=xs.length:=by omega
   rw [hend k,List.drop_length];rfl
theorem takeWhile_le {α:Type} (f:α→Bool) (xs:List α):(xs.takeWhile f).length≤xs.length:=(List.takeWhile_prefix f).length_le
abbrev ascI (xs:List Int):Prop:=xs.Pairwise (·<·)
end Go.Proofs.Ytkpeabpdiffjhaa
namespace Go.Proofs.Ytkpeabpdiffjhaa
open Go.RowKit

theorem ascI_ext:∀ {a b:List Int},ascI a→ascI b→(∀ v,v∈a↔v∈b)→a=b
 | [],[],_,_,_=>rfl
 | [],y :: b,_,_,h=>absurd ((h y).2 List.mem_cons_self) (by simp)
 | x :: a,[],_,_,h=>absurd ((h x).1 List.mem_cons_self) (by simp)
 | x :: a,y :: b,ha,hb,h=>by
  obtain ⟨a1,a2⟩:=List.pairwise_cons.1 ha
  obtain ⟨b1,b2⟩:=List.pairwise_cons.1 hb
  have e:x=y:=by
   rcases List.mem_cons.1 ((h x).1 List.mem_cons_self) with e | hx
   ·exact e
   ·rcases List.mem_cons.1 ((h y).2 List.mem_cons_self) with e | hy
    ·exact e.symm
    ·have h1:=b1 x hx;have h2:=a1 y hy;omega
  subst e
  rw [ascI_ext a2 b2 fun r=>?_]
  constructor
  ·intro hr
   rcases List.mem_cons.1 ((h r).1 (List.mem_cons_of_mem _ hr)) with rfl | h'
   ·have:=a1 r hr;omega
   ·exact h'
  ·intro hr
   rcases List.mem_cons.1 ((h r).2 (List.mem_cons_of_mem _ hr)) with rfl | h'
   ·have:=b1 r hr;omega
   ·exact h'
theorem ordV_asc (n:Nat):ascI (ordV n):=by
 unfold ordV ascI
 rw [List.pairwise_map]
 exact List.Pairwise.imp (fun h=>by omega) (List.pairwise_lt_range' (s:=0) (n:=n))
theorem ascI_nd {xs:List Int} (h:ascI xs):xs.Nodup:=List.Pairwise.imp (fun {a b} (hab:a<b) (e:a=b)=>by omega) h
structure VRel (vs:List Int) (rows:RowL):Prop where
 asc:ascI vs
 bd:∀ v∈vs,0≤v∧v<5
 val:validRows (vs.length:Int) rows=true
theorem VRel.len {vs:List Int} {rows:RowL} (h:VRel vs rows):vs.length≤5:=nodup_bound 5 vs (ascI_nd h.asc) h.bd
theorem VRel.row {vs:List Int} {rows:RowL} (h:VRel vs rows) {r:List Int} (hr:r∈rows):r.length=vs.length∧validVals r=true:=by
 obtain ⟨_,_,_,v4⟩:=validRows_spec h.val
 obtain ⟨i,hi,rfl⟩:=List.getElem_of_mem hr
 obtain ⟨g1,g2,_⟩:=v4 i hi
 exact ⟨by omega,g2⟩
def uniT (a b:List Int) (m:Nat):List Int:=(ordV m).filter fun v=>decide (v∈a)||decide (v∈b)
def uniV (a b:List Int):List Int:=uniT a b 5
theorem uniV_asc (a b:List Int):ascI (uniV a b):=List.Pairwise.filter _ (ordV_asc 5)
theorem uniV_mem {a b:List Int} {v:Int}:v∈uniV a b↔(0≤v∧v<5)∧(v∈a∨v∈b):=by
 unfold uniV uniT
 rw [List.mem_filter,mem_ordV,Bool.or_eq_true,decide_eq_true_eq,decide_eq_true_eq];rfl
theorem uniT_len (a b:List Int) (m:Nat):(uniT a b m).length≤m:=by
 unfold uniT
 exact Nat.le_trans (List.length_filter_le _ _) (by rw [ordV_len];omega)
def atV2 (va r vb s:List Int) (v:Int):Int:=if v∈va then r.getD (findI va v).toNat 0 else s.getD (findI vb v).toNat 0
def okAt (va r vb s:List Int) (v:Int):Bool:=!(decide (v∈va)&&decide (v∈vb))||decide (r.getD (findI va v).toNat 0=s.getD (findI vb v).toNat 0)
def agreeV (va r vb s:List Int):Bool:=(uniV va vb).all (okAt va r vb s)
def glueV (va r vb s:List Int):List Int:=(uniV va vb).map (atV2 va r vb s)
def joinR (va vb:List Int) (rb:RowL) (r:List Int):RowL:=(rb.filter fun s=>agreeV va r vb s).map (glueV va r vb)
def joinV (va vb:List Int) (ra rb:RowL):RowL:=ra.flatMap (joinR va vb rb)
theorem joinR_len (va vb:List Int) (rb:RowL) (r:List Int):(joinR va vb rb r).length≤rb.length:=by
 unfold joinR;rw [List.length_map];exact List.length_filter_le _ _
theorem glueV_len (va r vb s:List Int):(glueV va r vb s).length=(uniV va vb).length:=by simp [glueV]
theorem glueV_vals {va r vb s:List Int} (hr:r.length=va.length) (hs:s.length=vb.length) (h1:validVals r=true) (h2:validVals s=true):validVals (glueV va r vb s)=true:=by
 unfold validVals at *
 rw [List.all_eq_true] at *
 intro x hx
 unfold glueV at hx
 obtain ⟨v,hv,rfl⟩:=List.mem_map.1 hx
 unfold atV2
 split
 ·rename_i hm
  obtain ⟨j,hj,hj2⟩:=findI_mem hm
  rw [hj,show ((j:Nat):Int).toNat=j from rfl,getD_at (by omega)]
  exact h1 _ (List.getElem_mem _)
 ·rename_i hm
  have hmb:v∈vb:=((uniV_mem.1 hv).2).resolve_left hm
  obtain ⟨j,hj,hj2⟩:=findI_mem hmb
  rw [hj,show ((j:Nat):Int).toNat=j from rfl,getD_at (by omega)]
  exact h2 _ (List.getElem_mem _)
def backV (u vs g:List Int):List Int:=vs.map fun v=>g.getD (findI u v).toNat 0
theorem glue_at {va r vb s:List Int} {v:Int} (hv:v∈uniV va vb):(glueV va r vb s).getD (findI (uniV va vb) v).toNat 0=atV2 va r vb s v:=by
 obtain ⟨j,hj,e,h2,_⟩:∃ j,∃ h:j<(uniV va vb).length,(uniV va vb)[j]=v∧findI (uniV va vb) v=(j:Int)∧True:=by
  rcases findI_spec (uniV va vb) v with ⟨h,_⟩ | ⟨j,hj,e,h2,_⟩
  ·exact absurd hv h
  ·exact ⟨j,hj,e,h2,trivial⟩
 rw [h2,show ((j:Nat):Int).toNat=j from rfl,getD_at (by rw [glueV_len];exact hj)]
 unfold glueV
 rw [List.getElem_map,e]
theorem self_map {vs r:List Int} (hn:vs.Nodup) (hl:r.length=vs.length):(vs.map fun v=>r.getD (findI vs v).toNat 0)=r:=by
 refine List.ext_getElem (by simp [hl]) fun i h1 h2=>?_
 rw [List.length_map] at h1
 rw [List.getElem_map,findI_at hn h1,show ((i:Nat):Int).toNat=i from rfl,getD_at h2]
theorem back_left {va r vb s:List Int} (hn:va.Nodup) (hb:∀ v∈va,0≤v∧v<5) (hl:r.length=va.length):backV (uniV va vb) va (glueV va r vb s)=r:=by
 unfold backV
 rw [List.map_congr_left (g:=fun v=>r.getD (findI va v).toNat 0) fun v hv=>?_]
 ·exact self_map hn hl
 ·rw [glue_at (uniV_mem.2 ⟨hb v hv,.inl hv⟩)]
  unfold atV2;rw [if_pos hv]
theorem back_right {va r vb s:List Int} (hn:vb.Nodup) (hb:∀ v∈vb,0≤v∧v<5) (hl:s.length=vb.length) (ha:agreeV va r vb s=true):backV (uniV va vb) vb (glueV va r vb s)=s:=by
 unfold backV
 rw [List.map_congr_left (g:=fun v=>s.getD (findI vb v).toNat 0) fun v hv=>?_]
 ·exact self_map hn hl
 ·have hu:v∈uniV va vb:=uniV_mem.2 ⟨hb v hv,.inr hv⟩
  rw [glue_at hu]
  unfold atV2
  split
  ·rename_i hva
   unfold agreeV at ha
   rw [List.all_eq_true] at ha
   have:=ha v hu
   unfold okAt at this
   rw [decide_eq_true hva,decide_eq_true hv,Bool.and_self,Bool.not_true,Bool.false_or,decide_eq_true_eq] at this
   exact this
  ·rfl
theorem joinV_nodup {va vb:List Int} {ra rb:RowL} (A:VRel va ra) (B:VRel vb rb):(joinV va vb ra rb).Nodup:=by
 have na:=ascP_nodup (validRows_ascP A.val)
 have nb:=ascP_nodup (validRows_ascP B.val)
 unfold joinV
 rw [List.Nodup,List.pairwise_flatMap]
 constructor
 ·intro r _
  unfold joinR
  rw [List.pairwise_map]
  refine List.Pairwise.imp_of_mem (fun {s t} hs ht hst e=>hst ?_) (List.Pairwise.filter _ nb)
  rw [List.mem_filter] at hs ht
  rw [← back_right (ascI_nd B.asc) B.bd (B.row hs.1).1 hs.2,e,back_right (ascI_nd B.asc) B.bd (B.row ht.1).1 ht.2]
 ·refine List.Pairwise.imp_of_mem (fun {r t} hr ht hrt x hx y hy e=>hrt ?_) na
  unfold joinR at hx hy
  obtain ⟨s,_,rfl⟩:=List.mem_map.1 hx
  obtain ⟨u,_,rfl⟩:=List.mem_map.1 hy
  rw [← back_left (s:=s) (vb:=vb) (ascI_nd A.asc) A.bd (A.row hr).1,e,back_left (ascI_nd A.asc) A.bd (A.row ht).1]
theorem joinV_row {va vb:List Int} {ra rb:RowL} (A:VRel va ra) (B:VRel vb rb):∀ g∈joinV va vb ra rb,(g.length:Int)=((uniV va vb).length:Int)∧validVals g=true:=by
 intro g hg
 unfold joinV at hg
 obtain ⟨r,hr,hg⟩:=List.mem_flatMap.1 hg
 unfold joinR at hg
 obtain ⟨s,hs,rfl⟩:=List.mem_map.1 hg
 have h1:=A.row hr
 have h2:=B.row (List.mem_filter.1 hs).1
 exact ⟨by rw [glueV_len],glueV_vals h1.1 h2.1 h1.2 h2.2⟩
theorem flat_len {α β:Type} {g:α→List β} {k:Nat} (h:∀ x,(g x).length≤k):∀ L:List α,(L.flatMap g).length≤L.length*k
 | []=>by simp
 | p :: L=>by
  have h1:=h p
  have h2:=flat_len h L
  rw [List.flatMap_cons,List.length_append,List.length_cons,Nat.succ_mul];omega
theorem joinV_len (va vb:List Int) (ra rb:RowL):(joinV va vb ra rb).length≤ra.length*rb.length:=flat_len (fun r=>joinR_len va vb rb r) ra
theorem uniV_len (a b:List Int):(uniV a b).length≤5:=uniT_len a b 5
theorem joinV_ok {va vb:List Int} {ra rb:RowL} (A:VRel va ra) (B:VRel vb rb) (hl:(joinV va vb ra rb).length≤4000):VRel (uniV va vb) (sortV 20 (joinV va vb ra rb)):=by
 have hu:=uniV_len va vb
 exact ⟨uniV_asc va vb,fun v hv=>(uniV_mem.1 hv).1,sortV_valid (by omega) hl (joinV_row A B)⟩
def comV (va vb:List Int):List Int:=va.filter fun v=>decide (v∈vb)
theorem agree_com {va vb r s:List Int} (hb:∀ v∈va,0≤v∧v<5):agreeV va r vb s=decide ((comV va vb).map (fun v=>r.getD (findI va v).toNat 0)=(comV va vb).map fun v=>s.getD (findI vb v).toNat 0):=by
 rw [Bool.eq_iff_iff,decide_eq_true_eq,List.map_inj_left]
 unfold agreeV
 rw [List.all_eq_true]
 constructor
 ·intro h v hv
  unfold comV at hv
  rw [List.mem_filter,decide_eq_true_eq] at hv
  have:=h v (uniV_mem.2 ⟨hb v hv.1,.inl hv.1⟩)
  unfold okAt at this
  rw [decide_eq_true hv.1,decide_eq_true hv.2,Bool.and_self,Bool.not_true,Bool.false_or,decide_eq_true_eq] at this
  exact this
 ·intro h v _
  unfold okAt
  by_cases h1:v∈va
  ·by_cases h2:v∈vb
   ·rw [decide_eq_true (h v (by unfold comV;rw [List.mem_filter,decide_eq_true_eq];exact ⟨h1,h2⟩)),Bool.or_true]
   ·rw [decide_eq_false h2,Bool.and_false];rfl
  ·rw [decide_eq_false h1,Bool.false_and];rfl
end Go.Proofs.Ytkpeabpdiffjhaa
namespace Go.Proofs.Ytkpeabpdiffjhaa
open Go.RowKit

theorem slc0 {α:Type} {xs:List α} {hi:Nat} (h:hi≤xs.length):slc xs 0 (hi:Int)=some (xs.take hi):=by
 have:=slc_ok (xs:=xs) (Nat.zero_le hi) h
 rw [List.drop_zero] at this;exact this
end Go.Proofs.Ytkpeabpdiffjhaa
namespace Go.Proofs.Ytkpeabpdiffjhaa
open Go.RowKit

abbrev Nxt:=List Int→List Int × Int
structure NxtOk (f:Nxt):Prop where
 len:∀ p,(f p).1.length≤16
 asc:∀ p,ascI (f p).1
 val:∀ p,∀ v∈(f p).1,0≤v∧v≤99
 st0:∀ p,0≤(f p).2
 st1:∀ p,(f p).2≤1000
end Go.Proofs.Ytkpeabpdiffjhaa
namespace Go.Proofs.Ytkpeabpdiffjhaa
open Go.RowKit

def seekN (l:List Int) (a:Nat) (v:Int):Nat:=a+((l.drop a).takeWhile fun x=>decide (x<v)).length
theorem seekN_le {l:List Int} {a:Nat} {v:Int} (h:a≤l.length):seekN l a v≤l.length:=by
 have:=takeWhile_le (fun x=>decide (x<v)) (l.drop a)
 rw [List.length_drop] at this
 unfold seekN;omega
theorem tw_stop {f:Int→Bool}:∀ {xs:List Int} (h:(xs.takeWhile f).length<xs.length),f (xs[(xs.takeWhile f).length])=false
 | [],h=>absurd h (by simp)
 | x :: xs,h=>by
  cases hf:f x with
  | false =>
   have e:(x :: xs).takeWhile f=[]:=by rw [List.takeWhile_cons,hf];rfl
   simp only [e,List.length_nil,List.getElem_cons_zero];exact hf
  | true =>
   have e:(x :: xs).takeWhile f=x :: xs.takeWhile f:=by rw [List.takeWhile_cons,hf];rfl
   simp only [e,List.length_cons] at h ⊢
   rw [List.getElem_cons_succ]
   exact tw_stop (by omega)
theorem tw_in {f:Int→Bool}:∀ {xs:List Int} {j:Nat} (h:j<xs.length),j<(xs.takeWhile f).length→f xs[j]=true
 | [],_,h,_=>absurd h (by simp)
 | x :: xs,j,h,hj=>by
  cases hf:f x with
  | false =>
   have e:(x :: xs).takeWhile f=[]:=by rw [List.takeWhile_cons,hf];rfl
   rw [e] at hj;exact absurd hj (by simp)
  | true =>
   have e:(x :: xs).takeWhile f=x :: xs.takeWhile f:=by rw [List.takeWhile_cons,hf];rfl
   rw [e,List.length_cons] at hj
   cases j with
   | zero=>exact hf
   | succ j=>rw [List.getElem_cons_succ];exact tw_in _ (by omega)
theorem seekN_stop {l:List Int} {a:Nat} {v:Int} (h:seekN l a v<l.length):v≤l.getD (seekN l a v) 0:=by
 unfold seekN at h ⊢
 have:=tw_stop (f:=fun x=>decide (x<v)) (xs:=l.drop a) (by rw [List.length_drop];omega)
 rw [List.getElem_drop,decide_eq_false_iff_not] at this
 rw [getD_at h];omega
theorem seekN_in {l:List Int} {a j:Nat} {v:Int} (h:j<l.length) (h1:a≤j) (h2:j<seekN l a v):l[j]<v:=by
 unfold seekN at h2
 have:=tw_in (f:=fun x=>decide (x<v)) (xs:=l.drop a) (j:=j-a) (by rw [List.length_drop];omega) (by omega)
 rw [List.getElem_drop,decide_eq_true_eq] at this
 simpa [show a+(j-a)=j by omega] using this
theorem ascI_at {l:List Int} (h:ascI l) {i j:Nat} (hi:i<j) (hj:j<l.length):l[i]<l[j]:=List.pairwise_iff_getElem.1 h i j (by omega) hj hi
def keyK (Ls:RowL) (A:List Nat) (k:Nat):Int:=(Ls.getD k []).getD (A.getD k 0) 0
structure LInv (Ls:RowL) (A:List Nat) (most:Int) (out:List Int) (s:Nat):Prop where
 pos:0<Ls.length
 len:A.length=Ls.length
 asc:∀ l∈Ls,ascI l
 lt:∀ k,k<Ls.length→A.getD k 0<(Ls.getD k []).length
 cyc:∀ i j,i≤j→j<Ls.length→keyK Ls A ((s+i) % Ls.length)≤keyK Ls A ((s+j) % Ls.length)
 top:keyK Ls A ((s+(Ls.length-1)) % Ls.length)=most
 oasc:ascI out
 olt:∀ x∈out,x<most
 ocom:∀ x∈out,∀ l∈Ls,x∈l
 all:∀ x,(∀ l∈Ls,x∈l)→x∈out∨∀ k,k<Ls.length→keyK Ls A k≤x
theorem mem_at {l:List Int} {x:Int} (h:x∈l):∃ j,∃ hj:j<l.length,l[j]=x:=List.mem_iff_getElem.1 h
end Go.Proofs.Ytkpeabpdiffjhaa
namespace Go.Proofs.Ytkpeabpdiffjhaa
open Go.RowKit

theorem ins_mem {α:Type} {xs:List α} {k:Nat} {n v:α}:v∈xs.take k++[n]++xs.drop k↔v∈xs∨v=n:=by
 have:v∈xs↔v∈xs.take k∨v∈xs.drop k:=by
  rw [← List.mem_append,List.take_append_drop]
 rw [this,List.mem_append,List.mem_append,List.mem_singleton]
 constructor
 ·rintro ((h | h) | h)
  ·exact .inl (.inl h)
  ·exact .inr h
  ·exact .inl (.inr h)
 ·rintro ((h | h) | h)
  ·exact .inl (.inl h)
  ·exact .inr h
  ·exact .inl (.inr h)
theorem ins_asc {out:List Int} {n:Int} (h:ascI out) (hn:n∉out):ascI (out.take (seekN out 0 n)++[n]++out.drop (seekN out 0 n)):=by
 have hle:=seekN_le (l:=out) (a:=0) (v:=n) (Nat.zero_le _)
 rw [List.append_assoc,List.singleton_append]
 have h0:=h
 rw [← List.take_append_drop (seekN out 0 n) out] at h0
 obtain ⟨p1,p2,p3⟩:=List.pairwise_append.1 h0
 have hlt:∀ x∈out.take (seekN out 0 n),x<n:=fun x hx=>by
  obtain ⟨j,hj,rfl⟩:=List.getElem_of_mem hx
  rw [List.length_take] at hj
  rw [List.getElem_take]
  exact seekN_in (by omega) (Nat.zero_le _) (by omega)
 have hgt:∀ y∈out.drop (seekN out 0 n),n<y:=fun y hy=>by
  obtain ⟨j,hj,rfl⟩:=List.getElem_of_mem hy
  rw [List.length_drop] at hj
  rw [List.getElem_drop]
  have hs:=seekN_stop (l:=out) (a:=0) (v:=n) (by omega)
  rw [getD_at (by omega)] at hs
  have hne:out[seekN out 0 n+j]≠n:=fun e=>hn (by rw [← e];exact List.getElem_mem _)
  by_cases e:j=0
  ·subst e
   simp only [Nat.add_zero] at hne ⊢
   omega
  ·have:=ascI_at h (show seekN out 0 n<seekN out 0 n+j by omega) (by omega)
   omega
 refine List.pairwise_append.2 ⟨p1,List.pairwise_cons.2 ⟨hgt,p2⟩,fun x hx y hy=>?_⟩
 have hx':=hlt x hx
 rcases List.mem_cons.1 hy with rfl | hy
 ·exact hx'
 ·have:=hgt y hy;omega
theorem uniV_nil {a:List Int} (h:ascI a) (hb:∀ v∈a,0≤v∧v<5):uniV a []=a :=
 ascI_ext (uniV_asc a []) h fun v=>by
  rw [uniV_mem]
  constructor
  ·rintro ⟨_,h | h⟩
   ·exact h
   ·simp at h
  ·exact fun h=>⟨hb v h,.inl h⟩
theorem mem_take_s {xs:List Int} {i:Nat} (h:i<xs.length) (v:Int):v∈xs.take (i+1)↔v∈xs.take i∨v=xs[i]:=by
 rw [List.take_succ_eq_append_getElem h,List.mem_append,List.mem_singleton]
def bothT (va vb:List Int) (i:Nat):List Int:=(va.take i).filter fun v=>decide (v∈vb)
theorem bothT_succ {va vb:List Int} {i:Nat} (h:i<va.length):bothT va vb (i+1)=bif decide (va[i]∈vb) then bothT va vb i++[va[i]] else bothT va vb i:=by
 unfold bothT
 rw [List.take_succ_eq_append_getElem h,List.filter_append]
 simp only [List.filter_cons,List.filter_nil]
 cases decide (va[i]∈vb) <;> simp
theorem bothT_len (va vb:List Int) (i:Nat):(bothT va vb i).length≤i:=by
 unfold bothT
 refine Nat.le_trans (List.length_filter_le _ _) ?_
 rw [List.length_take];omega
section
variable {N:Nat}
theorem copyI_eq {xs:List Int} (h:xs.length≤1048576):impl_copyInts N xs=some xs:=by
 unfold impl_copyInts
 rw [apd_nil (by decide) (by omega),bs]
theorem uniteI_L2 (hN:1073741824≤N) {out b:List Int} {n c d:Int} (hl:out.length≤1000):impl_unite_L2 N N out n 0 b c d=some ((seekN out 0 n:Nat):Int):=by
 have h:=whileL (fun k i=>impl_unite_L2 N k out n i b c d) out (fun x=>decide (x<n))
  (fun k i h=>by
   show impl_unite_L2 N (k+1) out n (i:Int) b c d=_
   rw [impl_unite_L2,dlt h,cond_true,ix_nat h,bs,ad1 (by omega),bs])
  (fun k=>by
   show impl_unite_L2 N (k+1) out n (out.length:Int) b c d=_
   rw [impl_unite_L2,dge (by omega),cond_false]) N 0 (by omega) (by omega)
 exact h
theorem unite_eq (hN:1073741824≤N) {a b:List Int} (ha:ascI a) (hba:∀ v∈a,0≤v∧v<5) (hbb:∀ v∈b,0≤v∧v<5) (hla:a.length≤1000) (hlb:b.length≤1000):impl_unite N a b=some (uniV a b):=by
 have h:=loopI (fun k (o:List Int) i=>impl_unite_L1 N k o b (b.length:Int) i) b.length (fun i=>uniV a (b.take i)) (uniV a b,(b.length:Int))
  (fun k i h=>by
   have hul:=uniV_len a (b.take i)
   have hle:=seekN_le (l:=uniV a (b.take i)) (a:=0) (v:=b[i]) (Nat.zero_le _)
   show impl_unite_L1 N (k+1) (uniV a (b.take i)) b (b.length:Int) (i:Int)=impl_unite_L1 N k (uniV a (b.take (i+1))) b (b.length:Int) ((i+1:Nat):Int)
   have hmem:∀ v,v∈uniV a (b.take (i+1))↔v∈uniV a (b.take i)∨v=b[i]:=fun v=>by
    rw [uniV_mem,uniV_mem,mem_take_s h]
    constructor
    ·rintro ⟨h1,h2 | h2 | h2⟩
     ·exact .inl ⟨h1,.inl h2⟩
     ·exact .inl ⟨h1,.inr h2⟩
     ·exact .inr h2
    ·rintro (⟨h1,h2 | h2⟩ | h2)
     ·exact ⟨h1,.inl h2⟩
     ·exact ⟨h1,.inr (.inl h2)⟩
     ·exact ⟨by rw [h2];exact hbb _ (List.getElem_mem h),.inr (.inr h2)⟩
   have hin:b[i]∈uniV a (b.take i)→uniV a (b.take (i+1))=uniV a (b.take i):=fun hm=>ascI_ext (uniV_asc _ _) (uniV_asc _ _) fun v=>by
    rw [hmem]
    exact ⟨fun h=>h.elim id fun e=>e ▸ hm,.inl⟩
   have hout:b[i]∉uniV a (b.take i)→uniV a (b.take (i+1))=(uniV a (b.take i)).take (seekN (uniV a (b.take i)) 0 b[i])++[b[i]]++(uniV a (b.take i)).drop (seekN (uniV a (b.take i)) 0 b[i]):=fun hm=>ascI_ext (uniV_asc _ _) (ins_asc (uniV_asc _ _) hm) fun v=>by
    rw [hmem,ins_mem]
   generalize hk:seekN (uniV a (b.take i)) 0 b[i]=kk at hout hle
   have hins:∀ {α:Type} (f:List Int→Option α),b[i]∉uniV a (b.take i)→((slc (uniV a (b.take i)) 0 (kk:Int)).bind fun x=>(slc (uniV a (b.take i)) (kk:Int) ((uniV a (b.take i)).length:Int)).bind fun y=>(impl_copyInts N x).bind fun z=>(apd 8 z [b[i]]).bind fun w=>(apd 8 w y).bind f)=f (uniV a (b.take (i+1))):=fun f hm=>by
    rw [slc0 hle,bs,slc_ok hle (Nat.le_refl _),bs,copyI_eq (by rw [List.length_take];omega),bs,apd_ok' (by decide) (by simp;omega),bs,apd_ok' (by decide) (by simp;omega),bs,hout hm,List.take_length]
   rw [impl_unite_L1,dlt h,cond_true,ix_nat h,bs,uniteI_L2 hN (by omega),bs,lpB,hk]
   show (bif ((kk:Int) == ((uniV a (b.take i)).length:Int)) then _ else _)=_
   by_cases e:kk=(uniV a (b.take i)).length
   ·have hm:b[i]∉uniV a (b.take i):=fun hm=>by
     obtain ⟨j,hj,ej⟩:=mem_at hm
     have:=seekN_in (l:=uniV a (b.take i)) (a:=0) (v:=b[i]) hj (Nat.zero_le _) (by omega)
     omega
    rw [show ((kk:Int) == ((uniV a (b.take i)).length:Int))=true by rw [e];simp,cond_true]
    refine Eq.trans (hins (fun x=>(ad (i:Int) 1).bind fun y=>impl_unite_L1 N k x b (b.length:Int) y) hm) ?_
    rw [ad1 (by omega),bs]
   ·have hlt:kk<(uniV a (b.take i)).length:=by omega
    rw [show ((kk:Int) == ((uniV a (b.take i)).length:Int))=false by simp;omega,cond_false,ix_nat hlt,bs]
    by_cases e2:(uniV a (b.take i))[kk]=b[i]
    ·rw [show ((uniV a (b.take i))[kk] != b[i])=false by simpa using e2,cond_false,ad1 (by omega),bs,hin (by rw [← e2];exact List.getElem_mem hlt)]
    ·have hm:b[i]∉uniV a (b.take i):=fun hm=>by
      obtain ⟨j,hj,ej⟩:=mem_at hm
      have hs:=seekN_stop (l:=uniV a (b.take i)) (a:=0) (v:=b[i]) (by omega)
      rw [hk,getD_at hlt] at hs
      rcases Nat.lt_trichotomy j kk with hjk | hjk | hjk
      ·have:=seekN_in (l:=uniV a (b.take i)) (a:=0) (v:=b[i]) hj (Nat.zero_le _) (by omega)
       omega
      ·subst hjk;exact e2 ej
      ·have:=ascI_at (uniV_asc a (b.take i)) hjk hj
       omega
     rw [show ((uniV a (b.take i))[kk] != b[i])=true by simpa using e2,cond_true]
     refine Eq.trans (hins (fun x=>(ad (i:Int) 1).bind fun y=>impl_unite_L1 N k x b (b.length:Int) y) hm) ?_
     rw [ad1 (by omega),bs])
  (fun k=>by
   show impl_unite_L1 N (k+1) (uniV a (b.take b.length)) b (b.length:Int) (b.length:Int)=_
   rw [impl_unite_L1,dge (by omega),cond_false,List.take_length]) N 0 (by omega) (by omega)
 rw [List.take_zero,uniV_nil ha hba] at h
 have h':impl_unite_L1 N N a b (b.length:Int) 0=_:=h
 unfold impl_unite
 rw [copyI_eq (by omega),bs,h',bs,lpB]
theorem l11Vars_eq (hN:1073741824≤N) {a b:List Int} (hla:a.length≤1000) (hlb:b.length≤1000):spec_l11Vars N a b=some (uniV a b):=by
 have h:=loopI (fun k (o:List Int) i=>spec_l11Vars_L1 N k a b o i) 5 (uniT a b) (uniV a b,5)
  (fun k i h=>by
   have hl:=uniT_len a b i
   have e:uniT a b (i+1)=bif decide ((i:Int)∈a)||decide ((i:Int)∈b) then uniT a b i++[(i:Int)] else uniT a b i:=by
    unfold uniT
    rw [ordV_succ,List.filter_append]
    simp only [List.filter_cons,List.filter_nil]
    cases (decide ((i:Int)∈a)||decide ((i:Int)∈b)) <;> simp
   show spec_l11Vars_L1 N (k+1) a b (uniT a b i) (i:Int)=spec_l11Vars_L1 N k a b (uniT a b (i+1)) ((i+1:Nat):Int)
   rw [spec_l11Vars_L1,decide_eq_true (by omega),cond_true,l7Find_eq hN (by omega),bs,l7Find_eq hN (by omega),findI_nonneg,ad1 (by omega),e]
   cases decide ((i:Int)∈a) with
   | true=>rw [cond_true,Bool.true_or,cond_true,apd_ok' (by decide) (by simp;omega),bs,bs]
   | false =>
    rw [cond_false,Bool.false_or,bs,findI_nonneg]
    cases decide ((i:Int)∈b) with
    | true=>rw [cond_true,cond_true,apd_ok' (by decide) (by simp;omega),bs,bs]
    | false=>rw [cond_false,cond_false,bs])
  (fun k=>by
   show spec_l11Vars_L1 N (k+1) a b (uniT a b 5) ((5:Nat):Int)=_
   rw [spec_l11Vars_L1,decide_eq_false (by omega),cond_false];rfl) N 0 (by omega) (by omega)
 have h':spec_l11Vars_L1 N N a b [] 0=_:=h
 unfold spec_l11Vars
 rw [h',bs,lpB]
theorem l11Both_eq (hN:1073741824≤N) {a b:List Int} {n m:Int} {ra rb:RowL} (hn:a.Nodup) (hla:a.length≤1000) (hlb:b.length≤1000):spec_l11Both N a n ra b m rb=some ((comV a b).map (findI a),(comV a b).map (findI b)):=by
 have h:=loopI (fun k (s:List Int × List Int) i=>spec_l11Both_L1 N k a n ra b m rb s.1 s.2 i) a.length (fun i=>((bothT a b i).map (findI a),(bothT a b i).map (findI b))) ((comV a b).map (findI a),(comV a b).map (findI b),(a.length:Int))
  (fun k i h=>by
   have hl:=bothT_len a b i
   show spec_l11Both_L1 N (k+1) a n ra b m rb ((bothT a b i).map (findI a)) ((bothT a b i).map (findI b)) (i:Int)=spec_l11Both_L1 N k a n ra b m rb ((bothT a b (i+1)).map (findI a)) ((bothT a b (i+1)).map (findI b)) ((i+1:Nat):Int)
   rw [spec_l11Both_L1,dlt h,cond_true,ix_nat h,bs,l7Find_eq hN (by omega),bs,findI_nonneg,ad1 (by omega),bothT_succ h]
   cases decide (a[i]∈b) with
   | true =>
    rw [cond_true,cond_true,apd_ok' (by decide) (by simp;omega),bs,apd_ok' (by decide) (by simp;omega),bs,bs,List.map_append,List.map_append]
    show spec_l11Both_L1 N k a n ra b m rb (_++[(i:Int)]) _ _=spec_l11Both_L1 N k a n ra b m rb (_++[findI a a[i]]) _ _
    rw [findI_at hn h];rfl
   | false=>rw [cond_false,cond_false,bs])
  (fun k=>by
   show spec_l11Both_L1 N (k+1) a n ra b m rb ((bothT a b a.length).map (findI a)) ((bothT a b a.length).map (findI b)) (a.length:Int)=_
   rw [spec_l11Both_L1,dge (by omega),cond_false]
   unfold bothT
   rw [List.take_length];rfl) N 0 (by omega) (by omega)
 have h':spec_l11Both_L1 N N a n ra b m rb [] [] 0=_:=h
 unfold spec_l11Both
 rw [h',bs,lpB]
theorem ixF {r vs:List Int} {v:Int} (hv:v∈vs) (hl:r.length=vs.length):ix r (findI vs v)=some (r.getD (findI vs v).toNat 0):=by
 obtain ⟨j,hj,hj2⟩:=findI_mem hv
 rw [hj,show ((j:Nat):Int).toNat=j from rfl,ix_nat (by omega),getD_at (by omega)]
theorem glue_eq (hN:1073741824≤N) {va vb r s:List Int} (hla:va.length≤1000) (hlb:vb.length≤1000) (hr:r.length=va.length) (hs:s.length=vb.length) :
  impl_glue N (uniV va vb) va r vb s=some (bif agreeV va r vb s then (glueV va r vb s,true) else ([],false)):=by
 have hul:=uniV_len va vb
 have h:=loopAS (fun k (o:List Int) i=>impl_glue_L1 N k va r vb s o (uniV va vb) ((uniV va vb).length:Int) i) (uniV va vb).length (([]:List Int),false) (fun i=>if h:i<(uniV va vb).length then okAt va r vb s (uniV va vb)[i] else true) (fun i=>((uniV va vb).take i).map (atV2 va r vb s)) (glueV va r vb s,((uniV va vb).length:Int))
  (fun k i h=>by
   have hm:=(uniV_mem.1 (List.getElem_mem h)).2
   show impl_glue_L1 N (k+1) va r vb s (((uniV va vb).take i).map (atV2 va r vb s)) (uniV va vb) ((uniV va vb).length:Int) (i:Int)=bif (if h:i<(uniV va vb).length then okAt va r vb s (uniV va vb)[i] else true) then impl_glue_L1 N k va r vb s (((uniV va vb).take (i+1)).map (atV2 va r vb s)) (uniV va vb) ((uniV va vb).length:Int) ((i+1:Nat):Int) else some (.inl ([],false))
   rw [dif_pos h,impl_glue_L1,dlt h,cond_true,ix_nat h,bs,indexOf_eq hN (by omega),bs,indexOf_eq hN (by omega),bs,findI_nonneg,findI_nonneg,ad1 (by omega),List.take_succ_eq_append_getElem h,List.map_append]
   generalize (uniV va vb)[i]=v at hm
   unfold okAt
   by_cases h1:v∈va
   ·rw [decide_eq_true h1,cond_true,ixF h1 hr,Bool.true_and]
    have e1:atV2 va r vb s v=r.getD (findI va v).toNat 0:=by unfold atV2;rw [if_pos h1]
    by_cases h2:v∈vb
    ·rw [decide_eq_true h2,cond_true,bs,ixF h2 hs,bs,Bool.not_true,Bool.false_or]
     by_cases e:r.getD (findI va v).toNat 0=s.getD (findI vb v).toNat 0
     ·rw [show (r.getD (findI va v).toNat 0 != s.getD (findI vb v).toNat 0)=false by simpa using e,cond_false,decide_eq_true e,cond_true,bs,apd_ok' (by decide) (by simp;omega),bs,bs,← e1];rfl
     ·rw [show (r.getD (findI va v).toNat 0 != s.getD (findI vb v).toNat 0)=true by simpa using e,cond_true,decide_eq_false e,cond_false]
    ·rw [decide_eq_false h2,cond_false,Bool.not_false,Bool.true_or,cond_true,bs,apd_ok' (by decide) (by simp;omega),bs,bs,← e1];rfl
   ·have h2:v∈vb:=hm.resolve_left h1
    have e1:atV2 va r vb s v=s.getD (findI vb v).toNat 0:=by unfold atV2;rw [if_neg h1]
    rw [decide_eq_false h1,cond_false,Bool.false_and,Bool.not_false,Bool.true_or,cond_true,ixF h2 hs,bs,apd_ok' (by decide) (by simp;omega),bs,bs,← e1];rfl)
  (fun k=>by
   show impl_glue_L1 N (k+1) va r vb s (((uniV va vb).take (uniV va vb).length).map (atV2 va r vb s)) (uniV va vb) ((uniV va vb).length:Int) ((uniV va vb).length:Int)=_
   rw [impl_glue_L1,dge (by omega),cond_false,List.take_length];rfl) N 0 (by omega) (by omega)
 rw [Nat.sub_zero,range_all (uniV va vb) (okAt va r vb s) _ (fun i hi=>by rw [dif_pos hi])] at h
 have h':impl_glue_L1 N N va r vb s [] (uniV va vb) ((uniV va vb).length:Int) 0=some (bif agreeV va r vb s then .inr (glueV va r vb s,((uniV va vb).length:Int)) else .inl ([],false)):=h
 unfold impl_glue
 rw [h',bs]
 cases agreeV va r vb s <;> rfl
end
end Go.Proofs.Ytkpeabpdiffjhaa
namespace Go.Proofs.Ytkpeabpdiffjhaa
open Go.RowKit

abbrev VR:=List Int × (Int × RowL)
def natV (va vb:List Int) (ra rb:RowL):VR × Bool:=bif decide (((joinV va vb ra rb).length:Int)≤4000) then ((uniV va vb,((uniV va vb).length:Int),sortV 20 (joinV va vb ra rb)),true) else (([],0,[]),false)
def joinT (va vb:List Int) (ra rb:RowL) (i:Nat):RowL:=joinV va vb (ra.take i) rb
theorem joinT_succ {va vb:List Int} {ra rb:RowL} {i:Nat} (h:i<ra.length):joinT va vb ra rb (i+1)=joinT va vb ra rb i++joinR va vb rb ra[i]:=by
 unfold joinT joinV
 rw [List.take_succ_eq_append_getElem h,List.flatMap_append];simp
def rowT (va r vb:List Int) (rb:RowL) (j:Nat):RowL:=((rb.take j).filter fun s=>agreeV va r vb s).map (glueV va r vb)
theorem rowT_succ {va r vb:List Int} {rb:RowL} {j:Nat} (h:j<rb.length):rowT va r vb rb (j+1)=bif agreeV va r vb rb[j] then rowT va r vb rb j++[glueV va r vb rb[j]] else rowT va r vb rb j:=by
 unfold rowT
 rw [List.take_succ_eq_append_getElem h,List.filter_append,List.map_append]
 simp only [List.filter_cons,List.filter_nil]
 cases agreeV va r vb rb[j] <;> simp
theorem rowT_len (va r vb:List Int) (rb:RowL) (j:Nat):(rowT va r vb rb j).length≤j:=by
 unfold rowT
 rw [List.length_map]
 refine Nat.le_trans (List.length_filter_le _ _) ?_
 rw [List.length_take];omega
theorem rowT_all (va r vb:List Int) (rb:RowL):rowT va r vb rb rb.length=joinR va vb rb r:=by unfold rowT joinR;rw [List.take_length]
theorem joinT_mono {va vb:List Int} {ra rb:RowL} {i:Nat} (h:i≤ra.length):(joinT va vb ra rb i).length≤(joinV va vb ra rb).length:=by
 unfold joinT joinV
 have:ra.flatMap (joinR va vb rb)=(ra.take i).flatMap (joinR va vb rb)++(ra.drop i).flatMap (joinR va vb rb):=by rw [← List.flatMap_append,List.take_append_drop]
 rw [this,List.length_append];omega
theorem joinT_len (va vb:List Int) (ra rb:RowL) (i:Nat):(joinT va vb ra rb i).length≤i*rb.length:=by
 have h1:=joinV_len va vb (ra.take i) rb
 have h2:=Nat.mul_le_mul_right rb.length (show (ra.take i).length≤i by rw [List.length_take];omega)
 unfold joinT;omega
section
variable {N:Nat}
theorem vrelI (hN:1073741824≤N) {vs:List Int} {rows:RowL} (h:VRel vs rows):impl_IsValidVarRelation N vs (vs.length:Int) rows=some true:=by
 have hl:=h.len
 have h':=loopA (L:=fun k i=>impl_IsValidVarRelation_L1 N k vs (vs.length:Int) rows vs (vs.length:Int) i) vs.length (by omega) false (fun _=>true) (vs.length:Int)
  (fun k i hi=>by
   have hb:=h.bd _ (List.getElem_mem hi)
   show impl_IsValidVarRelation_L1 N (k+1) vs (vs.length:Int) rows vs (vs.length:Int) (i:Int)=_
   rw [impl_IsValidVarRelation_L1,dlt hi,cond_true,ix_nat hi,bs,within_eq,bs,inR_iff.2 (show 0≤vs[i]∧vs[i]≤4 by omega),cond_true,cond_true,ad1 (by omega)]
   cases i with
   | zero=>rfl
   | succ i =>
    have:=ascI_at h.asc (show i<i+1 by omega) hi
    rw [decide_eq_true (by omega),cond_true,sb_ok (by omega) (by omega),bs,show (((i+1:Nat):Int)-1)=(i:Int) by omega,ix_nat (by omega),bs,decide_eq_false (by omega),cond_false,bs])
  (fun k=>by
   show impl_IsValidVarRelation_L1 N (k+1) vs (vs.length:Int) rows vs (vs.length:Int) (vs.length:Int)=_
   rw [impl_IsValidVarRelation_L1,dge (by omega),cond_false]) N 0 (by omega) (by omega)
 have e:impl_IsValidVarRelation_L1 N N vs (vs.length:Int) rows vs (vs.length:Int) 0=some (bif (List.range' 0 (vs.length-0)).all (fun _=>true) then .inr (vs.length:Int) else .inl false):=h'
 rw [show (List.range' 0 (vs.length-0)).all (fun _=>true)=true by simp,cond_true] at e
 unfold impl_IsValidVarRelation
 rw [e,bs,lpSr,IsValidRelation_impl_eq hN (valid_ok h.val),bs,h.val,cond_true]
 simp
theorem vrelS (hN:1073741824≤N) {vs:List Int} {rows:RowL} (h:VRel vs rows):spec_IsValidVarRelation N vs (vs.length:Int) rows=some true:=by
 have hl:=h.len
 have h':=loopA (L:=fun k i=>spec_IsValidVarRelation_L1 N k vs (vs.length:Int) rows i) vs.length (by omega) false (fun _=>true) (vs.length:Int)
  (fun k i hi=>by
   have hb:=h.bd _ (List.getElem_mem hi)
   show spec_IsValidVarRelation_L1 N (k+1) vs (vs.length:Int) rows (i:Int)=_
   rw [spec_IsValidVarRelation_L1,dlt hi,cond_true,ix_nat hi,bs,l1In_eq,bs,inR_iff.2 (show 0≤vs[i]∧vs[i]≤4 by omega),cond_true,cond_true,ad1 (by omega)]
   cases i with
   | zero=>rfl
   | succ i =>
    have:=ascI_at h.asc (show i<i+1 by omega) hi
    rw [decide_eq_true (by omega),cond_true,bs,sb_ok (by omega) (by omega),bs,show (((i+1:Nat):Int)-1)=(i:Int) by omega,ix_nat (by omega),bs,decide_eq_false (by omega),cond_false,bs])
  (fun k=>by
   show spec_IsValidVarRelation_L1 N (k+1) vs (vs.length:Int) rows (vs.length:Int)=_
   rw [spec_IsValidVarRelation_L1,dge (by omega),cond_false]) N 0 (by omega) (by omega)
 have e:spec_IsValidVarRelation_L1 N N vs (vs.length:Int) rows 0=some (bif (List.range' 0 (vs.length-0)).all (fun _=>true) then .inr (vs.length:Int) else .inl false):=h'
 rw [show (List.range' 0 (vs.length-0)).all (fun _=>true)=true by simp,cond_true] at e
 unfold spec_IsValidVarRelation
 rw [e,bs,lpSr,IsValidRelation_spec_eq hN (valid_ok h.val),bs,h.val,cond_true]
 simp
theorem natI_L2 (hN:1073741824≤N) {va vb r:List Int} {ra rb rows b4 b6:RowL} {n m b5 b7 b8:Int} {b3:List Int} (hla:va.length≤1000) (B:VRel vb rb) (hr:r.length=va.length) (hrows:rows.length≤1073741824) :
  impl_NaturalJoin_L2 N N va n ra vb m rb b3 b5 b4 (uniV va vb) rows r b6 b7 b8 rb (rb.length:Int) 0=some (rows++joinR va vb rb r,(rb.length:Int)):=by
 have hlb:=B.len
 have hl:=(validRows_spec B.val).2.2.1
 have h:=loopI (fun k (o:RowL) i=>impl_NaturalJoin_L2 N k va n ra vb m rb b3 b5 b4 (uniV va vb) o r b6 b7 b8 rb (rb.length:Int) i) rb.length (fun j=>rows++rowT va r vb rb j) (rows++joinR va vb rb r,(rb.length:Int))
  (fun k i h=>by
   have hs:=(B.row (List.getElem_mem h)).1
   have hrl:=rowT_len va r vb rb i
   show impl_NaturalJoin_L2 N (k+1) va n ra vb m rb b3 b5 b4 (uniV va vb) (rows++rowT va r vb rb i) r b6 b7 b8 rb (rb.length:Int) (i:Int)=impl_NaturalJoin_L2 N k va n ra vb m rb b3 b5 b4 (uniV va vb) (rows++rowT va r vb rb (i+1)) r b6 b7 b8 rb (rb.length:Int) ((i+1:Nat):Int)
   rw [impl_NaturalJoin_L2,dlt h,cond_true,ix_nat h,bs,glue_eq hN hla (by omega) hr hs,bs,ad1 (by omega),rowT_succ h]
   cases agreeV va r vb rb[i] with
   | true =>
    rw [cond_true]
    show ((apd 24 _ [glueV va r vb rb[i]]).bind _)=_
    rw [apd_ok' (by decide) (by rw [List.length_append,List.length_singleton];omega),bs,bs,List.append_assoc,cond_true]
   | false=>rw [cond_false,cond_false];rfl)
  (fun k=>by
   show impl_NaturalJoin_L2 N (k+1) va n ra vb m rb b3 b5 b4 (uniV va vb) (rows++rowT va r vb rb rb.length) r b6 b7 b8 rb (rb.length:Int) (rb.length:Int)=_
   rw [impl_NaturalJoin_L2,dge (by omega),cond_false,rowT_all]) N 0 (by omega) (by omega)
 have h0:rows++rowT va r vb rb 0=rows:=by show rows++[]=rows;rw [List.append_nil]
 have h':impl_NaturalJoin_L2 N N va n ra vb m rb b3 b5 b4 (uniV va vb) (rows++rowT va r vb rb 0) r b6 b7 b8 rb (rb.length:Int) 0=_:=h
 rw [h0] at h'
 exact h'
theorem natI_L1 (hN:1073741824≤N) {va vb:List Int} {ra rb b4:RowL} {n m b5:Int} {b3:List Int} (A:VRel va ra) (B:VRel vb rb) :
  impl_NaturalJoin_L1 N N va n ra vb m rb b3 b5 b4 (uniV va vb) [] ra (ra.length:Int) 0=some (bif decide (((joinV va vb ra rb).length:Int)≤4000) then .inr (joinV va vb ra rb,(ra.length:Int)) else .inl (([],0,[]),false)):=by
 have hla:=A.len
 have hl:=(validRows_spec A.val).2.2.1
 have hlb:=(validRows_spec B.val).2.2.1
 have h:=loopAS (fun k (o:RowL) i=>impl_NaturalJoin_L1 N k va n ra vb m rb b3 b5 b4 (uniV va vb) o ra (ra.length:Int) i) ra.length (((([],0,[]):VR),false)) (fun i=>decide (((joinT va vb ra rb (i+1)).length:Int)≤4000)) (joinT va vb ra rb) (joinV va vb ra rb,(ra.length:Int))
  (fun k i h=>by
   have hr:=(A.row (List.getElem_mem h)).1
   have hjl:=joinT_len va vb ra rb i
   have hmul:=Nat.mul_le_mul (show i≤4000 by omega) hlb
   show impl_NaturalJoin_L1 N (k+1) va n ra vb m rb b3 b5 b4 (uniV va vb) (joinT va vb ra rb i) ra (ra.length:Int) (i:Int)=_
   rw [impl_NaturalJoin_L1,dlt h,cond_true,ix_nat h,bs,natI_L2 hN (by omega) B hr (by omega),bs,lpB,← joinT_succ h]
   show (bif decide ((4000:Int)<((joinT va vb ra rb (i+1)).length:Int)) then _ else _)=_
   by_cases e:((joinT va vb ra rb (i+1)).length:Int)≤4000
   ·rw [decide_eq_true e,cond_true,decide_eq_false (by omega),cond_false,ad1 (by omega),bs]
   ·rw [decide_eq_false e,cond_false,decide_eq_true (by omega),cond_true])
  (fun k=>by
   show impl_NaturalJoin_L1 N (k+1) va n ra vb m rb b3 b5 b4 (uniV va vb) (joinT va vb ra rb ra.length) ra (ra.length:Int) (ra.length:Int)=_
   rw [impl_NaturalJoin_L1,dge (by omega),cond_false]
   unfold joinT
   rw [List.take_length]) N 0 (by omega) (by omega)
 have hall:(List.range' 0 (ra.length-0)).all (fun i=>decide (((joinT va vb ra rb (i+1)).length:Int)≤4000))=decide (((joinV va vb ra rb).length:Int)≤4000):=by
  rw [Bool.eq_iff_iff,List.all_eq_true,decide_eq_true_eq]
  have hfull:joinT va vb ra rb ra.length=joinV va vb ra rb:=by unfold joinT;rw [List.take_length]
  constructor
  ·intro hh
   cases hra:ra.length with
   | zero =>
    have:ra=[]:=List.length_eq_zero_iff.1 hra
    subst this
    simp [joinV]
   | succ j =>
    have:=hh j (by simp;omega)
    rw [decide_eq_true_eq,← hra,hfull] at this
    exact this
  ·intro hh i hi
   have hi':i<ra.length:=by simpa using hi
   have:=joinT_mono (va:=va) (vb:=vb) (ra:=ra) (rb:=rb) (i:=i+1) (by omega)
   rw [decide_eq_true_eq];omega
 rw [hall] at h
 exact h
theorem joinV_okII {va vb:List Int} {ra rb:RowL} (A:VRel va ra) (B:VRel vb rb) (h16:ra.length*rb.length≤1048576):okII (joinV va vb ra rb):=by
 have hu:=uniV_len va vb
 exact ⟨Nat.le_trans (joinV_len va vb ra rb) h16,fun r hr=>⟨by have:=(joinV_row A B r hr).1;omega,fun _ _=>trivial⟩⟩
theorem NaturalJoin_impl_eq (hM:1073742848≤N) {va vb:List Int} {ra rb:RowL} (A:VRel va ra) (B:VRel vb rb) (h16:ra.length*rb.length≤1048576):impl_NaturalJoin N va (va.length:Int) ra vb (vb.length:Int) rb=some (natV va vb ra rb):=by
 have hok:=joinV_okII A B h16
 have hla:=A.len;have hlb:=B.len
 have hl:=hok.1
 unfold impl_NaturalJoin natV
 rw [vrelI (by omega) A,bs,cond_true,vrelI (by omega) B,bs,cond_true,unite_eq (by omega) A.asc A.bd B.bd (by omega) (by omega),bs,natI_L1 (by omega) A B,bs]
 cases decide (((joinV va vb ra rb).length:Int)≤4000) with
 | false=>rfl
 | true =>
  rw [cond_true,lpSr,cond_true]
  show ((impl_sorted N (joinV va vb ra rb)).bind _)=_
  rw [sorted_eq 20 N _ (by omega) (by omega) hok,bs]
theorem natS_L3 (hN:1073741824≤N) {va vb x y:List Int} {ra rb rows b3:RowL} {n m b4:Int} {b2:List Int} {i j:Nat} (A:VRel va ra) (B:VRel vb rb) (hi:i<ra.length) (hj:j<rb.length) :
  spec_NaturalJoin_L3 N N va n ra vb m rb b2 b4 b3 x y (uniV va vb) rows (i:Int) (j:Int) [] 0=some (glueV va ra[i] vb rb[j],((uniV va vb).length:Int)):=by
 have hul:=uniV_len va vb
 have hla:=A.len;have hlb:=B.len
 have hr:=(A.row (List.getElem_mem hi)).1
 have hs:=(B.row (List.getElem_mem hj)).1
 exact loopI (fun k (o:List Int) t=>spec_NaturalJoin_L3 N k va n ra vb m rb b2 b4 b3 x y (uniV va vb) rows (i:Int) (j:Int) o t) (uniV va vb).length (fun t=>((uniV va vb).take t).map (atV2 va ra[i] vb rb[j])) (glueV va ra[i] vb rb[j],((uniV va vb).length:Int))
  (fun k t h=>by
   have hm:=(uniV_mem.1 (List.getElem_mem h)).2
   show spec_NaturalJoin_L3 N (k+1) va n ra vb m rb b2 b4 b3 x y (uniV va vb) rows (i:Int) (j:Int) (((uniV va vb).take t).map (atV2 va ra[i] vb rb[j])) (t:Int)=spec_NaturalJoin_L3 N k va n ra vb m rb b2 b4 b3 x y (uniV va vb) rows (i:Int) (j:Int) (((uniV va vb).take (t+1)).map (atV2 va ra[i] vb rb[j])) ((t+1:Nat):Int)
   rw [spec_NaturalJoin_L3,dlt h,cond_true,ix_nat h,bs,l7Find_eq hN (by omega),bs,findI_nonneg,ad1 (by omega),List.take_succ_eq_append_getElem h,List.map_append,ix_nat hi,ix_nat hj]
   generalize (uniV va vb)[t]=v at hm
   by_cases h1:v∈va
   ·have e1:atV2 va ra[i] vb rb[j] v=ra[i].getD (findI va v).toNat 0:=by unfold atV2;rw [if_pos h1]
    rw [decide_eq_true h1,cond_true,bs,ixF h1 hr,bs,apd_ok' (by decide) (by simp;omega),bs,bs,← e1];rfl
   ·have h2:v∈vb:=hm.resolve_left h1
    have e1:atV2 va ra[i] vb rb[j] v=rb[j].getD (findI vb v).toNat 0:=by unfold atV2;rw [if_neg h1]
    rw [decide_eq_false h1,cond_false,bs,bs,l7Find_eq hN (by omega),bs,ixF h2 hs,bs,apd_ok' (by decide) (by simp;omega),bs,bs,← e1];rfl)
  (fun k=>by
   show spec_NaturalJoin_L3 N (k+1) va n ra vb m rb b2 b4 b3 x y (uniV va vb) rows (i:Int) (j:Int) (((uniV va vb).take (uniV va vb).length).map (atV2 va ra[i] vb rb[j])) ((uniV va vb).length:Int)=_
   rw [spec_NaturalJoin_L3,dge (by omega),cond_false,List.take_length];rfl) N 0 (by omega) (by omega)
theorem com_len (va vb:List Int):(comV va vb).length≤va.length:=List.length_filter_le _ _
theorem com_cols {va vb r:List Int} {w:List Int} (hw:∀ v∈comV va vb,v∈w) (hl:r.length=w.length):∀ c∈(comV va vb).map (findI w),0≤c∧c<r.length:=by
 intro c hc
 obtain ⟨v,hv,rfl⟩:=List.mem_map.1 hc
 obtain ⟨j,e,hj⟩:=findI_mem (hw v hv)
 omega
theorem pick_com (va vb w r:List Int):pickV r ((comV va vb).map (findI w))=(comV va vb).map fun v=>r.getD (findI w v).toNat 0:=by
 unfold pickV;rw [List.map_map];rfl
theorem natS_L2 (hN:1073741824≤N) {va vb:List Int} {ra rb rows b3:RowL} {n m b4:Int} {b2:List Int} {i:Nat} (A:VRel va ra) (B:VRel vb rb) (hi:i<ra.length) (hrows:rows.length≤1073741824) :
  spec_NaturalJoin_L2 N N va n ra vb m rb b2 b4 b3 ((comV va vb).map (findI va)) ((comV va vb).map (findI vb)) (uniV va vb) rows (i:Int) 0=some (rows++joinR va vb rb ra[i],(rb.length:Int)):=by
 have hl:=(validRows_spec B.val).2.2.1
 have hla:=A.len;have hlb:=B.len
 have hcl:=com_len va vb
 have hr:=(A.row (List.getElem_mem hi)).1
 have h:=loopI (fun k (o:RowL) j=>spec_NaturalJoin_L2 N k va n ra vb m rb b2 b4 b3 ((comV va vb).map (findI va)) ((comV va vb).map (findI vb)) (uniV va vb) o (i:Int) j) rb.length (fun j=>rows++rowT va ra[i] vb rb j) (rows++joinR va vb rb ra[i],(rb.length:Int))
  (fun k j h=>by
   have hs:=(B.row (List.getElem_mem h)).1
   have hrl:=rowT_len va ra[i] vb rb j
   show spec_NaturalJoin_L2 N (k+1) va n ra vb m rb b2 b4 b3 ((comV va vb).map (findI va)) ((comV va vb).map (findI vb)) (uniV va vb) (rows++rowT va ra[i] vb rb j) (i:Int) (j:Int)=spec_NaturalJoin_L2 N k va n ra vb m rb b2 b4 b3 ((comV va vb).map (findI va)) ((comV va vb).map (findI vb)) (uniV va vb) (rows++rowT va ra[i] vb rb (j+1)) (i:Int) ((j+1:Nat):Int)
   rw [spec_NaturalJoin_L2,dlt h,cond_true,ix_nat hi,bs,ix_nat h,bs,l5Cols_eq hN (by rw [List.length_map];omega) (com_cols (fun v hv=>(List.mem_filter.1 hv).1) hr),bs,l5Cols_eq hN (by rw [List.length_map];omega) (com_cols (fun v hv=>of_decide_eq_true (List.mem_filter.1 hv).2) hs),bs,CompareRows_spec_eq hN (by rw [pickV_len,List.length_map];omega) (by rw [pickV_len,List.length_map];omega),bs,cmpR_bne,pick_com,pick_com,← agree_com A.bd,ad1 (by omega),rowT_succ h]
   cases agreeV va ra[i] vb rb[j] with
   | true =>
    rw [Bool.not_true,cond_false,cond_true,natS_L3 hN A B hi h,bs,lpB]
    show ((apd 24 _ [glueV va ra[i] vb rb[j]]).bind _)=_
    rw [apd_ok' (by decide) (by rw [List.length_append,List.length_singleton];omega),bs,bs,List.append_assoc]
   | false=>rw [Bool.not_false,cond_true,cond_false,bs])
  (fun k=>by
   show spec_NaturalJoin_L2 N (k+1) va n ra vb m rb b2 b4 b3 ((comV va vb).map (findI va)) ((comV va vb).map (findI vb)) (uniV va vb) (rows++rowT va ra[i] vb rb rb.length) (i:Int) (rb.length:Int)=_
   rw [spec_NaturalJoin_L2,dge (by omega),cond_false,rowT_all]) N 0 (by omega) (by omega)
 have h0:rows++rowT va ra[i] vb rb 0=rows:=by show rows++[]=rows;rw [List.append_nil]
 have h':spec_NaturalJoin_L2 N N va n ra vb m rb b2 b4 b3 ((comV va vb).map (findI va)) ((comV va vb).map (findI vb)) (uniV va vb) (rows++rowT va ra[i] vb rb 0) (i:Int) 0=_:=h
 rw [h0] at h'
 exact h'
theorem natS_L1 (hN:1073741824≤N) {va vb:List Int} {ra rb b3:RowL} {n m b4:Int} {b2:List Int} (A:VRel va ra) (B:VRel vb rb) :
  spec_NaturalJoin_L1 N N va n ra vb m rb b2 b4 b3 ((comV va vb).map (findI va)) ((comV va vb).map (findI vb)) (uniV va vb) [] 0=some (joinV va vb ra rb,(ra.length:Int)):=by
 have hl:=(validRows_spec A.val).2.2.1
 have hlb:=(validRows_spec B.val).2.2.1
 exact loopI (fun k (o:RowL) i=>spec_NaturalJoin_L1 N k va n ra vb m rb b2 b4 b3 ((comV va vb).map (findI va)) ((comV va vb).map (findI vb)) (uniV va vb) o i) ra.length (joinT va vb ra rb) (joinV va vb ra rb,(ra.length:Int))
  (fun k i h=>by
   have hjl:=joinT_len va vb ra rb i
   have hmul:=Nat.mul_le_mul (show i≤4000 by omega) hlb
   show spec_NaturalJoin_L1 N (k+1) va n ra vb m rb b2 b4 b3 ((comV va vb).map (findI va)) ((comV va vb).map (findI vb)) (uniV va vb) (joinT va vb ra rb i) (i:Int)=spec_NaturalJoin_L1 N k va n ra vb m rb b2 b4 b3 ((comV va vb).map (findI va)) ((comV va vb).map (findI vb)) (uniV va vb) (joinT va vb ra rb (i+1)) ((i+1:Nat):Int)
   rw [spec_NaturalJoin_L1,dlt h,cond_true,natS_L2 hN A B h (by omega),bs,lpB,← joinT_succ h,ad1 (by omega)];rfl)
  (fun k=>by
   show spec_NaturalJoin_L1 N (k+1) va n ra vb m rb b2 b4 b3 ((comV va vb).map (findI va)) ((comV va vb).map (findI vb)) (uniV va vb) (joinT va vb ra rb ra.length) (ra.length:Int)=_
   rw [spec_NaturalJoin_L1,dge (by omega),cond_false]
   unfold joinT
   rw [List.take_length]) N 0 (by omega) (by omega)
theorem NaturalJoin_spec_eq (hM:1073742848≤N) {va vb:List Int} {ra rb:RowL} (A:VRel va ra) (B:VRel vb rb) (h16:ra.length*rb.length≤1048576):spec_NaturalJoin N va (va.length:Int) ra vb (vb.length:Int) rb=some (natV va vb ra rb):=by
 have hok:=joinV_okII A B h16
 have hla:=A.len;have hlb:=B.len
 have hul:=uniV_len va vb
 unfold spec_NaturalJoin natV
 rw [vrelS (by omega) A,bs,cond_true,vrelS (by omega) B,bs,cond_true,l11Both_eq (by omega) (ascI_nd A.asc) (by omega) (by omega),bs,l11Vars_eq (by omega) (by omega) (by omega),bs,natS_L1 (by omega) A B,bs,lpB]
 show ((spec_NewRelation N ((uniV va vb).length:Int) (joinV va vb ra rb)).bind _)=_
 rw [NewRelation_spec_eq hM hok,bs,newRelV_nodup (by omega) (joinV_row A B) (joinV_nodup A B)]
 cases decide (((joinV va vb ra rb).length:Int)≤4000) <;> rfl
end
end Go.Proofs.Ytkpeabpdiffjhaa
namespace Go.Proofs.Ytkpeabpdiffjhaa
open Go.RowKit

def atomR (ts:List DTable) (a:QAtom):RowL:=sortV 20 (bindRows a.2 (lookV ts a.1).1.2)
def pjV (ts:List DTable):List QAtom→List Int→RowL→Int→Option (List Int × RowL × Int)
 | [],vs,rows,c=>some (vs,rows,c)
 | a :: ats,vs,rows,c=>bif decide (((joinV vs (varsV a.2) rows (atomR ts a)).length:Int)≤4000) then pjV ts ats (uniV vs (varsV a.2)) (sortV 20 (joinV vs (varsV a.2) rows (atomR ts a))) (c+((sortV 20 (joinV vs (varsV a.2) rows (atomR ts a))).length:Int)) else none
abbrev JoinR3:=(Int × RowL) × Int × Bool
def noPair:JoinR3:=((0,[]),0,false)
def endPair (out:List Int) (o:Option (List Int × RowL × Int)):JoinR3:=match o with | none=>noPair | some w=>((projV (w.1.length:Int) w.2.1 out).1,w.2.2,(projV (w.1.length:Int) w.2.1 out).2)
def headA (atoms:List QAtom):QAtom:=atoms.getD 0 (ByteArray.empty,[])
def pairV (ts:List DTable) (n:Int) (atoms:List QAtom) (out:List Int):JoinR3 :=
 bif queryFor ts n atoms out then endPair out (pjV ts (atoms.drop 1) (varsV (headA atoms).2) (atomR ts (headA atoms)) ((atomR ts (headA atoms)).length:Int)) else noPair
def pjS (l:Nat) (o:Option (List Int × RowL × Int)):Sum JoinR3 (List Int × Int × RowL × Int × Int):=match o with | none=>.inl noPair | some w=>.inr (w.1,(w.1.length:Int),w.2.1,w.2.2,(l:Int))
theorem varsV_asc (xs:List Int):ascI (varsV xs):=List.Pairwise.filter _ (ordV_asc 5)
theorem ordV_set (n:Nat):isSetB (ordV n) (n:Int)=true:=isSetB_of (ordV_nodup n) fun x hx=>by have:=mem_ordV.1 hx;omega
structure QPair (ts:List DTable) (atoms:List QAtom):Prop where
 a1:1≤atoms.length
 a4:atoms.length≤4
 al:∀ a∈atoms,a.2.length≤5∧∀ v∈a.2,0≤v∧v<5
 rel:∀ a∈atoms,bindV ts a.1 a.2=(((varsV a.2).length:Int),atomR ts a)∧VRel (varsV a.2) (atomR ts a)∧(atomR ts a).length≤16
theorem QPair_of {ts:List DTable} {n:Int} {atoms:List QAtom} {out:List Int} (h:queryFor ts n atoms out=true):QPair ts atoms:=by
 have hq:=h
 unfold queryFor at hq
 rw [Bool.and_eq_true] at hq
 obtain ⟨n1,n5,_,_⟩:=queryOk_n hq.1
 obtain ⟨m,e,q⟩:=QFor_of h (order:=ordV n.toNat) (by rw [ordV_len];omega) (by have:=ordV_set n.toNat;rwa [show ((n.toNat:Nat):Int)=n by omega] at this)
 have q5:=q.n5
 refine ⟨q.a1,q.a4,fun a ha=>?_,fun a ha=>?_⟩
 ·obtain ⟨h1,_,h3⟩:=q.al a ha
  exact ⟨h1,fun v hv=>by have:=h3 v hv;omega⟩
 ·obtain ⟨g1,_,_,_,g5⟩:=trieA_ok q ha
  refine ⟨g1,⟨varsV_asc a.2,fun v hv=>by have:=(mem_varsV.1 hv).1;omega,g5⟩,?_⟩
  have h1:=sortV_len 20 (bindRows a.2 (lookV ts a.1).1.2)
  have h2:=bindRows_len a.2 (lookV ts a.1).1.2
  have h3:=lookV_16 (q.af a ha).1
  unfold atomR;omega
section
variable {N:Nat}
theorem AtomRelation_impl_eq (hM:1073742848≤N) {ts:List DTable} {atoms:List QAtom} (q:QPair ts atoms) (ht:okDb ts) (ha:okAtoms atoms) {a:QAtom} (hm:a∈atoms):impl_AtomRelation N ts a.1 a.2=some (varsV a.2,(((varsV a.2).length:Int),atomR ts a)):=by
 obtain ⟨l1,l2⟩:=q.al a hm
 have hk:okI a.2:=(ha.2 a hm).2
 unfold impl_AtomRelation
 rw [AtomVariables_impl_eq (by omega) hk,bs,AtomBindings_impl_eq hM ht hk l1 l2,bs,(q.rel a hm).1]
theorem AtomRelation_spec_eq (hM:1073742848≤N) {ts:List DTable} {atoms:List QAtom} (q:QPair ts atoms) (ht:okDb ts) (ha:okAtoms atoms) {a:QAtom} (hm:a∈atoms):spec_AtomRelation N ts a.1 a.2=some (varsV a.2,(((varsV a.2).length:Int),atomR ts a)):=by
 obtain ⟨l1,l2⟩:=q.al a hm
 have hk:okI a.2:=(ha.2 a hm).2
 unfold spec_AtomRelation
 rw [AtomVariables_spec_eq (by omega) hk,bs,AtomBindings_spec_eq hM ht hk l1 l2,bs,(q.rel a hm).1]
theorem pjI_L1 (hM:1073742848≤N) {ts:List DTable} {n b1:Int} {atoms ats:List QAtom} {out:List Int} {b2:RowL} (q:QPair ts atoms) (ht:okDb ts) (ha:okAtoms atoms) (hsub:∀ a∈ats,a∈atoms):∀ (m i k:Nat) (vs:List Int) (rows:RowL) (c:Int),i+m=ats.length→m<k→VRel vs rows→0≤c→c+4000*(m:Int)≤1000000000→ats.length≤1000 →
  impl_PairwiseJoin_L1 N k ts n atoms out b1 b2 vs (vs.length:Int) rows c ats (ats.length:Int) (i:Int)=some (pjS ats.length (pjV ts (ats.drop i) vs rows c)):=by
 intro m
 induction m with
 | zero =>
  intro i k vs rows c hi hk A h0 h1 hl
  obtain ⟨k,rfl⟩:∃ g,k=g+1:=⟨k-1,by omega⟩
  rw [impl_PairwiseJoin_L1,dge (by omega),cond_false,List.drop_of_length_le (by omega)]
  have:i=ats.length:=by omega
  subst this;rfl
 | succ m ih =>
  intro i k vs rows c hi hk A h0 h1 hl
  obtain ⟨k,rfl⟩:∃ g,k=g+1:=⟨k-1,by omega⟩
  have hlt:i<ats.length:=by omega
  have hm:=hsub _ (List.getElem_mem hlt)
  obtain ⟨_,B,h16⟩:=q.rel _ hm
  have hrl:=(validRows_spec A.val).2.2.1
  have hmul:=Nat.mul_le_mul hrl h16
  rw [impl_PairwiseJoin_L1,dlt hlt,cond_true,ix_nat hlt,bs,AtomRelation_impl_eq hM q ht ha hm,bs,NaturalJoin_impl_eq hM A B (by omega),bs,drop_cons hlt,pjV]
  unfold natV
  by_cases e:((joinV vs (varsV ats[i].2) rows (atomR ts ats[i])).length:Int)≤4000
  ·have hs:=sortV_len 20 (joinV vs (varsV ats[i].2) rows (atomR ts ats[i]))
   rw [decide_eq_true e,cond_true,cond_true]
   show (bif true then (ad c ((sortV 20 (joinV vs (varsV ats[i].2) rows (atomR ts ats[i]))).length:Int)).bind fun x401=>(ad (i:Int) 1).bind fun x402=>impl_PairwiseJoin_L1 N k ts n atoms out b1 b2 (uniV vs (varsV ats[i].2)) ((uniV vs (varsV ats[i].2)).length:Int) (sortV 20 (joinV vs (varsV ats[i].2) rows (atomR ts ats[i]))) x401 ats (ats.length:Int) x402 else some (.inl noPair))=_
   rw [cond_true,ad_ok (by omega) (by omega),bs,ad1 (by omega),bs]
   exact ih (i+1) k _ _ _ (by omega) (by omega) (joinV_ok A B (by omega)) (by omega) (by omega) hl
  ·rw [decide_eq_false e,cond_false,cond_false];rfl
theorem pjS_L1 (hM:1073742848≤N) {ts:List DTable} {n b1:Int} {atoms:List QAtom} {out:List Int} {b2:RowL} (q:QPair ts atoms) (ht:okDb ts) (ha:okAtoms atoms):∀ (m i k:Nat) (vs:List Int) (rows:RowL) (c:Int),i+m=atoms.length→m<k→VRel vs rows→0≤c→c+4000*(m:Int)≤1000000000→atoms.length≤1000 →
  spec_PairwiseJoin_L1 N k ts n atoms out b1 b2 vs (vs.length:Int) rows c (i:Int)=some (pjS atoms.length (pjV ts (atoms.drop i) vs rows c)):=by
 intro m
 induction m with
 | zero =>
  intro i k vs rows c hi hk A h0 h1 hl
  obtain ⟨k,rfl⟩:∃ g,k=g+1:=⟨k-1,by omega⟩
  rw [spec_PairwiseJoin_L1,dge (by omega),cond_false,List.drop_of_length_le (by omega)]
  have:i=atoms.length:=by omega
  subst this;rfl
 | succ m ih =>
  intro i k vs rows c hi hk A h0 h1 hl
  obtain ⟨k,rfl⟩:∃ g,k=g+1:=⟨k-1,by omega⟩
  have hlt:i<atoms.length:=by omega
  have hm:=List.getElem_mem hlt
  obtain ⟨_,B,h16⟩:=q.rel _ hm
  have hrl:=(validRows_spec A.val).2.2.1
  have hmul:=Nat.mul_le_mul hrl h16
  rw [spec_PairwiseJoin_L1,dlt hlt,cond_true,ix_nat hlt,bs,AtomRelation_spec_eq hM q ht ha hm,bs,NaturalJoin_spec_eq hM A B (by omega),bs,drop_cons hlt,pjV]
  unfold natV
  by_cases e:((joinV vs (varsV atoms[i].2) rows (atomR ts atoms[i])).length:Int)≤4000
  ·have hs:=sortV_len 20 (joinV vs (varsV atoms[i].2) rows (atomR ts atoms[i]))
   rw [decide_eq_true e,cond_true,cond_true]
   show (bif true then (ad c ((sortV 20 (joinV vs (varsV atoms[i].2) rows (atomR ts atoms[i]))).length:Int)).bind fun x401=>(ad (i:Int) 1).bind fun x402=>spec_PairwiseJoin_L1 N k ts n atoms out b1 b2 (uniV vs (varsV atoms[i].2)) ((uniV vs (varsV atoms[i].2)).length:Int) (sortV 20 (joinV vs (varsV atoms[i].2) rows (atomR ts atoms[i]))) x401 x402 else some (.inl noPair))=_
   rw [cond_true,ad_ok (by omega) (by omega),bs,ad1 (by omega),bs]
   exact ih (i+1) k _ _ _ (by omega) (by omega) (joinV_ok A B (by omega)) (by omega) (by omega) hl
  ·rw [decide_eq_false e,cond_false,cond_false];rfl
theorem pjV_rel {ts:List DTable} {atoms:List QAtom} (q:QPair ts atoms):∀ {ats:List QAtom} {vs:List Int} {rows:RowL} {c:Int} {w:List Int × RowL × Int},(∀ a∈ats,a∈atoms)→VRel vs rows→pjV ts ats vs rows c=some w→VRel w.1 w.2.1
 | [],_,_,_,_,_,A,h=>by cases h;exact A
 | a :: ats,vs,rows,c,w,hs,A,h=>by
  obtain ⟨_,B,_⟩:=q.rel a (hs a List.mem_cons_self)
  rw [pjV] at h
  by_cases e:((joinV vs (varsV a.2) rows (atomR ts a)).length:Int)≤4000
  ·rw [decide_eq_true e,cond_true] at h
   exact pjV_rel q (fun x hx=>hs x (List.mem_cons_of_mem _ hx)) (joinV_ok A B (by omega)) h
  ·rw [decide_eq_false e,cond_false] at h;cases h
theorem pairV_ok {ts:List DTable} {n:Int} {atoms:List QAtom} {out:List Int} (ho:okI out):okII (pairV ts n atoms out).1.2:=by
 unfold pairV
 cases h:queryFor ts n atoms out with
 | false=>exact ⟨by simp [noPair],by simp [noPair]⟩
 | true =>
  have q:=QPair_of h
  have h1:=q.a1
  rw [cond_true]
  unfold endPair
  have hm:headA atoms∈atoms:=by unfold headA;simp [show 0<atoms.length by omega]
  cases hp:pjV ts (atoms.drop 1) (varsV (headA atoms).2) (atomR ts (headA atoms)) ((atomR ts (headA atoms)).length:Int) with
  | none=>exact ⟨by simp [noPair],by simp [noPair]⟩
  | some w =>
   have A:=pjV_rel q (fun a ha=>List.mem_of_mem_drop ha) (q.rel _ hm).2.1 hp
   show okII (projV (w.1.length:Int) w.2.1 out).1.2
   unfold projV
   cases validRows (w.1.length:Int) w.2.1&&(decide ((out.length:Int)≤5)&&colsFit (w.1.length:Int) out)
   ·exact ⟨by simp [noRel],by simp [noRel]⟩
   ·refine newRelV_ok ⟨by rw [List.length_map];have:=(validRows_spec A.val).2.2.1;omega,fun r hr=>?_⟩
    obtain ⟨x,_,rfl⟩:=List.mem_map.1 hr
    exact ⟨by rw [pickV_len];exact ho.1,fun _ _=>trivial⟩
theorem PairwiseJoin_impl_eq (hM:1073742848≤N) {ts:List DTable} {n:Int} {atoms:List QAtom} {out:List Int} (ht:okDb ts) (ha:okAtoms atoms) (ho:okI out):impl_PairwiseJoin N ts n atoms out=some (pairV ts n atoms out):=by
 unfold impl_PairwiseJoin pairV
 rw [IsQueryFor_impl_eq (by omega) ht ha ho,bs]
 cases h:queryFor ts n atoms out with
 | false=>rfl
 | true =>
  have q:=QPair_of h
  have h1:=q.a1;have h4:=q.a4
  have hm:headA atoms∈atoms:=by unfold headA;simp [show 0<atoms.length by omega]
  have h0:ix atoms 0=some (headA atoms):=by
   have:=ix_nat (xs:=atoms) (i:=0) (by omega)
   rw [show ((0:Nat):Int)=0 from rfl] at this
   rw [this];unfold headA;simp [show 0<atoms.length by omega]
  obtain ⟨_,A,a16⟩:=q.rel _ hm
  rw [cond_true,cond_true,h0,bs,AtomRelation_impl_eq hM q ht ha hm,bs,show (1:Int)=((1:Nat):Int) from rfl,slc_ok (by omega) (Nat.le_refl _),bs,List.take_length]
  have hdl:(atoms.drop 1).length≤3:=by rw [List.length_drop];omega
  have hl:=pjI_L1 (n:=n) (b1:=0) (out:=out) (b2:=[]) (ats:=atoms.drop 1) hM q ht ha (fun a ha=>List.mem_of_mem_drop ha) (atoms.drop 1).length 0 N (varsV (headA atoms).2) (atomR ts (headA atoms)) ((atomR ts (headA atoms)).length:Int) (by omega) (by omega) A (by omega) (by omega) (by omega)
  rw [List.drop_zero] at hl
  have hl':impl_PairwiseJoin_L1 N N ts n atoms out 0 [] (varsV (headA atoms).2) ((varsV (headA atoms).2).length:Int) (atomR ts (headA atoms)) ((atomR ts (headA atoms)).length:Int) (atoms.drop 1) ((atoms.drop 1).length:Int) 0=_:=hl
  show ((impl_PairwiseJoin_L1 N N ts n atoms out 0 [] (varsV (headA atoms).2) ((varsV (headA atoms).2).length:Int) (atomR ts (headA atoms)) ((atomR ts (headA atoms)).length:Int) (atoms.drop 1) ((atoms.drop 1).length:Int) 0).bind _)=_
  rw [hl',bs]
  cases hp:pjV ts (atoms.drop 1) (varsV (headA atoms).2) (atomR ts (headA atoms)) ((atomR ts (headA atoms)).length:Int) with
  | none=>rfl
  | some w =>
   have B:=pjV_rel q (fun a ha=>List.mem_of_mem_drop ha) A hp
   show ((impl_Project N (w.1.length:Int) w.2.1 out).bind _)=_
   rw [Project_impl_eq hM (valid_ok B.val) ho.1,bs];rfl
theorem PairwiseJoin_spec_eq (hM:1073742848≤N) {ts:List DTable} {n:Int} {atoms:List QAtom} {out:List Int} (ht:okDb ts) (ha:okAtoms atoms) (ho:okI out):spec_PairwiseJoin N ts n atoms out=some (pairV ts n atoms out):=by
 unfold spec_PairwiseJoin pairV
 rw [IsQueryFor_spec_eq (by omega) ht ha ho,bs]
 cases h:queryFor ts n atoms out with
 | false=>rfl
 | true =>
  have q:=QPair_of h
  have h1:=q.a1;have h4:=q.a4
  have hm:headA atoms∈atoms:=by unfold headA;simp [show 0<atoms.length by omega]
  have h0:ix atoms 0=some (headA atoms):=by
   have:=ix_nat (xs:=atoms) (i:=0) (by omega)
   rw [show ((0:Nat):Int)=0 from rfl] at this
   rw [this];unfold headA;simp [show 0<atoms.length by omega]
  obtain ⟨_,A,a16⟩:=q.rel _ hm
  rw [cond_true,cond_true,h0,bs,AtomRelation_spec_eq hM q ht ha hm,bs]
  have hl:=pjS_L1 (n:=n) (b1:=0) (out:=out) (b2:=[]) hM q ht ha (atoms.length-1) 1 N (varsV (headA atoms).2) (atomR ts (headA atoms)) ((atomR ts (headA atoms)).length:Int) (by omega) (by omega) A (by omega) (by omega) (by omega)
  have hl':spec_PairwiseJoin_L1 N N ts n atoms out 0 [] (varsV (headA atoms).2) ((varsV (headA atoms).2).length:Int) (atomR ts (headA atoms)) ((atomR ts (headA atoms)).length:Int) 1=_:=hl
  show ((spec_PairwiseJoin_L1 N N ts n atoms out 0 [] (varsV (headA atoms).2) ((varsV (headA atoms).2).length:Int) (atomR ts (headA atoms)) ((atomR ts (headA atoms)).length:Int) 1).bind _)=_
  rw [hl',bs]
  cases hp:pjV ts (atoms.drop 1) (varsV (headA atoms).2) (atomR ts (headA atoms)) ((atomR ts (headA atoms)).length:Int) with
  | none=>rfl
  | some w =>
   have B:=pjV_rel q (fun a ha=>List.mem_of_mem_drop ha) A hp
   have hbl:=B.len
   show ((spec_Project N (w.1.length:Int) w.2.1 out).bind _)=_
   rw [Project_spec_eq hM (valid_ok B.val) ho.1 (by omega),bs];rfl
end
end Go.Proofs.Ytkpeabpdiffjhaa
namespace Go.Proofs.Ytkpeabpdiffjhaa
open Go.RowKit
theorem law_FnExactPairwiseJoin {N:Nat} (hM:1073742848≤N) {x0:List (ByteArray × (Int × List (List Int)))} (hb0:(fun x=>(AllL (fun x=>(fun s=>s.size≤9223372036854775807) x.1∧(fun x=>(AllL (AllL (fun _=>True) 9223372036854775807) 9223372036854775807) x.2) x.2) 9223372036854775807) x) x0) {x1:Int × List (ByteArray × List Int) × List Int} (hb1:(fun x=>(AllL (fun x=>(fun s=>s.size≤9223372036854775807) x.1∧(AllL (fun _=>True) 9223372036854775807) x.2) 9223372036854775807) x.2.1∧(AllL (fun _=>True) 9223372036854775807) x.2.2) x1):laws_FnExactPairwiseJoin N x0 x1.1 x1.2.1 x1.2.2=some true:=by
 have hN:1073741824≤N:=by omega
 unfold laws_FnExactPairwiseJoin
 obtain ⟨r0,e0,k0⟩:=sz_Database hN hb0 (l:=1048576) (by omega) (by omega)
 rw [e0,bs]
 by_cases hr0:r0<0
 ·rw [decide_eq_true hr0];rfl
 rw [decide_eq_false hr0,cond_false]
 obtain ⟨o0,m0⟩:=k0 (by omega)
 obtain ⟨r1,e1,k1⟩:=sz_Query hN hb1 (l:=r0) (by omega) (by omega)
 rw [e1,bs]
 by_cases hr1:r1<0
 ·rw [decide_eq_true hr1];rfl
 rw [decide_eq_false hr1,cond_false]
 obtain ⟨o1,m1⟩:=k1 (by omega)
 have hspec:=PairwiseJoin_spec_eq (n:=x1.1) hM o0 o1.1 o1.2
 have himpl:=PairwiseJoin_impl_eq (n:=x1.1) hM o0 o1.1 o1.2
 obtain ⟨m0,me0,ma0,mb0⟩:=mk_Database hN o0 (k:=1) (by omega) (by omega)
 obtain ⟨m1,me1,ma1,mb1⟩:=mk_Query hN o1 (k:=m0.1) (by omega) (by omega)
 have hok0:=pairV_ok (ts:=x0) (n:=x1.1) (atoms:=x1.2.1) o1.2
 obtain ⟨q0,qe0,qa0,qb0,qd0⟩:=mk_Relation (x:=(pairV x0 x1.1 x1.2.1 x1.2.2).1) hN hok0 (k:=1) (by omega) (by omega)
 simp only [to_Database hN o0,eq_Database hN o0 o0,to_Query hN o1,eq_Query hN o1 o1,eq_Relation (x:=(pairV x0 x1.1 x1.2.1 x1.2.2).1) (y:=(pairV x0 x1.1 x1.2.1 x1.2.2).1) hN hok0 hok0,me0,me1,qe0,qd0,decide_eq_false (by omega:¬ m0.1<0),decide_eq_false (by omega:¬ m1.1<0),decide_eq_false (by omega:¬ q0.1<0),bs,hspec,himpl,bne_self_eq_false,cond_false,cond_true,decide_true,eqS_dec]
end Go.Proofs.Ytkpeabpdiffjhaa
namespace Go.Proofs.Ytkpeabpdiffjhaa
open Go.RowKit
section
variable {P:Program} {n:Nat} {Q Q':Exit→Env→World→Prop} {K:Env→World→Prop} {KQ:Env→Prop} {e:Env} {w w0:World} {c y:Code} {x:Exit} {ops:Array Oper} {rest:List Oper}
variable {d:Nat} {op:Op} {ty:TypeId} {pos:String} {af:Array Edge} {o z1 z2 z3:Operand} {v:Value} {q1:Oper}
theorem dt {p:Prop} [Decidable p] (h:decide p=true):p:=of_decide_eq_true h
theorem sg (h:∀ Q':Exit→Env→World→Prop,(∀ x e w,thn (fun e w=>CW P n y Q e w) Q x e w→Q' x e w)→CW P n c Q' e w):CW P n (.seq c y) Q e w:=cw_seq (cw_gen h)
theorem sR {id:Nat} {l:List Oper} (h:∀ Q':Exit→Env→World→Prop,(∀ x e w,thn (fun e w=>CW P n y Q e w) Q x e w→Q' x e w)→EL P n l.toArray (fun e w=>Q' .normal e w) l e w):CW P n (.seq (.region id l.toArray false) y) Q e w:=cw_seq (cw_gen fun Q' q=>cw_reg (h Q' q))
theorem gn (h:∀ Q':Exit→Env→World→Prop,(∀ x e w,Q x e w→Q' x e w)→CW P n c Q' e w):CW P n c Q e w:=cw_gen h
theorem bg {i:Nat} (h:∀ Q':Exit→Env→World→Prop,(∀ x e w,inb i Q x e w→Q' x e w)→CW P n c Q' e w):CW P n (.block i c) Q e w:=cw_block (cw_gen h)
theorem hq {f:Exit→Env→World→Prop} (h:∀ x e w,f x e w→Q' x e w) (k:f x e w):Q' x e w:=h _ _ _ k
theorem tn (h:∀ x e w,thn K Q x e w→Q' x e w) (k:K e w):Q' .normal e w:=h _ _ _ k
theorem tr (h:∀ x e w,thn K Q x e w→Q' x e w) (k:Q .ret e w):Q' .ret e w:=h _ _ _ k
theorem tx {i:Nat} (h:∀ x e w,thn K Q x e w→Q' x e w) (k:Q (.exit i) e w):Q' (.exit i) e w:=h _ _ _ k
theorem bn {i:Nat} (h:∀ x e w,inb i Q x e w→Q' x e w) (k:Q .normal e w):Q' .normal e w:=h _ _ _ k
theorem br {i:Nat} (h:∀ x e w,inb i Q x e w→Q' x e w) (k:Q .ret e w):Q' .ret e w:=h _ _ _ k
theorem bS {i:Nat} (h:∀ x e w,inb i Q x e w→Q' x e w) (k:Q .normal e w):Q' (.exit i) e w:=h _ _ _ (inb_s k)
theorem en (h:∀ x e w,thn K Q x e w→Q' x e w) (k:K e w):EL P n ops (fun e w=>Q' .normal e w) [] e w:=el_nil (h _ _ _ k)
theorem sn (h:∀ x e w,thn K Q x e w→Q' x e w) (k:K e w):CW P n .skip Q' e w:=cw_skip (h _ _ _ k)
theorem pa (v:Value) (hK:EL P n ops K rest (upd e d v) w) (hx:ev e o=v:=by exact rfl) (hd:d<n:=by decide):EL P n ops K (⟨some d,.assign o,ty,pos,af,none⟩ :: rest) e w:=el_pv (pv_assign hx) hd hK
theorem pm (v:Value) (hK:EL P n ops K rest (upd e d v) w) (hx:ev e o=v:=by exact rfl) (hd:d<n:=by decide):EL P n ops K (⟨some d,.move o,ty,pos,af,none⟩ :: rest) e w:=el_pv (pv_move hx) hd hK
theorem pM (v:Value) (hx:ev e o=v) (hK:EL P n ops K rest (upd e d v) w) (hd:d<n:=by decide):EL P n ops K (⟨some d,.move o,ty,pos,af,none⟩ :: rest) e w:=el_pv (pv_move hx) hd hK
theorem pe (v:Value) (hp:PV P ⟨some d,op,ty,pos,af,none⟩ e w v) (hK:EL P n ops K rest (upd e d v) w) (hd:d<n:=by decide):EL P n ops K (⟨some d,op,ty,pos,af,none⟩ :: rest) e w:=el_pv hp hd hK
theorem qe (v:Value) (hp:PV P ⟨some d,op,ty,pos,af,none⟩ e w v) (hK:QL P n ops w KQ rest (upd e d v)) (hd:d<n:=by decide):QL P n ops w KQ (⟨some d,op,ty,pos,af,none⟩ :: rest) e:=ql_pv hp hd hK
theorem qm (v:Value) (hK:QL P n ops w KQ rest (upd e d v)) (hx:ev e o=v:=by exact rfl) (hd:d<n:=by decide):QL P n ops w KQ (⟨some d,.move o,ty,pos,af,none⟩ :: rest) e:=ql_pv (pv_move hx) hd hK
theorem qM (v:Value) (hx:ev e o=v) (hK:QL P n ops w KQ rest (upd e d v)) (hd:d<n:=by decide):QL P n ops w KQ (⟨some d,.move o,ty,pos,af,none⟩ :: rest) e:=ql_pv (pv_move hx) hd hK
theorem eo {j:Nat} {b b' c:Bool} (hc:c=b) (hK:EL P n ops K rest (upd e d undef) w) (h:yld ops e j=some c:=by exact rfl) (hb:(b == b')=false:=by exact rfl) (hd:d<n:=by decide):EL P n ops K (⟨some d,op,ty,pos,af,some (j,b')⟩ :: rest) e w:=el_off h hc hb hd hK
theorem qo {j:Nat} {b b' c:Bool} (hc:c=b) (hK:QL P n ops w KQ rest (upd e d undef)) (h:yld ops e j=some c:=by exact rfl) (hb:(b == b')=false:=by exact rfl) (hd:d<n:=by decide):QL P n ops w KQ (⟨some d,op,ty,pos,af,some (j,b')⟩ :: rest) e:=ql_off h hc hb hd hK
theorem ei {j:Nat} {b c:Bool} {dst:Option Nat} (hc:c=b) (hK:EL P n ops K (⟨dst,op,ty,pos,af,none⟩ :: rest) e w) (h:yld ops e j=some c:=by exact rfl):EL P n ops K (⟨dst,op,ty,pos,af,some (j,b)⟩ :: rest) e w:=el_on h hc hK
theorem qi {j:Nat} {b c:Bool} {dst:Option Nat} (hc:c=b) (hK:QL P n ops w KQ (⟨dst,op,ty,pos,af,none⟩ :: rest) e) (h:yld ops e j=some c:=by exact rfl):QL P n ops w KQ (⟨dst,op,ty,pos,af,some (j,b)⟩ :: rest) e:=ql_on h hc hK
theorem ct {b:Bool} (hb:b=true) (h:CW P n c Q e w) (hc:ev e o=.bool b:=by exact rfl):CW P n (.cond o c y) Q e w:=cw_cond_t hc hb h
theorem cf {b:Bool} (hb:b=false) (h:CW P n y Q e w) (hc:ev e o=.bool b:=by exact rfl):CW P n (.cond o c y) Q e w:=cw_cond_f hc hb h
theorem rB {a b:Bool} {Γ:List Asn} (h:some a=some b) (hS:Sat w0 w Γ):Ending.returned (.bool a)=.returned (.bool b)∧Ext w0 w:=⟨by rw [Option.some.inj h],hS.below⟩
theorem rI {a b:Int} {Γ:List Asn} (h:some a=some b) (hS:Sat w0 w Γ):Ending.returned (.int .i64 a)=.returned (.int .i64 b)∧Ext w0 w:=⟨by rw [Option.some.inj h],hS.below⟩
abbrev i_ (x:Int):Value:=.int .i64 x
abbrev n_:Value:=.slice none 0 0
theorem ec0 {f:FuncId} {args:Array Operand} {tys:Array TypeId} {vals:Array Value} {Γ:List Asn} (hg:Goes P f) (hc:Calls P f vals w fun x w'=>x=.returned v∧Ext w w') (hv:(args.toList.map (ev e)).toArray=vals) (S:Sat w0 w Γ)
  (hK:∀ w',Ext w w'→Sat w0 w' Γ→EL P n ops K rest (upd e d v) w') (hd:d<n:=by decide):EL P n ops K (⟨some d,.call ⟨.value (.func f),args,tys⟩,ty,pos,af,none⟩ :: rest) e w :=
 el_call hg hc hv hd (by rintro _ w' ⟨rfl,hx⟩;exact ⟨_,rfl,hK w' hx (S.ext hx)⟩)
theorem ec1 {f:FuncId} {args:Array Operand} {tys:Array TypeId} {vals:Array Value} {Γ:List Asn} {G:Value→Value} {A:Value→Asn} (hg:Goes P f) (hc:Calls P f vals w fun x w'=>∃ v,x=.returned (G v)∧Sat w w' [A v]) (hv:(args.toList.map (ev e)).toArray=vals) (S:Sat w0 w Γ)
  (hK:∀ w' v,Ext w w'→Sat w0 w' (A v :: Γ)→EL P n ops K rest (upd e d (G v)) w') (hd:d<n:=by decide):EL P n ops K (⟨some d,.call ⟨.value (.func f),args,tys⟩,ty,pos,af,none⟩ :: rest) e w :=
 el_call hg hc hv hd (by rintro _ w' ⟨v,rfl,S'⟩;exact ⟨_,rfl,hK w' v S'.below (S.call1 S')⟩)
theorem aO {X:List Nat} {C:World→Prop} (i:Nat) {f:Nat} {L:Array Bool} (ho:ops[i]? = some q1)
  (h:EL P n ops (fun e' w'=>(X.contains i=true→C w')∧AL P n ops X C K f (L.setIfInBounds i true) e' w') [q1] e w) (hr:Region.ready .any ops L=[i]:=by kernel_rfl):AL P n ops X C K (f+1) L e w:=al_one i hr ho h
theorem aP {X:List Nat} {C:World→Prop} (v:Value) (i:Nat) {f:Nat} {L:Array Bool} (hi:ops[i]? = some q1) (hdst:q1.dst=some d) (hC:C w)
  (hy:SV P n ops C q1 e v) (hK:AL P n ops X C K f (L.setIfInBounds i true) (upd e d v) w) (hsel:noSel ops=true:=by kernel_rfl) (hdn:d<n:=by decide) (hf:free ops X L i q1=true:=by kernel_rfl) (hr:(Region.ready .any ops L).contains i=true:=by kernel_rfl):AL P n ops X C K (f+1) L e w:=al_p hsel i hi hdst hdn hC hf hr hy hK
theorem ca {α β:Type} {f:α→β} {l:List α} {m:List β} (h:l.map f=m):(l.map f).toArray=m.toArray:=congrArg List.toArray h
end
end Go.Proofs.Ytkpeabpdiffjhaa
namespace Go.Proofs.Ytkpeabpdiffjhaa
open Go.RowKit
abbrev R0_:=sliceR intR 3
abbrev R1_:=tailR R0_ 23
abbrev R2_:=sliceR R0_ 23
abbrev R3_:=pairR strR R0_
abbrev R4_:=sliceR R3_ 96
abbrev R5_:=pairR intR R2_
abbrev R6_:=sliceR R3_ 113
abbrev R7_:=pairR strR R5_
abbrev R8_:=sliceR R7_ 128
abbrev R9_:=sliceR R7_ 135
abbrev T0_:=List Int
abbrev T1_:=List T0_
abbrev T2_:=ByteArray × List Int
abbrev T3_:=Int × List T0_
abbrev T4_:=List T2_
abbrev T5_:=List Int × T3_
abbrev T6_:=ByteArray × T3_
abbrev T7_:=List T6_
end Go.Proofs.Ytkpeabpdiffjhaa
