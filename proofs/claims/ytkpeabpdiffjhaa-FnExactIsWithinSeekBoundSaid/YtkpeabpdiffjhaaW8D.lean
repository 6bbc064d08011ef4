/- What functions of the program come to, written out by a program: none where a bound is passed. -/
import Derived.Test.YtkpeabpdiffjhaaW7D
namespace Go.Proofs.Ytkpeabpdiffjhaa
open Go.RowKit
def impl_IsValidOrder (N : Nat) (a0 : Int) (a1 : List (ByteArray × List Int)) (a2 : List Int) (a3 : List Int) : Option Bool :=
    (impl_IsValidQuery N a0 a1 a2).bind fun r107 =>
    (bif r107 then
    (bif ((a3.length : Int) == a0) then
    (impl_isSetOf N a3 a0).bind fun r112 =>
    some r112
    else
    some false)
    else
    some false)
def impl_columnsFit_L1 (N : Nat) : Nat → Int → (List Int) → Int → Int → Option (Sum Bool Int)
  | 0, _, _, _, _ => none
  | k + 1, x150, x153, x154, x155 =>
    (bif decide (x155 < x154) then
    (ix x153 x155).bind fun x162 =>
    (sb x150 1).bind fun x169 =>
    (impl_within N x162 0 x169).bind fun r170 =>
    (bif r170 then
    (ad x155 1).bind fun x174 =>
    impl_columnsFit_L1 N k x150 x153 x154 x174
    else
    some (.inl false))
    else
    some (.inr x155))
def impl_columnsFit (N : Nat) (a0 : Int) (a1 : List Int) : Option Bool :=
    (bif decide (5 < (a1.length : Int)) then
    some false
    else
    (impl_columnsFit_L1 N N a0 a1 (a1.length : Int) 0).bind fun s178 =>
    lpS s178 (fun q => some q) fun x176 =>
    some true)
def impl_pick_L1 (N : Nat) : Nat → (List Int) → (List Int) → (List Int) → Int → Int → Option ((List Int) × Int)
  | 0, _, _, _, _, _ => none
  | k + 1, x204, x207, x210, x211, x212 =>
    (bif decide (x212 < x211) then
    (ix x210 x212).bind fun x219 =>
    (ix x204 x219).bind fun x225 =>
    (apd 8 x207 [x225]).bind fun x237 =>
    (ad x212 1).bind fun x240 =>
    impl_pick_L1 N k x204 x237 x210 x211 x240
    else
    some (x207, x212))
def impl_pick (N : Nat) (a0 : List Int) (a1 : List Int) : Option (List Int) :=
    (impl_pick_L1 N N a0 [] a1 (a1.length : Int) 0).bind fun s246 =>
    lpB s246 fun (x243, x244) =>
    some x243
def impl_sorted_L1 (rec : (List (List Int)) → Option (List (List Int))) (N : Nat) : Nat → (List (List Int)) → (List (List Int)) → (List (List Int)) → Option ((List (List Int)) × (List (List Int)) × (List (List Int)))
  | 0, _, _, _ => none
  | k + 1, x1565, x1568, x1571 =>
    (bif decide (0 < (x1565.length : Int)) then
    (bif ((x1565.length : Int) == 0) then
    (bif decide ((1 : Int) ≤ 0) then
    (ix x1565 0).bind fun x1585 =>
    (apd 24 x1571 [x1585]).bind fun x1599 =>
    (slc x1565 1 (x1565.length : Int)).bind fun x1603 =>
    (bif decide (0 ≤ (1 : Int)) then
    (bif decide (0 < (1 : Int)) then
    (ix x1568 0).bind fun x1611 =>
    (apd 24 x1599 [x1611]).bind fun x1625 =>
    (slc x1568 1 (x1568.length : Int)).bind fun x1629 =>
    impl_sorted_L1 rec N k x1603 x1629 x1625
    else
    (slc x1568 1 (x1568.length : Int)).bind fun x1632 =>
    impl_sorted_L1 rec N k x1603 x1632 x1599)
    else
    impl_sorted_L1 rec N k x1603 x1568 x1599)
    else
    (bif decide (0 ≤ (1 : Int)) then
    (bif decide (0 < (1 : Int)) then
    (ix x1568 0).bind fun x1640 =>
    (apd 24 x1571 [x1640]).bind fun x1654 =>
    (slc x1568 1 (x1568.length : Int)).bind fun x1658 =>
    impl_sorted_L1 rec N k x1565 x1658 x1654
    else
    (slc x1568 1 (x1568.length : Int)).bind fun x1661 =>
    impl_sorted_L1 rec N k x1565 x1661 x1571)
    else
    impl_sorted_L1 rec N k x1565 x1568 x1571))
    else
    (bif decide (0 < (x1568.length : Int)) then
    (ix x1565 0).bind fun x1666 =>
    (ix x1568 0).bind fun x1673 =>
    (impl_CompareRows N x1666 x1673).bind fun r1680 =>
    (bif decide (r1680 ≤ 0) then
    (ix x1565 0).bind fun x1687 =>
    (apd 24 x1571 [x1687]).bind fun x1701 =>
    (slc x1565 1 (x1565.length : Int)).bind fun x1705 =>
    (bif decide (0 ≤ r1680) then
    (bif decide (0 < r1680) then
    (ix x1568 0).bind fun x1713 =>
    (apd 24 x1701 [x1713]).bind fun x1727 =>
    (slc x1568 1 (x1568.length : Int)).bind fun x1731 =>
    impl_sorted_L1 rec N k x1705 x1731 x1727
    else
    (slc x1568 1 (x1568.length : Int)).bind fun x1734 =>
    impl_sorted_L1 rec N k x1705 x1734 x1701)
    else
    impl_sorted_L1 rec N k x1705 x1568 x1701)
    else
    (bif decide (0 ≤ r1680) then
    (bif decide (0 < r1680) then
    (ix x1568 0).bind fun x1742 =>
    (apd 24 x1571 [x1742]).bind fun x1756 =>
    (slc x1568 1 (x1568.length : Int)).bind fun x1760 =>
    impl_sorted_L1 rec N k x1565 x1760 x1756
    else
    (slc x1568 1 (x1568.length : Int)).bind fun x1763 =>
    impl_sorted_L1 rec N k x1565 x1763 x1571)
    else
    impl_sorted_L1 rec N k x1565 x1568 x1571))
    else
    (bif decide (((-1) : Int) ≤ 0) then
    (ix x1565 0).bind fun x1770 =>
    (apd 24 x1571 [x1770]).bind fun x1784 =>
    (slc x1565 1 (x1565.length : Int)).bind fun x1788 =>
    (bif decide (0 ≤ ((-1) : Int)) then
    (bif decide (0 < ((-1) : Int)) then
    (ix x1568 0).bind fun x1796 =>
    (apd 24 x1784 [x1796]).bind fun x1810 =>
    (slc x1568 1 (x1568.length : Int)).bind fun x1814 =>
    impl_sorted_L1 rec N k x1788 x1814 x1810
    else
    (slc x1568 1 (x1568.length : Int)).bind fun x1817 =>
    impl_sorted_L1 rec N k x1788 x1817 x1784)
    else
    impl_sorted_L1 rec N k x1788 x1568 x1784)
    else
    (bif decide (0 ≤ ((-1) : Int)) then
    (bif decide (0 < ((-1) : Int)) then
    (ix x1568 0).bind fun x1825 =>
    (apd 24 x1571 [x1825]).bind fun x1839 =>
    (slc x1568 1 (x1568.length : Int)).bind fun x1843 =>
    impl_sorted_L1 rec N k x1565 x1843 x1839
    else
    (slc x1568 1 (x1568.length : Int)).bind fun x1846 =>
    impl_sorted_L1 rec N k x1565 x1846 x1571)
    else
    impl_sorted_L1 rec N k x1565 x1568 x1571))))
    else
    (bif decide (0 < (x1568.length : Int)) then
    (bif ((x1565.length : Int) == 0) then
    (bif decide ((1 : Int) ≤ 0) then
    (ix x1565 0).bind fun x1859 =>
    (apd 24 x1571 [x1859]).bind fun x1873 =>
    (slc x1565 1 (x1565.length : Int)).bind fun x1877 =>
    (bif decide (0 ≤ (1 : Int)) then
    (bif decide (0 < (1 : Int)) then
    (ix x1568 0).bind fun x1885 =>
    (apd 24 x1873 [x1885]).bind fun x1899 =>
    (slc x1568 1 (x1568.length : Int)).bind fun x1903 =>
    impl_sorted_L1 rec N k x1877 x1903 x1899
    else
    (slc x1568 1 (x1568.length : Int)).bind fun x1906 =>
    impl_sorted_L1 rec N k x1877 x1906 x1873)
    else
    impl_sorted_L1 rec N k x1877 x1568 x1873)
    else
    (bif decide (0 ≤ (1 : Int)) then
    (bif decide (0 < (1 : Int)) then
    (ix x1568 0).bind fun x1914 =>
    (apd 24 x1571 [x1914]).bind fun x1928 =>
    (slc x1568 1 (x1568.length : Int)).bind fun x1932 =>
    impl_sorted_L1 rec N k x1565 x1932 x1928
    else
    (slc x1568 1 (x1568.length : Int)).bind fun x1935 =>
    impl_sorted_L1 rec N k x1565 x1935 x1571)
    else
    impl_sorted_L1 rec N k x1565 x1568 x1571))
    else
    (ix x1565 0).bind fun x1939 =>
    (ix x1568 0).bind fun x1946 =>
    (impl_CompareRows N x1939 x1946).bind fun r1953 =>
    (bif decide (r1953 ≤ 0) then
    (ix x1565 0).bind fun x1960 =>
    (apd 24 x1571 [x1960]).bind fun x1974 =>
    (slc x1565 1 (x1565.length : Int)).bind fun x1978 =>
    (bif decide (0 ≤ r1953) then
    (bif decide (0 < r1953) then
    (ix x1568 0).bind fun x1986 =>
    (apd 24 x1974 [x1986]).bind fun x2000 =>
    (slc x1568 1 (x1568.length : Int)).bind fun x2004 =>
    impl_sorted_L1 rec N k x1978 x2004 x2000
    else
    (slc x1568 1 (x1568.length : Int)).bind fun x2007 =>
    impl_sorted_L1 rec N k x1978 x2007 x1974)
    else
    impl_sorted_L1 rec N k x1978 x1568 x1974)
    else
    (bif decide (0 ≤ r1953) then
    (bif decide (0 < r1953) then
    (ix x1568 0).bind fun x2015 =>
    (apd 24 x1571 [x2015]).bind fun x2029 =>
    (slc x1568 1 (x1568.length : Int)).bind fun x2033 =>
    impl_sorted_L1 rec N k x1565 x2033 x2029
    else
    (slc x1568 1 (x1568.length : Int)).bind fun x2036 =>
    impl_sorted_L1 rec N k x1565 x2036 x1571)
    else
    impl_sorted_L1 rec N k x1565 x1568 x1571)))
    else
    some (x1565, x1568, x1571)))
def impl_sorted : Nat → (List (List Int)) → Option (List (List Int))
  | 0, _ => none
  | N + 1, a0 =>
    (bif decide ((a0.length : Int) < 2) then
    (impl_copyRows N a0).bind fun r106 =>
    some r106
    else
    (qt (a0.length : Int) 2).bind fun x112 =>
    (slc a0 0 x112).bind fun x116 =>
    (slc a0 x112 (a0.length : Int)).bind fun x119 =>
    (impl_sorted N x116).bind fun r122 =>
    (impl_sorted N x119).bind fun r127 =>
    (impl_sorted_L1 (impl_sorted N) N N r122 r127 []).bind fun s2050 =>
    lpB s2050 fun (x2041, x2044, x2047) =>
    some x2047)
def impl_NewRelation_L1 (N : Nat) : Nat → Int → (List (List Int)) → Int → (List (List Int)) → (List (List Int)) → Int → Int → Option (Sum ((Int × List (List Int)) × Bool) Int)
  | 0, _, _, _, _, _, _, _ => none
  | k + 1, x158, x161, x162, x165, x168, x169, x170 =>
    (bif decide (x170 < x169) then
    (ix x168 x170).bind fun x177 =>
    (bif ((x177.length : Int) != x158) then
    some (.inl ((0, []), false))
    else
    (impl_AreValidValues N x177).bind fun r188 =>
    (bif r188 then
    (ad x170 1).bind fun x192 =>
    impl_NewRelation_L1 N k x158 x161 x162 x165 x168 x169 x192
    else
    some (.inl ((0, []), false))))
    else
    some (.inr x170))
def impl_NewRelation (N : Nat) (a0 : Int) (a1 : List (List Int)) : Option ((Int × List (List Int)) × Bool) :=
    (impl_NewRelation_L1 N N a0 a1 0 [] a1 (a1.length : Int) 0).bind fun s217 =>
    lpS s217 (fun q => some q) fun x195 =>
    (impl_sorted N a1).bind fun r197 =>
    (impl_IsValidRelation N a0 r197).bind fun r209 =>
    (bif r209 then
    some ((a0, r197), true)
    else
    some ((0, []), false))
def impl_Project_L1 (N : Nat) : Nat → (List Int) → Int → (List (List Int)) → (List (List Int)) → (List (List Int)) → Int → Int → Option ((List (List Int)) × Int)
  | 0, _, _, _, _, _, _, _ => none
  | k + 1, x221, x222, x225, x228, x232, x233, x234 =>
    (bif decide (x234 < x233) then
    (ix x232 x234).bind fun x241 =>
    (impl_pick N x241 x221).bind fun r248 =>
    (apd 24 x228 [r248]).bind fun x259 =>
    (ad x234 1).bind fun x262 =>
    impl_Project_L1 N k x221 x222 x225 x259 x232 x233 x262
    else
    some (x228, x234))
def impl_Project (N : Nat) (a0 : Int) (a1 : List (List Int)) (a2 : List Int) : Option ((Int × List (List Int)) × Bool) :=
    (impl_IsValidRelation N a0 a1).bind fun r112 =>
    (bif r112 then
    (impl_columnsFit N a0 a2).bind fun r116 =>
    (bif r116 then
    (impl_Project_L1 N N a2 0 [] [] a1 (a1.length : Int) 0).bind fun s275 =>
    lpB s275 fun (x265, x267) =>
    (impl_NewRelation N (a2.length : Int) x265).bind fun r269 =>
    some ((r269.1.1, r269.1.2), r269.2)
    else
    some ((0, []), false))
    else
    some ((0, []), false))
def impl_IsPermutation (N : Nat) (a0 : List Int) : Option Bool :=
    (bif decide ((a0.length : Int) ≤ 5) then
    (impl_isSetOf N a0 (a0.length : Int)).bind fun r104 =>
    some r104
    else
    some false)
def impl_BuildTrie (N : Nat) (a0 : Int) (a1 : List (List Int)) (a2 : List Int) : Option ((Int × List (List Int)) × Bool) :=
    (impl_IsPermutation N a2).bind fun r112 =>
    (bif r112 then
    (bif ((a2.length : Int) != a0) then
    some ((0, []), false)
    else
    (impl_Project N a0 a1 a2).bind fun r120 =>
    (bif r120.2 then
    some ((r120.1.1, r120.1.2), true)
    else
    some ((0, []), false)))
    else
    some ((0, []), false))
def impl_ContainsVariable (N : Nat) (a0 : ByteArray) (a1 : List Int) (a2 : Int) : Option Bool :=
    (impl_hasInt N a1 a2).bind fun r107 =>
    some r107
def impl_AtomVariables_L1 (N : Nat) : Nat → ByteArray → (List Int) → (List Int) → Int → Option ((List Int) × Int)
  | 0, _, _, _, _ => none
  | k + 1, x184, x187, x190, x192 =>
    (bif decide (x192 < 5) then
    (impl_ContainsVariable N x184 x187 x192).bind fun r199 =>
    (bif r199 then
    (apd 8 x190 [x192]).bind fun x209 =>
    (ad x192 1).bind fun x212 =>
    impl_AtomVariables_L1 N k x184 x187 x209 x212
    else
    (ad x192 1).bind fun x213 =>
    impl_AtomVariables_L1 N k x184 x187 x190 x213)
    else
    some (x190, x192))
def impl_AtomVariables (N : Nat) (a0 : ByteArray) (a1 : List Int) : Option (List Int) :=
    (impl_AtomVariables_L1 N N a0 a1 [] 0).bind fun s220 =>
    lpB s220 fun (x216, x218) =>
    some x216
def impl_AtomBindings_L2 (N : Nat) : Nat → ByteArray → (List Int) → Int → (List (List Int)) → (List Int) → Int → (List (List Int)) → (List (List Int)) → (List Int) → (List Int) → Bool → (List (List Int)) → Int → Int → (List Int) → Int → Int → Option ((List Int) × Bool × Int)
  | 0, _, _, _, _, _, _, _, _, _, _, _, _, _, _, _, _, _ => none
  | k + 1, x495, x498, x499, x502, x505, x506, x509, x512, x515, x518, x519, x522, x523, x524, x527, x528, x529 =>
    (bif decide (x529 < x528) then
    (ix x527 x529).bind fun x536 =>
    (impl_indexOf N x498 x536).bind fun r543 =>
    (bif x519 then
    (ix x515 r543).bind fun x548 =>
    (ix x515 x529).bind fun x557 =>
    (ix x515 x529).bind fun x568 =>
    (ix x518 x536).bind fun x577 =>
    (sto x518 x536 x568).bind fun x582 =>
    (ad x529 1).bind fun x583 =>
    impl_AtomBindings_L2 N k x495 x498 x499 x502 x505 x506 x509 x512 x515 x582 (x548 == x557) x522 x523 x524 x527 x528 x583
    else
    (ix x515 x529).bind fun x586 =>
    (ix x518 x536).bind fun x595 =>
    (sto x518 x536 x586).bind fun x600 =>
    (ad x529 1).bind fun x601 =>
    impl_AtomBindings_L2 N k x495 x498 x499 x502 x505 x506 x509 x512 x515 x600 false x522 x523 x524 x527 x528 x601)
    else
    some (x518, x519, x529))
def impl_AtomBindings_L1 (N : Nat) : Nat → ByteArray → (List Int) → Int → (List (List Int)) → (List Int) → Int → (List (List Int)) → (List (List Int)) → (List (List Int)) → Int → Int → Option ((List (List Int)) × Int)
  | 0, _, _, _, _, _, _, _, _, _, _, _ => none
  | k + 1, x444, x447, x448, x451, x454, x455, x458, x461, x465, x466, x467 =>
    (bif decide (x467 < x466) then
    (ix x465 x467).bind fun x474 =>
    (mk 8 (0 : Int) 5).bind fun x488 =>
    (impl_AtomBindings_L2 N N x444 x447 x448 x451 x454 x455 x458 x461 x474 x488 true x465 x466 x467 x447 (x447.length : Int) 0).bind fun s625 =>
    lpB s625 fun (x604, x605, x606) =>
    (bif x605 then
    (impl_pick N x604 x454).bind fun r609 =>
    (apd 24 x461 [r609]).bind fun x620 =>
    (ad x467 1).bind fun x623 =>
    impl_AtomBindings_L1 N k x444 x447 x448 x451 x454 x455 x458 x620 x465 x466 x623
    else
    (ad x467 1).bind fun x624 =>
    impl_AtomBindings_L1 N k x444 x447 x448 x451 x454 x455 x458 x461 x465 x466 x624)
    else
    some (x461, x467))
def impl_AtomBindings (N : Nat) (a0 : List (ByteArray × (Int × List (List Int)))) (a1 : ByteArray) (a2 : List Int) : Option (Int × List (List Int)) :=
    (impl_AtomVariables N a1 a2).bind fun r115 =>
    (impl_LookupRelation N a0 a1).bind fun r127 =>
    (bif r127.2 then
    (bif (r127.1.1 != (a2.length : Int)) then
    some ((r115.length : Int), [])
    else
    (impl_columnsFit N 5 a2).bind fun r145 =>
    (bif r145 then
    (impl_AtomBindings_L1 N N a1 a2 0 [] r115 (r115.length : Int) [] [] r127.1.2 (r127.1.2.length : Int) 0).bind fun s640 =>
    lpB s640 fun (x628, x630) =>
    (impl_sorted N x628).bind fun r632 =>
    some ((r115.length : Int), r632)
    else
    some ((r115.length : Int), [])))
    else
    some ((r115.length : Int), []))
def impl_ColumnsForOrder_L1 (N : Nat) : Nat → (List Int) → (List Int) → (List Int) → Int → Int → Option ((List Int) × Int)
  | 0, _, _, _, _, _ => none
  | k + 1, x231, x234, x238, x239, x240 =>
    (bif decide (x240 < x239) then
    (ix x238 x240).bind fun x247 =>
    (impl_indexOf N x231 x247).bind fun r254 =>
    (bif decide (0 ≤ r254) then
    (impl_hasInt N x234 r254).bind fun r259 =>
    (bif r259 then
    (ad x240 1).bind fun x263 =>
    impl_ColumnsForOrder_L1 N k x231 x234 x238 x239 x263
    else
    (apd 8 x234 [r254]).bind fun x270 =>
    (ad x240 1).bind fun x273 =>
    impl_ColumnsForOrder_L1 N k x231 x270 x238 x239 x273)
    else
    (ad x240 1).bind fun x274 =>
    impl_ColumnsForOrder_L1 N k x231 x234 x238 x239 x274)
    else
    some (x234, x240))
def impl_ColumnsForOrder (N : Nat) (a0 : ByteArray) (a1 : List Int) (a2 : List Int) : Option (List Int) :=
    (impl_AtomVariables N a0 a1).bind fun r107 =>
    (impl_ColumnsForOrder_L1 N N r107 [] a2 (a2.length : Int) 0).bind fun s281 =>
    lpB s281 fun (x277, x279) =>
    some x277
end Go.Proofs.Ytkpeabpdiffjhaa
