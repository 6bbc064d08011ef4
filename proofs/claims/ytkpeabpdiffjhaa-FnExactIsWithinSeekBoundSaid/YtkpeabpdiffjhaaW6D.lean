/- What functions of the program come to, written out by a program: none where a bound is passed. -/
import Derived.Test.YtkpeabpdiffjhaaW5D
namespace Go.Proofs.Ytkpeabpdiffjhaa
open Go.RowKit
def spec_l5Sort_L1 (rec : (List (List Int)) → Option (List (List Int))) (N : Nat) : Nat → (List (List Int)) → (List (List Int)) → (List (List Int)) → Option ((List (List Int)) × (List (List Int)) × (List (List Int)))
  | 0, _, _, _ => none
  | k + 1, x1731, x1734, x1737 =>
    (bif decide (0 < (x1731.length : Int)) then
    (bif ((x1731.length : Int) == 0) then
    (bif decide (0 < (1 : Int)) then
    (ix x1734 0).bind fun x1756 =>
    (slc x1734 1 (x1734.length : Int)).bind fun x1763 =>
    (bif ((x1737.length : Int) == 0) then
    (apd 24 x1737 [x1756]).bind fun x1774 =>
    spec_l5Sort_L1 rec N k x1731 x1763 x1774
    else
    (sb (x1737.length : Int) 1).bind fun x1777 =>
    (ix x1737 x1777).bind fun x1778 =>
    (spec_CompareRows N x1778 x1756).bind fun r1785 =>
    (bif (r1785 != 0) then
    (apd 24 x1737 [x1756]).bind fun x1795 =>
    spec_l5Sort_L1 rec N k x1731 x1763 x1795
    else
    spec_l5Sort_L1 rec N k x1731 x1763 x1737))
    else
    (ix x1731 0).bind fun x1799 =>
    (slc x1731 1 (x1731.length : Int)).bind fun x1806 =>
    (bif ((x1737.length : Int) == 0) then
    (apd 24 x1737 [x1799]).bind fun x1817 =>
    spec_l5Sort_L1 rec N k x1806 x1734 x1817
    else
    (sb (x1737.length : Int) 1).bind fun x1820 =>
    (ix x1737 x1820).bind fun x1821 =>
    (spec_CompareRows N x1821 x1799).bind fun r1828 =>
    (bif (r1828 != 0) then
    (apd 24 x1737 [x1799]).bind fun x1838 =>
    spec_l5Sort_L1 rec N k x1806 x1734 x1838
    else
    spec_l5Sort_L1 rec N k x1806 x1734 x1737)))
    else
    (bif decide (0 < (x1734.length : Int)) then
    (ix x1731 0).bind fun x1843 =>
    (ix x1734 0).bind fun x1850 =>
    (spec_CompareRows N x1843 x1850).bind fun r1857 =>
    (bif decide (0 < r1857) then
    (ix x1734 0).bind fun x1869 =>
    (slc x1734 1 (x1734.length : Int)).bind fun x1876 =>
    (bif ((x1737.length : Int) == 0) then
    (apd 24 x1737 [x1869]).bind fun x1887 =>
    spec_l5Sort_L1 rec N k x1731 x1876 x1887
    else
    (sb (x1737.length : Int) 1).bind fun x1890 =>
    (ix x1737 x1890).bind fun x1891 =>
    (spec_CompareRows N x1891 x1869).bind fun r1898 =>
    (bif (r1898 != 0) then
    (apd 24 x1737 [x1869]).bind fun x1908 =>
    spec_l5Sort_L1 rec N k x1731 x1876 x1908
    else
    spec_l5Sort_L1 rec N k x1731 x1876 x1737))
    else
    (ix x1731 0).bind fun x1912 =>
    (slc x1731 1 (x1731.length : Int)).bind fun x1919 =>
    (bif ((x1737.length : Int) == 0) then
    (apd 24 x1737 [x1912]).bind fun x1930 =>
    spec_l5Sort_L1 rec N k x1919 x1734 x1930
    else
    (sb (x1737.length : Int) 1).bind fun x1933 =>
    (ix x1737 x1933).bind fun x1934 =>
    (spec_CompareRows N x1934 x1912).bind fun r1941 =>
    (bif (r1941 != 0) then
    (apd 24 x1737 [x1912]).bind fun x1951 =>
    spec_l5Sort_L1 rec N k x1919 x1734 x1951
    else
    spec_l5Sort_L1 rec N k x1919 x1734 x1737)))
    else
    (bif decide (0 < ((-1) : Int)) then
    (ix x1734 0).bind fun x1963 =>
    (slc x1734 1 (x1734.length : Int)).bind fun x1970 =>
    (bif ((x1737.length : Int) == 0) then
    (apd 24 x1737 [x1963]).bind fun x1981 =>
    spec_l5Sort_L1 rec N k x1731 x1970 x1981
    else
    (sb (x1737.length : Int) 1).bind fun x1984 =>
    (ix x1737 x1984).bind fun x1985 =>
    (spec_CompareRows N x1985 x1963).bind fun r1992 =>
    (bif (r1992 != 0) then
    (apd 24 x1737 [x1963]).bind fun x2002 =>
    spec_l5Sort_L1 rec N k x1731 x1970 x2002
    else
    spec_l5Sort_L1 rec N k x1731 x1970 x1737))
    else
    (ix x1731 0).bind fun x2006 =>
    (slc x1731 1 (x1731.length : Int)).bind fun x2013 =>
    (bif ((x1737.length : Int) == 0) then
    (apd 24 x1737 [x2006]).bind fun x2024 =>
    spec_l5Sort_L1 rec N k x2013 x1734 x2024
    else
    (sb (x1737.length : Int) 1).bind fun x2027 =>
    (ix x1737 x2027).bind fun x2028 =>
    (spec_CompareRows N x2028 x2006).bind fun r2035 =>
    (bif (r2035 != 0) then
    (apd 24 x1737 [x2006]).bind fun x2045 =>
    spec_l5Sort_L1 rec N k x2013 x1734 x2045
    else
    spec_l5Sort_L1 rec N k x2013 x1734 x1737)))))
    else
    (bif decide (0 < (x1734.length : Int)) then
    (bif ((x1731.length : Int) == 0) then
    (bif decide (0 < (1 : Int)) then
    (ix x1734 0).bind fun x2064 =>
    (slc x1734 1 (x1734.length : Int)).bind fun x2071 =>
    (bif ((x1737.length : Int) == 0) then
    (apd 24 x1737 [x2064]).bind fun x2082 =>
    spec_l5Sort_L1 rec N k x1731 x2071 x2082
    else
    (sb (x1737.length : Int) 1).bind fun x2085 =>
    (ix x1737 x2085).bind fun x2086 =>
    (spec_CompareRows N x2086 x2064).bind fun r2093 =>
    (bif (r2093 != 0) then
    (apd 24 x1737 [x2064]).bind fun x2103 =>
    spec_l5Sort_L1 rec N k x1731 x2071 x2103
    else
    spec_l5Sort_L1 rec N k x1731 x2071 x1737))
    else
    (ix x1731 0).bind fun x2107 =>
    (slc x1731 1 (x1731.length : Int)).bind fun x2114 =>
    (bif ((x1737.length : Int) == 0) then
    (apd 24 x1737 [x2107]).bind fun x2125 =>
    spec_l5Sort_L1 rec N k x2114 x1734 x2125
    else
    (sb (x1737.length : Int) 1).bind fun x2128 =>
    (ix x1737 x2128).bind fun x2129 =>
    (spec_CompareRows N x2129 x2107).bind fun r2136 =>
    (bif (r2136 != 0) then
    (apd 24 x1737 [x2107]).bind fun x2146 =>
    spec_l5Sort_L1 rec N k x2114 x1734 x2146
    else
    spec_l5Sort_L1 rec N k x2114 x1734 x1737)))
    else
    (ix x1731 0).bind fun x2150 =>
    (ix x1734 0).bind fun x2157 =>
    (spec_CompareRows N x2150 x2157).bind fun r2164 =>
    (bif decide (0 < r2164) then
    (ix x1734 0).bind fun x2176 =>
    (slc x1734 1 (x1734.length : Int)).bind fun x2183 =>
    (bif ((x1737.length : Int) == 0) then
    (apd 24 x1737 [x2176]).bind fun x2194 =>
    spec_l5Sort_L1 rec N k x1731 x2183 x2194
    else
    (sb (x1737.length : Int) 1).bind fun x2197 =>
    (ix x1737 x2197).bind fun x2198 =>
    (spec_CompareRows N x2198 x2176).bind fun r2205 =>
    (bif (r2205 != 0) then
    (apd 24 x1737 [x2176]).bind fun x2215 =>
    spec_l5Sort_L1 rec N k x1731 x2183 x2215
    else
    spec_l5Sort_L1 rec N k x1731 x2183 x1737))
    else
    (ix x1731 0).bind fun x2219 =>
    (slc x1731 1 (x1731.length : Int)).bind fun x2226 =>
    (bif ((x1737.length : Int) == 0) then
    (apd 24 x1737 [x2219]).bind fun x2237 =>
    spec_l5Sort_L1 rec N k x2226 x1734 x2237
    else
    (sb (x1737.length : Int) 1).bind fun x2240 =>
    (ix x1737 x2240).bind fun x2241 =>
    (spec_CompareRows N x2241 x2219).bind fun r2248 =>
    (bif (r2248 != 0) then
    (apd 24 x1737 [x2219]).bind fun x2258 =>
    spec_l5Sort_L1 rec N k x2226 x1734 x2258
    else
    spec_l5Sort_L1 rec N k x2226 x1734 x1737))))
    else
    some (x1731, x1734, x1737)))
def spec_l5Sort : Nat → (List (List Int)) → Option (List (List Int))
  | 0, _ => none
  | N + 1, a0 =>
    (bif decide ((a0.length : Int) < 2) then
    some a0
    else
    (qt (a0.length : Int) 2).bind fun x107 =>
    (slc a0 0 x107).bind fun x109 =>
    (spec_l5Sort N x109).bind fun r112 =>
    (slc a0 x107 (a0.length : Int)).bind fun x122 =>
    (spec_l5Sort N x122).bind fun r125 =>
    (spec_l5Sort_L1 (spec_l5Sort N) N N r112 r125 []).bind fun s2271 =>
    lpB s2271 fun (x2263, x2266, x2269) =>
    some x2269)
def spec_NewRelation_L1 (N : Nat) : Nat → Int → (List (List Int)) → Int → (List (List Int)) → Int → Option (Sum ((Int × List (List Int)) × Bool) Int)
  | 0, _, _, _, _, _ => none
  | k + 1, x170, x173, x174, x177, x178 =>
    (bif decide (x178 < (x173.length : Int)) then
    (ix x173 x178).bind fun x185 =>
    (bif ((x185.length : Int) != x170) then
    some (.inl ((0, []), false))
    else
    (ix x173 x178).bind fun x195 =>
    (spec_AreValidValues N x195).bind fun r202 =>
    (bif r202 then
    (ad x178 1).bind fun x206 =>
    spec_NewRelation_L1 N k x170 x173 x174 x177 x206
    else
    some (.inl ((0, []), false))))
    else
    some (.inr x178))
def spec_NewRelation (N : Nat) (a0 : Int) (a1 : List (List Int)) : Option ((Int × List (List Int)) × Bool) :=
    (spec_NewRelation_L1 N N a0 a1 0 [] 0).bind fun s236 =>
    lpS s236 (fun q => some q) fun x209 =>
    (spec_l5Sort N a1).bind fun r211 =>
    (spec_l5Copy N a0 r211).bind fun r216 =>
    (spec_IsValidRelation N r216.1 r216.2).bind fun r228 =>
    (bif r228 then
    some ((r216.1, r216.2), true)
    else
    some ((0, []), false))
def spec_l5Cols_L1 (N : Nat) : Nat → (List Int) → (List Int) → (List Int) → Int → Option ((List Int) × Int)
  | 0, _, _, _, _ => none
  | k + 1, x201, x204, x207, x208 =>
    (bif decide (x208 < (x204.length : Int)) then
    (ix x204 x208).bind fun x214 =>
    (ix x201 x214).bind fun x220 =>
    (apd 8 x207 [x220]).bind fun x232 =>
    (ad x208 1).bind fun x235 =>
    spec_l5Cols_L1 N k x201 x204 x232 x235
    else
    some (x207, x208))
def spec_l5Cols (N : Nat) (a0 : List Int) (a1 : List Int) : Option (List Int) :=
    (spec_l5Cols_L1 N N a0 a1 [] 0).bind fun s241 =>
    lpB s241 fun (x238, x239) =>
    some x238
def spec_Project_L1 (N : Nat) : Nat → (List Int) → Int → (List (List Int)) → Int → (List (List Int)) → Int → Option (Sum ((Int × List (List Int)) × Bool) Int)
  | 0, _, _, _, _, _, _ => none
  | k + 1, x156, x157, x160, x161, x164, x165 =>
    (bif decide (x165 < (x156.length : Int)) then
    (ix x156 x165).bind fun x172 =>
    (sb x157 1).bind fun x178 =>
    (spec_l1In N x172 0 x178).bind fun r179 =>
    (bif r179 then
    (ad x165 1).bind fun x183 =>
    spec_Project_L1 N k x156 x157 x160 x161 x164 x183
    else
    some (.inl ((0, []), false)))
    else
    some (.inr x165))
def spec_Project_L2 (N : Nat) : Nat → (List Int) → Int → (List (List Int)) → Int → (List (List Int)) → (List (List Int)) → Int → Option ((List (List Int)) × Int)
  | 0, _, _, _, _, _, _, _ => none
  | k + 1, x295, x296, x299, x300, x303, x306, x307 =>
    (bif decide (x307 < (x299.length : Int)) then
    (ix x299 x307).bind fun x313 =>
    (spec_l5Cols N x313 x295).bind fun r320 =>
    (apd 24 x306 [r320]).bind fun x331 =>
    (ad x307 1).bind fun x334 =>
    spec_Project_L2 N k x295 x296 x299 x300 x303 x331 x334
    else
    some (x306, x307))
def spec_Project (N : Nat) (a0 : Int) (a1 : List (List Int)) (a2 : List Int) : Option ((Int × List (List Int)) × Bool) :=
    (spec_Project_L1 N N a2 a0 a1 0 [] 0).bind fun s355 =>
    lpS s355 (fun q => some q) fun x186 =>
    (spec_IsValidRelation N a0 a1).bind fun r189 =>
    (bif r189 then
    (bif decide (5 < (a2.length : Int)) then
    some ((0, []), false)
    else
    (spec_Project_L2 N N a2 a0 a1 0 [] [] 0).bind fun s352 =>
    lpB s352 fun (x337, x338) =>
    (spec_NewRelation N (a2.length : Int) x337).bind fun r340 =>
    some ((r340.1.1, r340.1.2), r340.2))
    else
    some ((0, []), false))
def spec_BuildTrie (N : Nat) (a0 : Int) (a1 : List (List Int)) (a2 : List Int) : Option ((Int × List (List Int)) × Bool) :=
    (spec_IsPermutation N a2).bind fun r112 =>
    (bif r112 then
    (bif ((a2.length : Int) != a0) then
    some ((0, []), false)
    else
    (spec_Project N a0 a1 a2).bind fun r120 =>
    (bif r120.2 then
    some ((r120.1.1, r120.1.2), true)
    else
    some ((0, []), false)))
    else
    some ((0, []), false))
def spec_AtomVariables_L1 (N : Nat) : Nat → ByteArray → (List Int) → (List Int) → Int → Option ((List Int) × Int)
  | 0, _, _, _, _ => none
  | k + 1, x185, x188, x191, x192 =>
    (bif decide (x192 < 5) then
    (spec_ContainsVariable N x185 x188 x192).bind fun r199 =>
    (bif r199 then
    (apd 8 x191 [x192]).bind fun x209 =>
    (ad x192 1).bind fun x212 =>
    spec_AtomVariables_L1 N k x185 x188 x209 x212
    else
    (ad x192 1).bind fun x213 =>
    spec_AtomVariables_L1 N k x185 x188 x191 x213)
    else
    some (x191, x192))
def spec_AtomVariables (N : Nat) (a0 : ByteArray) (a1 : List Int) : Option (List Int) :=
    (spec_AtomVariables_L1 N N a0 a1 [] 0).bind fun s219 =>
    lpB s219 fun (x216, x217) =>
    some x216
def spec_AtomBindings_L2 (N : Nat) : Nat → ByteArray → (List Int) → Int → (List (List Int)) → (List Int) → Int → (List (List Int)) → Int → (List (List Int)) → (List (List Int)) → Int → (List Int) → Int → Option ((List Int) × Int)
  | 0, _, _, _, _, _, _, _, _, _, _, _, _, _ => none
  | k + 1, x538, x541, x542, x545, x548, x549, x552, x553, x556, x559, x560, x563, x564 =>
    (bif decide (x564 < (x548.length : Int)) then
    (ix x552 x560).bind fun x572 =>
    (ix x548 x564).bind fun x582 =>
    (spec_l7Find N x541 x582).bind fun r586 =>
    (ix x572 r586).bind fun x589 =>
    (apd 8 x563 [x589]).bind fun x604 =>
    (ad x564 1).bind fun x607 =>
    spec_AtomBindings_L2 N k x538 x541 x542 x545 x548 x549 x552 x553 x556 x559 x560 x604 x607
    else
    some (x563, x564))
def spec_AtomBindings_L3 (N : Nat) : Nat → ByteArray → (List Int) → Int → (List (List Int)) → (List Int) → Int → (List (List Int)) → Int → (List (List Int)) → (List (List Int)) → Int → (List Int) → Bool → Int → Option (Bool × Int)
  | 0, _, _, _, _, _, _, _, _, _, _, _, _, _, _ => none
  | k + 1, x616, x619, x620, x623, x626, x627, x630, x631, x634, x637, x638, x641, x642, x643 =>
    (bif decide (x643 < (x619.length : Int)) then
    (ix x619 x643).bind fun x650 =>
    (spec_l7Find N x626 x650).bind fun r656 =>
    (bif x642 then
    (bif decide (0 ≤ r656) then
    (ix x641 r656).bind fun x661 =>
    (ix x630 x638).bind fun x665 =>
    (ix x665 x643).bind fun x675 =>
    (ad x643 1).bind fun x686 =>
    spec_AtomBindings_L3 N k x616 x619 x620 x623 x626 x627 x630 x631 x634 x637 x638 x641 (x661 == x675) x686
    else
    (ad x643 1).bind fun x689 =>
    spec_AtomBindings_L3 N k x616 x619 x620 x623 x626 x627 x630 x631 x634 x637 x638 x641 false x689)
    else
    (ad x643 1).bind fun x692 =>
    spec_AtomBindings_L3 N k x616 x619 x620 x623 x626 x627 x630 x631 x634 x637 x638 x641 false x692)
    else
    some (x642, x643))
def spec_AtomBindings_L1 (N : Nat) : Nat → ByteArray → (List Int) → Int → (List (List Int)) → (List Int) → Int → (List (List Int)) → Int → (List (List Int)) → (List (List Int)) → Int → Option ((List (List Int)) × Int)
  | 0, _, _, _, _, _, _, _, _, _, _, _ => none
  | k + 1, x502, x505, x506, x509, x512, x513, x516, x517, x520, x523, x524 =>
    (bif decide (x524 < (x516.length : Int)) then
    (spec_AtomBindings_L2 N N x502 x505 x506 x509 x512 x513 x516 x517 x520 x523 x524 [] 0).bind fun s709 =>
    lpB s709 fun (x610, x611) =>
    (spec_AtomBindings_L3 N N x502 x505 x506 x509 x512 x513 x516 x517 x520 x523 x524 x610 true 0).bind fun s708 =>
    lpB s708 fun (x693, x694) =>
    (bif x693 then
    (apd 24 x523 [x610]).bind fun x703 =>
    (ad x524 1).bind fun x706 =>
    spec_AtomBindings_L1 N k x502 x505 x506 x509 x512 x513 x516 x517 x520 x703 x706
    else
    (ad x524 1).bind fun x707 =>
    spec_AtomBindings_L1 N k x502 x505 x506 x509 x512 x513 x516 x517 x520 x523 x707)
    else
    some (x523, x524))
def spec_AtomBindings (N : Nat) (a0 : List (ByteArray × (Int × List (List Int)))) (a1 : ByteArray) (a2 : List Int) : Option (Int × List (List Int)) :=
    (spec_AtomVariables N a1 a2).bind fun r115 =>
    (spec_LookupRelation N a0 a1).bind fun r121 =>
    (bif r121.2 then
    (bif (r121.1.1 != (a2.length : Int)) then
    some ((r115.length : Int), [])
    else
    (spec_AtomBindings_L1 N N a1 a2 0 [] r115 r121.1.1 r121.1.2 (r115.length : Int) [] [] 0).bind fun s732 =>
    lpB s732 fun (x712, x713) =>
    (spec_NewRelation N (r115.length : Int) x712).bind fun r715 =>
    (bif r715.2 then
    some (r715.1.1, r715.1.2)
    else
    some ((r115.length : Int), [])))
    else
    some ((r115.length : Int), []))
def spec_ColumnsForOrder_L1 (N : Nat) : Nat → (List Int) → (List Int) → (List Int) → Int → Option ((List Int) × Int)
  | 0, _, _, _, _ => none
  | k + 1, x229, x232, x235, x236 =>
    (bif decide (x236 < (x229.length : Int)) then
    (ix x229 x236).bind fun x243 =>
    (spec_l7Find N x232 x243).bind fun r249 =>
    (bif decide (0 ≤ r249) then
    (spec_l7Find N x235 r249).bind fun r254 =>
    (bif decide (r254 < 0) then
    (apd 8 x235 [r249]).bind fun x264 =>
    (ad x236 1).bind fun x267 =>
    spec_ColumnsForOrder_L1 N k x229 x232 x264 x267
    else
    (ad x236 1).bind fun x268 =>
    spec_ColumnsForOrder_L1 N k x229 x232 x235 x268)
    else
    (ad x236 1).bind fun x269 =>
    spec_ColumnsForOrder_L1 N k x229 x232 x235 x269)
    else
    some (x235, x236))
def spec_ColumnsForOrder (N : Nat) (a0 : ByteArray) (a1 : List Int) (a2 : List Int) : Option (List Int) :=
    (spec_AtomVariables N a0 a1).bind fun r107 =>
    (spec_ColumnsForOrder_L1 N N a2 r107 [] 0).bind fun s275 =>
    lpB s275 fun (x272, x273) =>
    some x272
def spec_BuildTries_L1 (N : Nat) : Nat → (List Int) → (List (ByteArray × (Int × List (List Int)))) → Int → (List (ByteArray × List Int)) → (List Int) → (List (Int × List (List Int))) → Int → Option (Sum ((List (Int × List (List Int))) × Bool) ((List (Int × List (List Int))) × Int))
  | 0, _, _, _, _, _, _, _ => none
  | k + 1, x336, x339, x340, x343, x346, x349, x350 =>
    (bif decide (x350 < (x343.length : Int)) then
    (ix x343 x350).bind fun x359 =>
    (ix x343 x350).bind fun x369 =>
    (spec_AtomBindings N x339 x359.1 x359.2).bind fun r379 =>
    (spec_ColumnsForOrder N x369.1 x369.2 x336).bind fun r384 =>
    (spec_BuildTrie N r379.1 r379.2 r384).bind fun r389 =>
    (bif r389.2 then
    (apd 32 x349 [(r389.1.1, r389.1.2)]).bind fun x408 =>
    (ad x350 1).bind fun x411 =>
    spec_BuildTries_L1 N k x336 x339 x340 x343 x346 x408 x411
    else
    some (.inl ([], false)))
    else
    some (.inr (x349, x350)))
def spec_BuildTries (N : Nat) (a0 : List (ByteArray × (Int × List (List Int)))) (a1 : Int) (a2 : List (ByteArray × List Int)) (a3 : List Int) (a4 : List Int) : Option ((List (Int × List (List Int))) × Bool) :=
    (spec_IsQueryFor N a0 a1 a2 a3).bind fun r117 =>
    (bif r117 then
    (spec_IsValidOrder N a1 a2 a3 a4).bind fun r121 =>
    (bif r121 then
    (spec_BuildTries_L1 N N a4 a0 a1 a2 a3 [] 0).bind fun s422 =>
    lpS s422 (fun q => some q) fun (x419, x420) =>
    some (x419, true)
    else
    some ([], false))
    else
    some ([], false))
def laws_toIntSS_L1 (N : Nat) : Nat → (List (List Int)) → (List (List Int)) → Int → Option ((List (List Int)) × Int)
  | 0, _, _, _ => none
  | k + 1, x176, x179, x180 =>
    (bif decide (x180 < (x176.length : Int)) then
    (ix x176 x180).bind fun x186 =>
    (laws_toIntS N x186).bind fun r193 =>
    (ix x179 x180).bind fun x198 =>
    (sto x179 x180 r193).bind fun x207 =>
    (ad x180 1).bind fun x209 =>
    laws_toIntSS_L1 N k x176 x207 x209
    else
    some (x179, x180))
def laws_toIntSS (N : Nat) (a0 : List (List Int)) : Option (List (List Int)) :=
    (mk 24 ([] : List Int) (a0.length : Int)).bind fun x106 =>
    (laws_toIntSS_L1 N N a0 x106 0).bind fun s215 =>
    lpB s215 fun (x212, x213) =>
    some x212
def laws_toRelation (N : Nat) (a0 : Int) (a1 : List (List Int)) : Option (Int × List (List Int)) :=
    (laws_toIntSS N a1).bind fun r118 =>
    some (a0, r118)
def laws_toTable (N : Nat) (a0 : ByteArray) (a1 : Int) (a2 : List (List Int)) : Option (ByteArray × (Int × List (List Int))) :=
    (laws_toRelation N a1 a2).bind fun r118 =>
    some (a0, (r118.1, r118.2))
end Go.Proofs.Ytkpeabpdiffjhaa
