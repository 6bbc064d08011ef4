/- What functions of the program come to, written out by a program: none where a bound is passed. -/
import Derived.Test.YtkpeabpdiffjhaaW3D
namespace Go.Proofs.Ytkpeabpdiffjhaa
open Go.RowKit
def impl_BigIntFromInt_L1 (N : Nat) : Nat → Int → (List Int) → (List Int) → Option (Int × (List Int))
  | 0, _, _, _ => none
  | k + 1, x175, x178, x181 =>
    (bif decide (0 < x175) then
    (rm x175 10).bind fun x188 =>
    (apd 8 x181 [x188]).bind fun x195 =>
    (qt x175 10).bind fun x199 =>
    impl_BigIntFromInt_L1 N k x199 x178 x195
    else
    some (x175, x181))
def impl_BigIntFromInt (N : Nat) (a0 : Int) : Option (List Int) :=
    (impl_BigIntFromInt_L1 N N a0 [] []).bind fun s207 =>
    lpB s207 fun (x200, x203) =>
    some x203
def impl_PowBigInt_L1 (N : Nat) : Nat → Int → Int → (List Int) → (List Int) → Int → Option (Sum ((List Int) × Bool) ((List Int) × Int))
  | 0, _, _, _, _, _ => none
  | k + 1, x227, x228, x231, x234, x235 =>
    (bif decide (x235 < x228) then
    (impl_BigIntFromInt N x227).bind fun r244 =>
    (impl_MulBigInt N x234 r244).bind fun r249 =>
    (bif r249.2 then
    (ad x235 1).bind fun x263 =>
    impl_PowBigInt_L1 N k x227 x228 x231 r249.1 x263
    else
    some (.inl ([], false)))
    else
    some (.inr (x234, x235)))
def impl_PowBigInt (N : Nat) (a0 : Int) (a1 : Int) : Option ((List Int) × Bool) :=
    (bif decide (a0 < 0) then
    some ([], false)
    else
    (impl_within N a1 0 100).bind fun r111 =>
    (bif r111 then
    (impl_BigIntFromInt N 1).bind fun r116 =>
    (impl_PowBigInt_L1 N N a0 a1 [] r116 0).bind fun s272 =>
    lpS s272 (fun q => some q) fun (x268, x269) =>
    some (x268, true)
    else
    some ([], false)))
def impl_ProductOfPowers_L1 (N : Nat) : Nat → (List Int) → (List Int) → (List Int) → (List Int) → Int → Int → Option (Sum ((List Int) × Bool) ((List Int) × Int))
  | 0, _, _, _, _, _, _ => none
  | k + 1, x291, x294, x297, x300, x301, x302 =>
    (bif decide (x302 < x301) then
    (ix x291 x302).bind fun x312 =>
    (ix x294 x302).bind fun x318 =>
    (impl_PowBigInt N x312 x318).bind fun r324 =>
    (impl_MulBigInt N x300 r324.1).bind fun r335 =>
    (bif r324.2 then
    (bif r335.2 then
    (ad x302 1).bind fun x350 =>
    impl_ProductOfPowers_L1 N k x291 x294 x297 r335.1 x301 x350
    else
    some (.inl ([], false)))
    else
    some (.inl ([], false)))
    else
    some (.inr (x300, x302)))
def impl_ProductOfPowers (N : Nat) (a0 : List Int) (a1 : List Int) : Option ((List Int) × Bool) :=
    (bif ((a0.length : Int) != (a1.length : Int)) then
    some ([], false)
    else
    (impl_BigIntFromInt N 1).bind fun r112 =>
    (impl_ProductOfPowers_L1 N N a0 a1 [] r112 (a0.length : Int) 0).bind fun s361 =>
    lpS s361 (fun q => some q) fun (x357, x358) =>
    some (x357, true))
def impl_compareInts (N : Nat) (a0 : Int) (a1 : Int) : Option Int :=
    (bif decide (a0 < a1) then
    some (-1)
    else
    (bif decide (a1 < a0) then
    some 1
    else
    some 0))
def impl_CompareBigInts_L1 (N : Nat) : Nat → (List Int) → (List Int) → Int → Option (Sum Int Int)
  | 0, _, _, _ => none
  | k + 1, x210, x213, x214 =>
    (bif decide (0 ≤ x214) then
    (ix x210 x214).bind fun x221 =>
    (ix x213 x214).bind fun x227 =>
    (bif (x221 != x227) then
    (ix x210 x214).bind fun x237 =>
    (ix x213 x214).bind fun x243 =>
    (impl_compareInts N x237 x243).bind fun r249 =>
    some (.inl r249)
    else
    (sb x214 1).bind fun x252 =>
    impl_CompareBigInts_L1 N k x210 x213 x252)
    else
    some (.inr x214))
def impl_CompareBigInts (N : Nat) (a0 : List Int) (a1 : List Int) : Option Int :=
    (impl_IsValidBigInt N a0).bind fun r112 =>
    (bif r112 then
    (impl_IsValidBigInt N a1).bind fun r116 =>
    (bif r116 then
    (bif ((a0.length : Int) != (a1.length : Int)) then
    (impl_compareInts N (a0.length : Int) (a1.length : Int)).bind fun r124 =>
    some r124
    else
    (sb (a0.length : Int) 1).bind fun x129 =>
    (impl_CompareBigInts_L1 N N a0 a1 x129).bind fun s255 =>
    lpS s255 (fun q => some q) fun x253 =>
    some 0)
    else
    some 0)
    else
    some 0)
def impl_withinPowers_L1 (N : Nat) : Nat → (List Int) → Int → Int → (List Int) → Int → (List Int) → Int → Int → Option (Sum Bool Int)
  | 0, _, _, _, _, _, _, _, _ => none
  | k + 1, x154, x155, x156, x159, x160, x163, x164, x165 =>
    (bif decide (x165 < x164) then
    (ix x163 x165).bind fun x172 =>
    (bif decide (x172 < 0) then
    some (.inl false)
    else
    (ad x165 1).bind fun x181 =>
    impl_withinPowers_L1 N k x154 x155 x156 x159 x160 x163 x164 x181)
    else
    some (.inr x165))
def impl_withinPowers (N : Nat) (a0 : List Int) (a1 : List (Int × Int)) (a2 : Int) (a3 : Int) : Option Bool :=
    (impl_ScaleToIntegers N a1).bind fun r103 =>
    (bif decide (a2 < 0) then
    some false
    else
    (bif decide (r103.2 < 1) then
    some false
    else
    (bif decide (100 < r103.2) then
    some false
    else
    (impl_withinPowers_L1 N N a0 a2 a3 r103.1 r103.2 a0 (a0.length : Int) 0).bind fun s235 =>
    lpS s235 (fun q => some q) fun x182 =>
    (impl_PowBigInt N a2 r103.2).bind fun r184 =>
    (impl_ProductOfPowers N a0 r103.1).bind fun r195 =>
    (impl_PowBigInt N a3 r103.2).bind fun r206 =>
    (impl_MulBigInt N r195.1 r206.1).bind fun r217 =>
    (bif r184.2 then
    (bif r195.2 then
    (bif r206.2 then
    (bif r217.2 then
    (impl_CompareBigInts N r184.1 r217.1).bind fun r232 =>
    some (decide (r232 ≤ 0))
    else
    some false)
    else
    some false)
    else
    some false)
    else
    some false))))
def impl_IsWithinSeekBound (N : Nat) (a0 : Int) (a1 : List (ByteArray × List Int)) (a2 : List Int) (a3 : List Int) (a4 : List (Int × Int)) (a5 : Int) : Option Bool :=
    (impl_IsValidQuery N a0 a1 a2).bind fun r107 =>
    (bif r107 then
    (impl_SeekBound N a0 a1 a2 1).bind fun r111 =>
    (impl_withinPowers N a3 a4 a5 r111).bind fun r114 =>
    some r114
    else
    some false)
def laws_eqRational (N : Nat) (a0 : Int) (a1 : Int) (a2 : Int) (a3 : Int) : Option Bool :=
    (bif (a0 != a2) then
    some false
    else
    (bif (a1 != a3) then
    some false
    else
    some true))
def laws_eqRationalS_L1 (N : Nat) : Nat → (List (Int × Int)) → (List (Int × Int)) → Int → Option (Sum Bool Int)
  | 0, _, _, _ => none
  | k + 1, x168, x171, x172 =>
    (bif decide (x172 < (x168.length : Int)) then
    (ix x168 x172).bind fun x179 =>
    (ix x171 x172).bind fun x187 =>
    (laws_eqRational N x179.1 x179.2 x187.1 x187.2).bind fun r195 =>
    (bif r195 then
    (ad x172 1).bind fun x199 =>
    laws_eqRationalS_L1 N k x168 x171 x199
    else
    some (.inl false))
    else
    some (.inr x172))
def laws_eqRationalS (N : Nat) (a0 : List (Int × Int)) (a1 : List (Int × Int)) : Option Bool :=
    (bif ((a0.length : Int) != (a1.length : Int)) then
    some false
    else
    (laws_eqRationalS_L1 N N a0 a1 0).bind fun s203 =>
    lpS s203 (fun q => some q) fun x201 =>
    some true)
def laws_FnExactIsWithinSeekBound (N : Nat) (a0 : Int) (a1 : List (ByteArray × List Int)) (a2 : List Int) (a3 : List Int) (a4 : List (Int × Int)) (a5 : Int) : Option Bool :=
    (bif decide (1048576 < (a3.length : Int)) then
    some true
    else
    (laws_szQuery N a0 a1 a2 1048576).bind fun r112 =>
    (bif decide (r112 < 0) then
    some true
    else
    (laws_szRationalS N a4 r112).bind fun r120 =>
    (bif decide (r120 < 0) then
    some true
    else
    (laws_toQuery N a0 a1 a2).bind fun r128 =>
    (laws_toIntS N a3).bind fun r135 =>
    (laws_toRationalS N a4).bind fun r140 =>
    (spec_IsWithinSeekBound N r128.1 r128.2.1 r128.2.2 r135 r140 a5).bind fun r145 =>
    (laws_toQuery N a0 a1 a2).bind fun r149 =>
    (laws_toIntS N a3).bind fun r162 =>
    (laws_toRationalS N a4).bind fun r168 =>
    (impl_IsWithinSeekBound N r149.1 r149.2.1 r149.2.2 r162 r168 a5).bind fun r174 =>
    (bif (r174 != r145) then
    some false
    else
    (laws_toQuery N a0 a1 a2).bind fun r185 =>
    (laws_eqQuery N r149.1 r149.2.1 r149.2.2 r185.1 r185.2.1 r185.2.2).bind fun r192 =>
    (bif r192 then
    (laws_toIntS N a3).bind fun r198 =>
    (laws_eqIntS N r162 r198).bind fun r203 =>
    (bif r203 then
    (laws_toRationalS N a4).bind fun r209 =>
    (laws_eqRationalS N r168 r209).bind fun r214 =>
    (bif r214 then
    some true
    else
    some false)
    else
    some false)
    else
    some false)))))
def laws_szIntSS_L1 (N : Nat) : Nat → (List (List Int)) → Int → Int → Option (Sum Int (Int × Int))
  | 0, _, _, _ => none
  | k + 1, x155, x156, x157 =>
    (bif decide (x157 < (x155.length : Int)) then
    (ix x155 x157).bind fun x164 =>
    (laws_szIntS N x164 x156).bind fun r171 =>
    (bif decide (r171 < 0) then
    some (.inl (-1))
    else
    (ad x157 1).bind fun x177 =>
    laws_szIntSS_L1 N k x155 r171 x177)
    else
    some (.inr (x156, x157)))
def laws_szIntSS (N : Nat) (a0 : List (List Int)) (a1 : Int) : Option Int :=
    (sb a1 (a0.length : Int)).bind fun x103 =>
    (bif decide (x103 < 0) then
    some (-1)
    else
    (laws_szIntSS_L1 N N a0 x103 0).bind fun s181 =>
    lpS s181 (fun q => some q) fun (x178, x179) =>
    some x178)
def laws_szRelation (N : Nat) (a0 : Int) (a1 : List (List Int)) (a2 : Int) : Option Int :=
    (laws_szIntSS N a1 a2).bind fun r107 =>
    (bif decide (r107 < 0) then
    some (-1)
    else
    some r107)
end Go.Proofs.Ytkpeabpdiffjhaa
