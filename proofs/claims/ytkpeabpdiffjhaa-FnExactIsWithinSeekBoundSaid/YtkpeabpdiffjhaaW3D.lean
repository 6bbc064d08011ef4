/- What functions of the program come to, written out by a program: none where a bound is passed. -/
import Derived.Test.YtkpeabpdiffjhaaW2D
namespace Go.Proofs.Ytkpeabpdiffjhaa
open Go.RowKit
def spec_ProductOfPowers_L1 (N : Nat) : Nat → (List Int) → (List Int) → (List Int) → (List Int) → Int → Option (Sum ((List Int) × Bool) ((List Int) × Int))
  | 0, _, _, _, _, _ => none
  | k + 1, x288, x291, x294, x297, x298 =>
    (bif decide (x298 < (x288.length : Int)) then
    (ix x288 x298).bind fun x307 =>
    (ix x291 x298).bind fun x313 =>
    (spec_PowBigInt N x307 x313).bind fun r319 =>
    (spec_MulBigInt N x297 r319.1).bind fun r330 =>
    (bif r319.2 then
    (bif r330.2 then
    (ad x298 1).bind fun x345 =>
    spec_ProductOfPowers_L1 N k x288 x291 x294 r330.1 x345
    else
    some (.inl ([], false)))
    else
    some (.inl ([], false)))
    else
    some (.inr (x297, x298)))
def spec_ProductOfPowers (N : Nat) (a0 : List Int) (a1 : List Int) : Option ((List Int) × Bool) :=
    (bif ((a0.length : Int) != (a1.length : Int)) then
    some ([], false)
    else
    (spec_BigIntFromInt N 1).bind fun r112 =>
    (spec_ProductOfPowers_L1 N N a0 a1 [] r112 0).bind fun s356 =>
    lpS s356 (fun q => some q) fun (x352, x353) =>
    some (x352, true))
def spec_CompareBigInts_L1 (N : Nat) : Nat → (List Int) → (List Int) → Int → Option (Sum Int Int)
  | 0, _, _, _ => none
  | k + 1, x217, x220, x221 =>
    (bif decide (0 ≤ x221) then
    (ix x217 x221).bind fun x229 =>
    (ix x220 x221).bind fun x235 =>
    (bif decide (x229 < x235) then
    some (.inl (-1))
    else
    (ix x217 x221).bind fun x246 =>
    (ix x220 x221).bind fun x252 =>
    (bif decide (x252 < x246) then
    some (.inl 1)
    else
    (sb x221 1).bind fun x262 =>
    spec_CompareBigInts_L1 N k x217 x220 x262))
    else
    some (.inr x221))
def spec_CompareBigInts (N : Nat) (a0 : List Int) (a1 : List Int) : Option Int :=
    (spec_IsValidBigInt N a0).bind fun r112 =>
    (bif r112 then
    (spec_IsValidBigInt N a1).bind fun r116 =>
    (bif r116 then
    (bif ((a0.length : Int) != (a1.length : Int)) then
    (bif decide ((a0.length : Int) < (a1.length : Int)) then
    some (-1)
    else
    some 1)
    else
    (sb (a0.length : Int) 1).bind fun x130 =>
    (spec_CompareBigInts_L1 N N a0 a1 x130).bind fun s265 =>
    lpS s265 (fun q => some q) fun x263 =>
    some 0)
    else
    some 0)
    else
    some 0)
def spec_IsWithinSeekBound (N : Nat) (a0 : Int) (a1 : List (ByteArray × List Int)) (a2 : List Int) (a3 : List Int) (a4 : List (Int × Int)) (a5 : Int) : Option Bool :=
    (spec_ScaleToIntegers N a4).bind fun r107 =>
    (spec_ProductOfPowers N a3 r107.1).bind fun r113 =>
    (spec_PowBigInt N a5 r107.2).bind fun r124 =>
    (spec_SeekBound N a0 a1 a2 1).bind fun r135 =>
    (spec_PowBigInt N r135 r107.2).bind fun r138 =>
    (spec_MulBigInt N r113.1 r138.1).bind fun r149 =>
    (bif decide (0 < r107.2) then
    (bif r113.2 then
    (bif r124.2 then
    (bif r138.2 then
    (bif r149.2 then
    (spec_IsValidQuery N a0 a1 a2).bind fun r165 =>
    (bif r165 then
    (spec_CompareBigInts N r124.1 r149.1).bind fun r169 =>
    some (decide (r169 ≤ 0))
    else
    some false)
    else
    some false)
    else
    some false)
    else
    some false)
    else
    some false)
    else
    some false)
def laws_toRational (N : Nat) (a0 : Int) (a1 : Int) : Option (Int × Int) :=
    some (a0, a1)
def laws_toRationalS_L1 (N : Nat) : Nat → (List (Int × Int)) → (List (Int × Int)) → Int → Option ((List (Int × Int)) × Int)
  | 0, _, _, _ => none
  | k + 1, x174, x177, x178 =>
    (bif decide (x178 < (x174.length : Int)) then
    (ix x174 x178).bind fun x184 =>
    (laws_toRational N x184.1 x184.2).bind fun r192 =>
    (ix x177 x178).bind fun x195 =>
    (sto x177 x178 (r192.1, r192.2)).bind fun x205 =>
    (ad x178 1).bind fun x206 =>
    laws_toRationalS_L1 N k x174 x205 x206
    else
    some (x177, x178))
def laws_toRationalS (N : Nat) (a0 : List (Int × Int)) : Option (List (Int × Int)) :=
    (mk 16 ((0, 0) : Int × Int) (a0.length : Int)).bind fun x106 =>
    (laws_toRationalS_L1 N N a0 x106 0).bind fun s212 =>
    lpB s212 fun (x209, x210) =>
    some x209
def impl_gcd_L1 (N : Nat) : Nat → Int → Int → Option (Int × Int)
  | 0, _, _ => none
  | k + 1, x120, x121 =>
    (bif (x121 != 0) then
    (rm x120 x121).bind fun x126 =>
    impl_gcd_L1 N k x121 x126
    else
    some (x120, x121))
def impl_gcd (N : Nat) (a0 : Int) (a1 : Int) : Option Int :=
    (impl_gcd_L1 N N a0 a1).bind fun s132 =>
    lpB s132 fun (x129, x130) =>
    some x129
def impl_abs (N : Nat) (a0 : Int) : Option Int :=
    (sb 0 a0).bind fun x103 =>
    some (imx a0 x103)
def impl_IsValidRational (N : Nat) (a0 : Int) (a1 : Int) : Option Bool :=
    (impl_within N a1 1 1000000000).bind fun r107 =>
    (bif r107 then
    (impl_within N a0 (-1000000000) 1000000000).bind fun r109 =>
    (bif r109 then
    (impl_abs N a0).bind fun r111 =>
    (impl_gcd N r111 a1).bind fun r112 =>
    some (r112 == 1)
    else
    some false)
    else
    some false)
def impl_ScaleToIntegers_L1 (N : Nat) : Nat → (List (Int × Int)) → Int → (List (Int × Int)) → Int → Int → Option (Sum ((List Int) × Int) Int)
  | 0, _, _, _, _, _ => none
  | k + 1, x165, x166, x169, x170, x171 =>
    (bif decide (x171 < x170) then
    (ix x169 x171).bind fun x178 =>
    (impl_IsValidRational N x178.1 x178.2).bind fun r192 =>
    (bif r192 then
    (bif decide (x178.1 < 0) then
    some (.inl ([], 0))
    else
    (ad x171 1).bind fun x198 =>
    impl_ScaleToIntegers_L1 N k x165 x166 x169 x170 x198)
    else
    some (.inl ([], 0)))
    else
    some (.inr x171))
def impl_ScaleToIntegers_L2 (N : Nat) : Nat → (List (Int × Int)) → Int → (List (Int × Int)) → Int → Int → Option (Sum ((List Int) × Int) (Int × Int))
  | 0, _, _, _, _, _ => none
  | k + 1, x266, x267, x270, x271, x272 =>
    (bif decide (x272 < x271) then
    (ix x270 x272).bind fun x279 =>
    (impl_gcd N x267 x279.2).bind fun r293 =>
    (qt x267 r293).bind fun x294 =>
    (ml x294 x279.2).bind fun x295 =>
    (bif decide (1000 < x295) then
    some (.inl ([], 0))
    else
    (ad x272 1).bind fun x301 =>
    impl_ScaleToIntegers_L2 N k x266 x295 x270 x271 x301)
    else
    some (.inr (x267, x272)))
def impl_ScaleToIntegers_L3 (N : Nat) : Nat → Int → (List Int) → (List (Int × Int)) → Int → Int → Option ((List Int) × Int)
  | 0, _, _, _, _, _ => none
  | k + 1, x418, x421, x425, x426, x427 =>
    (bif decide (x427 < x426) then
    (ix x425 x427).bind fun x434 =>
    (qt x418 x434.2).bind fun x449 =>
    (ml x434.1 x449).bind fun x450 =>
    (apd 8 x421 [x450]).bind fun x457 =>
    (ad x427 1).bind fun x460 =>
    impl_ScaleToIntegers_L3 N k x418 x457 x425 x426 x460
    else
    some (x421, x427))
def impl_ScaleToIntegers (N : Nat) (a0 : List (Int × Int)) : Option ((List Int) × Int) :=
    (impl_ScaleToIntegers_L1 N N a0 1 a0 (a0.length : Int) 0).bind fun s469 =>
    lpS s469 (fun q => some q) fun x200 =>
    (impl_ScaleToIntegers_L2 N N a0 1 a0 (a0.length : Int) 0).bind fun s468 =>
    lpS s468 (fun q => some q) fun (x302, x303) =>
    (impl_ScaleToIntegers_L3 N N x302 [] a0 (a0.length : Int) 0).bind fun s467 =>
    lpB s467 fun (x463, x465) =>
    some (x463, x302)
def impl_IsValidBigInt_L1 (N : Nat) : Nat → (List Int) → Int → (List Int) → Int → Int → Option (Sum Bool Int)
  | 0, _, _, _, _, _ => none
  | k + 1, x151, x152, x155, x156, x157 =>
    (bif decide (x157 < x156) then
    (ix x155 x157).bind fun x164 =>
    (impl_within N x164 0 9).bind fun r171 =>
    (bif r171 then
    (ad x157 1).bind fun x175 =>
    impl_IsValidBigInt_L1 N k x151 x152 x155 x156 x175
    else
    some (.inl false))
    else
    some (.inr x157))
def impl_IsValidBigInt (N : Nat) (a0 : List Int) : Option Bool :=
    (impl_IsValidBigInt_L1 N N a0 (a0.length : Int) a0 (a0.length : Int) 0).bind fun s188 =>
    lpS s188 (fun q => some q) fun x177 =>
    (bif decide ((a0.length : Int) ≤ 60) then
    (bif ((a0.length : Int) == 0) then
    some true
    else
    (sb (a0.length : Int) 1).bind fun x181 =>
    (ix a0 x181).bind fun x182 =>
    some (x182 != 0))
    else
    some false)
def impl_carried_L1 (N : Nat) : Nat → (List Int) → (List Int) → (List Int) → Int → Int → Option ((List Int) × Int × Int)
  | 0, _, _, _, _, _ => none
  | k + 1, x272, x275, x278, x280, x281 =>
    (bif decide (x281 < (x272.length : Int)) then
    (ix x272 x281).bind fun x289 =>
    (ad x280 x289).bind fun x295 =>
    (rm x295 10).bind fun x297 =>
    (apd 8 x278 [x297]).bind fun x304 =>
    (qt x295 10).bind fun x308 =>
    (ad x281 1).bind fun x309 =>
    impl_carried_L1 N k x272 x275 x304 x308 x309
    else
    (bif decide (0 < x280) then
    (rm x280 10).bind fun x316 =>
    (apd 8 x278 [x316]).bind fun x323 =>
    (qt x280 10).bind fun x327 =>
    (ad x281 1).bind fun x328 =>
    impl_carried_L1 N k x272 x275 x323 x327 x328
    else
    some (x278, x280, x281)))
def impl_carried_L2 (N : Nat) : Nat → (List Int) → (List Int) → Int → Option Int
  | 0, _, _, _ => none
  | k + 1, x363, x366, x367 =>
    (bif decide (0 < x367) then
    (sb x367 1).bind fun x371 =>
    (ix x366 x371).bind fun x372 =>
    (bif (x372 == 0) then
    (sb x367 1).bind fun x378 =>
    impl_carried_L2 N k x363 x366 x378
    else
    some x367)
    else
    some x367)
def impl_carried (N : Nat) (a0 : List Int) : Option ((List Int) × Bool) :=
    (impl_carried_L1 N N a0 [] [] 0 0).bind fun s393 =>
    lpB s393 fun (x331, x333, x334) =>
    (impl_carried_L2 N N [] x331 (x331.length : Int)).bind fun s392 =>
    lpB s392 fun x379 =>
    (slc x331 0 x379).bind fun x381 =>
    (bif decide (60 < x379) then
    some ([], false)
    else
    some (x381, true))
def impl_MulBigInt_L2 (N : Nat) : Nat → (List Int) → (List Int) → (List Int) → Int → Int → (List Int) → Int → Int → (List Int) → Int → Int → Option ((List Int) × Int)
  | 0, _, _, _, _, _, _, _, _, _, _, _ => none
  | k + 1, x286, x289, x292, x293, x294, x297, x298, x299, x302, x303, x304 =>
    (bif decide (x304 < x303) then
    (ix x302 x304).bind fun x311 =>
    (ad x293 x304).bind fun x317 =>
    (ix x292 x317).bind fun x318 =>
    (ml x294 x311).bind fun x322 =>
    (ad x318 x322).bind fun x323 =>
    (ix x292 x317).bind fun x324 =>
    (sto x292 x317 x323).bind fun x329 =>
    (ad x304 1).bind fun x330 =>
    impl_MulBigInt_L2 N k x286 x289 x329 x293 x294 x297 x298 x299 x302 x303 x330
    else
    some (x292, x304))
def impl_MulBigInt_L1 (N : Nat) : Nat → (List Int) → (List Int) → (List Int) → (List Int) → Int → Int → Option ((List Int) × Int)
  | 0, _, _, _, _, _, _ => none
  | k + 1, x258, x261, x264, x267, x268, x269 =>
    (bif decide (x269 < x268) then
    (ix x267 x269).bind fun x276 =>
    (impl_MulBigInt_L2 N N x258 x261 x264 x269 x276 x267 x268 x269 x258 (x258.length : Int) 0).bind fun s336 =>
    lpB s336 fun (x333, x334) =>
    (ad x269 1).bind fun x335 =>
    impl_MulBigInt_L1 N k x258 x261 x333 x267 x268 x335
    else
    some (x264, x269))
def impl_MulBigInt (N : Nat) (a0 : List Int) (a1 : List Int) : Option ((List Int) × Bool) :=
    (impl_IsValidBigInt N a0).bind fun r116 =>
    (bif r116 then
    (impl_IsValidBigInt N a1).bind fun r120 =>
    (bif r120 then
    (ad (a0.length : Int) (a1.length : Int)).bind fun x125 =>
    (mk 8 (0 : Int) x125).bind fun x129 =>
    (impl_MulBigInt_L1 N N a1 [] x129 a0 (a0.length : Int) 0).bind fun s348 =>
    lpB s348 fun (x339, x340) =>
    (impl_carried N x339).bind fun r342 =>
    some (r342.1, r342.2)
    else
    some ([], false))
    else
    some ([], false))
end Go.Proofs.Ytkpeabpdiffjhaa
