/- What functions of the program come to, written out by a program: none where a bound is passed. -/
import Derived.Test.YtkpeabpdiffjhaaW1D
namespace Go.Proofs.Ytkpeabpdiffjhaa
open Go.RowKit
def laws_eqAtomS_L1 (N : Nat) : Nat → (List (ByteArray × List Int)) → (List (ByteArray × List Int)) → Int → Option (Sum Bool Int)
  | 0, _, _, _ => none
  | k + 1, x176, x179, x180 =>
    (bif decide (x180 < (x176.length : Int)) then
    (ix x176 x180).bind fun x187 =>
    (ix x179 x180).bind fun x197 =>
    (laws_eqAtom N x187.1 x187.2 x197.1 x197.2).bind fun r207 =>
    (bif r207 then
    (ad x180 1).bind fun x211 =>
    laws_eqAtomS_L1 N k x176 x179 x211
    else
    some (.inl false))
    else
    some (.inr x180))
def laws_eqAtomS (N : Nat) (a0 : List (ByteArray × List Int)) (a1 : List (ByteArray × List Int)) : Option Bool :=
    (bif ((a0.length : Int) != (a1.length : Int)) then
    some false
    else
    (laws_eqAtomS_L1 N N a0 a1 0).bind fun s215 =>
    lpS s215 (fun q => some q) fun x213 =>
    some true)
def laws_eqQuery (N : Nat) (a0 : Int) (a1 : List (ByteArray × List Int)) (a2 : List Int) (a3 : Int) (a4 : List (ByteArray × List Int)) (a5 : List Int) : Option Bool :=
    (bif (a0 != a3) then
    some false
    else
    (laws_eqAtomS N a1 a4).bind fun r116 =>
    (bif r116 then
    (laws_eqIntS N a2 a5).bind fun r122 =>
    (bif r122 then
    some true
    else
    some false)
    else
    some false))
def laws_FnExactSeekBound (N : Nat) (a0 : Int) (a1 : List (ByteArray × List Int)) (a2 : List Int) (a3 : Int) : Option Bool :=
    (laws_szQuery N a0 a1 a2 1048576).bind fun r108 =>
    (bif decide (r108 < 0) then
    some true
    else
    (laws_toQuery N a0 a1 a2).bind fun r116 =>
    (spec_SeekBound N r116.1 r116.2.1 r116.2.2 a3).bind fun r123 =>
    (laws_toQuery N a0 a1 a2).bind fun r127 =>
    (impl_SeekBound N r127.1 r127.2.1 r127.2.2 a3).bind fun r140 =>
    (bif (r140 != r123) then
    some false
    else
    (laws_toQuery N a0 a1 a2).bind fun r151 =>
    (laws_eqQuery N r127.1 r127.2.1 r127.2.2 r151.1 r151.2.1 r151.2.2).bind fun r158 =>
    (bif r158 then
    some true
    else
    some false)))
def laws_szRationalS (N : Nat) (a0 : List (Int × Int)) (a1 : Int) : Option Int :=
    (sb a1 (a0.length : Int)).bind fun x103 =>
    (bif decide (x103 < 0) then
    some (-1)
    else
    some x103)
def spec_l2Gcd_L1 (N : Nat) : Nat → Int → Int → Option (Int × Int)
  | 0, _, _ => none
  | k + 1, x120, x121 =>
    (bif (x121 != 0) then
    (rm x120 x121).bind fun x127 =>
    spec_l2Gcd_L1 N k x121 x127
    else
    some (x120, x121))
def spec_l2Gcd (N : Nat) (a0 : Int) (a1 : Int) : Option Int :=
    (spec_l2Gcd_L1 N N a0 a1).bind fun s132 =>
    lpB s132 fun (x129, x130) =>
    some x129
def spec_IsValidRational (N : Nat) (a0 : Int) (a1 : Int) : Option Bool :=
    (spec_l1In N a1 1 1000000000).bind fun r107 =>
    (bif r107 then
    (spec_l1In N a0 (-1000000000) 1000000000).bind fun r111 =>
    (bif r111 then
    (sb 0 a0).bind fun x115 =>
    (spec_l2Gcd N (imx a0 x115) a1).bind fun r116 =>
    some (r116 == 1)
    else
    some false)
    else
    some false)
def spec_ScaleToIntegers_L1 (N : Nat) : Nat → (List (Int × Int)) → Int → Int → Option (Sum ((List Int) × Int) (Int × Int))
  | 0, _, _, _ => none
  | k + 1, x246, x247, x248 =>
    (bif decide (x248 < (x246.length : Int)) then
    (ix x246 x248).bind fun x256 =>
    (spec_IsValidRational N x256.1 x256.2).bind fun r264 =>
    (bif r264 then
    (ix x246 x248).bind fun x268 =>
    (bif decide (x268.1 < 0) then
    some (.inl ([], 0))
    else
    (ix x246 x248).bind fun x283 =>
    (spec_l2Gcd N x247 x283.2).bind fun r291 =>
    (qt x247 r291).bind fun x292 =>
    (ix x246 x248).bind fun x293 =>
    (ml x292 x293.2).bind fun x301 =>
    (bif decide (1000 < x301) then
    some (.inl ([], 0))
    else
    (ad x248 1).bind fun x311 =>
    spec_ScaleToIntegers_L1 N k x246 x301 x311))
    else
    some (.inl ([], 0)))
    else
    some (.inr (x247, x248)))
def spec_ScaleToIntegers_L2 (N : Nat) : Nat → (List (Int × Int)) → Int → (List Int) → Int → Option ((List Int) × Int)
  | 0, _, _, _, _ => none
  | k + 1, x442, x443, x446, x447 =>
    (bif decide (x447 < (x442.length : Int)) then
    (ix x442 x447).bind fun x455 =>
    (ix x442 x447).bind fun x463 =>
    (qt x443 x463.2).bind fun x471 =>
    (ml x455.1 x471).bind fun x472 =>
    (apd 8 x446 [x472]).bind fun x479 =>
    (ad x447 1).bind fun x482 =>
    spec_ScaleToIntegers_L2 N k x442 x443 x479 x482
    else
    some (x446, x447))
def spec_ScaleToIntegers (N : Nat) (a0 : List (Int × Int)) : Option ((List Int) × Int) :=
    (spec_ScaleToIntegers_L1 N N a0 1 0).bind fun s489 =>
    lpS s489 (fun q => some q) fun (x317, x318) =>
    (spec_ScaleToIntegers_L2 N N a0 x317 [] 0).bind fun s488 =>
    lpB s488 fun (x485, x486) =>
    some (x485, x317)
def spec_IsValidBigInt_L1 (N : Nat) : Nat → (List Int) → Int → Option (Sum Bool Int)
  | 0, _, _ => none
  | k + 1, x148, x149 =>
    (bif decide (x149 < (x148.length : Int)) then
    (ix x148 x149).bind fun x156 =>
    (spec_l1In N x156 0 9).bind fun r162 =>
    (bif r162 then
    (ad x149 1).bind fun x166 =>
    spec_IsValidBigInt_L1 N k x148 x166
    else
    some (.inl false))
    else
    some (.inr x149))
def spec_IsValidBigInt (N : Nat) (a0 : List Int) : Option Bool :=
    (spec_IsValidBigInt_L1 N N a0 0).bind fun s179 =>
    lpS s179 (fun q => some q) fun x168 =>
    (bif decide ((a0.length : Int) ≤ 60) then
    (bif ((a0.length : Int) == 0) then
    some true
    else
    (sb (a0.length : Int) 1).bind fun x172 =>
    (ix a0 x172).bind fun x173 =>
    some (x173 != 0))
    else
    some false)
def spec_l3Carry_L1 (N : Nat) : Nat → (List Int) → (List Int) → (List Int) → Int → Int → Option ((List Int) × Int × Int)
  | 0, _, _, _, _, _ => none
  | k + 1, x273, x276, x279, x281, x282 =>
    (bif decide (x282 < (x273.length : Int)) then
    (ix x273 x282).bind fun x290 =>
    (ad x281 x290).bind fun x296 =>
    (rm x296 10).bind fun x298 =>
    (apd 8 x279 [x298]).bind fun x305 =>
    (qt x296 10).bind fun x309 =>
    (ad x282 1).bind fun x310 =>
    spec_l3Carry_L1 N k x273 x276 x305 x309 x310
    else
    (bif decide (0 < x281) then
    (rm x281 10).bind fun x317 =>
    (apd 8 x279 [x317]).bind fun x324 =>
    (qt x281 10).bind fun x328 =>
    (ad x282 1).bind fun x329 =>
    spec_l3Carry_L1 N k x273 x276 x324 x328 x329
    else
    some (x279, x281, x282)))
def spec_l3Carry_L2 (N : Nat) : Nat → (List Int) → (List Int) → Option (List Int)
  | 0, _, _ => none
  | k + 1, x391, x394 =>
    (bif decide (0 < (x394.length : Int)) then
    (sb (x394.length : Int) 1).bind fun x398 =>
    (ix x394 x398).bind fun x399 =>
    (bif (x399 == 0) then
    (sb (x394.length : Int) 1).bind fun x405 =>
    (slc x394 0 x405).bind fun x406 =>
    spec_l3Carry_L2 N k x391 x406
    else
    some x394)
    else
    some x394)
def spec_l3Carry (N : Nat) (a0 : List Int) : Option ((List Int) × Bool) :=
    (spec_l3Carry_L1 N N a0 [] [] 0 0).bind fun s421 =>
    lpB s421 fun (x332, x334, x335) =>
    (spec_l3Carry_L2 N N [] x332).bind fun s420 =>
    lpB s420 fun x412 =>
    (bif decide (60 < (x412.length : Int)) then
    some ([], false)
    else
    some (x412, true))
def spec_MulBigInt_L2 (N : Nat) : Nat → (List Int) → (List Int) → (List Int) → (List Int) → Int → Int → Option ((List Int) × Int)
  | 0, _, _, _, _, _, _ => none
  | k + 1, x273, x276, x279, x282, x283, x284 =>
    (bif decide (x284 < (x276.length : Int)) then
    (ad x283 x284).bind fun x292 =>
    (ad x283 x284).bind fun x293 =>
    (ix x282 x293).bind fun x294 =>
    (ix x273 x283).bind fun x298 =>
    (ix x276 x284).bind fun x304 =>
    (ml x298 x304).bind fun x310 =>
    (ad x294 x310).bind fun x311 =>
    (ix x282 x292).bind fun x312 =>
    (sto x282 x292 x311).bind fun x317 =>
    (ad x284 1).bind fun x318 =>
    spec_MulBigInt_L2 N k x273 x276 x279 x317 x283 x318
    else
    some (x282, x284))
def spec_MulBigInt_L1 (N : Nat) : Nat → (List Int) → (List Int) → (List Int) → (List Int) → Int → Option ((List Int) × Int)
  | 0, _, _, _, _, _ => none
  | k + 1, x253, x256, x259, x262, x263 =>
    (bif decide (x263 < (x253.length : Int)) then
    (spec_MulBigInt_L2 N N x253 x256 x259 x262 x263 0).bind fun s324 =>
    lpB s324 fun (x321, x322) =>
    (ad x263 1).bind fun x323 =>
    spec_MulBigInt_L1 N k x253 x256 x259 x321 x323
    else
    some (x262, x263))
def spec_MulBigInt (N : Nat) (a0 : List Int) (a1 : List Int) : Option ((List Int) × Bool) :=
    (spec_IsValidBigInt N a0).bind fun r116 =>
    (bif r116 then
    (spec_IsValidBigInt N a1).bind fun r120 =>
    (bif r120 then
    (ad (a0.length : Int) (a1.length : Int)).bind fun x125 =>
    (mk 8 (0 : Int) x125).bind fun x129 =>
    (spec_MulBigInt_L1 N N a0 a1 [] x129 0).bind fun s342 =>
    lpB s342 fun (x327, x328) =>
    (spec_l3Carry N x327).bind fun r330 =>
    some (r330.1, r330.2)
    else
    some ([], false))
    else
    some ([], false))
def spec_BigIntFromInt_L1 (N : Nat) : Nat → Int → (List Int) → (List Int) → Option (Int × (List Int))
  | 0, _, _, _ => none
  | k + 1, x176, x179, x182 =>
    (bif decide (0 < x176) then
    (rm x176 10).bind fun x189 =>
    (apd 8 x182 [x189]).bind fun x196 =>
    (qt x176 10).bind fun x200 =>
    spec_BigIntFromInt_L1 N k x200 x179 x196
    else
    some (x176, x182))
def spec_BigIntFromInt (N : Nat) (a0 : Int) : Option (List Int) :=
    (spec_BigIntFromInt_L1 N N a0 [] []).bind fun s208 =>
    lpB s208 fun (x201, x204) =>
    some x204
def spec_PowBigInt_L1 (N : Nat) : Nat → Int → Int → (List Int) → (List Int) → Int → Option (Sum ((List Int) × Bool) ((List Int) × Int))
  | 0, _, _, _, _, _ => none
  | k + 1, x227, x228, x231, x234, x235 =>
    (bif decide (x235 < x228) then
    (spec_BigIntFromInt N x227).bind fun r244 =>
    (spec_MulBigInt N x234 r244).bind fun r249 =>
    (bif r249.2 then
    (ad x235 1).bind fun x263 =>
    spec_PowBigInt_L1 N k x227 x228 x231 r249.1 x263
    else
    some (.inl ([], false)))
    else
    some (.inr (x234, x235)))
def spec_PowBigInt (N : Nat) (a0 : Int) (a1 : Int) : Option ((List Int) × Bool) :=
    (bif decide (a0 < 0) then
    some ([], false)
    else
    (spec_l1In N a1 0 100).bind fun r111 =>
    (bif r111 then
    (spec_BigIntFromInt N 1).bind fun r116 =>
    (spec_PowBigInt_L1 N N a0 a1 [] r116 0).bind fun s272 =>
    lpS s272 (fun q => some q) fun (x268, x269) =>
    some (x268, true)
    else
    some ([], false)))
end Go.Proofs.Ytkpeabpdiffjhaa
