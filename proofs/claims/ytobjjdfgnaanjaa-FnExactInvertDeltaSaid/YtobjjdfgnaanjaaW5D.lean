/- What functions of the program come to, written out by a program: none where a bound is passed. -/
import Derived.Test.YtobjjdfgnaanjaaW4D
namespace Go.Proofs.Ytobjjdfgnaanjaa
open Go.RowKit
def impl_IsStrictlyAscending_L1 (N : Nat) : Nat → (List Int) → Int → Option (Sum Bool Int)
  | 0, _, _ => none
  | k + 1, x156, x157 =>
    (bif decide (x157 < (x156.length : Int)) then
    (sb x157 1).bind fun x164 =>
    (ix x156 x164).bind fun x165 =>
    (ix x156 x157).bind fun x171 =>
    (bif decide (x171 ≤ x165) then
    some (.inl false)
    else
    (ad x157 1).bind fun x181 =>
    impl_IsStrictlyAscending_L1 N k x156 x181)
    else
    some (.inr x157))
def impl_IsStrictlyAscending (N : Nat) (a0 : List Int) : Option Bool :=
    (impl_IsStrictlyAscending_L1 N N a0 1).bind fun s184 =>
    lpS s184 (fun q => some q) fun x182 =>
    some true
def impl_nodeOk_L1 (N : Nat) : Nat → (List Int) → Int → (List Int) → (List (List Int × List Int)) → (List Int) → (List Int) → (List Int) → Int → Int → Option (Sum (Int × Bool) Int)
  | 0, _, _, _, _, _, _, _, _, _ => none
  | k + 1, x231, x232, x235, x238, x241, x244, x247, x248, x249 =>
    (bif decide (x249 < x248) then
    (ix x247 x249).bind fun x256 =>
    (sb x232 1).bind fun x263 =>
    (impl_within N x256 0 x263).bind fun r264 =>
    (bif r264 then
    (ix x231 x256).bind fun x266 =>
    (ix x244 0).bind fun x272 =>
    (ix x231 x272).bind fun x278 =>
    (bif (x266 != x278) then
    some (.inl (0, false))
    else
    (ad x249 1).bind fun x288 =>
    impl_nodeOk_L1 N k x231 x232 x235 x238 x241 x244 x247 x248 x288)
    else
    some (.inl (0, false)))
    else
    some (.inr x249))
def impl_nodeOk_L2 (N : Nat) : Nat → (List Int) → (List Int) → (List Int) → (List (List Int × List Int)) → Int → Int → Option (Sum (Int × Bool) Int)
  | 0, _, _, _, _, _, _ => none
  | k + 1, x358, x361, x364, x367, x368, x369 =>
    (bif decide (x369 < x368) then
    (ix x367 x369).bind fun x376 =>
    (impl_sameNode N x376.1 x376.2 x361 x364).bind fun r392 =>
    (bif r392 then
    some (.inl (0, false))
    else
    (ad x369 1).bind fun x397 =>
    impl_nodeOk_L2 N k x358 x361 x364 x367 x368 x397)
    else
    some (.inr x369))
def impl_nodeOk (N : Nat) (a0 : List Int) (a1 : List (List Int × List Int)) (a2 : List Int) (a3 : Int) : Option (Int × Bool) :=
    (ix a1 a3).bind fun x107 =>
    (bif ((x107.1.length : Int) != (x107.2.length : Int)) then
    some (0, false)
    else
    (impl_AreValidValues N x107.1).bind fun r126 =>
    (bif r126 then
    (impl_IsStrictlyAscending N x107.1).bind fun r130 =>
    (bif r130 then
    (bif ((x107.1.length : Int) == 0) then
    (sb (a1.length : Int) 1).bind fun x138 =>
    some ((a0.length : Int), (a3 == x138))
    else
    (impl_nodeOk_L1 N N a2 a3 a0 a1 x107.1 x107.2 x107.2 (x107.2.length : Int) 0).bind fun s414 =>
    lpS s414 (fun q => some q) fun x292 =>
    (slc a1 1 a3).bind fun x295 =>
    (impl_nodeOk_L2 N N a2 x107.1 x107.2 x295 (x295.length : Int) 0).bind fun s413 =>
    lpS s413 (fun q => some q) fun x398 =>
    (ix x107.2 0).bind fun x400 =>
    (ix a2 x400).bind fun x406 =>
    (ad x406 1).bind fun x412 =>
    some (x412, true))
    else
    some (0, false))
    else
    some (0, false)))
def impl_IsValidFactorization_L1 (N : Nat) : Nat → (List Int) → (List (List Int × List Int)) → (List Int) → Int → Option (Sum Bool ((List Int) × Int))
  | 0, _, _, _, _ => none
  | k + 1, x202, x205, x208, x209 =>
    (bif decide (x209 < (x205.length : Int)) then
    (impl_nodeOk N x202 x205 x208 x209).bind fun r216 =>
    (bif r216.2 then
    (ix x208 x209).bind fun x222 =>
    (sto x208 x209 r216.1).bind fun x227 =>
    (ad x209 1).bind fun x228 =>
    impl_IsValidFactorization_L1 N k x202 x205 x227 x228
    else
    some (.inl false))
    else
    some (.inr (x208, x209)))
def impl_IsValidFactorization (N : Nat) (a0 : List Int) (a1 : List (List Int × List Int)) : Option Bool :=
    (impl_IsPermutation N a0).bind fun r114 =>
    (bif r114 then
    (impl_within N (a1.length : Int) 1 4000).bind fun r118 =>
    (bif r118 then
    (ix a1 0).bind fun x122 =>
    (bif decide (0 < (x122.1.length : Int)) then
    some false
    else
    (ix a1 0).bind fun x134 =>
    (bif decide (0 < (x134.2.length : Int)) then
    some false
    else
    (mk 8 (0 : Int) (a1.length : Int)).bind fun x150 =>
    (impl_IsValidFactorization_L1 N N a0 a1 x150 1).bind fun s242 =>
    lpS s242 (fun q => some q) fun (x232, x233) =>
    (sb (x232.length : Int) 1).bind fun x235 =>
    (ix x232 x235).bind fun x236 =>
    some (x236 == (a0.length : Int))))
    else
    some false)
    else
    some false)
def laws_FnExactIsValidFactorization (N : Nat) (a0 : List Int) (a1 : List (List Int × List Int)) : Option Bool :=
    (laws_szFactorization N a0 a1 1048576).bind fun r108 =>
    (bif decide (r108 < 0) then
    some true
    else
    (laws_toFactorization N a0 a1).bind fun r116 =>
    (spec_IsValidFactorization N r116.1 r116.2).bind fun r123 =>
    (laws_toFactorization N a0 a1).bind fun r127 =>
    (impl_IsValidFactorization N r127.1 r127.2).bind fun r140 =>
    (bif (r140 != r123) then
    some false
    else
    (laws_toFactorization N a0 a1).bind fun r151 =>
    (laws_eqFactorization N r127.1 r127.2 r151.1 r151.2).bind fun r164 =>
    (bif r164 then
    some true
    else
    some false)))
def spec_l25Clip (N : Nat) (a0 : Int) : Option Int :=
    some (imx 0 (imn 1000000000 a0))
def spec_SemiringAdd (N : Nat) (a0 : Int) (a1 : Int) (a2 : Int) : Option Int :=
    (spec_l25Clip N a1).bind fun r103 =>
    (spec_l25Clip N a2).bind fun r107 =>
    (bif (a0 == 1) then
    (ad r103 r107).bind fun x116 =>
    (spec_l25Clip N x116).bind fun r117 =>
    some r117
    else
    (bif (a0 == 2) then
    some (imn r103 r107)
    else
    (bif (a0 == 3) then
    (ad r103 r107).bind fun x126 =>
    some (imn 1 x126)
    else
    (bif (a0 == 4) then
    some (imx r103 r107)
    else
    some 0))))
def spec_IsValidSemiring (N : Nat) (a0 : Int) : Option Bool :=
    (spec_l1In N a0 1 4).bind fun r103 =>
    some r103
def spec_SemiringZero (N : Nat) (a0 : Int) : Option Int :=
    (bif (a0 == 2) then
    some 1000000000
    else
    some 0)
def spec_IsValidRelation_L1 (N : Nat) : Nat → Int → (List (List Int)) → Int → Option (Sum Bool Int)
  | 0, _, _, _ => none
  | k + 1, x226, x229, x230 =>
    (bif decide (x230 < (x229.length : Int)) then
    (ix x229 x230).bind fun x237 =>
    (bif ((x237.length : Int) != x226) then
    some (.inl false)
    else
    (ix x229 x230).bind fun x248 =>
    (spec_AreValidValues N x248).bind fun r255 =>
    (bif r255 then
    (bif decide (0 < x230) then
    (sb x230 1).bind fun x258 =>
    (ix x229 x258).bind fun x259 =>
    (ix x229 x230).bind fun x266 =>
    (spec_CompareRows N x259 x266).bind fun r273 =>
    (bif decide (0 ≤ r273) then
    some (.inl false)
    else
    (ad x230 1).bind fun x278 =>
    spec_IsValidRelation_L1 N k x226 x229 x278)
    else
    (ad x230 1).bind fun x281 =>
    spec_IsValidRelation_L1 N k x226 x229 x281)
    else
    some (.inl false)))
    else
    some (.inr x230))
def spec_IsValidRelation (N : Nat) (a0 : Int) (a1 : List (List Int)) : Option Bool :=
    (spec_l1In N a0 0 5).bind fun r108 =>
    (bif r108 then
    (bif decide (4000 < (a1.length : Int)) then
    some false
    else
    (spec_IsValidRelation_L1 N N a0 a1 0).bind fun s287 =>
    lpS s287 (fun q => some q) fun x285 =>
    some true)
    else
    some false)
def spec_SemiringMul (N : Nat) (a0 : Int) (a1 : Int) (a2 : Int) : Option Int :=
    (spec_l25Clip N a1).bind fun r103 =>
    (spec_l25Clip N a2).bind fun r107 =>
    (bif (a0 == 1) then
    (ml r103 r107).bind fun x117 =>
    (spec_l25Clip N x117).bind fun r118 =>
    some r118
    else
    (bif (a0 == 4) then
    (ml r103 r107).bind fun x123 =>
    (spec_l25Clip N x123).bind fun r124 =>
    some r124
    else
    (bif (a0 == 2) then
    (ad r103 r107).bind fun x130 =>
    (spec_l25Clip N x130).bind fun r131 =>
    some r131
    else
    (bif (a0 == 3) then
    (ml (imn 1 r103) (imn 1 r107)).bind fun x137 =>
    some x137
    else
    some 0))))
def spec_SemiringOne (N : Nat) (a0 : Int) : Option Int :=
    (bif (a0 == 2) then
    some 0
    else
    (spec_IsValidSemiring N a0).bind fun r106 =>
    (bif r106 then
    some 1
    else
    some 0))
def spec_ValueWeight (N : Nat) (a0 : Int) (a1 : Int) (a2 : Int) : Option Int :=
    (spec_IsValidSemiring N a0).bind fun r104 =>
    (bif r104 then
    (spec_l1In N a1 0 4).bind fun r108 =>
    (bif r108 then
    (spec_l1In N a2 0 99).bind fun r112 =>
    (bif r112 then
    (bif (a0 == 1) then
    (ad a2 a1).bind fun x122 =>
    (rm x122 2).bind fun x123 =>
    (ad 1 x123).bind fun x124 =>
    some x124
    else
    (bif (a0 == 3) then
    (ad a2 a1).bind fun x128 =>
    (rm x128 4).bind fun x129 =>
    some (imn 1 x129)
    else
    (ml a2 3).bind fun x131 =>
    (ad x131 a1).bind fun x132 =>
    (rm x132 5).bind fun x133 =>
    (ad 1 x133).bind fun x134 =>
    some x134))
    else
    some 0)
    else
    some 0)
    else
    some 0)
end Go.Proofs.Ytobjjdfgnaanjaa
