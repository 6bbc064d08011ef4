/- What functions of the program come to, written out by a program: none where a bound is passed. -/
import Derived.Test.YtdingjlefilafaaW0D
namespace Go.Proofs.Ytdingjlefilafaa
open Go.RowKit
def impl_indexOf_L1 (N : Nat) : Nat → Int → (List Int) → Int → Int → Option (Sum Int Int)
  | 0, _, _, _, _ => none
  | k + 1, x138, x141, x142, x143 =>
    (bif decide (x143 < x142) then
    (ix x141 x143).bind fun x150 =>
    (bif (x150 == x138) then
    some (.inl x143)
    else
    (ad x143 1).bind fun x159 =>
    impl_indexOf_L1 N k x138 x141 x142 x159)
    else
    some (.inr x143))
def impl_indexOf (N : Nat) (a0 : List Int) (a1 : Int) : Option Int :=
    (impl_indexOf_L1 N N a1 a0 (a0.length : Int) 0).bind fun s162 =>
    lpS s162 (fun q => some q) fun x160 =>
    some (-1)
def impl_hasInt (N : Nat) (a0 : List Int) (a1 : Int) : Option Bool :=
    (impl_indexOf N a0 a1).bind fun r103 =>
    some (decide (0 ≤ r103))
def impl_isSetOf_L1 (N : Nat) : Nat → (List Int) → Int → (List Int) → Int → Int → Option (Sum Bool Int)
  | 0, _, _, _, _, _ => none
  | k + 1, x164, x165, x168, x169, x170 =>
    (bif decide (x170 < x169) then
    (ix x168 x170).bind fun x177 =>
    (sb x165 1).bind fun x184 =>
    (impl_within N x177 0 x184).bind fun r185 =>
    (bif r185 then
    (slc x164 0 x170).bind fun x189 =>
    (impl_hasInt N x189 x177).bind fun r192 =>
    (bif r192 then
    some (.inl false)
    else
    (ad x170 1).bind fun x197 =>
    impl_isSetOf_L1 N k x164 x165 x168 x169 x197)
    else
    some (.inl false))
    else
    some (.inr x170))
def impl_isSetOf (N : Nat) (a0 : List Int) (a1 : Int) : Option Bool :=
    (impl_isSetOf_L1 N N a0 a1 a0 (a0.length : Int) 0).bind fun s201 =>
    lpS s201 (fun q => some q) fun x199 =>
    some true
def impl_IsPermutation (N : Nat) (a0 : List Int) : Option Bool :=
    (bif decide ((a0.length : Int) ≤ 5) then
    (impl_isSetOf N a0 (a0.length : Int)).bind fun r104 =>
    some r104
    else
    some false)
def impl_sameInts_L1 (N : Nat) : Nat → (List Int) → (List Int) → Int → Int → Option (Sum Bool Int)
  | 0, _, _, _, _ => none
  | k + 1, x160, x163, x164, x165 =>
    (bif decide (x165 < x164) then
    (ix x160 x165).bind fun x173 =>
    (ix x163 x165).bind fun x179 =>
    (bif (x173 != x179) then
    some (.inl false)
    else
    (ad x165 1).bind fun x189 =>
    impl_sameInts_L1 N k x160 x163 x164 x189)
    else
    some (.inr x165))
def impl_sameInts (N : Nat) (a0 : List Int) (a1 : List Int) : Option Bool :=
    (bif ((a0.length : Int) != (a1.length : Int)) then
    some false
    else
    (impl_sameInts_L1 N N a0 a1 (a0.length : Int) 0).bind fun s192 =>
    lpS s192 (fun q => some q) fun x190 =>
    some true)
def impl_sameNode (N : Nat) (a0 : List Int) (a1 : List Int) (a2 : List Int) (a3 : List Int) : Option Bool :=
    (impl_sameInts N a0 a2).bind fun r111 =>
    (bif r111 then
    (impl_sameInts N a1 a3).bind fun r115 =>
    some r115
    else
    some false)
def impl_AreValidValues_L1 (N : Nat) : Nat → (List Int) → Int → Int → Option (Sum Bool Int)
  | 0, _, _, _ => none
  | k + 1, x146, x147, x148 =>
    (bif decide (x148 < x147) then
    (ix x146 x148).bind fun x155 =>
    (impl_within N x155 0 99).bind fun r162 =>
    (bif r162 then
    (ad x148 1).bind fun x166 =>
    impl_AreValidValues_L1 N k x146 x147 x166
    else
    some (.inl false))
    else
    some (.inr x148))
def impl_AreValidValues (N : Nat) (a0 : List Int) : Option Bool :=
    (impl_AreValidValues_L1 N N a0 (a0.length : Int) 0).bind fun s170 =>
    lpS s170 (fun q => some q) fun x168 =>
    some true
def impl_IsStrictlyAscending_L1 (N : Nat) : Nat → (List Int) → Int → Option (Sum Bool Int)
  | 0, _, _ => none
  | k + 1, x156, x157 =>
    (bif decide (x157 < (x156.length : Int)) then
    (sb x157 1).bind fun x164 =>
    (ix x156 x164).bind fun x165 =>
    (ix x156 x157).bind fun x171 =>
    (bif decide (x171 ≤ x165) then
    some (.inl false)
    else
    (ad x157 1).bind fun x181 =>
    impl_IsStrictlyAscending_L1 N k x156 x181)
    else
    some (.inr x157))
def impl_IsStrictlyAscending (N : Nat) (a0 : List Int) : Option Bool :=
    (impl_IsStrictlyAscending_L1 N N a0 1).bind fun s184 =>
    lpS s184 (fun q => some q) fun x182 =>
    some true
def impl_nodeOk_L1 (N : Nat) : Nat → (List Int) → Int → (List Int) → (List (List Int × List Int)) → (List Int) → (List Int) → (List Int) → Int → Int → Option (Sum (Int × Bool) Int)
  | 0, _, _, _, _, _, _, _, _, _ => none
  | k + 1, x231, x232, x235, x238, x241, x244, x247, x248, x249 =>
    (bif decide (x249 < x248) then
    (ix x247 x249).bind fun x256 =>
    (sb x232 1).bind fun x263 =>
    (impl_within N x256 0 x263).bind fun r264 =>
    (bif r264 then
    (ix x231 x256).bind fun x266 =>
    (ix x244 0).bind fun x272 =>
    (ix x231 x272).bind fun x278 =>
    (bif (x266 != x278) then
    some (.inl (0, false))
    else
    (ad x249 1).bind fun x288 =>
    impl_nodeOk_L1 N k x231 x232 x235 x238 x241 x244 x247 x248 x288)
    else
    some (.inl (0, false)))
    else
    some (.inr x249))
def impl_nodeOk_L2 (N : Nat) : Nat → (List Int) → (List Int) → (List Int) → (List (List Int × List Int)) → Int → Int → Option (Sum (Int × Bool) Int)
  | 0, _, _, _, _, _, _ => none
  | k + 1, x358, x361, x364, x367, x368, x369 =>
    (bif decide (x369 < x368) then
    (ix x367 x369).bind fun x376 =>
    (impl_sameNode N x376.1 x376.2 x361 x364).bind fun r392 =>
    (bif r392 then
    some (.inl (0, false))
    else
    (ad x369 1).bind fun x397 =>
    impl_nodeOk_L2 N k x358 x361 x364 x367 x368 x397)
    else
    some (.inr x369))
def impl_nodeOk (N : Nat) (a0 : List Int) (a1 : List (List Int × List Int)) (a2 : List Int) (a3 : Int) : Option (Int × Bool) :=
    (ix a1 a3).bind fun x107 =>
    (bif ((x107.1.length : Int) != (x107.2.length : Int)) then
    some (0, false)
    else
    (impl_AreValidValues N x107.1).bind fun r126 =>
    (bif r126 then
    (impl_IsStrictlyAscending N x107.1).bind fun r130 =>
    (bif r130 then
    (bif ((x107.1.length : Int) == 0) then
    (sb (a1.length : Int) 1).bind fun x138 =>
    some ((a0.length : Int), (a3 == x138))
    else
    (impl_nodeOk_L1 N N a2 a3 a0 a1 x107.1 x107.2 x107.2 (x107.2.length : Int) 0).bind fun s414 =>
    lpS s414 (fun q => some q) fun x292 =>
    (slc a1 1 a3).bind fun x295 =>
    (impl_nodeOk_L2 N N a2 x107.1 x107.2 x295 (x295.length : Int) 0).bind fun s413 =>
    lpS s413 (fun q => some q) fun x398 =>
    (ix x107.2 0).bind fun x400 =>
    (ix a2 x400).bind fun x406 =>
    (ad x406 1).bind fun x412 =>
    some (x412, true))
    else
    some (0, false))
    else
    some (0, false)))
def impl_IsValidFactorization_L1 (N : Nat) : Nat → (List Int) → (List (List Int × List Int)) → (List Int) → Int → Option (Sum Bool ((List Int) × Int))
  | 0, _, _, _, _ => none
  | k + 1, x202, x205, x208, x209 =>
    (bif decide (x209 < (x205.length : Int)) then
    (impl_nodeOk N x202 x205 x208 x209).bind fun r216 =>
    (bif r216.2 then
    (ix x208 x209).bind fun x222 =>
    (sto x208 x209 r216.1).bind fun x227 =>
    (ad x209 1).bind fun x228 =>
    impl_IsValidFactorization_L1 N k x202 x205 x227 x228
    else
    some (.inl false))
    else
    some (.inr (x208, x209)))
def impl_IsValidFactorization (N : Nat) (a0 : List Int) (a1 : List (List Int × List Int)) : Option Bool :=
    (impl_IsPermutation N a0).bind fun r114 =>
    (bif r114 then
    (impl_within N (a1.length : Int) 1 4000).bind fun r118 =>
    (bif r118 then
    (ix a1 0).bind fun x122 =>
    (bif decide (0 < (x122.1.length : Int)) then
    some false
    else
    (ix a1 0).bind fun x134 =>
    (bif decide (0 < (x134.2.length : Int)) then
    some false
    else
    (mk 8 (0 : Int) (a1.length : Int)).bind fun x150 =>
    (impl_IsValidFactorization_L1 N N a0 a1 x150 1).bind fun s242 =>
    lpS s242 (fun q => some q) fun (x232, x233) =>
    (sb (x232.length : Int) 1).bind fun x235 =>
    (ix x232 x235).bind fun x236 =>
    some (x236 == (a0.length : Int))))
    else
    some false)
    else
    some false)
def impl_counts_L2 (N : Nat) : Nat → (List Int) → Int → (List (List Int × List Int)) → Int → Int → (List Int) → Int → Int → Option ((List Int) × Int)
  | 0, _, _, _, _, _, _, _, _ => none
  | k + 1, x362, x363, x366, x367, x368, x371, x372, x373 =>
    (bif decide (x373 < x372) then
    (ix x371 x373).bind fun x380 =>
    (ix x362 x363).bind fun x388 =>
    (ix x362 x380).bind fun x392 =>
    (ad x388 x392).bind fun x396 =>
    (ix x362 x363).bind fun x397 =>
    (sto x362 x363 (imn 1000000000 x396)).bind fun x402 =>
    (ad x373 1).bind fun x403 =>
    impl_counts_L2 N k x402 x363 x366 x367 x368 x371 x372 x403
    else
    some (x362, x373))
def impl_counts_L1 (N : Nat) : Nat → (List Int) → (List (List Int × List Int)) → Int → Int → Option ((List Int) × Int)
  | 0, _, _, _, _ => none
  | k + 1, x322, x325, x326, x327 =>
    (bif decide (x327 < x326) then
    (ix x325 x327).bind fun x334 =>
    (bif (x327 == 0) then
    (ix x322 0).bind fun x352 =>
    (sto x322 0 1).bind fun x357 =>
    (impl_counts_L2 N N x357 x327 x325 x326 x327 x334.2 (x334.2.length : Int) 0).bind fun s409 =>
    lpB s409 fun (x406, x407) =>
    (ad x327 1).bind fun x408 =>
    impl_counts_L1 N k x406 x325 x326 x408
    else
    (impl_counts_L2 N N x322 x327 x325 x326 x327 x334.2 (x334.2.length : Int) 0).bind fun s417 =>
    lpB s417 fun (x414, x415) =>
    (ad x327 1).bind fun x416 =>
    impl_counts_L1 N k x414 x325 x326 x416)
    else
    some (x322, x327))
def impl_counts (N : Nat) (a0 : List Int) (a1 : List (List Int × List Int)) : Option (List Int) :=
    (mk 8 (0 : Int) (a1.length : Int)).bind fun x110 =>
    (impl_counts_L1 N N x110 a1 (a1.length : Int) 0).bind fun s423 =>
    lpB s423 fun (x420, x421) =>
    some x420
def impl_FactorizedRowCount (N : Nat) (a0 : List Int) (a1 : List (List Int × List Int)) : Option Int :=
    (impl_IsValidFactorization N a0 a1).bind fun r108 =>
    (bif r108 then
    (impl_counts N a0 a1).bind fun r113 =>
    (sb (r113.length : Int) 1).bind fun x119 =>
    (ix r113 x119).bind fun x120 =>
    some x120
    else
    some 0)
end Go.Proofs.Ytdingjlefilafaa
