/- What functions of the program come to, written out by a program: none where a bound is passed. -/
import Derived.Test.YtbjfbfjacchjiaaW1D
namespace Go.Proofs.Ytbjfbfjacchjiaa
open Go.RowKit
def impl_sameInts_L1 (N : Nat) : Nat → (List Int) → (List Int) → Int → Int → Option (Sum Bool Int)
  | 0, _, _, _, _ => none
  | k + 1, x160, x163, x164, x165 =>
    (bif decide (x165 < x164) then
    (ix x160 x165).bind fun x173 =>
    (ix x163 x165).bind fun x179 =>
    (bif (x173 != x179) then
    some (.inl false)
    else
    (ad x165 1).bind fun x189 =>
    impl_sameInts_L1 N k x160 x163 x164 x189)
    else
    some (.inr x165))
def impl_sameInts (N : Nat) (a0 : List Int) (a1 : List Int) : Option Bool :=
    (bif ((a0.length : Int) != (a1.length : Int)) then
    some false
    else
    (impl_sameInts_L1 N N a0 a1 (a0.length : Int) 0).bind fun s192 =>
    lpS s192 (fun q => some q) fun x190 =>
    some true)
def impl_sameNode (N : Nat) (a0 : List Int) (a1 : List Int) (a2 : List Int) (a3 : List Int) : Option Bool :=
    (impl_sameInts N a0 a2).bind fun r111 =>
    (bif r111 then
    (impl_sameInts N a1 a3).bind fun r115 =>
    some r115
    else
    some false)
def impl_nodeOk_L1 (N : Nat) : Nat → (List Int) → Int → (List Int) → (List (List Int × List Int)) → (List Int) → (List Int) → (List Int) → Int → Int → Option (Sum (Int × Bool) Int)
  | 0, _, _, _, _, _, _, _, _, _ => none
  | k + 1, x231, x232, x235, x238, x241, x244, x247, x248, x249 =>
    (bif decide (x249 < x248) then
    (ix x247 x249).bind fun x256 =>
    (sb x232 1).bind fun x263 =>
    (impl_within N x256 0 x263).bind fun r264 =>
    (bif r264 then
    (ix x231 x256).bind fun x266 =>
    (ix x244 0).bind fun x272 =>
    (ix x231 x272).bind fun x278 =>
    (bif (x266 != x278) then
    some (.inl (0, false))
    else
    (ad x249 1).bind fun x288 =>
    impl_nodeOk_L1 N k x231 x232 x235 x238 x241 x244 x247 x248 x288)
    else
    some (.inl (0, false)))
    else
    some (.inr x249))
def impl_nodeOk_L2 (N : Nat) : Nat → (List Int) → (List Int) → (List Int) → (List (List Int × List Int)) → Int → Int → Option (Sum (Int × Bool) Int)
  | 0, _, _, _, _, _, _ => none
  | k + 1, x358, x361, x364, x367, x368, x369 =>
    (bif decide (x369 < x368) then
    (ix x367 x369).bind fun x376 =>
    (impl_sameNode N x376.1 x376.2 x361 x364).bind fun r392 =>
    (bif r392 then
    some (.inl (0, false))
    else
    (ad x369 1).bind fun x397 =>
    impl_nodeOk_L2 N k x358 x361 x364 x367 x368 x397)
    else
    some (.inr x369))
def impl_nodeOk (N : Nat) (a0 : List Int) (a1 : List (List Int × List Int)) (a2 : List Int) (a3 : Int) : Option (Int × Bool) :=
    (ix a1 a3).bind fun x107 =>
    (bif ((x107.1.length : Int) != (x107.2.length : Int)) then
    some (0, false)
    else
    (impl_AreValidValues N x107.1).bind fun r126 =>
    (bif r126 then
    (impl_IsStrictlyAscending N x107.1).bind fun r130 =>
    (bif r130 then
    (bif ((x107.1.length : Int) == 0) then
    (sb (a1.length : Int) 1).bind fun x138 =>
    some ((a0.length : Int), (a3 == x138))
    else
    (impl_nodeOk_L1 N N a2 a3 a0 a1 x107.1 x107.2 x107.2 (x107.2.length : Int) 0).bind fun s414 =>
    lpS s414 (fun q => some q) fun x292 =>
    (slc a1 1 a3).bind fun x295 =>
    (impl_nodeOk_L2 N N a2 x107.1 x107.2 x295 (x295.length : Int) 0).bind fun s413 =>
    lpS s413 (fun q => some q) fun x398 =>
    (ix x107.2 0).bind fun x400 =>
    (ix a2 x400).bind fun x406 =>
    (ad x406 1).bind fun x412 =>
    some (x412, true))
    else
    some (0, false))
    else
    some (0, false)))
def impl_IsValidFactorization_L1 (N : Nat) : Nat → (List Int) → (List (List Int × List Int)) → (List Int) → Int → Option (Sum Bool ((List Int) × Int))
  | 0, _, _, _, _ => none
  | k + 1, x202, x205, x208, x209 =>
    (bif decide (x209 < (x205.length : Int)) then
    (impl_nodeOk N x202 x205 x208 x209).bind fun r216 =>
    (bif r216.2 then
    (ix x208 x209).bind fun x222 =>
    (sto x208 x209 r216.1).bind fun x227 =>
    (ad x209 1).bind fun x228 =>
    impl_IsValidFactorization_L1 N k x202 x205 x227 x228
    else
    some (.inl false))
    else
    some (.inr (x208, x209)))
def impl_IsValidFactorization (N : Nat) (a0 : List Int) (a1 : List (List Int × List Int)) : Option Bool :=
    (impl_IsPermutation N a0).bind fun r114 =>
    (bif r114 then
    (impl_within N (a1.length : Int) 1 4000).bind fun r118 =>
    (bif r118 then
    (ix a1 0).bind fun x122 =>
    (bif decide (0 < (x122.1.length : Int)) then
    some false
    else
    (ix a1 0).bind fun x134 =>
    (bif decide (0 < (x134.2.length : Int)) then
    some false
    else
    (mk 8 (0 : Int) (a1.length : Int)).bind fun x150 =>
    (impl_IsValidFactorization_L1 N N a0 a1 x150 1).bind fun s242 =>
    lpS s242 (fun q => some q) fun (x232, x233) =>
    (sb (x232.length : Int) 1).bind fun x235 =>
    (ix x232 x235).bind fun x236 =>
    some (x236 == (a0.length : Int))))
    else
    some false)
    else
    some false)
def impl_counts_L2 (N : Nat) : Nat → (List Int) → Int → (List (List Int × List Int)) → Int → Int → (List Int) → Int → Int → Option ((List Int) × Int)
  | 0, _, _, _, _, _, _, _, _ => none
  | k + 1, x362, x363, x366, x367, x368, x371, x372, x373 =>
    (bif decide (x373 < x372) then
    (ix x371 x373).bind fun x380 =>
    (ix x362 x363).bind fun x388 =>
    (ix x362 x380).bind fun x392 =>
    (ad x388 x392).bind fun x396 =>
    (ix x362 x363).bind fun x397 =>
    (sto x362 x363 (imn 1000000000 x396)).bind fun x402 =>
    (ad x373 1).bind fun x403 =>
    impl_counts_L2 N k x402 x363 x366 x367 x368 x371 x372 x403
    else
    some (x362, x373))
def impl_counts_L1 (N : Nat) : Nat → (List Int) → (List (List Int × List Int)) → Int → Int → Option ((List Int) × Int)
  | 0, _, _, _, _ => none
  | k + 1, x322, x325, x326, x327 =>
    (bif decide (x327 < x326) then
    (ix x325 x327).bind fun x334 =>
    (bif (x327 == 0) then
    (ix x322 0).bind fun x352 =>
    (sto x322 0 1).bind fun x357 =>
    (impl_counts_L2 N N x357 x327 x325 x326 x327 x334.2 (x334.2.length : Int) 0).bind fun s409 =>
    lpB s409 fun (x406, x407) =>
    (ad x327 1).bind fun x408 =>
    impl_counts_L1 N k x406 x325 x326 x408
    else
    (impl_counts_L2 N N x322 x327 x325 x326 x327 x334.2 (x334.2.length : Int) 0).bind fun s417 =>
    lpB s417 fun (x414, x415) =>
    (ad x327 1).bind fun x416 =>
    impl_counts_L1 N k x414 x325 x326 x416)
    else
    some (x322, x327))
def impl_counts (N : Nat) (a0 : List Int) (a1 : List (List Int × List Int)) : Option (List Int) :=
    (mk 8 (0 : Int) (a1.length : Int)).bind fun x110 =>
    (impl_counts_L1 N N x110 a1 (a1.length : Int) 0).bind fun s423 =>
    lpB s423 fun (x420, x421) =>
    some x420
def impl_FactorizedRowCount (N : Nat) (a0 : List Int) (a1 : List (List Int × List Int)) : Option Int :=
    (impl_IsValidFactorization N a0 a1).bind fun r108 =>
    (bif r108 then
    (impl_counts N a0 a1).bind fun r113 =>
    (sb (r113.length : Int) 1).bind fun x119 =>
    (ix r113 x119).bind fun x120 =>
    some x120
    else
    some 0)
def laws_eqIntS_L1 (N : Nat) : Nat → (List Int) → (List Int) → Int → Option (Sum Bool Int)
  | 0, _, _, _ => none
  | k + 1, x158, x161, x162 =>
    (bif decide (x162 < (x158.length : Int)) then
    (ix x158 x162).bind fun x169 =>
    (ix x161 x162).bind fun x175 =>
    (bif (x169 != x175) then
    some (.inl false)
    else
    (ad x162 1).bind fun x185 =>
    laws_eqIntS_L1 N k x158 x161 x185)
    else
    some (.inr x162))
def laws_eqIntS (N : Nat) (a0 : List Int) (a1 : List Int) : Option Bool :=
    (bif ((a0.length : Int) != (a1.length : Int)) then
    some false
    else
    (laws_eqIntS_L1 N N a0 a1 0).bind fun s188 =>
    lpS s188 (fun q => some q) fun x186 =>
    some true)
def laws_eqFactorNode (N : Nat) (a0 : List Int) (a1 : List Int) (a2 : List Int) (a3 : List Int) : Option Bool :=
    (laws_eqIntS N a0 a2).bind fun r112 =>
    (bif r112 then
    (laws_eqIntS N a1 a3).bind fun r118 =>
    (bif r118 then
    some true
    else
    some false)
    else
    some false)
def laws_eqFactorNodeS_L1 (N : Nat) : Nat → (List (List Int × List Int)) → (List (List Int × List Int)) → Int → Option (Sum Bool Int)
  | 0, _, _, _ => none
  | k + 1, x176, x179, x180 =>
    (bif decide (x180 < (x176.length : Int)) then
    (ix x176 x180).bind fun x187 =>
    (ix x179 x180).bind fun x197 =>
    (laws_eqFactorNode N x187.1 x187.2 x197.1 x197.2).bind fun r207 =>
    (bif r207 then
    (ad x180 1).bind fun x211 =>
    laws_eqFactorNodeS_L1 N k x176 x179 x211
    else
    some (.inl false))
    else
    some (.inr x180))
def laws_eqFactorNodeS (N : Nat) (a0 : List (List Int × List Int)) (a1 : List (List Int × List Int)) : Option Bool :=
    (bif ((a0.length : Int) != (a1.length : Int)) then
    some false
    else
    (laws_eqFactorNodeS_L1 N N a0 a1 0).bind fun s215 =>
    lpS s215 (fun q => some q) fun x213 =>
    some true)
def laws_eqFactorization (N : Nat) (a0 : List Int) (a1 : List (List Int × List Int)) (a2 : List Int) (a3 : List (List Int × List Int)) : Option Bool :=
    (laws_eqIntS N a0 a2).bind fun r112 =>
    (bif r112 then
    (laws_eqFactorNodeS N a1 a3).bind fun r118 =>
    (bif r118 then
    some true
    else
    some false)
    else
    some false)
def laws_FnExactFactorizedRowCount (N : Nat) (a0 : List Int) (a1 : List (List Int × List Int)) : Option Bool :=
    (laws_szFactorization N a0 a1 1048576).bind fun r108 =>
    (bif decide (r108 < 0) then
    some true
    else
    (laws_toFactorization N a0 a1).bind fun r116 =>
    (spec_FactorizedRowCount N r116.1 r116.2).bind fun r123 =>
    (laws_toFactorization N a0 a1).bind fun r127 =>
    (impl_FactorizedRowCount N r127.1 r127.2).bind fun r140 =>
    (bif (r140 != r123) then
    some false
    else
    (laws_toFactorization N a0 a1).bind fun r151 =>
    (laws_eqFactorization N r127.1 r127.2 r151.1 r151.2).bind fun r158 =>
    (bif r158 then
    some true
    else
    some false)))
def spec_FactorizedPrefixCount_L1 (N : Nat) : Nat → (List Int) → (List Int) → (List (List Int × List Int)) → (List Int) → Int → Int → Option (Sum Int (Int × Int))
  | 0, _, _, _, _, _, _ => none
  | k + 1, x221, x224, x227, x230, x231, x232 =>
    (bif decide (x232 < (x221.length : Int)) then
    (ix x227 x231).bind fun x239 =>
    (ix x221 x232).bind fun x249 =>
    (spec_l7Find N x239.1 x249).bind fun r255 =>
    (bif decide (r255 < 0) then
    some (.inl 0)
    else
    (ix x227 x231).bind fun x262 =>
    (ix x262.2 r255).bind fun x272 =>
    (ad x232 1).bind fun x278 =>
    spec_FactorizedPrefixCount_L1 N k x221 x224 x227 x230 x272 x278)
    else
    some (.inr (x231, x232)))
def spec_FactorizedPrefixCount (N : Nat) (a0 : List Int) (a1 : List (List Int × List Int)) (a2 : List Int) : Option Int :=
    (spec_IsValidFactorization N a0 a1).bind fun r108 =>
    (bif r108 then
    (bif decide ((a0.length : Int) < (a2.length : Int)) then
    some 0
    else
    (spec_l23Counts N a0 a1).bind fun r115 =>
    (sb (a1.length : Int) 1).bind fun x121 =>
    (spec_FactorizedPrefixCount_L1 N N a2 a0 a1 r115 x121 0).bind fun s286 =>
    lpS s286 (fun q => some q) fun (x279, x280) =>
    (ix r115 x279).bind fun x282 =>
    some x282)
    else
    some 0)
end Go.Proofs.Ytbjfbfjacchjiaa
