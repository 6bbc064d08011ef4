/- What functions of the program come to, written out by a program: none where a bound is passed. -/
import Derived.Test.YtobjjdfgnaanjaaW6D
namespace Go.Proofs.Ytobjjdfgnaanjaa
open Go.RowKit
def impl_IsValidRelation (N : Nat) (a0 : Int) (a1 : List (List Int)) : Option Bool :=
    (impl_rowsValid N a0 a1).bind fun r107 =>
    some r107
def impl_ValueWeight (N : Nat) (a0 : Int) (a1 : Int) (a2 : Int) : Option Int :=
    (impl_IsValidSemiring N a0).bind fun r104 =>
    (bif r104 then
    (impl_within N a1 0 4).bind fun r108 =>
    (bif r108 then
    (impl_within N a2 0 99).bind fun r112 =>
    (bif r112 then
    (bif (a0 == 1) then
    (ad a2 a1).bind fun x122 =>
    (rm x122 2).bind fun x123 =>
    (ad 1 x123).bind fun x124 =>
    some x124
    else
    (bif (a0 == 3) then
    (ad a2 a1).bind fun x128 =>
    (rm x128 4).bind fun x129 =>
    some (imn 1 x129)
    else
    (ml 3 a2).bind fun x131 =>
    (ad x131 a1).bind fun x132 =>
    (rm x132 5).bind fun x133 =>
    (ad 1 x133).bind fun x134 =>
    some x134))
    else
    some 0)
    else
    some 0)
    else
    some 0)
def impl_AggregateRelation_L2 (N : Nat) : Nat → Int → Int → Int → (List (List Int)) → Int → Int → (List Int) → Int → Int → Option (Int × Int)
  | 0, _, _, _, _, _, _, _, _, _ => none
  | k + 1, x244, x245, x246, x249, x250, x251, x254, x255, x256 =>
    (bif decide (x256 < x255) then
    (ix x254 x256).bind fun x263 =>
    (impl_ValueWeight N x244 x256 x263).bind fun r269 =>
    (impl_SemiringMul N x244 x246 r269).bind fun r272 =>
    (ad x256 1).bind fun x275 =>
    impl_AggregateRelation_L2 N k x244 x245 r272 x249 x250 x251 x254 x255 x275
    else
    some (x246, x256))
def impl_AggregateRelation_L1 (N : Nat) : Nat → Int → Int → (List (List Int)) → Int → Int → Option (Int × Int)
  | 0, _, _, _, _, _ => none
  | k + 1, x217, x218, x221, x222, x223 =>
    (bif decide (x223 < x222) then
    (ix x221 x223).bind fun x230 =>
    (impl_SemiringOne N x217).bind fun r238 =>
    (impl_AggregateRelation_L2 N N x217 x218 r238 x221 x222 x223 x230 (x230.length : Int) 0).bind fun s282 =>
    lpB s282 fun (x276, x277) =>
    (impl_SemiringAdd N x217 x218 x276).bind fun r278 =>
    (ad x223 1).bind fun x281 =>
    impl_AggregateRelation_L1 N k x217 r278 x221 x222 x281
    else
    some (x218, x223))
def impl_AggregateRelation (N : Nat) (a0 : Int) (a1 : Int) (a2 : List (List Int)) : Option Int :=
    (impl_SemiringZero N a0).bind fun r107 =>
    (impl_IsValidSemiring N a0).bind fun r112 =>
    (bif r112 then
    (impl_IsValidRelation N a1 a2).bind fun r116 =>
    (bif r116 then
    (impl_AggregateRelation_L1 N N a0 r107 a2 (a2.length : Int) 0).bind fun s286 =>
    lpB s286 fun (x283, x284) =>
    some x283
    else
    some r107)
    else
    some r107)
def laws_FnExactAggregateRelation (N : Nat) (a0 : Int) (a1 : Int) (a2 : List (List Int)) : Option Bool :=
    (laws_szRelation N a1 a2 1048576).bind fun r108 =>
    (bif decide (r108 < 0) then
    some true
    else
    (laws_toRelation N a1 a2).bind fun r116 =>
    (spec_AggregateRelation N a0 r116.1 r116.2).bind fun r121 =>
    (laws_toRelation N a1 a2).bind fun r125 =>
    (impl_AggregateRelation N a0 r125.1 r125.2).bind fun r136 =>
    (bif (r136 != r121) then
    some false
    else
    (laws_toRelation N a1 a2).bind fun r147 =>
    (laws_eqRelation N r125.1 r125.2 r147.1 r147.2).bind fun r155 =>
    (bif r155 then
    some true
    else
    some false)))
def laws_big (N : Nat) (a0 : List Int) : Option Bool :=
    some (decide (1048576 < (a0.length : Int)))
def laws_fresh_L1 (N : Nat) : Nat → (List Int) → Int → (List Int) → Int → Option ((List Int) × Int)
  | 0, _, _, _, _ => none
  | k + 1, x202, x203, x206, x207 =>
    (bif decide (x207 < (x202.length : Int)) then
    (bif decide (x207 < 600) then
    (ix x202 x207).bind fun x214 =>
    (ml (IntKind.i64.wrap x214) 3).bind fun x220 =>
    (rm x207 7).bind fun x221 =>
    (ad x221 1).bind fun x222 =>
    (ml x203 x222).bind fun x223 =>
    (ad x220 x223).bind fun x224 =>
    (apd 1 x206 [(IntKind.u8.wrap x224)]).bind fun x231 =>
    (ad x207 1).bind fun x234 =>
    laws_fresh_L1 N k x202 x203 x231 x234
    else
    some (x206, x207))
    else
    some (x206, x207))
def laws_fresh (N : Nat) (a0 : List Int) (a1 : Int) : Option (List Int) :=
    (laws_fresh_L1 N N a0 a1 ([(IntKind.u8.wrap a1)]) 0).bind fun s240 =>
    lpB s240 fun (x237, x238) =>
    some x237
end Go.Proofs.Ytobjjdfgnaanjaa
