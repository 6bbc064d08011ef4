/- What functions of the program come to, written out by a program: none where a bound is passed. -/
import Derived.Test.YtobjjdfgnaanjaaW4D
namespace Go.Proofs.Ytobjjdfgnaanjaa
open Go.RowKit
def spec_SemiringZero (N : Nat) (a0 : Int) : Option Int :=
    (bif (a0 == 2) then
    some 1000000000
    else
    some 0)
def spec_IsValidRelation_L1 (N : Nat) : Nat → Int → (List (List Int)) → Int → Option (Sum Bool Int)
  | 0, _, _, _ => none
  | k + 1, x226, x229, x230 =>
    (bif decide (x230 < (x229.length : Int)) then
    (ix x229 x230).bind fun x237 =>
    (bif ((x237.length : Int) != x226) then
    some (.inl false)
    else
    (ix x229 x230).bind fun x248 =>
    (spec_AreValidValues N x248).bind fun r255 =>
    (bif r255 then
    (bif decide (0 < x230) then
    (sb x230 1).bind fun x258 =>
    (ix x229 x258).bind fun x259 =>
    (ix x229 x230).bind fun x266 =>
    (spec_CompareRows N x259 x266).bind fun r273 =>
    (bif decide (0 ≤ r273) then
    some (.inl false)
    else
    (ad x230 1).bind fun x278 =>
    spec_IsValidRelation_L1 N k x226 x229 x278)
    else
    (ad x230 1).bind fun x281 =>
    spec_IsValidRelation_L1 N k x226 x229 x281)
    else
    some (.inl false)))
    else
    some (.inr x230))
def spec_IsValidRelation (N : Nat) (a0 : Int) (a1 : List (List Int)) : Option Bool :=
    (spec_l1In N a0 0 5).bind fun r108 =>
    (bif r108 then
    (bif decide (4000 < (a1.length : Int)) then
    some false
    else
    (spec_IsValidRelation_L1 N N a0 a1 0).bind fun s287 =>
    lpS s287 (fun q => some q) fun x285 =>
    some true)
    else
    some false)
def spec_SemiringMul (N : Nat) (a0 : Int) (a1 : Int) (a2 : Int) : Option Int :=
    (spec_l25Clip N a1).bind fun r103 =>
    (spec_l25Clip N a2).bind fun r107 =>
    (bif (a0 == 1) then
    (ml r103 r107).bind fun x117 =>
    (spec_l25Clip N x117).bind fun r118 =>
    some r118
    else
    (bif (a0 == 4) then
    (ml r103 r107).bind fun x123 =>
    (spec_l25Clip N x123).bind fun r124 =>
    some r124
    else
    (bif (a0 == 2) then
    (ad r103 r107).bind fun x130 =>
    (spec_l25Clip N x130).bind fun r131 =>
    some r131
    else
    (bif (a0 == 3) then
    (ml (imn 1 r103) (imn 1 r107)).bind fun x137 =>
    some x137
    else
    some 0))))
def spec_SemiringOne (N : Nat) (a0 : Int) : Option Int :=
    (bif (a0 == 2) then
    some 0
    else
    (spec_IsValidSemiring N a0).bind fun r106 =>
    (bif r106 then
    some 1
    else
    some 0))
def spec_ValueWeight (N : Nat) (a0 : Int) (a1 : Int) (a2 : Int) : Option Int :=
    (spec_IsValidSemiring N a0).bind fun r104 =>
    (bif r104 then
    (spec_l1In N a1 0 4).bind fun r108 =>
    (bif r108 then
    (spec_l1In N a2 0 99).bind fun r112 =>
    (bif r112 then
    (bif (a0 == 1) then
    (ad a2 a1).bind fun x122 =>
    (rm x122 2).bind fun x123 =>
    (ad 1 x123).bind fun x124 =>
    some x124
    else
    (bif (a0 == 3) then
    (ad a2 a1).bind fun x128 =>
    (rm x128 4).bind fun x129 =>
    some (imn 1 x129)
    else
    (ml a2 3).bind fun x131 =>
    (ad x131 a1).bind fun x132 =>
    (rm x132 5).bind fun x133 =>
    (ad 1 x133).bind fun x134 =>
    some x134))
    else
    some 0)
    else
    some 0)
    else
    some 0)
def spec_l25Row_L1 (N : Nat) : Nat → Int → (List Int) → (List Int) → Int → Int → Option (Int × Int)
  | 0, _, _, _, _, _ => none
  | k + 1, x155, x158, x161, x162, x163 =>
    (bif decide (x163 < (x161.length : Int)) then
    (ix x158 x163).bind fun x169 =>
    (ix x161 x163).bind fun x175 =>
    (spec_ValueWeight N x155 x169 x175).bind fun r181 =>
    (spec_SemiringMul N x155 x162 r181).bind fun r182 =>
    (ad x163 1).bind fun x185 =>
    spec_l25Row_L1 N k x155 x158 x161 r182 x185
    else
    some (x162, x163))
def spec_l25Row (N : Nat) (a0 : Int) (a1 : List Int) (a2 : List Int) : Option Int :=
    (spec_SemiringOne N a0).bind fun r103 =>
    (spec_l25Row_L1 N N a0 a1 a2 r103 0).bind fun s189 =>
    lpB s189 fun (x186, x187) =>
    some x186
def spec_AggregateRelation_L1 (N : Nat) : Nat → Int → Int → (List (List Int)) → Int → (List Int) → Option (List Int)
  | 0, _, _, _, _, _ => none
  | k + 1, x156, x157, x160, x161, x164 =>
    (bif decide ((x164.length : Int) < x157) then
    (apd 8 x164 [(x164.length : Int)]).bind fun x175 =>
    spec_AggregateRelation_L1 N k x156 x157 x160 x161 x175
    else
    some x164)
def spec_AggregateRelation_L2 (N : Nat) : Nat → Int → Int → (List (List Int)) → Int → (List Int) → Int → Option (Int × Int)
  | 0, _, _, _, _, _, _ => none
  | k + 1, x224, x225, x228, x229, x232, x233 =>
    (bif decide (x233 < (x228.length : Int)) then
    (ix x228 x233).bind fun x239 =>
    (spec_l25Row N x224 x232 x239).bind fun r246 =>
    (spec_SemiringAdd N x224 x229 r246).bind fun r249 =>
    (ad x233 1).bind fun x252 =>
    spec_AggregateRelation_L2 N k x224 x225 x228 r249 x232 x252
    else
    some (x229, x233))
def spec_AggregateRelation (N : Nat) (a0 : Int) (a1 : Int) (a2 : List (List Int)) : Option Int :=
    (spec_SemiringZero N a0).bind fun r107 =>
    (spec_IsValidSemiring N a0).bind fun r112 =>
    (bif r112 then
    (spec_IsValidRelation N a1 a2).bind fun r116 =>
    (bif r116 then
    (spec_AggregateRelation_L1 N N a0 a1 a2 r107 []).bind fun s257 =>
    lpB s257 fun x180 =>
    (spec_AggregateRelation_L2 N N a0 a1 a2 r107 x180 0).bind fun s256 =>
    lpB s256 fun (x253, x254) =>
    some x253
    else
    some r107)
    else
    some r107)
def impl_clip (N : Nat) (a0 : Int) : Option Int :=
    some (imx 0 (imn a0 1000000000))
def impl_bit (N : Nat) (a0 : Bool) : Option Int :=
    (bif a0 then
    some 1
    else
    some 0)
def impl_SemiringAdd (N : Nat) (a0 : Int) (a1 : Int) (a2 : Int) : Option Int :=
    (impl_clip N a1).bind fun r103 =>
    (impl_clip N a2).bind fun r106 =>
    (bif (a0 == 1) then
    (ad r103 r106).bind fun x115 =>
    (impl_clip N x115).bind fun r116 =>
    some r116
    else
    (bif (a0 == 2) then
    some (imn r103 r106)
    else
    (bif (a0 == 3) then
    (bif decide (0 < r103) then
    (impl_bit N true).bind fun r126 =>
    some r126
    else
    (impl_bit N (decide (0 < r106))).bind fun r129 =>
    some r129)
    else
    (bif (a0 == 4) then
    some (imx r103 r106)
    else
    some 0))))
def impl_SemiringMul (N : Nat) (a0 : Int) (a1 : Int) (a2 : Int) : Option Int :=
    (impl_clip N a1).bind fun r103 =>
    (impl_clip N a2).bind fun r106 =>
    (bif (a0 == 1) then
    (ml r103 r106).bind fun x116 =>
    (impl_clip N x116).bind fun r117 =>
    some r117
    else
    (bif (a0 == 4) then
    (ml r103 r106).bind fun x122 =>
    (impl_clip N x122).bind fun r123 =>
    some r123
    else
    (bif (a0 == 2) then
    (ad r103 r106).bind fun x129 =>
    (impl_clip N x129).bind fun r130 =>
    some r130
    else
    (bif (a0 == 3) then
    (bif decide (0 < r103) then
    (impl_bit N (decide (0 < r106))).bind fun r137 =>
    some r137
    else
    (impl_bit N false).bind fun r140 =>
    some r140)
    else
    some 0))))
def impl_IsValidSemiring (N : Nat) (a0 : Int) : Option Bool :=
    (impl_within N a0 1 4).bind fun r103 =>
    some r103
end Go.Proofs.Ytobjjdfgnaanjaa
