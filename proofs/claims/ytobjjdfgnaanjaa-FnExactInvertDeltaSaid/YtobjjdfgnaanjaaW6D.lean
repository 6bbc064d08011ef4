/- What functions of the program come to, written out by a program: none where a bound is passed. -/
import Derived.Test.YtobjjdfgnaanjaaW5D
namespace Go.Proofs.Ytobjjdfgnaanjaa
open Go.RowKit
def spec_l25Row_L1 (N : Nat) : Nat → Int → (List Int) → (List Int) → Int → Int → Option (Int × Int)
  | 0, _, _, _, _, _ => none
  | k + 1, x155, x158, x161, x162, x163 =>
    (bif decide (x163 < (x161.length : Int)) then
    (ix x158 x163).bind fun x169 =>
    (ix x161 x163).bind fun x175 =>
    (spec_ValueWeight N x155 x169 x175).bind fun r181 =>
    (spec_SemiringMul N x155 x162 r181).bind fun r182 =>
    (ad x163 1).bind fun x185 =>
    spec_l25Row_L1 N k x155 x158 x161 r182 x185
    else
    some (x162, x163))
def spec_l25Row (N : Nat) (a0 : Int) (a1 : List Int) (a2 : List Int) : Option Int :=
    (spec_SemiringOne N a0).bind fun r103 =>
    (spec_l25Row_L1 N N a0 a1 a2 r103 0).bind fun s189 =>
    lpB s189 fun (x186, x187) =>
    some x186
def spec_AggregateRelation_L1 (N : Nat) : Nat → Int → Int → (List (List Int)) → Int → (List Int) → Option (List Int)
  | 0, _, _, _, _, _ => none
  | k + 1, x172, x173, x176, x177, x180 =>
    (bif decide ((x180.length : Int) < x173) then
    (apd 8 x180 [(x180.length : Int)]).bind fun x191 =>
    spec_AggregateRelation_L1 N k x172 x173 x176 x177 x191
    else
    some x180)
def spec_AggregateRelation_L2 (N : Nat) : Nat → Int → Int → (List (List Int)) → Int → (List Int) → Int → Option (Int × Int)
  | 0, _, _, _, _, _, _ => none
  | k + 1, x240, x241, x244, x245, x248, x249 =>
    (bif decide (x249 < (x244.length : Int)) then
    (ix x244 x249).bind fun x255 =>
    (spec_l25Row N x240 x248 x255).bind fun r262 =>
    (spec_SemiringAdd N x240 x245 r262).bind fun r265 =>
    (ad x249 1).bind fun x268 =>
    spec_AggregateRelation_L2 N k x240 x241 x244 r265 x248 x268
    else
    some (x245, x249))
def spec_AggregateRelation (N : Nat) (a0 : Int) (a1 : Int) (a2 : List (List Int)) : Option Int :=
    (spec_SemiringZero N a0).bind fun r107 =>
    (spec_IsValidSemiring N a0).bind fun r112 =>
    (bif r112 then
    (spec_IsValidRelation N a1 a2).bind fun r116 =>
    (bif r116 then
    (spec_AggregateRelation_L1 N N a0 a1 a2 r107 []).bind fun s273 =>
    lpB s273 fun x196 =>
    (spec_AggregateRelation_L2 N N a0 a1 a2 r107 x196 0).bind fun s272 =>
    lpB s272 fun (x269, x270) =>
    some x269
    else
    some r107)
    else
    some r107)
def impl_clip (N : Nat) (a0 : Int) : Option Int :=
    some (imx 0 (imn a0 1000000000))
def impl_bit (N : Nat) (a0 : Bool) : Option Int :=
    (bif a0 then
    some 1
    else
    some 0)
def impl_SemiringAdd (N : Nat) (a0 : Int) (a1 : Int) (a2 : Int) : Option Int :=
    (impl_clip N a1).bind fun r103 =>
    (impl_clip N a2).bind fun r106 =>
    (bif (a0 == 1) then
    (ad r103 r106).bind fun x115 =>
    (impl_clip N x115).bind fun r116 =>
    some r116
    else
    (bif (a0 == 2) then
    some (imn r103 r106)
    else
    (bif (a0 == 3) then
    (bif decide (0 < r103) then
    (impl_bit N true).bind fun r126 =>
    some r126
    else
    (impl_bit N (decide (0 < r106))).bind fun r129 =>
    some r129)
    else
    (bif (a0 == 4) then
    some (imx r103 r106)
    else
    some 0))))
def impl_SemiringMul (N : Nat) (a0 : Int) (a1 : Int) (a2 : Int) : Option Int :=
    (impl_clip N a1).bind fun r103 =>
    (impl_clip N a2).bind fun r106 =>
    (bif (a0 == 1) then
    (ml r103 r106).bind fun x116 =>
    (impl_clip N x116).bind fun r117 =>
    some r117
    else
    (bif (a0 == 4) then
    (ml r103 r106).bind fun x122 =>
    (impl_clip N x122).bind fun r123 =>
    some r123
    else
    (bif (a0 == 2) then
    (ad r103 r106).bind fun x129 =>
    (impl_clip N x129).bind fun r130 =>
    some r130
    else
    (bif (a0 == 3) then
    (bif decide (0 < r103) then
    (impl_bit N (decide (0 < r106))).bind fun r137 =>
    some r137
    else
    (impl_bit N false).bind fun r140 =>
    some r140)
    else
    some 0))))
def impl_IsValidSemiring (N : Nat) (a0 : Int) : Option Bool :=
    (impl_within N a0 1 4).bind fun r103 =>
    some r103
def impl_SemiringZero (N : Nat) (a0 : Int) : Option Int :=
    (bif (a0 == 2) then
    some 1000000000
    else
    some 0)
def impl_SemiringOne (N : Nat) (a0 : Int) : Option Int :=
    (bif (a0 == 1) then
    some 1
    else
    (bif (a0 == 3) then
    some 1
    else
    (bif (a0 == 4) then
    some 1
    else
    some 0)))
def impl_compareInts (N : Nat) (a0 : Int) (a1 : Int) : Option Int :=
    (bif decide (a0 < a1) then
    some (-1)
    else
    (bif decide (a1 < a0) then
    some 1
    else
    some 0))
def impl_CompareRows_L1 (N : Nat) : Nat → (List Int) → (List Int) → Int → Option (Sum Int Int)
  | 0, _, _, _ => none
  | k + 1, x186, x189, x190 =>
    (bif decide (x190 < (x186.length : Int)) then
    (bif decide (x190 < (x189.length : Int)) then
    (ix x186 x190).bind fun x198 =>
    (ix x189 x190).bind fun x204 =>
    (bif (x198 != x204) then
    (ix x186 x190).bind fun x214 =>
    (ix x189 x190).bind fun x220 =>
    (impl_compareInts N x214 x220).bind fun r226 =>
    some (.inl r226)
    else
    (ad x190 1).bind fun x229 =>
    impl_CompareRows_L1 N k x186 x189 x229)
    else
    some (.inr x190))
    else
    some (.inr x190))
def impl_CompareRows (N : Nat) (a0 : List Int) (a1 : List Int) : Option Int :=
    (impl_CompareRows_L1 N N a0 a1 0).bind fun s235 =>
    lpS s235 (fun q => some q) fun x230 =>
    (impl_compareInts N (a0.length : Int) (a1.length : Int)).bind fun r232 =>
    some r232
def impl_rowsValid_L1 (N : Nat) : Nat → Int → (List (List Int)) → (List (List Int)) → Int → Int → Option (Sum Bool Int)
  | 0, _, _, _, _, _ => none
  | k + 1, x188, x191, x194, x195, x196 =>
    (bif decide (x196 < x195) then
    (ix x194 x196).bind fun x203 =>
    (bif ((x203.length : Int) != x188) then
    some (.inl false)
    else
    (impl_AreValidValues N x203).bind fun r213 =>
    (bif r213 then
    (bif decide (0 < x196) then
    (sb x196 1).bind fun x218 =>
    (ix x191 x218).bind fun x219 =>
    (impl_CompareRows N x219 x203).bind fun r226 =>
    (bif decide (0 ≤ r226) then
    some (.inl false)
    else
    (ad x196 1).bind fun x231 =>
    impl_rowsValid_L1 N k x188 x191 x194 x195 x231)
    else
    (ad x196 1).bind fun x232 =>
    impl_rowsValid_L1 N k x188 x191 x194 x195 x232)
    else
    some (.inl false)))
    else
    some (.inr x196))
def impl_rowsValid (N : Nat) (a0 : Int) (a1 : List (List Int)) : Option Bool :=
    (impl_within N a0 0 5).bind fun r104 =>
    (bif r104 then
    (bif decide (4000 < (a1.length : Int)) then
    some false
    else
    (impl_rowsValid_L1 N N a0 a1 a1 (a1.length : Int) 0).bind fun s236 =>
    lpS s236 (fun q => some q) fun x234 =>
    some true)
    else
    some false)
end Go.Proofs.Ytobjjdfgnaanjaa
