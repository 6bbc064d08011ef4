/- What functions of the program come to, written out by a program: none where a bound is passed. -/
import Derived.Test.YtobjjdfgnaanjaaW4D
namespace Go.Proofs.Ytobjjdfgnaanjaa
open Go.RowKit
def spec_SemiringAdd (N : Nat) (a0 : Int) (a1 : Int) (a2 : Int) : Option Int :=
    (spec_l25Clip N a1).bind fun r101 =>
    (spec_l25Clip N a2).bind fun r104 =>
    (bif (a0 == 1) then
    (ad r101 r104).bind fun x108 =>
    (spec_l25Clip N x108).bind fun r109 =>
    some r109
    else
    (bif (a0 == 2) then
    some (imn r101 r104)
    else
    (bif (a0 == 3) then
    (ad r101 r104).bind fun x114 =>
    some (imn 1 x114)
    else
    (bif (a0 == 4) then
    some (imx r101 r104)
    else
    some 0))))
def spec_IsValidSemiring (N : Nat) (a0 : Int) : Option Bool :=
    (spec_l1In N a0 1 4).bind fun r101 =>
    some r101
def spec_SemiringZero (N : Nat) (a0 : Int) : Option Int :=
    (bif (a0 == 2) then
    some 1000000000
    else
    some 0)
def spec_IsValidRelation_L1 (N : Nat) : Nat → Int → (List (List Int)) → Int → Option (Sum Bool Int)
  | 0, _, _, _ => none
  | k + 1, x203, x206, x207 =>
    (bif decide (x207 < (x206.length : Int)) then
    (ix x206 x207).bind fun x209 =>
    (bif ((x209.length : Int) != x203) then
    some (.inl false)
    else
    (ix x206 x207).bind fun x219 =>
    (spec_AreValidValues N x219).bind fun r226 =>
    (bif r226 then
    (bif decide (0 < x207) then
    (sb x207 1).bind fun x229 =>
    (ix x206 x229).bind fun x230 =>
    (ix x206 x207).bind fun x237 =>
    (spec_CompareRows N x230 x237).bind fun r244 =>
    (bif decide (0 ≤ r244) then
    some (.inl false)
    else
    (ad x207 1).bind fun x248 =>
    spec_IsValidRelation_L1 N k x203 x206 x248)
    else
    (ad x207 1).bind fun x251 =>
    spec_IsValidRelation_L1 N k x203 x206 x251)
    else
    some (.inl false)))
    else
    some (.inr x207))
def spec_IsValidRelation (N : Nat) (a0 : Int) (a1 : List (List Int)) : Option Bool :=
    (spec_l1In N a0 0 5).bind fun r105 =>
    (bif r105 then
    (bif decide (4000 < (a1.length : Int)) then
    some false
    else
    (spec_IsValidRelation_L1 N N a0 a1 0).bind fun s255 =>
    lpS s255 (fun q => some q) fun x254 =>
    some true)
    else
    some false)
def spec_SemiringMul (N : Nat) (a0 : Int) (a1 : Int) (a2 : Int) : Option Int :=
    (spec_l25Clip N a1).bind fun r101 =>
    (spec_l25Clip N a2).bind fun r104 =>
    (bif (a0 == 1) then
    (ml r101 r104).bind fun x108 =>
    (spec_l25Clip N x108).bind fun r109 =>
    some r109
    else
    (bif (a0 == 4) then
    (ml r101 r104).bind fun x113 =>
    (spec_l25Clip N x113).bind fun r114 =>
    some r114
    else
    (bif (a0 == 2) then
    (ad r101 r104).bind fun x118 =>
    (spec_l25Clip N x118).bind fun r119 =>
    some r119
    else
    (bif (a0 == 3) then
    (ml (imn 1 r101) (imn 1 r104)).bind fun x123 =>
    some x123
    else
    some 0))))
def spec_SemiringOne (N : Nat) (a0 : Int) : Option Int :=
    (bif (a0 == 2) then
    some 0
    else
    (spec_IsValidSemiring N a0).bind fun r102 =>
    (bif r102 then
    some 1
    else
    some 0))
def spec_ValueWeight (N : Nat) (a0 : Int) (a1 : Int) (a2 : Int) : Option Int :=
    (spec_IsValidSemiring N a0).bind fun r101 =>
    (bif r101 then
    (spec_l1In N a1 0 4).bind fun r105 =>
    (bif r105 then
    (spec_l1In N a2 0 99).bind fun r109 =>
    (bif r109 then
    (bif (a0 == 1) then
    (ad a2 a1).bind fun x114 =>
    (rm x114 2).bind fun x115 =>
    (ad 1 x115).bind fun x116 =>
    some x116
    else
    (bif (a0 == 3) then
    (ad a2 a1).bind fun x118 =>
    (rm x118 4).bind fun x119 =>
    some (imn 1 x119)
    else
    (ml a2 3).bind fun x120 =>
    (ad x120 a1).bind fun x121 =>
    (rm x121 5).bind fun x122 =>
    (ad 1 x122).bind fun x123 =>
    some x123))
    else
    some 0)
    else
    some 0)
    else
    some 0)
def spec_l25Row_L1 (N : Nat) : Nat → Int → (List Int) → (List Int) → Int → Int → Option (Int × Int)
  | 0, _, _, _, _, _ => none
  | k + 1, x142, x145, x148, x149, x150 =>
    (bif decide (x150 < (x148.length : Int)) then
    (ix x145 x150).bind fun x152 =>
    (ix x148 x150).bind fun x158 =>
    (spec_ValueWeight N x142 x152 x158).bind fun r164 =>
    (spec_SemiringMul N x142 x149 r164).bind fun r165 =>
    (ad x150 1).bind fun x168 =>
    spec_l25Row_L1 N k x142 x145 x148 r165 x168
    else
    some (x149, x150))
def spec_l25Row (N : Nat) (a0 : Int) (a1 : List Int) (a2 : List Int) : Option Int :=
    (spec_SemiringOne N a0).bind fun r101 =>
    (spec_l25Row_L1 N N a0 a1 a2 r101 0).bind fun (x169, x170) =>
    some x169
def spec_AggregateRelation_L1 (N : Nat) : Nat → Int → Int → (List (List Int)) → Int → (List Int) → Option (List Int)
  | 0, _, _, _, _, _ => none
  | k + 1, x143, x144, x147, x148, x151 =>
    (bif decide ((x151.length : Int) < x144) then
    (apd 8 x151 [(x151.length : Int)]).bind fun x159 =>
    spec_AggregateRelation_L1 N k x143 x144 x147 x148 x159
    else
    some x151)
def spec_AggregateRelation_L2 (N : Nat) : Nat → Int → Int → (List (List Int)) → Int → (List Int) → Int → Option (Int × Int)
  | 0, _, _, _, _, _, _ => none
  | k + 1, x197, x198, x201, x202, x205, x206 =>
    (bif decide (x206 < (x201.length : Int)) then
    (ix x201 x206).bind fun x208 =>
    (spec_l25Row N x197 x205 x208).bind fun r215 =>
    (spec_SemiringAdd N x197 x202 r215).bind fun r218 =>
    (ad x206 1).bind fun x221 =>
    spec_AggregateRelation_L2 N k x197 x198 x201 r218 x205 x221
    else
    some (x202, x206))
def spec_AggregateRelation (N : Nat) (a0 : Int) (a1 : Int) (a2 : List (List Int)) : Option Int :=
    (spec_SemiringZero N a0).bind fun r105 =>
    (spec_IsValidSemiring N a0).bind fun r108 =>
    (bif r108 then
    (spec_IsValidRelation N a1 a2).bind fun r112 =>
    (bif r112 then
    (spec_AggregateRelation_L1 N N a0 a1 a2 r105 []).bind fun x164 =>
    (spec_AggregateRelation_L2 N N a0 a1 a2 r105 x164 0).bind fun (x222, x223) =>
    some x222
    else
    some r105)
    else
    some r105)
def impl_clip (N : Nat) (a0 : Int) : Option Int :=
    some (imx 0 (imn a0 1000000000))
def impl_bit (N : Nat) (a0 : Bool) : Option Int :=
    (bif a0 then
    some 1
    else
    some 0)
def impl_SemiringAdd (N : Nat) (a0 : Int) (a1 : Int) (a2 : Int) : Option Int :=
    (impl_clip N a1).bind fun r101 =>
    (impl_clip N a2).bind fun r104 =>
    (bif (a0 == 1) then
    (ad r101 r104).bind fun x108 =>
    (impl_clip N x108).bind fun r109 =>
    some r109
    else
    (bif (a0 == 2) then
    some (imn r101 r104)
    else
    (bif (a0 == 3) then
    (bif decide (0 < r101) then
    (impl_bit N true).bind fun r115 =>
    some r115
    else
    (impl_bit N (decide (0 < r104))).bind fun r118 =>
    some r118)
    else
    (bif (a0 == 4) then
    some (imx r101 r104)
    else
    some 0))))
end Go.Proofs.Ytobjjdfgnaanjaa
