/- What functions of the program come to, written out by a program: none where a bound is passed. -/
import Derived.Test.YtobjjdfgnaanjaaW1D
namespace Go.Proofs.Ytobjjdfgnaanjaa
open Go.RowKit
def laws_toRelation (N : Nat) (a0 : Int) (a1 : List (List Int)) : Option (Int × List (List Int)) :=
    (laws_toIntSS N a1).bind fun r118 =>
    some (a0, r118)
def laws_toDelta (N : Nat) (a0 : ByteArray) (a1 : Int) (a2 : List (List Int)) (a3 : Int) (a4 : List (List Int)) : Option (ByteArray × (Int × List (List Int)) × (Int × List (List Int))) :=
    (laws_toRelation N a1 a2).bind fun r118 =>
    (laws_toRelation N a3 a4).bind fun r125 =>
    some (a0, (r118.1, r118.2), (r125.1, r125.2))
def impl_sameRows_L1 (N : Nat) : Nat → (List (List Int)) → (List (List Int)) → Int → Int → Option (Sum Bool Int)
  | 0, _, _, _, _ => none
  | k + 1, x166, x169, x170, x171 =>
    (bif decide (x171 < x170) then
    (ix x166 x171).bind fun x179 =>
    (ix x169 x171).bind fun x186 =>
    (impl_sameInts N x179 x186).bind fun r193 =>
    (bif r193 then
    (ad x171 1).bind fun x197 =>
    impl_sameRows_L1 N k x166 x169 x170 x197
    else
    some (.inl false))
    else
    some (.inr x171))
def impl_sameRows (N : Nat) (a0 : List (List Int)) (a1 : List (List Int)) : Option Bool :=
    (bif ((a0.length : Int) != (a1.length : Int)) then
    some false
    else
    (impl_sameRows_L1 N N a0 a1 (a0.length : Int) 0).bind fun s201 =>
    lpS s201 (fun q => some q) fun x199 =>
    some true)
def impl_EqualRelations (N : Nat) (a0 : Int) (a1 : List (List Int)) (a2 : Int) (a3 : List (List Int)) : Option Bool :=
    (bif (a0 == a2) then
    (impl_sameRows N a1 a3).bind fun r112 =>
    some r112
    else
    some false)
def impl_EqualDeltas (N : Nat) (a0 : ByteArray) (a1 : Int) (a2 : List (List Int)) (a3 : Int) (a4 : List (List Int)) (a5 : ByteArray) (a6 : Int) (a7 : List (List Int)) (a8 : Int) (a9 : List (List Int)) : Option Bool :=
    (bif (eqS a0 a5) then
    (impl_EqualRelations N a1 a2 a6 a7).bind fun r112 =>
    (bif r112 then
    (impl_EqualRelations N a3 a4 a8 a9).bind fun r116 =>
    some r116
    else
    some false)
    else
    some false)
def laws_eqIntSS_L1 (N : Nat) : Nat → (List (List Int)) → (List (List Int)) → Int → Option (Sum Bool Int)
  | 0, _, _, _ => none
  | k + 1, x164, x167, x168 =>
    (bif decide (x168 < (x164.length : Int)) then
    (ix x164 x168).bind fun x175 =>
    (ix x167 x168).bind fun x182 =>
    (laws_eqIntS N x175 x182).bind fun r189 =>
    (bif r189 then
    (ad x168 1).bind fun x193 =>
    laws_eqIntSS_L1 N k x164 x167 x193
    else
    some (.inl false))
    else
    some (.inr x168))
def laws_eqIntSS (N : Nat) (a0 : List (List Int)) (a1 : List (List Int)) : Option Bool :=
    (bif ((a0.length : Int) != (a1.length : Int)) then
    some false
    else
    (laws_eqIntSS_L1 N N a0 a1 0).bind fun s197 =>
    lpS s197 (fun q => some q) fun x195 =>
    some true)
def laws_eqRelation (N : Nat) (a0 : Int) (a1 : List (List Int)) (a2 : Int) (a3 : List (List Int)) : Option Bool :=
    (bif (a0 != a2) then
    some false
    else
    (laws_eqIntSS N a1 a3).bind fun r116 =>
    (bif r116 then
    some true
    else
    some false))
def laws_eqDelta (N : Nat) (a0 : ByteArray) (a1 : Int) (a2 : List (List Int)) (a3 : Int) (a4 : List (List Int)) (a5 : ByteArray) (a6 : Int) (a7 : List (List Int)) (a8 : Int) (a9 : List (List Int)) : Option Bool :=
    (bif (eqS a0 a5) then
    (laws_eqRelation N a1 a2 a6 a7).bind fun r115 =>
    (bif r115 then
    (laws_eqRelation N a3 a4 a8 a9).bind fun r121 =>
    (bif r121 then
    some true
    else
    some false)
    else
    some false)
    else
    some false)
def laws_FnExactEqualDeltas (N : Nat) (a0 : ByteArray) (a1 : Int) (a2 : List (List Int)) (a3 : Int) (a4 : List (List Int)) (a5 : ByteArray) (a6 : Int) (a7 : List (List Int)) (a8 : Int) (a9 : List (List Int)) : Option Bool :=
    (laws_szDelta N a0 a1 a2 a3 a4 1048576).bind fun r112 =>
    (bif decide (r112 < 0) then
    some true
    else
    (laws_szDelta N a5 a6 a7 a8 a9 r112).bind fun r120 =>
    (bif decide (r120 < 0) then
    some true
    else
    (laws_toDelta N a0 a1 a2 a3 a4).bind fun r130 =>
    (laws_toDelta N a5 a6 a7 a8 a9).bind fun r139 =>
    (spec_EqualDeltas N r130.1 r130.2.1.1 r130.2.1.2 r130.2.2.1 r130.2.2.2 r139.1 r139.2.1.1 r139.2.1.2 r139.2.2.1 r139.2.2.2).bind fun r148 =>
    (laws_toDelta N a0 a1 a2 a3 a4).bind fun r152 =>
    (laws_toDelta N a5 a6 a7 a8 a9).bind fun r165 =>
    (impl_EqualDeltas N r152.1 r152.2.1.1 r152.2.1.2 r152.2.2.1 r152.2.2.2 r165.1 r165.2.1.1 r165.2.1.2 r165.2.2.1 r165.2.2.2).bind fun r178 =>
    (bif (r178 != r148) then
    some false
    else
    (laws_toDelta N a0 a1 a2 a3 a4).bind fun r189 =>
    (laws_eqDelta N r152.1 r152.2.1.1 r152.2.1.2 r152.2.2.1 r152.2.2.2 r189.1 r189.2.1.1 r189.2.1.2 r189.2.2.1 r189.2.2.2).bind fun r206 =>
    (bif r206 then
    (laws_toDelta N a5 a6 a7 a8 a9).bind fun r214 =>
    (laws_eqDelta N r165.1 r165.2.1.1 r165.2.1.2 r165.2.2.1 r165.2.2.2 r214.1 r214.2.1.1 r214.2.1.2 r214.2.2.1 r214.2.2.2).bind fun r233 =>
    (bif r233 then
    some true
    else
    some false)
    else
    some false))))
def impl_copyInts (N : Nat) (a0 : List Int) : Option (List Int) :=
    (apd 8 [] a0).bind fun x109 =>
    some x109
def impl_copyRows_L1 (N : Nat) : Nat → (List (List Int)) → (List (List Int)) → Int → Int → Option ((List (List Int)) × Int)
  | 0, _, _, _, _ => none
  | k + 1, x170, x174, x175, x176 =>
    (bif decide (x176 < x175) then
    (ix x174 x176).bind fun x183 =>
    (impl_copyInts N x183).bind fun r190 =>
    (apd 24 x170 [r190]).bind fun x201 =>
    (ad x176 1).bind fun x204 =>
    impl_copyRows_L1 N k x201 x174 x175 x204
    else
    some (x170, x176))
def impl_copyRows (N : Nat) (a0 : List (List Int)) : Option (List (List Int)) :=
    (impl_copyRows_L1 N N [] a0 (a0.length : Int) 0).bind fun s211 =>
    lpB s211 fun (x207, x209) =>
    some x207
def impl_copyRelation (N : Nat) (a0 : Int) (a1 : List (List Int)) : Option (Int × List (List Int)) :=
    (impl_copyRows N a1).bind fun r113 =>
    some (a0, r113)
end Go.Proofs.Ytobjjdfgnaanjaa
