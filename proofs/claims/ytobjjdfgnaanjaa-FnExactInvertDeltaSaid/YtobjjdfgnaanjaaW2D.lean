/- What functions of the program come to, written out by a program: none where a bound is passed. -/
import Derived.Test.YtobjjdfgnaanjaaW1D
namespace Go.Proofs.Ytobjjdfgnaanjaa
open Go.RowKit
def laws_toRelation (N : Nat) (a0 : Int) (a1 : List (List Int)) : Option (Int × List (List Int)) :=
    (laws_toIntSS N a1).bind fun r118 =>
    some (a0, r118)
def laws_toDelta (N : Nat) (a0 : ByteArray) (a1 : Int) (a2 : List (List Int)) (a3 : Int) (a4 : List (List Int)) : Option (ByteArray × (Int × List (List Int)) × (Int × List (List Int))) :=
    (laws_toRelation N a1 a2).bind fun r118 =>
    (laws_toRelation N a3 a4).bind fun r125 =>
    some (a0, (r118.1, r118.2), (r125.1, r125.2))
def impl_sameRows_L1 (N : Nat) : Nat → (List (List Int)) → (List (List Int)) → Int → Int → Option (Sum Bool Int)
  | 0, _, _, _, _ => none
  | k + 1, x166, x169, x170, x171 =>
    (bif decide (x171 < x170) then
    (ix x166 x171).bind fun x179 =>
    (ix x169 x171).bind fun x186 =>
    (impl_sameInts N x179 x186).bind fun r193 =>
    (bif r193 then
    (ad x171 1).bind fun x197 =>
    impl_sameRows_L1 N k x166 x169 x170 x197
    else
    some (.inl false))
    else
    some (.inr x171))
def impl_sameRows (N : Nat) (a0 : List (List Int)) (a1 : List (List Int)) : Option Bool :=
    (bif ((a0.length : Int) != (a1.length : Int)) then
    some false
    else
    (impl_sameRows_L1 N N a0 a1 (a0.length : Int) 0).bind fun s201 =>
    lpS s201 (fun q => some q) fun x199 =>
    some true)
def impl_EqualRelations (N : Nat) (a0 : Int) (a1 : List (List Int)) (a2 : Int) (a3 : List (List Int)) : Option Bool :=
    (bif (a0 == a2) then
    (impl_sameRows N a1 a3).bind fun r112 =>
    some r112
    else
    some false)
def impl_EqualDeltas (N : Nat) (a0 : ByteArray) (a1 : Int) (a2 : List (List Int)) (a3 : Int) (a4 : List (List Int)) (a5 : ByteArray) (a6 : Int) (a7 : List (List Int)) (a8 : Int) (a9 : List (List Int)) : Option Bool :=
    (bif (eqS a0 a5) then
    (impl_EqualRelations N a1 a2 a6 a7).bind fun r112 =>
    (bif r112 then
    (impl_EqualRelations N a3 a4 a8 a9).bind fun r116 =>
    some r116
    else
    some false)
    else
    some false)
def laws_eqIntSS_L1 (N : Nat) : Nat → (List (List Int)) → (List (List Int)) → Int → Option (Sum Bool Int)
  | 0, _, _, _ => none
  | k + 1, x164, x167, x168 =>
    (bif decide (x168 < (x164.length : Int)) then
    (ix x164 x168).bind fun x175 =>
    (ix x167 x168).bind fun x182 =>
    (laws_eqIntS N x175 x182).bind fun r189 =>
    (bif r189 then
    (ad x168 1).bind fun x193 =>
    laws_eqIntSS_L1 N k x164 x167 x193
    else
    some (.inl false))
    else
    some (.inr x168))
def laws_eqIntSS (N : Nat) (a0 : List (List Int)) (a1 : List (List Int)) : Option Bool :=
    (bif ((a0.length : Int) != (a1.length : Int)) then
    some false
    else
    (laws_eqIntSS_L1 N N a0 a1 0).bind fun s197 =>
    lpS s197 (fun q => some q) fun x195 =>
    some true)
def laws_eqRelation (N : Nat) (a0 : Int) (a1 : List (List Int)) (a2 : Int) (a3 : List (List Int)) : Option Bool :=
    (bif (a0 != a2) then
    some false
    else
    (laws_eqIntSS N a1 a3).bind fun r116 =>
    (bif r116 then
    some true
    else
    some false))
def laws_eqDelta (N : Nat) (a0 : ByteArray) (a1 : Int) (a2 : List (List Int)) (a3 : Int) (a4 : List (List Int)) (a5 : ByteArray) (a6 : Int) (a7 : List (List Int)) (a8 : Int) (a9 : List (List Int)) : Option Bool :=
    (bif (eqS a0 a5) then
    (laws_eqRelation N a1 a2 a6 a7).bind fun r115 =>
    (bif r115 then
    (laws_eqRelation N a3 a4 a8 a9).bind fun r121 =>
    (bif r121 then
    some true
    else
    some false)
    else
    some false)
    else
    some false)
def laws_FnExactEqualDeltas (N : Nat) (a0 : ByteArray) (a1 : Int) (a2 : List (List Int)) (a3 : Int) (a4 : List (List Int)) (a5 : ByteArray) (a6 : Int) (a7 : List (List Int)) (a8 : Int) (a9 : List (List Int)) : Option Bool :=
    (laws_szDelta N a0 a1 a2 a3 a4 1048576).bind fun r112 =>
    (bif decide (r112 < 0) then
    some true
    else
    (laws_szDelta N a5 a6 a7 a8 a9 r112).bind fun r120 =>
    (bif decide (r120 < 0) then
    some true
    else
    (laws_toDelta N a0 a1 a2 a3 a4).bind fun r130 =>
    (laws_toDelta N a5 a6 a7 a8 a9).bind fun r140 =>
    (spec_EqualDeltas N r130.1 r130.2.1.1 r130.2.1.2 r130.2.2.1 r130.2.2.2 r140.1 r140.2.1.1 r140.2.1.2 r140.2.2.1 r140.2.2.2).bind fun r150 =>
    (laws_toDelta N a0 a1 a2 a3 a4).bind fun r154 =>
    (laws_toDelta N a5 a6 a7 a8 a9).bind fun r168 =>
    (impl_EqualDeltas N r154.1 r154.2.1.1 r154.2.1.2 r154.2.2.1 r154.2.2.2 r168.1 r168.2.1.1 r168.2.1.2 r168.2.2.1 r168.2.2.2).bind fun r182 =>
    (bif (r182 != r150) then
    some false
    else
    (laws_toDelta N a0 a1 a2 a3 a4).bind fun r193 =>
    (laws_eqDelta N r154.1 r154.2.1.1 r154.2.1.2 r154.2.2.1 r154.2.2.2 r193.1 r193.2.1.1 r193.2.1.2 r193.2.2.1 r193.2.2.2).bind fun r211 =>
    (bif r211 then
    (laws_toDelta N a5 a6 a7 a8 a9).bind fun r219 =>
    (laws_eqDelta N r168.1 r168.2.1.1 r168.2.1.2 r168.2.2.1 r168.2.2.2 r219.1 r219.2.1.1 r219.2.1.2 r219.2.2.1 r219.2.2.2).bind fun r239 =>
    (bif r239 then
    some true
    else
    some false)
    else
    some false))))
def spec_l5Copy_L1 (N : Nat) : Nat → Int → (List (List Int)) → Int → (List (List Int)) → Int → (List (List Int)) → Int → Option ((List (List Int)) × Int)
  | 0, _, _, _, _, _, _, _ => none
  | k + 1, x255, x258, x259, x262, x263, x266, x268 =>
    (bif decide (x268 < (x258.length : Int)) then
    (ix x258 x268).bind fun x276 =>
    (apd 8 [] x276).bind fun x291 =>
    (apd 24 x266 [x291]).bind fun x305 =>
    (ad x268 1).bind fun x310 =>
    spec_l5Copy_L1 N k x255 x258 x259 x262 x263 x305 x310
    else
    some (x266, x268))
def spec_l5Copy (N : Nat) (a0 : Int) (a1 : List (List Int)) : Option (Int × List (List Int)) :=
    (spec_l5Copy_L1 N N a0 a1 0 [] a0 [] 0).bind fun s318 =>
    lpB s318 fun (x313, x315) =>
    some (a0, x313)
def spec_InvertDelta (N : Nat) (a0 : ByteArray) (a1 : Int) (a2 : List (List Int)) (a3 : Int) (a4 : List (List Int)) : Option (ByteArray × (Int × List (List Int)) × (Int × List (List Int))) :=
    (spec_l5Copy N a3 a4).bind fun r111 =>
    (spec_l5Copy N a1 a2).bind fun r122 =>
    some (a0, (r111.1, r111.2), (r122.1, r122.2))
def impl_copyInts (N : Nat) (a0 : List Int) : Option (List Int) :=
    (apd 8 [] a0).bind fun x109 =>
    some x109
end Go.Proofs.Ytobjjdfgnaanjaa
