/- What functions of the program come to, written out by a program: none where a bound is passed. -/
import Derived.Test.YtobjjdfgnaanjaaW1D
namespace Go.Proofs.Ytobjjdfgnaanjaa
open Go.RowKit
def laws_toRelation (N : Nat) (a0 : Int) (a1 : List (List Int)) : Option (Int × List (List Int)) :=
    (laws_toIntSS N a1).bind fun r114 =>
    some (a0, r114)
def laws_toDelta (N : Nat) (a0 : ByteArray) (a1 : Int) (a2 : List (List Int)) (a3 : Int) (a4 : List (List Int)) : Option (ByteArray × (Int × List (List Int)) × (Int × List (List Int))) :=
    (laws_toRelation N a1 a2).bind fun r114 =>
    (laws_toRelation N a3 a4).bind fun r120 =>
    some (a0, (r114.1, r114.2), (r120.1, r120.2))
def impl_sameRows_L1 (N : Nat) : Nat → (List (List Int)) → (List (List Int)) → Int → Int → Option (Sum Bool Int)
  | 0, _, _, _, _ => none
  | k + 1, x145, x148, x149, x150 =>
    (bif decide (x150 < x149) then
    (ix x145 x150).bind fun x152 =>
    (ix x148 x150).bind fun x159 =>
    (impl_sameInts N x152 x159).bind fun r166 =>
    (bif r166 then
    (ad x150 1).bind fun x170 =>
    impl_sameRows_L1 N k x145 x148 x149 x170
    else
    some (.inl false))
    else
    some (.inr x150))
def impl_sameRows (N : Nat) (a0 : List (List Int)) (a1 : List (List Int)) : Option Bool :=
    (bif ((a0.length : Int) != (a1.length : Int)) then
    some false
    else
    (impl_sameRows_L1 N N a0 a1 (a0.length : Int) 0).bind fun s172 =>
    lpS s172 (fun q => some q) fun x171 =>
    some true)
def impl_EqualRelations (N : Nat) (a0 : Int) (a1 : List (List Int)) (a2 : Int) (a3 : List (List Int)) : Option Bool :=
    (bif (a0 == a2) then
    (impl_sameRows N a1 a3).bind fun r110 =>
    some r110
    else
    some false)
def impl_EqualDeltas (N : Nat) (a0 : ByteArray) (a1 : Int) (a2 : List (List Int)) (a3 : Int) (a4 : List (List Int)) (a5 : ByteArray) (a6 : Int) (a7 : List (List Int)) (a8 : Int) (a9 : List (List Int)) : Option Bool :=
    (bif (eqS a0 a5) then
    (impl_EqualRelations N a1 a2 a6 a7).bind fun r110 =>
    (bif r110 then
    (impl_EqualRelations N a3 a4 a8 a9).bind fun r114 =>
    some r114
    else
    some false)
    else
    some false)
def laws_eqIntSS_L1 (N : Nat) : Nat → (List (List Int)) → (List (List Int)) → Int → Option (Sum Bool Int)
  | 0, _, _, _ => none
  | k + 1, x145, x148, x149 =>
    (bif decide (x149 < (x145.length : Int)) then
    (ix x145 x149).bind fun x151 =>
    (ix x148 x149).bind fun x158 =>
    (laws_eqIntS N x151 x158).bind fun r165 =>
    (bif r165 then
    (ad x149 1).bind fun x169 =>
    laws_eqIntSS_L1 N k x145 x148 x169
    else
    some (.inl false))
    else
    some (.inr x149))
def laws_eqIntSS (N : Nat) (a0 : List (List Int)) (a1 : List (List Int)) : Option Bool :=
    (bif ((a0.length : Int) != (a1.length : Int)) then
    some false
    else
    (laws_eqIntSS_L1 N N a0 a1 0).bind fun s171 =>
    lpS s171 (fun q => some q) fun x170 =>
    some true)
def laws_eqRelation (N : Nat) (a0 : Int) (a1 : List (List Int)) (a2 : Int) (a3 : List (List Int)) : Option Bool :=
    (bif (a0 != a2) then
    some false
    else
    (laws_eqIntSS N a1 a3).bind fun r110 =>
    (bif r110 then
    some true
    else
    some false))
def laws_eqDelta (N : Nat) (a0 : ByteArray) (a1 : Int) (a2 : List (List Int)) (a3 : Int) (a4 : List (List Int)) (a5 : ByteArray) (a6 : Int) (a7 : List (List Int)) (a8 : Int) (a9 : List (List Int)) : Option Bool :=
    (bif (eqS a0 a5) then
    (laws_eqRelation N a1 a2 a6 a7).bind fun r110 =>
    (bif r110 then
    (laws_eqRelation N a3 a4 a8 a9).bind fun r114 =>
    (bif r114 then
    some true
    else
    some false)
    else
    some false)
    else
    some false)
def laws_FnExactEqualDeltas (N : Nat) (a0 : ByteArray) (a1 : Int) (a2 : List (List Int)) (a3 : Int) (a4 : List (List Int)) (a5 : ByteArray) (a6 : Int) (a7 : List (List Int)) (a8 : Int) (a9 : List (List Int)) : Option Bool :=
    (laws_szDelta N a0 a1 a2 a3 a4 1048576).bind fun r109 =>
    (bif decide (r109 < 0) then
    some true
    else
    (laws_szDelta N a5 a6 a7 a8 a9 r109).bind fun r113 =>
    (bif decide (r113 < 0) then
    some true
    else
    (laws_toDelta N a0 a1 a2 a3 a4).bind fun r119 =>
    (laws_toDelta N a5 a6 a7 a8 a9).bind fun r128 =>
    (spec_EqualDeltas N r119.1 r119.2.1.1 r119.2.1.2 r119.2.2.1 r119.2.2.2 r128.1 r128.2.1.1 r128.2.1.2 r128.2.2.1 r128.2.2.2).bind fun r137 =>
    (laws_toDelta N a0 a1 a2 a3 a4).bind fun r140 =>
    (laws_toDelta N a5 a6 a7 a8 a9).bind fun r152 =>
    (impl_EqualDeltas N r140.1 r140.2.1.1 r140.2.1.2 r140.2.2.1 r140.2.2.2 r152.1 r152.2.1.1 r152.2.1.2 r152.2.2.1 r152.2.2.2).bind fun r164 =>
    (bif (r164 != r137) then
    some false
    else
    (laws_toDelta N a0 a1 a2 a3 a4).bind fun r170 =>
    (laws_eqDelta N r140.1 r140.2.1.1 r140.2.1.2 r140.2.2.1 r140.2.2.2 r170.1 r170.2.1.1 r170.2.1.2 r170.2.2.1 r170.2.2.2).bind fun r187 =>
    (bif r187 then
    (laws_toDelta N a5 a6 a7 a8 a9).bind fun r193 =>
    (laws_eqDelta N r152.1 r152.2.1.1 r152.2.1.2 r152.2.2.1 r152.2.2.2 r193.1 r193.2.1.1 r193.2.1.2 r193.2.2.1 r193.2.2.2).bind fun r212 =>
    (bif r212 then
    some true
    else
    some false)
    else
    some false))))
def spec_l5Copy_L1 (N : Nat) : Nat → Int → (List (List Int)) → Int → (List (List Int)) → Int → (List (List Int)) → Int → Option ((List (List Int)) × Int)
  | 0, _, _, _, _, _, _, _ => none
  | k + 1, x195, x198, x199, x202, x203, x206, x208 =>
    (bif decide (x208 < (x198.length : Int)) then
    (ix x198 x208).bind fun x212 =>
    (apd 8 [] x212).bind fun x227 =>
    (apd 24 x206 [x227]).bind fun x241 =>
    (ad x208 1).bind fun x246 =>
    spec_l5Copy_L1 N k x195 x198 x199 x202 x203 x241 x246
    else
    some (x206, x208))
def spec_l5Copy (N : Nat) (a0 : Int) (a1 : List (List Int)) : Option (Int × List (List Int)) :=
    (spec_l5Copy_L1 N N a0 a1 0 [] a0 [] 0).bind fun (x249, x251) =>
    some (a0, x249)
def spec_InvertDelta (N : Nat) (a0 : ByteArray) (a1 : Int) (a2 : List (List Int)) (a3 : Int) (a4 : List (List Int)) : Option (ByteArray × (Int × List (List Int)) × (Int × List (List Int))) :=
    (spec_l5Copy N a3 a4).bind fun r109 =>
    (spec_l5Copy N a1 a2).bind fun r119 =>
    some (a0, (r109.1, r109.2), (r119.1, r119.2))
def impl_copyInts (N : Nat) (a0 : List Int) : Option (List Int) :=
    (apd 8 [] a0).bind fun x107 =>
    some x107
end Go.Proofs.Ytobjjdfgnaanjaa
