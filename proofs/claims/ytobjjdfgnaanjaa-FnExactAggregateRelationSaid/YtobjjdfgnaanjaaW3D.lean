/- What functions of the program come to, written out by a program: none where a bound is passed. -/
import Derived.Test.YtobjjdfgnaanjaaW2D
namespace Go.Proofs.Ytobjjdfgnaanjaa
open Go.RowKit
def impl_copyRows_L1 (N : Nat) : Nat → (List (List Int)) → (List (List Int)) → Int → Int → Option ((List (List Int)) × Int)
  | 0, _, _, _, _ => none
  | k + 1, x155, x159, x160, x161 =>
    (bif decide (x161 < x160) then
    (ix x159 x161).bind fun x163 =>
    (impl_copyInts N x163).bind fun r170 =>
    (apd 24 x155 [r170]).bind fun x181 =>
    (ad x161 1).bind fun x184 =>
    impl_copyRows_L1 N k x181 x159 x160 x184
    else
    some (x155, x161))
def impl_copyRows (N : Nat) (a0 : List (List Int)) : Option (List (List Int)) :=
    (impl_copyRows_L1 N N [] a0 (a0.length : Int) 0).bind fun (x187, x189) =>
    some x187
def impl_copyRelation (N : Nat) (a0 : Int) (a1 : List (List Int)) : Option (Int × List (List Int)) :=
    (impl_copyRows N a1).bind fun r111 =>
    some (a0, r111)
def impl_InvertDelta (N : Nat) (a0 : ByteArray) (a1 : Int) (a2 : List (List Int)) (a3 : Int) (a4 : List (List Int)) : Option (ByteArray × (Int × List (List Int)) × (Int × List (List Int))) :=
    (impl_copyRelation N a3 a4).bind fun r111 =>
    (impl_copyRelation N a1 a2).bind fun r117 =>
    some (a0, (r111.1, r111.2), (r117.1, r117.2))
def laws_heldIntS_L1 (N : Nat) : Nat → (List Int) → Int → Int → Option (Sum Int (Int × Int))
  | 0, _, _, _ => none
  | k + 1, x125, x126, x127 =>
    (bif decide (x127 < (x125.length : Int)) then
    (ix x125 x127).bind fun x129 =>
    (bif (x129 != x126) then
    some (.inl (-1))
    else
    (ad x126 1).bind fun x136 =>
    (ad x127 1).bind fun x137 =>
    laws_heldIntS_L1 N k x125 x136 x137)
    else
    some (.inr (x126, x127)))
def laws_heldIntS (N : Nat) (a0 : List Int) (a1 : Int) : Option Int :=
    (laws_heldIntS_L1 N N a0 a1 0).bind fun s140 =>
    lpS s140 (fun q => some q) fun (x138, x139) =>
    some x138
def laws_heldIntSS_L1 (N : Nat) : Nat → (List (List Int)) → Int → Int → Option (Sum Int (Int × Int))
  | 0, _, _, _ => none
  | k + 1, x131, x132, x133 =>
    (bif decide (x133 < (x131.length : Int)) then
    (ix x131 x133).bind fun x135 =>
    (laws_heldIntS N x135 x132).bind fun r142 =>
    (bif decide (r142 < 0) then
    some (.inl (-1))
    else
    (ad x133 1).bind fun x146 =>
    laws_heldIntSS_L1 N k x131 r142 x146)
    else
    some (.inr (x132, x133)))
def laws_heldIntSS (N : Nat) (a0 : List (List Int)) (a1 : Int) : Option Int :=
    (laws_heldIntSS_L1 N N a0 a1 0).bind fun s149 =>
    lpS s149 (fun q => some q) fun (x147, x148) =>
    some x147
def laws_heldRelation (N : Nat) (a0 : Int) (a1 : List (List Int)) (a2 : Int) : Option Int :=
    (laws_heldIntSS N a1 a2).bind fun r105 =>
    (bif decide (r105 < 0) then
    some (-1)
    else
    some r105)
def laws_heldDelta (N : Nat) (a0 : ByteArray) (a1 : Int) (a2 : List (List Int)) (a3 : Int) (a4 : List (List Int)) (a5 : Int) : Option Int :=
    (laws_heldRelation N a1 a2 a5).bind fun r105 =>
    (bif decide (r105 < 0) then
    some (-1)
    else
    (laws_heldRelation N a3 a4 r105).bind fun r109 =>
    (bif decide (r109 < 0) then
    some (-1)
    else
    some r109))
def spec_l1In (N : Nat) (a0 : Int) (a1 : Int) (a2 : Int) : Option Bool :=
    (bif decide (a1 ≤ a0) then
    some (decide (a0 ≤ a2))
    else
    some false)
def spec_l7Find_L1 (N : Nat) : Nat → (List Int) → Int → Int → Option (Sum Int Int)
  | 0, _, _, _ => none
  | k + 1, x122, x123, x124 =>
    (bif decide (x124 < (x122.length : Int)) then
    (ix x122 x124).bind fun x126 =>
    (bif (x126 == x123) then
    some (.inl x124)
    else
    (ad x124 1).bind fun x133 =>
    spec_l7Find_L1 N k x122 x123 x133)
    else
    some (.inr x124))
def spec_l7Find (N : Nat) (a0 : List Int) (a1 : Int) : Option Int :=
    (spec_l7Find_L1 N N a0 a1 0).bind fun s135 =>
    lpS s135 (fun q => some q) fun x134 =>
    some (-1)
def spec_IsPermutation_L1 (N : Nat) : Nat → (List Int) → Int → Option (Sum Bool Int)
  | 0, _, _ => none
  | k + 1, x156, x157 =>
    (bif decide (x157 < (x156.length : Int)) then
    (ix x156 x157).bind fun x159 =>
    (sb (x156.length : Int) 1).bind fun x165 =>
    (spec_l1In N x159 0 x165).bind fun r166 =>
    (bif r166 then
    (slc x156 0 x157).bind fun x168 =>
    (ix x156 x157).bind fun x171 =>
    (spec_l7Find N x168 x171).bind fun r177 =>
    (bif decide (0 ≤ r177) then
    some (.inl false)
    else
    (ad x157 1).bind fun x181 =>
    spec_IsPermutation_L1 N k x156 x181)
    else
    some (.inl false))
    else
    some (.inr x157))
def spec_IsPermutation (N : Nat) (a0 : List Int) : Option Bool :=
    (spec_IsPermutation_L1 N N a0 0).bind fun s185 =>
    lpS s185 (fun q => some q) fun x184 =>
    some (decide ((a0.length : Int) ≤ 5))
def spec_IsStrictlyAscending_L1 (N : Nat) : Nat → (List Int) → Int → Option (Sum Bool Int)
  | 0, _, _ => none
  | k + 1, x140, x141 =>
    (bif decide (x141 < (x140.length : Int)) then
    (ix x140 x141).bind fun x143 =>
    (sb x141 1).bind fun x149 =>
    (ix x140 x149).bind fun x150 =>
    (bif decide (x143 ≤ x150) then
    some (.inl false)
    else
    (ad x141 1).bind fun x159 =>
    spec_IsStrictlyAscending_L1 N k x140 x159)
    else
    some (.inr x141))
def spec_IsStrictlyAscending (N : Nat) (a0 : List Int) : Option Bool :=
    (spec_IsStrictlyAscending_L1 N N a0 1).bind fun s161 =>
    lpS s161 (fun q => some q) fun x160 =>
    some true
def spec_AreValidValues_L1 (N : Nat) : Nat → (List Int) → Int → Option (Sum Bool Int)
  | 0, _, _ => none
  | k + 1, x128, x129 =>
    (bif decide (x129 < (x128.length : Int)) then
    (ix x128 x129).bind fun x131 =>
    (spec_l1In N x131 0 99).bind fun r137 =>
    (bif r137 then
    (ad x129 1).bind fun x141 =>
    spec_AreValidValues_L1 N k x128 x141
    else
    some (.inl false))
    else
    some (.inr x129))
def spec_AreValidValues (N : Nat) (a0 : List Int) : Option Bool :=
    (spec_AreValidValues_L1 N N a0 0).bind fun s143 =>
    lpS s143 (fun q => some q) fun x142 =>
    some true
end Go.Proofs.Ytobjjdfgnaanjaa
