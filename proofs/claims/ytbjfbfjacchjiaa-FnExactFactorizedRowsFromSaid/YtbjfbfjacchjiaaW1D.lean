/- What functions of the program come to, written out by a program: none where a bound is passed. -/
import Derived.Test.YtbjfbfjacchjiaaW0D
namespace Go.Proofs.Ytbjfbfjacchjiaa
open Go.RowKit
def spec_FactorizedRowCount (N : Nat) (a0 : List Int) (a1 : List (List Int × List Int)) : Option Int :=
    (spec_IsValidFactorization N a0 a1).bind fun r108 =>
    (bif r108 then
    (spec_l23Counts N a0 a1).bind fun r113 =>
    (sb (r113.length : Int) 1).bind fun x119 =>
    (ix r113 x119).bind fun x120 =>
    some x120
    else
    some 0)
def laws_toIntS_L1 (N : Nat) : Nat → (List Int) → (List Int) → Int → Option ((List Int) × Int)
  | 0, _, _, _ => none
  | k + 1, x154, x157, x158 =>
    (bif decide (x158 < (x154.length : Int)) then
    (ix x154 x158).bind fun x164 =>
    (ix x157 x158).bind fun x170 =>
    (sto x157 x158 x164).bind fun x175 =>
    (ad x158 1).bind fun x176 =>
    laws_toIntS_L1 N k x154 x175 x176
    else
    some (x157, x158))
def laws_toIntS (N : Nat) (a0 : List Int) : Option (List Int) :=
    (mk 8 (0 : Int) (a0.length : Int)).bind fun x106 =>
    (laws_toIntS_L1 N N a0 x106 0).bind fun s182 =>
    lpB s182 fun (x179, x180) =>
    some x179
def laws_toFactorNode (N : Nat) (a0 : List Int) (a1 : List Int) : Option (List Int × List Int) :=
    (laws_toIntS N a0).bind fun r116 =>
    (laws_toIntS N a1).bind fun r123 =>
    some (r116, r123)
def laws_toFactorNodeS_L1 (N : Nat) : Nat → (List (List Int × List Int)) → (List (List Int × List Int)) → Int → Option ((List (List Int × List Int)) × Int)
  | 0, _, _, _ => none
  | k + 1, x190, x193, x194 =>
    (bif decide (x194 < (x190.length : Int)) then
    (ix x190 x194).bind fun x200 =>
    (laws_toFactorNode N x200.1 x200.2).bind fun r210 =>
    (ix x193 x194).bind fun x217 =>
    (sto x193 x194 (r210.1, r210.2)).bind fun x229 =>
    (ad x194 1).bind fun x230 =>
    laws_toFactorNodeS_L1 N k x190 x229 x230
    else
    some (x193, x194))
def laws_toFactorNodeS (N : Nat) (a0 : List (List Int × List Int)) : Option (List (List Int × List Int)) :=
    (mk 48 (([], []) : List Int × List Int) (a0.length : Int)).bind fun x106 =>
    (laws_toFactorNodeS_L1 N N a0 x106 0).bind fun s236 =>
    lpB s236 fun (x233, x234) =>
    some x233
def laws_toFactorization (N : Nat) (a0 : List Int) (a1 : List (List Int × List Int)) : Option (List Int × List (List Int × List Int)) :=
    (laws_toIntS N a0).bind fun r116 =>
    (laws_toFactorNodeS N a1).bind fun r123 =>
    some (r116, r123)
def impl_within (N : Nat) (a0 : Int) (a1 : Int) (a2 : Int) : Option Bool :=
    (bif decide (a1 ≤ a0) then
    some (decide (a0 ≤ a2))
    else
    some false)
def impl_indexOf_L1 (N : Nat) : Nat → Int → (List Int) → Int → Int → Option (Sum Int Int)
  | 0, _, _, _, _ => none
  | k + 1, x138, x141, x142, x143 =>
    (bif decide (x143 < x142) then
    (ix x141 x143).bind fun x150 =>
    (bif (x150 == x138) then
    some (.inl x143)
    else
    (ad x143 1).bind fun x159 =>
    impl_indexOf_L1 N k x138 x141 x142 x159)
    else
    some (.inr x143))
def impl_indexOf (N : Nat) (a0 : List Int) (a1 : Int) : Option Int :=
    (impl_indexOf_L1 N N a1 a0 (a0.length : Int) 0).bind fun s162 =>
    lpS s162 (fun q => some q) fun x160 =>
    some (-1)
def impl_hasInt (N : Nat) (a0 : List Int) (a1 : Int) : Option Bool :=
    (impl_indexOf N a0 a1).bind fun r103 =>
    some (decide (0 ≤ r103))
def impl_isSetOf_L1 (N : Nat) : Nat → (List Int) → Int → (List Int) → Int → Int → Option (Sum Bool Int)
  | 0, _, _, _, _, _ => none
  | k + 1, x164, x165, x168, x169, x170 =>
    (bif decide (x170 < x169) then
    (ix x168 x170).bind fun x177 =>
    (sb x165 1).bind fun x184 =>
    (impl_within N x177 0 x184).bind fun r185 =>
    (bif r185 then
    (slc x164 0 x170).bind fun x189 =>
    (impl_hasInt N x189 x177).bind fun r192 =>
    (bif r192 then
    some (.inl false)
    else
    (ad x170 1).bind fun x197 =>
    impl_isSetOf_L1 N k x164 x165 x168 x169 x197)
    else
    some (.inl false))
    else
    some (.inr x170))
def impl_isSetOf (N : Nat) (a0 : List Int) (a1 : Int) : Option Bool :=
    (impl_isSetOf_L1 N N a0 a1 a0 (a0.length : Int) 0).bind fun s201 =>
    lpS s201 (fun q => some q) fun x199 =>
    some true
def impl_IsPermutation (N : Nat) (a0 : List Int) : Option Bool :=
    (bif decide ((a0.length : Int) ≤ 5) then
    (impl_isSetOf N a0 (a0.length : Int)).bind fun r104 =>
    some r104
    else
    some false)
def impl_AreValidValues_L1 (N : Nat) : Nat → (List Int) → Int → Int → Option (Sum Bool Int)
  | 0, _, _, _ => none
  | k + 1, x146, x147, x148 =>
    (bif decide (x148 < x147) then
    (ix x146 x148).bind fun x155 =>
    (impl_within N x155 0 99).bind fun r162 =>
    (bif r162 then
    (ad x148 1).bind fun x166 =>
    impl_AreValidValues_L1 N k x146 x147 x166
    else
    some (.inl false))
    else
    some (.inr x148))
def impl_AreValidValues (N : Nat) (a0 : List Int) : Option Bool :=
    (impl_AreValidValues_L1 N N a0 (a0.length : Int) 0).bind fun s170 =>
    lpS s170 (fun q => some q) fun x168 =>
    some true
def impl_IsStrictlyAscending_L1 (N : Nat) : Nat → (List Int) → Int → Option (Sum Bool Int)
  | 0, _, _ => none
  | k + 1, x156, x157 =>
    (bif decide (x157 < (x156.length : Int)) then
    (sb x157 1).bind fun x164 =>
    (ix x156 x164).bind fun x165 =>
    (ix x156 x157).bind fun x171 =>
    (bif decide (x171 ≤ x165) then
    some (.inl false)
    else
    (ad x157 1).bind fun x181 =>
    impl_IsStrictlyAscending_L1 N k x156 x181)
    else
    some (.inr x157))
def impl_IsStrictlyAscending (N : Nat) (a0 : List Int) : Option Bool :=
    (impl_IsStrictlyAscending_L1 N N a0 1).bind fun s184 =>
    lpS s184 (fun q => some q) fun x182 =>
    some true
end Go.Proofs.Ytbjfbfjacchjiaa
