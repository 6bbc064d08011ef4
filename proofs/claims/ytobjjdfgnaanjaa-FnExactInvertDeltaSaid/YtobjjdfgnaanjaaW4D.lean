/- What functions of the program come to, written out by a program: none where a bound is passed. -/
import Derived.Test.YtobjjdfgnaanjaaW3D
namespace Go.Proofs.Ytobjjdfgnaanjaa
open Go.RowKit
def spec_l1In (N : Nat) (a0 : Int) (a1 : Int) (a2 : Int) : Option Bool :=
    (bif decide (a1 ≤ a0) then
    some (decide (a0 ≤ a2))
    else
    some false)
def spec_l7Find_L1 (N : Nat) : Nat → (List Int) → Int → Int → Option (Sum Int Int)
  | 0, _, _, _ => none
  | k + 1, x138, x139, x140 =>
    (bif decide (x140 < (x138.length : Int)) then
    (ix x138 x140).bind fun x147 =>
    (bif (x147 == x139) then
    some (.inl x140)
    else
    (ad x140 1).bind fun x155 =>
    spec_l7Find_L1 N k x138 x139 x155)
    else
    some (.inr x140))
def spec_l7Find (N : Nat) (a0 : List Int) (a1 : Int) : Option Int :=
    (spec_l7Find_L1 N N a0 a1 0).bind fun s158 =>
    lpS s158 (fun q => some q) fun x156 =>
    some (-1)
def spec_IsPermutation_L1 (N : Nat) : Nat → (List Int) → Int → Option (Sum Bool Int)
  | 0, _, _ => none
  | k + 1, x174, x175 =>
    (bif decide (x175 < (x174.length : Int)) then
    (ix x174 x175).bind fun x182 =>
    (sb (x174.length : Int) 1).bind fun x188 =>
    (spec_l1In N x182 0 x188).bind fun r189 =>
    (bif r189 then
    (slc x174 0 x175).bind fun x191 =>
    (ix x174 x175).bind fun x194 =>
    (spec_l7Find N x191 x194).bind fun r200 =>
    (bif decide (0 ≤ r200) then
    some (.inl false)
    else
    (ad x175 1).bind fun x205 =>
    spec_IsPermutation_L1 N k x174 x205)
    else
    some (.inl false))
    else
    some (.inr x175))
def spec_IsPermutation (N : Nat) (a0 : List Int) : Option Bool :=
    (spec_IsPermutation_L1 N N a0 0).bind fun s211 =>
    lpS s211 (fun q => some q) fun x209 =>
    some (decide ((a0.length : Int) ≤ 5))
def spec_IsStrictlyAscending_L1 (N : Nat) : Nat → (List Int) → Int → Option (Sum Bool Int)
  | 0, _, _ => none
  | k + 1, x156, x157 =>
    (bif decide (x157 < (x156.length : Int)) then
    (ix x156 x157).bind fun x164 =>
    (sb x157 1).bind fun x170 =>
    (ix x156 x170).bind fun x171 =>
    (bif decide (x164 ≤ x171) then
    some (.inl false)
    else
    (ad x157 1).bind fun x181 =>
    spec_IsStrictlyAscending_L1 N k x156 x181)
    else
    some (.inr x157))
def spec_IsStrictlyAscending (N : Nat) (a0 : List Int) : Option Bool :=
    (spec_IsStrictlyAscending_L1 N N a0 1).bind fun s184 =>
    lpS s184 (fun q => some q) fun x182 =>
    some true
def spec_AreValidValues_L1 (N : Nat) : Nat → (List Int) → Int → Option (Sum Bool Int)
  | 0, _, _ => none
  | k + 1, x144, x145 =>
    (bif decide (x145 < (x144.length : Int)) then
    (ix x144 x145).bind fun x152 =>
    (spec_l1In N x152 0 99).bind fun r158 =>
    (bif r158 then
    (ad x145 1).bind fun x162 =>
    spec_AreValidValues_L1 N k x144 x162
    else
    some (.inl false))
    else
    some (.inr x145))
def spec_AreValidValues (N : Nat) (a0 : List Int) : Option Bool :=
    (spec_AreValidValues_L1 N N a0 0).bind fun s166 =>
    lpS s166 (fun q => some q) fun x164 =>
    some true
def spec_IsValidFactorization_L2 (N : Nat) : Nat → (List Int) → (List (List Int × List Int)) → (List Int) → Int → (List Int) → (List Int) → Int → Option (Sum Bool Int)
  | 0, _, _, _, _, _, _, _ => none
  | k + 1, x638, x641, x644, x645, x648, x651, x652 =>
    (bif decide (x652 < (x651.length : Int)) then
    (ix x651 x652).bind fun x659 =>
    (sb x645 1).bind fun x665 =>
    (spec_l1In N x659 0 x665).bind fun r666 =>
    (bif r666 then
    (ix x651 x652).bind fun x668 =>
    (ix x644 x668).bind fun x674 =>
    (ix x651 0).bind fun x678 =>
    (ix x644 x678).bind fun x684 =>
    (bif (x674 != x684) then
    some (.inl false)
    else
    (ad x652 1).bind fun x692 =>
    spec_IsValidFactorization_L2 N k x638 x641 x644 x645 x648 x651 x692)
    else
    some (.inl false))
    else
    some (.inr x652))
def spec_IsValidFactorization_L3 (N : Nat) : Nat → (List Int) → (List (List Int × List Int)) → (List Int) → Int → (List Int) → (List Int) → Int → Option (Sum Bool Int)
  | 0, _, _, _, _, _, _, _ => none
  | k + 1, x722, x725, x728, x729, x732, x735, x736 =>
    (bif decide (x736 < x729) then
    (ix x725 x736).bind fun x743 =>
    (spec_CompareRows N x743.1 x732).bind fun r753 =>
    (bif (r753 == 0) then
    (ix x725 x736).bind fun x755 =>
    (spec_CompareRows N x755.2 x735).bind fun r765 =>
    (bif (r765 == 0) then
    some (.inl false)
    else
    (ad x736 1).bind fun x770 =>
    spec_IsValidFactorization_L3 N k x722 x725 x728 x729 x732 x735 x770)
    else
    (ad x736 1).bind fun x773 =>
    spec_IsValidFactorization_L3 N k x722 x725 x728 x729 x732 x735 x773)
    else
    some (.inr x736))
def spec_IsValidFactorization_L1 (N : Nat) : Nat → (List Int) → (List (List Int × List Int)) → (List Int) → Int → Option (Sum Bool ((List Int) × Int))
  | 0, _, _, _, _ => none
  | k + 1, x573, x576, x579, x580 =>
    (bif decide (x580 < (x576.length : Int)) then
    (ix x576 x580).bind fun x587 =>
    (bif ((x587.1.length : Int) != (x587.2.length : Int)) then
    some (.inl false)
    else
    (spec_IsStrictlyAscending N x587.1).bind fun r606 =>
    (bif r606 then
    (spec_AreValidValues N x587.1).bind fun r610 =>
    (bif r610 then
    (bif ((x587.1.length : Int) == 0) then
    (sb (x576.length : Int) 1).bind fun x619 =>
    (bif (x580 != x619) then
    some (.inl false)
    else
    (apd 8 x579 [(x573.length : Int)]).bind fun x629 =>
    (ad x580 1).bind fun x632 =>
    spec_IsValidFactorization_L1 N k x573 x576 x629 x632)
    else
    (spec_IsValidFactorization_L2 N N x573 x576 x579 x580 x587.1 x587.2 0).bind fun s777 =>
    lpS s777 (fun q => some (.inl q)) fun x696 =>
    (ix x587.2 0).bind fun x698 =>
    (ix x579 x698).bind fun x704 =>
    (ad x704 1).bind fun x708 =>
    (apd 8 x579 [x708]).bind fun x715 =>
    (spec_IsValidFactorization_L3 N N x573 x576 x715 x580 x587.1 x587.2 1).bind fun s776 =>
    lpS s776 (fun q => some (.inl q)) fun x774 =>
    (ad x580 1).bind fun x775 =>
    spec_IsValidFactorization_L1 N k x573 x576 x715 x775)
    else
    some (.inl false))
    else
    some (.inl false)))
    else
    some (.inr (x579, x580)))
def spec_IsValidFactorization (N : Nat) (a0 : List Int) (a1 : List (List Int × List Int)) : Option Bool :=
    (spec_IsPermutation N a0).bind fun r108 =>
    (bif r108 then
    (bif decide ((a1.length : Int) < 1) then
    some false
    else
    (bif decide (4000 < (a1.length : Int)) then
    some false
    else
    (ix a1 0).bind fun x118 =>
    (ix a1 0).bind fun x128 =>
    (ad (x118.1.length : Int) (x128.2.length : Int)).bind fun x138 =>
    (bif decide (0 < x138) then
    some false
    else
    (spec_IsValidFactorization_L1 N N a0 a1 ([0]) 1).bind fun s792 =>
    lpS s792 (fun q => some q) fun (x782, x783) =>
    (sb (x782.length : Int) 1).bind fun x785 =>
    (ix x782 x785).bind fun x786 =>
    some (x786 == (a0.length : Int)))))
    else
    some false)
def impl_within (N : Nat) (a0 : Int) (a1 : Int) (a2 : Int) : Option Bool :=
    (bif decide (a1 ≤ a0) then
    some (decide (a0 ≤ a2))
    else
    some false)
def impl_indexOf_L1 (N : Nat) : Nat → Int → (List Int) → Int → Int → Option (Sum Int Int)
  | 0, _, _, _, _ => none
  | k + 1, x138, x141, x142, x143 =>
    (bif decide (x143 < x142) then
    (ix x141 x143).bind fun x150 =>
    (bif (x150 == x138) then
    some (.inl x143)
    else
    (ad x143 1).bind fun x159 =>
    impl_indexOf_L1 N k x138 x141 x142 x159)
    else
    some (.inr x143))
def impl_indexOf (N : Nat) (a0 : List Int) (a1 : Int) : Option Int :=
    (impl_indexOf_L1 N N a1 a0 (a0.length : Int) 0).bind fun s162 =>
    lpS s162 (fun q => some q) fun x160 =>
    some (-1)
def impl_hasInt (N : Nat) (a0 : List Int) (a1 : Int) : Option Bool :=
    (impl_indexOf N a0 a1).bind fun r103 =>
    some (decide (0 ≤ r103))
def impl_isSetOf_L1 (N : Nat) : Nat → (List Int) → Int → (List Int) → Int → Int → Option (Sum Bool Int)
  | 0, _, _, _, _, _ => none
  | k + 1, x164, x165, x168, x169, x170 =>
    (bif decide (x170 < x169) then
    (ix x168 x170).bind fun x177 =>
    (sb x165 1).bind fun x184 =>
    (impl_within N x177 0 x184).bind fun r185 =>
    (bif r185 then
    (slc x164 0 x170).bind fun x189 =>
    (impl_hasInt N x189 x177).bind fun r192 =>
    (bif r192 then
    some (.inl false)
    else
    (ad x170 1).bind fun x197 =>
    impl_isSetOf_L1 N k x164 x165 x168 x169 x197)
    else
    some (.inl false))
    else
    some (.inr x170))
def impl_isSetOf (N : Nat) (a0 : List Int) (a1 : Int) : Option Bool :=
    (impl_isSetOf_L1 N N a0 a1 a0 (a0.length : Int) 0).bind fun s201 =>
    lpS s201 (fun q => some q) fun x199 =>
    some true
def impl_IsPermutation (N : Nat) (a0 : List Int) : Option Bool :=
    (bif decide ((a0.length : Int) ≤ 5) then
    (impl_isSetOf N a0 (a0.length : Int)).bind fun r104 =>
    some r104
    else
    some false)
def impl_AreValidValues_L1 (N : Nat) : Nat → (List Int) → Int → Int → Option (Sum Bool Int)
  | 0, _, _, _ => none
  | k + 1, x146, x147, x148 =>
    (bif decide (x148 < x147) then
    (ix x146 x148).bind fun x155 =>
    (impl_within N x155 0 99).bind fun r162 =>
    (bif r162 then
    (ad x148 1).bind fun x166 =>
    impl_AreValidValues_L1 N k x146 x147 x166
    else
    some (.inl false))
    else
    some (.inr x148))
def impl_AreValidValues (N : Nat) (a0 : List Int) : Option Bool :=
    (impl_AreValidValues_L1 N N a0 (a0.length : Int) 0).bind fun s170 =>
    lpS s170 (fun q => some q) fun x168 =>
    some true
end Go.Proofs.Ytobjjdfgnaanjaa
