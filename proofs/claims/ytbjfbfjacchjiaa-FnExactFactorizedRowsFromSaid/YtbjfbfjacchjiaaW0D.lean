/- What functions of the program come to, written out by a program: none where a bound is passed. -/
import Derived.Test.YtbjfbfjacchjiaaN
namespace Go.Proofs.Ytbjfbfjacchjiaa
open Go.RowKit
def laws_szIntS (N : Nat) (a0 : List Int) (a1 : Int) : Option Int :=
    (sb a1 (a0.length : Int)).bind fun x103 =>
    (bif decide (x103 < 0) then
    some (-1)
    else
    some x103)
def laws_szFactorNode (N : Nat) (a0 : List Int) (a1 : List Int) (a2 : Int) : Option Int :=
    (laws_szIntS N a0 a2).bind fun r107 =>
    (bif decide (r107 < 0) then
    some (-1)
    else
    (laws_szIntS N a1 r107).bind fun r115 =>
    (bif decide (r115 < 0) then
    some (-1)
    else
    some r115))
def laws_szFactorNodeS_L1 (N : Nat) : Nat → (List (List Int × List Int)) → Int → Int → Option (Sum Int (Int × Int))
  | 0, _, _, _ => none
  | k + 1, x161, x162, x163 =>
    (bif decide (x163 < (x161.length : Int)) then
    (ix x161 x163).bind fun x170 =>
    (laws_szFactorNode N x170.1 x170.2 x162).bind fun r180 =>
    (bif decide (r180 < 0) then
    some (.inl (-1))
    else
    (ad x163 1).bind fun x186 =>
    laws_szFactorNodeS_L1 N k x161 r180 x186)
    else
    some (.inr (x162, x163)))
def laws_szFactorNodeS (N : Nat) (a0 : List (List Int × List Int)) (a1 : Int) : Option Int :=
    (sb a1 (a0.length : Int)).bind fun x103 =>
    (bif decide (x103 < 0) then
    some (-1)
    else
    (laws_szFactorNodeS_L1 N N a0 x103 0).bind fun s190 =>
    lpS s190 (fun q => some q) fun (x187, x188) =>
    some x187)
def laws_szFactorization (N : Nat) (a0 : List Int) (a1 : List (List Int × List Int)) (a2 : Int) : Option Int :=
    (laws_szIntS N a0 a2).bind fun r107 =>
    (bif decide (r107 < 0) then
    some (-1)
    else
    (laws_szFactorNodeS N a1 r107).bind fun r115 =>
    (bif decide (r115 < 0) then
    some (-1)
    else
    some r115))
def spec_l1In (N : Nat) (a0 : Int) (a1 : Int) (a2 : Int) : Option Bool :=
    (bif decide (a1 ≤ a0) then
    some (decide (a0 ≤ a2))
    else
    some false)
def spec_l7Find_L1 (N : Nat) : Nat → (List Int) → Int → Int → Option (Sum Int Int)
  | 0, _, _, _ => none
  | k + 1, x138, x139, x140 =>
    (bif decide (x140 < (x138.length : Int)) then
    (ix x138 x140).bind fun x147 =>
    (bif (x147 == x139) then
    some (.inl x140)
    else
    (ad x140 1).bind fun x155 =>
    spec_l7Find_L1 N k x138 x139 x155)
    else
    some (.inr x140))
def spec_l7Find (N : Nat) (a0 : List Int) (a1 : Int) : Option Int :=
    (spec_l7Find_L1 N N a0 a1 0).bind fun s158 =>
    lpS s158 (fun q => some q) fun x156 =>
    some (-1)
def spec_IsPermutation_L1 (N : Nat) : Nat → (List Int) → Int → Option (Sum Bool Int)
  | 0, _, _ => none
  | k + 1, x174, x175 =>
    (bif decide (x175 < (x174.length : Int)) then
    (ix x174 x175).bind fun x182 =>
    (sb (x174.length : Int) 1).bind fun x188 =>
    (spec_l1In N x182 0 x188).bind fun r189 =>
    (bif r189 then
    (slc x174 0 x175).bind fun x191 =>
    (ix x174 x175).bind fun x194 =>
    (spec_l7Find N x191 x194).bind fun r200 =>
    (bif decide (0 ≤ r200) then
    some (.inl false)
    else
    (ad x175 1).bind fun x205 =>
    spec_IsPermutation_L1 N k x174 x205)
    else
    some (.inl false))
    else
    some (.inr x175))
def spec_IsPermutation (N : Nat) (a0 : List Int) : Option Bool :=
    (spec_IsPermutation_L1 N N a0 0).bind fun s211 =>
    lpS s211 (fun q => some q) fun x209 =>
    some (decide ((a0.length : Int) ≤ 5))
def spec_IsStrictlyAscending_L1 (N : Nat) : Nat → (List Int) → Int → Option (Sum Bool Int)
  | 0, _, _ => none
  | k + 1, x156, x157 =>
    (bif decide (x157 < (x156.length : Int)) then
    (ix x156 x157).bind fun x164 =>
    (sb x157 1).bind fun x170 =>
    (ix x156 x170).bind fun x171 =>
    (bif decide (x164 ≤ x171) then
    some (.inl false)
    else
    (ad x157 1).bind fun x181 =>
    spec_IsStrictlyAscending_L1 N k x156 x181)
    else
    some (.inr x157))
def spec_IsStrictlyAscending (N : Nat) (a0 : List Int) : Option Bool :=
    (spec_IsStrictlyAscending_L1 N N a0 1).bind fun s184 =>
    lpS s184 (fun q => some q) fun x182 =>
    some true
def spec_AreValidValues_L1 (N : Nat) : Nat → (List Int) → Int → Option (Sum Bool Int)
  | 0, _, _ => none
  | k + 1, x144, x145 =>
    (bif decide (x145 < (x144.length : Int)) then
    (ix x144 x145).bind fun x152 =>
    (spec_l1In N x152 0 99).bind fun r158 =>
    (bif r158 then
    (ad x145 1).bind fun x162 =>
    spec_AreValidValues_L1 N k x144 x162
    else
    some (.inl false))
    else
    some (.inr x145))
def spec_AreValidValues (N : Nat) (a0 : List Int) : Option Bool :=
    (spec_AreValidValues_L1 N N a0 0).bind fun s166 =>
    lpS s166 (fun q => some q) fun x164 =>
    some true
def spec_CompareRows_L1 (N : Nat) : Nat → (List Int) → (List Int) → Int → Option (Sum Int Int)
  | 0, _, _, _ => none
  | k + 1, x192, x195, x196 =>
    (bif decide (x196 < (x192.length : Int)) then
    (bif decide (x196 < (x195.length : Int)) then
    (ix x192 x196).bind fun x205 =>
    (ix x195 x196).bind fun x211 =>
    (bif decide (x205 < x211) then
    some (.inl (-1))
    else
    (ix x192 x196).bind fun x222 =>
    (ix x195 x196).bind fun x228 =>
    (bif decide (x228 < x222) then
    some (.inl 1)
    else
    (ad x196 1).bind fun x238 =>
    spec_CompareRows_L1 N k x192 x195 x238))
    else
    some (.inr x196))
    else
    some (.inr x196))
def spec_CompareRows (N : Nat) (a0 : List Int) (a1 : List Int) : Option Int :=
    (spec_CompareRows_L1 N N a0 a1 0).bind fun s249 =>
    lpS s249 (fun q => some q) fun x239 =>
    (bif decide ((a0.length : Int) < (a1.length : Int)) then
    some (-1)
    else
    (bif decide ((a1.length : Int) < (a0.length : Int)) then
    some 1
    else
    some 0))
def spec_IsValidFactorization_L2 (N : Nat) : Nat → (List Int) → (List (List Int × List Int)) → (List Int) → Int → (List Int) → (List Int) → Int → Option (Sum Bool Int)
  | 0, _, _, _, _, _, _, _ => none
  | k + 1, x638, x641, x644, x645, x648, x651, x652 =>
    (bif decide (x652 < (x651.length : Int)) then
    (ix x651 x652).bind fun x659 =>
    (sb x645 1).bind fun x665 =>
    (spec_l1In N x659 0 x665).bind fun r666 =>
    (bif r666 then
    (ix x651 x652).bind fun x668 =>
    (ix x644 x668).bind fun x674 =>
    (ix x651 0).bind fun x678 =>
    (ix x644 x678).bind fun x684 =>
    (bif (x674 != x684) then
    some (.inl false)
    else
    (ad x652 1).bind fun x692 =>
    spec_IsValidFactorization_L2 N k x638 x641 x644 x645 x648 x651 x692)
    else
    some (.inl false))
    else
    some (.inr x652))
def spec_IsValidFactorization_L3 (N : Nat) : Nat → (List Int) → (List (List Int × List Int)) → (List Int) → Int → (List Int) → (List Int) → Int → Option (Sum Bool Int)
  | 0, _, _, _, _, _, _, _ => none
  | k + 1, x722, x725, x728, x729, x732, x735, x736 =>
    (bif decide (x736 < x729) then
    (ix x725 x736).bind fun x743 =>
    (spec_CompareRows N x743.1 x732).bind fun r753 =>
    (bif (r753 == 0) then
    (ix x725 x736).bind fun x755 =>
    (spec_CompareRows N x755.2 x735).bind fun r765 =>
    (bif (r765 == 0) then
    some (.inl false)
    else
    (ad x736 1).bind fun x770 =>
    spec_IsValidFactorization_L3 N k x722 x725 x728 x729 x732 x735 x770)
    else
    (ad x736 1).bind fun x773 =>
    spec_IsValidFactorization_L3 N k x722 x725 x728 x729 x732 x735 x773)
    else
    some (.inr x736))
def spec_IsValidFactorization_L1 (N : Nat) : Nat → (List Int) → (List (List Int × List Int)) → (List Int) → Int → Option (Sum Bool ((List Int) × Int))
  | 0, _, _, _, _ => none
  | k + 1, x573, x576, x579, x580 =>
    (bif decide (x580 < (x576.length : Int)) then
    (ix x576 x580).bind fun x587 =>
    (bif ((x587.1.length : Int) != (x587.2.length : Int)) then
    some (.inl false)
    else
    (spec_IsStrictlyAscending N x587.1).bind fun r606 =>
    (bif r606 then
    (spec_AreValidValues N x587.1).bind fun r610 =>
    (bif r610 then
    (bif ((x587.1.length : Int) == 0) then
    (sb (x576.length : Int) 1).bind fun x619 =>
    (bif (x580 != x619) then
    some (.inl false)
    else
    (apd 8 x579 [(x573.length : Int)]).bind fun x629 =>
    (ad x580 1).bind fun x632 =>
    spec_IsValidFactorization_L1 N k x573 x576 x629 x632)
    else
    (spec_IsValidFactorization_L2 N N x573 x576 x579 x580 x587.1 x587.2 0).bind fun s777 =>
    lpS s777 (fun q => some (.inl q)) fun x696 =>
    (ix x587.2 0).bind fun x698 =>
    (ix x579 x698).bind fun x704 =>
    (ad x704 1).bind fun x708 =>
    (apd 8 x579 [x708]).bind fun x715 =>
    (spec_IsValidFactorization_L3 N N x573 x576 x715 x580 x587.1 x587.2 1).bind fun s776 =>
    lpS s776 (fun q => some (.inl q)) fun x774 =>
    (ad x580 1).bind fun x775 =>
    spec_IsValidFactorization_L1 N k x573 x576 x715 x775)
    else
    some (.inl false))
    else
    some (.inl false)))
    else
    some (.inr (x579, x580)))
def spec_IsValidFactorization (N : Nat) (a0 : List Int) (a1 : List (List Int × List Int)) : Option Bool :=
    (spec_IsPermutation N a0).bind fun r108 =>
    (bif r108 then
    (bif decide ((a1.length : Int) < 1) then
    some false
    else
    (bif decide (4000 < (a1.length : Int)) then
    some false
    else
    (ix a1 0).bind fun x118 =>
    (ix a1 0).bind fun x128 =>
    (ad (x118.1.length : Int) (x128.2.length : Int)).bind fun x138 =>
    (bif decide (0 < x138) then
    some false
    else
    (spec_IsValidFactorization_L1 N N a0 a1 ([0]) 1).bind fun s792 =>
    lpS s792 (fun q => some q) fun (x782, x783) =>
    (sb (x782.length : Int) 1).bind fun x785 =>
    (ix x782 x785).bind fun x786 =>
    some (x786 == (a0.length : Int)))))
    else
    some false)
def spec_l23Counts_L2 (N : Nat) : Nat → (List Int) → (List (List Int × List Int)) → (List Int) → Int → Int → Int → Option (Int × Int)
  | 0, _, _, _, _, _, _ => none
  | k + 1, x283, x286, x289, x290, x291, x292 =>
    (ix x286 x290).bind fun x295 =>
    (bif decide (x292 < (x295.2.length : Int)) then
    (ix x286 x290).bind fun x308 =>
    (ix x308.2 x292).bind fun x318 =>
    (ix x289 x318).bind fun x324 =>
    (ad x291 x324).bind fun x328 =>
    (ad x292 1).bind fun x329 =>
    spec_l23Counts_L2 N k x283 x286 x289 x290 (imn 1000000000 x328) x329
    else
    some (x291, x292))
def spec_l23Counts_L1 (N : Nat) : Nat → (List Int) → (List (List Int × List Int)) → (List Int) → Int → Option ((List Int) × Int)
  | 0, _, _, _, _ => none
  | k + 1, x264, x267, x270, x271 =>
    (bif decide (x271 < (x267.length : Int)) then
    (spec_l23Counts_L2 N N x264 x267 x270 x271 0 0).bind fun s342 =>
    lpB s342 fun (x330, x331) =>
    (apd 8 x270 [x330]).bind fun x338 =>
    (ad x271 1).bind fun x341 =>
    spec_l23Counts_L1 N k x264 x267 x338 x341
    else
    some (x270, x271))
def spec_l23Counts (N : Nat) (a0 : List Int) (a1 : List (List Int × List Int)) : Option (List Int) :=
    (spec_l23Counts_L1 N N a0 a1 ([1]) 1).bind fun s348 =>
    lpB s348 fun (x345, x346) =>
    some x345
end Go.Proofs.Ytbjfbfjacchjiaa
