/- What functions of the program come to, written out by a program: none where a bound is passed. -/
import Derived.Test.YtdingjlefilafaaW2D
namespace Go.Proofs.Ytdingjlefilafaa
open Go.RowKit
def spec_IsStrictlyAscending_L1 (N : Nat) : Nat → (List Int) → Int → Option (Sum Bool Int)
  | 0, _, _ => none
  | k + 1, x156, x157 =>
    (bif decide (x157 < (x156.length : Int)) then
    (ix x156 x157).bind fun x164 =>
    (sb x157 1).bind fun x170 =>
    (ix x156 x170).bind fun x171 =>
    (bif decide (x164 ≤ x171) then
    some (.inl false)
    else
    (ad x157 1).bind fun x181 =>
    spec_IsStrictlyAscending_L1 N k x156 x181)
    else
    some (.inr x157))
def spec_IsStrictlyAscending (N : Nat) (a0 : List Int) : Option Bool :=
    (spec_IsStrictlyAscending_L1 N N a0 1).bind fun s184 =>
    lpS s184 (fun q => some q) fun x182 =>
    some true
def spec_IsValidFactorization_L2 (N : Nat) : Nat → (List Int) → (List (List Int × List Int)) → (List Int) → Int → (List Int) → (List Int) → Int → Option (Sum Bool Int)
  | 0, _, _, _, _, _, _, _ => none
  | k + 1, x638, x641, x644, x645, x648, x651, x652 =>
    (bif decide (x652 < (x651.length : Int)) then
    (ix x651 x652).bind fun x659 =>
    (sb x645 1).bind fun x665 =>
    (spec_l1In N x659 0 x665).bind fun r666 =>
    (bif r666 then
    (ix x651 x652).bind fun x668 =>
    (ix x644 x668).bind fun x674 =>
    (ix x651 0).bind fun x678 =>
    (ix x644 x678).bind fun x684 =>
    (bif (x674 != x684) then
    some (.inl false)
    else
    (ad x652 1).bind fun x692 =>
    spec_IsValidFactorization_L2 N k x638 x641 x644 x645 x648 x651 x692)
    else
    some (.inl false))
    else
    some (.inr x652))
def spec_IsValidFactorization_L3 (N : Nat) : Nat → (List Int) → (List (List Int × List Int)) → (List Int) → Int → (List Int) → (List Int) → Int → Option (Sum Bool Int)
  | 0, _, _, _, _, _, _, _ => none
  | k + 1, x722, x725, x728, x729, x732, x735, x736 =>
    (bif decide (x736 < x729) then
    (ix x725 x736).bind fun x743 =>
    (spec_CompareRows N x743.1 x732).bind fun r753 =>
    (bif (r753 == 0) then
    (ix x725 x736).bind fun x755 =>
    (spec_CompareRows N x755.2 x735).bind fun r765 =>
    (bif (r765 == 0) then
    some (.inl false)
    else
    (ad x736 1).bind fun x770 =>
    spec_IsValidFactorization_L3 N k x722 x725 x728 x729 x732 x735 x770)
    else
    (ad x736 1).bind fun x773 =>
    spec_IsValidFactorization_L3 N k x722 x725 x728 x729 x732 x735 x773)
    else
    some (.inr x736))
def spec_IsValidFactorization_L1 (N : Nat) : Nat → (List Int) → (List (List Int × List Int)) → (List Int) → Int → Option (Sum Bool ((List Int) × Int))
  | 0, _, _, _, _ => none
  | k + 1, x573, x576, x579, x580 =>
    (bif decide (x580 < (x576.length : Int)) then
    (ix x576 x580).bind fun x587 =>
    (bif ((x587.1.length : Int) != (x587.2.length : Int)) then
    some (.inl false)
    else
    (spec_IsStrictlyAscending N x587.1).bind fun r606 =>
    (bif r606 then
    (spec_AreValidValues N x587.1).bind fun r610 =>
    (bif r610 then
    (bif ((x587.1.length : Int) == 0) then
    (sb (x576.length : Int) 1).bind fun x619 =>
    (bif (x580 != x619) then
    some (.inl false)
    else
    (apd 8 x579 [(x573.length : Int)]).bind fun x629 =>
    (ad x580 1).bind fun x632 =>
    spec_IsValidFactorization_L1 N k x573 x576 x629 x632)
    else
    (spec_IsValidFactorization_L2 N N x573 x576 x579 x580 x587.1 x587.2 0).bind fun s777 =>
    lpS s777 (fun q => some (.inl q)) fun x696 =>
    (ix x587.2 0).bind fun x698 =>
    (ix x579 x698).bind fun x704 =>
    (ad x704 1).bind fun x708 =>
    (apd 8 x579 [x708]).bind fun x715 =>
    (spec_IsValidFactorization_L3 N N x573 x576 x715 x580 x587.1 x587.2 1).bind fun s776 =>
    lpS s776 (fun q => some (.inl q)) fun x774 =>
    (ad x580 1).bind fun x775 =>
    spec_IsValidFactorization_L1 N k x573 x576 x715 x775)
    else
    some (.inl false))
    else
    some (.inl false)))
    else
    some (.inr (x579, x580)))
def spec_IsValidFactorization (N : Nat) (a0 : List Int) (a1 : List (List Int × List Int)) : Option Bool :=
    (spec_IsPermutation N a0).bind fun r108 =>
    (bif r108 then
    (bif decide ((a1.length : Int) < 1) then
    some false
    else
    (bif decide (4000 < (a1.length : Int)) then
    some false
    else
    (ix a1 0).bind fun x118 =>
    (ix a1 0).bind fun x128 =>
    (ad (x118.1.length : Int) (x128.2.length : Int)).bind fun x138 =>
    (bif decide (0 < x138) then
    some false
    else
    (spec_IsValidFactorization_L1 N N a0 a1 ([0]) 1).bind fun s792 =>
    lpS s792 (fun q => some q) fun (x782, x783) =>
    (sb (x782.length : Int) 1).bind fun x785 =>
    (ix x782 x785).bind fun x786 =>
    some (x786 == (a0.length : Int)))))
    else
    some false)
def spec_l23Counts_L2 (N : Nat) : Nat → (List Int) → (List (List Int × List Int)) → (List Int) → Int → Int → Int → Option (Int × Int)
  | 0, _, _, _, _, _, _ => none
  | k + 1, x283, x286, x289, x290, x291, x292 =>
    (ix x286 x290).bind fun x295 =>
    (bif decide (x292 < (x295.2.length : Int)) then
    (ix x286 x290).bind fun x308 =>
    (ix x308.2 x292).bind fun x318 =>
    (ix x289 x318).bind fun x324 =>
    (ad x291 x324).bind fun x328 =>
    (ad x292 1).bind fun x329 =>
    spec_l23Counts_L2 N k x283 x286 x289 x290 (imn 1000000000 x328) x329
    else
    some (x291, x292))
def spec_l23Counts_L1 (N : Nat) : Nat → (List Int) → (List (List Int × List Int)) → (List Int) → Int → Option ((List Int) × Int)
  | 0, _, _, _, _ => none
  | k + 1, x264, x267, x270, x271 =>
    (bif decide (x271 < (x267.length : Int)) then
    (spec_l23Counts_L2 N N x264 x267 x270 x271 0 0).bind fun s342 =>
    lpB s342 fun (x330, x331) =>
    (apd 8 x270 [x330]).bind fun x338 =>
    (ad x271 1).bind fun x341 =>
    spec_l23Counts_L1 N k x264 x267 x338 x341
    else
    some (x270, x271))
def spec_l23Counts (N : Nat) (a0 : List Int) (a1 : List (List Int × List Int)) : Option (List Int) :=
    (spec_l23Counts_L1 N N a0 a1 ([1]) 1).bind fun s348 =>
    lpB s348 fun (x345, x346) =>
    some x345
def spec_FactorizedRowCount (N : Nat) (a0 : List Int) (a1 : List (List Int × List Int)) : Option Int :=
    (spec_IsValidFactorization N a0 a1).bind fun r108 =>
    (bif r108 then
    (spec_l23Counts N a0 a1).bind fun r113 =>
    (sb (r113.length : Int) 1).bind fun x119 =>
    (ix r113 x119).bind fun x120 =>
    some x120
    else
    some 0)
def spec_l23Rows_L1 (rec : (List Int) → (List (List Int × List Int)) → Int → (List Int) → Option (List (List Int))) (N : Nat) : Nat → Int → (List Int) → (List Int) → (List (List Int × List Int)) → (List (List Int)) → Int → Option ((List (List Int)) × Int)
  | 0, _, _, _, _, _, _ => none
  | k + 1, x408, x411, x414, x417, x420, x421 =>
    (ix x417 x408).bind fun x424 =>
    (bif decide (x421 < (x424.1.length : Int)) then
    (ix x417 x408).bind fun x439 =>
    (ix x439.2 x421).bind fun x449 =>
    (ix x417 x408).bind fun x455 =>
    (ix x455.1 x421).bind fun x465 =>
    (apd 8 [] x411).bind fun x477 =>
    (apd 8 x477 [x465]).bind fun x490 =>
    (rec x414 x417 x449 x490).bind fun r493 =>
    (apd 24 x420 r493).bind fun x500 =>
    (ad x421 1).bind fun x509 =>
    spec_l23Rows_L1 rec N k x408 x411 x414 x417 x500 x509
    else
    some (x420, x421))
def spec_l23Rows : Nat → (List Int) → (List (List Int × List Int)) → Int → (List Int) → Option (List (List Int))
  | 0, _, _, _, _ => none
  | N + 1, a0, a1, a2, a3 =>
    (bif (a2 == 0) then
    (apd 8 [] a3).bind fun x116 =>
    some ([x116])
    else
    (spec_l23Rows_L1 (spec_l23Rows N) N N a2 a3 a0 a1 [] 0).bind fun s515 =>
    lpB s515 fun (x512, x513) =>
    some x512)
def spec_ExpandFactorization (N : Nat) (a0 : List Int) (a1 : List (List Int × List Int)) : Option ((Int × List (List Int)) × Bool) :=
    (spec_IsValidFactorization N a0 a1).bind fun r112 =>
    (bif r112 then
    (spec_FactorizedRowCount N a0 a1).bind fun r116 =>
    (bif decide (4000 < r116) then
    some ((0, []), false)
    else
    (sb (a1.length : Int) 1).bind fun x125 =>
    (spec_l23Rows N a0 a1 x125 []).bind fun r130 =>
    some (((a0.length : Int), r130), true))
    else
    some ((0, []), false))
def laws_toIntS_L1 (N : Nat) : Nat → (List Int) → (List Int) → Int → Option ((List Int) × Int)
  | 0, _, _, _ => none
  | k + 1, x154, x157, x158 =>
    (bif decide (x158 < (x154.length : Int)) then
    (ix x154 x158).bind fun x164 =>
    (ix x157 x158).bind fun x170 =>
    (sto x157 x158 x164).bind fun x175 =>
    (ad x158 1).bind fun x176 =>
    laws_toIntS_L1 N k x154 x175 x176
    else
    some (x157, x158))
def laws_toIntS (N : Nat) (a0 : List Int) : Option (List Int) :=
    (mk 8 (0 : Int) (a0.length : Int)).bind fun x106 =>
    (laws_toIntS_L1 N N a0 x106 0).bind fun s182 =>
    lpB s182 fun (x179, x180) =>
    some x179
def laws_toFactorNode (N : Nat) (a0 : List Int) (a1 : List Int) : Option (List Int × List Int) :=
    (laws_toIntS N a0).bind fun r116 =>
    (laws_toIntS N a1).bind fun r123 =>
    some (r116, r123)
def laws_toFactorNodeS_L1 (N : Nat) : Nat → (List (List Int × List Int)) → (List (List Int × List Int)) → Int → Option ((List (List Int × List Int)) × Int)
  | 0, _, _, _ => none
  | k + 1, x190, x193, x194 =>
    (bif decide (x194 < (x190.length : Int)) then
    (ix x190 x194).bind fun x200 =>
    (laws_toFactorNode N x200.1 x200.2).bind fun r210 =>
    (ix x193 x194).bind fun x217 =>
    (sto x193 x194 (r210.1, r210.2)).bind fun x229 =>
    (ad x194 1).bind fun x230 =>
    laws_toFactorNodeS_L1 N k x190 x229 x230
    else
    some (x193, x194))
def laws_toFactorNodeS (N : Nat) (a0 : List (List Int × List Int)) : Option (List (List Int × List Int)) :=
    (mk 48 (([], []) : List Int × List Int) (a0.length : Int)).bind fun x106 =>
    (laws_toFactorNodeS_L1 N N a0 x106 0).bind fun s236 =>
    lpB s236 fun (x233, x234) =>
    some x233
def laws_toFactorization (N : Nat) (a0 : List Int) (a1 : List (List Int × List Int)) : Option (List Int × List (List Int × List Int)) :=
    (laws_toIntS N a0).bind fun r116 =>
    (laws_toFactorNodeS N a1).bind fun r123 =>
    some (r116, r123)
def laws_heldIntS_L1 (N : Nat) : Nat → (List Int) → Int → Int → Option (Sum Int (Int × Int))
  | 0, _, _, _ => none
  | k + 1, x143, x144, x145 =>
    (bif decide (x145 < (x143.length : Int)) then
    (ix x143 x145).bind fun x153 =>
    (bif (x153 != x144) then
    some (.inl (-1))
    else
    (ad x144 1).bind fun x161 =>
    (ad x145 1).bind fun x162 =>
    laws_heldIntS_L1 N k x143 x161 x162)
    else
    some (.inr (x144, x145)))
def laws_heldIntS (N : Nat) (a0 : List Int) (a1 : Int) : Option Int :=
    (laws_heldIntS_L1 N N a0 a1 0).bind fun s166 =>
    lpS s166 (fun q => some q) fun (x163, x164) =>
    some x163
def laws_heldIntSS_L1 (N : Nat) : Nat → (List (List Int)) → Int → Int → Option (Sum Int (Int × Int))
  | 0, _, _, _ => none
  | k + 1, x149, x150, x151 =>
    (bif decide (x151 < (x149.length : Int)) then
    (ix x149 x151).bind fun x158 =>
    (laws_heldIntS N x158 x150).bind fun r165 =>
    (bif decide (r165 < 0) then
    some (.inl (-1))
    else
    (ad x151 1).bind fun x171 =>
    laws_heldIntSS_L1 N k x149 r165 x171)
    else
    some (.inr (x150, x151)))
def laws_heldIntSS (N : Nat) (a0 : List (List Int)) (a1 : Int) : Option Int :=
    (laws_heldIntSS_L1 N N a0 a1 0).bind fun s175 =>
    lpS s175 (fun q => some q) fun (x172, x173) =>
    some x172
end Go.Proofs.Ytdingjlefilafaa
