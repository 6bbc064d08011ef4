/- What functions of the program come to, written out by a program: none where a bound is passed. -/
import Derived.Test.YtobjjdfgnaanjaaW2D
namespace Go.Proofs.Ytobjjdfgnaanjaa
open Go.RowKit
def impl_InvertDelta (N : Nat) (a0 : ByteArray) (a1 : Int) (a2 : List (List Int)) (a3 : Int) (a4 : List (List Int)) : Option (ByteArray × (Int × List (List Int)) × (Int × List (List Int))) :=
    (impl_copyRelation N a3 a4).bind fun r113 =>
    (impl_copyRelation N a1 a2).bind fun r119 =>
    some (a0, (r113.1, r113.2), (r119.1, r119.2))
def laws_heldIntS_L1 (N : Nat) : Nat → (List Int) → Int → Int → Option (Sum Int (Int × Int))
  | 0, _, _, _ => none
  | k + 1, x143, x144, x145 =>
    (bif decide (x145 < (x143.length : Int)) then
    (ix x143 x145).bind fun x153 =>
    (bif (x153 != x144) then
    some (.inl (-1))
    else
    (ad x144 1).bind fun x161 =>
    (ad x145 1).bind fun x162 =>
    laws_heldIntS_L1 N k x143 x161 x162)
    else
    some (.inr (x144, x145)))
def laws_heldIntS (N : Nat) (a0 : List Int) (a1 : Int) : Option Int :=
    (laws_heldIntS_L1 N N a0 a1 0).bind fun s166 =>
    lpS s166 (fun q => some q) fun (x163, x164) =>
    some x163
def laws_heldIntSS_L1 (N : Nat) : Nat → (List (List Int)) → Int → Int → Option (Sum Int (Int × Int))
  | 0, _, _, _ => none
  | k + 1, x149, x150, x151 =>
    (bif decide (x151 < (x149.length : Int)) then
    (ix x149 x151).bind fun x158 =>
    (laws_heldIntS N x158 x150).bind fun r165 =>
    (bif decide (r165 < 0) then
    some (.inl (-1))
    else
    (ad x151 1).bind fun x171 =>
    laws_heldIntSS_L1 N k x149 r165 x171)
    else
    some (.inr (x150, x151)))
def laws_heldIntSS (N : Nat) (a0 : List (List Int)) (a1 : Int) : Option Int :=
    (laws_heldIntSS_L1 N N a0 a1 0).bind fun s175 =>
    lpS s175 (fun q => some q) fun (x172, x173) =>
    some x172
def laws_heldRelation (N : Nat) (a0 : Int) (a1 : List (List Int)) (a2 : Int) : Option Int :=
    (laws_heldIntSS N a1 a2).bind fun r107 =>
    (bif decide (r107 < 0) then
    some (-1)
    else
    some r107)
def laws_heldDelta (N : Nat) (a0 : ByteArray) (a1 : Int) (a2 : List (List Int)) (a3 : Int) (a4 : List (List Int)) (a5 : Int) : Option Int :=
    (laws_heldRelation N a1 a2 a5).bind fun r107 =>
    (bif decide (r107 < 0) then
    some (-1)
    else
    (laws_heldRelation N a3 a4 r107).bind fun r115 =>
    (bif decide (r115 < 0) then
    some (-1)
    else
    some r115))
def spec_l1In (N : Nat) (a0 : Int) (a1 : Int) (a2 : Int) : Option Bool :=
    (bif decide (a1 ≤ a0) then
    some (decide (a0 ≤ a2))
    else
    some false)
def spec_l7Find_L1 (N : Nat) : Nat → (List Int) → Int → Int → Option (Sum Int Int)
  | 0, _, _, _ => none
  | k + 1, x138, x139, x140 =>
    (bif decide (x140 < (x138.length : Int)) then
    (ix x138 x140).bind fun x147 =>
    (bif (x147 == x139) then
    some (.inl x140)
    else
    (ad x140 1).bind fun x155 =>
    spec_l7Find_L1 N k x138 x139 x155)
    else
    some (.inr x140))
def spec_l7Find (N : Nat) (a0 : List Int) (a1 : Int) : Option Int :=
    (spec_l7Find_L1 N N a0 a1 0).bind fun s158 =>
    lpS s158 (fun q => some q) fun x156 =>
    some (-1)
def spec_IsPermutation_L1 (N : Nat) : Nat → (List Int) → Int → Option (Sum Bool Int)
  | 0, _, _ => none
  | k + 1, x174, x175 =>
    (bif decide (x175 < (x174.length : Int)) then
    (ix x174 x175).bind fun x182 =>
    (sb (x174.length : Int) 1).bind fun x188 =>
    (spec_l1In N x182 0 x188).bind fun r189 =>
    (bif r189 then
    (slc x174 0 x175).bind fun x191 =>
    (ix x174 x175).bind fun x194 =>
    (spec_l7Find N x191 x194).bind fun r200 =>
    (bif decide (0 ≤ r200) then
    some (.inl false)
    else
    (ad x175 1).bind fun x205 =>
    spec_IsPermutation_L1 N k x174 x205)
    else
    some (.inl false))
    else
    some (.inr x175))
def spec_IsPermutation (N : Nat) (a0 : List Int) : Option Bool :=
    (spec_IsPermutation_L1 N N a0 0).bind fun s211 =>
    lpS s211 (fun q => some q) fun x209 =>
    some (decide ((a0.length : Int) ≤ 5))
def spec_IsStrictlyAscending_L1 (N : Nat) : Nat → (List Int) → Int → Option (Sum Bool Int)
  | 0, _, _ => none
  | k + 1, x156, x157 =>
    (bif decide (x157 < (x156.length : Int)) then
    (ix x156 x157).bind fun x164 =>
    (sb x157 1).bind fun x170 =>
    (ix x156 x170).bind fun x171 =>
    (bif decide (x164 ≤ x171) then
    some (.inl false)
    else
    (ad x157 1).bind fun x181 =>
    spec_IsStrictlyAscending_L1 N k x156 x181)
    else
    some (.inr x157))
def spec_IsStrictlyAscending (N : Nat) (a0 : List Int) : Option Bool :=
    (spec_IsStrictlyAscending_L1 N N a0 1).bind fun s184 =>
    lpS s184 (fun q => some q) fun x182 =>
    some true
def spec_AreValidValues_L1 (N : Nat) : Nat → (List Int) → Int → Option (Sum Bool Int)
  | 0, _, _ => none
  | k + 1, x144, x145 =>
    (bif decide (x145 < (x144.length : Int)) then
    (ix x144 x145).bind fun x152 =>
    (spec_l1In N x152 0 99).bind fun r158 =>
    (bif r158 then
    (ad x145 1).bind fun x162 =>
    spec_AreValidValues_L1 N k x144 x162
    else
    some (.inl false))
    else
    some (.inr x145))
def spec_AreValidValues (N : Nat) (a0 : List Int) : Option Bool :=
    (spec_AreValidValues_L1 N N a0 0).bind fun s166 =>
    lpS s166 (fun q => some q) fun x164 =>
    some true
def spec_IsValidFactorization_L2 (N : Nat) : Nat → (List Int) → (List (List Int × List Int)) → (List Int) → Int → (List Int) → (List Int) → Int → Option (Sum Bool Int)
  | 0, _, _, _, _, _, _, _ => none
  | k + 1, x551, x554, x557, x558, x561, x564, x565 =>
    (bif decide (x565 < (x564.length : Int)) then
    (ix x564 x565).bind fun x572 =>
    (sb x558 1).bind fun x578 =>
    (spec_l1In N x572 0 x578).bind fun r579 =>
    (bif r579 then
    (ix x564 x565).bind fun x581 =>
    (ix x557 x581).bind fun x587 =>
    (ix x564 0).bind fun x591 =>
    (ix x557 x591).bind fun x597 =>
    (bif (x587 != x597) then
    some (.inl false)
    else
    (ad x565 1).bind fun x605 =>
    spec_IsValidFactorization_L2 N k x551 x554 x557 x558 x561 x564 x605)
    else
    some (.inl false))
    else
    some (.inr x565))
def spec_IsValidFactorization_L3 (N : Nat) : Nat → (List Int) → (List (List Int × List Int)) → (List Int) → Int → (List Int) → (List Int) → Int → Option (Sum Bool Int)
  | 0, _, _, _, _, _, _, _ => none
  | k + 1, x635, x638, x641, x642, x645, x648, x649 =>
    (bif decide (x649 < x642) then
    (ix x638 x649).bind fun x656 =>
    (spec_CompareRows N x656.1 x645).bind fun r666 =>
    (bif (r666 == 0) then
    (ix x638 x649).bind fun x668 =>
    (spec_CompareRows N x668.2 x648).bind fun r678 =>
    (bif (r678 == 0) then
    some (.inl false)
    else
    (ad x649 1).bind fun x683 =>
    spec_IsValidFactorization_L3 N k x635 x638 x641 x642 x645 x648 x683)
    else
    (ad x649 1).bind fun x686 =>
    spec_IsValidFactorization_L3 N k x635 x638 x641 x642 x645 x648 x686)
    else
    some (.inr x649))
def spec_IsValidFactorization_L1 (N : Nat) : Nat → (List Int) → (List (List Int × List Int)) → (List Int) → Int → Option (Sum Bool ((List Int) × Int))
  | 0, _, _, _, _ => none
  | k + 1, x486, x489, x492, x493 =>
    (bif decide (x493 < (x489.length : Int)) then
    (ix x489 x493).bind fun x500 =>
    (bif ((x500.1.length : Int) != (x500.2.length : Int)) then
    some (.inl false)
    else
    (spec_IsStrictlyAscending N x500.1).bind fun r519 =>
    (bif r519 then
    (spec_AreValidValues N x500.1).bind fun r523 =>
    (bif r523 then
    (bif ((x500.1.length : Int) == 0) then
    (sb (x489.length : Int) 1).bind fun x532 =>
    (bif (x493 != x532) then
    some (.inl false)
    else
    (apd 8 x492 [(x486.length : Int)]).bind fun x542 =>
    (ad x493 1).bind fun x545 =>
    spec_IsValidFactorization_L1 N k x486 x489 x542 x545)
    else
    (spec_IsValidFactorization_L2 N N x486 x489 x492 x493 x500.1 x500.2 0).bind fun s690 =>
    lpS s690 (fun q => some (.inl q)) fun x609 =>
    (ix x500.2 0).bind fun x611 =>
    (ix x492 x611).bind fun x617 =>
    (ad x617 1).bind fun x621 =>
    (apd 8 x492 [x621]).bind fun x628 =>
    (spec_IsValidFactorization_L3 N N x486 x489 x628 x493 x500.1 x500.2 1).bind fun s689 =>
    lpS s689 (fun q => some (.inl q)) fun x687 =>
    (ad x493 1).bind fun x688 =>
    spec_IsValidFactorization_L1 N k x486 x489 x628 x688)
    else
    some (.inl false))
    else
    some (.inl false)))
    else
    some (.inr (x492, x493)))
def spec_IsValidFactorization (N : Nat) (a0 : List Int) (a1 : List (List Int × List Int)) : Option Bool :=
    (spec_IsPermutation N a0).bind fun r108 =>
    (bif r108 then
    (bif decide ((a1.length : Int) < 1) then
    some false
    else
    (bif decide (4000 < (a1.length : Int)) then
    some false
    else
    (ix a1 0).bind fun x118 =>
    (ix a1 0).bind fun x128 =>
    (ad (x118.1.length : Int) (x128.2.length : Int)).bind fun x138 =>
    (bif decide (0 < x138) then
    some false
    else
    (spec_IsValidFactorization_L1 N N a0 a1 ([0]) 1).bind fun s705 =>
    lpS s705 (fun q => some q) fun (x695, x696) =>
    (sb (x695.length : Int) 1).bind fun x698 =>
    (ix x695 x698).bind fun x699 =>
    some (x699 == (a0.length : Int)))))
    else
    some false)
def impl_within (N : Nat) (a0 : Int) (a1 : Int) (a2 : Int) : Option Bool :=
    (bif decide (a1 ≤ a0) then
    some (decide (a0 ≤ a2))
    else
    some false)
end Go.Proofs.Ytobjjdfgnaanjaa
