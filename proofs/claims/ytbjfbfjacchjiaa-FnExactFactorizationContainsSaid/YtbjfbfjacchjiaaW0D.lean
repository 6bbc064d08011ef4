/- What functions of the program come to, written out by a program: none where a bound is passed. -/
import Derived.Test.YtbjfbfjacchjiaaR
namespace Go.Proofs.Ytbjfbfjacchjiaa
open Go.RowKit
def laws_szIntS (N : Nat) (a0 : List Int) (a1 : Int) : Option Int :=
    (sb a1 (a0.length : Int)).bind fun x103 =>
    (bif decide (x103 < 0) then
    some (-1)
    else
    some x103)
def laws_szFactorNode (N : Nat) (a0 : List Int) (a1 : List Int) (a2 : Int) : Option Int :=
    (laws_szIntS N a0 a2).bind fun r107 =>
    (bif decide (r107 < 0) then
    some (-1)
    else
    (laws_szIntS N a1 r107).bind fun r115 =>
    (bif decide (r115 < 0) then
    some (-1)
    else
    some r115))
def laws_szFactorNodeS_L1 (N : Nat) : Nat → (List (List Int × List Int)) → Int → Int → Option (Sum Int (Int × Int))
  | 0, _, _, _ => none
  | k + 1, x161, x162, x163 =>
    (bif decide (x163 < (x161.length : Int)) then
    (ix x161 x163).bind fun x170 =>
    (laws_szFactorNode N x170.1 x170.2 x162).bind fun r180 =>
    (bif decide (r180 < 0) then
    some (.inl (-1))
    else
    (ad x163 1).bind fun x186 =>
    laws_szFactorNodeS_L1 N k x161 r180 x186)
    else
    some (.inr (x162, x163)))
def laws_szFactorNodeS (N : Nat) (a0 : List (List Int × List Int)) (a1 : Int) : Option Int :=
    (sb a1 (a0.length : Int)).bind fun x103 =>
    (bif decide (x103 < 0) then
    some (-1)
    else
    (laws_szFactorNodeS_L1 N N a0 x103 0).bind fun s190 =>
    lpS s190 (fun q => some q) fun (x187, x188) =>
    some x187)
def laws_szFactorization (N : Nat) (a0 : List Int) (a1 : List (List Int × List Int)) (a2 : Int) : Option Int :=
    (laws_szIntS N a0 a2).bind fun r107 =>
    (bif decide (r107 < 0) then
    some (-1)
    else
    (laws_szFactorNodeS N a1 r107).bind fun r115 =>
    (bif decide (r115 < 0) then
    some (-1)
    else
    some r115))
def spec_l1In (N : Nat) (a0 : Int) (a1 : Int) (a2 : Int) : Option Bool :=
    (bif decide (a1 ≤ a0) then
    some (decide (a0 ≤ a2))
    else
    some false)
def spec_l7Find_L1 (N : Nat) : Nat → (List Int) → Int → Int → Option (Sum Int Int)
  | 0, _, _, _ => none
  | k + 1, x138, x139, x140 =>
    (bif decide (x140 < (x138.length : Int)) then
    (ix x138 x140).bind fun x147 =>
    (bif (x147 == x139) then
    some (.inl x140)
    else
    (ad x140 1).bind fun x155 =>
    spec_l7Find_L1 N k x138 x139 x155)
    else
    some (.inr x140))
def spec_l7Find (N : Nat) (a0 : List Int) (a1 : Int) : Option Int :=
    (spec_l7Find_L1 N N a0 a1 0).bind fun s158 =>
    lpS s158 (fun q => some q) fun x156 =>
    some (-1)
def spec_IsPermutation_L1 (N : Nat) : Nat → (List Int) → Int → Option (Sum Bool Int)
  | 0, _, _ => none
  | k + 1, x174, x175 =>
    (bif decide (x175 < (x174.length : Int)) then
    (ix x174 x175).bind fun x182 =>
    (sb (x174.length : Int) 1).bind fun x188 =>
    (spec_l1In N x182 0 x188).bind fun r189 =>
    (bif r189 then
    (slc x174 0 x175).bind fun x191 =>
    (ix x174 x175).bind fun x194 =>
    (spec_l7Find N x191 x194).bind fun r200 =>
    (bif decide (0 ≤ r200) then
    some (.inl false)
    else
    (ad x175 1).bind fun x205 =>
    spec_IsPermutation_L1 N k x174 x205)
    else
    some (.inl false))
    else
    some (.inr x175))
def spec_IsPermutation (N : Nat) (a0 : List Int) : Option Bool :=
    (spec_IsPermutation_L1 N N a0 0).bind fun s211 =>
    lpS s211 (fun q => some q) fun x209 =>
    some (decide ((a0.length : Int) ≤ 5))
def spec_IsStrictlyAscending_L1 (N : Nat) : Nat → (List Int) → Int → Option (Sum Bool Int)
  | 0, _, _ => none
  | k + 1, x156, x157 =>
    (bif decide (x157 < (x156.length : Int)) then
    (ix x156 x157).bind fun x164 =>
    (sb x157 1).bind fun x170 =>
    (ix x156 x170).bind fun x171 =>
    (bif decide (x164 ≤ x171) then
    some (.inl false)
    else
    (ad x157 1).bind fun x181 =>
    spec_IsStrictlyAscending_L1 N k x156 x181)
    else
    some (.inr x157))
def spec_IsStrictlyAscending (N : Nat) (a0 : List Int) : Option Bool :=
    (spec_IsStrictlyAscending_L1 N N a0 1).bind fun s184 =>
    lpS s184 (fun q => some q) fun x182 =>
    some true
def spec_AreValidValues_L1 (N : Nat) : Nat → (List Int) → Int → Option (Sum Bool Int)
  | 0, _, _ => none
  | k + 1, x144, x145 =>
    (bif decide (x145 < (x144.length : Int)) then
    (ix x144 x145).bind fun x152 =>
    (spec_l1In N x152 0 99).bind fun r158 =>
    (bif r158 then
    (ad x145 1).bind fun x162 =>
    spec_AreValidValues_L1 N k x144 x162
    else
    some (.inl false))
    else
    some (.inr x145))
def spec_AreValidValues (N : Nat) (a0 : List Int) : Option Bool :=
    (spec_AreValidValues_L1 N N a0 0).bind fun s166 =>
    lpS s166 (fun q => some q) fun x164 =>
    some true
def spec_CompareRows_L1 (N : Nat) : Nat → (List Int) → (List Int) → Int → Option (Sum Int Int)
  | 0, _, _, _ => none
  | k + 1, x192, x195, x196 =>
    (bif decide (x196 < (x192.length : Int)) then
    (bif decide (x196 < (x195.length : Int)) then
    (ix x192 x196).bind fun x205 =>
    (ix x195 x196).bind fun x211 =>
    (bif decide (x205 < x211) then
    some (.inl (-1))
    else
    (ix x192 x196).bind fun x222 =>
    (ix x195 x196).bind fun x228 =>
    (bif decide (x228 < x222) then
    some (.inl 1)
    else
    (ad x196 1).bind fun x238 =>
    spec_CompareRows_L1 N k x192 x195 x238))
    else
    some (.inr x196))
    else
    some (.inr x196))
def spec_CompareRows (N : Nat) (a0 : List Int) (a1 : List Int) : Option Int :=
    (spec_CompareRows_L1 N N a0 a1 0).bind fun s249 =>
    lpS s249 (fun q => some q) fun x239 =>
    (bif decide ((a0.length : Int) < (a1.length : Int)) then
    some (-1)
    else
    (bif decide ((a1.length : Int) < (a0.length : Int)) then
    some 1
    else
    some 0))
def spec_IsValidFactorization_L2 (N : Nat) : Nat → (List Int) → (List (List Int × List Int)) → (List Int) → Int → (List Int) → (List Int) → Int → Option (Sum Bool Int)
  | 0, _, _, _, _, _, _, _ => none
  | k + 1, x551, x554, x557, x558, x561, x564, x565 =>
    (bif decide (x565 < (x564.length : Int)) then
    (ix x564 x565).bind fun x572 =>
    (sb x558 1).bind fun x578 =>
    (spec_l1In N x572 0 x578).bind fun r579 =>
    (bif r579 then
    (ix x564 x565).bind fun x581 =>
    (ix x557 x581).bind fun x587 =>
    (ix x564 0).bind fun x591 =>
    (ix x557 x591).bind fun x597 =>
    (bif (x587 != x597) then
    some (.inl false)
    else
    (ad x565 1).bind fun x605 =>
    spec_IsValidFactorization_L2 N k x551 x554 x557 x558 x561 x564 x605)
    else
    some (.inl false))
    else
    some (.inr x565))
def spec_IsValidFactorization_L3 (N : Nat) : Nat → (List Int) → (List (List Int × List Int)) → (List Int) → Int → (List Int) → (List Int) → Int → Option (Sum Bool Int)
  | 0, _, _, _, _, _, _, _ => none
  | k + 1, x635, x638, x641, x642, x645, x648, x649 =>
    (bif decide (x649 < x642) then
    (ix x638 x649).bind fun x656 =>
    (spec_CompareRows N x656.1 x645).bind fun r666 =>
    (bif (r666 == 0) then
    (ix x638 x649).bind fun x668 =>
    (spec_CompareRows N x668.2 x648).bind fun r678 =>
    (bif (r678 == 0) then
    some (.inl false)
    else
    (ad x649 1).bind fun x683 =>
    spec_IsValidFactorization_L3 N k x635 x638 x641 x642 x645 x648 x683)
    else
    (ad x649 1).bind fun x686 =>
    spec_IsValidFactorization_L3 N k x635 x638 x641 x642 x645 x648 x686)
    else
    some (.inr x649))
def spec_IsValidFactorization_L1 (N : Nat) : Nat → (List Int) → (List (List Int × List Int)) → (List Int) → Int → Option (Sum Bool ((List Int) × Int))
  | 0, _, _, _, _ => none
  | k + 1, x486, x489, x492, x493 =>
    (bif decide (x493 < (x489.length : Int)) then
    (ix x489 x493).bind fun x500 =>
    (bif ((x500.1.length : Int) != (x500.2.length : Int)) then
    some (.inl false)
    else
    (spec_IsStrictlyAscending N x500.1).bind fun r519 =>
    (bif r519 then
    (spec_AreValidValues N x500.1).bind fun r523 =>
    (bif r523 then
    (bif ((x500.1.length : Int) == 0) then
    (sb (x489.length : Int) 1).bind fun x532 =>
    (bif (x493 != x532) then
    some (.inl false)
    else
    (apd 8 x492 [(x486.length : Int)]).bind fun x542 =>
    (ad x493 1).bind fun x545 =>
    spec_IsValidFactorization_L1 N k x486 x489 x542 x545)
    else
    (spec_IsValidFactorization_L2 N N x486 x489 x492 x493 x500.1 x500.2 0).bind fun s690 =>
    lpS s690 (fun q => some (.inl q)) fun x609 =>
    (ix x500.2 0).bind fun x611 =>
    (ix x492 x611).bind fun x617 =>
    (ad x617 1).bind fun x621 =>
    (apd 8 x492 [x621]).bind fun x628 =>
    (spec_IsValidFactorization_L3 N N x486 x489 x628 x493 x500.1 x500.2 1).bind fun s689 =>
    lpS s689 (fun q => some (.inl q)) fun x687 =>
    (ad x493 1).bind fun x688 =>
    spec_IsValidFactorization_L1 N k x486 x489 x628 x688)
    else
    some (.inl false))
    else
    some (.inl false)))
    else
    some (.inr (x492, x493)))
def spec_IsValidFactorization (N : Nat) (a0 : List Int) (a1 : List (List Int × List Int)) : Option Bool :=
    (spec_IsPermutation N a0).bind fun r108 =>
    (bif r108 then
    (bif decide ((a1.length : Int) < 1) then
    some false
    else
    (bif decide (4000 < (a1.length : Int)) then
    some false
    else
    (ix a1 0).bind fun x118 =>
    (ix a1 0).bind fun x128 =>
    (ad (x118.1.length : Int) (x128.2.length : Int)).bind fun x138 =>
    (bif decide (0 < x138) then
    some false
    else
    (spec_IsValidFactorization_L1 N N a0 a1 ([0]) 1).bind fun s705 =>
    lpS s705 (fun q => some q) fun (x695, x696) =>
    (sb (x695.length : Int) 1).bind fun x698 =>
    (ix x695 x698).bind fun x699 =>
    some (x699 == (a0.length : Int)))))
    else
    some false)
def spec_l23Counts_L2 (N : Nat) : Nat → (List Int) → (List (List Int × List Int)) → (List Int) → Int → Int → Int → Option (Int × Int)
  | 0, _, _, _, _, _, _ => none
  | k + 1, x258, x261, x264, x265, x266, x267 =>
    (ix x261 x265).bind fun x270 =>
    (bif decide (x267 < (x270.2.length : Int)) then
    (ix x261 x265).bind fun x283 =>
    (ix x283.2 x267).bind fun x293 =>
    (ix x264 x293).bind fun x299 =>
    (ad x266 x299).bind fun x303 =>
    (ad x267 1).bind fun x304 =>
    spec_l23Counts_L2 N k x258 x261 x264 x265 (imn 1000000000 x303) x304
    else
    some (x266, x267))
def spec_l23Counts_L1 (N : Nat) : Nat → (List Int) → (List (List Int × List Int)) → (List Int) → Int → Option ((List Int) × Int)
  | 0, _, _, _, _ => none
  | k + 1, x239, x242, x245, x246 =>
    (bif decide (x246 < (x242.length : Int)) then
    (spec_l23Counts_L2 N N x239 x242 x245 x246 0 0).bind fun s317 =>
    lpB s317 fun (x305, x306) =>
    (apd 8 x245 [x305]).bind fun x313 =>
    (ad x246 1).bind fun x316 =>
    spec_l23Counts_L1 N k x239 x242 x313 x316
    else
    some (x245, x246))
def spec_l23Counts (N : Nat) (a0 : List Int) (a1 : List (List Int × List Int)) : Option (List Int) :=
    (spec_l23Counts_L1 N N a0 a1 ([1]) 1).bind fun s323 =>
    lpB s323 fun (x320, x321) =>
    some x320
end Go.Proofs.Ytbjfbfjacchjiaa
