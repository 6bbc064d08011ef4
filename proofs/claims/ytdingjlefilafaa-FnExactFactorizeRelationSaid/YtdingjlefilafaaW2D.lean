/- What functions of the program come to, written out by a program: none where a bound is passed. -/
import Derived.Test.YtdingjlefilafaaW1D
namespace Go.Proofs.Ytdingjlefilafaa
open Go.RowKit
def impl_copyInts (N : Nat) (a0 : List Int) : Option (List Int) :=
    (apd 8 [] a0).bind fun x109 =>
    some x109
def impl_expand_L1 (rec : (List Int) → (List (List Int × List Int)) → Int → (List Int) → (List (List Int)) → Option (List (List Int))) (N : Nat) : Nat → (List Int) → (List (List Int)) → (List Int) → (List (List Int × List Int)) → (List Int) → (List Int) → (List Int) → Int → Int → Option ((List (List Int)) × Int)
  | 0, _, _, _, _, _, _, _, _, _ => none
  | k + 1, x269, x272, x275, x278, x281, x284, x287, x288, x289 =>
    (bif decide (x289 < x288) then
    (ix x287 x289).bind fun x296 =>
    (ix x284 x289).bind fun x304 =>
    (impl_copyInts N x269).bind fun r310 =>
    (apd 8 r310 [x296]).bind fun x321 =>
    (rec x275 x278 x304 x321 x272).bind fun r324 =>
    (ad x289 1).bind fun x328 =>
    impl_expand_L1 rec N k x269 r324 x275 x278 x281 x284 x287 x288 x328
    else
    some (x272, x289))
def impl_expand : Nat → (List Int) → (List (List Int × List Int)) → Int → (List Int) → (List (List Int)) → Option (List (List Int))
  | 0, _, _, _, _, _ => none
  | N + 1, a0, a1, a2, a3, a4 =>
    (bif (a2 == 0) then
    (impl_copyInts N a3).bind fun r110 =>
    (apd 24 a4 [r110]).bind fun x121 =>
    some x121
    else
    (ix a1 a2).bind fun x125 =>
    (impl_expand_L1 (impl_expand N) N N a3 a4 a0 a1 x125.1 x125.2 x125.1 (x125.1.length : Int) 0).bind fun s334 =>
    lpB s334 fun (x331, x332) =>
    some x331)
def impl_ExpandFactorization (N : Nat) (a0 : List Int) (a1 : List (List Int × List Int)) : Option ((Int × List (List Int)) × Bool) :=
    (impl_IsValidFactorization N a0 a1).bind fun r112 =>
    (bif r112 then
    (impl_FactorizedRowCount N a0 a1).bind fun r116 =>
    (bif decide (4000 < r116) then
    some ((0, []), false)
    else
    (sb (a1.length : Int) 1).bind fun x125 =>
    (impl_expand N a0 a1 x125 [] []).bind fun r128 =>
    some (((a0.length : Int), r128), true))
    else
    some ((0, []), false))
def laws_szIntS (N : Nat) (a0 : List Int) (a1 : Int) : Option Int :=
    (sb a1 (a0.length : Int)).bind fun x103 =>
    (bif decide (x103 < 0) then
    some (-1)
    else
    some x103)
def laws_szFactorNode (N : Nat) (a0 : List Int) (a1 : List Int) (a2 : Int) : Option Int :=
    (laws_szIntS N a0 a2).bind fun r107 =>
    (bif decide (r107 < 0) then
    some (-1)
    else
    (laws_szIntS N a1 r107).bind fun r115 =>
    (bif decide (r115 < 0) then
    some (-1)
    else
    some r115))
def laws_szFactorNodeS_L1 (N : Nat) : Nat → (List (List Int × List Int)) → Int → Int → Option (Sum Int (Int × Int))
  | 0, _, _, _ => none
  | k + 1, x161, x162, x163 =>
    (bif decide (x163 < (x161.length : Int)) then
    (ix x161 x163).bind fun x170 =>
    (laws_szFactorNode N x170.1 x170.2 x162).bind fun r180 =>
    (bif decide (r180 < 0) then
    some (.inl (-1))
    else
    (ad x163 1).bind fun x186 =>
    laws_szFactorNodeS_L1 N k x161 r180 x186)
    else
    some (.inr (x162, x163)))
def laws_szFactorNodeS (N : Nat) (a0 : List (List Int × List Int)) (a1 : Int) : Option Int :=
    (sb a1 (a0.length : Int)).bind fun x103 =>
    (bif decide (x103 < 0) then
    some (-1)
    else
    (laws_szFactorNodeS_L1 N N a0 x103 0).bind fun s190 =>
    lpS s190 (fun q => some q) fun (x187, x188) =>
    some x187)
def laws_szFactorization (N : Nat) (a0 : List Int) (a1 : List (List Int × List Int)) (a2 : Int) : Option Int :=
    (laws_szIntS N a0 a2).bind fun r107 =>
    (bif decide (r107 < 0) then
    some (-1)
    else
    (laws_szFactorNodeS N a1 r107).bind fun r115 =>
    (bif decide (r115 < 0) then
    some (-1)
    else
    some r115))
def spec_l1In (N : Nat) (a0 : Int) (a1 : Int) (a2 : Int) : Option Bool :=
    (bif decide (a1 ≤ a0) then
    some (decide (a0 ≤ a2))
    else
    some false)
def spec_AreValidValues_L1 (N : Nat) : Nat → (List Int) → Int → Option (Sum Bool Int)
  | 0, _, _ => none
  | k + 1, x144, x145 =>
    (bif decide (x145 < (x144.length : Int)) then
    (ix x144 x145).bind fun x152 =>
    (spec_l1In N x152 0 99).bind fun r158 =>
    (bif r158 then
    (ad x145 1).bind fun x162 =>
    spec_AreValidValues_L1 N k x144 x162
    else
    some (.inl false))
    else
    some (.inr x145))
def spec_AreValidValues (N : Nat) (a0 : List Int) : Option Bool :=
    (spec_AreValidValues_L1 N N a0 0).bind fun s166 =>
    lpS s166 (fun q => some q) fun x164 =>
    some true
def spec_CompareRows_L1 (N : Nat) : Nat → (List Int) → (List Int) → Int → Option (Sum Int Int)
  | 0, _, _, _ => none
  | k + 1, x192, x195, x196 =>
    (bif decide (x196 < (x192.length : Int)) then
    (bif decide (x196 < (x195.length : Int)) then
    (ix x192 x196).bind fun x205 =>
    (ix x195 x196).bind fun x211 =>
    (bif decide (x205 < x211) then
    some (.inl (-1))
    else
    (ix x192 x196).bind fun x222 =>
    (ix x195 x196).bind fun x228 =>
    (bif decide (x228 < x222) then
    some (.inl 1)
    else
    (ad x196 1).bind fun x238 =>
    spec_CompareRows_L1 N k x192 x195 x238))
    else
    some (.inr x196))
    else
    some (.inr x196))
def spec_CompareRows (N : Nat) (a0 : List Int) (a1 : List Int) : Option Int :=
    (spec_CompareRows_L1 N N a0 a1 0).bind fun s249 =>
    lpS s249 (fun q => some q) fun x239 =>
    (bif decide ((a0.length : Int) < (a1.length : Int)) then
    some (-1)
    else
    (bif decide ((a1.length : Int) < (a0.length : Int)) then
    some 1
    else
    some 0))
def spec_l7Find_L1 (N : Nat) : Nat → (List Int) → Int → Int → Option (Sum Int Int)
  | 0, _, _, _ => none
  | k + 1, x138, x139, x140 =>
    (bif decide (x140 < (x138.length : Int)) then
    (ix x138 x140).bind fun x147 =>
    (bif (x147 == x139) then
    some (.inl x140)
    else
    (ad x140 1).bind fun x155 =>
    spec_l7Find_L1 N k x138 x139 x155)
    else
    some (.inr x140))
def spec_l7Find (N : Nat) (a0 : List Int) (a1 : Int) : Option Int :=
    (spec_l7Find_L1 N N a0 a1 0).bind fun s158 =>
    lpS s158 (fun q => some q) fun x156 =>
    some (-1)
def spec_IsPermutation_L1 (N : Nat) : Nat → (List Int) → Int → Option (Sum Bool Int)
  | 0, _, _ => none
  | k + 1, x174, x175 =>
    (bif decide (x175 < (x174.length : Int)) then
    (ix x174 x175).bind fun x182 =>
    (sb (x174.length : Int) 1).bind fun x188 =>
    (spec_l1In N x182 0 x188).bind fun r189 =>
    (bif r189 then
    (slc x174 0 x175).bind fun x191 =>
    (ix x174 x175).bind fun x194 =>
    (spec_l7Find N x191 x194).bind fun r200 =>
    (bif decide (0 ≤ r200) then
    some (.inl false)
    else
    (ad x175 1).bind fun x205 =>
    spec_IsPermutation_L1 N k x174 x205)
    else
    some (.inl false))
    else
    some (.inr x175))
def spec_IsPermutation (N : Nat) (a0 : List Int) : Option Bool :=
    (spec_IsPermutation_L1 N N a0 0).bind fun s211 =>
    lpS s211 (fun q => some q) fun x209 =>
    some (decide ((a0.length : Int) ≤ 5))
end Go.Proofs.Ytdingjlefilafaa
