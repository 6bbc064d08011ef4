/- What functions of the program come to, written out by a program: none where a bound is passed. -/
import Derived.Test.YtobjjdfgnaanjaaW3D
namespace Go.Proofs.Ytobjjdfgnaanjaa
open Go.RowKit
def spec_IsValidFactorization_L2 (N : Nat) : Nat → (List Int) → (List (List Int × List Int)) → (List Int) → Int → (List Int) → (List Int) → Int → Option (Sum Bool Int)
  | 0, _, _, _, _, _, _, _ => none
  | k + 1, x466, x469, x472, x473, x476, x479, x480 =>
    (bif decide (x480 < (x479.length : Int)) then
    (ix x479 x480).bind fun x482 =>
    (sb x473 1).bind fun x488 =>
    (spec_l1In N x482 0 x488).bind fun r489 =>
    (bif r489 then
    (ix x479 x480).bind fun x491 =>
    (ix x472 x491).bind fun x497 =>
    (ix x479 0).bind fun x503 =>
    (ix x472 x503).bind fun x509 =>
    (bif (x497 != x509) then
    some (.inl false)
    else
    (ad x480 1).bind fun x518 =>
    spec_IsValidFactorization_L2 N k x466 x469 x472 x473 x476 x479 x518)
    else
    some (.inl false))
    else
    some (.inr x480))
def spec_IsValidFactorization_L3 (N : Nat) : Nat → (List Int) → (List (List Int × List Int)) → (List Int) → Int → (List Int) → (List Int) → Int → Option (Sum Bool Int)
  | 0, _, _, _, _, _, _, _ => none
  | k + 1, x546, x549, x552, x553, x556, x559, x560 =>
    (bif decide (x560 < x553) then
    (ix x549 x560).bind fun x562 =>
    (spec_CompareRows N x562.1 x556).bind fun r572 =>
    (bif (r572 == 0) then
    (ix x549 x560).bind fun x574 =>
    (spec_CompareRows N x574.2 x559).bind fun r584 =>
    (bif (r584 == 0) then
    some (.inl false)
    else
    (ad x560 1).bind fun x588 =>
    spec_IsValidFactorization_L3 N k x546 x549 x552 x553 x556 x559 x588)
    else
    (ad x560 1).bind fun x591 =>
    spec_IsValidFactorization_L3 N k x546 x549 x552 x553 x556 x559 x591)
    else
    some (.inr x560))
def spec_IsValidFactorization_L1 (N : Nat) : Nat → (List Int) → (List (List Int × List Int)) → (List Int) → Int → Option (Sum Bool ((List Int) × Int))
  | 0, _, _, _, _ => none
  | k + 1, x418, x421, x424, x425 =>
    (bif decide (x425 < (x421.length : Int)) then
    (ix x421 x425).bind fun x427 =>
    (bif ((x427.1.length : Int) != (x427.2.length : Int)) then
    some (.inl false)
    else
    (spec_IsStrictlyAscending N x427.1).bind fun r443 =>
    (bif r443 then
    (spec_AreValidValues N x427.1).bind fun r447 =>
    (bif r447 then
    (bif ((x427.1.length : Int) == 0) then
    (sb (x421.length : Int) 1).bind fun x452 =>
    (bif (x425 != x452) then
    some (.inl false)
    else
    (apd 8 x424 [(x418.length : Int)]).bind fun x460 =>
    (ad x425 1).bind fun x463 =>
    spec_IsValidFactorization_L1 N k x418 x421 x460 x463)
    else
    (spec_IsValidFactorization_L2 N N x418 x421 x424 x425 x427.1 x427.2 0).bind fun s595 =>
    lpS s595 (fun q => some (.inl q)) fun x521 =>
    (ix x427.2 0).bind fun x522 =>
    (ix x424 x522).bind fun x528 =>
    (ad x528 1).bind fun x534 =>
    (apd 8 x424 [x534]).bind fun x541 =>
    (spec_IsValidFactorization_L3 N N x418 x421 x541 x425 x427.1 x427.2 1).bind fun s594 =>
    lpS s594 (fun q => some (.inl q)) fun x592 =>
    (ad x425 1).bind fun x593 =>
    spec_IsValidFactorization_L1 N k x418 x421 x541 x593)
    else
    some (.inl false))
    else
    some (.inl false)))
    else
    some (.inr (x424, x425)))
def spec_IsValidFactorization (N : Nat) (a0 : List Int) (a1 : List (List Int × List Int)) : Option Bool :=
    (spec_IsPermutation N a0).bind fun r105 =>
    (bif r105 then
    (bif decide ((a1.length : Int) < 1) then
    some false
    else
    (bif decide (4000 < (a1.length : Int)) then
    some false
    else
    (ix a1 0).bind fun x113 =>
    (ix a1 0).bind fun x123 =>
    (ad (x113.1.length : Int) (x123.2.length : Int)).bind fun x133 =>
    (bif decide (0 < x133) then
    some false
    else
    (spec_IsValidFactorization_L1 N N a0 a1 ([0]) 1).bind fun s609 =>
    lpS s609 (fun q => some q) fun (x598, x599) =>
    (sb (x598.length : Int) 1).bind fun x600 =>
    (ix x598 x600).bind fun x601 =>
    some (x601 == (a0.length : Int)))))
    else
    some false)
def impl_within (N : Nat) (a0 : Int) (a1 : Int) (a2 : Int) : Option Bool :=
    (bif decide (a1 ≤ a0) then
    some (decide (a0 ≤ a2))
    else
    some false)
def impl_indexOf_L1 (N : Nat) : Nat → Int → (List Int) → Int → Int → Option (Sum Int Int)
  | 0, _, _, _, _ => none
  | k + 1, x120, x123, x124, x125 =>
    (bif decide (x125 < x124) then
    (ix x123 x125).bind fun x127 =>
    (bif (x127 == x120) then
    some (.inl x125)
    else
    (ad x125 1).bind fun x134 =>
    impl_indexOf_L1 N k x120 x123 x124 x134)
    else
    some (.inr x125))
def impl_indexOf (N : Nat) (a0 : List Int) (a1 : Int) : Option Int :=
    (impl_indexOf_L1 N N a1 a0 (a0.length : Int) 0).bind fun s136 =>
    lpS s136 (fun q => some q) fun x135 =>
    some (-1)
def impl_hasInt (N : Nat) (a0 : List Int) (a1 : Int) : Option Bool :=
    (impl_indexOf N a0 a1).bind fun r101 =>
    some (decide (0 ≤ r101))
def impl_isSetOf_L1 (N : Nat) : Nat → (List Int) → Int → (List Int) → Int → Int → Option (Sum Bool Int)
  | 0, _, _, _, _, _ => none
  | k + 1, x144, x145, x148, x149, x150 =>
    (bif decide (x150 < x149) then
    (ix x148 x150).bind fun x152 =>
    (sb x145 1).bind fun x158 =>
    (impl_within N x152 0 x158).bind fun r159 =>
    (bif r159 then
    (slc x144 0 x150).bind fun x163 =>
    (impl_hasInt N x163 x152).bind fun r166 =>
    (bif r166 then
    some (.inl false)
    else
    (ad x150 1).bind fun x170 =>
    impl_isSetOf_L1 N k x144 x145 x148 x149 x170)
    else
    some (.inl false))
    else
    some (.inr x150))
def impl_isSetOf (N : Nat) (a0 : List Int) (a1 : Int) : Option Bool :=
    (impl_isSetOf_L1 N N a0 a1 a0 (a0.length : Int) 0).bind fun s172 =>
    lpS s172 (fun q => some q) fun x171 =>
    some true
def impl_IsPermutation (N : Nat) (a0 : List Int) : Option Bool :=
    (bif decide ((a0.length : Int) ≤ 5) then
    (impl_isSetOf N a0 (a0.length : Int)).bind fun r102 =>
    some r102
    else
    some false)
def impl_AreValidValues_L1 (N : Nat) : Nat → (List Int) → Int → Int → Option (Sum Bool Int)
  | 0, _, _, _ => none
  | k + 1, x128, x129, x130 =>
    (bif decide (x130 < x129) then
    (ix x128 x130).bind fun x132 =>
    (impl_within N x132 0 99).bind fun r138 =>
    (bif r138 then
    (ad x130 1).bind fun x142 =>
    impl_AreValidValues_L1 N k x128 x129 x142
    else
    some (.inl false))
    else
    some (.inr x130))
def impl_AreValidValues (N : Nat) (a0 : List Int) : Option Bool :=
    (impl_AreValidValues_L1 N N a0 (a0.length : Int) 0).bind fun s144 =>
    lpS s144 (fun q => some q) fun x143 =>
    some true
def impl_IsStrictlyAscending_L1 (N : Nat) : Nat → (List Int) → Int → Option (Sum Bool Int)
  | 0, _, _ => none
  | k + 1, x140, x141 =>
    (bif decide (x141 < (x140.length : Int)) then
    (sb x141 1).bind fun x143 =>
    (ix x140 x143).bind fun x144 =>
    (ix x140 x141).bind fun x150 =>
    (bif decide (x150 ≤ x144) then
    some (.inl false)
    else
    (ad x141 1).bind fun x159 =>
    impl_IsStrictlyAscending_L1 N k x140 x159)
    else
    some (.inr x141))
def impl_IsStrictlyAscending (N : Nat) (a0 : List Int) : Option Bool :=
    (impl_IsStrictlyAscending_L1 N N a0 1).bind fun s161 =>
    lpS s161 (fun q => some q) fun x160 =>
    some true
def impl_nodeOk_L1 (N : Nat) : Nat → (List Int) → Int → (List Int) → (List (List Int × List Int)) → (List Int) → (List Int) → (List Int) → Int → Int → Option (Sum (Int × Bool) Int)
  | 0, _, _, _, _, _, _, _, _, _ => none
  | k + 1, x204, x205, x208, x211, x214, x217, x220, x221, x222 =>
    (bif decide (x222 < x221) then
    (ix x220 x222).bind fun x224 =>
    (sb x205 1).bind fun x230 =>
    (impl_within N x224 0 x230).bind fun r231 =>
    (bif r231 then
    (ix x204 x224).bind fun x233 =>
    (ix x217 0).bind fun x239 =>
    (ix x204 x239).bind fun x245 =>
    (bif (x233 != x245) then
    some (.inl (0, false))
    else
    (ad x222 1).bind fun x254 =>
    impl_nodeOk_L1 N k x204 x205 x208 x211 x214 x217 x220 x221 x254)
    else
    some (.inl (0, false)))
    else
    some (.inr x222))
def impl_nodeOk_L2 (N : Nat) : Nat → (List Int) → (List Int) → (List Int) → (List (List Int × List Int)) → Int → Int → Option (Sum (Int × Bool) Int)
  | 0, _, _, _, _, _, _ => none
  | k + 1, x306, x309, x312, x315, x316, x317 =>
    (bif decide (x317 < x316) then
    (ix x315 x317).bind fun x319 =>
    (impl_sameNode N x319.1 x319.2 x309 x312).bind fun r334 =>
    (bif r334 then
    some (.inl (0, false))
    else
    (ad x317 1).bind fun x338 =>
    impl_nodeOk_L2 N k x306 x309 x312 x315 x316 x338)
    else
    some (.inr x317))
def impl_nodeOk (N : Nat) (a0 : List Int) (a1 : List (List Int × List Int)) (a2 : List Int) (a3 : Int) : Option (Int × Bool) :=
    (ix a1 a3).bind fun x105 =>
    (bif ((x105.1.length : Int) != (x105.2.length : Int)) then
    some (0, false)
    else
    (impl_AreValidValues N x105.1).bind fun r121 =>
    (bif r121 then
    (impl_IsStrictlyAscending N x105.1).bind fun r125 =>
    (bif r125 then
    (bif ((x105.1.length : Int) == 0) then
    (sb (a1.length : Int) 1).bind fun x130 =>
    some ((a0.length : Int), (a3 == x130))
    else
    (impl_nodeOk_L1 N N a2 a3 a0 a1 x105.1 x105.2 x105.2 (x105.2.length : Int) 0).bind fun s354 =>
    lpS s354 (fun q => some q) fun x257 =>
    (slc a1 1 a3).bind fun x258 =>
    (impl_nodeOk_L2 N N a2 x105.1 x105.2 x258 (x258.length : Int) 0).bind fun s353 =>
    lpS s353 (fun q => some q) fun x339 =>
    (ix x105.2 0).bind fun x340 =>
    (ix a2 x340).bind fun x346 =>
    (ad x346 1).bind fun x352 =>
    some (x352, true))
    else
    some (0, false))
    else
    some (0, false)))
def impl_IsValidFactorization_L1 (N : Nat) : Nat → (List Int) → (List (List Int × List Int)) → (List Int) → Int → Option (Sum Bool ((List Int) × Int))
  | 0, _, _, _, _ => none
  | k + 1, x182, x185, x188, x189 =>
    (bif decide (x189 < (x185.length : Int)) then
    (impl_nodeOk N x182 x185 x188 x189).bind fun r191 =>
    (bif r191.2 then
    (ix x188 x189).bind fun x195 =>
    (sto x188 x189 r191.1).bind fun x203 =>
    (ad x189 1).bind fun x204 =>
    impl_IsValidFactorization_L1 N k x182 x185 x203 x204
    else
    some (.inl false))
    else
    some (.inr (x188, x189)))
def impl_IsValidFactorization (N : Nat) (a0 : List Int) (a1 : List (List Int × List Int)) : Option Bool :=
    (impl_IsPermutation N a0).bind fun r110 =>
    (bif r110 then
    (impl_within N (a1.length : Int) 1 4000).bind fun r114 =>
    (bif r114 then
    (ix a1 0).bind fun x118 =>
    (bif decide (0 < (x118.1.length : Int)) then
    some false
    else
    (ix a1 0).bind fun x129 =>
    (bif decide (0 < (x129.2.length : Int)) then
    some false
    else
    (mk 8 (0 : Int) (a1.length : Int)).bind fun x143 =>
    (impl_IsValidFactorization_L1 N N a0 a1 x143 1).bind fun s218 =>
    lpS s218 (fun q => some q) fun (x207, x208) =>
    (sb (x207.length : Int) 1).bind fun x209 =>
    (ix x207 x209).bind fun x210 =>
    some (x210 == (a0.length : Int))))
    else
    some false)
    else
    some false)
def laws_FnExactIsValidFactorization (N : Nat) (a0 : List Int) (a1 : List (List Int × List Int)) : Option Bool :=
    (laws_szFactorization N a0 a1 1048576).bind fun r105 =>
    (bif decide (r105 < 0) then
    some true
    else
    (laws_toFactorization N a0 a1).bind fun r109 =>
    (spec_IsValidFactorization N r109.1 r109.2).bind fun r116 =>
    (laws_toFactorization N a0 a1).bind fun r119 =>
    (impl_IsValidFactorization N r119.1 r119.2).bind fun r131 =>
    (bif (r131 != r116) then
    some false
    else
    (laws_toFactorization N a0 a1).bind fun r137 =>
    (laws_eqFactorization N r119.1 r119.2 r137.1 r137.2).bind fun r150 =>
    (bif r150 then
    some true
    else
    some false)))
def spec_l25Clip (N : Nat) (a0 : Int) : Option Int :=
    some (imx 0 (imn 1000000000 a0))
end Go.Proofs.Ytobjjdfgnaanjaa
