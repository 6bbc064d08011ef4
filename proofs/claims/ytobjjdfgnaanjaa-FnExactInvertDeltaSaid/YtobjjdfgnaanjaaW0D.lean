/- What functions of the program come to, written out by a program: none where a bound is passed. -/
import Derived.Test.YtobjjdfgnaanjaaR
namespace Go.Proofs.Ytobjjdfgnaanjaa
open Go.RowKit
def laws_szIntS (N : Nat) (a0 : List Int) (a1 : Int) : Option Int :=
    (sb a1 (a0.length : Int)).bind fun x103 =>
    (bif decide (x103 < 0) then
    some (-1)
    else
    some x103)
def laws_szFactorNode (N : Nat) (a0 : List Int) (a1 : List Int) (a2 : Int) : Option Int :=
    (laws_szIntS N a0 a2).bind fun r107 =>
    (bif decide (r107 < 0) then
    some (-1)
    else
    (laws_szIntS N a1 r107).bind fun r115 =>
    (bif decide (r115 < 0) then
    some (-1)
    else
    some r115))
def laws_szFactorNodeS_L1 (N : Nat) : Nat → (List (List Int × List Int)) → Int → Int → Option (Sum Int (Int × Int))
  | 0, _, _, _ => none
  | k + 1, x161, x162, x163 =>
    (bif decide (x163 < (x161.length : Int)) then
    (ix x161 x163).bind fun x170 =>
    (laws_szFactorNode N x170.1 x170.2 x162).bind fun r180 =>
    (bif decide (r180 < 0) then
    some (.inl (-1))
    else
    (ad x163 1).bind fun x186 =>
    laws_szFactorNodeS_L1 N k x161 r180 x186)
    else
    some (.inr (x162, x163)))
def laws_szFactorNodeS (N : Nat) (a0 : List (List Int × List Int)) (a1 : Int) : Option Int :=
    (sb a1 (a0.length : Int)).bind fun x103 =>
    (bif decide (x103 < 0) then
    some (-1)
    else
    (laws_szFactorNodeS_L1 N N a0 x103 0).bind fun s190 =>
    lpS s190 (fun q => some q) fun (x187, x188) =>
    some x187)
def laws_szFactorization (N : Nat) (a0 : List Int) (a1 : List (List Int × List Int)) (a2 : Int) : Option Int :=
    (laws_szIntS N a0 a2).bind fun r107 =>
    (bif decide (r107 < 0) then
    some (-1)
    else
    (laws_szFactorNodeS N a1 r107).bind fun r115 =>
    (bif decide (r115 < 0) then
    some (-1)
    else
    some r115))
def spec_CompareRows_L1 (N : Nat) : Nat → (List Int) → (List Int) → Int → Option (Sum Int Int)
  | 0, _, _, _ => none
  | k + 1, x192, x195, x196 =>
    (bif decide (x196 < (x192.length : Int)) then
    (bif decide (x196 < (x195.length : Int)) then
    (ix x192 x196).bind fun x205 =>
    (ix x195 x196).bind fun x211 =>
    (bif decide (x205 < x211) then
    some (.inl (-1))
    else
    (ix x192 x196).bind fun x222 =>
    (ix x195 x196).bind fun x228 =>
    (bif decide (x228 < x222) then
    some (.inl 1)
    else
    (ad x196 1).bind fun x238 =>
    spec_CompareRows_L1 N k x192 x195 x238))
    else
    some (.inr x196))
    else
    some (.inr x196))
def spec_CompareRows (N : Nat) (a0 : List Int) (a1 : List Int) : Option Int :=
    (spec_CompareRows_L1 N N a0 a1 0).bind fun s249 =>
    lpS s249 (fun q => some q) fun x239 =>
    (bif decide ((a0.length : Int) < (a1.length : Int)) then
    some (-1)
    else
    (bif decide ((a1.length : Int) < (a0.length : Int)) then
    some 1
    else
    some 0))
def spec_EqualFactorizations_L1 (N : Nat) : Nat → (List Int) → (List (List Int × List Int)) → (List Int) → (List (List Int × List Int)) → Int → Option (Sum Bool Int)
  | 0, _, _, _, _, _ => none
  | k + 1, x239, x242, x245, x248, x249 =>
    (bif decide (x249 < (x242.length : Int)) then
    (ix x242 x249).bind fun x256 =>
    (ix x248 x249).bind fun x266 =>
    (spec_CompareRows N x256.1 x266.1).bind fun r276 =>
    (bif (r276 != 0) then
    some (.inl false)
    else
    (ix x242 x249).bind fun x281 =>
    (ix x248 x249).bind fun x291 =>
    (spec_CompareRows N x281.2 x291.2).bind fun r301 =>
    (bif (r301 != 0) then
    some (.inl false)
    else
    (ad x249 1).bind fun x306 =>
    spec_EqualFactorizations_L1 N k x239 x242 x245 x248 x306))
    else
    some (.inr x249))
def spec_EqualFactorizations (N : Nat) (a0 : List Int) (a1 : List (List Int × List Int)) (a2 : List Int) (a3 : List (List Int × List Int)) : Option Bool :=
    (spec_CompareRows N a0 a2).bind fun r112 =>
    (bif (r112 != 0) then
    some false
    else
    (bif ((a1.length : Int) != (a3.length : Int)) then
    some false
    else
    (spec_EqualFactorizations_L1 N N a0 a1 a2 a3 0).bind fun s309 =>
    lpS s309 (fun q => some q) fun x307 =>
    some true))
def laws_toIntS_L1 (N : Nat) : Nat → (List Int) → (List Int) → Int → Option ((List Int) × Int)
  | 0, _, _, _ => none
  | k + 1, x154, x157, x158 =>
    (bif decide (x158 < (x154.length : Int)) then
    (ix x154 x158).bind fun x164 =>
    (ix x157 x158).bind fun x170 =>
    (sto x157 x158 x164).bind fun x175 =>
    (ad x158 1).bind fun x176 =>
    laws_toIntS_L1 N k x154 x175 x176
    else
    some (x157, x158))
def laws_toIntS (N : Nat) (a0 : List Int) : Option (List Int) :=
    (mk 8 (0 : Int) (a0.length : Int)).bind fun x106 =>
    (laws_toIntS_L1 N N a0 x106 0).bind fun s182 =>
    lpB s182 fun (x179, x180) =>
    some x179
def laws_toFactorNode (N : Nat) (a0 : List Int) (a1 : List Int) : Option (List Int × List Int) :=
    (laws_toIntS N a0).bind fun r116 =>
    (laws_toIntS N a1).bind fun r123 =>
    some (r116, r123)
def laws_toFactorNodeS_L1 (N : Nat) : Nat → (List (List Int × List Int)) → (List (List Int × List Int)) → Int → Option ((List (List Int × List Int)) × Int)
  | 0, _, _, _ => none
  | k + 1, x190, x193, x194 =>
    (bif decide (x194 < (x190.length : Int)) then
    (ix x190 x194).bind fun x200 =>
    (laws_toFactorNode N x200.1 x200.2).bind fun r210 =>
    (ix x193 x194).bind fun x217 =>
    (sto x193 x194 (r210.1, r210.2)).bind fun x229 =>
    (ad x194 1).bind fun x230 =>
    laws_toFactorNodeS_L1 N k x190 x229 x230
    else
    some (x193, x194))
def laws_toFactorNodeS (N : Nat) (a0 : List (List Int × List Int)) : Option (List (List Int × List Int)) :=
    (mk 48 (([], []) : List Int × List Int) (a0.length : Int)).bind fun x106 =>
    (laws_toFactorNodeS_L1 N N a0 x106 0).bind fun s236 =>
    lpB s236 fun (x233, x234) =>
    some x233
def laws_toFactorization (N : Nat) (a0 : List Int) (a1 : List (List Int × List Int)) : Option (List Int × List (List Int × List Int)) :=
    (laws_toIntS N a0).bind fun r116 =>
    (laws_toFactorNodeS N a1).bind fun r123 =>
    some (r116, r123)
def impl_sameInts_L1 (N : Nat) : Nat → (List Int) → (List Int) → Int → Int → Option (Sum Bool Int)
  | 0, _, _, _, _ => none
  | k + 1, x160, x163, x164, x165 =>
    (bif decide (x165 < x164) then
    (ix x160 x165).bind fun x173 =>
    (ix x163 x165).bind fun x179 =>
    (bif (x173 != x179) then
    some (.inl false)
    else
    (ad x165 1).bind fun x189 =>
    impl_sameInts_L1 N k x160 x163 x164 x189)
    else
    some (.inr x165))
def impl_sameInts (N : Nat) (a0 : List Int) (a1 : List Int) : Option Bool :=
    (bif ((a0.length : Int) != (a1.length : Int)) then
    some false
    else
    (impl_sameInts_L1 N N a0 a1 (a0.length : Int) 0).bind fun s192 =>
    lpS s192 (fun q => some q) fun x190 =>
    some true)
def impl_sameNode (N : Nat) (a0 : List Int) (a1 : List Int) (a2 : List Int) (a3 : List Int) : Option Bool :=
    (impl_sameInts N a0 a2).bind fun r111 =>
    (bif r111 then
    (impl_sameInts N a1 a3).bind fun r115 =>
    some r115
    else
    some false)
end Go.Proofs.Ytobjjdfgnaanjaa
