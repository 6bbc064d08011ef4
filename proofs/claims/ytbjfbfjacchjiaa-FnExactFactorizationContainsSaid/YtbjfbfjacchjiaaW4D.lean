/- What functions of the program come to, written out by a program: none where a bound is passed. -/
import Derived.Test.YtbjfbfjacchjiaaW3D
namespace Go.Proofs.Ytbjfbfjacchjiaa
open Go.RowKit
def spec_FactorizedRowsFrom_L1 (N : Nat) : Nat → (List Int) → Int → (List Int) → (List (List Int × List Int)) → (List (List Int)) → Int → Option ((List (List Int)) × Int)
  | 0, _, _, _, _, _, _ => none
  | k + 1, x181, x182, x185, x188, x191, x192 =>
    (bif decide ((x191.length : Int) < x182) then
    (spec_IsValidFactorization N x185 x188).bind fun r196 =>
    (bif r196 then
    (bif ((x181.length : Int) == (x185.length : Int)) then
    (spec_FactorizedRowAt N x185 x188 x192).bind fun r203 =>
    (bif r203.2 then
    (apd 24 x191 [r203.1]).bind fun x218 =>
    (ad x192 1).bind fun x221 =>
    spec_FactorizedRowsFrom_L1 N k x181 x182 x185 x188 x218 x221
    else
    some (x191, x192))
    else
    some (x191, x192))
    else
    some (x191, x192))
    else
    some (x191, x192))
def spec_FactorizedRowsFrom (N : Nat) (a0 : List Int) (a1 : List (List Int × List Int)) (a2 : List Int) (a3 : Int) : Option (List (List Int)) :=
    (spec_FactorizedRank N a0 a1 a2).bind fun r112 =>
    (spec_FactorizedRowsFrom_L1 N N a2 a3 a0 a1 [] r112.1).bind fun s227 =>
    lpB s227 fun (x224, x225) =>
    some x224
def impl_FactorizedRowsFrom_L1 (N : Nat) : Nat → Int → (List Int) → (List (List Int × List Int)) → Int → (List (List Int)) → Option (List (List Int))
  | 0, _, _, _, _, _ => none
  | k + 1, x172, x175, x178, x179, x182 =>
    (bif decide ((x182.length : Int) < x172) then
    (ad x179 (x182.length : Int)).bind fun x189 =>
    (impl_FactorizedRowAt N x175 x178 x189).bind fun r190 =>
    (bif r190.2 then
    (apd 24 x182 [r190.1]).bind fun x204 =>
    impl_FactorizedRowsFrom_L1 N k x172 x175 x178 x179 x204
    else
    some x182)
    else
    some x182)
def impl_FactorizedRowsFrom (N : Nat) (a0 : List Int) (a1 : List (List Int × List Int)) (a2 : List Int) (a3 : Int) : Option (List (List Int)) :=
    (impl_IsValidFactorization N a0 a1).bind fun r108 =>
    (bif r108 then
    (bif ((a2.length : Int) != (a0.length : Int)) then
    some []
    else
    (impl_FactorizedRank N a0 a1 a2).bind fun r115 =>
    (impl_FactorizedRowsFrom_L1 N N a3 a0 a1 r115.1 []).bind fun s212 =>
    lpB s212 fun x209 =>
    some x209)
    else
    some [])
def laws_eqIntSS_L1 (N : Nat) : Nat → (List (List Int)) → (List (List Int)) → Int → Option (Sum Bool Int)
  | 0, _, _, _ => none
  | k + 1, x164, x167, x168 =>
    (bif decide (x168 < (x164.length : Int)) then
    (ix x164 x168).bind fun x175 =>
    (ix x167 x168).bind fun x182 =>
    (laws_eqIntS N x175 x182).bind fun r189 =>
    (bif r189 then
    (ad x168 1).bind fun x193 =>
    laws_eqIntSS_L1 N k x164 x167 x193
    else
    some (.inl false))
    else
    some (.inr x168))
def laws_eqIntSS (N : Nat) (a0 : List (List Int)) (a1 : List (List Int)) : Option Bool :=
    (bif ((a0.length : Int) != (a1.length : Int)) then
    some false
    else
    (laws_eqIntSS_L1 N N a0 a1 0).bind fun s197 =>
    lpS s197 (fun q => some q) fun x195 =>
    some true)
def laws_heldIntSS_L1 (N : Nat) : Nat → (List (List Int)) → Int → Int → Option (Sum Int (Int × Int))
  | 0, _, _, _ => none
  | k + 1, x149, x150, x151 =>
    (bif decide (x151 < (x149.length : Int)) then
    (ix x149 x151).bind fun x158 =>
    (laws_heldIntS N x158 x150).bind fun r165 =>
    (bif decide (r165 < 0) then
    some (.inl (-1))
    else
    (ad x151 1).bind fun x171 =>
    laws_heldIntSS_L1 N k x149 r165 x171)
    else
    some (.inr (x150, x151)))
def laws_heldIntSS (N : Nat) (a0 : List (List Int)) (a1 : Int) : Option Int :=
    (laws_heldIntSS_L1 N N a0 a1 0).bind fun s175 =>
    lpS s175 (fun q => some q) fun (x172, x173) =>
    some x172
end Go.Proofs.Ytbjfbfjacchjiaa
