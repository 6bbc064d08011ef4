/- What functions of the program come to, written out by a program: none where a bound is passed. -/
import Derived.Test.YtbjfbfjacchjiaaW3D
namespace Go.Proofs.Ytbjfbfjacchjiaa
open Go.RowKit
def laws_markFactorNodeS_L1 (N : Nat) : Nat → (List (List Int × List Int)) → Int → Int → Option ((List (List Int × List Int)) × Int × Int)
  | 0, _, _, _ => none
  | k + 1, x188, x189, x190 =>
    (bif decide (x190 < (x188.length : Int)) then
    (ix x188 x190).bind fun x197 =>
    (laws_markIntS N x197.1 x189).bind fun r210 =>
    (sto x188 x190 (r210.2, x197.2)).bind fun x212 =>
    (ix x212 x190).bind fun x213 =>
    (laws_markIntS N x213.2 r210.1).bind fun r226 =>
    (sto x212 x190 (x213.1, r226.2)).bind fun x228 =>
    (ad x190 1).bind fun x229 =>
    laws_markFactorNodeS_L1 N k x228 r226.1 x229
    else
    some (x188, x189, x190))
def laws_markFactorNodeS (N : Nat) (a0 : List (List Int × List Int)) (a1 : Int) : Option (Int × (List (List Int × List Int))) :=
    (laws_markFactorNodeS_L1 N N a0 a1 0).bind fun s235 =>
    lpB s235 fun (x231, x232, x233) =>
    some (x232, x231)
def laws_markFactorization (N : Nat) (a0 : List Int) (a1 : List (List Int × List Int)) (a2 : Int) : Option (Int × (List Int) × (List (List Int × List Int))) :=
    (laws_markIntS N a0 a2).bind fun r107 =>
    (laws_markFactorNodeS N a1 r107.1).bind fun r110 =>
    some (r110.1, r107.2, r110.2)
def laws_heldIntS_L1 (N : Nat) : Nat → (List Int) → Int → Int → Option (Sum Int (Int × Int))
  | 0, _, _, _ => none
  | k + 1, x143, x144, x145 =>
    (bif decide (x145 < (x143.length : Int)) then
    (ix x143 x145).bind fun x153 =>
    (bif (x153 != x144) then
    some (.inl (-1))
    else
    (ad x144 1).bind fun x161 =>
    (ad x145 1).bind fun x162 =>
    laws_heldIntS_L1 N k x143 x161 x162)
    else
    some (.inr (x144, x145)))
def laws_heldIntS (N : Nat) (a0 : List Int) (a1 : Int) : Option Int :=
    (laws_heldIntS_L1 N N a0 a1 0).bind fun s166 =>
    lpS s166 (fun q => some q) fun (x163, x164) =>
    some x163
def laws_FnExactFactorizedRowAt (N : Nat) (a0 : List Int) (a1 : List (List Int × List Int)) (a2 : Int) : Option Bool :=
    (laws_szFactorization N a0 a1 1048576).bind fun r108 =>
    (bif decide (r108 < 0) then
    some true
    else
    (laws_toFactorization N a0 a1).bind fun r116 =>
    (spec_FactorizedRowAt N r116.1 r116.2 a2).bind fun r123 =>
    (laws_toFactorization N a0 a1).bind fun r129 =>
    (impl_FactorizedRowAt N r129.1 r129.2 a2).bind fun r142 =>
    (laws_eqIntS N r142.1 r123.1).bind fun r149 =>
    (bif r149 then
    (bif (r142.2 != r123.2) then
    some false
    else
    (laws_toFactorization N a0 a1).bind fun r159 =>
    (laws_eqFactorization N r129.1 r129.2 r159.1 r159.2).bind fun r166 =>
    (bif r166 then
    (laws_markFactorization N r129.1 r129.2 1).bind fun r172 =>
    (bif decide (r172.1 < 0) then
    some false
    else
    (laws_eqIntS N r142.1 r123.1).bind fun r178 =>
    (bif r178 then
    (laws_markIntS N r142.1 1).bind fun r184 =>
    (laws_heldIntS N r184.2 1).bind fun r188 =>
    (bif decide (r188 < 0) then
    some false
    else
    (bif (r188 != r184.1) then
    some false
    else
    (laws_toFactorization N a0 a1).bind fun r200 =>
    (impl_FactorizedRowAt N r200.1 r200.2 a2).bind fun r207 =>
    (laws_eqIntS N r207.1 r123.1).bind fun r214 =>
    (bif r214 then
    (bif (r207.2 != r123.2) then
    some false
    else
    (laws_heldIntS N r184.2 1).bind fun r222 =>
    (bif decide (r222 < 0) then
    some false
    else
    (bif (r222 != r184.1) then
    some false
    else
    some true)))
    else
    some false)))
    else
    some false))
    else
    some false))
    else
    some false))
def spec_FactorizedRowsFrom_L1 (N : Nat) : Nat → (List Int) → Int → (List Int) → (List (List Int × List Int)) → (List (List Int)) → Int → Option ((List (List Int)) × Int)
  | 0, _, _, _, _, _, _ => none
  | k + 1, x214, x215, x218, x221, x224, x225 =>
    (bif decide ((x224.length : Int) < x215) then
    (spec_IsValidFactorization N x218 x221).bind fun r229 =>
    (bif r229 then
    (bif ((x214.length : Int) == (x218.length : Int)) then
    (spec_FactorizedRowAt N x218 x221 x225).bind fun r236 =>
    (bif r236.2 then
    (apd 24 x224 [r236.1]).bind fun x251 =>
    (ad x225 1).bind fun x254 =>
    spec_FactorizedRowsFrom_L1 N k x214 x215 x218 x221 x251 x254
    else
    some (x224, x225))
    else
    some (x224, x225))
    else
    some (x224, x225))
    else
    some (x224, x225))
def spec_FactorizedRowsFrom (N : Nat) (a0 : List Int) (a1 : List (List Int × List Int)) (a2 : List Int) (a3 : Int) : Option (List (List Int)) :=
    (spec_FactorizedRank N a0 a1 a2).bind fun r112 =>
    (spec_FactorizedRowsFrom_L1 N N a2 a3 a0 a1 [] r112.1).bind fun s260 =>
    lpB s260 fun (x257, x258) =>
    some x257
def impl_FactorizedRowsFrom_L1 (N : Nat) : Nat → Int → (List Int) → (List (List Int × List Int)) → Int → (List (List Int)) → Option (List (List Int))
  | 0, _, _, _, _, _ => none
  | k + 1, x199, x202, x205, x206, x209 =>
    (bif decide ((x209.length : Int) < x199) then
    (ad x206 (x209.length : Int)).bind fun x216 =>
    (impl_FactorizedRowAt N x202 x205 x216).bind fun r217 =>
    (bif r217.2 then
    (apd 24 x209 [r217.1]).bind fun x231 =>
    impl_FactorizedRowsFrom_L1 N k x199 x202 x205 x206 x231
    else
    some x209)
    else
    some x209)
def impl_FactorizedRowsFrom (N : Nat) (a0 : List Int) (a1 : List (List Int × List Int)) (a2 : List Int) (a3 : Int) : Option (List (List Int)) :=
    (impl_IsValidFactorization N a0 a1).bind fun r108 =>
    (bif r108 then
    (bif ((a2.length : Int) != (a0.length : Int)) then
    some []
    else
    (impl_FactorizedRank N a0 a1 a2).bind fun r115 =>
    (impl_FactorizedRowsFrom_L1 N N a3 a0 a1 r115.1 []).bind fun s239 =>
    lpB s239 fun x236 =>
    some x236)
    else
    some [])
def laws_eqIntSS_L1 (N : Nat) : Nat → (List (List Int)) → (List (List Int)) → Int → Option (Sum Bool Int)
  | 0, _, _, _ => none
  | k + 1, x164, x167, x168 =>
    (bif decide (x168 < (x164.length : Int)) then
    (ix x164 x168).bind fun x175 =>
    (ix x167 x168).bind fun x182 =>
    (laws_eqIntS N x175 x182).bind fun r189 =>
    (bif r189 then
    (ad x168 1).bind fun x193 =>
    laws_eqIntSS_L1 N k x164 x167 x193
    else
    some (.inl false))
    else
    some (.inr x168))
def laws_eqIntSS (N : Nat) (a0 : List (List Int)) (a1 : List (List Int)) : Option Bool :=
    (bif ((a0.length : Int) != (a1.length : Int)) then
    some false
    else
    (laws_eqIntSS_L1 N N a0 a1 0).bind fun s197 =>
    lpS s197 (fun q => some q) fun x195 =>
    some true)
def laws_markIntSS_L1 (N : Nat) : Nat → (List (List Int)) → Int → Int → Option ((List (List Int)) × Int × Int)
  | 0, _, _, _ => none
  | k + 1, x146, x147, x148 =>
    (bif decide (x148 < (x146.length : Int)) then
    (ix x146 x148).bind fun x154 =>
    (laws_markIntS N x154 x147).bind fun r163 =>
    (sto x146 x148 r163.2).bind fun x165 =>
    (ad x148 1).bind fun x166 =>
    laws_markIntSS_L1 N k x165 r163.1 x166
    else
    some (x146, x147, x148))
def laws_markIntSS (N : Nat) (a0 : List (List Int)) (a1 : Int) : Option (Int × (List (List Int))) :=
    (laws_markIntSS_L1 N N a0 a1 0).bind fun s172 =>
    lpB s172 fun (x168, x169, x170) =>
    some (x169, x168)
def laws_heldIntSS_L1 (N : Nat) : Nat → (List (List Int)) → Int → Int → Option (Sum Int (Int × Int))
  | 0, _, _, _ => none
  | k + 1, x149, x150, x151 =>
    (bif decide (x151 < (x149.length : Int)) then
    (ix x149 x151).bind fun x158 =>
    (laws_heldIntS N x158 x150).bind fun r165 =>
    (bif decide (r165 < 0) then
    some (.inl (-1))
    else
    (ad x151 1).bind fun x171 =>
    laws_heldIntSS_L1 N k x149 r165 x171)
    else
    some (.inr (x150, x151)))
def laws_heldIntSS (N : Nat) (a0 : List (List Int)) (a1 : Int) : Option Int :=
    (laws_heldIntSS_L1 N N a0 a1 0).bind fun s175 =>
    lpS s175 (fun q => some q) fun (x172, x173) =>
    some x172
def laws_FnExactFactorizedRowsFrom (N : Nat) (a0 : List Int) (a1 : List (List Int × List Int)) (a2 : List Int) (a3 : Int) : Option Bool :=
    (bif decide (1048576 < (a2.length : Int)) then
    some true
    else
    (laws_szFactorization N a0 a1 1048576).bind fun r112 =>
    (bif decide (r112 < 0) then
    some true
    else
    (laws_toFactorization N a0 a1).bind fun r120 =>
    (laws_toIntS N a2).bind fun r127 =>
    (spec_FactorizedRowsFrom N r120.1 r120.2 r127 a3).bind fun r132 =>
    (laws_toFactorization N a0 a1).bind fun r138 =>
    (laws_toIntS N a2).bind fun r151 =>
    (impl_FactorizedRowsFrom N r138.1 r138.2 r151 a3).bind fun r157 =>
    (laws_eqIntSS N r157 r132).bind fun r164 =>
    (bif r164 then
    (laws_toFactorization N a0 a1).bind fun r172 =>
    (laws_eqFactorization N r138.1 r138.2 r172.1 r172.2).bind fun r179 =>
    (bif r179 then
    (laws_toIntS N a2).bind fun r185 =>
    (laws_eqIntS N r151 r185).bind fun r190 =>
    (bif r190 then
    (laws_markFactorization N r138.1 r138.2 1).bind fun r196 =>
    (laws_markIntS N r151 r196.1).bind fun r199 =>
    (bif decide (r199.1 < 0) then
    some false
    else
    (laws_eqIntSS N r157 r132).bind fun r205 =>
    (bif r205 then
    (laws_markIntSS N r157 1).bind fun r211 =>
    (laws_heldIntSS N r211.2 1).bind fun r215 =>
    (bif decide (r215 < 0) then
    some false
    else
    (bif (r215 != r211.1) then
    some false
    else
    (laws_toFactorization N a0 a1).bind fun r227 =>
    (laws_toIntS N a2).bind fun r234 =>
    (impl_FactorizedRowsFrom N r227.1 r227.2 r234 a3).bind fun r239 =>
    (laws_eqIntSS N r239 r132).bind fun r246 =>
    (bif r246 then
    (laws_heldIntSS N r211.2 1).bind fun r252 =>
    (bif decide (r252 < 0) then
    some false
    else
    (bif (r252 != r211.1) then
    some false
    else
    some true))
    else
    some false)))
    else
    some false))
    else
    some false)
    else
    some false)
    else
    some false)))
end Go.Proofs.Ytbjfbfjacchjiaa
