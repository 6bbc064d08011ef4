/- What functions of the program come to, written out by a program: none where a bound is passed. -/
import Derived.Test.YtdingjlefilafaaW3D
namespace Go.Proofs.Ytdingjlefilafaa
open Go.RowKit
def laws_heldRelation (N : Nat) (a0 : Int) (a1 : List (List Int)) (a2 : Int) : Option Int :=
    (laws_heldIntSS N a1 a2).bind fun r107 =>
    (bif decide (r107 < 0) then
    some (-1)
    else
    some r107)
def laws_FnExactExpandFactorization (N : Nat) (a0 : List Int) (a1 : List (List Int × List Int)) : Option Bool :=
    (laws_szFactorization N a0 a1 1048576).bind fun r108 =>
    (bif decide (r108 < 0) then
    some true
    else
    (laws_toFactorization N a0 a1).bind fun r116 =>
    (spec_ExpandFactorization N r116.1 r116.2).bind fun r123 =>
    (laws_toFactorization N a0 a1).bind fun r134 =>
    (impl_ExpandFactorization N r134.1 r134.2).bind fun r147 =>
    (laws_eqRelation N r147.1.1 r147.1.2 r123.1.1 r123.1.2).bind fun r159 =>
    (bif r159 then
    (bif (r147.2 != r123.2) then
    some false
    else
    (laws_toFactorization N a0 a1).bind fun r169 =>
    (laws_eqFactorization N r134.1 r134.2 r169.1 r169.2).bind fun r176 =>
    (bif r176 then
    (laws_markFactorization N r134.1 r134.2 1).bind fun r182 =>
    (bif decide (r182.1 < 0) then
    some false
    else
    (laws_eqRelation N r147.1.1 r147.1.2 r123.1.1 r123.1.2).bind fun r188 =>
    (bif r188 then
    (laws_markRelation N r147.1.1 r147.1.2 1).bind fun r194 =>
    (laws_heldRelation N r147.1.1 r194.2 1).bind fun r198 =>
    (bif decide (r198 < 0) then
    some false
    else
    (bif (r198 != r194.1) then
    some false
    else
    (laws_toFactorization N a0 a1).bind fun r210 =>
    (impl_ExpandFactorization N r210.1 r210.2).bind fun r217 =>
    (laws_eqRelation N r217.1.1 r217.1.2 r123.1.1 r123.1.2).bind fun r229 =>
    (bif r229 then
    (bif (r217.2 != r123.2) then
    some false
    else
    (laws_heldRelation N r147.1.1 r194.2 1).bind fun r237 =>
    (bif decide (r237 < 0) then
    some false
    else
    (bif (r237 != r194.1) then
    some false
    else
    some true)))
    else
    some false)))
    else
    some false))
    else
    some false))
    else
    some false))
def laws_szIntSS_L1 (N : Nat) : Nat → (List (List Int)) → Int → Int → Option (Sum Int (Int × Int))
  | 0, _, _, _ => none
  | k + 1, x155, x156, x157 =>
    (bif decide (x157 < (x155.length : Int)) then
    (ix x155 x157).bind fun x164 =>
    (laws_szIntS N x164 x156).bind fun r171 =>
    (bif decide (r171 < 0) then
    some (.inl (-1))
    else
    (ad x157 1).bind fun x177 =>
    laws_szIntSS_L1 N k x155 r171 x177)
    else
    some (.inr (x156, x157)))
def laws_szIntSS (N : Nat) (a0 : List (List Int)) (a1 : Int) : Option Int :=
    (sb a1 (a0.length : Int)).bind fun x103 =>
    (bif decide (x103 < 0) then
    some (-1)
    else
    (laws_szIntSS_L1 N N a0 x103 0).bind fun s181 =>
    lpS s181 (fun q => some q) fun (x178, x179) =>
    some x178)
def laws_szRelation (N : Nat) (a0 : Int) (a1 : List (List Int)) (a2 : Int) : Option Int :=
    (laws_szIntSS N a1 a2).bind fun r107 =>
    (bif decide (r107 < 0) then
    some (-1)
    else
    some r107)
def spec_IsValidRelation_L1 (N : Nat) : Nat → Int → (List (List Int)) → Int → Option (Sum Bool Int)
  | 0, _, _, _ => none
  | k + 1, x226, x229, x230 =>
    (bif decide (x230 < (x229.length : Int)) then
    (ix x229 x230).bind fun x237 =>
    (bif ((x237.length : Int) != x226) then
    some (.inl false)
    else
    (ix x229 x230).bind fun x248 =>
    (spec_AreValidValues N x248).bind fun r255 =>
    (bif r255 then
    (bif decide (0 < x230) then
    (sb x230 1).bind fun x258 =>
    (ix x229 x258).bind fun x259 =>
    (ix x229 x230).bind fun x266 =>
    (spec_CompareRows N x259 x266).bind fun r273 =>
    (bif decide (0 ≤ r273) then
    some (.inl false)
    else
    (ad x230 1).bind fun x278 =>
    spec_IsValidRelation_L1 N k x226 x229 x278)
    else
    (ad x230 1).bind fun x281 =>
    spec_IsValidRelation_L1 N k x226 x229 x281)
    else
    some (.inl false)))
    else
    some (.inr x230))
def spec_IsValidRelation (N : Nat) (a0 : Int) (a1 : List (List Int)) : Option Bool :=
    (spec_l1In N a0 0 5).bind fun r108 =>
    (bif r108 then
    (bif decide (4000 < (a1.length : Int)) then
    some false
    else
    (spec_IsValidRelation_L1 N N a0 a1 0).bind fun s287 =>
    lpS s287 (fun q => some q) fun x285 =>
    some true)
    else
    some false)
def spec_l23Put_L1 (N : Nat) : Nat → (List Int) → (List (List Int × List Int)) → (List Int) → (List Int) → Int → Option (Sum (Int × (List Int) × (List (List Int × List Int))) Int)
  | 0, _, _, _, _, _ => none
  | k + 1, x185, x187, x189, x191, x192 =>
    (bif decide (x192 < (x187.length : Int)) then
    (ix x187 x192).bind fun x199 =>
    (spec_CompareRows N x199.1 x189).bind fun r209 =>
    (bif (r209 == 0) then
    (ix x187 x192).bind fun x211 =>
    (spec_CompareRows N x211.2 x191).bind fun r221 =>
    (bif (r221 == 0) then
    some (.inl (x192, x185, x187))
    else
    (ad x192 1).bind fun x226 =>
    spec_l23Put_L1 N k x185 x187 x189 x191 x226)
    else
    (ad x192 1).bind fun x229 =>
    spec_l23Put_L1 N k x185 x187 x189 x191 x229)
    else
    some (.inr x192))
def spec_l23Put (N : Nat) (a0 : List Int) (a1 : List (List Int × List Int)) (a2 : List Int) (a3 : List Int) : Option (Int × (List Int) × (List (List Int × List Int))) :=
    (spec_l23Put_L1 N N a0 a1 a2 a3 1).bind fun s246 =>
    lpS s246 (fun q => some q) fun x230 =>
    (apd 48 a1 [(a2, a3)]).bind fun x240 =>
    (sb (x240.length : Int) 1).bind fun x245 =>
    some (x245, a0, x240)
def spec_l23Build_L2 (rec : (List Int) → (List (List Int × List Int)) → (List (List Int)) → Int → Option (Int × (List Int) × (List (List Int × List Int)))) (N : Nat) : Nat → (List Int) → (List (List Int × List Int)) → (List (List Int)) → Int → (List Int) → (List Int) → Int → Int → Option Int
  | 0, _, _, _, _, _, _, _, _ => none
  | k + 1, x420, x422, x425, x426, x428, x430, x431, x432 =>
    (bif decide (x432 < (x425.length : Int)) then
    (ix x425 x432).bind fun x436 =>
    (ix x436 x426).bind fun x443 =>
    (ix x425 x431).bind fun x449 =>
    (ix x449 x426).bind fun x456 =>
    (bif (x443 == x456) then
    (ad x432 1).bind fun x466 =>
    spec_l23Build_L2 rec N k x420 x422 x425 x426 x428 x430 x431 x466
    else
    some x432)
    else
    some x432)
def spec_l23Build_L1 (rec : (List Int) → (List (List Int × List Int)) → (List (List Int)) → Int → Option (Int × (List Int) × (List (List Int × List Int)))) (N : Nat) : Nat → (List Int) → (List (List Int × List Int)) → (List (List Int)) → Int → (List Int) → (List Int) → Int → Option ((List Int) × (List (List Int × List Int)) × (List Int) × (List Int) × Int)
  | 0, _, _, _, _, _, _, _ => none
  | k + 1, x395, x398, x401, x402, x405, x409, x411 =>
    (bif decide (x411 < (x401.length : Int)) then
    (spec_l23Build_L2 rec N N x395 x398 x401 x402 x405 x409 x411 x411).bind fun s517 =>
    lpB s517 fun x469 =>
    (ix x401 x411).bind fun x473 =>
    (ix x473 x402).bind fun x480 =>
    (apd 8 x405 [x480]).bind fun x492 =>
    (slc x401 x411 x469).bind fun x499 =>
    (ad x402 1).bind fun x502 =>
    (rec x395 x398 x499 x502).bind fun r503 =>
    (apd 8 x409 [r503.1]).bind fun x513 =>
    spec_l23Build_L1 rec N k r503.2.1 r503.2.2 x401 x402 x492 x513 x469
    else
    some (x395, x398, x405, x409, x411))
def spec_l23Build : Nat → (List Int) → (List (List Int × List Int)) → (List (List Int)) → Int → Option (Int × (List Int) × (List (List Int × List Int)))
  | 0, _, _, _, _ => none
  | N + 1, a0, a1, a2, a3 =>
    (bif decide (0 < (a2.length : Int)) then
    (ix a2 0).bind fun x105 =>
    (bif (a3 == (x105.length : Int)) then
    some (0, a0, a1)
    else
    (spec_l23Build_L1 (spec_l23Build N) N N a0 a1 a2 a3 [] [] 0).bind fun s538 =>
    lpB s538 fun (x520, x523, x526, x530, x532) =>
    (spec_l23Put N x520 x523 x526 x530).bind fun r534 =>
    some (r534.1, r534.2.1, r534.2.2))
    else
    (spec_l23Build_L1 (spec_l23Build N) N N a0 a1 a2 a3 [] [] 0).bind fun s568 =>
    lpB s568 fun (x550, x553, x556, x560, x562) =>
    (spec_l23Put N x550 x553 x556 x560).bind fun r564 =>
    some (r564.1, r564.2.1, r564.2.2))
def spec_l23Of (N : Nat) (a0 : Int) (a1 : List (List Int)) (a2 : List Int) : Option (List Int × List (List Int × List Int)) :=
    (apd 8 [] a2).bind fun x117 =>
    (bif ((a1.length : Int) == 0) then
    (apd 48 ([([], [])]) [([], [])]).bind fun x146 =>
    some (x117, x146)
    else
    (spec_l23Build N x117 ([([], [])]) a1 0).bind fun r155 =>
    some (r155.2.1, r155.2.2))
def spec_FactorizeRelation_L1 (N : Nat) : Nat → Int → (List (List Int)) → (List Int) → (List (List Int × List Int)) → (List Int) → Option (List Int)
  | 0, _, _, _, _, _ => none
  | k + 1, x168, x171, x174, x177, x180 =>
    (bif decide ((x180.length : Int) < x168) then
    (apd 8 x180 [(x180.length : Int)]).bind fun x191 =>
    spec_FactorizeRelation_L1 N k x168 x171 x174 x177 x191
    else
    some x180)
def spec_FactorizeRelation (N : Nat) (a0 : Int) (a1 : List (List Int)) : Option ((List Int × List (List Int × List Int)) × Bool) :=
    (spec_IsValidRelation N a0 a1).bind fun r112 =>
    (bif r112 then
    (spec_FactorizeRelation_L1 N N a0 a1 [] [] []).bind fun s206 =>
    lpB s206 fun x196 =>
    (spec_l23Of N a0 a1 x196).bind fun r198 =>
    some ((r198.1, r198.2), true)
    else
    some (([], []), false))
def laws_toIntSS_L1 (N : Nat) : Nat → (List (List Int)) → (List (List Int)) → Int → Option ((List (List Int)) × Int)
  | 0, _, _, _ => none
  | k + 1, x176, x179, x180 =>
    (bif decide (x180 < (x176.length : Int)) then
    (ix x176 x180).bind fun x186 =>
    (laws_toIntS N x186).bind fun r193 =>
    (ix x179 x180).bind fun x198 =>
    (sto x179 x180 r193).bind fun x207 =>
    (ad x180 1).bind fun x209 =>
    laws_toIntSS_L1 N k x176 x207 x209
    else
    some (x179, x180))
def laws_toIntSS (N : Nat) (a0 : List (List Int)) : Option (List (List Int)) :=
    (mk 24 ([] : List Int) (a0.length : Int)).bind fun x106 =>
    (laws_toIntSS_L1 N N a0 x106 0).bind fun s215 =>
    lpB s215 fun (x212, x213) =>
    some x212
def laws_toRelation (N : Nat) (a0 : Int) (a1 : List (List Int)) : Option (Int × List (List Int)) :=
    (laws_toIntSS N a1).bind fun r118 =>
    some (a0, r118)
def impl_compareInts (N : Nat) (a0 : Int) (a1 : Int) : Option Int :=
    (bif decide (a0 < a1) then
    some (-1)
    else
    (bif decide (a1 < a0) then
    some 1
    else
    some 0))
end Go.Proofs.Ytdingjlefilafaa
