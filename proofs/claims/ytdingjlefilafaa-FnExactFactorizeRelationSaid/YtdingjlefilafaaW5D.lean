/- What functions of the program come to, written out by a program: none where a bound is passed. -/
import Derived.Test.YtdingjlefilafaaW4D
namespace Go.Proofs.Ytdingjlefilafaa
open Go.RowKit
def impl_CompareRows_L1 (N : Nat) : Nat → (List Int) → (List Int) → Int → Option (Sum Int Int)
  | 0, _, _, _ => none
  | k + 1, x186, x189, x190 =>
    (bif decide (x190 < (x186.length : Int)) then
    (bif decide (x190 < (x189.length : Int)) then
    (ix x186 x190).bind fun x198 =>
    (ix x189 x190).bind fun x204 =>
    (bif (x198 != x204) then
    (ix x186 x190).bind fun x214 =>
    (ix x189 x190).bind fun x220 =>
    (impl_compareInts N x214 x220).bind fun r226 =>
    some (.inl r226)
    else
    (ad x190 1).bind fun x229 =>
    impl_CompareRows_L1 N k x186 x189 x229)
    else
    some (.inr x190))
    else
    some (.inr x190))
def impl_CompareRows (N : Nat) (a0 : List Int) (a1 : List Int) : Option Int :=
    (impl_CompareRows_L1 N N a0 a1 0).bind fun s235 =>
    lpS s235 (fun q => some q) fun x230 =>
    (impl_compareInts N (a0.length : Int) (a1.length : Int)).bind fun r232 =>
    some r232
def impl_rowsValid_L1 (N : Nat) : Nat → Int → (List (List Int)) → (List (List Int)) → Int → Int → Option (Sum Bool Int)
  | 0, _, _, _, _, _ => none
  | k + 1, x188, x191, x194, x195, x196 =>
    (bif decide (x196 < x195) then
    (ix x194 x196).bind fun x203 =>
    (bif ((x203.length : Int) != x188) then
    some (.inl false)
    else
    (impl_AreValidValues N x203).bind fun r213 =>
    (bif r213 then
    (bif decide (0 < x196) then
    (sb x196 1).bind fun x218 =>
    (ix x191 x218).bind fun x219 =>
    (impl_CompareRows N x219 x203).bind fun r226 =>
    (bif decide (0 ≤ r226) then
    some (.inl false)
    else
    (ad x196 1).bind fun x231 =>
    impl_rowsValid_L1 N k x188 x191 x194 x195 x231)
    else
    (ad x196 1).bind fun x232 =>
    impl_rowsValid_L1 N k x188 x191 x194 x195 x232)
    else
    some (.inl false)))
    else
    some (.inr x196))
def impl_rowsValid (N : Nat) (a0 : Int) (a1 : List (List Int)) : Option Bool :=
    (impl_within N a0 0 5).bind fun r104 =>
    (bif r104 then
    (bif decide (4000 < (a1.length : Int)) then
    some false
    else
    (impl_rowsValid_L1 N N a0 a1 a1 (a1.length : Int) 0).bind fun s236 =>
    lpS s236 (fun q => some q) fun x234 =>
    some true)
    else
    some false)
def impl_IsValidRelation (N : Nat) (a0 : Int) (a1 : List (List Int)) : Option Bool :=
    (impl_rowsValid N a0 a1).bind fun r107 =>
    some r107
def impl_builder_add_L1 (N : Nat) : Nat → (List (List Int × List Int)) → (List Int) → (List Int) → Int → Option (Sum (Int × (List (List Int × List Int))) Int)
  | 0, _, _, _, _ => none
  | k + 1, x155, x157, x159, x160 =>
    (bif decide (x160 < (x155.length : Int)) then
    (ix x155 x160).bind fun x167 =>
    (impl_sameNode N x167.1 x167.2 x157 x159).bind fun r177 =>
    (bif r177 then
    some (.inl (x160, x155))
    else
    (ad x160 1).bind fun x182 =>
    impl_builder_add_L1 N k x155 x157 x159 x182)
    else
    some (.inr x160))
def impl_builder_add (N : Nat) (a0 : List (List Int × List Int)) (a1 : List Int) (a2 : List Int) : Option (Int × (List (List Int × List Int))) :=
    (impl_builder_add_L1 N N a0 a1 a2 1).bind fun s199 =>
    lpS s199 (fun q => some q) fun x183 =>
    (apd 48 a0 [(a1, a2)]).bind fun x193 =>
    (sb (x193.length : Int) 1).bind fun x198 =>
    some (x198, x193)
def impl_builder_build_L2 (rec : (List (List Int × List Int)) → (List (List Int)) → Int → Option (Int × (List (List Int × List Int)))) (N : Nat) : Nat → (List (List Int × List Int)) → (List (List Int)) → Int → (List Int) → (List Int) → Int → Int → Option Int
  | 0, _, _, _, _, _, _, _ => none
  | k + 1, x407, x410, x411, x413, x415, x416, x417 =>
    (bif decide (x417 < (x410.length : Int)) then
    (ix x410 x417).bind fun x421 =>
    (ix x421 x411).bind fun x428 =>
    (ix x410 x416).bind fun x434 =>
    (ix x434 x411).bind fun x441 =>
    (bif (x428 == x441) then
    (ad x417 1).bind fun x451 =>
    impl_builder_build_L2 rec N k x407 x410 x411 x413 x415 x416 x451
    else
    some x417)
    else
    some x417)
def impl_builder_build_L1 (rec : (List (List Int × List Int)) → (List (List Int)) → Int → Option (Int × (List (List Int × List Int)))) (N : Nat) : Nat → (List (List Int × List Int)) → (List (List Int)) → Int → (List Int) → (List Int) → Int → Option ((List (List Int × List Int)) × (List Int) × (List Int) × Int)
  | 0, _, _, _, _, _, _ => none
  | k + 1, x385, x388, x389, x392, x396, x398 =>
    (bif decide (x398 < (x388.length : Int)) then
    (impl_builder_build_L2 rec N N x385 x388 x389 x392 x396 x398 x398).bind fun s501 =>
    lpB s501 fun x454 =>
    (ix x388 x398).bind fun x458 =>
    (ix x458 x389).bind fun x465 =>
    (apd 8 x392 [x465]).bind fun x477 =>
    (slc x388 x398 x454).bind fun x484 =>
    (ad x389 1).bind fun x487 =>
    (rec x385 x484 x487).bind fun r488 =>
    (apd 8 x396 [r488.1]).bind fun x497 =>
    impl_builder_build_L1 rec N k r488.2 x388 x389 x477 x497 x454
    else
    some (x385, x392, x396, x398))
def impl_builder_build : Nat → (List (List Int × List Int)) → (List (List Int)) → Int → Option (Int × (List (List Int × List Int)))
  | 0, _, _, _ => none
  | N + 1, a0, a1, a2 =>
    (bif decide (0 < (a1.length : Int)) then
    (ix a1 0).bind fun x105 =>
    (bif (a2 == (x105.length : Int)) then
    some (0, a0)
    else
    (impl_builder_build_L1 (impl_builder_build N) N N a0 a1 a2 [] [] 0).bind fun s518 =>
    lpB s518 fun (x504, x507, x511, x513) =>
    (impl_builder_add N x504 x507 x511).bind fun r515 =>
    some (r515.1, r515.2))
    else
    (impl_builder_build_L1 (impl_builder_build N) N N a0 a1 a2 [] [] 0).bind fun s543 =>
    lpB s543 fun (x529, x532, x536, x538) =>
    (impl_builder_add N x529 x532 x536).bind fun r540 =>
    some (r540.1, r540.2))
def impl_factorized (N : Nat) (a0 : List Int) (a1 : List (List Int)) : Option (List Int × List (List Int × List Int)) :=
    (mk 48 (([], []) : List Int × List Int) 1).bind fun x110 =>
    (impl_builder_build N x110 a1 0).bind fun r118 =>
    (impl_copyInts N a0).bind fun r124 =>
    some (r124, r118.2)
def impl_FactorizeRelation_L1 (N : Nat) : Nat → Int → (List (List Int)) → (List Int) → (List (List Int × List Int)) → (List Int) → Int → Option ((List Int) × Int)
  | 0, _, _, _, _, _, _ => none
  | k + 1, x176, x179, x182, x185, x188, x190 =>
    (bif decide (x190 < x176) then
    (apd 8 x188 [x190]).bind fun x202 =>
    (ad x190 1).bind fun x205 =>
    impl_FactorizeRelation_L1 N k x176 x179 x182 x185 x202 x205
    else
    some (x188, x190))
def impl_FactorizeRelation (N : Nat) (a0 : Int) (a1 : List (List Int)) : Option ((List Int × List (List Int × List Int)) × Bool) :=
    (impl_IsValidRelation N a0 a1).bind fun r112 =>
    (bif r112 then
    (impl_FactorizeRelation_L1 N N a0 a1 [] [] [] 0).bind fun s220 =>
    lpB s220 fun (x208, x210) =>
    (impl_factorized N x208 a1).bind fun r212 =>
    some ((r212.1, r212.2), true)
    else
    some (([], []), false))
def laws_heldFactorNodeS_L1 (N : Nat) : Nat → (List (List Int × List Int)) → Int → Int → Option (Sum Int (Int × Int))
  | 0, _, _, _ => none
  | k + 1, x191, x192, x193 =>
    (bif decide (x193 < (x191.length : Int)) then
    (ix x191 x193).bind fun x200 =>
    (laws_heldIntS N x200.1 x192).bind fun r210 =>
    (bif decide (r210 < 0) then
    some (.inl (-1))
    else
    (ix x191 x193).bind fun x218 =>
    (laws_heldIntS N x218.2 r210).bind fun r228 =>
    (bif decide (r228 < 0) then
    some (.inl (-1))
    else
    (ad x193 1).bind fun x234 =>
    laws_heldFactorNodeS_L1 N k x191 r228 x234))
    else
    some (.inr (x192, x193)))
def laws_heldFactorNodeS (N : Nat) (a0 : List (List Int × List Int)) (a1 : Int) : Option Int :=
    (laws_heldFactorNodeS_L1 N N a0 a1 0).bind fun s238 =>
    lpS s238 (fun q => some q) fun (x235, x236) =>
    some x235
def laws_heldFactorization (N : Nat) (a0 : List Int) (a1 : List (List Int × List Int)) (a2 : Int) : Option Int :=
    (laws_heldIntS N a0 a2).bind fun r107 =>
    (bif decide (r107 < 0) then
    some (-1)
    else
    (laws_heldFactorNodeS N a1 r107).bind fun r115 =>
    (bif decide (r115 < 0) then
    some (-1)
    else
    some r115))
def laws_FnExactFactorizeRelation (N : Nat) (a0 : Int) (a1 : List (List Int)) : Option Bool :=
    (laws_szRelation N a0 a1 1048576).bind fun r108 =>
    (bif decide (r108 < 0) then
    some true
    else
    (laws_toRelation N a0 a1).bind fun r116 =>
    (spec_FactorizeRelation N r116.1 r116.2).bind fun r121 =>
    (laws_toRelation N a0 a1).bind fun r134 =>
    (impl_FactorizeRelation N r134.1 r134.2).bind fun r145 =>
    (laws_eqFactorization N r145.1.1 r145.1.2 r121.1.1 r121.1.2).bind fun r159 =>
    (bif r159 then
    (bif (r145.2 != r121.2) then
    some false
    else
    (laws_toRelation N a0 a1).bind fun r169 =>
    (laws_eqRelation N r134.1 r134.2 r169.1 r169.2).bind fun r174 =>
    (bif r174 then
    (laws_markRelation N r134.1 r134.2 1).bind fun r180 =>
    (bif decide (r180.1 < 0) then
    some false
    else
    (laws_eqFactorization N r145.1.1 r145.1.2 r121.1.1 r121.1.2).bind fun r186 =>
    (bif r186 then
    (laws_markFactorization N r145.1.1 r145.1.2 1).bind fun r192 =>
    (laws_heldFactorization N r192.2.1 r192.2.2 1).bind fun r196 =>
    (bif decide (r196 < 0) then
    some false
    else
    (bif (r196 != r192.1) then
    some false
    else
    (laws_toRelation N a0 a1).bind fun r208 =>
    (impl_FactorizeRelation N r208.1 r208.2).bind fun r213 =>
    (laws_eqFactorization N r213.1.1 r213.1.2 r121.1.1 r121.1.2).bind fun r227 =>
    (bif r227 then
    (bif (r213.2 != r121.2) then
    some false
    else
    (laws_heldFactorization N r192.2.1 r192.2.2 1).bind fun r235 =>
    (bif decide (r235 < 0) then
    some false
    else
    (bif (r235 != r192.1) then
    some false
    else
    some true)))
    else
    some false)))
    else
    some false))
    else
    some false))
    else
    some false))
end Go.Proofs.Ytdingjlefilafaa
