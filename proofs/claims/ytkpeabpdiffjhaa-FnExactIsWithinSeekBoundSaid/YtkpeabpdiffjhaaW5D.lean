/- What functions of the program come to, written out by a program: none where a bound is passed. -/
import Derived.Test.YtkpeabpdiffjhaaW4D
namespace Go.Proofs.Ytkpeabpdiffjhaa
open Go.RowKit
def laws_szTable (N : Nat) (a0 : ByteArray) (a1 : Int) (a2 : List (List Int)) (a3 : Int) : Option Int :=
    (sb a3 (a0.size : Int)).bind fun x107 =>
    (bif decide (x107 < 0) then
    some (-1)
    else
    (laws_szRelation N a1 a2 x107).bind fun r113 =>
    (bif decide (r113 < 0) then
    some (-1)
    else
    some r113))
def laws_szTableS_L1 (N : Nat) : Nat → (List (ByteArray × (Int × List (List Int)))) → Int → Int → Option (Sum Int (Int × Int))
  | 0, _, _, _ => none
  | k + 1, x165, x166, x167 =>
    (bif decide (x167 < (x165.length : Int)) then
    (ix x165 x167).bind fun x174 =>
    (laws_szTable N x174.1 x174.2.1 x174.2.2 x166).bind fun r186 =>
    (bif decide (r186 < 0) then
    some (.inl (-1))
    else
    (ad x167 1).bind fun x192 =>
    laws_szTableS_L1 N k x165 r186 x192)
    else
    some (.inr (x166, x167)))
def laws_szTableS (N : Nat) (a0 : List (ByteArray × (Int × List (List Int)))) (a1 : Int) : Option Int :=
    (sb a1 (a0.length : Int)).bind fun x103 =>
    (bif decide (x103 < 0) then
    some (-1)
    else
    (laws_szTableS_L1 N N a0 x103 0).bind fun s196 =>
    lpS s196 (fun q => some q) fun (x193, x194) =>
    some x193)
def laws_szDatabase (N : Nat) (a0 : List (ByteArray × (Int × List (List Int)))) (a1 : Int) : Option Int :=
    (laws_szTableS N a0 a1).bind fun r107 =>
    (bif decide (r107 < 0) then
    some (-1)
    else
    some r107)
def spec_CompareRows_L1 (N : Nat) : Nat → (List Int) → (List Int) → Int → Option (Sum Int Int)
  | 0, _, _, _ => none
  | k + 1, x192, x195, x196 =>
    (bif decide (x196 < (x192.length : Int)) then
    (bif decide (x196 < (x195.length : Int)) then
    (ix x192 x196).bind fun x205 =>
    (ix x195 x196).bind fun x211 =>
    (bif decide (x205 < x211) then
    some (.inl (-1))
    else
    (ix x192 x196).bind fun x222 =>
    (ix x195 x196).bind fun x228 =>
    (bif decide (x228 < x222) then
    some (.inl 1)
    else
    (ad x196 1).bind fun x238 =>
    spec_CompareRows_L1 N k x192 x195 x238))
    else
    some (.inr x196))
    else
    some (.inr x196))
def spec_CompareRows (N : Nat) (a0 : List Int) (a1 : List Int) : Option Int :=
    (spec_CompareRows_L1 N N a0 a1 0).bind fun s249 =>
    lpS s249 (fun q => some q) fun x239 =>
    (bif decide ((a0.length : Int) < (a1.length : Int)) then
    some (-1)
    else
    (bif decide ((a1.length : Int) < (a0.length : Int)) then
    some 1
    else
    some 0))
def spec_AreValidValues_L1 (N : Nat) : Nat → (List Int) → Int → Option (Sum Bool Int)
  | 0, _, _ => none
  | k + 1, x144, x145 =>
    (bif decide (x145 < (x144.length : Int)) then
    (ix x144 x145).bind fun x152 =>
    (spec_l1In N x152 0 99).bind fun r158 =>
    (bif r158 then
    (ad x145 1).bind fun x162 =>
    spec_AreValidValues_L1 N k x144 x162
    else
    some (.inl false))
    else
    some (.inr x145))
def spec_AreValidValues (N : Nat) (a0 : List Int) : Option Bool :=
    (spec_AreValidValues_L1 N N a0 0).bind fun s166 =>
    lpS s166 (fun q => some q) fun x164 =>
    some true
def spec_IsValidRelation_L1 (N : Nat) : Nat → Int → (List (List Int)) → Int → Option (Sum Bool Int)
  | 0, _, _, _ => none
  | k + 1, x226, x229, x230 =>
    (bif decide (x230 < (x229.length : Int)) then
    (ix x229 x230).bind fun x237 =>
    (bif ((x237.length : Int) != x226) then
    some (.inl false)
    else
    (ix x229 x230).bind fun x248 =>
    (spec_AreValidValues N x248).bind fun r255 =>
    (bif r255 then
    (bif decide (0 < x230) then
    (sb x230 1).bind fun x258 =>
    (ix x229 x258).bind fun x259 =>
    (ix x229 x230).bind fun x266 =>
    (spec_CompareRows N x259 x266).bind fun r273 =>
    (bif decide (0 ≤ r273) then
    some (.inl false)
    else
    (ad x230 1).bind fun x278 =>
    spec_IsValidRelation_L1 N k x226 x229 x278)
    else
    (ad x230 1).bind fun x281 =>
    spec_IsValidRelation_L1 N k x226 x229 x281)
    else
    some (.inl false)))
    else
    some (.inr x230))
def spec_IsValidRelation (N : Nat) (a0 : Int) (a1 : List (List Int)) : Option Bool :=
    (spec_l1In N a0 0 5).bind fun r108 =>
    (bif r108 then
    (bif decide (4000 < (a1.length : Int)) then
    some false
    else
    (spec_IsValidRelation_L1 N N a0 a1 0).bind fun s287 =>
    lpS s287 (fun q => some q) fun x285 =>
    some true)
    else
    some false)
def spec_IsValidDatabase_L1 (N : Nat) : Nat → (List (ByteArray × (Int × List (List Int)))) → Int → Option (Sum Bool Int)
  | 0, _, _ => none
  | k + 1, x262, x263 =>
    (bif decide (x263 < (x262.length : Int)) then
    (ix x262 x263).bind fun x270 =>
    (spec_IsValidName N x270.1).bind fun r288 =>
    (bif r288 then
    (bif decide (0 < x263) then
    (sb x263 1).bind fun x291 =>
    (ix x262 x291).bind fun x292 =>
    (bif (ltS x292.1 x270.1) then
    (spec_IsValidRelation N x270.2.1 x270.2.2).bind fun r305 =>
    (bif r305 then
    (bif decide (16 < (x270.2.2.length : Int)) then
    some (.inl false)
    else
    (bif decide (x270.2.1 < 1) then
    some (.inl false)
    else
    (ad x263 1).bind fun x315 =>
    spec_IsValidDatabase_L1 N k x262 x315))
    else
    some (.inl false))
    else
    some (.inl false))
    else
    (spec_IsValidRelation N x270.2.1 x270.2.2).bind fun r322 =>
    (bif r322 then
    (bif decide (16 < (x270.2.2.length : Int)) then
    some (.inl false)
    else
    (bif decide (x270.2.1 < 1) then
    some (.inl false)
    else
    (ad x263 1).bind fun x332 =>
    spec_IsValidDatabase_L1 N k x262 x332))
    else
    some (.inl false)))
    else
    some (.inl false))
    else
    some (.inr x263))
def spec_IsValidDatabase (N : Nat) (a0 : List (ByteArray × (Int × List (List Int)))) : Option Bool :=
    (spec_IsValidDatabase_L1 N N a0 0).bind fun s341 =>
    lpS s341 (fun q => some q) fun x339 =>
    some (decide ((a0.length : Int) ≤ 6))
def spec_l5Copy_L1 (N : Nat) : Nat → Int → (List (List Int)) → Int → (List (List Int)) → Int → (List (List Int)) → Int → Option ((List (List Int)) × Int)
  | 0, _, _, _, _, _, _, _ => none
  | k + 1, x244, x247, x248, x251, x252, x255, x257 =>
    (bif decide (x257 < (x247.length : Int)) then
    (ix x247 x257).bind fun x265 =>
    (apd 8 [] x265).bind fun x278 =>
    (apd 24 x255 [x278]).bind fun x291 =>
    (ad x257 1).bind fun x295 =>
    spec_l5Copy_L1 N k x244 x247 x248 x251 x252 x291 x295
    else
    some (x255, x257))
def spec_l5Copy (N : Nat) (a0 : Int) (a1 : List (List Int)) : Option (Int × List (List Int)) :=
    (spec_l5Copy_L1 N N a0 a1 0 [] a0 [] 0).bind fun s303 =>
    lpB s303 fun (x298, x300) =>
    some (a0, x298)
def spec_LookupRelation_L1 (N : Nat) : Nat → ByteArray → (List (ByteArray × (Int × List (List Int)))) → Int → (List (List Int)) → Int → Option (Sum ((Int × List (List Int)) × Bool) Int)
  | 0, _, _, _, _, _ => none
  | k + 1, x200, x203, x204, x207, x208 =>
    (bif decide (x208 < (x203.length : Int)) then
    (spec_IsValidDatabase N x203).bind fun r212 =>
    (bif r212 then
    (ix x203 x208).bind fun x219 =>
    (bif (eqS x219.1 x200) then
    (ix x203 x208).bind fun x233 =>
    (spec_l5Copy N x233.2.1 x233.2.2).bind fun r245 =>
    some (.inl ((r245.1, r245.2), true))
    else
    (ad x208 1).bind fun x251 =>
    spec_LookupRelation_L1 N k x200 x203 x204 x207 x251)
    else
    some (.inr x208))
    else
    some (.inr x208))
def spec_LookupRelation (N : Nat) (a0 : List (ByteArray × (Int × List (List Int)))) (a1 : ByteArray) : Option ((Int × List (List Int)) × Bool) :=
    (spec_LookupRelation_L1 N N a1 a0 0 [] 0).bind fun s255 =>
    lpS s255 (fun q => some q) fun x252 =>
    some ((0, []), false)
def spec_IsQueryFor_L1 (N : Nat) : Nat → (List (ByteArray × (Int × List (List Int)))) → Int → (List (ByteArray × List Int)) → (List Int) → Int → Option (Sum Bool Int)
  | 0, _, _, _, _, _ => none
  | k + 1, x212, x213, x216, x219, x220 =>
    (bif decide (x220 < (x216.length : Int)) then
    (ix x216 x220).bind fun x229 =>
    (spec_LookupRelation N x212 x229.1).bind fun r239 =>
    (bif r239.2 then
    (ix x216 x220).bind fun x251 =>
    (bif (r239.1.1 != (x251.2.length : Int)) then
    some (.inl false)
    else
    (ad x220 1).bind fun x265 =>
    spec_IsQueryFor_L1 N k x212 x213 x216 x219 x265)
    else
    some (.inl false))
    else
    some (.inr x220))
def spec_IsQueryFor (N : Nat) (a0 : List (ByteArray × (Int × List (List Int)))) (a1 : Int) (a2 : List (ByteArray × List Int)) (a3 : List Int) : Option Bool :=
    (spec_IsQueryFor_L1 N N a0 a1 a2 a3 0).bind fun s278 =>
    lpS s278 (fun q => some q) fun x269 =>
    (spec_IsValidQuery N a1 a2 a3).bind fun r271 =>
    (bif r271 then
    (spec_IsValidDatabase N a0).bind fun r275 =>
    some r275
    else
    some false)
def spec_IsPermutation_L1 (N : Nat) : Nat → (List Int) → Int → Option (Sum Bool Int)
  | 0, _, _ => none
  | k + 1, x174, x175 =>
    (bif decide (x175 < (x174.length : Int)) then
    (ix x174 x175).bind fun x182 =>
    (sb (x174.length : Int) 1).bind fun x188 =>
    (spec_l1In N x182 0 x188).bind fun r189 =>
    (bif r189 then
    (slc x174 0 x175).bind fun x191 =>
    (ix x174 x175).bind fun x194 =>
    (spec_l7Find N x191 x194).bind fun r200 =>
    (bif decide (0 ≤ r200) then
    some (.inl false)
    else
    (ad x175 1).bind fun x205 =>
    spec_IsPermutation_L1 N k x174 x205)
    else
    some (.inl false))
    else
    some (.inr x175))
def spec_IsPermutation (N : Nat) (a0 : List Int) : Option Bool :=
    (spec_IsPermutation_L1 N N a0 0).bind fun s211 =>
    lpS s211 (fun q => some q) fun x209 =>
    some (decide ((a0.length : Int) ≤ 5))
def spec_IsValidOrder (N : Nat) (a0 : Int) (a1 : List (ByteArray × List Int)) (a2 : List Int) (a3 : List Int) : Option Bool :=
    (spec_IsValidQuery N a0 a1 a2).bind fun r107 =>
    (bif r107 then
    (bif ((a3.length : Int) == a0) then
    (spec_IsPermutation N a3).bind fun r112 =>
    some r112
    else
    some false)
    else
    some false)
end Go.Proofs.Ytkpeabpdiffjhaa
