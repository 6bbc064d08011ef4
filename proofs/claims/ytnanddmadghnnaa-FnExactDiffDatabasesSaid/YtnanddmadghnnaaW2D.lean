/- What functions of the program come to, written out by a program: none where a bound is passed. -/
import Derived.Test.YtnanddmadghnnaaW1D
namespace Go.Proofs.Ytnanddmadghnnaa
open Go.RowKit
def spec_l1In (N : Nat) (a0 : Int) (a1 : Int) (a2 : Int) : Option Bool :=
    (bif decide (a1 ≤ a0) then
    some (decide (a0 ≤ a2))
    else
    some false)
def spec_AreValidValues_L1 (N : Nat) : Nat → (List Int) → Int → Option (Sum Bool Int)
  | 0, _, _ => none
  | k + 1, x144, x145 =>
    (bif decide (x145 < (x144.length : Int)) then
    (ix x144 x145).bind fun x152 =>
    (spec_l1In N x152 0 99).bind fun r158 =>
    (bif r158 then
    (ad x145 1).bind fun x162 =>
    spec_AreValidValues_L1 N k x144 x162
    else
    some (.inl false))
    else
    some (.inr x145))
def spec_AreValidValues (N : Nat) (a0 : List Int) : Option Bool :=
    (spec_AreValidValues_L1 N N a0 0).bind fun s166 =>
    lpS s166 (fun q => some q) fun x164 =>
    some true
def spec_CompareRows_L1 (N : Nat) : Nat → (List Int) → (List Int) → Int → Option (Sum Int Int)
  | 0, _, _, _ => none
  | k + 1, x192, x195, x196 =>
    (bif decide (x196 < (x192.length : Int)) then
    (bif decide (x196 < (x195.length : Int)) then
    (ix x192 x196).bind fun x205 =>
    (ix x195 x196).bind fun x211 =>
    (bif decide (x205 < x211) then
    some (.inl (-1))
    else
    (ix x192 x196).bind fun x222 =>
    (ix x195 x196).bind fun x228 =>
    (bif decide (x228 < x222) then
    some (.inl 1)
    else
    (ad x196 1).bind fun x238 =>
    spec_CompareRows_L1 N k x192 x195 x238))
    else
    some (.inr x196))
    else
    some (.inr x196))
def spec_CompareRows (N : Nat) (a0 : List Int) (a1 : List Int) : Option Int :=
    (spec_CompareRows_L1 N N a0 a1 0).bind fun s249 =>
    lpS s249 (fun q => some q) fun x239 =>
    (bif decide ((a0.length : Int) < (a1.length : Int)) then
    some (-1)
    else
    (bif decide ((a1.length : Int) < (a0.length : Int)) then
    some 1
    else
    some 0))
def spec_IsValidRelation_L1 (N : Nat) : Nat → Int → (List (List Int)) → Int → Option (Sum Bool Int)
  | 0, _, _, _ => none
  | k + 1, x226, x229, x230 =>
    (bif decide (x230 < (x229.length : Int)) then
    (ix x229 x230).bind fun x237 =>
    (bif ((x237.length : Int) != x226) then
    some (.inl false)
    else
    (ix x229 x230).bind fun x248 =>
    (spec_AreValidValues N x248).bind fun r255 =>
    (bif r255 then
    (bif decide (0 < x230) then
    (sb x230 1).bind fun x258 =>
    (ix x229 x258).bind fun x259 =>
    (ix x229 x230).bind fun x266 =>
    (spec_CompareRows N x259 x266).bind fun r273 =>
    (bif decide (0 ≤ r273) then
    some (.inl false)
    else
    (ad x230 1).bind fun x278 =>
    spec_IsValidRelation_L1 N k x226 x229 x278)
    else
    (ad x230 1).bind fun x281 =>
    spec_IsValidRelation_L1 N k x226 x229 x281)
    else
    some (.inl false)))
    else
    some (.inr x230))
def spec_IsValidRelation (N : Nat) (a0 : Int) (a1 : List (List Int)) : Option Bool :=
    (spec_l1In N a0 0 5).bind fun r108 =>
    (bif r108 then
    (bif decide (4000 < (a1.length : Int)) then
    some false
    else
    (spec_IsValidRelation_L1 N N a0 a1 0).bind fun s287 =>
    lpS s287 (fun q => some q) fun x285 =>
    some true)
    else
    some false)
def spec_IsValidName_L1 (N : Nat) : Nat → ByteArray → Int → Option (Sum Bool Int)
  | 0, _, _ => none
  | k + 1, x132, x133 =>
    (bif decide (x133 < (x132.size : Int)) then
    (bx x132 x133).bind fun x140 =>
    (bif decide (x140 < 97) then
    some (.inl false)
    else
    (bx x132 x133).bind fun x143 =>
    (bif decide (122 < x143) then
    some (.inl false)
    else
    (ad x133 1).bind fun x146 =>
    spec_IsValidName_L1 N k x132 x146))
    else
    some (.inr x133))
def spec_IsValidName (N : Nat) (a0 : ByteArray) : Option Bool :=
    (spec_IsValidName_L1 N N a0 0).bind fun s152 =>
    lpS s152 (fun q => some q) fun x147 =>
    (spec_l1In N (a0.size : Int) 1 4).bind fun r149 =>
    some r149
def spec_IsValidDatabase_L1 (N : Nat) : Nat → (List (ByteArray × (Int × List (List Int)))) → Int → Option (Sum Bool Int)
  | 0, _, _ => none
  | k + 1, x262, x263 =>
    (bif decide (x263 < (x262.length : Int)) then
    (ix x262 x263).bind fun x270 =>
    (spec_IsValidName N x270.1).bind fun r288 =>
    (bif r288 then
    (bif decide (0 < x263) then
    (sb x263 1).bind fun x291 =>
    (ix x262 x291).bind fun x292 =>
    (bif (ltS x292.1 x270.1) then
    (spec_IsValidRelation N x270.2.1 x270.2.2).bind fun r305 =>
    (bif r305 then
    (bif decide (16 < (x270.2.2.length : Int)) then
    some (.inl false)
    else
    (bif decide (x270.2.1 < 1) then
    some (.inl false)
    else
    (ad x263 1).bind fun x315 =>
    spec_IsValidDatabase_L1 N k x262 x315))
    else
    some (.inl false))
    else
    some (.inl false))
    else
    (spec_IsValidRelation N x270.2.1 x270.2.2).bind fun r322 =>
    (bif r322 then
    (bif decide (16 < (x270.2.2.length : Int)) then
    some (.inl false)
    else
    (bif decide (x270.2.1 < 1) then
    some (.inl false)
    else
    (ad x263 1).bind fun x332 =>
    spec_IsValidDatabase_L1 N k x262 x332))
    else
    some (.inl false)))
    else
    some (.inl false))
    else
    some (.inr x263))
def spec_IsValidDatabase (N : Nat) (a0 : List (ByteArray × (Int × List (List Int)))) : Option Bool :=
    (spec_IsValidDatabase_L1 N N a0 0).bind fun s341 =>
    lpS s341 (fun q => some q) fun x339 =>
    some (decide ((a0.length : Int) ≤ 6))
def spec_l5Copy_L1 (N : Nat) : Nat → Int → (List (List Int)) → Int → (List (List Int)) → Int → (List (List Int)) → Int → Option ((List (List Int)) × Int)
  | 0, _, _, _, _, _, _, _ => none
  | k + 1, x244, x247, x248, x251, x252, x255, x257 =>
    (bif decide (x257 < (x247.length : Int)) then
    (ix x247 x257).bind fun x265 =>
    (apd 8 [] x265).bind fun x278 =>
    (apd 24 x255 [x278]).bind fun x291 =>
    (ad x257 1).bind fun x295 =>
    spec_l5Copy_L1 N k x244 x247 x248 x251 x252 x291 x295
    else
    some (x255, x257))
def spec_l5Copy (N : Nat) (a0 : Int) (a1 : List (List Int)) : Option (Int × List (List Int)) :=
    (spec_l5Copy_L1 N N a0 a1 0 [] a0 [] 0).bind fun s303 =>
    lpB s303 fun (x298, x300) =>
    some (a0, x298)
def spec_LookupRelation_L1 (N : Nat) : Nat → ByteArray → (List (ByteArray × (Int × List (List Int)))) → Int → (List (List Int)) → Int → Option (Sum ((Int × List (List Int)) × Bool) Int)
  | 0, _, _, _, _, _ => none
  | k + 1, x200, x203, x204, x207, x208 =>
    (bif decide (x208 < (x203.length : Int)) then
    (spec_IsValidDatabase N x203).bind fun r212 =>
    (bif r212 then
    (ix x203 x208).bind fun x219 =>
    (bif (eqS x219.1 x200) then
    (ix x203 x208).bind fun x233 =>
    (spec_l5Copy N x233.2.1 x233.2.2).bind fun r245 =>
    some (.inl ((r245.1, r245.2), true))
    else
    (ad x208 1).bind fun x251 =>
    spec_LookupRelation_L1 N k x200 x203 x204 x207 x251)
    else
    some (.inr x208))
    else
    some (.inr x208))
def spec_LookupRelation (N : Nat) (a0 : List (ByteArray × (Int × List (List Int)))) (a1 : ByteArray) : Option ((Int × List (List Int)) × Bool) :=
    (spec_LookupRelation_L1 N N a1 a0 0 [] 0).bind fun s255 =>
    lpS s255 (fun q => some q) fun x252 =>
    some ((0, []), false)
def spec_l26Fits (N : Nat) (a0 : List (ByteArray × (Int × List (List Int)))) (a1 : ByteArray) (a2 : Int) (a3 : List (List Int)) (a4 : Int) (a5 : List (List Int)) : Option Bool :=
    (spec_LookupRelation N a0 a1).bind fun r111 =>
    (bif r111.2 then
    (spec_IsValidRelation N a2 a3).bind fun r123 =>
    (bif r123 then
    (spec_IsValidRelation N a4 a5).bind fun r127 =>
    (bif r127 then
    (bif (a2 == r111.1.1) then
    some (a4 == r111.1.1)
    else
    some false)
    else
    some false)
    else
    some false)
    else
    some false)
def spec_l5Place_L1 (N : Nat) : Nat → (List Int) → Int → (List (List Int)) → Int → Int → Option (Int × Int)
  | 0, _, _, _, _, _ => none
  | k + 1, x154, x155, x158, x159, x160 =>
    (bif decide (x159 < x160) then
    (ad x159 x160).bind fun x166 =>
    (qt x166 2).bind fun x167 =>
    (ix x158 x167).bind fun x169 =>
    (spec_CompareRows N x169 x154).bind fun r176 =>
    (bif decide (r176 < 0) then
    (ad x167 1).bind fun x180 =>
    spec_l5Place_L1 N k x154 x155 x158 x180 x160
    else
    spec_l5Place_L1 N k x154 x155 x158 x159 x167)
    else
    some (x159, x160))
def spec_l5Place (N : Nat) (a0 : Int) (a1 : List (List Int)) (a2 : List Int) : Option (Int × Bool) :=
    (spec_l5Place_L1 N N a2 a0 a1 0 (a1.length : Int)).bind fun s195 =>
    lpB s195 fun (x181, x182) =>
    (bif decide (x181 < (a1.length : Int)) then
    (ix a1 x181).bind fun x185 =>
    (spec_CompareRows N x185 a2).bind fun r192 =>
    some (x181, (r192 == 0))
    else
    some (x181, false))
def spec_ContainsRow (N : Nat) (a0 : Int) (a1 : List (List Int)) (a2 : List Int) : Option Bool :=
    (spec_IsValidRelation N a0 a1).bind fun r108 =>
    (bif r108 then
    (spec_l5Place N a0 a1 a2).bind fun r113 =>
    some r113.2
    else
    some false)
def spec_IsValidDelta_L1 (N : Nat) : Nat → ByteArray → Int → (List (List Int)) → Int → (List (List Int)) → Int → (List (List Int)) → Int → Option (Sum Bool Int)
  | 0, _, _, _, _, _, _, _, _ => none
  | k + 1, x169, x170, x173, x174, x177, x178, x181, x182 =>
    (bif decide (x182 < (x173.length : Int)) then
    (ix x173 x182).bind fun x189 =>
    (spec_ContainsRow N x178 x181 x189).bind fun r196 =>
    (bif r196 then
    some (.inl false)
    else
    (ad x182 1).bind fun x201 =>
    spec_IsValidDelta_L1 N k x169 x170 x173 x174 x177 x178 x181 x201)
    else
    some (.inr x182))
def spec_IsValidDelta_L2 (N : Nat) : Nat → ByteArray → Int → (List (List Int)) → Int → (List (List Int)) → Int → (List (List Int)) → Int → Option (Sum Bool Int)
  | 0, _, _, _, _, _, _, _, _ => none
  | k + 1, x245, x246, x249, x250, x253, x254, x257, x258 =>
    (bif decide (x258 < (x253.length : Int)) then
    (ix x253 x258).bind fun x265 =>
    (spec_ContainsRow N x254 x257 x265).bind fun r272 =>
    (bif r272 then
    (ad x258 1).bind fun x276 =>
    spec_IsValidDelta_L2 N k x245 x246 x249 x250 x253 x254 x257 x276
    else
    some (.inl false))
    else
    some (.inr x258))
def spec_IsValidDelta (N : Nat) (a0 : List (ByteArray × (Int × List (List Int)))) (a1 : ByteArray) (a2 : Int) (a3 : List (List Int)) (a4 : Int) (a5 : List (List Int)) : Option Bool :=
    (spec_l26Fits N a0 a1 a2 a3 a4 a5).bind fun r112 =>
    (bif r112 then
    (spec_LookupRelation N a0 a1).bind fun r117 =>
    (spec_IsValidDelta_L1 N N a1 a2 a3 a4 a5 r117.1.1 r117.1.2 0).bind fun s281 =>
    lpS s281 (fun q => some q) fun x202 =>
    (spec_IsValidDelta_L2 N N a1 a2 a3 a4 a5 r117.1.1 r117.1.2 0).bind fun s280 =>
    lpS s280 (fun q => some q) fun x278 =>
    some true
    else
    some false)
end Go.Proofs.Ytnanddmadghnnaa
