/- What functions of the program come to, written out by a program: none where a bound is passed. -/
import Derived.Test.YtkpeabpdiffjhaaW0D
namespace Go.Proofs.Ytkpeabpdiffjhaa
open Go.RowKit
def laws_toAtomS_L1 (N : Nat) : Nat → (List (ByteArray × List Int)) → (List (ByteArray × List Int)) → Int → Option ((List (ByteArray × List Int)) × Int)
  | 0, _, _, _ => none
  | k + 1, x188, x191, x192 =>
    (bif decide (x192 < (x188.length : Int)) then
    (ix x188 x192).bind fun x198 =>
    (laws_toAtom N x198.1 x198.2).bind fun r208 =>
    (ix x191 x192).bind fun x214 =>
    (sto x191 x192 (r208.1, r208.2)).bind fun x226 =>
    (ad x192 1).bind fun x227 =>
    laws_toAtomS_L1 N k x188 x226 x227
    else
    some (x191, x192))
def laws_toAtomS (N : Nat) (a0 : List (ByteArray × List Int)) : Option (List (ByteArray × List Int)) :=
    (mk 40 ((ByteArray.empty, []) : ByteArray × List Int) (a0.length : Int)).bind fun x106 =>
    (laws_toAtomS_L1 N N a0 x106 0).bind fun s233 =>
    lpB s233 fun (x230, x231) =>
    some x230
def laws_toQuery (N : Nat) (a0 : Int) (a1 : List (ByteArray × List Int)) (a2 : List Int) : Option (Int × List (ByteArray × List Int) × List Int) :=
    (laws_toAtomS N a1).bind fun r118 =>
    (laws_toIntS N a2).bind fun r125 =>
    some (a0, r118, r125)
def impl_within (N : Nat) (a0 : Int) (a1 : Int) (a2 : Int) : Option Bool :=
    (bif decide (a1 ≤ a0) then
    some (decide (a0 ≤ a2))
    else
    some false)
def impl_indexOf_L1 (N : Nat) : Nat → Int → (List Int) → Int → Int → Option (Sum Int Int)
  | 0, _, _, _, _ => none
  | k + 1, x138, x141, x142, x143 =>
    (bif decide (x143 < x142) then
    (ix x141 x143).bind fun x150 =>
    (bif (x150 == x138) then
    some (.inl x143)
    else
    (ad x143 1).bind fun x159 =>
    impl_indexOf_L1 N k x138 x141 x142 x159)
    else
    some (.inr x143))
def impl_indexOf (N : Nat) (a0 : List Int) (a1 : Int) : Option Int :=
    (impl_indexOf_L1 N N a1 a0 (a0.length : Int) 0).bind fun s162 =>
    lpS s162 (fun q => some q) fun x160 =>
    some (-1)
def impl_hasInt (N : Nat) (a0 : List Int) (a1 : Int) : Option Bool :=
    (impl_indexOf N a0 a1).bind fun r103 =>
    some (decide (0 ≤ r103))
def impl_isSetOf_L1 (N : Nat) : Nat → (List Int) → Int → (List Int) → Int → Int → Option (Sum Bool Int)
  | 0, _, _, _, _, _ => none
  | k + 1, x164, x165, x168, x169, x170 =>
    (bif decide (x170 < x169) then
    (ix x168 x170).bind fun x177 =>
    (sb x165 1).bind fun x184 =>
    (impl_within N x177 0 x184).bind fun r185 =>
    (bif r185 then
    (slc x164 0 x170).bind fun x189 =>
    (impl_hasInt N x189 x177).bind fun r192 =>
    (bif r192 then
    some (.inl false)
    else
    (ad x170 1).bind fun x197 =>
    impl_isSetOf_L1 N k x164 x165 x168 x169 x197)
    else
    some (.inl false))
    else
    some (.inr x170))
def impl_isSetOf (N : Nat) (a0 : List Int) (a1 : Int) : Option Bool :=
    (impl_isSetOf_L1 N N a0 a1 a0 (a0.length : Int) 0).bind fun s201 =>
    lpS s201 (fun q => some q) fun x199 =>
    some true
def impl_isLetters_L1 (N : Nat) : Nat → ByteArray → Int → Option (Sum Bool Int)
  | 0, _, _ => none
  | k + 1, x138, x139 =>
    (bif decide (x139 < (x138.size : Int)) then
    (bx x138 x139).bind fun x146 =>
    (bif decide (x146 < 97) then
    some (.inl false)
    else
    (bx x138 x139).bind fun x149 =>
    (bif decide (122 < x149) then
    some (.inl false)
    else
    (ad x139 1).bind fun x152 =>
    impl_isLetters_L1 N k x138 x152))
    else
    some (.inr x139))
def impl_isLetters (N : Nat) (a0 : ByteArray) (a1 : Int) : Option Bool :=
    (bif decide ((a0.size : Int) < 1) then
    some false
    else
    (bif decide (a1 < (a0.size : Int)) then
    some false
    else
    (impl_isLetters_L1 N N a0 0).bind fun s155 =>
    lpS s155 (fun q => some q) fun x153 =>
    some true))
def impl_IsValidName (N : Nat) (a0 : ByteArray) : Option Bool :=
    (impl_isLetters N a0 4).bind fun r103 =>
    some r103
def impl_IsValidQuery_L2 (N : Nat) : Nat → Int → (List Bool) → (List (ByteArray × List Int)) → Int → Int → (List Int) → Int → Int → Option (Sum Bool ((List Bool) × Int))
  | 0, _, _, _, _, _, _, _, _ => none
  | k + 1, x359, x362, x365, x366, x367, x370, x371, x372 =>
    (bif decide (x372 < x371) then
    (ix x370 x372).bind fun x379 =>
    (sb x359 1).bind fun x387 =>
    (impl_within N x379 0 x387).bind fun r388 =>
    (bif r388 then
    (ix x362 x379).bind fun x392 =>
    (sto x362 x379 true).bind fun x397 =>
    (ad x372 1).bind fun x398 =>
    impl_IsValidQuery_L2 N k x359 x397 x365 x366 x367 x370 x371 x398
    else
    some (.inl false))
    else
    some (.inr (x362, x372)))
def impl_IsValidQuery_L1 (N : Nat) : Nat → Int → (List Bool) → (List (ByteArray × List Int)) → Int → Int → Option (Sum Bool ((List Bool) × Int))
  | 0, _, _, _, _, _ => none
  | k + 1, x317, x320, x323, x324, x325 =>
    (bif decide (x325 < x324) then
    (ix x323 x325).bind fun x332 =>
    (impl_IsValidName N x332.1).bind fun r349 =>
    (bif r349 then
    (impl_within N (x332.2.length : Int) 1 5).bind fun r353 =>
    (bif r353 then
    (impl_IsValidQuery_L2 N N x317 x320 x323 x324 x325 x332.2 (x332.2.length : Int) 0).bind fun s405 =>
    lpS s405 (fun q => some (.inl q)) fun (x402, x403) =>
    (ad x325 1).bind fun x404 =>
    impl_IsValidQuery_L1 N k x317 x402 x323 x324 x404
    else
    some (.inl false))
    else
    some (.inl false))
    else
    some (.inr (x320, x325)))
def impl_IsValidQuery_L3 (N : Nat) : Nat → (List Bool) → Int → Int → Option (Sum Bool Int)
  | 0, _, _, _ => none
  | k + 1, x446, x447, x448 =>
    (bif decide (x448 < x447) then
    (ix x446 x448).bind fun x455 =>
    (bif x455 then
    (ad x448 1).bind fun x461 =>
    impl_IsValidQuery_L3 N k x446 x447 x461
    else
    some (.inl false))
    else
    some (.inr x448))
def impl_IsValidQuery (N : Nat) (a0 : Int) (a1 : List (ByteArray × List Int)) (a2 : List Int) : Option Bool :=
    (impl_within N a0 1 5).bind fun r109 =>
    (bif r109 then
    (impl_within N (a1.length : Int) 1 4).bind fun r113 =>
    (bif r113 then
    (impl_isSetOf N a2 a0).bind fun r117 =>
    (bif r117 then
    (mk 1 (false : Bool) a0).bind fun x125 =>
    (impl_IsValidQuery_L1 N N a0 x125 a1 (a1.length : Int) 0).bind fun s466 =>
    lpS s466 (fun q => some q) fun (x410, x411) =>
    (impl_IsValidQuery_L3 N N x410 (x410.length : Int) 0).bind fun s465 =>
    lpS s465 (fun q => some q) fun x463 =>
    some true
    else
    some false)
    else
    some false)
    else
    some false)
def impl_SeekBound (N : Nat) (a0 : Int) (a1 : List (ByteArray × List Int)) (a2 : List Int) (a3 : Int) : Option Int :=
    (impl_IsValidQuery N a0 a1 a2).bind fun r108 =>
    (bif r108 then
    (impl_within N a3 0 1000000).bind fun r112 =>
    (bif r112 then
    (ml 2 a0).bind fun x117 =>
    (ml x117 (a1.length : Int)).bind fun x118 =>
    (ml x118 a3).bind fun x119 =>
    some x119
    else
    some 0)
    else
    some 0)
def laws_eqIntS_L1 (N : Nat) : Nat → (List Int) → (List Int) → Int → Option (Sum Bool Int)
  | 0, _, _, _ => none
  | k + 1, x158, x161, x162 =>
    (bif decide (x162 < (x158.length : Int)) then
    (ix x158 x162).bind fun x169 =>
    (ix x161 x162).bind fun x175 =>
    (bif (x169 != x175) then
    some (.inl false)
    else
    (ad x162 1).bind fun x185 =>
    laws_eqIntS_L1 N k x158 x161 x185)
    else
    some (.inr x162))
def laws_eqIntS (N : Nat) (a0 : List Int) (a1 : List Int) : Option Bool :=
    (bif ((a0.length : Int) != (a1.length : Int)) then
    some false
    else
    (laws_eqIntS_L1 N N a0 a1 0).bind fun s188 =>
    lpS s188 (fun q => some q) fun x186 =>
    some true)
def laws_eqAtom (N : Nat) (a0 : ByteArray) (a1 : List Int) (a2 : ByteArray) (a3 : List Int) : Option Bool :=
    (bif (eqS a0 a2) then
    (laws_eqIntS N a1 a3).bind fun r115 =>
    (bif r115 then
    some true
    else
    some false)
    else
    some false)
end Go.Proofs.Ytkpeabpdiffjhaa
