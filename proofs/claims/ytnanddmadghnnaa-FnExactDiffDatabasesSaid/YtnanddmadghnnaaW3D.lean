/- What functions of the program come to, written out by a program: none where a bound is passed. -/
import Derived.Test.YtnanddmadghnnaaW2D
namespace Go.Proofs.Ytnanddmadghnnaa
open Go.RowKit
def laws_toRelation (N : Nat) (a0 : Int) (a1 : List (List Int)) : Option (Int × List (List Int)) :=
    (laws_toIntSS N a1).bind fun r118 =>
    some (a0, r118)
def laws_toTable (N : Nat) (a0 : ByteArray) (a1 : Int) (a2 : List (List Int)) : Option (ByteArray × (Int × List (List Int))) :=
    (laws_toRelation N a1 a2).bind fun r118 =>
    some (a0, (r118.1, r118.2))
def laws_toTableS_L1 (N : Nat) : Nat → (List (ByteArray × (Int × List (List Int)))) → (List (ByteArray × (Int × List (List Int)))) → Int → Option ((List (ByteArray × (Int × List (List Int)))) × Int)
  | 0, _, _, _ => none
  | k + 1, x196, x199, x200 =>
    (bif decide (x200 < (x196.length : Int)) then
    (ix x196 x200).bind fun x206 =>
    (laws_toTable N x206.1 x206.2.1 x206.2.2).bind fun r218 =>
    (ix x199 x200).bind fun x224 =>
    (sto x199 x200 (r218.1, (r218.2.1, r218.2.2))).bind fun x238 =>
    (ad x200 1).bind fun x239 =>
    laws_toTableS_L1 N k x196 x238 x239
    else
    some (x199, x200))
def laws_toTableS (N : Nat) (a0 : List (ByteArray × (Int × List (List Int)))) : Option (List (ByteArray × (Int × List (List Int)))) :=
    (mk 48 ((ByteArray.empty, (0, [])) : ByteArray × (Int × List (List Int))) (a0.length : Int)).bind fun x106 =>
    (laws_toTableS_L1 N N a0 x106 0).bind fun s245 =>
    lpB s245 fun (x242, x243) =>
    some x242
def laws_toDatabase (N : Nat) (a0 : List (ByteArray × (Int × List (List Int)))) : Option (List (ByteArray × (Int × List (List Int)))) :=
    (laws_toTableS N a0).bind fun r116 =>
    some r116
def laws_toDelta (N : Nat) (a0 : ByteArray) (a1 : Int) (a2 : List (List Int)) (a3 : Int) (a4 : List (List Int)) : Option (ByteArray × (Int × List (List Int)) × (Int × List (List Int))) :=
    (laws_toRelation N a1 a2).bind fun r118 =>
    (laws_toRelation N a3 a4).bind fun r125 =>
    some (a0, (r118.1, r118.2), (r125.1, r125.2))
def impl_compareInts (N : Nat) (a0 : Int) (a1 : Int) : Option Int :=
    (bif decide (a0 < a1) then
    some (-1)
    else
    (bif decide (a1 < a0) then
    some 1
    else
    some 0))
def impl_CompareRows_L1 (N : Nat) : Nat → (List Int) → (List Int) → Int → Option (Sum Int Int)
  | 0, _, _, _ => none
  | k + 1, x186, x189, x190 =>
    (bif decide (x190 < (x186.length : Int)) then
    (bif decide (x190 < (x189.length : Int)) then
    (ix x186 x190).bind fun x198 =>
    (ix x189 x190).bind fun x204 =>
    (bif (x198 != x204) then
    (ix x186 x190).bind fun x214 =>
    (ix x189 x190).bind fun x220 =>
    (impl_compareInts N x214 x220).bind fun r226 =>
    some (.inl r226)
    else
    (ad x190 1).bind fun x229 =>
    impl_CompareRows_L1 N k x186 x189 x229)
    else
    some (.inr x190))
    else
    some (.inr x190))
def impl_CompareRows (N : Nat) (a0 : List Int) (a1 : List Int) : Option Int :=
    (impl_CompareRows_L1 N N a0 a1 0).bind fun s235 =>
    lpS s235 (fun q => some q) fun x230 =>
    (impl_compareInts N (a0.length : Int) (a1.length : Int)).bind fun r232 =>
    some r232
def impl_within (N : Nat) (a0 : Int) (a1 : Int) (a2 : Int) : Option Bool :=
    (bif decide (a1 ≤ a0) then
    some (decide (a0 ≤ a2))
    else
    some false)
def impl_AreValidValues_L1 (N : Nat) : Nat → (List Int) → Int → Int → Option (Sum Bool Int)
  | 0, _, _, _ => none
  | k + 1, x146, x147, x148 =>
    (bif decide (x148 < x147) then
    (ix x146 x148).bind fun x155 =>
    (impl_within N x155 0 99).bind fun r162 =>
    (bif r162 then
    (ad x148 1).bind fun x166 =>
    impl_AreValidValues_L1 N k x146 x147 x166
    else
    some (.inl false))
    else
    some (.inr x148))
def impl_AreValidValues (N : Nat) (a0 : List Int) : Option Bool :=
    (impl_AreValidValues_L1 N N a0 (a0.length : Int) 0).bind fun s170 =>
    lpS s170 (fun q => some q) fun x168 =>
    some true
def impl_rowsValid_L1 (N : Nat) : Nat → Int → (List (List Int)) → (List (List Int)) → Int → Int → Option (Sum Bool Int)
  | 0, _, _, _, _, _ => none
  | k + 1, x188, x191, x194, x195, x196 =>
    (bif decide (x196 < x195) then
    (ix x194 x196).bind fun x203 =>
    (bif ((x203.length : Int) != x188) then
    some (.inl false)
    else
    (impl_AreValidValues N x203).bind fun r213 =>
    (bif r213 then
    (bif decide (0 < x196) then
    (sb x196 1).bind fun x218 =>
    (ix x191 x218).bind fun x219 =>
    (impl_CompareRows N x219 x203).bind fun r226 =>
    (bif decide (0 ≤ r226) then
    some (.inl false)
    else
    (ad x196 1).bind fun x231 =>
    impl_rowsValid_L1 N k x188 x191 x194 x195 x231)
    else
    (ad x196 1).bind fun x232 =>
    impl_rowsValid_L1 N k x188 x191 x194 x195 x232)
    else
    some (.inl false)))
    else
    some (.inr x196))
def impl_rowsValid (N : Nat) (a0 : Int) (a1 : List (List Int)) : Option Bool :=
    (impl_within N a0 0 5).bind fun r104 =>
    (bif r104 then
    (bif decide (4000 < (a1.length : Int)) then
    some false
    else
    (impl_rowsValid_L1 N N a0 a1 a1 (a1.length : Int) 0).bind fun s236 =>
    lpS s236 (fun q => some q) fun x234 =>
    some true)
    else
    some false)
def impl_IsValidRelation (N : Nat) (a0 : Int) (a1 : List (List Int)) : Option Bool :=
    (impl_rowsValid N a0 a1).bind fun r107 =>
    some r107
def impl_isLetters_L1 (N : Nat) : Nat → ByteArray → Int → Option (Sum Bool Int)
  | 0, _, _ => none
  | k + 1, x138, x139 =>
    (bif decide (x139 < (x138.size : Int)) then
    (bx x138 x139).bind fun x146 =>
    (bif decide (x146 < 97) then
    some (.inl false)
    else
    (bx x138 x139).bind fun x149 =>
    (bif decide (122 < x149) then
    some (.inl false)
    else
    (ad x139 1).bind fun x152 =>
    impl_isLetters_L1 N k x138 x152))
    else
    some (.inr x139))
def impl_isLetters (N : Nat) (a0 : ByteArray) (a1 : Int) : Option Bool :=
    (bif decide ((a0.size : Int) < 1) then
    some false
    else
    (bif decide (a1 < (a0.size : Int)) then
    some false
    else
    (impl_isLetters_L1 N N a0 0).bind fun s155 =>
    lpS s155 (fun q => some q) fun x153 =>
    some true))
end Go.Proofs.Ytnanddmadghnnaa
