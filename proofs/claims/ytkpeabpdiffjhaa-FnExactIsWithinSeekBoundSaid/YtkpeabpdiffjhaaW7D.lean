/- What functions of the program come to, written out by a program: none where a bound is passed. -/
import Derived.Test.YtkpeabpdiffjhaaW6D
namespace Go.Proofs.Ytkpeabpdiffjhaa
open Go.RowKit
def laws_toTableS_L1 (N : Nat) : Nat → (List (ByteArray × (Int × List (List Int)))) → (List (ByteArray × (Int × List (List Int)))) → Int → Option ((List (ByteArray × (Int × List (List Int)))) × Int)
  | 0, _, _, _ => none
  | k + 1, x196, x199, x200 =>
    (bif decide (x200 < (x196.length : Int)) then
    (ix x196 x200).bind fun x206 =>
    (laws_toTable N x206.1 x206.2.1 x206.2.2).bind fun r218 =>
    (ix x199 x200).bind fun x224 =>
    (sto x199 x200 (r218.1, (r218.2.1, r218.2.2))).bind fun x238 =>
    (ad x200 1).bind fun x239 =>
    laws_toTableS_L1 N k x196 x238 x239
    else
    some (x199, x200))
def laws_toTableS (N : Nat) (a0 : List (ByteArray × (Int × List (List Int)))) : Option (List (ByteArray × (Int × List (List Int)))) :=
    (mk 48 ((ByteArray.empty, (0, [])) : ByteArray × (Int × List (List Int))) (a0.length : Int)).bind fun x106 =>
    (laws_toTableS_L1 N N a0 x106 0).bind fun s245 =>
    lpB s245 fun (x242, x243) =>
    some x242
def laws_toDatabase (N : Nat) (a0 : List (ByteArray × (Int × List (List Int)))) : Option (List (ByteArray × (Int × List (List Int)))) :=
    (laws_toTableS N a0).bind fun r116 =>
    some r116
def impl_CompareRows_L1 (N : Nat) : Nat → (List Int) → (List Int) → Int → Option (Sum Int Int)
  | 0, _, _, _ => none
  | k + 1, x186, x189, x190 =>
    (bif decide (x190 < (x186.length : Int)) then
    (bif decide (x190 < (x189.length : Int)) then
    (ix x186 x190).bind fun x198 =>
    (ix x189 x190).bind fun x204 =>
    (bif (x198 != x204) then
    (ix x186 x190).bind fun x214 =>
    (ix x189 x190).bind fun x220 =>
    (impl_compareInts N x214 x220).bind fun r226 =>
    some (.inl r226)
    else
    (ad x190 1).bind fun x229 =>
    impl_CompareRows_L1 N k x186 x189 x229)
    else
    some (.inr x190))
    else
    some (.inr x190))
def impl_CompareRows (N : Nat) (a0 : List Int) (a1 : List Int) : Option Int :=
    (impl_CompareRows_L1 N N a0 a1 0).bind fun s235 =>
    lpS s235 (fun q => some q) fun x230 =>
    (impl_compareInts N (a0.length : Int) (a1.length : Int)).bind fun r232 =>
    some r232
def impl_AreValidValues_L1 (N : Nat) : Nat → (List Int) → Int → Int → Option (Sum Bool Int)
  | 0, _, _, _ => none
  | k + 1, x146, x147, x148 =>
    (bif decide (x148 < x147) then
    (ix x146 x148).bind fun x155 =>
    (impl_within N x155 0 99).bind fun r162 =>
    (bif r162 then
    (ad x148 1).bind fun x166 =>
    impl_AreValidValues_L1 N k x146 x147 x166
    else
    some (.inl false))
    else
    some (.inr x148))
def impl_AreValidValues (N : Nat) (a0 : List Int) : Option Bool :=
    (impl_AreValidValues_L1 N N a0 (a0.length : Int) 0).bind fun s170 =>
    lpS s170 (fun q => some q) fun x168 =>
    some true
def impl_rowsValid_L1 (N : Nat) : Nat → Int → (List (List Int)) → (List (List Int)) → Int → Int → Option (Sum Bool Int)
  | 0, _, _, _, _, _ => none
  | k + 1, x188, x191, x194, x195, x196 =>
    (bif decide (x196 < x195) then
    (ix x194 x196).bind fun x203 =>
    (bif ((x203.length : Int) != x188) then
    some (.inl false)
    else
    (impl_AreValidValues N x203).bind fun r213 =>
    (bif r213 then
    (bif decide (0 < x196) then
    (sb x196 1).bind fun x218 =>
    (ix x191 x218).bind fun x219 =>
    (impl_CompareRows N x219 x203).bind fun r226 =>
    (bif decide (0 ≤ r226) then
    some (.inl false)
    else
    (ad x196 1).bind fun x231 =>
    impl_rowsValid_L1 N k x188 x191 x194 x195 x231)
    else
    (ad x196 1).bind fun x232 =>
    impl_rowsValid_L1 N k x188 x191 x194 x195 x232)
    else
    some (.inl false)))
    else
    some (.inr x196))
def impl_rowsValid (N : Nat) (a0 : Int) (a1 : List (List Int)) : Option Bool :=
    (impl_within N a0 0 5).bind fun r104 =>
    (bif r104 then
    (bif decide (4000 < (a1.length : Int)) then
    some false
    else
    (impl_rowsValid_L1 N N a0 a1 a1 (a1.length : Int) 0).bind fun s236 =>
    lpS s236 (fun q => some q) fun x234 =>
    some true)
    else
    some false)
def impl_IsValidRelation (N : Nat) (a0 : Int) (a1 : List (List Int)) : Option Bool :=
    (impl_rowsValid N a0 a1).bind fun r107 =>
    some r107
def impl_IsValidDatabase_L1 (N : Nat) : Nat → (List (ByteArray × (Int × List (List Int)))) → (List (ByteArray × (Int × List (List Int)))) → Int → Int → Option (Sum Bool Int)
  | 0, _, _, _, _ => none
  | k + 1, x266, x269, x270, x271 =>
    (bif decide (x271 < x270) then
    (ix x269 x271).bind fun x278 =>
    (impl_IsValidName N x278.1).bind fun r296 =>
    (bif r296 then
    (bif decide (0 < x271) then
    (sb x271 1).bind fun x299 =>
    (ix x266 x299).bind fun x300 =>
    (bif (ltS x300.1 x278.1) then
    (impl_IsValidRelation N x278.2.1 x278.2.2).bind fun r313 =>
    (bif r313 then
    (bif decide (x278.2.1 < 1) then
    some (.inl false)
    else
    (bif decide (16 < (x278.2.2.length : Int)) then
    some (.inl false)
    else
    (ad x271 1).bind fun x323 =>
    impl_IsValidDatabase_L1 N k x266 x269 x270 x323))
    else
    some (.inl false))
    else
    some (.inl false))
    else
    (impl_IsValidRelation N x278.2.1 x278.2.2).bind fun r330 =>
    (bif r330 then
    (bif decide (x278.2.1 < 1) then
    some (.inl false)
    else
    (bif decide (16 < (x278.2.2.length : Int)) then
    some (.inl false)
    else
    (ad x271 1).bind fun x340 =>
    impl_IsValidDatabase_L1 N k x266 x269 x270 x340))
    else
    some (.inl false)))
    else
    some (.inl false))
    else
    some (.inr x271))
def impl_IsValidDatabase (N : Nat) (a0 : List (ByteArray × (Int × List (List Int)))) : Option Bool :=
    (bif decide (6 < (a0.length : Int)) then
    some false
    else
    (impl_IsValidDatabase_L1 N N a0 a0 (a0.length : Int) 0).bind fun s349 =>
    lpS s349 (fun q => some q) fun x347 =>
    some true)
def impl_copyInts (N : Nat) (a0 : List Int) : Option (List Int) :=
    (apd 8 [] a0).bind fun x109 =>
    some x109
def impl_copyRows_L1 (N : Nat) : Nat → (List (List Int)) → (List (List Int)) → Int → Int → Option ((List (List Int)) × Int)
  | 0, _, _, _, _ => none
  | k + 1, x203, x207, x208, x209 =>
    (bif decide (x209 < x208) then
    (ix x207 x209).bind fun x216 =>
    (impl_copyInts N x216).bind fun r223 =>
    (apd 24 x203 [r223]).bind fun x234 =>
    (ad x209 1).bind fun x237 =>
    impl_copyRows_L1 N k x234 x207 x208 x237
    else
    some (x203, x209))
def impl_copyRows (N : Nat) (a0 : List (List Int)) : Option (List (List Int)) :=
    (impl_copyRows_L1 N N [] a0 (a0.length : Int) 0).bind fun s244 =>
    lpB s244 fun (x240, x242) =>
    some x240
def impl_copyRelation (N : Nat) (a0 : Int) (a1 : List (List Int)) : Option (Int × List (List Int)) :=
    (impl_copyRows N a1).bind fun r113 =>
    some (a0, r113)
def impl_LookupRelation_L1 (N : Nat) : Nat → ByteArray → Int → (List (List Int)) → (List (ByteArray × (Int × List (List Int)))) → Int → Int → Option (Sum ((Int × List (List Int)) × Bool) Int)
  | 0, _, _, _, _, _, _ => none
  | k + 1, x185, x186, x189, x192, x193, x194 =>
    (bif decide (x194 < x193) then
    (ix x192 x194).bind fun x201 =>
    (bif (eqS x201.1 x185) then
    (impl_copyRelation N x201.2.1 x201.2.2).bind fun r221 =>
    some (.inl ((r221.1, r221.2), true))
    else
    (ad x194 1).bind fun x227 =>
    impl_LookupRelation_L1 N k x185 x186 x189 x192 x193 x227)
    else
    some (.inr x194))
def impl_LookupRelation (N : Nat) (a0 : List (ByteArray × (Int × List (List Int)))) (a1 : ByteArray) : Option ((Int × List (List Int)) × Bool) :=
    (impl_IsValidDatabase N a0).bind fun r112 =>
    (bif r112 then
    (impl_LookupRelation_L1 N N a1 0 [] a0 (a0.length : Int) 0).bind fun s231 =>
    lpS s231 (fun q => some q) fun x228 =>
    some ((0, []), false)
    else
    some ((0, []), false))
def impl_IsQueryFor_L1 (N : Nat) : Nat → (List (ByteArray × (Int × List (List Int)))) → (List (ByteArray × List Int)) → Int → Int → Option (Sum Bool Int)
  | 0, _, _, _, _ => none
  | k + 1, x202, x205, x206, x207 =>
    (bif decide (x207 < x206) then
    (ix x205 x207).bind fun x214 =>
    (impl_LookupRelation N x202 x214.1).bind fun r230 =>
    (bif r230.2 then
    (bif (r230.1.1 != (x214.2.length : Int)) then
    some (.inl false)
    else
    (ad x207 1).bind fun x244 =>
    impl_IsQueryFor_L1 N k x202 x205 x206 x244)
    else
    some (.inl false))
    else
    some (.inr x207))
def impl_IsQueryFor (N : Nat) (a0 : List (ByteArray × (Int × List (List Int)))) (a1 : Int) (a2 : List (ByteArray × List Int)) (a3 : List Int) : Option Bool :=
    (impl_IsValidQuery N a1 a2 a3).bind fun r112 =>
    (bif r112 then
    (impl_IsValidDatabase N a0).bind fun r116 =>
    (bif r116 then
    (impl_IsQueryFor_L1 N N a0 a2 (a2.length : Int) 0).bind fun s248 =>
    lpS s248 (fun q => some q) fun x246 =>
    some true
    else
    some false)
    else
    some false)
end Go.Proofs.Ytkpeabpdiffjhaa
