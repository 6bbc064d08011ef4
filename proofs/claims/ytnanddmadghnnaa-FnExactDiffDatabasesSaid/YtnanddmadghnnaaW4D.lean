/- What functions of the program come to, written out by a program: none where a bound is passed. -/
import Derived.Test.YtnanddmadghnnaaW3D
namespace Go.Proofs.Ytnanddmadghnnaa
open Go.RowKit
def impl_IsValidName (N : Nat) (a0 : ByteArray) : Option Bool :=
    (impl_isLetters N a0 4).bind fun r103 =>
    some r103
def impl_IsValidDatabase_L1 (N : Nat) : Nat → (List (ByteArray × (Int × List (List Int)))) → (List (ByteArray × (Int × List (List Int)))) → Int → Int → Option (Sum Bool Int)
  | 0, _, _, _, _ => none
  | k + 1, x266, x269, x270, x271 =>
    (bif decide (x271 < x270) then
    (ix x269 x271).bind fun x278 =>
    (impl_IsValidName N x278.1).bind fun r296 =>
    (bif r296 then
    (bif decide (0 < x271) then
    (sb x271 1).bind fun x299 =>
    (ix x266 x299).bind fun x300 =>
    (bif (ltS x300.1 x278.1) then
    (impl_IsValidRelation N x278.2.1 x278.2.2).bind fun r313 =>
    (bif r313 then
    (bif decide (x278.2.1 < 1) then
    some (.inl false)
    else
    (bif decide (16 < (x278.2.2.length : Int)) then
    some (.inl false)
    else
    (ad x271 1).bind fun x323 =>
    impl_IsValidDatabase_L1 N k x266 x269 x270 x323))
    else
    some (.inl false))
    else
    some (.inl false))
    else
    (impl_IsValidRelation N x278.2.1 x278.2.2).bind fun r330 =>
    (bif r330 then
    (bif decide (x278.2.1 < 1) then
    some (.inl false)
    else
    (bif decide (16 < (x278.2.2.length : Int)) then
    some (.inl false)
    else
    (ad x271 1).bind fun x340 =>
    impl_IsValidDatabase_L1 N k x266 x269 x270 x340))
    else
    some (.inl false)))
    else
    some (.inl false))
    else
    some (.inr x271))
def impl_IsValidDatabase (N : Nat) (a0 : List (ByteArray × (Int × List (List Int)))) : Option Bool :=
    (bif decide (6 < (a0.length : Int)) then
    some false
    else
    (impl_IsValidDatabase_L1 N N a0 a0 (a0.length : Int) 0).bind fun s349 =>
    lpS s349 (fun q => some q) fun x347 =>
    some true)
def impl_copyInts (N : Nat) (a0 : List Int) : Option (List Int) :=
    (apd 8 [] a0).bind fun x109 =>
    some x109
def impl_copyRows_L1 (N : Nat) : Nat → (List (List Int)) → (List (List Int)) → Int → Int → Option ((List (List Int)) × Int)
  | 0, _, _, _, _ => none
  | k + 1, x203, x207, x208, x209 =>
    (bif decide (x209 < x208) then
    (ix x207 x209).bind fun x216 =>
    (impl_copyInts N x216).bind fun r223 =>
    (apd 24 x203 [r223]).bind fun x234 =>
    (ad x209 1).bind fun x237 =>
    impl_copyRows_L1 N k x234 x207 x208 x237
    else
    some (x203, x209))
def impl_copyRows (N : Nat) (a0 : List (List Int)) : Option (List (List Int)) :=
    (impl_copyRows_L1 N N [] a0 (a0.length : Int) 0).bind fun s244 =>
    lpB s244 fun (x240, x242) =>
    some x240
def impl_copyRelation (N : Nat) (a0 : Int) (a1 : List (List Int)) : Option (Int × List (List Int)) :=
    (impl_copyRows N a1).bind fun r113 =>
    some (a0, r113)
def impl_LookupRelation_L1 (N : Nat) : Nat → ByteArray → Int → (List (List Int)) → (List (ByteArray × (Int × List (List Int)))) → Int → Int → Option (Sum ((Int × List (List Int)) × Bool) Int)
  | 0, _, _, _, _, _, _ => none
  | k + 1, x185, x186, x189, x192, x193, x194 =>
    (bif decide (x194 < x193) then
    (ix x192 x194).bind fun x201 =>
    (bif (eqS x201.1 x185) then
    (impl_copyRelation N x201.2.1 x201.2.2).bind fun r221 =>
    some (.inl ((r221.1, r221.2), true))
    else
    (ad x194 1).bind fun x227 =>
    impl_LookupRelation_L1 N k x185 x186 x189 x192 x193 x227)
    else
    some (.inr x194))
def impl_LookupRelation (N : Nat) (a0 : List (ByteArray × (Int × List (List Int)))) (a1 : ByteArray) : Option ((Int × List (List Int)) × Bool) :=
    (impl_IsValidDatabase N a0).bind fun r112 =>
    (bif r112 then
    (impl_LookupRelation_L1 N N a1 0 [] a0 (a0.length : Int) 0).bind fun s231 =>
    lpS s231 (fun q => some q) fun x228 =>
    some ((0, []), false)
    else
    some ((0, []), false))
def impl_applicable (N : Nat) (a0 : List (ByteArray × (Int × List (List Int)))) (a1 : ByteArray) (a2 : Int) (a3 : List (List Int)) (a4 : Int) (a5 : List (List Int)) : Option ((Int × List (List Int)) × Bool) :=
    (impl_LookupRelation N a0 a1).bind fun r115 =>
    (bif r115.2 then
    (impl_IsValidRelation N a2 a3).bind fun r127 =>
    (bif r127 then
    (impl_IsValidRelation N a4 a5).bind fun r131 =>
    (bif r131 then
    (bif (a2 == r115.1.1) then
    some ((r115.1.1, r115.1.2), (a4 == r115.1.1))
    else
    some ((r115.1.1, r115.1.2), false))
    else
    some ((r115.1.1, r115.1.2), false))
    else
    some ((r115.1.1, r115.1.2), false))
    else
    some ((r115.1.1, r115.1.2), false))
def impl_place_L1 (N : Nat) : Nat → (List (List Int)) → (List Int) → Int → Int → Option (Int × Int)
  | 0, _, _, _, _ => none
  | k + 1, x149, x152, x153, x154 =>
    (bif decide (x153 < x154) then
    (ad x153 x154).bind fun x160 =>
    (qt x160 2).bind fun x161 =>
    (ix x149 x161).bind fun x163 =>
    (impl_CompareRows N x163 x152).bind fun r170 =>
    (bif decide (r170 < 0) then
    (ad x161 1).bind fun x174 =>
    impl_place_L1 N k x149 x152 x174 x154
    else
    impl_place_L1 N k x149 x152 x153 x161)
    else
    some (x153, x154))
def impl_place (N : Nat) (a0 : List (List Int)) (a1 : List Int) : Option (Int × Bool) :=
    (impl_place_L1 N N a0 a1 0 (a0.length : Int)).bind fun s189 =>
    lpB s189 fun (x175, x176) =>
    (bif decide (x175 < (a0.length : Int)) then
    (ix a0 x175).bind fun x179 =>
    (impl_CompareRows N x179 a1).bind fun r186 =>
    some (x175, (r186 == 0))
    else
    some (x175, false))
def impl_ContainsRow (N : Nat) (a0 : Int) (a1 : List (List Int)) (a2 : List Int) : Option Bool :=
    (impl_place N a1 a2).bind fun r107 =>
    (impl_IsValidRelation N a0 a1).bind fun r111 =>
    (bif r111 then
    some r107.2
    else
    some false)
def impl_IsValidDelta_L1 (N : Nat) : Nat → ByteArray → Int → (List (List Int)) → Int → (List (List Int)) → Int → (List (List Int)) → (List (List Int)) → Int → Int → Option (Sum Bool Int)
  | 0, _, _, _, _, _, _, _, _, _, _ => none
  | k + 1, x168, x169, x172, x173, x176, x177, x180, x183, x184, x185 =>
    (bif decide (x185 < x184) then
    (ix x183 x185).bind fun x192 =>
    (impl_ContainsRow N x177 x180 x192).bind fun r200 =>
    (bif r200 then
    some (.inl false)
    else
    (ad x185 1).bind fun x205 =>
    impl_IsValidDelta_L1 N k x168 x169 x172 x173 x176 x177 x180 x183 x184 x205)
    else
    some (.inr x185))
def impl_IsValidDelta_L2 (N : Nat) : Nat → Int → (List (List Int)) → (List (List Int)) → Int → Int → Option (Sum Bool Int)
  | 0, _, _, _, _, _ => none
  | k + 1, x251, x254, x257, x258, x259 =>
    (bif decide (x259 < x258) then
    (ix x257 x259).bind fun x266 =>
    (impl_ContainsRow N x251 x254 x266).bind fun r274 =>
    (bif r274 then
    (ad x259 1).bind fun x278 =>
    impl_IsValidDelta_L2 N k x251 x254 x257 x258 x278
    else
    some (.inl false))
    else
    some (.inr x259))
def impl_IsValidDelta (N : Nat) (a0 : List (ByteArray × (Int × List (List Int)))) (a1 : ByteArray) (a2 : Int) (a3 : List (List Int)) (a4 : Int) (a5 : List (List Int)) : Option Bool :=
    (impl_applicable N a0 a1 a2 a3 a4 a5).bind fun r111 =>
    (bif r111.2 then
    (impl_IsValidDelta_L1 N N a1 a2 a3 a4 a5 r111.1.1 r111.1.2 a3 (a3.length : Int) 0).bind fun s283 =>
    lpS s283 (fun q => some q) fun x206 =>
    (impl_IsValidDelta_L2 N N r111.1.1 r111.1.2 a5 (a5.length : Int) 0).bind fun s282 =>
    lpS s282 (fun q => some q) fun x280 =>
    some true
    else
    some false)
def laws_eqRelation (N : Nat) (a0 : Int) (a1 : List (List Int)) (a2 : Int) (a3 : List (List Int)) : Option Bool :=
    (bif (a0 != a2) then
    some false
    else
    (laws_eqIntSS N a1 a3).bind fun r116 =>
    (bif r116 then
    some true
    else
    some false))
def laws_eqTable (N : Nat) (a0 : ByteArray) (a1 : Int) (a2 : List (List Int)) (a3 : ByteArray) (a4 : Int) (a5 : List (List Int)) : Option Bool :=
    (bif (eqS a0 a3) then
    (laws_eqRelation N a1 a2 a4 a5).bind fun r115 =>
    (bif r115 then
    some true
    else
    some false)
    else
    some false)
end Go.Proofs.Ytnanddmadghnnaa
