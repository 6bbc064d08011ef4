/- What functions of the program come to, written out by a program: none where a bound is passed. -/
import Derived.Test.YtnanddmadghnnaaW4D
namespace Go.Proofs.Ytnanddmadghnnaa
open Go.RowKit
def laws_eqTableS_L1 (N : Nat) : Nat → (List (ByteArray × (Int × List (List Int)))) → (List (ByteArray × (Int × List (List Int)))) → Int → Option (Sum Bool Int)
  | 0, _, _, _ => none
  | k + 1, x184, x187, x188 =>
    (bif decide (x188 < (x184.length : Int)) then
    (ix x184 x188).bind fun x195 =>
    (ix x187 x188).bind fun x207 =>
    (laws_eqTable N x195.1 x195.2.1 x195.2.2 x207.1 x207.2.1 x207.2.2).bind fun r219 =>
    (bif r219 then
    (ad x188 1).bind fun x223 =>
    laws_eqTableS_L1 N k x184 x187 x223
    else
    some (.inl false))
    else
    some (.inr x188))
def laws_eqTableS (N : Nat) (a0 : List (ByteArray × (Int × List (List Int)))) (a1 : List (ByteArray × (Int × List (List Int)))) : Option Bool :=
    (bif ((a0.length : Int) != (a1.length : Int)) then
    some false
    else
    (laws_eqTableS_L1 N N a0 a1 0).bind fun s227 =>
    lpS s227 (fun q => some q) fun x225 =>
    some true)
def laws_eqDatabase (N : Nat) (a0 : List (ByteArray × (Int × List (List Int)))) (a1 : List (ByteArray × (Int × List (List Int)))) : Option Bool :=
    (laws_eqTableS N a0 a1).bind fun r112 =>
    (bif r112 then
    some true
    else
    some false)
def laws_eqDelta (N : Nat) (a0 : ByteArray) (a1 : Int) (a2 : List (List Int)) (a3 : Int) (a4 : List (List Int)) (a5 : ByteArray) (a6 : Int) (a7 : List (List Int)) (a8 : Int) (a9 : List (List Int)) : Option Bool :=
    (bif (eqS a0 a5) then
    (laws_eqRelation N a1 a2 a6 a7).bind fun r115 =>
    (bif r115 then
    (laws_eqRelation N a3 a4 a8 a9).bind fun r121 =>
    (bif r121 then
    some true
    else
    some false)
    else
    some false)
    else
    some false)
def laws_FnExactIsValidDelta (N : Nat) (a0 : List (ByteArray × (Int × List (List Int)))) (a1 : ByteArray) (a2 : Int) (a3 : List (List Int)) (a4 : Int) (a5 : List (List Int)) : Option Bool :=
    (laws_szDatabase N a0 1048576).bind fun r112 =>
    (bif decide (r112 < 0) then
    some true
    else
    (laws_szDelta N a1 a2 a3 a4 a5 r112).bind fun r120 =>
    (bif decide (r120 < 0) then
    some true
    else
    (laws_toDatabase N a0).bind fun r130 =>
    (laws_toDelta N a1 a2 a3 a4 a5).bind fun r136 =>
    (spec_IsValidDelta N r130 r136.1 r136.2.1.1 r136.2.1.2 r136.2.2.1 r136.2.2.2).bind fun r146 =>
    (laws_toDatabase N a0).bind fun r150 =>
    (laws_toDelta N a1 a2 a3 a4 a5).bind fun r161 =>
    (impl_IsValidDelta N r150 r161.1 r161.2.1.1 r161.2.1.2 r161.2.2.1 r161.2.2.2).bind fun r175 =>
    (bif (r175 != r146) then
    some false
    else
    (laws_toDatabase N a0).bind fun r186 =>
    (laws_eqDatabase N r150 r186).bind fun r198 =>
    (bif r198 then
    (laws_toDelta N a1 a2 a3 a4 a5).bind fun r206 =>
    (laws_eqDelta N r161.1 r161.2.1.1 r161.2.1.2 r161.2.2.1 r161.2.2.2 r206.1 r206.2.1.1 r206.2.1.2 r206.2.2.1 r206.2.2.2).bind fun r223 =>
    (bif r223 then
    some true
    else
    some false)
    else
    some false))))
def spec_Difference_L1 (N : Nat) : Nat → Int → (List (List Int)) → Int → (List (List Int)) → Int → (List (List Int)) → Int → (List (List Int)) → Int → Option ((List (List Int)) × Int)
  | 0, _, _, _, _, _, _, _, _, _ => none
  | k + 1, x314, x317, x318, x321, x322, x325, x326, x329, x331 =>
    (bif decide (x331 < (x317.length : Int)) then
    (ix x317 x331).bind fun x338 =>
    (spec_l5Place N x318 x321 x338).bind fun r345 =>
    (bif r345.2 then
    (ad x331 1).bind fun x350 =>
    spec_Difference_L1 N k x314 x317 x318 x321 x322 x325 x326 x329 x350
    else
    (ix x317 x331).bind fun x353 =>
    (apd 8 [] x353).bind fun x368 =>
    (apd 24 x329 [x368]).bind fun x382 =>
    (ad x331 1).bind fun x387 =>
    spec_Difference_L1 N k x314 x317 x318 x321 x322 x325 x326 x382 x387)
    else
    some (x329, x331))
def spec_Difference (N : Nat) (a0 : Int) (a1 : List (List Int)) (a2 : Int) (a3 : List (List Int)) : Option ((Int × List (List Int)) × Bool) :=
    (spec_IsValidRelation N a0 a1).bind fun r116 =>
    (bif r116 then
    (spec_IsValidRelation N a2 a3).bind fun r120 =>
    (bif r120 then
    (bif (a0 != a2) then
    some ((0, []), false)
    else
    (spec_Difference_L1 N N a0 a1 a2 a3 0 [] a0 [] 0).bind fun s395 =>
    lpB s395 fun (x390, x392) =>
    some ((a0, x390), true))
    else
    some ((0, []), false))
    else
    some ((0, []), false))
def spec_DiffDatabases (N : Nat) (a0 : List (ByteArray × (Int × List (List Int)))) (a1 : List (ByteArray × (Int × List (List Int)))) (a2 : ByteArray) : Option ((ByteArray × (Int × List (List Int)) × (Int × List (List Int))) × Bool) :=
    (spec_LookupRelation N a0 a2).bind fun r115 =>
    (spec_LookupRelation N a1 a2).bind fun r126 =>
    (bif r115.2 then
    (bif r126.2 then
    (bif (r115.1.1 != r126.1.1) then
    some ((ByteArray.empty, (0, []), (0, [])), false)
    else
    (spec_Difference N r126.1.1 r126.1.2 r115.1.1 r115.1.2).bind fun r144 =>
    (spec_Difference N r115.1.1 r115.1.2 r126.1.1 r126.1.2).bind fun r155 =>
    some ((a2, (r144.1.1, r144.1.2), (r155.1.1, r155.1.2)), true))
    else
    some ((ByteArray.empty, (0, []), (0, [])), false))
    else
    some ((ByteArray.empty, (0, []), (0, [])), false))
def impl_Difference_L1 (N : Nat) : Nat → Int → (List (List Int)) → Int → (List (List Int)) → Int → (List (List Int)) → (List (List Int)) → Int → Int → Option ((List (List Int)) × Int)
  | 0, _, _, _, _, _, _, _, _, _ => none
  | k + 1, x266, x269, x270, x273, x274, x277, x281, x282, x283 =>
    (bif decide (x283 < x282) then
    (ix x281 x283).bind fun x290 =>
    (impl_ContainsRow N x266 x269 x290).bind fun r298 =>
    (bif r298 then
    (ad x283 1).bind fun x302 =>
    impl_Difference_L1 N k x266 x269 x270 x273 x274 x277 x281 x282 x302
    else
    (impl_copyInts N x290).bind fun r305 =>
    (apd 24 x277 [r305]).bind fun x318 =>
    (ad x283 1).bind fun x323 =>
    impl_Difference_L1 N k x266 x269 x270 x273 x274 x318 x281 x282 x323)
    else
    some (x277, x283))
def impl_Difference (N : Nat) (a0 : Int) (a1 : List (List Int)) (a2 : Int) (a3 : List (List Int)) : Option ((Int × List (List Int)) × Bool) :=
    (impl_IsValidRelation N a0 a1).bind fun r116 =>
    (bif r116 then
    (impl_IsValidRelation N a2 a3).bind fun r120 =>
    (bif r120 then
    (bif (a0 != a2) then
    some ((0, []), false)
    else
    (impl_Difference_L1 N N a2 a3 0 [] a0 [] a1 (a1.length : Int) 0).bind fun s331 =>
    lpB s331 fun (x326, x328) =>
    some ((a0, x326), true))
    else
    some ((0, []), false))
    else
    some ((0, []), false))
def impl_DiffDatabases (N : Nat) (a0 : List (ByteArray × (Int × List (List Int)))) (a1 : List (ByteArray × (Int × List (List Int)))) (a2 : ByteArray) : Option ((ByteArray × (Int × List (List Int)) × (Int × List (List Int))) × Bool) :=
    (impl_LookupRelation N a0 a2).bind fun r115 =>
    (impl_LookupRelation N a1 a2).bind fun r126 =>
    (bif r115.2 then
    (bif r126.2 then
    (bif (r115.1.1 != r126.1.1) then
    some ((ByteArray.empty, (0, []), (0, [])), false)
    else
    (impl_Difference N r126.1.1 r126.1.2 r115.1.1 r115.1.2).bind fun r144 =>
    (impl_Difference N r115.1.1 r115.1.2 r126.1.1 r126.1.2).bind fun r155 =>
    some ((a2, (r144.1.1, r144.1.2), (r155.1.1, r155.1.2)), true))
    else
    some ((ByteArray.empty, (0, []), (0, [])), false))
    else
    some ((ByteArray.empty, (0, []), (0, [])), false))
def laws_markRelation (N : Nat) (a0 : Int) (a1 : List (List Int)) (a2 : Int) : Option (Int × (List (List Int))) :=
    (laws_markIntSS N a1 a2).bind fun r107 =>
    some (r107.1, r107.2)
def laws_markDelta (N : Nat) (a0 : ByteArray) (a1 : Int) (a2 : List (List Int)) (a3 : Int) (a4 : List (List Int)) (a5 : Int) : Option (Int × (List (List Int)) × (List (List Int))) :=
    (laws_markRelation N a1 a2 a5).bind fun r107 =>
    (laws_markRelation N a3 a4 r107.1).bind fun r110 =>
    some (r110.1, r107.2, r110.2)
def laws_heldIntSS_L1 (N : Nat) : Nat → (List (List Int)) → Int → Int → Option (Sum Int (Int × Int))
  | 0, _, _, _ => none
  | k + 1, x149, x150, x151 =>
    (bif decide (x151 < (x149.length : Int)) then
    (ix x149 x151).bind fun x158 =>
    (laws_heldIntS N x158 x150).bind fun r165 =>
    (bif decide (r165 < 0) then
    some (.inl (-1))
    else
    (ad x151 1).bind fun x171 =>
    laws_heldIntSS_L1 N k x149 r165 x171)
    else
    some (.inr (x150, x151)))
def laws_heldIntSS (N : Nat) (a0 : List (List Int)) (a1 : Int) : Option Int :=
    (laws_heldIntSS_L1 N N a0 a1 0).bind fun s175 =>
    lpS s175 (fun q => some q) fun (x172, x173) =>
    some x172
def laws_heldRelation (N : Nat) (a0 : Int) (a1 : List (List Int)) (a2 : Int) : Option Int :=
    (laws_heldIntSS N a1 a2).bind fun r107 =>
    (bif decide (r107 < 0) then
    some (-1)
    else
    some r107)
end Go.Proofs.Ytnanddmadghnnaa
