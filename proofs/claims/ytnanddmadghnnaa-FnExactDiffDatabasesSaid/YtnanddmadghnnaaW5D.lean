/- What functions of the program come to, written out by a program: none where a bound is passed. -/
import Derived.Test.YtnanddmadghnnaaW4D
namespace Go.Proofs.Ytnanddmadghnnaa
open Go.RowKit
def laws_eqTableS_L1 (N : Nat) : Nat → (List (ByteArray × (Int × List (List Int)))) → (List (ByteArray × (Int × List (List Int)))) → Int → Option (Sum Bool Int)
  | 0, _, _, _ => none
  | k + 1, x184, x187, x188 =>
    (bif decide (x188 < (x184.length : Int)) then
    (ix x184 x188).bind fun x195 =>
    (ix x187 x188).bind fun x207 =>
    (laws_eqTable N x195.1 x195.2.1 x195.2.2 x207.1 x207.2.1 x207.2.2).bind fun r219 =>
    (bif r219 then
    (ad x188 1).bind fun x223 =>
    laws_eqTableS_L1 N k x184 x187 x223
    else
    some (.inl false))
    else
    some (.inr x188))
def laws_eqTableS (N : Nat) (a0 : List (ByteArray × (Int × List (List Int)))) (a1 : List (ByteArray × (Int × List (List Int)))) : Option Bool :=
    (bif ((a0.length : Int) != (a1.length : Int)) then
    some false
    else
    (laws_eqTableS_L1 N N a0 a1 0).bind fun s227 =>
    lpS s227 (fun q => some q) fun x225 =>
    some true)
def laws_eqDatabase (N : Nat) (a0 : List (ByteArray × (Int × List (List Int)))) (a1 : List (ByteArray × (Int × List (List Int)))) : Option Bool :=
    (laws_eqTableS N a0 a1).bind fun r112 =>
    (bif r112 then
    some true
    else
    some false)
def laws_eqDelta (N : Nat) (a0 : ByteArray) (a1 : Int) (a2 : List (List Int)) (a3 : Int) (a4 : List (List Int)) (a5 : ByteArray) (a6 : Int) (a7 : List (List Int)) (a8 : Int) (a9 : List (List Int)) : Option Bool :=
    (bif (eqS a0 a5) then
    (laws_eqRelation N a1 a2 a6 a7).bind fun r115 =>
    (bif r115 then
    (laws_eqRelation N a3 a4 a8 a9).bind fun r121 =>
    (bif r121 then
    some true
    else
    some false)
    else
    some false)
    else
    some false)
def laws_FnExactIsValidDelta (N : Nat) (a0 : List (ByteArray × (Int × List (List Int)))) (a1 : ByteArray) (a2 : Int) (a3 : List (List Int)) (a4 : Int) (a5 : List (List Int)) : Option Bool :=
    (laws_szDatabase N a0 1048576).bind fun r112 =>
    (bif decide (r112 < 0) then
    some true
    else
    (laws_szDelta N a1 a2 a3 a4 a5 r112).bind fun r120 =>
    (bif decide (r120 < 0) then
    some true
    else
    (laws_toDatabase N a0).bind fun r130 =>
    (laws_toDelta N a1 a2 a3 a4 a5).bind fun r135 =>
    (spec_IsValidDelta N r130 r135.1 r135.2.1.1 r135.2.1.2 r135.2.2.1 r135.2.2.2).bind fun r143 =>
    (laws_toDatabase N a0).bind fun r147 =>
    (laws_toDelta N a1 a2 a3 a4 a5).bind fun r158 =>
    (impl_IsValidDelta N r147 r158.1 r158.2.1.1 r158.2.1.2 r158.2.2.1 r158.2.2.2).bind fun r172 =>
    (bif (r172 != r143) then
    some false
    else
    (laws_toDatabase N a0).bind fun r183 =>
    (laws_eqDatabase N r147 r183).bind fun r188 =>
    (bif r188 then
    (laws_toDelta N a1 a2 a3 a4 a5).bind fun r196 =>
    (laws_eqDelta N r158.1 r158.2.1.1 r158.2.1.2 r158.2.2.1 r158.2.2.2 r196.1 r196.2.1.1 r196.2.1.2 r196.2.2.1 r196.2.2.2).bind fun r204 =>
    (bif r204 then
    some true
    else
    some false)
    else
    some false))))
def spec_Difference_L1 (N : Nat) : Nat → Int → (List (List Int)) → Int → (List (List Int)) → Int → (List (List Int)) → Int → (List (List Int)) → Int → Option ((List (List Int)) × Int)
  | 0, _, _, _, _, _, _, _, _, _ => none
  | k + 1, x303, x306, x307, x310, x311, x314, x315, x318, x320 =>
    (bif decide (x320 < (x306.length : Int)) then
    (ix x306 x320).bind fun x327 =>
    (spec_l5Place N x307 x310 x327).bind fun r334 =>
    (bif r334.2 then
    (ad x320 1).bind fun x339 =>
    spec_Difference_L1 N k x303 x306 x307 x310 x311 x314 x315 x318 x339
    else
    (ix x306 x320).bind fun x342 =>
    (apd 8 [] x342).bind fun x355 =>
    (apd 24 x318 [x355]).bind fun x368 =>
    (ad x320 1).bind fun x372 =>
    spec_Difference_L1 N k x303 x306 x307 x310 x311 x314 x315 x368 x372)
    else
    some (x318, x320))
def spec_Difference (N : Nat) (a0 : Int) (a1 : List (List Int)) (a2 : Int) (a3 : List (List Int)) : Option ((Int × List (List Int)) × Bool) :=
    (spec_IsValidRelation N a0 a1).bind fun r116 =>
    (bif r116 then
    (spec_IsValidRelation N a2 a3).bind fun r120 =>
    (bif r120 then
    (bif (a0 != a2) then
    some ((0, []), false)
    else
    (spec_Difference_L1 N N a0 a1 a2 a3 0 [] a0 [] 0).bind fun s380 =>
    lpB s380 fun (x375, x377) =>
    some ((a0, x375), true))
    else
    some ((0, []), false))
    else
    some ((0, []), false))
def spec_DiffDatabases (N : Nat) (a0 : List (ByteArray × (Int × List (List Int)))) (a1 : List (ByteArray × (Int × List (List Int)))) (a2 : ByteArray) : Option ((ByteArray × (Int × List (List Int)) × (Int × List (List Int))) × Bool) :=
    (spec_LookupRelation N a0 a2).bind fun r115 =>
    (spec_LookupRelation N a1 a2).bind fun r126 =>
    (bif r115.2 then
    (bif r126.2 then
    (bif (r115.1.1 != r126.1.1) then
    some ((ByteArray.empty, (0, []), (0, [])), false)
    else
    (spec_Difference N r126.1.1 r126.1.2 r115.1.1 r115.1.2).bind fun r144 =>
    (spec_Difference N r115.1.1 r115.1.2 r126.1.1 r126.1.2).bind fun r155 =>
    some ((a2, (r144.1.1, r144.1.2), (r155.1.1, r155.1.2)), true))
    else
    some ((ByteArray.empty, (0, []), (0, [])), false))
    else
    some ((ByteArray.empty, (0, []), (0, [])), false))
def impl_Difference_L1 (N : Nat) : Nat → Int → (List (List Int)) → Int → (List (List Int)) → Int → (List (List Int)) → (List (List Int)) → Int → Int → Option ((List (List Int)) × Int)
  | 0, _, _, _, _, _, _, _, _, _ => none
  | k + 1, x258, x261, x262, x265, x266, x269, x273, x274, x275 =>
    (bif decide (x275 < x274) then
    (ix x273 x275).bind fun x282 =>
    (impl_ContainsRow N x258 x261 x282).bind fun r290 =>
    (bif r290 then
    (ad x275 1).bind fun x294 =>
    impl_Difference_L1 N k x258 x261 x262 x265 x266 x269 x273 x274 x294
    else
    (impl_copyInts N x282).bind fun r297 =>
    (apd 24 x269 [r297]).bind fun x308 =>
    (ad x275 1).bind fun x312 =>
    impl_Difference_L1 N k x258 x261 x262 x265 x266 x308 x273 x274 x312)
    else
    some (x269, x275))
def impl_Difference (N : Nat) (a0 : Int) (a1 : List (List Int)) (a2 : Int) (a3 : List (List Int)) : Option ((Int × List (List Int)) × Bool) :=
    (impl_IsValidRelation N a0 a1).bind fun r116 =>
    (bif r116 then
    (impl_IsValidRelation N a2 a3).bind fun r120 =>
    (bif r120 then
    (bif (a0 != a2) then
    some ((0, []), false)
    else
    (impl_Difference_L1 N N a2 a3 0 [] a0 [] a1 (a1.length : Int) 0).bind fun s320 =>
    lpB s320 fun (x315, x317) =>
    some ((a0, x315), true))
    else
    some ((0, []), false))
    else
    some ((0, []), false))
def impl_DiffDatabases (N : Nat) (a0 : List (ByteArray × (Int × List (List Int)))) (a1 : List (ByteArray × (Int × List (List Int)))) (a2 : ByteArray) : Option ((ByteArray × (Int × List (List Int)) × (Int × List (List Int))) × Bool) :=
    (impl_LookupRelation N a0 a2).bind fun r115 =>
    (impl_LookupRelation N a1 a2).bind fun r126 =>
    (bif r115.2 then
    (bif r126.2 then
    (bif (r115.1.1 != r126.1.1) then
    some ((ByteArray.empty, (0, []), (0, [])), false)
    else
    (impl_Difference N r126.1.1 r126.1.2 r115.1.1 r115.1.2).bind fun r144 =>
    (impl_Difference N r115.1.1 r115.1.2 r126.1.1 r126.1.2).bind fun r155 =>
    some ((a2, (r144.1.1, r144.1.2), (r155.1.1, r155.1.2)), true))
    else
    some ((ByteArray.empty, (0, []), (0, [])), false))
    else
    some ((ByteArray.empty, (0, []), (0, [])), false))
def laws_markText_L1 (N : Nat) : Nat → Int → ByteArray → Option (Int × ByteArray)
  | 0, _, _ => none
  | k + 1, x141, x142 =>
    (bif decide (0 < x141) then
    (rm x141 10).bind fun x148 =>
    (ad 48 x148).bind fun x149 =>
    (scat (ofB ([(IntKind.u8.wrap x149)])) x142).bind fun x156 =>
    (qt x141 10).bind fun x157 =>
    laws_markText_L1 N k x157 x156
    else
    some (x141, x142))
def laws_markText (N : Nat) (a0 : Int) : Option ByteArray :=
    (bif decide (a0 ≤ 0) then
    some (⟨#[109, 48]⟩ : ByteArray)
    else
    (laws_markText_L1 N N a0 ByteArray.empty).bind fun s162 =>
    lpB s162 fun (x158, x159) =>
    (scat (⟨#[109]⟩ : ByteArray) x159).bind fun x161 =>
    some x161)
def laws_markTableS_L1 (N : Nat) : Nat → (List (ByteArray × (Int × List (List Int)))) → Int → Int → Option ((List (ByteArray × (Int × List (List Int)))) × Int × Int)
  | 0, _, _, _ => none
  | k + 1, x240, x241, x242 =>
    (bif decide (x242 < (x240.length : Int)) then
    (laws_markText N x241).bind fun r249 =>
    (ix x240 x242).bind fun x253 =>
    (sto x240 x242 (r249, (x253.2.1, x253.2.2))).bind fun x267 =>
    (ad x241 1).bind fun x269 =>
    (ix x267 x242).bind fun x271 =>
    (sto x267 x242 (x271.1, (x269, x271.2.2))).bind fun x285 =>
    (ad x269 1).bind fun x287 =>
    (ix x285 x242).bind fun x288 =>
    (laws_markIntSS N x288.2.2 x287).bind fun r304 =>
    (sto x285 x242 (x288.1, x288.2.1, r304.2)).bind fun x306 =>
    (ad x242 1).bind fun x307 =>
    laws_markTableS_L1 N k x306 r304.1 x307
    else
    some (x240, x241, x242))
def laws_markTableS (N : Nat) (a0 : List (ByteArray × (Int × List (List Int)))) (a1 : Int) : Option (Int × (List (ByteArray × (Int × List (List Int))))) :=
    (laws_markTableS_L1 N N a0 a1 0).bind fun s313 =>
    lpB s313 fun (x309, x310, x311) =>
    some (x310, x309)
def laws_markDatabase (N : Nat) (a0 : List (ByteArray × (Int × List (List Int)))) (a1 : Int) : Option (Int × (List (ByteArray × (Int × List (List Int))))) :=
    (laws_markTableS N a0 a1).bind fun r107 =>
    some (r107.1, r107.2)
def laws_markRelation (N : Nat) (a0 : Int) (a1 : List (List Int)) (a2 : Int) : Option (Int × (List (List Int))) :=
    (laws_markIntSS N a1 a2).bind fun r107 =>
    some (r107.1, r107.2)
end Go.Proofs.Ytnanddmadghnnaa
