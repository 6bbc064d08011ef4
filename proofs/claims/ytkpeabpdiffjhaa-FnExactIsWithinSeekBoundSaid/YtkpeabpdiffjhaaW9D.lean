/- What functions of the program come to, written out by a program: none where a bound is passed. -/
import Derived.Test.YtkpeabpdiffjhaaW8D
namespace Go.Proofs.Ytkpeabpdiffjhaa
open Go.RowKit
def impl_BuildTries_L1 (N : Nat) : Nat → (List Int) → (List (ByteArray × (Int × List (List Int)))) → (List (Int × List (List Int))) → (List (ByteArray × List Int)) → Int → Int → Option ((List (Int × List (List Int))) × Int)
  | 0, _, _, _, _, _, _ => none
  | k + 1, x299, x302, x305, x309, x310, x311 =>
    (bif decide (x311 < x310) then
    (ix x309 x311).bind fun x318 =>
    (impl_AtomBindings N x302 x318.1 x318.2).bind fun r336 =>
    (impl_ColumnsForOrder N x318.1 x318.2 x299).bind fun r341 =>
    (impl_BuildTrie N r336.1 r336.2 r341).bind fun r346 =>
    (apd 32 x305 [(r346.1.1, r346.1.2)]).bind fun x362 =>
    (ad x311 1).bind fun x365 =>
    impl_BuildTries_L1 N k x299 x302 x362 x309 x310 x365
    else
    some (x305, x311))
def impl_BuildTries (N : Nat) (a0 : List (ByteArray × (Int × List (List Int)))) (a1 : Int) (a2 : List (ByteArray × List Int)) (a3 : List Int) (a4 : List Int) : Option ((List (Int × List (List Int))) × Bool) :=
    (impl_IsQueryFor N a0 a1 a2 a3).bind fun r112 =>
    (bif r112 then
    (impl_IsValidOrder N a1 a2 a3 a4).bind fun r116 =>
    (bif r116 then
    (impl_BuildTries_L1 N N a4 a0 [] a2 (a2.length : Int) 0).bind fun s372 =>
    lpB s372 fun (x368, x370) =>
    some (x368, true)
    else
    some ([], false))
    else
    some ([], false))
def laws_eqIntSS_L1 (N : Nat) : Nat → (List (List Int)) → (List (List Int)) → Int → Option (Sum Bool Int)
  | 0, _, _, _ => none
  | k + 1, x164, x167, x168 =>
    (bif decide (x168 < (x164.length : Int)) then
    (ix x164 x168).bind fun x175 =>
    (ix x167 x168).bind fun x182 =>
    (laws_eqIntS N x175 x182).bind fun r189 =>
    (bif r189 then
    (ad x168 1).bind fun x193 =>
    laws_eqIntSS_L1 N k x164 x167 x193
    else
    some (.inl false))
    else
    some (.inr x168))
def laws_eqIntSS (N : Nat) (a0 : List (List Int)) (a1 : List (List Int)) : Option Bool :=
    (bif ((a0.length : Int) != (a1.length : Int)) then
    some false
    else
    (laws_eqIntSS_L1 N N a0 a1 0).bind fun s197 =>
    lpS s197 (fun q => some q) fun x195 =>
    some true)
def laws_eqTrie (N : Nat) (a0 : Int) (a1 : List (List Int)) (a2 : Int) (a3 : List (List Int)) : Option Bool :=
    (bif (a0 != a2) then
    some false
    else
    (laws_eqIntSS N a1 a3).bind fun r116 =>
    (bif r116 then
    some true
    else
    some false))
def laws_eqTrieS_L1 (N : Nat) : Nat → (List (Int × List (List Int))) → (List (Int × List (List Int))) → Int → Option (Sum Bool Int)
  | 0, _, _, _ => none
  | k + 1, x172, x175, x176 =>
    (bif decide (x176 < (x172.length : Int)) then
    (ix x172 x176).bind fun x183 =>
    (ix x175 x176).bind fun x192 =>
    (laws_eqTrie N x183.1 x183.2 x192.1 x192.2).bind fun r201 =>
    (bif r201 then
    (ad x176 1).bind fun x205 =>
    laws_eqTrieS_L1 N k x172 x175 x205
    else
    some (.inl false))
    else
    some (.inr x176))
def laws_eqTrieS (N : Nat) (a0 : List (Int × List (List Int))) (a1 : List (Int × List (List Int))) : Option Bool :=
    (bif ((a0.length : Int) != (a1.length : Int)) then
    some false
    else
    (laws_eqTrieS_L1 N N a0 a1 0).bind fun s209 =>
    lpS s209 (fun q => some q) fun x207 =>
    some true)
def laws_eqRelation (N : Nat) (a0 : Int) (a1 : List (List Int)) (a2 : Int) (a3 : List (List Int)) : Option Bool :=
    (bif (a0 != a2) then
    some false
    else
    (laws_eqIntSS N a1 a3).bind fun r116 =>
    (bif r116 then
    some true
    else
    some false))
def laws_eqTable (N : Nat) (a0 : ByteArray) (a1 : Int) (a2 : List (List Int)) (a3 : ByteArray) (a4 : Int) (a5 : List (List Int)) : Option Bool :=
    (bif (eqS a0 a3) then
    (laws_eqRelation N a1 a2 a4 a5).bind fun r115 =>
    (bif r115 then
    some true
    else
    some false)
    else
    some false)
def laws_eqTableS_L1 (N : Nat) : Nat → (List (ByteArray × (Int × List (List Int)))) → (List (ByteArray × (Int × List (List Int)))) → Int → Option (Sum Bool Int)
  | 0, _, _, _ => none
  | k + 1, x184, x187, x188 =>
    (bif decide (x188 < (x184.length : Int)) then
    (ix x184 x188).bind fun x195 =>
    (ix x187 x188).bind fun x207 =>
    (laws_eqTable N x195.1 x195.2.1 x195.2.2 x207.1 x207.2.1 x207.2.2).bind fun r219 =>
    (bif r219 then
    (ad x188 1).bind fun x223 =>
    laws_eqTableS_L1 N k x184 x187 x223
    else
    some (.inl false))
    else
    some (.inr x188))
def laws_eqTableS (N : Nat) (a0 : List (ByteArray × (Int × List (List Int)))) (a1 : List (ByteArray × (Int × List (List Int)))) : Option Bool :=
    (bif ((a0.length : Int) != (a1.length : Int)) then
    some false
    else
    (laws_eqTableS_L1 N N a0 a1 0).bind fun s227 =>
    lpS s227 (fun q => some q) fun x225 =>
    some true)
def laws_eqDatabase (N : Nat) (a0 : List (ByteArray × (Int × List (List Int)))) (a1 : List (ByteArray × (Int × List (List Int)))) : Option Bool :=
    (laws_eqTableS N a0 a1).bind fun r112 =>
    (bif r112 then
    some true
    else
    some false)
def laws_markIntS_L1 (N : Nat) : Nat → (List Int) → Int → Int → Option ((List Int) × Int × Int)
  | 0, _, _, _ => none
  | k + 1, x138, x139, x140 =>
    (bif decide (x140 < (x138.length : Int)) then
    (ix x138 x140).bind fun x147 =>
    (sto x138 x140 x139).bind fun x152 =>
    (ad x139 1).bind fun x153 =>
    (ad x140 1).bind fun x154 =>
    laws_markIntS_L1 N k x152 x153 x154
    else
    some (x138, x139, x140))
def laws_markIntS (N : Nat) (a0 : List Int) (a1 : Int) : Option (Int × (List Int)) :=
    (laws_markIntS_L1 N N a0 a1 0).bind fun s160 =>
    lpB s160 fun (x156, x157, x158) =>
    some (x157, x156)
def laws_markIntSS_L1 (N : Nat) : Nat → (List (List Int)) → Int → Int → Option ((List (List Int)) × Int × Int)
  | 0, _, _, _ => none
  | k + 1, x146, x147, x148 =>
    (bif decide (x148 < (x146.length : Int)) then
    (ix x146 x148).bind fun x154 =>
    (laws_markIntS N x154 x147).bind fun r163 =>
    (sto x146 x148 r163.2).bind fun x165 =>
    (ad x148 1).bind fun x166 =>
    laws_markIntSS_L1 N k x165 r163.1 x166
    else
    some (x146, x147, x148))
def laws_markIntSS (N : Nat) (a0 : List (List Int)) (a1 : Int) : Option (Int × (List (List Int))) :=
    (laws_markIntSS_L1 N N a0 a1 0).bind fun s172 =>
    lpB s172 fun (x168, x169, x170) =>
    some (x169, x168)
def laws_markText_L1 (N : Nat) : Nat → Int → ByteArray → Option (Int × ByteArray)
  | 0, _, _ => none
  | k + 1, x141, x142 =>
    (bif decide (0 < x141) then
    (rm x141 10).bind fun x148 =>
    (ad 48 x148).bind fun x149 =>
    (scat (ofB ([(IntKind.u8.wrap x149)])) x142).bind fun x156 =>
    (qt x141 10).bind fun x157 =>
    laws_markText_L1 N k x157 x156
    else
    some (x141, x142))
def laws_markText (N : Nat) (a0 : Int) : Option ByteArray :=
    (bif decide (a0 ≤ 0) then
    some (⟨#[109, 48]⟩ : ByteArray)
    else
    (laws_markText_L1 N N a0 ByteArray.empty).bind fun s162 =>
    lpB s162 fun (x158, x159) =>
    (scat (⟨#[109]⟩ : ByteArray) x159).bind fun x161 =>
    some x161)
def laws_markTableS_L1 (N : Nat) : Nat → (List (ByteArray × (Int × List (List Int)))) → Int → Int → Option ((List (ByteArray × (Int × List (List Int)))) × Int × Int)
  | 0, _, _, _ => none
  | k + 1, x240, x241, x242 =>
    (bif decide (x242 < (x240.length : Int)) then
    (laws_markText N x241).bind fun r249 =>
    (ix x240 x242).bind fun x253 =>
    (sto x240 x242 (r249, (x253.2.1, x253.2.2))).bind fun x267 =>
    (ad x241 1).bind fun x269 =>
    (ix x267 x242).bind fun x271 =>
    (sto x267 x242 (x271.1, (x269, x271.2.2))).bind fun x285 =>
    (ad x269 1).bind fun x287 =>
    (ix x285 x242).bind fun x288 =>
    (laws_markIntSS N x288.2.2 x287).bind fun r304 =>
    (sto x285 x242 (x288.1, x288.2.1, r304.2)).bind fun x306 =>
    (ad x242 1).bind fun x307 =>
    laws_markTableS_L1 N k x306 r304.1 x307
    else
    some (x240, x241, x242))
def laws_markTableS (N : Nat) (a0 : List (ByteArray × (Int × List (List Int)))) (a1 : Int) : Option (Int × (List (ByteArray × (Int × List (List Int))))) :=
    (laws_markTableS_L1 N N a0 a1 0).bind fun s313 =>
    lpB s313 fun (x309, x310, x311) =>
    some (x310, x309)
end Go.Proofs.Ytkpeabpdiffjhaa
