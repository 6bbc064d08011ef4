/- What functions of the program come to, written out by a program: none where a bound is passed. -/
import Derived.Test.YtkpeabpdiffjhaaW9D
namespace Go.Proofs.Ytkpeabpdiffjhaa
open Go.RowKit
def laws_markDatabase (N : Nat) (a0 : List (ByteArray × (Int × List (List Int)))) (a1 : Int) : Option (Int × (List (ByteArray × (Int × List (List Int))))) :=
    (laws_markTableS N a0 a1).bind fun r107 =>
    some (r107.1, r107.2)
def laws_markAtomS_L1 (N : Nat) : Nat → (List (ByteArray × List Int)) → Int → Int → Option ((List (ByteArray × List Int)) × Int × Int)
  | 0, _, _, _ => none
  | k + 1, x194, x195, x196 =>
    (bif decide (x196 < (x194.length : Int)) then
    (laws_markText N x195).bind fun r203 =>
    (ix x194 x196).bind fun x207 =>
    (sto x194 x196 (r203, x207.2)).bind fun x219 =>
    (ad x195 1).bind fun x221 =>
    (ix x219 x196).bind fun x222 =>
    (laws_markIntS N x222.2 x221).bind fun r235 =>
    (sto x219 x196 (x222.1, r235.2)).bind fun x237 =>
    (ad x196 1).bind fun x238 =>
    laws_markAtomS_L1 N k x237 r235.1 x238
    else
    some (x194, x195, x196))
def laws_markAtomS (N : Nat) (a0 : List (ByteArray × List Int)) (a1 : Int) : Option (Int × (List (ByteArray × List Int))) :=
    (laws_markAtomS_L1 N N a0 a1 0).bind fun s244 =>
    lpB s244 fun (x240, x241, x242) =>
    some (x241, x240)
def laws_markQuery (N : Nat) (a0 : Int) (a1 : List (ByteArray × List Int)) (a2 : List Int) (a3 : Int) : Option (Int × (List (ByteArray × List Int)) × (List Int)) :=
    (laws_markAtomS N a1 a3).bind fun r107 =>
    (laws_markIntS N a2 r107.1).bind fun r110 =>
    some (r110.1, r107.2, r110.2)
def laws_markTrieS_L1 (N : Nat) : Nat → (List (Int × List (List Int))) → Int → Int → Option ((List (Int × List (List Int))) × Int × Int)
  | 0, _, _, _ => none
  | k + 1, x182, x183, x184 =>
    (bif decide (x184 < (x182.length : Int)) then
    (ix x182 x184).bind fun x191 =>
    (sto x182 x184 (x183, x191.2)).bind fun x202 =>
    (ad x183 1).bind fun x204 =>
    (ix x202 x184).bind fun x205 =>
    (laws_markIntSS N x205.2 x204).bind fun r217 =>
    (sto x202 x184 (x205.1, r217.2)).bind fun x219 =>
    (ad x184 1).bind fun x220 =>
    laws_markTrieS_L1 N k x219 r217.1 x220
    else
    some (x182, x183, x184))
def laws_markTrieS (N : Nat) (a0 : List (Int × List (List Int))) (a1 : Int) : Option (Int × (List (Int × List (List Int)))) :=
    (laws_markTrieS_L1 N N a0 a1 0).bind fun s226 =>
    lpB s226 fun (x222, x223, x224) =>
    some (x223, x222)
def laws_heldIntS_L1 (N : Nat) : Nat → (List Int) → Int → Int → Option (Sum Int (Int × Int))
  | 0, _, _, _ => none
  | k + 1, x143, x144, x145 =>
    (bif decide (x145 < (x143.length : Int)) then
    (ix x143 x145).bind fun x153 =>
    (bif (x153 != x144) then
    some (.inl (-1))
    else
    (ad x144 1).bind fun x161 =>
    (ad x145 1).bind fun x162 =>
    laws_heldIntS_L1 N k x143 x161 x162)
    else
    some (.inr (x144, x145)))
def laws_heldIntS (N : Nat) (a0 : List Int) (a1 : Int) : Option Int :=
    (laws_heldIntS_L1 N N a0 a1 0).bind fun s166 =>
    lpS s166 (fun q => some q) fun (x163, x164) =>
    some x163
def laws_heldIntSS_L1 (N : Nat) : Nat → (List (List Int)) → Int → Int → Option (Sum Int (Int × Int))
  | 0, _, _, _ => none
  | k + 1, x149, x150, x151 =>
    (bif decide (x151 < (x149.length : Int)) then
    (ix x149 x151).bind fun x158 =>
    (laws_heldIntS N x158 x150).bind fun r165 =>
    (bif decide (r165 < 0) then
    some (.inl (-1))
    else
    (ad x151 1).bind fun x171 =>
    laws_heldIntSS_L1 N k x149 r165 x171)
    else
    some (.inr (x150, x151)))
def laws_heldIntSS (N : Nat) (a0 : List (List Int)) (a1 : Int) : Option Int :=
    (laws_heldIntSS_L1 N N a0 a1 0).bind fun s175 =>
    lpS s175 (fun q => some q) fun (x172, x173) =>
    some x172
def laws_heldTrieS_L1 (N : Nat) : Nat → (List (Int × List (List Int))) → Int → Int → Option (Sum Int (Int × Int))
  | 0, _, _, _ => none
  | k + 1, x183, x184, x185 =>
    (bif decide (x185 < (x183.length : Int)) then
    (ix x183 x185).bind fun x193 =>
    (bif (x193.1 != x184) then
    some (.inl (-1))
    else
    (ad x184 1).bind fun x205 =>
    (ix x183 x185).bind fun x207 =>
    (laws_heldIntSS N x207.2 x205).bind fun r216 =>
    (bif decide (r216 < 0) then
    some (.inl (-1))
    else
    (ad x185 1).bind fun x222 =>
    laws_heldTrieS_L1 N k x183 r216 x222))
    else
    some (.inr (x184, x185)))
def laws_heldTrieS (N : Nat) (a0 : List (Int × List (List Int))) (a1 : Int) : Option Int :=
    (laws_heldTrieS_L1 N N a0 a1 0).bind fun s226 =>
    lpS s226 (fun q => some q) fun (x223, x224) =>
    some x223
def laws_FnExactBuildTries (N : Nat) (a0 : List (ByteArray × (Int × List (List Int)))) (a1 : Int) (a2 : List (ByteArray × List Int)) (a3 : List Int) (a4 : List Int) : Option Bool :=
    (bif decide (1048576 < (a4.length : Int)) then
    some true
    else
    (laws_szDatabase N a0 1048576).bind fun r116 =>
    (bif decide (r116 < 0) then
    some true
    else
    (laws_szQuery N a1 a2 a3 r116).bind fun r124 =>
    (bif decide (r124 < 0) then
    some true
    else
    (laws_toDatabase N a0).bind fun r134 =>
    (laws_toQuery N a1 a2 a3).bind fun r139 =>
    (laws_toIntS N a4).bind fun r146 =>
    (spec_BuildTries N r134 r139.1 r139.2.1 r139.2.2 r146).bind fun r151 =>
    (laws_toDatabase N a0).bind fun r157 =>
    (laws_toQuery N a1 a2 a3).bind fun r168 =>
    (laws_toIntS N a4).bind fun r181 =>
    (impl_BuildTries N r157 r168.1 r168.2.1 r168.2.2 r181).bind fun r187 =>
    (laws_eqTrieS N r187.1 r151.1).bind fun r194 =>
    (bif r194 then
    (bif (r187.2 != r151.2) then
    some false
    else
    (laws_toDatabase N a0).bind fun r204 =>
    (laws_eqDatabase N r157 r204).bind fun r209 =>
    (bif r209 then
    (laws_toQuery N a1 a2 a3).bind fun r217 =>
    (laws_eqQuery N r168.1 r168.2.1 r168.2.2 r217.1 r217.2.1 r217.2.2).bind fun r224 =>
    (bif r224 then
    (laws_toIntS N a4).bind fun r230 =>
    (laws_eqIntS N r181 r230).bind fun r235 =>
    (bif r235 then
    (laws_markDatabase N r157 1).bind fun r241 =>
    (laws_markQuery N r168.1 r168.2.1 r168.2.2 r241.1).bind fun r244 =>
    (laws_markIntS N r181 r244.1).bind fun r247 =>
    (bif decide (r247.1 < 0) then
    some false
    else
    (laws_eqTrieS N r187.1 r151.1).bind fun r253 =>
    (bif r253 then
    (laws_markTrieS N r187.1 1).bind fun r259 =>
    (laws_heldTrieS N r259.2 1).bind fun r263 =>
    (bif decide (r263 < 0) then
    some false
    else
    (bif (r263 != r259.1) then
    some false
    else
    (laws_toDatabase N a0).bind fun r277 =>
    (laws_toQuery N a1 a2 a3).bind fun r282 =>
    (laws_toIntS N a4).bind fun r289 =>
    (impl_BuildTries N r277 r282.1 r282.2.1 r282.2.2 r289).bind fun r294 =>
    (laws_eqTrieS N r294.1 r151.1).bind fun r301 =>
    (bif r301 then
    (bif (r294.2 != r151.2) then
    some false
    else
    (laws_heldTrieS N r259.2 1).bind fun r309 =>
    (bif decide (r309 < 0) then
    some false
    else
    (bif (r309 != r259.1) then
    some false
    else
    some true)))
    else
    some false)))
    else
    some false))
    else
    some false)
    else
    some false)
    else
    some false))
    else
    some false))))
def spec_AtomRelation (N : Nat) (a0 : List (ByteArray × (Int × List (List Int)))) (a1 : ByteArray) (a2 : List Int) : Option (List Int × (Int × List (List Int))) :=
    (spec_AtomVariables N a1 a2).bind fun r117 =>
    (spec_AtomBindings N a0 a1 a2).bind fun r122 =>
    some (r117, (r122.1, r122.2))
def spec_IsValidVarRelation_L1 (N : Nat) : Nat → (List Int) → Int → (List (List Int)) → Int → Option (Sum Bool Int)
  | 0, _, _, _, _ => none
  | k + 1, x190, x191, x194, x195 =>
    (bif decide (x195 < (x190.length : Int)) then
    (ix x190 x195).bind fun x202 =>
    (spec_l1In N x202 0 4).bind fun r208 =>
    (bif r208 then
    (bif decide (0 < x195) then
    (ix x190 x195).bind fun x211 =>
    (sb x195 1).bind fun x217 =>
    (ix x190 x217).bind fun x218 =>
    (bif decide (x211 ≤ x218) then
    some (.inl false)
    else
    (ad x195 1).bind fun x228 =>
    spec_IsValidVarRelation_L1 N k x190 x191 x194 x228)
    else
    (ad x195 1).bind fun x231 =>
    spec_IsValidVarRelation_L1 N k x190 x191 x194 x231)
    else
    some (.inl false))
    else
    some (.inr x195))
def spec_IsValidVarRelation (N : Nat) (a0 : List Int) (a1 : Int) (a2 : List (List Int)) : Option Bool :=
    (spec_IsValidVarRelation_L1 N N a0 a1 a2 0).bind fun s241 =>
    lpS s241 (fun q => some q) fun x235 =>
    (spec_IsValidRelation N a1 a2).bind fun r237 =>
    (bif r237 then
    some (a1 == (a0.length : Int))
    else
    some false)
def spec_l11Both_L1 (N : Nat) : Nat → (List Int) → Int → (List (List Int)) → (List Int) → Int → (List (List Int)) → (List Int) → (List Int) → Int → Option ((List Int) × (List Int) × Int)
  | 0, _, _, _, _, _, _, _, _, _ => none
  | k + 1, x253, x254, x257, x260, x261, x264, x267, x270, x271 =>
    (bif decide (x271 < (x253.length : Int)) then
    (ix x253 x271).bind fun x278 =>
    (spec_l7Find N x260 x278).bind fun r284 =>
    (bif decide (0 ≤ r284) then
    (apd 8 x267 [x271]).bind fun x296 =>
    (apd 8 x270 [r284]).bind fun x305 =>
    (ad x271 1).bind fun x308 =>
    spec_l11Both_L1 N k x253 x254 x257 x260 x261 x264 x296 x305 x308
    else
    (ad x271 1).bind fun x309 =>
    spec_l11Both_L1 N k x253 x254 x257 x260 x261 x264 x267 x270 x309)
    else
    some (x267, x270, x271))
def spec_l11Both (N : Nat) (a0 : List Int) (a1 : Int) (a2 : List (List Int)) (a3 : List Int) (a4 : Int) (a5 : List (List Int)) : Option ((List Int) × (List Int)) :=
    (spec_l11Both_L1 N N a0 a1 a2 a3 a4 a5 [] [] 0).bind fun s318 =>
    lpB s318 fun (x312, x315, x316) =>
    some (x312, x315)
def spec_l11Vars_L1 (N : Nat) : Nat → (List Int) → (List Int) → (List Int) → Int → Option ((List Int) × Int)
  | 0, _, _, _, _ => none
  | k + 1, x225, x228, x231, x232 =>
    (bif decide (x232 < 5) then
    (spec_l7Find N x225 x232).bind fun r239 =>
    (bif decide (0 ≤ r239) then
    (apd 8 x231 [x232]).bind fun x249 =>
    (ad x232 1).bind fun x252 =>
    spec_l11Vars_L1 N k x225 x228 x249 x252
    else
    (spec_l7Find N x228 x232).bind fun r253 =>
    (bif decide (0 ≤ r253) then
    (apd 8 x231 [x232]).bind fun x263 =>
    (ad x232 1).bind fun x266 =>
    spec_l11Vars_L1 N k x225 x228 x263 x266
    else
    (ad x232 1).bind fun x267 =>
    spec_l11Vars_L1 N k x225 x228 x231 x267))
    else
    some (x231, x232))
def spec_l11Vars (N : Nat) (a0 : List Int) (a1 : List Int) : Option (List Int) :=
    (spec_l11Vars_L1 N N a0 a1 [] 0).bind fun s273 =>
    lpB s273 fun (x270, x271) =>
    some x270
end Go.Proofs.Ytkpeabpdiffjhaa
