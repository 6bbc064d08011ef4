/- What functions of the program come to, written out by a program: none where a bound is passed. -/
import Derived.Test.YtobjjdfgnaanjaaW0D
namespace Go.Proofs.Ytobjjdfgnaanjaa
open Go.RowKit
def impl_EqualFactorizations_L1 (N : Nat) : Nat → (List Int) → (List (List Int × List Int)) → (List Int) → (List (List Int × List Int)) → Int → Int → Option (Sum Bool Int)
  | 0, _, _, _, _, _, _ => none
  | k + 1, x169, x172, x175, x178, x179, x180 =>
    (bif decide (x180 < x179) then
    (ix x172 x180).bind fun x182 =>
    (ix x178 x180).bind fun x192 =>
    (impl_sameNode N x182.1 x182.2 x192.1 x192.2).bind fun r202 =>
    (bif r202 then
    (ad x180 1).bind fun x206 =>
    impl_EqualFactorizations_L1 N k x169 x172 x175 x178 x179 x206
    else
    some (.inl false))
    else
    some (.inr x180))
def impl_EqualFactorizations (N : Nat) (a0 : List Int) (a1 : List (List Int × List Int)) (a2 : List Int) (a3 : List (List Int × List Int)) : Option Bool :=
    (impl_sameInts N a0 a2).bind fun r109 =>
    (bif r109 then
    (bif ((a1.length : Int) != (a3.length : Int)) then
    some false
    else
    (impl_EqualFactorizations_L1 N N a0 a1 a2 a3 (a1.length : Int) 0).bind fun s208 =>
    lpS s208 (fun q => some q) fun x207 =>
    some true)
    else
    some false)
def laws_eqIntS_L1 (N : Nat) : Nat → (List Int) → (List Int) → Int → Option (Sum Bool Int)
  | 0, _, _, _ => none
  | k + 1, x139, x142, x143 =>
    (bif decide (x143 < (x139.length : Int)) then
    (ix x139 x143).bind fun x145 =>
    (ix x142 x143).bind fun x151 =>
    (bif (x145 != x151) then
    some (.inl false)
    else
    (ad x143 1).bind fun x160 =>
    laws_eqIntS_L1 N k x139 x142 x160)
    else
    some (.inr x143))
def laws_eqIntS (N : Nat) (a0 : List Int) (a1 : List Int) : Option Bool :=
    (bif ((a0.length : Int) != (a1.length : Int)) then
    some false
    else
    (laws_eqIntS_L1 N N a0 a1 0).bind fun s162 =>
    lpS s162 (fun q => some q) fun x161 =>
    some true)
def laws_eqFactorNode (N : Nat) (a0 : List Int) (a1 : List Int) (a2 : List Int) (a3 : List Int) : Option Bool :=
    (laws_eqIntS N a0 a2).bind fun r109 =>
    (bif r109 then
    (laws_eqIntS N a1 a3).bind fun r113 =>
    (bif r113 then
    some true
    else
    some false)
    else
    some false)
def laws_eqFactorNodeS_L1 (N : Nat) : Nat → (List (List Int × List Int)) → (List (List Int × List Int)) → Int → Option (Sum Bool Int)
  | 0, _, _, _ => none
  | k + 1, x157, x160, x161 =>
    (bif decide (x161 < (x157.length : Int)) then
    (ix x157 x161).bind fun x163 =>
    (ix x160 x161).bind fun x173 =>
    (laws_eqFactorNode N x163.1 x163.2 x173.1 x173.2).bind fun r183 =>
    (bif r183 then
    (ad x161 1).bind fun x187 =>
    laws_eqFactorNodeS_L1 N k x157 x160 x187
    else
    some (.inl false))
    else
    some (.inr x161))
def laws_eqFactorNodeS (N : Nat) (a0 : List (List Int × List Int)) (a1 : List (List Int × List Int)) : Option Bool :=
    (bif ((a0.length : Int) != (a1.length : Int)) then
    some false
    else
    (laws_eqFactorNodeS_L1 N N a0 a1 0).bind fun s189 =>
    lpS s189 (fun q => some q) fun x188 =>
    some true)
def laws_eqFactorization (N : Nat) (a0 : List Int) (a1 : List (List Int × List Int)) (a2 : List Int) (a3 : List (List Int × List Int)) : Option Bool :=
    (laws_eqIntS N a0 a2).bind fun r109 =>
    (bif r109 then
    (laws_eqFactorNodeS N a1 a3).bind fun r113 =>
    (bif r113 then
    some true
    else
    some false)
    else
    some false)
def laws_FnExactEqualFactorizations (N : Nat) (a0 : List Int) (a1 : List (List Int × List Int)) (a2 : List Int) (a3 : List (List Int × List Int)) : Option Bool :=
    (laws_szFactorization N a0 a1 1048576).bind fun r109 =>
    (bif decide (r109 < 0) then
    some true
    else
    (laws_szFactorization N a2 a3 r109).bind fun r113 =>
    (bif decide (r113 < 0) then
    some true
    else
    (laws_toFactorization N a0 a1).bind fun r119 =>
    (laws_toFactorization N a2 a3).bind fun r128 =>
    (spec_EqualFactorizations N r119.1 r119.2 r128.1 r128.2).bind fun r137 =>
    (laws_toFactorization N a0 a1).bind fun r140 =>
    (laws_toFactorization N a2 a3).bind fun r152 =>
    (impl_EqualFactorizations N r140.1 r140.2 r152.1 r152.2).bind fun r164 =>
    (bif (r164 != r137) then
    some false
    else
    (laws_toFactorization N a0 a1).bind fun r170 =>
    (laws_eqFactorization N r140.1 r140.2 r170.1 r170.2).bind fun r187 =>
    (bif r187 then
    (laws_toFactorization N a2 a3).bind fun r193 =>
    (laws_eqFactorization N r152.1 r152.2 r193.1 r193.2).bind fun r212 =>
    (bif r212 then
    some true
    else
    some false)
    else
    some false))))
def laws_szIntSS_L1 (N : Nat) : Nat → (List (List Int)) → Int → Int → Option (Sum Int (Int × Int))
  | 0, _, _, _ => none
  | k + 1, x133, x134, x135 =>
    (bif decide (x135 < (x133.length : Int)) then
    (ix x133 x135).bind fun x137 =>
    (laws_szIntS N x137 x134).bind fun r144 =>
    (bif decide (r144 < 0) then
    some (.inl (-1))
    else
    (ad x135 1).bind fun x148 =>
    laws_szIntSS_L1 N k x133 r144 x148)
    else
    some (.inr (x134, x135)))
def laws_szIntSS (N : Nat) (a0 : List (List Int)) (a1 : Int) : Option Int :=
    (sb a1 (a0.length : Int)).bind fun x101 =>
    (bif decide (x101 < 0) then
    some (-1)
    else
    (laws_szIntSS_L1 N N a0 x101 0).bind fun s151 =>
    lpS s151 (fun q => some q) fun (x149, x150) =>
    some x149)
def laws_szRelation (N : Nat) (a0 : Int) (a1 : List (List Int)) (a2 : Int) : Option Int :=
    (laws_szIntSS N a1 a2).bind fun r105 =>
    (bif decide (r105 < 0) then
    some (-1)
    else
    some r105)
def laws_szDelta (N : Nat) (a0 : ByteArray) (a1 : Int) (a2 : List (List Int)) (a3 : Int) (a4 : List (List Int)) (a5 : Int) : Option Int :=
    (sb a5 (a0.size : Int)).bind fun x105 =>
    (bif decide (x105 < 0) then
    some (-1)
    else
    (laws_szRelation N a1 a2 x105).bind fun r107 =>
    (bif decide (r107 < 0) then
    some (-1)
    else
    (laws_szRelation N a3 a4 r107).bind fun r111 =>
    (bif decide (r111 < 0) then
    some (-1)
    else
    some r111)))
def spec_EqualRelations_L1 (N : Nat) : Nat → Int → (List (List Int)) → Int → (List (List Int)) → Int → Option (Sum Bool Int)
  | 0, _, _, _, _, _ => none
  | k + 1, x152, x155, x156, x159, x160 =>
    (bif decide (x160 < (x155.length : Int)) then
    (ix x155 x160).bind fun x162 =>
    (ix x159 x160).bind fun x169 =>
    (spec_CompareRows N x162 x169).bind fun r176 =>
    (bif (r176 != 0) then
    some (.inl false)
    else
    (ad x160 1).bind fun x180 =>
    spec_EqualRelations_L1 N k x152 x155 x156 x159 x180)
    else
    some (.inr x160))
def spec_EqualRelations (N : Nat) (a0 : Int) (a1 : List (List Int)) (a2 : Int) (a3 : List (List Int)) : Option Bool :=
    (bif (a0 != a2) then
    some false
    else
    (bif ((a1.length : Int) != (a3.length : Int)) then
    some false
    else
    (spec_EqualRelations_L1 N N a0 a1 a2 a3 0).bind fun s182 =>
    lpS s182 (fun q => some q) fun x181 =>
    some true))
def spec_EqualDeltas (N : Nat) (a0 : ByteArray) (a1 : Int) (a2 : List (List Int)) (a3 : Int) (a4 : List (List Int)) (a5 : ByteArray) (a6 : Int) (a7 : List (List Int)) (a8 : Int) (a9 : List (List Int)) : Option Bool :=
    (bif (eqS a0 a5) then
    (spec_EqualRelations N a1 a2 a6 a7).bind fun r110 =>
    (bif r110 then
    (spec_EqualRelations N a3 a4 a8 a9).bind fun r114 =>
    some r114
    else
    some false)
    else
    some false)
def laws_toIntSS_L1 (N : Nat) : Nat → (List (List Int)) → (List (List Int)) → Int → Option ((List (List Int)) × Int)
  | 0, _, _, _ => none
  | k + 1, x163, x166, x167 =>
    (bif decide (x167 < (x163.length : Int)) then
    (ix x163 x167).bind fun x169 =>
    (laws_toIntS N x169).bind fun r176 =>
    (ix x166 x167).bind fun x181 =>
    (sto x166 x167 r176).bind fun x190 =>
    (ad x167 1).bind fun x192 =>
    laws_toIntSS_L1 N k x163 x190 x192
    else
    some (x166, x167))
def laws_toIntSS (N : Nat) (a0 : List (List Int)) : Option (List (List Int)) :=
    (mk 24 ([] : List Int) (a0.length : Int)).bind fun x104 =>
    (laws_toIntSS_L1 N N a0 x104 0).bind fun (x195, x196) =>
    some x195
end Go.Proofs.Ytobjjdfgnaanjaa
