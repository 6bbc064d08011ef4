/- What functions of the program come to, written out by a program: none where a bound is passed. -/
import Derived.Test.YtobjjdfgnaanjaaW0D
namespace Go.Proofs.Ytobjjdfgnaanjaa
open Go.RowKit
def impl_EqualFactorizations_L1 (N : Nat) : Nat → (List Int) → (List (List Int × List Int)) → (List Int) → (List (List Int × List Int)) → Int → Int → Option (Sum Bool Int)
  | 0, _, _, _, _, _, _ => none
  | k + 1, x190, x193, x196, x199, x200, x201 =>
    (bif decide (x201 < x200) then
    (ix x193 x201).bind fun x209 =>
    (ix x199 x201).bind fun x219 =>
    (impl_sameNode N x209.1 x209.2 x219.1 x219.2).bind fun r229 =>
    (bif r229 then
    (ad x201 1).bind fun x233 =>
    impl_EqualFactorizations_L1 N k x190 x193 x196 x199 x200 x233
    else
    some (.inl false))
    else
    some (.inr x201))
def impl_EqualFactorizations (N : Nat) (a0 : List Int) (a1 : List (List Int × List Int)) (a2 : List Int) (a3 : List (List Int × List Int)) : Option Bool :=
    (impl_sameInts N a0 a2).bind fun r112 =>
    (bif r112 then
    (bif ((a1.length : Int) != (a3.length : Int)) then
    some false
    else
    (impl_EqualFactorizations_L1 N N a0 a1 a2 a3 (a1.length : Int) 0).bind fun s237 =>
    lpS s237 (fun q => some q) fun x235 =>
    some true)
    else
    some false)
def laws_eqIntS_L1 (N : Nat) : Nat → (List Int) → (List Int) → Int → Option (Sum Bool Int)
  | 0, _, _, _ => none
  | k + 1, x158, x161, x162 =>
    (bif decide (x162 < (x158.length : Int)) then
    (ix x158 x162).bind fun x169 =>
    (ix x161 x162).bind fun x175 =>
    (bif (x169 != x175) then
    some (.inl false)
    else
    (ad x162 1).bind fun x185 =>
    laws_eqIntS_L1 N k x158 x161 x185)
    else
    some (.inr x162))
def laws_eqIntS (N : Nat) (a0 : List Int) (a1 : List Int) : Option Bool :=
    (bif ((a0.length : Int) != (a1.length : Int)) then
    some false
    else
    (laws_eqIntS_L1 N N a0 a1 0).bind fun s188 =>
    lpS s188 (fun q => some q) fun x186 =>
    some true)
def laws_eqFactorNode (N : Nat) (a0 : List Int) (a1 : List Int) (a2 : List Int) (a3 : List Int) : Option Bool :=
    (laws_eqIntS N a0 a2).bind fun r112 =>
    (bif r112 then
    (laws_eqIntS N a1 a3).bind fun r118 =>
    (bif r118 then
    some true
    else
    some false)
    else
    some false)
def laws_eqFactorNodeS_L1 (N : Nat) : Nat → (List (List Int × List Int)) → (List (List Int × List Int)) → Int → Option (Sum Bool Int)
  | 0, _, _, _ => none
  | k + 1, x176, x179, x180 =>
    (bif decide (x180 < (x176.length : Int)) then
    (ix x176 x180).bind fun x187 =>
    (ix x179 x180).bind fun x197 =>
    (laws_eqFactorNode N x187.1 x187.2 x197.1 x197.2).bind fun r207 =>
    (bif r207 then
    (ad x180 1).bind fun x211 =>
    laws_eqFactorNodeS_L1 N k x176 x179 x211
    else
    some (.inl false))
    else
    some (.inr x180))
def laws_eqFactorNodeS (N : Nat) (a0 : List (List Int × List Int)) (a1 : List (List Int × List Int)) : Option Bool :=
    (bif ((a0.length : Int) != (a1.length : Int)) then
    some false
    else
    (laws_eqFactorNodeS_L1 N N a0 a1 0).bind fun s215 =>
    lpS s215 (fun q => some q) fun x213 =>
    some true)
def laws_eqFactorization (N : Nat) (a0 : List Int) (a1 : List (List Int × List Int)) (a2 : List Int) (a3 : List (List Int × List Int)) : Option Bool :=
    (laws_eqIntS N a0 a2).bind fun r112 =>
    (bif r112 then
    (laws_eqFactorNodeS N a1 a3).bind fun r118 =>
    (bif r118 then
    some true
    else
    some false)
    else
    some false)
def laws_FnExactEqualFactorizations (N : Nat) (a0 : List Int) (a1 : List (List Int × List Int)) (a2 : List Int) (a3 : List (List Int × List Int)) : Option Bool :=
    (laws_szFactorization N a0 a1 1048576).bind fun r112 =>
    (bif decide (r112 < 0) then
    some true
    else
    (laws_szFactorization N a2 a3 r112).bind fun r120 =>
    (bif decide (r120 < 0) then
    some true
    else
    (laws_toFactorization N a0 a1).bind fun r130 =>
    (laws_toFactorization N a2 a3).bind fun r139 =>
    (spec_EqualFactorizations N r130.1 r130.2 r139.1 r139.2).bind fun r148 =>
    (laws_toFactorization N a0 a1).bind fun r152 =>
    (laws_toFactorization N a2 a3).bind fun r165 =>
    (impl_EqualFactorizations N r152.1 r152.2 r165.1 r165.2).bind fun r178 =>
    (bif (r178 != r148) then
    some false
    else
    (laws_toFactorization N a0 a1).bind fun r189 =>
    (laws_eqFactorization N r152.1 r152.2 r189.1 r189.2).bind fun r206 =>
    (bif r206 then
    (laws_toFactorization N a2 a3).bind fun r214 =>
    (laws_eqFactorization N r165.1 r165.2 r214.1 r214.2).bind fun r233 =>
    (bif r233 then
    some true
    else
    some false)
    else
    some false))))
def laws_szIntSS_L1 (N : Nat) : Nat → (List (List Int)) → Int → Int → Option (Sum Int (Int × Int))
  | 0, _, _, _ => none
  | k + 1, x155, x156, x157 =>
    (bif decide (x157 < (x155.length : Int)) then
    (ix x155 x157).bind fun x164 =>
    (laws_szIntS N x164 x156).bind fun r171 =>
    (bif decide (r171 < 0) then
    some (.inl (-1))
    else
    (ad x157 1).bind fun x177 =>
    laws_szIntSS_L1 N k x155 r171 x177)
    else
    some (.inr (x156, x157)))
def laws_szIntSS (N : Nat) (a0 : List (List Int)) (a1 : Int) : Option Int :=
    (sb a1 (a0.length : Int)).bind fun x103 =>
    (bif decide (x103 < 0) then
    some (-1)
    else
    (laws_szIntSS_L1 N N a0 x103 0).bind fun s181 =>
    lpS s181 (fun q => some q) fun (x178, x179) =>
    some x178)
def laws_szRelation (N : Nat) (a0 : Int) (a1 : List (List Int)) (a2 : Int) : Option Int :=
    (laws_szIntSS N a1 a2).bind fun r107 =>
    (bif decide (r107 < 0) then
    some (-1)
    else
    some r107)
def laws_szDelta (N : Nat) (a0 : ByteArray) (a1 : Int) (a2 : List (List Int)) (a3 : Int) (a4 : List (List Int)) (a5 : Int) : Option Int :=
    (sb a5 (a0.size : Int)).bind fun x107 =>
    (bif decide (x107 < 0) then
    some (-1)
    else
    (laws_szRelation N a1 a2 x107).bind fun r113 =>
    (bif decide (r113 < 0) then
    some (-1)
    else
    (laws_szRelation N a3 a4 r113).bind fun r121 =>
    (bif decide (r121 < 0) then
    some (-1)
    else
    some r121)))
def spec_EqualRelations_L1 (N : Nat) : Nat → Int → (List (List Int)) → Int → (List (List Int)) → Int → Option (Sum Bool Int)
  | 0, _, _, _, _, _ => none
  | k + 1, x172, x175, x176, x179, x180 =>
    (bif decide (x180 < (x175.length : Int)) then
    (ix x175 x180).bind fun x187 =>
    (ix x179 x180).bind fun x194 =>
    (spec_CompareRows N x187 x194).bind fun r201 =>
    (bif (r201 != 0) then
    some (.inl false)
    else
    (ad x180 1).bind fun x206 =>
    spec_EqualRelations_L1 N k x172 x175 x176 x179 x206)
    else
    some (.inr x180))
def spec_EqualRelations (N : Nat) (a0 : Int) (a1 : List (List Int)) (a2 : Int) (a3 : List (List Int)) : Option Bool :=
    (bif (a0 != a2) then
    some false
    else
    (bif ((a1.length : Int) != (a3.length : Int)) then
    some false
    else
    (spec_EqualRelations_L1 N N a0 a1 a2 a3 0).bind fun s209 =>
    lpS s209 (fun q => some q) fun x207 =>
    some true))
def spec_EqualDeltas (N : Nat) (a0 : ByteArray) (a1 : Int) (a2 : List (List Int)) (a3 : Int) (a4 : List (List Int)) (a5 : ByteArray) (a6 : Int) (a7 : List (List Int)) (a8 : Int) (a9 : List (List Int)) : Option Bool :=
    (bif (eqS a0 a5) then
    (spec_EqualRelations N a1 a2 a6 a7).bind fun r112 =>
    (bif r112 then
    (spec_EqualRelations N a3 a4 a8 a9).bind fun r116 =>
    some r116
    else
    some false)
    else
    some false)
def laws_toIntSS_L1 (N : Nat) : Nat → (List (List Int)) → (List (List Int)) → Int → Option ((List (List Int)) × Int)
  | 0, _, _, _ => none
  | k + 1, x176, x179, x180 =>
    (bif decide (x180 < (x176.length : Int)) then
    (ix x176 x180).bind fun x186 =>
    (laws_toIntS N x186).bind fun r193 =>
    (ix x179 x180).bind fun x198 =>
    (sto x179 x180 r193).bind fun x207 =>
    (ad x180 1).bind fun x209 =>
    laws_toIntSS_L1 N k x176 x207 x209
    else
    some (x179, x180))
def laws_toIntSS (N : Nat) (a0 : List (List Int)) : Option (List (List Int)) :=
    (mk 24 ([] : List Int) (a0.length : Int)).bind fun x106 =>
    (laws_toIntSS_L1 N N a0 x106 0).bind fun s215 =>
    lpB s215 fun (x212, x213) =>
    some x212
end Go.Proofs.Ytobjjdfgnaanjaa
