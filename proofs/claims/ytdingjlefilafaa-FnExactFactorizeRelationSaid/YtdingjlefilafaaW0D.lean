/- What functions of the program come to, written out by a program: none where a bound is passed. -/
import Derived.Test.YtdingjlefilafaaN
namespace Go.Proofs.Ytdingjlefilafaa
open Go.RowKit
def laws_eqIntS_L1 (N : Nat) : Nat → (List Int) → (List Int) → Int → Option (Sum Bool Int)
  | 0, _, _, _ => none
  | k + 1, x158, x161, x162 =>
    (bif decide (x162 < (x158.length : Int)) then
    (ix x158 x162).bind fun x169 =>
    (ix x161 x162).bind fun x175 =>
    (bif (x169 != x175) then
    some (.inl false)
    else
    (ad x162 1).bind fun x185 =>
    laws_eqIntS_L1 N k x158 x161 x185)
    else
    some (.inr x162))
def laws_eqIntS (N : Nat) (a0 : List Int) (a1 : List Int) : Option Bool :=
    (bif ((a0.length : Int) != (a1.length : Int)) then
    some false
    else
    (laws_eqIntS_L1 N N a0 a1 0).bind fun s188 =>
    lpS s188 (fun q => some q) fun x186 =>
    some true)
def laws_eqFactorNode (N : Nat) (a0 : List Int) (a1 : List Int) (a2 : List Int) (a3 : List Int) : Option Bool :=
    (laws_eqIntS N a0 a2).bind fun r112 =>
    (bif r112 then
    (laws_eqIntS N a1 a3).bind fun r118 =>
    (bif r118 then
    some true
    else
    some false)
    else
    some false)
def laws_eqFactorNodeS_L1 (N : Nat) : Nat → (List (List Int × List Int)) → (List (List Int × List Int)) → Int → Option (Sum Bool Int)
  | 0, _, _, _ => none
  | k + 1, x176, x179, x180 =>
    (bif decide (x180 < (x176.length : Int)) then
    (ix x176 x180).bind fun x187 =>
    (ix x179 x180).bind fun x197 =>
    (laws_eqFactorNode N x187.1 x187.2 x197.1 x197.2).bind fun r207 =>
    (bif r207 then
    (ad x180 1).bind fun x211 =>
    laws_eqFactorNodeS_L1 N k x176 x179 x211
    else
    some (.inl false))
    else
    some (.inr x180))
def laws_eqFactorNodeS (N : Nat) (a0 : List (List Int × List Int)) (a1 : List (List Int × List Int)) : Option Bool :=
    (bif ((a0.length : Int) != (a1.length : Int)) then
    some false
    else
    (laws_eqFactorNodeS_L1 N N a0 a1 0).bind fun s215 =>
    lpS s215 (fun q => some q) fun x213 =>
    some true)
def laws_eqFactorization (N : Nat) (a0 : List Int) (a1 : List (List Int × List Int)) (a2 : List Int) (a3 : List (List Int × List Int)) : Option Bool :=
    (laws_eqIntS N a0 a2).bind fun r112 =>
    (bif r112 then
    (laws_eqFactorNodeS N a1 a3).bind fun r118 =>
    (bif r118 then
    some true
    else
    some false)
    else
    some false)
def laws_eqIntSS_L1 (N : Nat) : Nat → (List (List Int)) → (List (List Int)) → Int → Option (Sum Bool Int)
  | 0, _, _, _ => none
  | k + 1, x164, x167, x168 =>
    (bif decide (x168 < (x164.length : Int)) then
    (ix x164 x168).bind fun x175 =>
    (ix x167 x168).bind fun x182 =>
    (laws_eqIntS N x175 x182).bind fun r189 =>
    (bif r189 then
    (ad x168 1).bind fun x193 =>
    laws_eqIntSS_L1 N k x164 x167 x193
    else
    some (.inl false))
    else
    some (.inr x168))
def laws_eqIntSS (N : Nat) (a0 : List (List Int)) (a1 : List (List Int)) : Option Bool :=
    (bif ((a0.length : Int) != (a1.length : Int)) then
    some false
    else
    (laws_eqIntSS_L1 N N a0 a1 0).bind fun s197 =>
    lpS s197 (fun q => some q) fun x195 =>
    some true)
def laws_eqRelation (N : Nat) (a0 : Int) (a1 : List (List Int)) (a2 : Int) (a3 : List (List Int)) : Option Bool :=
    (bif (a0 != a2) then
    some false
    else
    (laws_eqIntSS N a1 a3).bind fun r116 =>
    (bif r116 then
    some true
    else
    some false))
def laws_markIntS_L1 (N : Nat) : Nat → (List Int) → Int → Int → Option ((List Int) × Int × Int)
  | 0, _, _, _ => none
  | k + 1, x138, x139, x140 =>
    (bif decide (x140 < (x138.length : Int)) then
    (ix x138 x140).bind fun x147 =>
    (sto x138 x140 x139).bind fun x152 =>
    (ad x139 1).bind fun x153 =>
    (ad x140 1).bind fun x154 =>
    laws_markIntS_L1 N k x152 x153 x154
    else
    some (x138, x139, x140))
def laws_markIntS (N : Nat) (a0 : List Int) (a1 : Int) : Option (Int × (List Int)) :=
    (laws_markIntS_L1 N N a0 a1 0).bind fun s160 =>
    lpB s160 fun (x156, x157, x158) =>
    some (x157, x156)
def laws_markIntSS_L1 (N : Nat) : Nat → (List (List Int)) → Int → Int → Option ((List (List Int)) × Int × Int)
  | 0, _, _, _ => none
  | k + 1, x146, x147, x148 =>
    (bif decide (x148 < (x146.length : Int)) then
    (ix x146 x148).bind fun x154 =>
    (laws_markIntS N x154 x147).bind fun r163 =>
    (sto x146 x148 r163.2).bind fun x165 =>
    (ad x148 1).bind fun x166 =>
    laws_markIntSS_L1 N k x165 r163.1 x166
    else
    some (x146, x147, x148))
def laws_markIntSS (N : Nat) (a0 : List (List Int)) (a1 : Int) : Option (Int × (List (List Int))) :=
    (laws_markIntSS_L1 N N a0 a1 0).bind fun s172 =>
    lpB s172 fun (x168, x169, x170) =>
    some (x169, x168)
def laws_markRelation (N : Nat) (a0 : Int) (a1 : List (List Int)) (a2 : Int) : Option (Int × (List (List Int))) :=
    (laws_markIntSS N a1 a2).bind fun r107 =>
    some (r107.1, r107.2)
def laws_markFactorNodeS_L1 (N : Nat) : Nat → (List (List Int × List Int)) → Int → Int → Option ((List (List Int × List Int)) × Int × Int)
  | 0, _, _, _ => none
  | k + 1, x188, x189, x190 =>
    (bif decide (x190 < (x188.length : Int)) then
    (ix x188 x190).bind fun x197 =>
    (laws_markIntS N x197.1 x189).bind fun r210 =>
    (sto x188 x190 (r210.2, x197.2)).bind fun x212 =>
    (ix x212 x190).bind fun x213 =>
    (laws_markIntS N x213.2 r210.1).bind fun r226 =>
    (sto x212 x190 (x213.1, r226.2)).bind fun x228 =>
    (ad x190 1).bind fun x229 =>
    laws_markFactorNodeS_L1 N k x228 r226.1 x229
    else
    some (x188, x189, x190))
def laws_markFactorNodeS (N : Nat) (a0 : List (List Int × List Int)) (a1 : Int) : Option (Int × (List (List Int × List Int))) :=
    (laws_markFactorNodeS_L1 N N a0 a1 0).bind fun s235 =>
    lpB s235 fun (x231, x232, x233) =>
    some (x232, x231)
def laws_markFactorization (N : Nat) (a0 : List Int) (a1 : List (List Int × List Int)) (a2 : Int) : Option (Int × (List Int) × (List (List Int × List Int))) :=
    (laws_markIntS N a0 a2).bind fun r107 =>
    (laws_markFactorNodeS N a1 r107.1).bind fun r110 =>
    some (r110.1, r107.2, r110.2)
def impl_within (N : Nat) (a0 : Int) (a1 : Int) (a2 : Int) : Option Bool :=
    (bif decide (a1 ≤ a0) then
    some (decide (a0 ≤ a2))
    else
    some false)
end Go.Proofs.Ytdingjlefilafaa
