/- What functions of the program come to, written out by a program: none where a bound is passed. -/
import Derived.Test.YtnanddmadghnnaaW5D
namespace Go.Proofs.Ytnanddmadghnnaa
open Go.RowKit
def laws_markDelta (N : Nat) (a0 : ByteArray) (a1 : Int) (a2 : List (List Int)) (a3 : Int) (a4 : List (List Int)) (a5 : Int) : Option (Int × (List (List Int)) × (List (List Int))) :=
    (laws_markRelation N a1 a2 a5).bind fun r107 =>
    (laws_markRelation N a3 a4 r107.1).bind fun r110 =>
    some (r110.1, r107.2, r110.2)
def laws_heldIntSS_L1 (N : Nat) : Nat → (List (List Int)) → Int → Int → Option (Sum Int (Int × Int))
  | 0, _, _, _ => none
  | k + 1, x149, x150, x151 =>
    (bif decide (x151 < (x149.length : Int)) then
    (ix x149 x151).bind fun x158 =>
    (laws_heldIntS N x158 x150).bind fun r165 =>
    (bif decide (r165 < 0) then
    some (.inl (-1))
    else
    (ad x151 1).bind fun x171 =>
    laws_heldIntSS_L1 N k x149 r165 x171)
    else
    some (.inr (x150, x151)))
def laws_heldIntSS (N : Nat) (a0 : List (List Int)) (a1 : Int) : Option Int :=
    (laws_heldIntSS_L1 N N a0 a1 0).bind fun s175 =>
    lpS s175 (fun q => some q) fun (x172, x173) =>
    some x172
def laws_heldRelation (N : Nat) (a0 : Int) (a1 : List (List Int)) (a2 : Int) : Option Int :=
    (laws_heldIntSS N a1 a2).bind fun r107 =>
    (bif decide (r107 < 0) then
    some (-1)
    else
    some r107)
def laws_heldDelta (N : Nat) (a0 : ByteArray) (a1 : Int) (a2 : List (List Int)) (a3 : Int) (a4 : List (List Int)) (a5 : Int) : Option Int :=
    (laws_heldRelation N a1 a2 a5).bind fun r107 =>
    (bif decide (r107 < 0) then
    some (-1)
    else
    (laws_heldRelation N a3 a4 r107).bind fun r115 =>
    (bif decide (r115 < 0) then
    some (-1)
    else
    some r115))
def laws_FnExactDiffDatabases (N : Nat) (a0 : List (ByteArray × (Int × List (List Int)))) (a1 : List (ByteArray × (Int × List (List Int)))) (a2 : ByteArray) : Option Bool :=
    (bif decide (1048576 < (a2.size : Int)) then
    some true
    else
    (laws_szDatabase N a0 1048576).bind fun r116 =>
    (bif decide (r116 < 0) then
    some true
    else
    (laws_szDatabase N a1 r116).bind fun r124 =>
    (bif decide (r124 < 0) then
    some true
    else
    (laws_toDatabase N a0).bind fun r134 =>
    (laws_toDatabase N a1).bind fun r139 =>
    (spec_DiffDatabases N r134 r139 a2).bind fun r144 =>
    (laws_toDatabase N a0).bind fun r158 =>
    (laws_toDatabase N a1).bind fun r169 =>
    (impl_DiffDatabases N r158 r169 a2).bind fun r180 =>
    (laws_eqDelta N r180.1.1 r180.1.2.1.1 r180.1.2.1.2 r180.1.2.2.1 r180.1.2.2.2 r144.1.1 r144.1.2.1.1 r144.1.2.1.2 r144.1.2.2.1 r144.1.2.2.2).bind fun r195 =>
    (bif r195 then
    (bif (r180.2 != r144.2) then
    some false
    else
    (laws_toDatabase N a0).bind fun r205 =>
    (laws_eqDatabase N r158 r205).bind fun r210 =>
    (bif r210 then
    (laws_toDatabase N a1).bind fun r218 =>
    (laws_eqDatabase N r169 r218).bind fun r223 =>
    (bif r223 then
    (laws_markDatabase N r158 1).bind fun r229 =>
    (laws_markDatabase N r169 r229.1).bind fun r232 =>
    (bif decide (r232.1 < 0) then
    some false
    else
    (laws_eqDelta N r180.1.1 r180.1.2.1.1 r180.1.2.1.2 r180.1.2.2.1 r180.1.2.2.2 r144.1.1 r144.1.2.1.1 r144.1.2.1.2 r144.1.2.2.1 r144.1.2.2.2).bind fun r238 =>
    (bif r238 then
    (laws_markDelta N r180.1.1 r180.1.2.1.1 r180.1.2.1.2 r180.1.2.2.1 r180.1.2.2.2 1).bind fun r244 =>
    (laws_heldDelta N r180.1.1 r180.1.2.1.1 r244.2.1 r180.1.2.2.1 r244.2.2 1).bind fun r248 =>
    (bif decide (r248 < 0) then
    some false
    else
    (bif (r248 != r244.1) then
    some false
    else
    (laws_toDatabase N a0).bind fun r262 =>
    (laws_toDatabase N a1).bind fun r267 =>
    (impl_DiffDatabases N r262 r267 a2).bind fun r272 =>
    (laws_eqDelta N r272.1.1 r272.1.2.1.1 r272.1.2.1.2 r272.1.2.2.1 r272.1.2.2.2 r144.1.1 r144.1.2.1.1 r144.1.2.1.2 r144.1.2.2.1 r144.1.2.2.2).bind fun r287 =>
    (bif r287 then
    (bif (r272.2 != r144.2) then
    some false
    else
    (laws_heldDelta N r180.1.1 r180.1.2.1.1 r244.2.1 r180.1.2.2.1 r244.2.2 1).bind fun r295 =>
    (bif decide (r295 < 0) then
    some false
    else
    (bif (r295 != r244.1) then
    some false
    else
    some true)))
    else
    some false)))
    else
    some false))
    else
    some false)
    else
    some false))
    else
    some false))))
end Go.Proofs.Ytnanddmadghnnaa
