/- What functions of the program come to, written out by a program: none where a bound is passed. -/
import Derived.Test.YtnanddmadghnnaaW5D
namespace Go.Proofs.Ytnanddmadghnnaa
open Go.RowKit
def laws_heldDelta (N : Nat) (a0 : ByteArray) (a1 : Int) (a2 : List (List Int)) (a3 : Int) (a4 : List (List Int)) (a5 : Int) : Option Int :=
    (laws_heldRelation N a1 a2 a5).bind fun r107 =>
    (bif decide (r107 < 0) then
    some (-1)
    else
    (laws_heldRelation N a3 a4 r107).bind fun r115 =>
    (bif decide (r115 < 0) then
    some (-1)
    else
    some r115))
end Go.Proofs.Ytnanddmadghnnaa
