/- What functions of the program come to, written out by a program: none where a bound is passed. -/
import Derived.Test.YtobjjdfgnaanjaaW6D
namespace Go.Proofs.Ytobjjdfgnaanjaa
open Go.RowKit
def laws_fresh_L1 (N : Nat) : Nat → (List Int) → Int → (List Int) → Int → Option ((List Int) × Int)
  | 0, _, _, _, _ => none
  | k + 1, x158, x159, x162, x163 =>
    (bif decide (x163 < (x158.length : Int)) then
    (bif decide (x163 < 600) then
    (ix x158 x163).bind fun x166 =>
    (ml (IntKind.i64.wrap x166) 3).bind fun x172 =>
    (rm x163 7).bind fun x173 =>
    (ad x173 1).bind fun x174 =>
    (ml x159 x174).bind fun x175 =>
    (ad x172 x175).bind fun x176 =>
    (apd 1 x162 [(IntKind.u8.wrap x176)]).bind fun x183 =>
    (ad x163 1).bind fun x186 =>
    laws_fresh_L1 N k x158 x159 x183 x186
    else
    some (x162, x163))
    else
    some (x162, x163))
def laws_fresh (N : Nat) (a0 : List Int) (a1 : Int) : Option (List Int) :=
    (laws_fresh_L1 N N a0 a1 ([(IntKind.u8.wrap a1)]) 0).bind fun (x189, x190) =>
    some x189
end Go.Proofs.Ytobjjdfgnaanjaa
