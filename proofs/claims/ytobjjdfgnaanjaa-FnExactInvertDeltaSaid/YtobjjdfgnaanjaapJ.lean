/- Plain laws: a row's place among the rows of a factorization, both sides. -/
import Derived.Test.YtobjjdfgnaanjaapI
namespace Go.Proofs.Ytobjjdfgnaanjaa
open Go.RowKit

section
variable {N : Nat}
end
end Go.Proofs.Ytobjjdfgnaanjaa
