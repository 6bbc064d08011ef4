/- Plain laws: a row's place among the rows of a factorization, both sides. -/
import Derived.Test.YtkpeabpdiffjhaapI
namespace Go.Proofs.Ytkpeabpdiffjhaa
open Go.RowKit

section
variable {N : Nat}
end
end Go.Proofs.Ytkpeabpdiffjhaa
