/- Plain laws: a row's place among the rows of a factorization, both sides. -/
import Derived.Test.YtdingjlefilafaapI
namespace Go.Proofs.Ytdingjlefilafaa
open Go.RowKit

section
variable {N : Nat}
end
end Go.Proofs.Ytdingjlefilafaa
