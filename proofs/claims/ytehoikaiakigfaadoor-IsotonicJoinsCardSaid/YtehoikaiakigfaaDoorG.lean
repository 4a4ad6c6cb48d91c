/- Walks through functions of the given program: each meets its contract. (Printed by a program of this repo.) -/
import Derived.Test.YtehoikaiakigfaaDoorV
import Derived.Test.YtehoikaiakigfaaDoorFwC
import Derived.Test.YtehoikaiakigfaaDoorProg
namespace Go.Fw.G
open Go Go.RowKit Go.Proofs Go.Nat9 Go.Fw
attribute [local irreducible] JC JL JE

end Go.Fw.G
namespace Go.Fw.K
open Go Go.RowKit Go.Proofs Go.Nat9 Go.Fw Go.Fw.G
attribute [local irreducible] JC JL JE



end Go.Fw.K
