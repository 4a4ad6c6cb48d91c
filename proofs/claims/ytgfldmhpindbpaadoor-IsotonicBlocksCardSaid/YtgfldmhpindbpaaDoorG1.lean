/- Walks through functions of the given program: each meets its contract. (Printed by a program of this repo.) -/
import Derived.Test.YtgfldmhpindbpaaDoorV5
import Derived.Test.YtgfldmhpindbpaaDoorFrB
import Derived.Test.YtgfldmhpindbpaaDoorProg
namespace Go.Fw.G1
open Go Go.RowKit Go.Proofs Go.Nat9 Go.Fw
attribute [local irreducible] JC JL JE

end Go.Fw.G1
namespace Go.Fw.K
open Go Go.RowKit Go.Proofs Go.Nat9 Go.Fw Go.Fw.G1
attribute [local irreducible] JC JL JE



end Go.Fw.K
