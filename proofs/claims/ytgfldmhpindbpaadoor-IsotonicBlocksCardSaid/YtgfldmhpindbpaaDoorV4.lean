/- Walks through functions of the given program: each meets its contract. (Printed by a program of this repo.) -/
import Derived.Test.YtgfldmhpindbpaaDoorV1
import Derived.Test.YtgfldmhpindbpaaDoorV2
import Derived.Test.YtgfldmhpindbpaaDoorV3
import Derived.Test.YtgfldmhpindbpaaDoorFwK
import Derived.Test.YtgfldmhpindbpaaDoorProg
namespace Go.Fw.V4
open Go Go.RowKit Go.Proofs Go.Nat9 Go.Fw
attribute [local irreducible] JC JL JE

end Go.Fw.V4
namespace Go.Fw.K
open Go Go.RowKit Go.Proofs Go.Nat9 Go.Fw Go.Fw.V4
attribute [local irreducible] JC JL JE



end Go.Fw.K
