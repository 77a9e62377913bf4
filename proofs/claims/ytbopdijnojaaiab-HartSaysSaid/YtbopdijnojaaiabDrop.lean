/- The cache: the walk of the program's Drop, its map of functions and these. No statement of the seat is proved here. -/
import Derived.Test.YtbopdijnojaaiabBase
import Derived.Test.YtbopdijnojaaiabSlices
import Derived.Lib.SliceRun
import Derived.Test.YtbopdijnojaaiabFillZ
import Derived.Maps.OwnOps
import Derived.Maps.OwnSet
import Derived.Shelf.Abstract
import Derived.Deep.DeepCutAuto
namespace Go.Proofs.Ytbopdijnojaaiab
open Go.RowKit
set_option linter.unusedSimpArgs false
set_option linter.unusedVariables false

section
section
end

section
end
end

section
open Go.Maps

/-- a value stands for itself. -/
def heldR (v : Value) : Option (DataW Value × List MemPlace) := some (.held v, [])
theorem Try.keyInt : Keyed Try.prog 3 := int_keyed Try.underlying3
end
end Go.Proofs.Ytbopdijnojaaiab
