/- The document's cache: the walks of CheckCache, with its map, and of LineAt. No statement of the seat is proved here. -/
import Derived.Test.YtbopdijnojaaiabDrop
import Derived.Test.YtbopdijnojaaiabSlices
namespace Go.Proofs.Ytbopdijnojaaiab
open Go.RowKit
set_option linter.unusedSimpArgs false
set_option linter.unusedVariables false
open Go.Maps

end Go.Proofs.Ytbopdijnojaaiab
