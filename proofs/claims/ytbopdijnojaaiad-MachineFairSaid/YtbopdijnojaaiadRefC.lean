/- The document's cache: the walks of CheckCache, with its map, and of LineAt. No statement of the seat is proved here. -/
import Derived.Test.YtbopdijnojaaiadDrop
import Derived.Test.YtbopdijnojaaiadSlices
namespace Go.Proofs.Ytbopdijnojaaiad
open Go.RowKit
set_option linter.unusedSimpArgs false
set_option linter.unusedVariables false
open Go.Maps

end Go.Proofs.Ytbopdijnojaaiad
