/- The bridge: the walk of the program's fresh. No statement of the seat is proved here. -/
import Derived.Test.YtbopdijnojaaiabBridgeC
import Derived.Test.YtbopdijnojaaiabWalkW
import Derived.Test.YtbopdijnojaaiabEntryX
namespace Go.Proofs.Ytbopdijnojaaiab
open Go.RowKit
set_option linter.unusedSimpArgs false
set_option linter.unusedVariables false

end Go.Proofs.Ytbopdijnojaaiab
