/- The document's bridge: the walks of CheckBridge and SameBridge. No statement of the seat is proved here. -/
import Derived.Test.YtbopdijnojaaiabRefC
import Derived.Test.YtbopdijnojaaiabRingR
import Derived.Test.YtbopdijnojaaiabBridgeS
namespace Go.Proofs.Ytbopdijnojaaiab
open Go.RowKit
set_option linter.unusedSimpArgs false
set_option linter.unusedVariables false

end Go.Proofs.Ytbopdijnojaaiab
