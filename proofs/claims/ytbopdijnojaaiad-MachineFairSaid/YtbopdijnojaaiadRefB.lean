/- The document's bridge: the walks of CheckBridge and SameBridge. No statement of the seat is proved here. -/
import Derived.Test.YtbopdijnojaaiadRefC
import Derived.Test.YtbopdijnojaaiadRingR
import Derived.Test.YtbopdijnojaaiadBridgeS
namespace Go.Proofs.Ytbopdijnojaaiad
open Go.RowKit
set_option linter.unusedSimpArgs false
set_option linter.unusedVariables false

end Go.Proofs.Ytbopdijnojaaiad
