/- The document's bridge: the walks of CheckBridge and SameBridge. No statement of the seat is proved here. -/
import Derived.Test.YtbopdijnojaaiacRefC
import Derived.Test.YtbopdijnojaaiacRingR
import Derived.Test.YtbopdijnojaaiacBridgeS
namespace Go.Proofs.Ytbopdijnojaaiac
open Go.RowKit
set_option linter.unusedSimpArgs false
set_option linter.unusedVariables false

end Go.Proofs.Ytbopdijnojaaiac
