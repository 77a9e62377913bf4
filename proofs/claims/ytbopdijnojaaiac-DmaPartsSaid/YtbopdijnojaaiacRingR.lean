/- Rings: Push, Pop and the document's Pushed, Popped, each by one contract for good and bad asks alike. No statement of the seat is proved here. -/
import Derived.Test.YtbopdijnojaaiacRing
import Derived.Test.YtbopdijnojaaiacMemZ
import Derived.Test.YtbopdijnojaaiacBase
import Derived.RegionTactic
import Derived.Deep.RegionHeld3
import Derived.Deep.DrawnRows
namespace Go.Proofs.Ytbopdijnojaaiac
open Go.RowKit
set_option linter.unusedSimpArgs false
set_option linter.unusedVariables false

section
attribute [local go_sem ↓] Go.wp_at_zero Go.wp_at_succ

end

section
end
end Go.Proofs.Ytbopdijnojaaiac
