/- Tables: the walks of the program's functions of chapter 3. No statement of the seat is proved here. -/
import Derived.Test.YtbopdijnojaaiabBase
import Derived.Test.YtbopdijnojaaiabMem
import Derived.Test.YtbopdijnojaaiabEntryX
namespace Go.Proofs.Ytbopdijnojaaiab
open Go.RowKit
set_option linter.unusedSimpArgs false
set_option linter.unusedVariables false

end Go.Proofs.Ytbopdijnojaaiab
