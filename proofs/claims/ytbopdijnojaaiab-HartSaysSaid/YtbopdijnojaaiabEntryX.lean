/- Contexts as words: the walk of the program's ReadContext. No statement of the seat is proved here. -/
import Derived.Test.YtbopdijnojaaiabBits
namespace Go.Proofs.Ytbopdijnojaaiab
open Go.RowKit
set_option linter.unusedSimpArgs false
set_option linter.unusedVariables false

section
end

section
end
end Go.Proofs.Ytbopdijnojaaiab
