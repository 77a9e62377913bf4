/- Tables: the walk of the laws' closed fact 'walked'. No statement of the seat is proved here. -/
import Derived.Test.YtbopdijnojaaiabWalk
import Derived.Test.YtbopdijnojaaiabMemZ
namespace Go.Proofs.Ytbopdijnojaaiab
open Go.RowKit
set_option linter.unusedSimpArgs false
set_option linter.unusedVariables false

section
end

section
end
end Go.Proofs.Ytbopdijnojaaiab
