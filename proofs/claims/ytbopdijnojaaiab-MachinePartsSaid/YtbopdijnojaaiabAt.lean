/- The laws' own 'at': a number brought within bounds. No statement of the seat is proved here. -/
import Derived.Test.YtbopdijnojaaiabProg
import Derived.Test.YtbopdijnojaaiabBase
namespace Go.Proofs.Ytbopdijnojaaiab
open Go.RowKit
set_option linter.unusedSimpArgs false
set_option linter.unusedVariables false

theorem wrap64_at {k : Int} (n : Int) (h1 : -n < k.tmod n) (h2 : k.tmod n < n) (hn : 0 ≤ n ∧ n ≤ 65536) : wrap64 (k.tmod n + n) = k.tmod n + n := by
  generalize k.tmod n = t at *
  unfold wrap64; omega
end Go.Proofs.Ytbopdijnojaaiab
