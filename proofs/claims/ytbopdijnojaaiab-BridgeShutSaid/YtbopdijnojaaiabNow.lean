/- What lay in memory lies in it still. No program in sight, no statement of the seat is proved here. -/
import Derived.Test.YtbopdijnojaaiabLines
namespace Go.Proofs.Ytbopdijnojaaiab
open Go.RowKit
set_option linter.unusedSimpArgs false
set_option linter.unusedVariables false
theorem ints_now {w W : World} {A : Option Addr} {n : Nat} {xs : List Int} (hx : Ints w w.heap.size A n xs) (h : Below w.heap.size w W) : Ints W W.heap.size A n xs := (hx.below h).more h.size
theorem lines_now {w W : World} {A : Option Addr} {n c : Nat} {ls : List Line} (hx : Lines w w.heap.size A n c ls) (h : Below w.heap.size w W) : Lines W W.heap.size A n c ls := (hx.below h).more h.size
end Go.Proofs.Ytbopdijnojaaiab
