/- Entries and contexts as words: the walk of the program's bit. No statement of the seat is proved here. -/
import Derived.Test.YtbopdijnojaaiabProg
import Derived.Test.YtbopdijnojaaiabEntry
import Derived.Test.YtbopdijnojaaiabBits
namespace Go.Proofs.Ytbopdijnojaaiab
open Go.RowKit
set_option linter.unusedSimpArgs false
set_option linter.unusedVariables false

set_option maxRecDepth 100000 in
set_option maxHeartbeats 1000000 in
theorem entry_bit (v k : Int) (hk : k = 0 ∨ k = 1 ∨ k = 2 ∨ k = 3) (hv : 0 ≤ v ∧ v ≤ 65535) (w : World) : Calls Try.prog 90 #[.int .i64 v, .int .i64 k] w fun e w' => e = .returned (.bool (bitI v k)) ∧ w = w' := by
  obtain ⟨h1, h2⟩ := hv
  have e0 := and1 v (by omega) (by omega)
  have e1 := and1 (v / 2) (by omega) (by omega)
  have e2 := and1 (v / 4) (by omega) (by omega)
  have e3 := and1 (v / 8) (by omega) (by omega)
  rcases hk with rfl | rfl | rfl | rfl
  · rw [bitI0]
    go_enter Try.func90, Try.ntmps90
    go_wp2
    go_ret
    exact ⟨rfl, rfl⟩
  · rw [bitI1]
    go_enter Try.func90, Try.ntmps90
    go_wp2
    go_ret
    exact ⟨rfl, rfl⟩
  · rw [bitI2]
    go_enter Try.func90, Try.ntmps90
    go_wp2
    go_ret
    exact ⟨rfl, rfl⟩
  · rw [bitI3]
    go_enter Try.func90, Try.ntmps90
    go_wp2
    go_ret
    exact ⟨rfl, rfl⟩
end Go.Proofs.Ytbopdijnojaaiab
