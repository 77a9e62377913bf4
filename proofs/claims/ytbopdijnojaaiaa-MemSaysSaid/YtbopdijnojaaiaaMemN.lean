/- Memory: the walk of New. No statement of the seat is proved here. -/
import Derived.Test.YtbopdijnojaaiaaMemZ
namespace Go.Proofs.Ytbopdijnojaaiaa
open Go.RowKit
set_option linter.unusedSimpArgs false
set_option linter.unusedVariables false

set_option maxRecDepth 100000 in
set_option maxHeartbeats 1000000 in
theorem mem_New (w : World) : Calls Try.prog 44 #[] w fun e w' => ∃ A c, e = .returned (.agg #[.slice A 512 c]) ∧ OwnI w.heap.size w' A 512 c (List.replicate 512 0) ∧ Below w.heap.size w w' := by
  have hmk := make512
  have HO := Lib.hid (own_zeros (w.alloc (.cells #[.slice (some ⟨w.heap.size + 1, 0, none⟩) 512 512] 59)))
  simp only [World.size_alloc] at HO
  go_enter Try.func44, Try.ntmps44
  go_wp2
  refine bodyPost_ret (v := .agg #[.slice (some ⟨w.heap.size + 1, 0, none⟩) 512 512]) ?_ rfl ⟨_, _, rfl, HO.out.low (by omega), ?_⟩
  · simp (maxDischargeDepth := 8) [results, Try.results44, go_sem]
  · (repeat (first | (with_reducible exact Below.refl _ _) | (with_reducible refine Below.drew ?_) | (with_reducible refine bdrewN ?_ _) | ((with_reducible refine Below.setCell ?_ ?_ _); rotate_left; exact (by first | (simp; done) | (simp; omega) | omega)) | ((with_reducible refine Below.alloc ?_ ?_ _); rotate_left; exact (by first | (simp; done) | (simp; omega) | omega))))
end Go.Proofs.Ytbopdijnojaaiaa
