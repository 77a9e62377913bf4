/- The audit: the walks of the program's Check and of the document's CheckTouch. No statement of the seat is proved here. -/
import Derived.Test.YtbopdijnojaaiadMachQ
import Derived.Test.YtbopdijnojaaiadSlices
import Derived.IntWalk
namespace Go.Proofs.Ytbopdijnojaaiad
open Go.RowKit
set_option linter.unusedSimpArgs false
set_option linter.unusedVariables false

section
variable (x : Tch) (w : World)
set_option maxRecDepth 100000 in
set_option maxHeartbeats 2000000 in
theorem audit_Check : Calls Try.prog 15 #[.agg #[.int .i64 x.dev, .int .i64 x.seen, .int .i64 x.at_, .bool x.wr, .int .i64 x.value]] w fun e w' => e = .returned (.int .i64 (tchE x)) ∧ Below w.heap.size w w' := by
  have HB := Lib.hid (below_alloc w)
  by_cases hR : tchR x
  · have HR := Lib.hid hR
    unfold tchR at hR
    obtain ⟨⟨h1, h2⟩, ⟨h3, h4⟩, h5, h6⟩ := hR
    have e1 : x.seen.tmod 8 = x.seen % 8 := Int.tmod_eq_emod_of_nonneg h3
    have e2 : x.at_.tmod 8 = x.at_ % 8 := Int.tmod_eq_emod_of_nonneg h5
    cases hv : inWord x.value
    · rw [tchE_val HR.out hv]
      have h7 : x.value < 0 ∨ (0 ≤ x.value ∧ 65535 < x.value) := by simp [inWord] at hv; omega
      clear hv
      rcases h7 with h7 | ⟨h7, h8⟩
      all_goals
        go_enter Try.func15, Try.ntmps15
        go_wp2
        go_ret
        exact ⟨rfl, HB.out _⟩
    · have hv' : 0 ≤ x.value ∧ x.value ≤ 65535 := by simpa [inWord] using hv
      obtain ⟨h7, h8⟩ := hv'
      by_cases hf : x.seen % 8 = x.at_ % 8
      · rw [tchE_0 HR.out hv hf]
        have t : (x.seen % 8 != x.at_ % 8) = false := by rw [bne_eq_false_iff_eq]; exact hf
        clear hv hf
        go_enter Try.func15, Try.ntmps15
        go_wp2
        go_ret
        exact ⟨rfl, HB.out _⟩
      · rw [tchE_form HR.out hv hf]
        have t : (x.seen % 8 != x.at_ % 8) = true := by rw [bne_iff_ne]; exact hf
        clear hv hf
        go_enter Try.func15, Try.ntmps15
        go_wp2
        go_ret
        exact ⟨rfl, HB.out _⟩
  · rw [tchE_who hR]
    have h : x.dev < 0 ∨ (0 ≤ x.dev ∧ 8 ≤ x.dev) ∨ (0 ≤ x.dev ∧ x.dev < 8 ∧ x.seen < 0) ∨ (0 ≤ x.dev ∧ x.dev < 8 ∧ 0 ≤ x.seen ∧ 512 ≤ x.seen) ∨ (0 ≤ x.dev ∧ x.dev < 8 ∧ 0 ≤ x.seen ∧ x.seen < 512 ∧ x.at_ < 0) ∨ (0 ≤ x.dev ∧ x.dev < 8 ∧ 0 ≤ x.seen ∧ x.seen < 512 ∧ 0 ≤ x.at_ ∧ 512 ≤ x.at_) := by unfold tchR at hR; omega
    clear hR
    rcases h with h1 | ⟨h1, h2⟩ | ⟨h1, h2, h3⟩ | ⟨h1, h2, h3, h4⟩ | ⟨h1, h2, h3, h4, h5⟩ | ⟨h1, h2, h3, h4, h5, h6⟩
    all_goals
      go_enter Try.func15, Try.ntmps15
      go_wp2
      go_ret
      exact ⟨rfl, HB.out _⟩
end
end Go.Proofs.Ytbopdijnojaaiad
