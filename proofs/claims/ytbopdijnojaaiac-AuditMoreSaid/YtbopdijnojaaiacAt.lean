/- The laws' own 'at': a number brought within bounds. No statement of the seat is proved here. -/
import Derived.Test.YtbopdijnojaaiacProg
import Derived.Test.YtbopdijnojaaiacBase
namespace Go.Proofs.Ytbopdijnojaaiac
open Go.RowKit
set_option linter.unusedSimpArgs false
set_option linter.unusedVariables false

theorem tmod_lit (k n : Int) (hn : n = 8 ∨ n = 64 ∨ n = 512 ∨ n = 65536) : -n < k.tmod n ∧ k.tmod n < n ∧ (0 ≤ k.tmod n → k.tmod n = k % n) ∧ (k.tmod n < 0 → k.tmod n + n = k % n) := by
  rcases Int.le_total 0 k with h | h
  · rw [Int.tmod_eq_emod_of_nonneg h]
    rcases hn with rfl | rfl | rfl | rfl <;> omega
  · obtain ⟨m, rfl⟩ : ∃ m, k = -m := ⟨-k, by omega⟩
    rw [Int.neg_tmod, Int.tmod_eq_emod_of_nonneg (by omega)]
    rcases hn with rfl | rfl | rfl | rfl <;> omega

theorem wrap64_at {k : Int} (n : Int) (h1 : -n < k.tmod n) (h2 : k.tmod n < n) (hn : 0 ≤ n ∧ n ≤ 65536) : wrap64 (k.tmod n + n) = k.tmod n + n := by
  generalize k.tmod n = t at *
  unfold wrap64; omega
set_option maxRecDepth 100000 in
set_option maxHeartbeats 1000000 in
theorem law_at (k n : Int) (hn : n = 8 ∨ n = 64 ∨ n = 512 ∨ n = 65536) (w : World) : Calls Try.prog 21 #[.int .i64 k, .int .i64 n] w fun e w' => e = .returned (.int .i64 (k % n)) ∧ w = w' := by
  obtain ⟨h1, h2, h3, h4⟩ := tmod_lit k n hn
  have H3 := Lib.hid h3
  have H4 := Lib.hid h4
  clear h3 h4
  rcases hn with rfl | rfl | rfl | rfl
  all_goals
    have HW := Lib.hid (wrap64_at _ h1 h2 (by decide))
    clear h1 h2
    go_enter Try.func21, Try.ntmps21
    go_wp2
    all_goals go_ret
    all_goals first
      | exact ⟨ret_int (H3.out (by assumption)), rfl⟩
      | exact ⟨ret_int (HW.out.trans (H4.out (by assumption))), rfl⟩
end Go.Proofs.Ytbopdijnojaaiac
