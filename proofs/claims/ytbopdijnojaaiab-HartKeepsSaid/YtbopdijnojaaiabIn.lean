/- The document's own 'is a number from one to another one'. No statement of the seat is proved here. -/
import Derived.Test.YtbopdijnojaaiabProg
import Derived.Test.YtbopdijnojaaiabBase
namespace Go.Proofs.Ytbopdijnojaaiab
open Go.RowKit
set_option linter.unusedSimpArgs false
set_option linter.unusedVariables false

def inB (n a b : Int) : Bool := decide (a ≤ n) && decide (n ≤ b)
theorem inB_t {n a b : Int} (h : a ≤ n ∧ n ≤ b) : inB n a b = true := by simp [inB, h]
theorem inB_f {n a b : Int} (h : ¬ (a ≤ n ∧ n ≤ b)) : inB n a b = false := by simp only [inB, Bool.and_eq_false_iff, decide_eq_false_iff_not]; omega
set_option maxRecDepth 100000 in
set_option maxHeartbeats 400000 in
theorem ref_in (n a b : Int) (w : World) :
    Calls Try.prog 70 #[.int .i64 n, .int .i64 a, .int .i64 b] w fun e w' => e = .returned (.bool (inB n a b)) ∧ w = w' := by
  go_enter Try.func70, Try.ntmps70
  go_wp2
  all_goals go_ret
  all_goals refine ⟨ret_bool ?_, rfl⟩
  all_goals (rw [Bool.eq_iff_iff]; simp [inB] <;> omega)

end Go.Proofs.Ytbopdijnojaaiab
