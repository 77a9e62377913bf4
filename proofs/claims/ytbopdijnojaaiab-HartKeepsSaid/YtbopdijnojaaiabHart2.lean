/- The hart: the walk of the program's in. No statement of the seat is proved here. -/
import Derived.Test.YtbopdijnojaaiabHartP
import Derived.Test.YtbopdijnojaaiabLines
namespace Go.Proofs.Ytbopdijnojaaiab
open Go.RowKit
set_option linter.unusedSimpArgs false
set_option linter.unusedVariables false

theorem brgIn_some (b : Brg) {k : Int} (h : 0 ≤ k ∧ k < 10) : [Value.int .i64 b.mode, .int .i64 b.base, .int .i64 b.orders.page, .int .i64 b.orders.tail, .int .i64 b.orders.head, .int .i64 b.faults.page, .int .i64 b.faults.head, .int .i64 b.faults.tail, .int .i64 b.fences, .int .i64 (stB b)][k.toNat]? = some (.int .i64 (brgIn b k)) := by
  have hk : k = 0 ∨ k = 1 ∨ k = 2 ∨ k = 3 ∨ k = 4 ∨ k = 5 ∨ k = 6 ∨ k = 7 ∨ k = 8 ∨ k = 9 := by omega
  rcases hk with rfl | rfl | rfl | rfl | rfl | rfl | rfl | rfl | rfl | rfl <;> rfl
def inV (b : Brg) (k : Int) : Int := if k < 10 then brgIn b k else 0
set_option maxRecDepth 100000 in
set_option maxHeartbeats 4000000 in
theorem hart_in (b : Brg) (A : Option Addr) (n c : Nat) (k : Int) (w : World) (hk : 0 ≤ k) :
    Calls Try.prog 107 #[.agg #[.int .i64 b.mode, .int .i64 b.base, .slice A n c, .int .i64 b.orders.page, .int .i64 b.orders.head, .int .i64 b.orders.tail, .bool b.stopped, .int .i64 b.fences, .int .i64 b.faults.page, .int .i64 b.faults.head, .int .i64 b.faults.tail, .bool b.lost], .int .i64 k] w fun e w' => e = .returned (.tuple #[.int .i64 (inV b k), .bool (decide (k < 10))]) ∧ Below w.heap.size w w' := by
  have HB := Lib.hid (below_alloc w)
  by_cases h : k < 10
  · have HS := brgIn_some b ⟨hk, h⟩
    rw [show inV b k = brgIn b k by unfold inV; rw [if_pos h], show decide (k < 10) = true by simp [h]]
    have e0 : IntKind.i64.wrap (0 + 2) = 2 := by decide
    have e1 : IntKind.i64.wrap (1 + 2) = 3 := by decide
    cases hs : b.stopped <;> cases hl : b.lost
    all_goals
      simp only [stB, hs, hl, if_true, if_false, Bool.false_eq_true, Int.add_zero, Int.zero_add] at HS
      obtain ⟨hlt, hg⟩ := List.getElem?_eq_some_iff.1 HS
      have HG := Lib.hid hg
      clear hg HS
      go_enter Try.func107, Try.ntmps107
      go_wp2
      go_ret2
      simp only [Array.getD_eq_getD_getElem?, List.getElem?_toArray, List.getElem?_cons_zero, List.getElem?_cons_succ, Option.getD_some]
      exact ⟨congrArg (fun v => Ending.returned (.tuple #[v, .bool true])) HG.out, by (repeat (first | (with_reducible exact Below.refl _ _) | (with_reducible refine Below.drew ?_) | (with_reducible refine bdrewN ?_ _) | ((with_reducible refine Below.setCell ?_ ?_ _); rotate_left; exact (by first | (simp; done) | (simp; omega) | omega)) | ((with_reducible refine Below.alloc ?_ ?_ _); rotate_left; exact (by first | (simp; done) | (simp; omega) | omega))))⟩
  · rw [show inV b k = 0 by unfold inV; rw [if_neg h], show decide (k < 10) = false by simp [h]]
    cases hs : b.stopped <;> cases hl : b.lost
    all_goals
      go_enter Try.func107, Try.ntmps107
      go_wp2
      go_ret2
      exact ⟨rfl, by (repeat (first | (with_reducible exact Below.refl _ _) | (with_reducible refine Below.drew ?_) | (with_reducible refine bdrewN ?_ _) | ((with_reducible refine Below.setCell ?_ ?_ _); rotate_left; exact (by first | (simp; done) | (simp; omega) | omega)) | ((with_reducible refine Below.alloc ?_ ?_ _); rotate_left; exact (by first | (simp; done) | (simp; omega) | omega))))⟩
end Go.Proofs.Ytbopdijnojaaiab
