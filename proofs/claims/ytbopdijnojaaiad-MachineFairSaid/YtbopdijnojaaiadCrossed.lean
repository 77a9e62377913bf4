/- The laws' own 'tables' and 'crossed': a closed fact on bridges. No statement of the seat is proved here. -/
import Derived.Test.YtbopdijnojaaiadBridgeS
import Derived.Test.YtbopdijnojaaiadMemZ
namespace Go.Proofs.Ytbopdijnojaaiad
open Go.RowKit
set_option linter.unusedSimpArgs false
set_option linter.unusedVariables false

def tabM : List Int := withL (List.replicate 512 0) [9, 33, 10, 3, 16, 49, 24, 159, 25, 139]
theorem tabM_eq : withL (List.replicate 512 0) [9, 33, 10, 3, 16, 49, 24, 159, 25, 139] = tabM := rfl
def tabB : Brg := ⟨2, 1, [], ⟨40, 0, 0⟩, false, 0, ⟨41, 0, 0⟩, false⟩
set_option maxRecDepth 100000 in
set_option maxHeartbeats 4000000 in
theorem law_tables (w : World) : Calls Try.prog 14 #[] w fun e w' => ∃ A c, e = .returned (.tuple #[.agg #[.slice A 512 c], .agg #[.int .i64 tabB.mode, .int .i64 tabB.base, .slice none 0 0, .int .i64 tabB.orders.page, .int .i64 tabB.orders.head, .int .i64 tabB.orders.tail, .bool tabB.stopped, .int .i64 tabB.fences, .int .i64 tabB.faults.page, .int .i64 tabB.faults.head, .int .i64 tabB.faults.tail, .bool tabB.lost]]) ∧ OwnI w.heap.size w' A 512 c tabM ∧ Below w.heap.size w w' := by
  go_enter Try.func14, Try.ntmps14
  go_wp2_with fail
  refine (law_with _ _ _ [9, 33, 10, 3, 16, 49, 24, 159, 25, 139] _ (Ints.of_cells rfl (by decide) (by simp) ?_) (by decide) (by simp [places])).mono ?_
  · intro k
    simp [go_sem]
  rintro e w1 ⟨A1, d1, rfl, ho1, hb1⟩
  rw [tabM_eq] at ho1
  have HO : Hid (OwnI (w.heap.size + 1 + 1) w1 A1 512 d1 tabM) := Lib.hid (ho1.low (by simp))
  clear ho1
  have hz1 := hb1.size
  (try simp only [World.size_alloc, World.size_setCell, World.size_drew] at hz1)
  have k1_0 := fun o => (bcell hb1).1 (w.heap.size) o (by first | (simp; done) | (simp; omega) | omega)
  have l1_0 : (w.heap.size) < w1.heap.size := (by omega)
  have q1_0 := fun o => (bcell hb1).2 (w.heap.size) o (by first | (simp; done) | (simp; omega) | omega)
  have k1_1 := fun o => (bcell hb1).1 (w.heap.size + 1) o (by first | (simp; done) | (simp; omega) | omega)
  have l1_1 : (w.heap.size + 1) < w1.heap.size := (by omega)
  have q1_1 := fun o => (bcell hb1).2 (w.heap.size + 1) o (by first | (simp; done) | (simp; omega) | omega)
  simp (maxDischargeDepth := 6) [go_sem, *] at k1_0 q1_0 k1_1 q1_1
  have HB1 := Lib.hid hb1
  clear hb1
  go_wp2
  refine bodyPost_ret (v := .tuple #[.agg #[.slice A1 512 d1], .agg #[.int .i64 tabB.mode, .int .i64 tabB.base, .slice none 0 0, .int .i64 tabB.orders.page, .int .i64 tabB.orders.head, .int .i64 tabB.orders.tail, .bool tabB.stopped, .int .i64 tabB.fences, .int .i64 tabB.faults.page, .int .i64 tabB.faults.head, .int .i64 tabB.faults.tail, .bool tabB.lost]]) ?_ rfl ⟨A1, d1, rfl, ?_, ?_⟩
  · simp (maxDischargeDepth := 8) [results, Try.results14, go_sem, tabB, *]
  · (refine OwnI.low (B := w.heap.size + 1 + 1) ?_ (by omega)); (repeat (first | (with_reducible refine OwnI.drew ?_) | (with_reducible refine OwnI.drewN ?_ _) | (with_reducible refine OwnI.alloc ?_ _) | (with_reducible exact HO.out) | (with_reducible refine OwnI.set ?_ (by first | (simp; done) | (simp; omega)) _)))
  · (repeat (first | (with_reducible exact Below.refl _ _) | (with_reducible refine Below.drew ?_) | (with_reducible refine bdrewN ?_ _) | ((with_reducible refine Below.setCell ?_ ?_ _); rotate_left; exact (by first | (simp; done) | (simp; omega) | omega)) | ((with_reducible refine Below.alloc ?_ ?_ _); rotate_left; exact (by first | (simp; done) | (simp; omega) | omega)) | ((with_reducible refine Below.trans ?_ (HB1.out.mono ?_)); rotate_left; exact (by first | (simp; done) | (simp; omega) | omega))))

end Go.Proofs.Ytbopdijnojaaiad
