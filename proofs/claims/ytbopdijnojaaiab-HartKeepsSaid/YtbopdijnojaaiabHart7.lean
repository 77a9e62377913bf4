/- The hart: the walk of the program's Step where it is refused. No statement of the seat is proved here. -/
import Derived.Test.YtbopdijnojaaiabHart5
import Derived.Test.YtbopdijnojaaiabHart1
namespace Go.Proofs.Ytbopdijnojaaiab
open Go.RowKit
set_option linter.unusedSimpArgs false
set_option linter.unusedVariables false

/-- what Step answers. -/
def StepC (w : World) (r : List Int × Hrt × Brg) (E : Int) (e : Ending) (w' : World) : Prop :=
  ∃ A d P q Q m k, e = .returned (.tuple #[.agg #[.slice A 512 d], .agg #[.int .i64 r.2.1.at_, .slice P 8 q, .bool r.2.1.done], .agg #[.int .i64 r.2.2.mode, .int .i64 r.2.2.base, .slice Q m k, .int .i64 r.2.2.orders.page, .int .i64 r.2.2.orders.head, .int .i64 r.2.2.orders.tail, .bool r.2.2.stopped, .int .i64 r.2.2.fences, .int .i64 r.2.2.faults.page, .int .i64 r.2.2.faults.head, .int .i64 r.2.2.faults.tail, .bool r.2.2.lost], .int .i64 E]) ∧
    Ints w' w'.heap.size A 512 r.1 ∧ Ints w' w'.heap.size P 8 r.2.1.regs ∧ Lines w' w'.heap.size Q m k r.2.2.cache ∧ Below w.heap.size w w' ∧
    (∀ ad, A = some ad → w.heap.size ≤ ad.block) ∧ (∀ ad, P = some ad → w.heap.size ≤ ad.block) ∧ ∀ ad, Q = some ad → w.heap.size ≤ ad.block
section
variable (xs : List Int) (h : Hrt) (b : Brg) (M R L : Option Addr) (nm mc nr rc n c : Nat) (w : World)
set_option maxRecDepth 100000 in
set_option maxHeartbeats 2000000 in
theorem step_no1 (hm : Ints w w.heap.size M nm xs) (hc : cm xs ≠ 0) :
    Calls Try.prog 50 #[.agg #[.slice M nm mc], .agg #[.int .i64 h.at_, .slice R nr rc, .bool h.done], .agg #[.int .i64 b.mode, .int .i64 b.base, .slice L n c, .int .i64 b.orders.page, .int .i64 b.orders.head, .int .i64 b.orders.tail, .bool b.stopped, .int .i64 b.fences, .int .i64 b.faults.page, .int .i64 b.faults.head, .int .i64 b.faults.tail, .bool b.lost]] w fun e w' => e = .returned (.tuple #[.agg #[.slice none 0 0], .agg #[.int .i64 0, .slice none 0 0, .bool false], .agg #[.int .i64 Brg.no.mode, .int .i64 Brg.no.base, .slice none 0 0, .int .i64 Brg.no.orders.page, .int .i64 Brg.no.orders.head, .int .i64 Brg.no.orders.tail, .bool Brg.no.stopped, .int .i64 Brg.no.fences, .int .i64 Brg.no.faults.page, .int .i64 Brg.no.faults.head, .int .i64 Brg.no.faults.tail, .bool Brg.no.lost], .int .i64 (cm xs)]) ∧ Below w.heap.size w w' := by
  have HM := Lib.hid hm
  have t0 : (cm xs == 0) = false := by rw [beq_eq_false_iff_ne]; exact hc
  have t1 : (cm xs != 0) = true := by rw [bne_iff_ne]; exact hc
  clear hm hc
  go_enter Try.func50, Try.ntmps50
  go_wp2_with fail
  refine (mem_Check _ _ _ xs _ (ints_now HM.out (by (repeat (first | (with_reducible exact Below.refl _ _) | (with_reducible refine Below.drew ?_) | (with_reducible refine bdrewN ?_ _) | ((with_reducible refine Below.setCell ?_ ?_ _); rotate_left; exact (by first | (simp; done) | (simp; omega) | omega)) | ((with_reducible refine Below.alloc ?_ ?_ _); rotate_left; exact (by first | (simp; done) | (simp; omega) | omega))))))).mono ?_
  rintro e w1 ⟨rfl, hb1⟩
  have hz1 := hb1.size
  (try simp only [World.size_alloc, World.size_setCell, World.size_drew] at hz1)
  have k1_0 := fun o => (bcell hb1).1 (w.heap.size) o (by first | (simp; done) | (simp; omega) | omega)
  have l1_0 : (w.heap.size) < w1.heap.size := (by omega)
  have q1_0 := fun o => (bcell hb1).2 (w.heap.size) o (by first | (simp; done) | (simp; omega) | omega)
  have k1_1 := fun o => (bcell hb1).1 (w.heap.size + 1) o (by first | (simp; done) | (simp; omega) | omega)
  have l1_1 : (w.heap.size + 1) < w1.heap.size := (by omega)
  have q1_1 := fun o => (bcell hb1).2 (w.heap.size + 1) o (by first | (simp; done) | (simp; omega) | omega)
  have k1_2 := fun o => (bcell hb1).1 (w.heap.size + 1 + 1) o (by first | (simp; done) | (simp; omega) | omega)
  have l1_2 : (w.heap.size + 1 + 1) < w1.heap.size := (by omega)
  have q1_2 := fun o => (bcell hb1).2 (w.heap.size + 1 + 1) o (by first | (simp; done) | (simp; omega) | omega)
  have k1_3 := fun o => (bcell hb1).1 (w.heap.size + 1 + 1 + 1) o (by first | (simp; done) | (simp; omega) | omega)
  have l1_3 : (w.heap.size + 1 + 1 + 1) < w1.heap.size := (by omega)
  have q1_3 := fun o => (bcell hb1).2 (w.heap.size + 1 + 1 + 1) o (by first | (simp; done) | (simp; omega) | omega)
  have k1_4 := fun o => (bcell hb1).1 (w.heap.size + 1 + 1 + 1 + 1) o (by first | (simp; done) | (simp; omega) | omega)
  have l1_4 : (w.heap.size + 1 + 1 + 1 + 1) < w1.heap.size := (by omega)
  have q1_4 := fun o => (bcell hb1).2 (w.heap.size + 1 + 1 + 1 + 1) o (by first | (simp; done) | (simp; omega) | omega)
  have k1_5 := fun o => (bcell hb1).1 (w.heap.size + 1 + 1 + 1 + 1 + 1) o (by first | (simp; done) | (simp; omega) | omega)
  have l1_5 : (w.heap.size + 1 + 1 + 1 + 1 + 1) < w1.heap.size := (by omega)
  have q1_5 := fun o => (bcell hb1).2 (w.heap.size + 1 + 1 + 1 + 1 + 1) o (by first | (simp; done) | (simp; omega) | omega)
  simp (maxDischargeDepth := 6) [go_sem, *] at k1_0 q1_0 k1_1 q1_1 k1_2 q1_2 k1_3 q1_3 k1_4 q1_4 k1_5 q1_5
  have HB1 := Lib.hid hb1
  clear hb1
  go_wp2
  refine bodyPost_ret (v := .tuple #[.agg #[.slice none 0 0], .agg #[.int .i64 0, .slice none 0 0, .bool false], .agg #[.int .i64 Brg.no.mode, .int .i64 Brg.no.base, .slice none 0 0, .int .i64 Brg.no.orders.page, .int .i64 Brg.no.orders.head, .int .i64 Brg.no.orders.tail, .bool Brg.no.stopped, .int .i64 Brg.no.fences, .int .i64 Brg.no.faults.page, .int .i64 Brg.no.faults.head, .int .i64 Brg.no.faults.tail, .bool Brg.no.lost], .int .i64 (cm xs)]) ?_ rfl ⟨rfl, ?_⟩
  · simp (maxDischargeDepth := 8) [results, Try.results50, go_sem, Brg.no, Ring.no, *]
  · (repeat (first | (with_reducible exact Below.refl _ _) | (with_reducible refine Below.drew ?_) | (with_reducible refine bdrewN ?_ _) | ((with_reducible refine Below.setCell ?_ ?_ _); rotate_left; exact (by first | (simp; done) | (simp; omega) | omega)) | ((with_reducible refine Below.alloc ?_ ?_ _); rotate_left; exact (by first | (simp; done) | (simp; omega) | omega)) | ((with_reducible refine Below.trans ?_ (HB1.out.mono ?_)); rotate_left; exact (by first | (simp; done) | (simp; omega) | omega))))
set_option maxRecDepth 100000 in
set_option maxHeartbeats 2000000 in
theorem step_no2 (hm : Ints w w.heap.size M nm xs) (hr : Ints w w.heap.size R nr h.regs) (c1 : cm xs = 0) (hc : ckH h ≠ 0) :
    Calls Try.prog 50 #[.agg #[.slice M nm mc], .agg #[.int .i64 h.at_, .slice R nr rc, .bool h.done], .agg #[.int .i64 b.mode, .int .i64 b.base, .slice L n c, .int .i64 b.orders.page, .int .i64 b.orders.head, .int .i64 b.orders.tail, .bool b.stopped, .int .i64 b.fences, .int .i64 b.faults.page, .int .i64 b.faults.head, .int .i64 b.faults.tail, .bool b.lost]] w fun e w' => e = .returned (.tuple #[.agg #[.slice none 0 0], .agg #[.int .i64 0, .slice none 0 0, .bool false], .agg #[.int .i64 Brg.no.mode, .int .i64 Brg.no.base, .slice none 0 0, .int .i64 Brg.no.orders.page, .int .i64 Brg.no.orders.head, .int .i64 Brg.no.orders.tail, .bool Brg.no.stopped, .int .i64 Brg.no.fences, .int .i64 Brg.no.faults.page, .int .i64 Brg.no.faults.head, .int .i64 Brg.no.faults.tail, .bool Brg.no.lost], .int .i64 (ckH h)]) ∧ Below w.heap.size w w' := by
  have HM := Lib.hid hm
  have HR := Lib.hid hr
  have Hc1 := Lib.hid c1
  have t0 : (ckH h == 0) = false := by rw [beq_eq_false_iff_ne]; exact hc
  have t1 : (ckH h != 0) = true := by rw [bne_iff_ne]; exact hc
  clear hm hr c1 hc
  go_enter Try.func50, Try.ntmps50
  go_wp2_with fail
  refine (mem_Check _ _ _ xs _ (ints_now HM.out (by (repeat (first | (with_reducible exact Below.refl _ _) | (with_reducible refine Below.drew ?_) | (with_reducible refine bdrewN ?_ _) | ((with_reducible refine Below.setCell ?_ ?_ _); rotate_left; exact (by first | (simp; done) | (simp; omega) | omega)) | ((with_reducible refine Below.alloc ?_ ?_ _); rotate_left; exact (by first | (simp; done) | (simp; omega) | omega))))))).mono ?_
  rw [Hc1.out]
  rintro e w1 ⟨rfl, hb1⟩
  have hz1 := hb1.size
  (try simp only [World.size_alloc, World.size_setCell, World.size_drew] at hz1)
  have k1_0 := fun o => (bcell hb1).1 (w.heap.size) o (by first | (simp; done) | (simp; omega) | omega)
  have l1_0 : (w.heap.size) < w1.heap.size := (by omega)
  have q1_0 := fun o => (bcell hb1).2 (w.heap.size) o (by first | (simp; done) | (simp; omega) | omega)
  have k1_1 := fun o => (bcell hb1).1 (w.heap.size + 1) o (by first | (simp; done) | (simp; omega) | omega)
  have l1_1 : (w.heap.size + 1) < w1.heap.size := (by omega)
  have q1_1 := fun o => (bcell hb1).2 (w.heap.size + 1) o (by first | (simp; done) | (simp; omega) | omega)
  have k1_2 := fun o => (bcell hb1).1 (w.heap.size + 1 + 1) o (by first | (simp; done) | (simp; omega) | omega)
  have l1_2 : (w.heap.size + 1 + 1) < w1.heap.size := (by omega)
  have q1_2 := fun o => (bcell hb1).2 (w.heap.size + 1 + 1) o (by first | (simp; done) | (simp; omega) | omega)
  have k1_3 := fun o => (bcell hb1).1 (w.heap.size + 1 + 1 + 1) o (by first | (simp; done) | (simp; omega) | omega)
  have l1_3 : (w.heap.size + 1 + 1 + 1) < w1.heap.size := (by omega)
  have q1_3 := fun o => (bcell hb1).2 (w.heap.size + 1 + 1 + 1) o (by first | (simp; done) | (simp; omega) | omega)
  have k1_4 := fun o => (bcell hb1).1 (w.heap.size + 1 + 1 + 1 + 1) o (by first | (simp; done) | (simp; omega) | omega)
  have l1_4 : (w.heap.size + 1 + 1 + 1 + 1) < w1.heap.size := (by omega)
  have q1_4 := fun o => (bcell hb1).2 (w.heap.size + 1 + 1 + 1 + 1) o (by first | (simp; done) | (simp; omega) | omega)
  have k1_5 := fun o => (bcell hb1).1 (w.heap.size + 1 + 1 + 1 + 1 + 1) o (by first | (simp; done) | (simp; omega) | omega)
  have l1_5 : (w.heap.size + 1 + 1 + 1 + 1 + 1) < w1.heap.size := (by omega)
  have q1_5 := fun o => (bcell hb1).2 (w.heap.size + 1 + 1 + 1 + 1 + 1) o (by first | (simp; done) | (simp; omega) | omega)
  simp (maxDischargeDepth := 6) [go_sem, *] at k1_0 q1_0 k1_1 q1_1 k1_2 q1_2 k1_3 q1_3 k1_4 q1_4 k1_5 q1_5
  have HB1 := Lib.hid hb1
  clear hb1
  go_wp2_with fail
  refine (hart_Check h _ _ _ _ (ints_now HR.out (by (repeat (first | (with_reducible exact Below.refl _ _) | (with_reducible refine Below.drew ?_) | (with_reducible refine bdrewN ?_ _) | ((with_reducible refine Below.setCell ?_ ?_ _); rotate_left; exact (by first | (simp; done) | (simp; omega) | omega)) | ((with_reducible refine Below.alloc ?_ ?_ _); rotate_left; exact (by first | (simp; done) | (simp; omega) | omega)) | ((with_reducible refine Below.trans ?_ (HB1.out.mono ?_)); rotate_left; exact (by first | (simp; done) | (simp; omega) | omega))))))).mono ?_
  rintro e w2 ⟨rfl, hb2⟩
  have hz2 := hb2.size
  (try simp only [World.size_alloc, World.size_setCell, World.size_drew] at hz2)
  have k2_0 := fun o => (bcell hb2).1 (w.heap.size) o (by first | (simp; done) | (simp; omega) | omega)
  have l2_0 : (w.heap.size) < w2.heap.size := (by omega)
  have q2_0 := fun o => (bcell hb2).2 (w.heap.size) o (by first | (simp; done) | (simp; omega) | omega)
  have k2_1 := fun o => (bcell hb2).1 (w.heap.size + 1) o (by first | (simp; done) | (simp; omega) | omega)
  have l2_1 : (w.heap.size + 1) < w2.heap.size := (by omega)
  have q2_1 := fun o => (bcell hb2).2 (w.heap.size + 1) o (by first | (simp; done) | (simp; omega) | omega)
  have k2_2 := fun o => (bcell hb2).1 (w.heap.size + 1 + 1) o (by first | (simp; done) | (simp; omega) | omega)
  have l2_2 : (w.heap.size + 1 + 1) < w2.heap.size := (by omega)
  have q2_2 := fun o => (bcell hb2).2 (w.heap.size + 1 + 1) o (by first | (simp; done) | (simp; omega) | omega)
  have k2_3 := fun o => (bcell hb2).1 (w.heap.size + 1 + 1 + 1) o (by first | (simp; done) | (simp; omega) | omega)
  have l2_3 : (w.heap.size + 1 + 1 + 1) < w2.heap.size := (by omega)
  have q2_3 := fun o => (bcell hb2).2 (w.heap.size + 1 + 1 + 1) o (by first | (simp; done) | (simp; omega) | omega)
  have k2_4 := fun o => (bcell hb2).1 (w.heap.size + 1 + 1 + 1 + 1) o (by first | (simp; done) | (simp; omega) | omega)
  have l2_4 : (w.heap.size + 1 + 1 + 1 + 1) < w2.heap.size := (by omega)
  have q2_4 := fun o => (bcell hb2).2 (w.heap.size + 1 + 1 + 1 + 1) o (by first | (simp; done) | (simp; omega) | omega)
  have k2_5 := fun o => (bcell hb2).1 (w.heap.size + 1 + 1 + 1 + 1 + 1) o (by first | (simp; done) | (simp; omega) | omega)
  have l2_5 : (w.heap.size + 1 + 1 + 1 + 1 + 1) < w2.heap.size := (by omega)
  have q2_5 := fun o => (bcell hb2).2 (w.heap.size + 1 + 1 + 1 + 1 + 1) o (by first | (simp; done) | (simp; omega) | omega)
  simp (maxDischargeDepth := 6) [go_sem, *] at k2_0 q2_0 k2_1 q2_1 k2_2 q2_2 k2_3 q2_3 k2_4 q2_4 k2_5 q2_5
  have HB2 := Lib.hid hb2
  clear hb2
  go_wp2
  refine bodyPost_ret (v := .tuple #[.agg #[.slice none 0 0], .agg #[.int .i64 0, .slice none 0 0, .bool false], .agg #[.int .i64 Brg.no.mode, .int .i64 Brg.no.base, .slice none 0 0, .int .i64 Brg.no.orders.page, .int .i64 Brg.no.orders.head, .int .i64 Brg.no.orders.tail, .bool Brg.no.stopped, .int .i64 Brg.no.fences, .int .i64 Brg.no.faults.page, .int .i64 Brg.no.faults.head, .int .i64 Brg.no.faults.tail, .bool Brg.no.lost], .int .i64 (ckH h)]) ?_ rfl ⟨rfl, ?_⟩
  · simp (maxDischargeDepth := 8) [results, Try.results50, go_sem, Brg.no, Ring.no, *]
  · (repeat (first | (with_reducible exact Below.refl _ _) | (with_reducible refine Below.drew ?_) | (with_reducible refine bdrewN ?_ _) | ((with_reducible refine Below.setCell ?_ ?_ _); rotate_left; exact (by first | (simp; done) | (simp; omega) | omega)) | ((with_reducible refine Below.alloc ?_ ?_ _); rotate_left; exact (by first | (simp; done) | (simp; omega) | omega)) | ((with_reducible refine Below.trans ?_ (HB2.out.mono ?_)); rotate_left; exact (by first | (simp; done) | (simp; omega) | omega)) | ((with_reducible refine Below.trans ?_ (HB1.out.mono ?_)); rotate_left; exact (by first | (simp; done) | (simp; omega) | omega))))
set_option maxRecDepth 100000 in
set_option maxHeartbeats 2000000 in
theorem step_no3 (hm : Ints w w.heap.size M nm xs) (hr : Ints w w.heap.size R nr h.regs) (hl : Lines w w.heap.size L n c b.cache) (c1 : cm xs = 0) (c2 : ckH h = 0) (hc : ckB b ≠ 0) :
    Calls Try.prog 50 #[.agg #[.slice M nm mc], .agg #[.int .i64 h.at_, .slice R nr rc, .bool h.done], .agg #[.int .i64 b.mode, .int .i64 b.base, .slice L n c, .int .i64 b.orders.page, .int .i64 b.orders.head, .int .i64 b.orders.tail, .bool b.stopped, .int .i64 b.fences, .int .i64 b.faults.page, .int .i64 b.faults.head, .int .i64 b.faults.tail, .bool b.lost]] w fun e w' => e = .returned (.tuple #[.agg #[.slice none 0 0], .agg #[.int .i64 0, .slice none 0 0, .bool false], .agg #[.int .i64 Brg.no.mode, .int .i64 Brg.no.base, .slice none 0 0, .int .i64 Brg.no.orders.page, .int .i64 Brg.no.orders.head, .int .i64 Brg.no.orders.tail, .bool Brg.no.stopped, .int .i64 Brg.no.fences, .int .i64 Brg.no.faults.page, .int .i64 Brg.no.faults.head, .int .i64 Brg.no.faults.tail, .bool Brg.no.lost], .int .i64 (ckB b)]) ∧ Below w.heap.size w w' := by
  have HM := Lib.hid hm
  have HR := Lib.hid hr
  have HL := Lib.hid hl
  have Hc1 := Lib.hid c1
  have Hc2 := Lib.hid c2
  have t0 : (ckB b == 0) = false := by rw [beq_eq_false_iff_ne]; exact hc
  have t1 : (ckB b != 0) = true := by rw [bne_iff_ne]; exact hc
  clear hm hr hl c1 c2 hc
  go_enter Try.func50, Try.ntmps50
  go_wp2_with fail
  refine (mem_Check _ _ _ xs _ (ints_now HM.out (by (repeat (first | (with_reducible exact Below.refl _ _) | (with_reducible refine Below.drew ?_) | (with_reducible refine bdrewN ?_ _) | ((with_reducible refine Below.setCell ?_ ?_ _); rotate_left; exact (by first | (simp; done) | (simp; omega) | omega)) | ((with_reducible refine Below.alloc ?_ ?_ _); rotate_left; exact (by first | (simp; done) | (simp; omega) | omega))))))).mono ?_
  rw [Hc1.out]
  rintro e w1 ⟨rfl, hb1⟩
  have hz1 := hb1.size
  (try simp only [World.size_alloc, World.size_setCell, World.size_drew] at hz1)
  have k1_0 := fun o => (bcell hb1).1 (w.heap.size) o (by first | (simp; done) | (simp; omega) | omega)
  have l1_0 : (w.heap.size) < w1.heap.size := (by omega)
  have q1_0 := fun o => (bcell hb1).2 (w.heap.size) o (by first | (simp; done) | (simp; omega) | omega)
  have k1_1 := fun o => (bcell hb1).1 (w.heap.size + 1) o (by first | (simp; done) | (simp; omega) | omega)
  have l1_1 : (w.heap.size + 1) < w1.heap.size := (by omega)
  have q1_1 := fun o => (bcell hb1).2 (w.heap.size + 1) o (by first | (simp; done) | (simp; omega) | omega)
  have k1_2 := fun o => (bcell hb1).1 (w.heap.size + 1 + 1) o (by first | (simp; done) | (simp; omega) | omega)
  have l1_2 : (w.heap.size + 1 + 1) < w1.heap.size := (by omega)
  have q1_2 := fun o => (bcell hb1).2 (w.heap.size + 1 + 1) o (by first | (simp; done) | (simp; omega) | omega)
  have k1_3 := fun o => (bcell hb1).1 (w.heap.size + 1 + 1 + 1) o (by first | (simp; done) | (simp; omega) | omega)
  have l1_3 : (w.heap.size + 1 + 1 + 1) < w1.heap.size := (by omega)
  have q1_3 := fun o => (bcell hb1).2 (w.heap.size + 1 + 1 + 1) o (by first | (simp; done) | (simp; omega) | omega)
  have k1_4 := fun o => (bcell hb1).1 (w.heap.size + 1 + 1 + 1 + 1) o (by first | (simp; done) | (simp; omega) | omega)
  have l1_4 : (w.heap.size + 1 + 1 + 1 + 1) < w1.heap.size := (by omega)
  have q1_4 := fun o => (bcell hb1).2 (w.heap.size + 1 + 1 + 1 + 1) o (by first | (simp; done) | (simp; omega) | omega)
  have k1_5 := fun o => (bcell hb1).1 (w.heap.size + 1 + 1 + 1 + 1 + 1) o (by first | (simp; done) | (simp; omega) | omega)
  have l1_5 : (w.heap.size + 1 + 1 + 1 + 1 + 1) < w1.heap.size := (by omega)
  have q1_5 := fun o => (bcell hb1).2 (w.heap.size + 1 + 1 + 1 + 1 + 1) o (by first | (simp; done) | (simp; omega) | omega)
  simp (maxDischargeDepth := 6) [go_sem, *] at k1_0 q1_0 k1_1 q1_1 k1_2 q1_2 k1_3 q1_3 k1_4 q1_4 k1_5 q1_5
  have HB1 := Lib.hid hb1
  clear hb1
  go_wp2_with fail
  refine (hart_Check h _ _ _ _ (ints_now HR.out (by (repeat (first | (with_reducible exact Below.refl _ _) | (with_reducible refine Below.drew ?_) | (with_reducible refine bdrewN ?_ _) | ((with_reducible refine Below.setCell ?_ ?_ _); rotate_left; exact (by first | (simp; done) | (simp; omega) | omega)) | ((with_reducible refine Below.alloc ?_ ?_ _); rotate_left; exact (by first | (simp; done) | (simp; omega) | omega)) | ((with_reducible refine Below.trans ?_ (HB1.out.mono ?_)); rotate_left; exact (by first | (simp; done) | (simp; omega) | omega))))))).mono ?_
  rw [Hc2.out]
  rintro e w2 ⟨rfl, hb2⟩
  have hz2 := hb2.size
  (try simp only [World.size_alloc, World.size_setCell, World.size_drew] at hz2)
  have k2_0 := fun o => (bcell hb2).1 (w.heap.size) o (by first | (simp; done) | (simp; omega) | omega)
  have l2_0 : (w.heap.size) < w2.heap.size := (by omega)
  have q2_0 := fun o => (bcell hb2).2 (w.heap.size) o (by first | (simp; done) | (simp; omega) | omega)
  have k2_1 := fun o => (bcell hb2).1 (w.heap.size + 1) o (by first | (simp; done) | (simp; omega) | omega)
  have l2_1 : (w.heap.size + 1) < w2.heap.size := (by omega)
  have q2_1 := fun o => (bcell hb2).2 (w.heap.size + 1) o (by first | (simp; done) | (simp; omega) | omega)
  have k2_2 := fun o => (bcell hb2).1 (w.heap.size + 1 + 1) o (by first | (simp; done) | (simp; omega) | omega)
  have l2_2 : (w.heap.size + 1 + 1) < w2.heap.size := (by omega)
  have q2_2 := fun o => (bcell hb2).2 (w.heap.size + 1 + 1) o (by first | (simp; done) | (simp; omega) | omega)
  have k2_3 := fun o => (bcell hb2).1 (w.heap.size + 1 + 1 + 1) o (by first | (simp; done) | (simp; omega) | omega)
  have l2_3 : (w.heap.size + 1 + 1 + 1) < w2.heap.size := (by omega)
  have q2_3 := fun o => (bcell hb2).2 (w.heap.size + 1 + 1 + 1) o (by first | (simp; done) | (simp; omega) | omega)
  have k2_4 := fun o => (bcell hb2).1 (w.heap.size + 1 + 1 + 1 + 1) o (by first | (simp; done) | (simp; omega) | omega)
  have l2_4 : (w.heap.size + 1 + 1 + 1 + 1) < w2.heap.size := (by omega)
  have q2_4 := fun o => (bcell hb2).2 (w.heap.size + 1 + 1 + 1 + 1) o (by first | (simp; done) | (simp; omega) | omega)
  have k2_5 := fun o => (bcell hb2).1 (w.heap.size + 1 + 1 + 1 + 1 + 1) o (by first | (simp; done) | (simp; omega) | omega)
  have l2_5 : (w.heap.size + 1 + 1 + 1 + 1 + 1) < w2.heap.size := (by omega)
  have q2_5 := fun o => (bcell hb2).2 (w.heap.size + 1 + 1 + 1 + 1 + 1) o (by first | (simp; done) | (simp; omega) | omega)
  simp (maxDischargeDepth := 6) [go_sem, *] at k2_0 q2_0 k2_1 q2_1 k2_2 q2_2 k2_3 q2_3 k2_4 q2_4 k2_5 q2_5
  have HB2 := Lib.hid hb2
  clear hb2
  go_wp2_with fail
  refine (bridge_Check b _ _ _ _ (lines_now HL.out (by (repeat (first | (with_reducible exact Below.refl _ _) | (with_reducible refine Below.drew ?_) | (with_reducible refine bdrewN ?_ _) | ((with_reducible refine Below.setCell ?_ ?_ _); rotate_left; exact (by first | (simp; done) | (simp; omega) | omega)) | ((with_reducible refine Below.alloc ?_ ?_ _); rotate_left; exact (by first | (simp; done) | (simp; omega) | omega)) | ((with_reducible refine Below.trans ?_ (HB2.out.mono ?_)); rotate_left; exact (by first | (simp; done) | (simp; omega) | omega)) | ((with_reducible refine Below.trans ?_ (HB1.out.mono ?_)); rotate_left; exact (by first | (simp; done) | (simp; omega) | omega))))))).mono ?_
  rintro e w3 ⟨rfl, hb3⟩
  have hz3 := hb3.size
  (try simp only [World.size_alloc, World.size_setCell, World.size_drew] at hz3)
  have k3_0 := fun o => (bcell hb3).1 (w.heap.size) o (by first | (simp; done) | (simp; omega) | omega)
  have l3_0 : (w.heap.size) < w3.heap.size := (by omega)
  have q3_0 := fun o => (bcell hb3).2 (w.heap.size) o (by first | (simp; done) | (simp; omega) | omega)
  have k3_1 := fun o => (bcell hb3).1 (w.heap.size + 1) o (by first | (simp; done) | (simp; omega) | omega)
  have l3_1 : (w.heap.size + 1) < w3.heap.size := (by omega)
  have q3_1 := fun o => (bcell hb3).2 (w.heap.size + 1) o (by first | (simp; done) | (simp; omega) | omega)
  have k3_2 := fun o => (bcell hb3).1 (w.heap.size + 1 + 1) o (by first | (simp; done) | (simp; omega) | omega)
  have l3_2 : (w.heap.size + 1 + 1) < w3.heap.size := (by omega)
  have q3_2 := fun o => (bcell hb3).2 (w.heap.size + 1 + 1) o (by first | (simp; done) | (simp; omega) | omega)
  have k3_3 := fun o => (bcell hb3).1 (w.heap.size + 1 + 1 + 1) o (by first | (simp; done) | (simp; omega) | omega)
  have l3_3 : (w.heap.size + 1 + 1 + 1) < w3.heap.size := (by omega)
  have q3_3 := fun o => (bcell hb3).2 (w.heap.size + 1 + 1 + 1) o (by first | (simp; done) | (simp; omega) | omega)
  have k3_4 := fun o => (bcell hb3).1 (w.heap.size + 1 + 1 + 1 + 1) o (by first | (simp; done) | (simp; omega) | omega)
  have l3_4 : (w.heap.size + 1 + 1 + 1 + 1) < w3.heap.size := (by omega)
  have q3_4 := fun o => (bcell hb3).2 (w.heap.size + 1 + 1 + 1 + 1) o (by first | (simp; done) | (simp; omega) | omega)
  have k3_5 := fun o => (bcell hb3).1 (w.heap.size + 1 + 1 + 1 + 1 + 1) o (by first | (simp; done) | (simp; omega) | omega)
  have l3_5 : (w.heap.size + 1 + 1 + 1 + 1 + 1) < w3.heap.size := (by omega)
  have q3_5 := fun o => (bcell hb3).2 (w.heap.size + 1 + 1 + 1 + 1 + 1) o (by first | (simp; done) | (simp; omega) | omega)
  simp (maxDischargeDepth := 6) [go_sem, *] at k3_0 q3_0 k3_1 q3_1 k3_2 q3_2 k3_3 q3_3 k3_4 q3_4 k3_5 q3_5
  have HB3 := Lib.hid hb3
  clear hb3
  go_wp2
  refine bodyPost_ret (v := .tuple #[.agg #[.slice none 0 0], .agg #[.int .i64 0, .slice none 0 0, .bool false], .agg #[.int .i64 Brg.no.mode, .int .i64 Brg.no.base, .slice none 0 0, .int .i64 Brg.no.orders.page, .int .i64 Brg.no.orders.head, .int .i64 Brg.no.orders.tail, .bool Brg.no.stopped, .int .i64 Brg.no.fences, .int .i64 Brg.no.faults.page, .int .i64 Brg.no.faults.head, .int .i64 Brg.no.faults.tail, .bool Brg.no.lost], .int .i64 (ckB b)]) ?_ rfl ⟨rfl, ?_⟩
  · simp (maxDischargeDepth := 8) [results, Try.results50, go_sem, Brg.no, Ring.no, *]
  · (repeat (first | (with_reducible exact Below.refl _ _) | (with_reducible refine Below.drew ?_) | (with_reducible refine bdrewN ?_ _) | ((with_reducible refine Below.setCell ?_ ?_ _); rotate_left; exact (by first | (simp; done) | (simp; omega) | omega)) | ((with_reducible refine Below.alloc ?_ ?_ _); rotate_left; exact (by first | (simp; done) | (simp; omega) | omega)) | ((with_reducible refine Below.trans ?_ (HB3.out.mono ?_)); rotate_left; exact (by first | (simp; done) | (simp; omega) | omega)) | ((with_reducible refine Below.trans ?_ (HB2.out.mono ?_)); rotate_left; exact (by first | (simp; done) | (simp; omega) | omega)) | ((with_reducible refine Below.trans ?_ (HB1.out.mono ?_)); rotate_left; exact (by first | (simp; done) | (simp; omega) | omega))))
set_option maxRecDepth 100000 in
set_option maxHeartbeats 2000000 in
theorem step_no4 (hm : Ints w w.heap.size M nm xs) (hr : Ints w w.heap.size R nr h.regs) (hl : Lines w w.heap.size L n c b.cache) (c1 : cm xs = 0) (c2 : ckH h = 0) (c3 : ckB b = 0) :
    Calls Try.prog 50 #[.agg #[.slice M nm mc], .agg #[.int .i64 h.at_, .slice R nr rc, .bool true], .agg #[.int .i64 b.mode, .int .i64 b.base, .slice L n c, .int .i64 b.orders.page, .int .i64 b.orders.head, .int .i64 b.orders.tail, .bool b.stopped, .int .i64 b.fences, .int .i64 b.faults.page, .int .i64 b.faults.head, .int .i64 b.faults.tail, .bool b.lost]] w fun e w' => e = .returned (.tuple #[.agg #[.slice none 0 0], .agg #[.int .i64 0, .slice none 0 0, .bool false], .agg #[.int .i64 Brg.no.mode, .int .i64 Brg.no.base, .slice none 0 0, .int .i64 Brg.no.orders.page, .int .i64 Brg.no.orders.head, .int .i64 Brg.no.orders.tail, .bool Brg.no.stopped, .int .i64 Brg.no.fences, .int .i64 Brg.no.faults.page, .int .i64 Brg.no.faults.head, .int .i64 Brg.no.faults.tail, .bool Brg.no.lost], .int .i64 6]) ∧ Below w.heap.size w w' := by
  have HM := Lib.hid hm
  have HR := Lib.hid hr
  have HL := Lib.hid hl
  have Hc1 := Lib.hid c1
  have Hc2 := Lib.hid c2
  have Hc3 := Lib.hid c3
  clear hm hr hl c1 c2 c3
  go_enter Try.func50, Try.ntmps50
  go_wp2_with fail
  refine (mem_Check _ _ _ xs _ (ints_now HM.out (by (repeat (first | (with_reducible exact Below.refl _ _) | (with_reducible refine Below.drew ?_) | (with_reducible refine bdrewN ?_ _) | ((with_reducible refine Below.setCell ?_ ?_ _); rotate_left; exact (by first | (simp; done) | (simp; omega) | omega)) | ((with_reducible refine Below.alloc ?_ ?_ _); rotate_left; exact (by first | (simp; done) | (simp; omega) | omega))))))).mono ?_
  rw [Hc1.out]
  rintro e w1 ⟨rfl, hb1⟩
  have hz1 := hb1.size
  (try simp only [World.size_alloc, World.size_setCell, World.size_drew] at hz1)
  have k1_0 := fun o => (bcell hb1).1 (w.heap.size) o (by first | (simp; done) | (simp; omega) | omega)
  have l1_0 : (w.heap.size) < w1.heap.size := (by omega)
  have q1_0 := fun o => (bcell hb1).2 (w.heap.size) o (by first | (simp; done) | (simp; omega) | omega)
  have k1_1 := fun o => (bcell hb1).1 (w.heap.size + 1) o (by first | (simp; done) | (simp; omega) | omega)
  have l1_1 : (w.heap.size + 1) < w1.heap.size := (by omega)
  have q1_1 := fun o => (bcell hb1).2 (w.heap.size + 1) o (by first | (simp; done) | (simp; omega) | omega)
  have k1_2 := fun o => (bcell hb1).1 (w.heap.size + 1 + 1) o (by first | (simp; done) | (simp; omega) | omega)
  have l1_2 : (w.heap.size + 1 + 1) < w1.heap.size := (by omega)
  have q1_2 := fun o => (bcell hb1).2 (w.heap.size + 1 + 1) o (by first | (simp; done) | (simp; omega) | omega)
  have k1_3 := fun o => (bcell hb1).1 (w.heap.size + 1 + 1 + 1) o (by first | (simp; done) | (simp; omega) | omega)
  have l1_3 : (w.heap.size + 1 + 1 + 1) < w1.heap.size := (by omega)
  have q1_3 := fun o => (bcell hb1).2 (w.heap.size + 1 + 1 + 1) o (by first | (simp; done) | (simp; omega) | omega)
  have k1_4 := fun o => (bcell hb1).1 (w.heap.size + 1 + 1 + 1 + 1) o (by first | (simp; done) | (simp; omega) | omega)
  have l1_4 : (w.heap.size + 1 + 1 + 1 + 1) < w1.heap.size := (by omega)
  have q1_4 := fun o => (bcell hb1).2 (w.heap.size + 1 + 1 + 1 + 1) o (by first | (simp; done) | (simp; omega) | omega)
  have k1_5 := fun o => (bcell hb1).1 (w.heap.size + 1 + 1 + 1 + 1 + 1) o (by first | (simp; done) | (simp; omega) | omega)
  have l1_5 : (w.heap.size + 1 + 1 + 1 + 1 + 1) < w1.heap.size := (by omega)
  have q1_5 := fun o => (bcell hb1).2 (w.heap.size + 1 + 1 + 1 + 1 + 1) o (by first | (simp; done) | (simp; omega) | omega)
  simp (maxDischargeDepth := 6) [go_sem, *] at k1_0 q1_0 k1_1 q1_1 k1_2 q1_2 k1_3 q1_3 k1_4 q1_4 k1_5 q1_5
  have HB1 := Lib.hid hb1
  clear hb1
  go_wp2_with fail
  refine (hart_Check ⟨h.at_, h.regs, true⟩ _ _ _ _ (ints_now HR.out (by (repeat (first | (with_reducible exact Below.refl _ _) | (with_reducible refine Below.drew ?_) | (with_reducible refine bdrewN ?_ _) | ((with_reducible refine Below.setCell ?_ ?_ _); rotate_left; exact (by first | (simp; done) | (simp; omega) | omega)) | ((with_reducible refine Below.alloc ?_ ?_ _); rotate_left; exact (by first | (simp; done) | (simp; omega) | omega)) | ((with_reducible refine Below.trans ?_ (HB1.out.mono ?_)); rotate_left; exact (by first | (simp; done) | (simp; omega) | omega))))))).mono ?_
  rw [show ckH ⟨h.at_, h.regs, true⟩ = 0 from Hc2.out]
  rintro e w2 ⟨rfl, hb2⟩
  have hz2 := hb2.size
  (try simp only [World.size_alloc, World.size_setCell, World.size_drew] at hz2)
  have k2_0 := fun o => (bcell hb2).1 (w.heap.size) o (by first | (simp; done) | (simp; omega) | omega)
  have l2_0 : (w.heap.size) < w2.heap.size := (by omega)
  have q2_0 := fun o => (bcell hb2).2 (w.heap.size) o (by first | (simp; done) | (simp; omega) | omega)
  have k2_1 := fun o => (bcell hb2).1 (w.heap.size + 1) o (by first | (simp; done) | (simp; omega) | omega)
  have l2_1 : (w.heap.size + 1) < w2.heap.size := (by omega)
  have q2_1 := fun o => (bcell hb2).2 (w.heap.size + 1) o (by first | (simp; done) | (simp; omega) | omega)
  have k2_2 := fun o => (bcell hb2).1 (w.heap.size + 1 + 1) o (by first | (simp; done) | (simp; omega) | omega)
  have l2_2 : (w.heap.size + 1 + 1) < w2.heap.size := (by omega)
  have q2_2 := fun o => (bcell hb2).2 (w.heap.size + 1 + 1) o (by first | (simp; done) | (simp; omega) | omega)
  have k2_3 := fun o => (bcell hb2).1 (w.heap.size + 1 + 1 + 1) o (by first | (simp; done) | (simp; omega) | omega)
  have l2_3 : (w.heap.size + 1 + 1 + 1) < w2.heap.size := (by omega)
  have q2_3 := fun o => (bcell hb2).2 (w.heap.size + 1 + 1 + 1) o (by first | (simp; done) | (simp; omega) | omega)
  have k2_4 := fun o => (bcell hb2).1 (w.heap.size + 1 + 1 + 1 + 1) o (by first | (simp; done) | (simp; omega) | omega)
  have l2_4 : (w.heap.size + 1 + 1 + 1 + 1) < w2.heap.size := (by omega)
  have q2_4 := fun o => (bcell hb2).2 (w.heap.size + 1 + 1 + 1 + 1) o (by first | (simp; done) | (simp; omega) | omega)
  have k2_5 := fun o => (bcell hb2).1 (w.heap.size + 1 + 1 + 1 + 1 + 1) o (by first | (simp; done) | (simp; omega) | omega)
  have l2_5 : (w.heap.size + 1 + 1 + 1 + 1 + 1) < w2.heap.size := (by omega)
  have q2_5 := fun o => (bcell hb2).2 (w.heap.size + 1 + 1 + 1 + 1 + 1) o (by first | (simp; done) | (simp; omega) | omega)
  simp (maxDischargeDepth := 6) [go_sem, *] at k2_0 q2_0 k2_1 q2_1 k2_2 q2_2 k2_3 q2_3 k2_4 q2_4 k2_5 q2_5
  have HB2 := Lib.hid hb2
  clear hb2
  go_wp2_with fail
  refine (bridge_Check b _ _ _ _ (lines_now HL.out (by (repeat (first | (with_reducible exact Below.refl _ _) | (with_reducible refine Below.drew ?_) | (with_reducible refine bdrewN ?_ _) | ((with_reducible refine Below.setCell ?_ ?_ _); rotate_left; exact (by first | (simp; done) | (simp; omega) | omega)) | ((with_reducible refine Below.alloc ?_ ?_ _); rotate_left; exact (by first | (simp; done) | (simp; omega) | omega)) | ((with_reducible refine Below.trans ?_ (HB2.out.mono ?_)); rotate_left; exact (by first | (simp; done) | (simp; omega) | omega)) | ((with_reducible refine Below.trans ?_ (HB1.out.mono ?_)); rotate_left; exact (by first | (simp; done) | (simp; omega) | omega))))))).mono ?_
  rw [Hc3.out]
  rintro e w3 ⟨rfl, hb3⟩
  have hz3 := hb3.size
  (try simp only [World.size_alloc, World.size_setCell, World.size_drew] at hz3)
  have k3_0 := fun o => (bcell hb3).1 (w.heap.size) o (by first | (simp; done) | (simp; omega) | omega)
  have l3_0 : (w.heap.size) < w3.heap.size := (by omega)
  have q3_0 := fun o => (bcell hb3).2 (w.heap.size) o (by first | (simp; done) | (simp; omega) | omega)
  have k3_1 := fun o => (bcell hb3).1 (w.heap.size + 1) o (by first | (simp; done) | (simp; omega) | omega)
  have l3_1 : (w.heap.size + 1) < w3.heap.size := (by omega)
  have q3_1 := fun o => (bcell hb3).2 (w.heap.size + 1) o (by first | (simp; done) | (simp; omega) | omega)
  have k3_2 := fun o => (bcell hb3).1 (w.heap.size + 1 + 1) o (by first | (simp; done) | (simp; omega) | omega)
  have l3_2 : (w.heap.size + 1 + 1) < w3.heap.size := (by omega)
  have q3_2 := fun o => (bcell hb3).2 (w.heap.size + 1 + 1) o (by first | (simp; done) | (simp; omega) | omega)
  have k3_3 := fun o => (bcell hb3).1 (w.heap.size + 1 + 1 + 1) o (by first | (simp; done) | (simp; omega) | omega)
  have l3_3 : (w.heap.size + 1 + 1 + 1) < w3.heap.size := (by omega)
  have q3_3 := fun o => (bcell hb3).2 (w.heap.size + 1 + 1 + 1) o (by first | (simp; done) | (simp; omega) | omega)
  have k3_4 := fun o => (bcell hb3).1 (w.heap.size + 1 + 1 + 1 + 1) o (by first | (simp; done) | (simp; omega) | omega)
  have l3_4 : (w.heap.size + 1 + 1 + 1 + 1) < w3.heap.size := (by omega)
  have q3_4 := fun o => (bcell hb3).2 (w.heap.size + 1 + 1 + 1 + 1) o (by first | (simp; done) | (simp; omega) | omega)
  have k3_5 := fun o => (bcell hb3).1 (w.heap.size + 1 + 1 + 1 + 1 + 1) o (by first | (simp; done) | (simp; omega) | omega)
  have l3_5 : (w.heap.size + 1 + 1 + 1 + 1 + 1) < w3.heap.size := (by omega)
  have q3_5 := fun o => (bcell hb3).2 (w.heap.size + 1 + 1 + 1 + 1 + 1) o (by first | (simp; done) | (simp; omega) | omega)
  simp (maxDischargeDepth := 6) [go_sem, *] at k3_0 q3_0 k3_1 q3_1 k3_2 q3_2 k3_3 q3_3 k3_4 q3_4 k3_5 q3_5
  have HB3 := Lib.hid hb3
  clear hb3
  go_wp2
  refine bodyPost_ret (v := .tuple #[.agg #[.slice none 0 0], .agg #[.int .i64 0, .slice none 0 0, .bool false], .agg #[.int .i64 Brg.no.mode, .int .i64 Brg.no.base, .slice none 0 0, .int .i64 Brg.no.orders.page, .int .i64 Brg.no.orders.head, .int .i64 Brg.no.orders.tail, .bool Brg.no.stopped, .int .i64 Brg.no.fences, .int .i64 Brg.no.faults.page, .int .i64 Brg.no.faults.head, .int .i64 Brg.no.faults.tail, .bool Brg.no.lost], .int .i64 6]) ?_ rfl ⟨rfl, ?_⟩
  · simp (maxDischargeDepth := 8) [results, Try.results50, go_sem, Brg.no, Ring.no, *]
  · (repeat (first | (with_reducible exact Below.refl _ _) | (with_reducible refine Below.drew ?_) | (with_reducible refine bdrewN ?_ _) | ((with_reducible refine Below.setCell ?_ ?_ _); rotate_left; exact (by first | (simp; done) | (simp; omega) | omega)) | ((with_reducible refine Below.alloc ?_ ?_ _); rotate_left; exact (by first | (simp; done) | (simp; omega) | omega)) | ((with_reducible refine Below.trans ?_ (HB3.out.mono ?_)); rotate_left; exact (by first | (simp; done) | (simp; omega) | omega)) | ((with_reducible refine Below.trans ?_ (HB2.out.mono ?_)); rotate_left; exact (by first | (simp; done) | (simp; omega) | omega)) | ((with_reducible refine Below.trans ?_ (HB1.out.mono ?_)); rotate_left; exact (by first | (simp; done) | (simp; omega) | omega))))
end
end Go.Proofs.Ytbopdijnojaaiab
