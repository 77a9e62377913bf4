/- The devices: the program's Do where something is wrong. No statement of the seat is proved here. -/
import Derived.Test.YtbopdijnojaaiacDmaD
namespace Go.Proofs.Ytbopdijnojaaiac
open Go.RowKit
set_option linter.unusedSimpArgs false
set_option linter.unusedVariables false
attribute [local go_sem ↓] Go.wp_at_zero Go.wp_at_succ
section
variable (xs : List Int) (m : Option Addr) (nm mc : Nat) (b : Brg) (A0 : Option Addr) (n0 c0 : Nat) (a : Ask) (AD : Option Addr) (nd cd : Nat) (w : World) (hx : Ints w w.heap.size m nm xs) (hl : Lines w w.heap.size A0 n0 c0 b.cache) (hd : Ints w w.heap.size AD nd a.data)
set_option maxRecDepth 100000 in
set_option maxHeartbeats 4000000 in
include hx in
theorem do_no1 (hE : cm xs ≠ 0) : Calls Try.prog 30 #[.agg #[.slice m nm mc], .agg #[.int .i64 b.mode, .int .i64 b.base, .slice A0 n0 c0, .int .i64 b.orders.page, .int .i64 b.orders.head, .int .i64 b.orders.tail, .bool b.stopped, .int .i64 b.fences, .int .i64 b.faults.page, .int .i64 b.faults.head, .int .i64 b.faults.tail, .bool b.lost], .agg #[.int .i64 a.dev, .int .i64 a.at_, .int .i64 a.count, .bool a.wr, .slice AD nd cd]] w (DoC w 0 ([], .no, .no) (cm xs)) := by
  have HX := Lib.hid hx
  have t0 : (cm xs == 0) = false := beq_eq_false_iff_ne.2 hE
  have t1 : (cm xs != 0) = true := by rw [bne_iff_ne]; exact hE
  clear hx hE
  go_enter Try.func30, Try.ntmps30
  go_wp2_with fail
  refine (mem_Check _ _ _ xs _ (ints_now HX.out (by (repeat (first | (with_reducible exact Below.refl _ _) | (with_reducible refine Below.drew ?_) | (with_reducible refine bdrewN ?_ _) | ((with_reducible refine Below.setCell ?_ ?_ _); rotate_left; exact (by first | (simp; done) | (simp; omega) | omega)) | ((with_reducible refine Below.alloc ?_ ?_ _); rotate_left; exact (by first | (simp; done) | (simp; omega) | omega))))))).mono ?_
  rintro e w1 ⟨rfl, hb1⟩
  have hz1 := hb1.size
  (try simp only [World.size_alloc, World.size_setCell, World.size_drew] at hz1)
  have k1_0 := fun o => (bcell hb1).1 (w.heap.size + 1 + 1 + 1) o (by first | (simp; done) | (simp; omega) | omega)
  have l1_0 : (w.heap.size + 1 + 1 + 1) < w1.heap.size := (by omega)
  have q1_0 := fun o => (bcell hb1).2 (w.heap.size + 1 + 1 + 1) o (by first | (simp; done) | (simp; omega) | omega)
  have k1_1 := fun o => (bcell hb1).1 (w.heap.size + 1 + 1 + 1 + 1) o (by first | (simp; done) | (simp; omega) | omega)
  have l1_1 : (w.heap.size + 1 + 1 + 1 + 1) < w1.heap.size := (by omega)
  have q1_1 := fun o => (bcell hb1).2 (w.heap.size + 1 + 1 + 1 + 1) o (by first | (simp; done) | (simp; omega) | omega)
  have k1_2 := fun o => (bcell hb1).1 (w.heap.size + 1 + 1 + 1 + 1 + 1) o (by first | (simp; done) | (simp; omega) | omega)
  have l1_2 : (w.heap.size + 1 + 1 + 1 + 1 + 1) < w1.heap.size := (by omega)
  have q1_2 := fun o => (bcell hb1).2 (w.heap.size + 1 + 1 + 1 + 1 + 1) o (by first | (simp; done) | (simp; omega) | omega)
  simp (maxDischargeDepth := 6) [go_sem, *] at k1_0 q1_0 k1_1 q1_1 k1_2 q1_2
  have HB1 := Lib.hid hb1
  clear hb1
  go_wp2
  refine bodyPost_ret (v := .tuple #[.agg #[.slice none 0 0], .agg #[.int .i64 Brg.no.mode, .int .i64 Brg.no.base, .slice none 0 0, .int .i64 Brg.no.orders.page, .int .i64 Brg.no.orders.head, .int .i64 Brg.no.orders.tail, .bool Brg.no.stopped, .int .i64 Brg.no.fences, .int .i64 Brg.no.faults.page, .int .i64 Brg.no.faults.head, .int .i64 Brg.no.faults.tail, .bool Brg.no.lost], .agg #[.bool false, .slice none 0 0, .int .i64 0, .slice none 0 0], .int .i64 (cm xs)]) ?_ rfl (do_no ?_)
  · simp (maxDischargeDepth := 8) [results, Try.results30, go_sem, Brg.no, Ring.no, *]
  · (repeat (first | (with_reducible exact Below.refl _ _) | (with_reducible refine Below.drew ?_) | (with_reducible refine bdrewN ?_ _) | ((with_reducible refine Below.setCell ?_ ?_ _); rotate_left; exact (by first | (simp; done) | (simp; omega) | omega)) | ((with_reducible refine Below.alloc ?_ ?_ _); rotate_left; exact (by first | (simp; done) | (simp; omega) | omega)) | ((with_reducible refine Below.trans ?_ (HB1.out.mono ?_)); rotate_left; exact (by first | (simp; done) | (simp; omega) | omega))))
set_option maxRecDepth 100000 in
set_option maxHeartbeats 4000000 in
include hx hl in
theorem do_no2 (h0 : cm xs = 0) (hE : ckB b ≠ 0) : Calls Try.prog 30 #[.agg #[.slice m nm mc], .agg #[.int .i64 b.mode, .int .i64 b.base, .slice A0 n0 c0, .int .i64 b.orders.page, .int .i64 b.orders.head, .int .i64 b.orders.tail, .bool b.stopped, .int .i64 b.fences, .int .i64 b.faults.page, .int .i64 b.faults.head, .int .i64 b.faults.tail, .bool b.lost], .agg #[.int .i64 a.dev, .int .i64 a.at_, .int .i64 a.count, .bool a.wr, .slice AD nd cd]] w (DoC w 0 ([], .no, .no) (ckB b)) := by
  have HX := Lib.hid hx
  have HL := Lib.hid hl
  have H0 := Lib.hid h0
  have t0 : (ckB b == 0) = false := beq_eq_false_iff_ne.2 hE
  have t1 : (ckB b != 0) = true := by rw [bne_iff_ne]; exact hE
  clear hx hl hE h0
  go_enter Try.func30, Try.ntmps30
  go_wp2_with fail
  refine (mem_Check _ _ _ xs _ (ints_now HX.out (by (repeat (first | (with_reducible exact Below.refl _ _) | (with_reducible refine Below.drew ?_) | (with_reducible refine bdrewN ?_ _) | ((with_reducible refine Below.setCell ?_ ?_ _); rotate_left; exact (by first | (simp; done) | (simp; omega) | omega)) | ((with_reducible refine Below.alloc ?_ ?_ _); rotate_left; exact (by first | (simp; done) | (simp; omega) | omega))))))).mono ?_
  rw [H0.out]
  rintro e w1 ⟨rfl, hb1⟩
  have hz1 := hb1.size
  (try simp only [World.size_alloc, World.size_setCell, World.size_drew] at hz1)
  have k1_0 := fun o => (bcell hb1).1 (w.heap.size) o (by first | (simp; done) | (simp; omega) | omega)
  have l1_0 : (w.heap.size) < w1.heap.size := (by omega)
  have q1_0 := fun o => (bcell hb1).2 (w.heap.size) o (by first | (simp; done) | (simp; omega) | omega)
  have k1_1 := fun o => (bcell hb1).1 (w.heap.size + 1) o (by first | (simp; done) | (simp; omega) | omega)
  have l1_1 : (w.heap.size + 1) < w1.heap.size := (by omega)
  have q1_1 := fun o => (bcell hb1).2 (w.heap.size + 1) o (by first | (simp; done) | (simp; omega) | omega)
  have k1_2 := fun o => (bcell hb1).1 (w.heap.size + 1 + 1) o (by first | (simp; done) | (simp; omega) | omega)
  have l1_2 : (w.heap.size + 1 + 1) < w1.heap.size := (by omega)
  have q1_2 := fun o => (bcell hb1).2 (w.heap.size + 1 + 1) o (by first | (simp; done) | (simp; omega) | omega)
  have k1_3 := fun o => (bcell hb1).1 (w.heap.size + 1 + 1 + 1) o (by first | (simp; done) | (simp; omega) | omega)
  have l1_3 : (w.heap.size + 1 + 1 + 1) < w1.heap.size := (by omega)
  have q1_3 := fun o => (bcell hb1).2 (w.heap.size + 1 + 1 + 1) o (by first | (simp; done) | (simp; omega) | omega)
  have k1_4 := fun o => (bcell hb1).1 (w.heap.size + 1 + 1 + 1 + 1) o (by first | (simp; done) | (simp; omega) | omega)
  have l1_4 : (w.heap.size + 1 + 1 + 1 + 1) < w1.heap.size := (by omega)
  have q1_4 := fun o => (bcell hb1).2 (w.heap.size + 1 + 1 + 1 + 1) o (by first | (simp; done) | (simp; omega) | omega)
  have k1_5 := fun o => (bcell hb1).1 (w.heap.size + 1 + 1 + 1 + 1 + 1) o (by first | (simp; done) | (simp; omega) | omega)
  have l1_5 : (w.heap.size + 1 + 1 + 1 + 1 + 1) < w1.heap.size := (by omega)
  have q1_5 := fun o => (bcell hb1).2 (w.heap.size + 1 + 1 + 1 + 1 + 1) o (by first | (simp; done) | (simp; omega) | omega)
  simp (maxDischargeDepth := 6) [go_sem, *] at k1_0 q1_0 k1_1 q1_1 k1_2 q1_2 k1_3 q1_3 k1_4 q1_4 k1_5 q1_5
  have HB1 := Lib.hid hb1
  clear hb1
  go_wp2_with fail
  refine (bridge_Check b A0 n0 c0 _ (lines_now HL.out (by (repeat (first | (with_reducible exact Below.refl _ _) | (with_reducible refine Below.drew ?_) | (with_reducible refine bdrewN ?_ _) | ((with_reducible refine Below.setCell ?_ ?_ _); rotate_left; exact (by first | (simp; done) | (simp; omega) | omega)) | ((with_reducible refine Below.alloc ?_ ?_ _); rotate_left; exact (by first | (simp; done) | (simp; omega) | omega)) | ((with_reducible refine Below.trans ?_ (HB1.out.mono ?_)); rotate_left; exact (by first | (simp; done) | (simp; omega) | omega))))))).mono ?_
  rintro e w2 ⟨rfl, hb2⟩
  have hz2 := hb2.size
  (try simp only [World.size_alloc, World.size_setCell, World.size_drew] at hz2)
  have k2_0 := fun o => (bcell hb2).1 (w.heap.size + 1 + 1 + 1) o (by first | (simp; done) | (simp; omega) | omega)
  have l2_0 : (w.heap.size + 1 + 1 + 1) < w2.heap.size := (by omega)
  have q2_0 := fun o => (bcell hb2).2 (w.heap.size + 1 + 1 + 1) o (by first | (simp; done) | (simp; omega) | omega)
  have k2_1 := fun o => (bcell hb2).1 (w.heap.size + 1 + 1 + 1 + 1) o (by first | (simp; done) | (simp; omega) | omega)
  have l2_1 : (w.heap.size + 1 + 1 + 1 + 1) < w2.heap.size := (by omega)
  have q2_1 := fun o => (bcell hb2).2 (w.heap.size + 1 + 1 + 1 + 1) o (by first | (simp; done) | (simp; omega) | omega)
  have k2_2 := fun o => (bcell hb2).1 (w.heap.size + 1 + 1 + 1 + 1 + 1) o (by first | (simp; done) | (simp; omega) | omega)
  have l2_2 : (w.heap.size + 1 + 1 + 1 + 1 + 1) < w2.heap.size := (by omega)
  have q2_2 := fun o => (bcell hb2).2 (w.heap.size + 1 + 1 + 1 + 1 + 1) o (by first | (simp; done) | (simp; omega) | omega)
  simp (maxDischargeDepth := 6) [go_sem, *] at k2_0 q2_0 k2_1 q2_1 k2_2 q2_2
  have HB2 := Lib.hid hb2
  clear hb2
  go_wp2
  refine bodyPost_ret (v := .tuple #[.agg #[.slice none 0 0], .agg #[.int .i64 Brg.no.mode, .int .i64 Brg.no.base, .slice none 0 0, .int .i64 Brg.no.orders.page, .int .i64 Brg.no.orders.head, .int .i64 Brg.no.orders.tail, .bool Brg.no.stopped, .int .i64 Brg.no.fences, .int .i64 Brg.no.faults.page, .int .i64 Brg.no.faults.head, .int .i64 Brg.no.faults.tail, .bool Brg.no.lost], .agg #[.bool false, .slice none 0 0, .int .i64 0, .slice none 0 0], .int .i64 (ckB b)]) ?_ rfl (do_no ?_)
  · simp (maxDischargeDepth := 8) [results, Try.results30, go_sem, Brg.no, Ring.no, *]
  · (repeat (first | (with_reducible exact Below.refl _ _) | (with_reducible refine Below.drew ?_) | (with_reducible refine bdrewN ?_ _) | ((with_reducible refine Below.setCell ?_ ?_ _); rotate_left; exact (by first | (simp; done) | (simp; omega) | omega)) | ((with_reducible refine Below.alloc ?_ ?_ _); rotate_left; exact (by first | (simp; done) | (simp; omega) | omega)) | ((with_reducible refine Below.trans ?_ (HB2.out.mono ?_)); rotate_left; exact (by first | (simp; done) | (simp; omega) | omega)) | ((with_reducible refine Below.trans ?_ (HB1.out.mono ?_)); rotate_left; exact (by first | (simp; done) | (simp; omega) | omega))))
set_option maxRecDepth 100000 in
set_option maxHeartbeats 4000000 in
include hx hl hd in
theorem do_no3 (h0 : cm xs = 0) (hb : ckB b = 0) (hE : reqE a ≠ 0) : Calls Try.prog 30 #[.agg #[.slice m nm mc], .agg #[.int .i64 b.mode, .int .i64 b.base, .slice A0 n0 c0, .int .i64 b.orders.page, .int .i64 b.orders.head, .int .i64 b.orders.tail, .bool b.stopped, .int .i64 b.fences, .int .i64 b.faults.page, .int .i64 b.faults.head, .int .i64 b.faults.tail, .bool b.lost], .agg #[.int .i64 a.dev, .int .i64 a.at_, .int .i64 a.count, .bool a.wr, .slice AD nd cd]] w (DoC w 0 ([], .no, .no) (reqE a)) := by
  have HX := Lib.hid hx
  have HL := Lib.hid hl
  have HD := Lib.hid hd
  have H0 := Lib.hid h0
  have HCB := Lib.hid hb
  have t0 : (reqE a == 0) = false := beq_eq_false_iff_ne.2 hE
  have t1 : (reqE a != 0) = true := by rw [bne_iff_ne]; exact hE
  clear hx hl hd hE h0 hb
  go_enter Try.func30, Try.ntmps30
  go_wp2_with fail
  refine (mem_Check _ _ _ xs _ (ints_now HX.out (by (repeat (first | (with_reducible exact Below.refl _ _) | (with_reducible refine Below.drew ?_) | (with_reducible refine bdrewN ?_ _) | ((with_reducible refine Below.setCell ?_ ?_ _); rotate_left; exact (by first | (simp; done) | (simp; omega) | omega)) | ((with_reducible refine Below.alloc ?_ ?_ _); rotate_left; exact (by first | (simp; done) | (simp; omega) | omega))))))).mono ?_
  rw [H0.out]
  rintro e w1 ⟨rfl, hb1⟩
  have hz1 := hb1.size
  (try simp only [World.size_alloc, World.size_setCell, World.size_drew] at hz1)
  have k1_0 := fun o => (bcell hb1).1 (w.heap.size) o (by first | (simp; done) | (simp; omega) | omega)
  have l1_0 : (w.heap.size) < w1.heap.size := (by omega)
  have q1_0 := fun o => (bcell hb1).2 (w.heap.size) o (by first | (simp; done) | (simp; omega) | omega)
  have k1_1 := fun o => (bcell hb1).1 (w.heap.size + 1) o (by first | (simp; done) | (simp; omega) | omega)
  have l1_1 : (w.heap.size + 1) < w1.heap.size := (by omega)
  have q1_1 := fun o => (bcell hb1).2 (w.heap.size + 1) o (by first | (simp; done) | (simp; omega) | omega)
  have k1_2 := fun o => (bcell hb1).1 (w.heap.size + 1 + 1) o (by first | (simp; done) | (simp; omega) | omega)
  have l1_2 : (w.heap.size + 1 + 1) < w1.heap.size := (by omega)
  have q1_2 := fun o => (bcell hb1).2 (w.heap.size + 1 + 1) o (by first | (simp; done) | (simp; omega) | omega)
  have k1_3 := fun o => (bcell hb1).1 (w.heap.size + 1 + 1 + 1) o (by first | (simp; done) | (simp; omega) | omega)
  have l1_3 : (w.heap.size + 1 + 1 + 1) < w1.heap.size := (by omega)
  have q1_3 := fun o => (bcell hb1).2 (w.heap.size + 1 + 1 + 1) o (by first | (simp; done) | (simp; omega) | omega)
  have k1_4 := fun o => (bcell hb1).1 (w.heap.size + 1 + 1 + 1 + 1) o (by first | (simp; done) | (simp; omega) | omega)
  have l1_4 : (w.heap.size + 1 + 1 + 1 + 1) < w1.heap.size := (by omega)
  have q1_4 := fun o => (bcell hb1).2 (w.heap.size + 1 + 1 + 1 + 1) o (by first | (simp; done) | (simp; omega) | omega)
  have k1_5 := fun o => (bcell hb1).1 (w.heap.size + 1 + 1 + 1 + 1 + 1) o (by first | (simp; done) | (simp; omega) | omega)
  have l1_5 : (w.heap.size + 1 + 1 + 1 + 1 + 1) < w1.heap.size := (by omega)
  have q1_5 := fun o => (bcell hb1).2 (w.heap.size + 1 + 1 + 1 + 1 + 1) o (by first | (simp; done) | (simp; omega) | omega)
  simp (maxDischargeDepth := 6) [go_sem, *] at k1_0 q1_0 k1_1 q1_1 k1_2 q1_2 k1_3 q1_3 k1_4 q1_4 k1_5 q1_5
  have HB1 := Lib.hid hb1
  clear hb1
  go_wp2_with fail
  refine (bridge_Check b A0 n0 c0 _ (lines_now HL.out (by (repeat (first | (with_reducible exact Below.refl _ _) | (with_reducible refine Below.drew ?_) | (with_reducible refine bdrewN ?_ _) | ((with_reducible refine Below.setCell ?_ ?_ _); rotate_left; exact (by first | (simp; done) | (simp; omega) | omega)) | ((with_reducible refine Below.alloc ?_ ?_ _); rotate_left; exact (by first | (simp; done) | (simp; omega) | omega)) | ((with_reducible refine Below.trans ?_ (HB1.out.mono ?_)); rotate_left; exact (by first | (simp; done) | (simp; omega) | omega))))))).mono ?_
  rw [HCB.out]
  rintro e w2 ⟨rfl, hb2⟩
  have hz2 := hb2.size
  (try simp only [World.size_alloc, World.size_setCell, World.size_drew] at hz2)
  have k2_0 := fun o => (bcell hb2).1 (w.heap.size) o (by first | (simp; done) | (simp; omega) | omega)
  have l2_0 : (w.heap.size) < w2.heap.size := (by omega)
  have q2_0 := fun o => (bcell hb2).2 (w.heap.size) o (by first | (simp; done) | (simp; omega) | omega)
  have k2_1 := fun o => (bcell hb2).1 (w.heap.size + 1) o (by first | (simp; done) | (simp; omega) | omega)
  have l2_1 : (w.heap.size + 1) < w2.heap.size := (by omega)
  have q2_1 := fun o => (bcell hb2).2 (w.heap.size + 1) o (by first | (simp; done) | (simp; omega) | omega)
  have k2_2 := fun o => (bcell hb2).1 (w.heap.size + 1 + 1) o (by first | (simp; done) | (simp; omega) | omega)
  have l2_2 : (w.heap.size + 1 + 1) < w2.heap.size := (by omega)
  have q2_2 := fun o => (bcell hb2).2 (w.heap.size + 1 + 1) o (by first | (simp; done) | (simp; omega) | omega)
  have k2_3 := fun o => (bcell hb2).1 (w.heap.size + 1 + 1 + 1) o (by first | (simp; done) | (simp; omega) | omega)
  have l2_3 : (w.heap.size + 1 + 1 + 1) < w2.heap.size := (by omega)
  have q2_3 := fun o => (bcell hb2).2 (w.heap.size + 1 + 1 + 1) o (by first | (simp; done) | (simp; omega) | omega)
  have k2_4 := fun o => (bcell hb2).1 (w.heap.size + 1 + 1 + 1 + 1) o (by first | (simp; done) | (simp; omega) | omega)
  have l2_4 : (w.heap.size + 1 + 1 + 1 + 1) < w2.heap.size := (by omega)
  have q2_4 := fun o => (bcell hb2).2 (w.heap.size + 1 + 1 + 1 + 1) o (by first | (simp; done) | (simp; omega) | omega)
  have k2_5 := fun o => (bcell hb2).1 (w.heap.size + 1 + 1 + 1 + 1 + 1) o (by first | (simp; done) | (simp; omega) | omega)
  have l2_5 : (w.heap.size + 1 + 1 + 1 + 1 + 1) < w2.heap.size := (by omega)
  have q2_5 := fun o => (bcell hb2).2 (w.heap.size + 1 + 1 + 1 + 1 + 1) o (by first | (simp; done) | (simp; omega) | omega)
  simp (maxDischargeDepth := 6) [go_sem, *] at k2_0 q2_0 k2_1 q2_1 k2_2 q2_2 k2_3 q2_3 k2_4 q2_4 k2_5 q2_5
  have HB2 := Lib.hid hb2
  clear hb2
  go_wp2_with fail
  refine (dma_Check a AD nd cd _ (ints_now HD.out (by (repeat (first | (with_reducible exact Below.refl _ _) | (with_reducible refine Below.drew ?_) | (with_reducible refine bdrewN ?_ _) | ((with_reducible refine Below.setCell ?_ ?_ _); rotate_left; exact (by first | (simp; done) | (simp; omega) | omega)) | ((with_reducible refine Below.alloc ?_ ?_ _); rotate_left; exact (by first | (simp; done) | (simp; omega) | omega)) | ((with_reducible refine Below.trans ?_ (HB2.out.mono ?_)); rotate_left; exact (by first | (simp; done) | (simp; omega) | omega)) | ((with_reducible refine Below.trans ?_ (HB1.out.mono ?_)); rotate_left; exact (by first | (simp; done) | (simp; omega) | omega))))))).mono ?_
  rintro e w3 ⟨rfl, hb3⟩
  have hz3 := hb3.size
  (try simp only [World.size_alloc, World.size_setCell, World.size_drew] at hz3)
  have k3_0 := fun o => (bcell hb3).1 (w.heap.size + 1 + 1 + 1) o (by first | (simp; done) | (simp; omega) | omega)
  have l3_0 : (w.heap.size + 1 + 1 + 1) < w3.heap.size := (by omega)
  have q3_0 := fun o => (bcell hb3).2 (w.heap.size + 1 + 1 + 1) o (by first | (simp; done) | (simp; omega) | omega)
  have k3_1 := fun o => (bcell hb3).1 (w.heap.size + 1 + 1 + 1 + 1) o (by first | (simp; done) | (simp; omega) | omega)
  have l3_1 : (w.heap.size + 1 + 1 + 1 + 1) < w3.heap.size := (by omega)
  have q3_1 := fun o => (bcell hb3).2 (w.heap.size + 1 + 1 + 1 + 1) o (by first | (simp; done) | (simp; omega) | omega)
  have k3_2 := fun o => (bcell hb3).1 (w.heap.size + 1 + 1 + 1 + 1 + 1) o (by first | (simp; done) | (simp; omega) | omega)
  have l3_2 : (w.heap.size + 1 + 1 + 1 + 1 + 1) < w3.heap.size := (by omega)
  have q3_2 := fun o => (bcell hb3).2 (w.heap.size + 1 + 1 + 1 + 1 + 1) o (by first | (simp; done) | (simp; omega) | omega)
  simp (maxDischargeDepth := 6) [go_sem, *] at k3_0 q3_0 k3_1 q3_1 k3_2 q3_2
  have HB3 := Lib.hid hb3
  clear hb3
  go_wp2
  refine bodyPost_ret (v := .tuple #[.agg #[.slice none 0 0], .agg #[.int .i64 Brg.no.mode, .int .i64 Brg.no.base, .slice none 0 0, .int .i64 Brg.no.orders.page, .int .i64 Brg.no.orders.head, .int .i64 Brg.no.orders.tail, .bool Brg.no.stopped, .int .i64 Brg.no.fences, .int .i64 Brg.no.faults.page, .int .i64 Brg.no.faults.head, .int .i64 Brg.no.faults.tail, .bool Brg.no.lost], .agg #[.bool false, .slice none 0 0, .int .i64 0, .slice none 0 0], .int .i64 (reqE a)]) ?_ rfl (do_no ?_)
  · simp (maxDischargeDepth := 8) [results, Try.results30, go_sem, Brg.no, Ring.no, *]
  · (repeat (first | (with_reducible exact Below.refl _ _) | (with_reducible refine Below.drew ?_) | (with_reducible refine bdrewN ?_ _) | ((with_reducible refine Below.setCell ?_ ?_ _); rotate_left; exact (by first | (simp; done) | (simp; omega) | omega)) | ((with_reducible refine Below.alloc ?_ ?_ _); rotate_left; exact (by first | (simp; done) | (simp; omega) | omega)) | ((with_reducible refine Below.trans ?_ (HB3.out.mono ?_)); rotate_left; exact (by first | (simp; done) | (simp; omega) | omega)) | ((with_reducible refine Below.trans ?_ (HB2.out.mono ?_)); rotate_left; exact (by first | (simp; done) | (simp; omega) | omega)) | ((with_reducible refine Below.trans ?_ (HB1.out.mono ?_)); rotate_left; exact (by first | (simp; done) | (simp; omega) | omega))))
end
end Go.Proofs.Ytbopdijnojaaiac
