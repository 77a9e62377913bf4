/- The hart: the walk of the law HartStands. No statement of the seat is proved here. -/
import Derived.Test.YtbopdijnojaaiabLawRan
namespace Go.Proofs.Ytbopdijnojaaiab
open Go.RowKit
set_option linter.unusedSimpArgs false
set_option linter.unusedVariables false

section
variable (xs : List Int) (h : Hrt) (b : Brg) (M R L : Option Addr) (nm mc nr rc n c : Nat) (w : World) (hm : Ints w w.heap.size M nm xs) (hr : Ints w w.heap.size R nr h.regs) (hl : Lines w w.heap.size L n c b.cache)
set_option maxRecDepth 100000 in
set_option maxHeartbeats 4000000 in
include hm hr hl in
theorem stands_no (hE : stepE xs h b ≠ 0) : Calls Try.prog 9 #[.agg #[.slice M nm mc], .agg #[.int .i64 h.at_, .slice R nr rc, .bool h.done], .agg #[.int .i64 b.mode, .int .i64 b.base, .slice L n c, .int .i64 b.orders.page, .int .i64 b.orders.head, .int .i64 b.orders.tail, .bool b.stopped, .int .i64 b.fences, .int .i64 b.faults.page, .int .i64 b.faults.head, .int .i64 b.faults.tail, .bool b.lost]] w fun e w' => e = .returned (.bool true) ∧ Below w.heap.size w w' := by
  have HM := Lib.hid hm
  have HR := Lib.hid hr
  have HL := Lib.hid hl
  have HE := Lib.hid hE
  have t1 : (stepE xs h b != 0) = true := by rw [bne_iff_ne]; exact hE
  clear hm hr hl hE
  go_enter Try.func9, Try.ntmps9
  go_wp2_with fail
  refine (step_not xs h b _ _ _ _ _ _ _ _ _ _ (ints_now HM.out (by (repeat (first | (with_reducible exact Below.refl _ _) | (with_reducible refine Below.drew ?_) | (with_reducible refine bdrewN ?_ _) | ((with_reducible refine Below.setCell ?_ ?_ _); rotate_left; exact (by first | (simp; done) | (simp; omega) | omega)) | ((with_reducible refine Below.alloc ?_ ?_ _); rotate_left; exact (by first | (simp; done) | (simp; omega) | omega)))))) (ints_now HR.out (by (repeat (first | (with_reducible exact Below.refl _ _) | (with_reducible refine Below.drew ?_) | (with_reducible refine bdrewN ?_ _) | ((with_reducible refine Below.setCell ?_ ?_ _); rotate_left; exact (by first | (simp; done) | (simp; omega) | omega)) | ((with_reducible refine Below.alloc ?_ ?_ _); rotate_left; exact (by first | (simp; done) | (simp; omega) | omega)))))) (lines_now HL.out (by (repeat (first | (with_reducible exact Below.refl _ _) | (with_reducible refine Below.drew ?_) | (with_reducible refine bdrewN ?_ _) | ((with_reducible refine Below.setCell ?_ ?_ _); rotate_left; exact (by first | (simp; done) | (simp; omega) | omega)) | ((with_reducible refine Below.alloc ?_ ?_ _); rotate_left; exact (by first | (simp; done) | (simp; omega) | omega)))))) HE.out).mono ?_
  rintro e w1 ⟨rfl, hb1⟩
  have hz1 := hb1.size
  (try simp only [World.size_alloc, World.size_setCell, World.size_drew] at hz1)
  have HB1 := Lib.hid hb1
  clear hb1
  go_wp2_with fail
  refine (law_ran _).mono ?_
  rintro e w2 ⟨rfl, hb2⟩
  have hz2 := hb2.size
  (try simp only [World.size_alloc, World.size_setCell, World.size_drew] at hz2)
  have HB2 := Lib.hid hb2
  clear hb2
  go_wp2_with fail
  refine (law_ran _).mono ?_
  rintro e w3 ⟨rfl, hb3⟩
  have hz3 := hb3.size
  (try simp only [World.size_alloc, World.size_setCell, World.size_drew] at hz3)
  have HB3 := Lib.hid hb3
  clear hb3
  go_wp2
  go_ret
  exact ⟨rfl, by (repeat (first | (with_reducible exact Below.refl _ _) | (with_reducible refine Below.drew ?_) | (with_reducible refine bdrewN ?_ _) | ((with_reducible refine Below.setCell ?_ ?_ _); rotate_left; exact (by first | (simp; done) | (simp; omega) | omega)) | ((with_reducible refine Below.alloc ?_ ?_ _); rotate_left; exact (by first | (simp; done) | (simp; omega) | omega)) | ((with_reducible refine Below.trans ?_ (HB3.out.mono ?_)); rotate_left; exact (by first | (simp; done) | (simp; omega) | omega)) | ((with_reducible refine Below.trans ?_ (HB2.out.mono ?_)); rotate_left; exact (by first | (simp; done) | (simp; omega) | omega)) | ((with_reducible refine Below.trans ?_ (HB1.out.mono ?_)); rotate_left; exact (by first | (simp; done) | (simp; omega) | omega))))⟩
set_option maxRecDepth 100000 in
set_option maxHeartbeats 4000000 in
include hm hr hl in
theorem stands_1 (hE : stepE xs h b = 0) (ys : List Int) (ga : Int) (rs : List Int) (bb : Brg) (hM : stepM xs h b = (ys, ⟨ga, rs, true⟩, bb)) (hA : stepE ys ⟨ga, rs, true⟩ bb = 6) (ha : 0 ≤ h.at_ ∧ h.at_ < 512) (eg : ga = h.at_) : Calls Try.prog 9 #[.agg #[.slice M nm mc], .agg #[.int .i64 h.at_, .slice R nr rc, .bool h.done], .agg #[.int .i64 b.mode, .int .i64 b.base, .slice L n c, .int .i64 b.orders.page, .int .i64 b.orders.head, .int .i64 b.orders.tail, .bool b.stopped, .int .i64 b.fences, .int .i64 b.faults.page, .int .i64 b.faults.head, .int .i64 b.faults.tail, .bool b.lost]] w fun e w' => e = .returned (.bool true) ∧ Below w.heap.size w w' := by
  have HM := Lib.hid hm
  have HR := Lib.hid hr
  have HL := Lib.hid hl
  have HE := Lib.hid hE
  have HT := Lib.hid hM
  have HA := Lib.hid hA
  obtain ⟨ha1, ha2⟩ := ha
  have e1 : IntKind.i64.wrap (h.at_ + 1) = h.at_ + 1 := IntWalk.i64_in _ (by omega)
  have e2 : (h.at_ + 1).tmod 512 = (h.at_ + 1) % 512 := Int.tmod_eq_emod_of_nonneg (by omega)
  have t5 : (h.at_ == (h.at_ + 1) % 512) = false := by rw [beq_eq_false_iff_ne]; omega
  subst eg
  clear hm hr hl hE hM hA
  go_enter Try.func9, Try.ntmps9
  go_wp2_with fail
  refine (step_ok xs h b _ _ _ _ _ _ _ _ _ _ (ints_now HM.out (by (repeat (first | (with_reducible exact Below.refl _ _) | (with_reducible refine Below.drew ?_) | (with_reducible refine bdrewN ?_ _) | ((with_reducible refine Below.setCell ?_ ?_ _); rotate_left; exact (by first | (simp; done) | (simp; omega) | omega)) | ((with_reducible refine Below.alloc ?_ ?_ _); rotate_left; exact (by first | (simp; done) | (simp; omega) | omega)))))) (ints_now HR.out (by (repeat (first | (with_reducible exact Below.refl _ _) | (with_reducible refine Below.drew ?_) | (with_reducible refine bdrewN ?_ _) | ((with_reducible refine Below.setCell ?_ ?_ _); rotate_left; exact (by first | (simp; done) | (simp; omega) | omega)) | ((with_reducible refine Below.alloc ?_ ?_ _); rotate_left; exact (by first | (simp; done) | (simp; omega) | omega)))))) (lines_now HL.out (by (repeat (first | (with_reducible exact Below.refl _ _) | (with_reducible refine Below.drew ?_) | (with_reducible refine bdrewN ?_ _) | ((with_reducible refine Below.setCell ?_ ?_ _); rotate_left; exact (by first | (simp; done) | (simp; omega) | omega)) | ((with_reducible refine Below.alloc ?_ ?_ _); rotate_left; exact (by first | (simp; done) | (simp; omega) | omega)))))) HE.out _ _ _ HT.out).mono ?_
  rintro e w1 ⟨A1, a1, P1, p1, Q1, q1, c1, rfl, hx1, hr1, hl1, hb1, _, _, _⟩
  have HX1 := Lib.hid hx1
  have HR1 := Lib.hid hr1
  have HL1 := Lib.hid hl1
  clear hx1 hr1 hl1
  have hz1 := hb1.size
  (try simp only [World.size_alloc, World.size_setCell, World.size_drew] at hz1)
  have k1_0_0 := (bcell hb1).1 (w.heap.size + 1) 0 (by first | (simp; done) | (simp; omega) | omega)
  have k1_0_1 := (bcell hb1).1 (w.heap.size + 1) 1 (by first | (simp; done) | (simp; omega) | omega)
  have k1_0_2 := (bcell hb1).1 (w.heap.size + 1) 2 (by first | (simp; done) | (simp; omega) | omega)
  have l1_0 : (w.heap.size + 1) < w1.heap.size := (by omega)
  have q1_0 := fun o => (bcell hb1).2 (w.heap.size + 1) o (by first | (simp; done) | (simp; omega) | omega)
  simp (maxDischargeDepth := 6) [go_sem, *] at k1_0_0 k1_0_1 k1_0_2 q1_0
  have HB1 := Lib.hid hb1
  clear hb1
  have y0a : w.heap.size + 1 ≤ w1.heap.size := by omega
  have y0b : w.heap.size + 1 < w1.heap.size + 1 := by omega
  have y0c : w.heap.size + 1 < w1.heap.size + 1 + 1 := by omega
  have y0d : w.heap.size + 1 < w1.heap.size + 2 := by omega
  have y0e : w.heap.size + 1 ≤ w1.heap.size + 1 := by omega
  have y0f : w.heap.size + 1 < w1.heap.size := by omega
  go_wp2_with fail
  refine (law_ran _).mono ?_
  rintro e w2 ⟨rfl, hb2⟩
  have hz2 := hb2.size
  (try simp only [World.size_alloc, World.size_setCell, World.size_drew] at hz2)
  have k2_0_0 := (bcell hb2).1 (w.heap.size + 1) 0 (by first | (simp; done) | (simp; omega) | omega)
  have k2_0_1 := (bcell hb2).1 (w.heap.size + 1) 1 (by first | (simp; done) | (simp; omega) | omega)
  have k2_0_2 := (bcell hb2).1 (w.heap.size + 1) 2 (by first | (simp; done) | (simp; omega) | omega)
  have l2_0 : (w.heap.size + 1) < w2.heap.size := (by omega)
  have q2_0 := fun o => (bcell hb2).2 (w.heap.size + 1) o (by first | (simp; done) | (simp; omega) | omega)
  have k2_1_0 := (bcell hb2).1 (w1.heap.size) 0 (by first | (simp; done) | (simp; omega) | omega)
  have l2_1 : (w1.heap.size) < w2.heap.size := (by omega)
  have q2_1 := fun o => (bcell hb2).2 (w1.heap.size) o (by first | (simp; done) | (simp; omega) | omega)
  have k2_2_0 := (bcell hb2).1 (w1.heap.size + 1) 0 (by first | (simp; done) | (simp; omega) | omega)
  have k2_2_1 := (bcell hb2).1 (w1.heap.size + 1) 1 (by first | (simp; done) | (simp; omega) | omega)
  have k2_2_2 := (bcell hb2).1 (w1.heap.size + 1) 2 (by first | (simp; done) | (simp; omega) | omega)
  have l2_2 : (w1.heap.size + 1) < w2.heap.size := (by omega)
  have q2_2 := fun o => (bcell hb2).2 (w1.heap.size + 1) o (by first | (simp; done) | (simp; omega) | omega)
  have k2_3_0 := (bcell hb2).1 (w1.heap.size + 1 + 1) 0 (by first | (simp; done) | (simp; omega) | omega)
  have k2_3_1 := (bcell hb2).1 (w1.heap.size + 1 + 1) 1 (by first | (simp; done) | (simp; omega) | omega)
  have k2_3_2 := (bcell hb2).1 (w1.heap.size + 1 + 1) 2 (by first | (simp; done) | (simp; omega) | omega)
  have k2_3_3 := (bcell hb2).1 (w1.heap.size + 1 + 1) 3 (by first | (simp; done) | (simp; omega) | omega)
  have k2_3_4 := (bcell hb2).1 (w1.heap.size + 1 + 1) 4 (by first | (simp; done) | (simp; omega) | omega)
  have k2_3_5 := (bcell hb2).1 (w1.heap.size + 1 + 1) 5 (by first | (simp; done) | (simp; omega) | omega)
  have k2_3_6 := (bcell hb2).1 (w1.heap.size + 1 + 1) 6 (by first | (simp; done) | (simp; omega) | omega)
  have k2_3_7 := (bcell hb2).1 (w1.heap.size + 1 + 1) 7 (by first | (simp; done) | (simp; omega) | omega)
  have k2_3_8 := (bcell hb2).1 (w1.heap.size + 1 + 1) 8 (by first | (simp; done) | (simp; omega) | omega)
  have k2_3_9 := (bcell hb2).1 (w1.heap.size + 1 + 1) 9 (by first | (simp; done) | (simp; omega) | omega)
  have k2_3_10 := (bcell hb2).1 (w1.heap.size + 1 + 1) 10 (by first | (simp; done) | (simp; omega) | omega)
  have k2_3_11 := (bcell hb2).1 (w1.heap.size + 1 + 1) 11 (by first | (simp; done) | (simp; omega) | omega)
  have l2_3 : (w1.heap.size + 1 + 1) < w2.heap.size := (by omega)
  have q2_3 := fun o => (bcell hb2).2 (w1.heap.size + 1 + 1) o (by first | (simp; done) | (simp; omega) | omega)
  simp (maxDischargeDepth := 6) [go_sem, *] at k2_0_0 k2_0_1 k2_0_2 q2_0 k2_1_0 q2_1 k2_2_0 k2_2_1 k2_2_2 q2_2 k2_3_0 k2_3_1 k2_3_2 k2_3_3 k2_3_4 k2_3_5 k2_3_6 k2_3_7 k2_3_8 k2_3_9 k2_3_10 k2_3_11 q2_3
  have HB2 := Lib.hid hb2
  clear hb2
  go_wp2_with fail
  refine (step_not ys ⟨h.at_, rs, true⟩ bb _ _ _ _ _ _ _ _ _ _ (ints_now HX1.out (by (repeat (first | (with_reducible exact Below.refl _ _) | (with_reducible refine Below.drew ?_) | (with_reducible refine bdrewN ?_ _) | ((with_reducible refine Below.setCell ?_ ?_ _); rotate_left; exact (by first | (simp; done) | (simp; omega) | omega)) | ((with_reducible refine Below.alloc ?_ ?_ _); rotate_left; exact (by first | (simp; done) | (simp; omega) | omega)) | ((with_reducible refine Below.trans ?_ (HB2.out.mono ?_)); rotate_left; exact (by first | (simp; done) | (simp; omega) | omega)))))) (ints_now HR1.out (by (repeat (first | (with_reducible exact Below.refl _ _) | (with_reducible refine Below.drew ?_) | (with_reducible refine bdrewN ?_ _) | ((with_reducible refine Below.setCell ?_ ?_ _); rotate_left; exact (by first | (simp; done) | (simp; omega) | omega)) | ((with_reducible refine Below.alloc ?_ ?_ _); rotate_left; exact (by first | (simp; done) | (simp; omega) | omega)) | ((with_reducible refine Below.trans ?_ (HB2.out.mono ?_)); rotate_left; exact (by first | (simp; done) | (simp; omega) | omega)))))) (lines_now HL1.out (by (repeat (first | (with_reducible exact Below.refl _ _) | (with_reducible refine Below.drew ?_) | (with_reducible refine bdrewN ?_ _) | ((with_reducible refine Below.setCell ?_ ?_ _); rotate_left; exact (by first | (simp; done) | (simp; omega) | omega)) | ((with_reducible refine Below.alloc ?_ ?_ _); rotate_left; exact (by first | (simp; done) | (simp; omega) | omega)) | ((with_reducible refine Below.trans ?_ (HB2.out.mono ?_)); rotate_left; exact (by first | (simp; done) | (simp; omega) | omega)))))) (by rw [HA.out]; decide)).mono ?_
  rw [HA.out]
  rintro e w3 ⟨rfl, hb3⟩
  have hz3 := hb3.size
  (try simp only [World.size_alloc, World.size_setCell, World.size_drew] at hz3)
  have k3_0_0 := (bcell hb3).1 (w.heap.size + 1) 0 (by first | (simp; done) | (simp; omega) | omega)
  have k3_0_1 := (bcell hb3).1 (w.heap.size + 1) 1 (by first | (simp; done) | (simp; omega) | omega)
  have k3_0_2 := (bcell hb3).1 (w.heap.size + 1) 2 (by first | (simp; done) | (simp; omega) | omega)
  have l3_0 : (w.heap.size + 1) < w3.heap.size := (by omega)
  have q3_0 := fun o => (bcell hb3).2 (w.heap.size + 1) o (by first | (simp; done) | (simp; omega) | omega)
  have k3_1_0 := (bcell hb3).1 (w1.heap.size + 1) 0 (by first | (simp; done) | (simp; omega) | omega)
  have k3_1_1 := (bcell hb3).1 (w1.heap.size + 1) 1 (by first | (simp; done) | (simp; omega) | omega)
  have k3_1_2 := (bcell hb3).1 (w1.heap.size + 1) 2 (by first | (simp; done) | (simp; omega) | omega)
  have l3_1 : (w1.heap.size + 1) < w3.heap.size := (by omega)
  have q3_1 := fun o => (bcell hb3).2 (w1.heap.size + 1) o (by first | (simp; done) | (simp; omega) | omega)
  simp (maxDischargeDepth := 6) [go_sem, *] at k3_0_0 k3_0_1 k3_0_2 q3_0 k3_1_0 k3_1_1 k3_1_2 q3_1
  have HB3 := Lib.hid hb3
  clear hb3
  have y0a : w.heap.size + 1 ≤ w3.heap.size := by omega
  have y0b : w.heap.size + 1 < w3.heap.size + 1 := by omega
  have y0c : w.heap.size + 1 < w3.heap.size + 1 + 1 := by omega
  have y0d : w.heap.size + 1 < w3.heap.size + 2 := by omega
  have y0e : w.heap.size + 1 ≤ w3.heap.size + 1 := by omega
  have y0f : w.heap.size + 1 < w3.heap.size := by omega
  have y1a : w1.heap.size + 1 ≤ w3.heap.size := by omega
  have y1b : w1.heap.size + 1 < w3.heap.size + 1 := by omega
  have y1c : w1.heap.size + 1 < w3.heap.size + 1 + 1 := by omega
  have y1d : w1.heap.size + 1 < w3.heap.size + 2 := by omega
  have y1e : w1.heap.size + 1 ≤ w3.heap.size + 1 := by omega
  have y1f : w1.heap.size + 1 < w3.heap.size := by omega
  go_wp2
  go_ret
  exact ⟨rfl, by (repeat (first | (with_reducible exact Below.refl _ _) | (with_reducible refine Below.drew ?_) | (with_reducible refine bdrewN ?_ _) | ((with_reducible refine Below.setCell ?_ ?_ _); rotate_left; exact (by first | (simp; done) | (simp; omega) | omega)) | ((with_reducible refine Below.alloc ?_ ?_ _); rotate_left; exact (by first | (simp; done) | (simp; omega) | omega)) | ((with_reducible refine Below.trans ?_ (HB3.out.mono ?_)); rotate_left; exact (by first | (simp; done) | (simp; omega) | omega)) | ((with_reducible refine Below.trans ?_ (HB2.out.mono ?_)); rotate_left; exact (by first | (simp; done) | (simp; omega) | omega)) | ((with_reducible refine Below.trans ?_ (HB1.out.mono ?_)); rotate_left; exact (by first | (simp; done) | (simp; omega) | omega))))⟩
set_option maxRecDepth 100000 in
set_option maxHeartbeats 4000000 in
include hm hr hl in
theorem stands_2 (hE : stepE xs h b = 0) (ys : List Int) (ga : Int) (rs : List Int) (bb : Brg) (hM : stepM xs h b = (ys, ⟨ga, rs, false⟩, bb)) (hA : stepE ys ⟨ga, rs, false⟩ bb = 0) (ha : 0 ≤ h.at_ ∧ h.at_ < 512) (eg : ga = (h.at_ + 1) % 512) : Calls Try.prog 9 #[.agg #[.slice M nm mc], .agg #[.int .i64 h.at_, .slice R nr rc, .bool h.done], .agg #[.int .i64 b.mode, .int .i64 b.base, .slice L n c, .int .i64 b.orders.page, .int .i64 b.orders.head, .int .i64 b.orders.tail, .bool b.stopped, .int .i64 b.fences, .int .i64 b.faults.page, .int .i64 b.faults.head, .int .i64 b.faults.tail, .bool b.lost]] w fun e w' => e = .returned (.bool true) ∧ Below w.heap.size w w' := by
  have HM := Lib.hid hm
  have HR := Lib.hid hr
  have HL := Lib.hid hl
  have HE := Lib.hid hE
  have HT := Lib.hid hM
  have HA := Lib.hid hA
  obtain ⟨ha1, ha2⟩ := ha
  have e1 : IntKind.i64.wrap (h.at_ + 1) = h.at_ + 1 := IntWalk.i64_in _ (by omega)
  have e2 : (h.at_ + 1).tmod 512 = (h.at_ + 1) % 512 := Int.tmod_eq_emod_of_nonneg (by omega)
  subst eg
  clear hm hr hl hE hM hA
  go_enter Try.func9, Try.ntmps9
  go_wp2_with fail
  refine (step_ok xs h b _ _ _ _ _ _ _ _ _ _ (ints_now HM.out (by (repeat (first | (with_reducible exact Below.refl _ _) | (with_reducible refine Below.drew ?_) | (with_reducible refine bdrewN ?_ _) | ((with_reducible refine Below.setCell ?_ ?_ _); rotate_left; exact (by first | (simp; done) | (simp; omega) | omega)) | ((with_reducible refine Below.alloc ?_ ?_ _); rotate_left; exact (by first | (simp; done) | (simp; omega) | omega)))))) (ints_now HR.out (by (repeat (first | (with_reducible exact Below.refl _ _) | (with_reducible refine Below.drew ?_) | (with_reducible refine bdrewN ?_ _) | ((with_reducible refine Below.setCell ?_ ?_ _); rotate_left; exact (by first | (simp; done) | (simp; omega) | omega)) | ((with_reducible refine Below.alloc ?_ ?_ _); rotate_left; exact (by first | (simp; done) | (simp; omega) | omega)))))) (lines_now HL.out (by (repeat (first | (with_reducible exact Below.refl _ _) | (with_reducible refine Below.drew ?_) | (with_reducible refine bdrewN ?_ _) | ((with_reducible refine Below.setCell ?_ ?_ _); rotate_left; exact (by first | (simp; done) | (simp; omega) | omega)) | ((with_reducible refine Below.alloc ?_ ?_ _); rotate_left; exact (by first | (simp; done) | (simp; omega) | omega)))))) HE.out _ _ _ HT.out).mono ?_
  rintro e w1 ⟨A1, a1, P1, p1, Q1, q1, c1, rfl, hx1, hr1, hl1, hb1, _, _, _⟩
  have HX1 := Lib.hid hx1
  have HR1 := Lib.hid hr1
  have HL1 := Lib.hid hl1
  clear hx1 hr1 hl1
  have hz1 := hb1.size
  (try simp only [World.size_alloc, World.size_setCell, World.size_drew] at hz1)
  have k1_0_0 := (bcell hb1).1 (w.heap.size + 1) 0 (by first | (simp; done) | (simp; omega) | omega)
  have k1_0_1 := (bcell hb1).1 (w.heap.size + 1) 1 (by first | (simp; done) | (simp; omega) | omega)
  have k1_0_2 := (bcell hb1).1 (w.heap.size + 1) 2 (by first | (simp; done) | (simp; omega) | omega)
  have l1_0 : (w.heap.size + 1) < w1.heap.size := (by omega)
  have q1_0 := fun o => (bcell hb1).2 (w.heap.size + 1) o (by first | (simp; done) | (simp; omega) | omega)
  simp (maxDischargeDepth := 6) [go_sem, *] at k1_0_0 k1_0_1 k1_0_2 q1_0
  have HB1 := Lib.hid hb1
  clear hb1
  have y0a : w.heap.size + 1 ≤ w1.heap.size := by omega
  have y0b : w.heap.size + 1 < w1.heap.size + 1 := by omega
  have y0c : w.heap.size + 1 < w1.heap.size + 1 + 1 := by omega
  have y0d : w.heap.size + 1 < w1.heap.size + 2 := by omega
  have y0e : w.heap.size + 1 ≤ w1.heap.size + 1 := by omega
  have y0f : w.heap.size + 1 < w1.heap.size := by omega
  go_wp2_with fail
  refine (law_ran _).mono ?_
  rintro e w2 ⟨rfl, hb2⟩
  have hz2 := hb2.size
  (try simp only [World.size_alloc, World.size_setCell, World.size_drew] at hz2)
  have k2_0_0 := (bcell hb2).1 (w.heap.size + 1) 0 (by first | (simp; done) | (simp; omega) | omega)
  have k2_0_1 := (bcell hb2).1 (w.heap.size + 1) 1 (by first | (simp; done) | (simp; omega) | omega)
  have k2_0_2 := (bcell hb2).1 (w.heap.size + 1) 2 (by first | (simp; done) | (simp; omega) | omega)
  have l2_0 : (w.heap.size + 1) < w2.heap.size := (by omega)
  have q2_0 := fun o => (bcell hb2).2 (w.heap.size + 1) o (by first | (simp; done) | (simp; omega) | omega)
  have k2_1_0 := (bcell hb2).1 (w1.heap.size) 0 (by first | (simp; done) | (simp; omega) | omega)
  have l2_1 : (w1.heap.size) < w2.heap.size := (by omega)
  have q2_1 := fun o => (bcell hb2).2 (w1.heap.size) o (by first | (simp; done) | (simp; omega) | omega)
  have k2_2_0 := (bcell hb2).1 (w1.heap.size + 1) 0 (by first | (simp; done) | (simp; omega) | omega)
  have k2_2_1 := (bcell hb2).1 (w1.heap.size + 1) 1 (by first | (simp; done) | (simp; omega) | omega)
  have k2_2_2 := (bcell hb2).1 (w1.heap.size + 1) 2 (by first | (simp; done) | (simp; omega) | omega)
  have l2_2 : (w1.heap.size + 1) < w2.heap.size := (by omega)
  have q2_2 := fun o => (bcell hb2).2 (w1.heap.size + 1) o (by first | (simp; done) | (simp; omega) | omega)
  have k2_3_0 := (bcell hb2).1 (w1.heap.size + 1 + 1) 0 (by first | (simp; done) | (simp; omega) | omega)
  have k2_3_1 := (bcell hb2).1 (w1.heap.size + 1 + 1) 1 (by first | (simp; done) | (simp; omega) | omega)
  have k2_3_2 := (bcell hb2).1 (w1.heap.size + 1 + 1) 2 (by first | (simp; done) | (simp; omega) | omega)
  have k2_3_3 := (bcell hb2).1 (w1.heap.size + 1 + 1) 3 (by first | (simp; done) | (simp; omega) | omega)
  have k2_3_4 := (bcell hb2).1 (w1.heap.size + 1 + 1) 4 (by first | (simp; done) | (simp; omega) | omega)
  have k2_3_5 := (bcell hb2).1 (w1.heap.size + 1 + 1) 5 (by first | (simp; done) | (simp; omega) | omega)
  have k2_3_6 := (bcell hb2).1 (w1.heap.size + 1 + 1) 6 (by first | (simp; done) | (simp; omega) | omega)
  have k2_3_7 := (bcell hb2).1 (w1.heap.size + 1 + 1) 7 (by first | (simp; done) | (simp; omega) | omega)
  have k2_3_8 := (bcell hb2).1 (w1.heap.size + 1 + 1) 8 (by first | (simp; done) | (simp; omega) | omega)
  have k2_3_9 := (bcell hb2).1 (w1.heap.size + 1 + 1) 9 (by first | (simp; done) | (simp; omega) | omega)
  have k2_3_10 := (bcell hb2).1 (w1.heap.size + 1 + 1) 10 (by first | (simp; done) | (simp; omega) | omega)
  have k2_3_11 := (bcell hb2).1 (w1.heap.size + 1 + 1) 11 (by first | (simp; done) | (simp; omega) | omega)
  have l2_3 : (w1.heap.size + 1 + 1) < w2.heap.size := (by omega)
  have q2_3 := fun o => (bcell hb2).2 (w1.heap.size + 1 + 1) o (by first | (simp; done) | (simp; omega) | omega)
  simp (maxDischargeDepth := 6) [go_sem, *] at k2_0_0 k2_0_1 k2_0_2 q2_0 k2_1_0 q2_1 k2_2_0 k2_2_1 k2_2_2 q2_2 k2_3_0 k2_3_1 k2_3_2 k2_3_3 k2_3_4 k2_3_5 k2_3_6 k2_3_7 k2_3_8 k2_3_9 k2_3_10 k2_3_11 q2_3
  have HB2 := Lib.hid hb2
  clear hb2
  go_wp2_with fail
  refine (step_ok ys ⟨(h.at_ + 1) % 512, rs, false⟩ bb _ _ _ _ _ _ _ _ _ _ (ints_now HX1.out (by (repeat (first | (with_reducible exact Below.refl _ _) | (with_reducible refine Below.drew ?_) | (with_reducible refine bdrewN ?_ _) | ((with_reducible refine Below.setCell ?_ ?_ _); rotate_left; exact (by first | (simp; done) | (simp; omega) | omega)) | ((with_reducible refine Below.alloc ?_ ?_ _); rotate_left; exact (by first | (simp; done) | (simp; omega) | omega)) | ((with_reducible refine Below.trans ?_ (HB2.out.mono ?_)); rotate_left; exact (by first | (simp; done) | (simp; omega) | omega)))))) (ints_now HR1.out (by (repeat (first | (with_reducible exact Below.refl _ _) | (with_reducible refine Below.drew ?_) | (with_reducible refine bdrewN ?_ _) | ((with_reducible refine Below.setCell ?_ ?_ _); rotate_left; exact (by first | (simp; done) | (simp; omega) | omega)) | ((with_reducible refine Below.alloc ?_ ?_ _); rotate_left; exact (by first | (simp; done) | (simp; omega) | omega)) | ((with_reducible refine Below.trans ?_ (HB2.out.mono ?_)); rotate_left; exact (by first | (simp; done) | (simp; omega) | omega)))))) (lines_now HL1.out (by (repeat (first | (with_reducible exact Below.refl _ _) | (with_reducible refine Below.drew ?_) | (with_reducible refine bdrewN ?_ _) | ((with_reducible refine Below.setCell ?_ ?_ _); rotate_left; exact (by first | (simp; done) | (simp; omega) | omega)) | ((with_reducible refine Below.alloc ?_ ?_ _); rotate_left; exact (by first | (simp; done) | (simp; omega) | omega)) | ((with_reducible refine Below.trans ?_ (HB2.out.mono ?_)); rotate_left; exact (by first | (simp; done) | (simp; omega) | omega)))))) HA.out _ _ _ rfl).mono ?_
  rintro e w3 ⟨A3, a3, P3, p3, Q3, q3, c3, rfl, _, _, _, hb3, _, _, _⟩
  have hz3 := hb3.size
  (try simp only [World.size_alloc, World.size_setCell, World.size_drew] at hz3)
  have k3_0_0 := (bcell hb3).1 (w.heap.size + 1) 0 (by first | (simp; done) | (simp; omega) | omega)
  have k3_0_1 := (bcell hb3).1 (w.heap.size + 1) 1 (by first | (simp; done) | (simp; omega) | omega)
  have k3_0_2 := (bcell hb3).1 (w.heap.size + 1) 2 (by first | (simp; done) | (simp; omega) | omega)
  have l3_0 : (w.heap.size + 1) < w3.heap.size := (by omega)
  have q3_0 := fun o => (bcell hb3).2 (w.heap.size + 1) o (by first | (simp; done) | (simp; omega) | omega)
  have k3_1_0 := (bcell hb3).1 (w1.heap.size + 1) 0 (by first | (simp; done) | (simp; omega) | omega)
  have k3_1_1 := (bcell hb3).1 (w1.heap.size + 1) 1 (by first | (simp; done) | (simp; omega) | omega)
  have k3_1_2 := (bcell hb3).1 (w1.heap.size + 1) 2 (by first | (simp; done) | (simp; omega) | omega)
  have l3_1 : (w1.heap.size + 1) < w3.heap.size := (by omega)
  have q3_1 := fun o => (bcell hb3).2 (w1.heap.size + 1) o (by first | (simp; done) | (simp; omega) | omega)
  simp (maxDischargeDepth := 6) [go_sem, *] at k3_0_0 k3_0_1 k3_0_2 q3_0 k3_1_0 k3_1_1 k3_1_2 q3_1
  have HB3 := Lib.hid hb3
  clear hb3
  have y0a : w.heap.size + 1 ≤ w3.heap.size := by omega
  have y0b : w.heap.size + 1 < w3.heap.size + 1 := by omega
  have y0c : w.heap.size + 1 < w3.heap.size + 1 + 1 := by omega
  have y0d : w.heap.size + 1 < w3.heap.size + 2 := by omega
  have y0e : w.heap.size + 1 ≤ w3.heap.size + 1 := by omega
  have y0f : w.heap.size + 1 < w3.heap.size := by omega
  have y1a : w1.heap.size + 1 ≤ w3.heap.size := by omega
  have y1b : w1.heap.size + 1 < w3.heap.size + 1 := by omega
  have y1c : w1.heap.size + 1 < w3.heap.size + 1 + 1 := by omega
  have y1d : w1.heap.size + 1 < w3.heap.size + 2 := by omega
  have y1e : w1.heap.size + 1 ≤ w3.heap.size + 1 := by omega
  have y1f : w1.heap.size + 1 < w3.heap.size := by omega
  go_wp2
  go_ret
  exact ⟨rfl, by (repeat (first | (with_reducible exact Below.refl _ _) | (with_reducible refine Below.drew ?_) | (with_reducible refine bdrewN ?_ _) | ((with_reducible refine Below.setCell ?_ ?_ _); rotate_left; exact (by first | (simp; done) | (simp; omega) | omega)) | ((with_reducible refine Below.alloc ?_ ?_ _); rotate_left; exact (by first | (simp; done) | (simp; omega) | omega)) | ((with_reducible refine Below.trans ?_ (HB3.out.mono ?_)); rotate_left; exact (by first | (simp; done) | (simp; omega) | omega)) | ((with_reducible refine Below.trans ?_ (HB2.out.mono ?_)); rotate_left; exact (by first | (simp; done) | (simp; omega) | omega)) | ((with_reducible refine Below.trans ?_ (HB1.out.mono ?_)); rotate_left; exact (by first | (simp; done) | (simp; omega) | omega))))⟩
set_option maxRecDepth 100000 in
set_option maxHeartbeats 4000000 in
include hm hr hl in
theorem stands_3 (hE : stepE xs h b = 0) (ys : List Int) (ga : Int) (rs : List Int) (bb : Brg) (hM : stepM xs h b = (ys, ⟨ga, rs, false⟩, bb)) (hA : stepE ys ⟨ga, rs, false⟩ bb = 0) (ha : 0 ≤ h.at_ ∧ h.at_ < 512) (gn : ga ≠ (h.at_ + 1) % 512) (g6 : ga ≤ 63) : Calls Try.prog 9 #[.agg #[.slice M nm mc], .agg #[.int .i64 h.at_, .slice R nr rc, .bool h.done], .agg #[.int .i64 b.mode, .int .i64 b.base, .slice L n c, .int .i64 b.orders.page, .int .i64 b.orders.head, .int .i64 b.orders.tail, .bool b.stopped, .int .i64 b.fences, .int .i64 b.faults.page, .int .i64 b.faults.head, .int .i64 b.faults.tail, .bool b.lost]] w fun e w' => e = .returned (.bool true) ∧ Below w.heap.size w w' := by
  have HM := Lib.hid hm
  have HR := Lib.hid hr
  have HL := Lib.hid hl
  have HE := Lib.hid hE
  have HT := Lib.hid hM
  have HA := Lib.hid hA
  obtain ⟨ha1, ha2⟩ := ha
  have e1 : IntKind.i64.wrap (h.at_ + 1) = h.at_ + 1 := IntWalk.i64_in _ (by omega)
  have e2 : (h.at_ + 1).tmod 512 = (h.at_ + 1) % 512 := Int.tmod_eq_emod_of_nonneg (by omega)
  have t5 : (ga == (h.at_ + 1) % 512) = false := by rw [beq_eq_false_iff_ne]; exact gn
  clear gn
  clear hm hr hl hE hM hA
  go_enter Try.func9, Try.ntmps9
  go_wp2_with fail
  refine (step_ok xs h b _ _ _ _ _ _ _ _ _ _ (ints_now HM.out (by (repeat (first | (with_reducible exact Below.refl _ _) | (with_reducible refine Below.drew ?_) | (with_reducible refine bdrewN ?_ _) | ((with_reducible refine Below.setCell ?_ ?_ _); rotate_left; exact (by first | (simp; done) | (simp; omega) | omega)) | ((with_reducible refine Below.alloc ?_ ?_ _); rotate_left; exact (by first | (simp; done) | (simp; omega) | omega)))))) (ints_now HR.out (by (repeat (first | (with_reducible exact Below.refl _ _) | (with_reducible refine Below.drew ?_) | (with_reducible refine bdrewN ?_ _) | ((with_reducible refine Below.setCell ?_ ?_ _); rotate_left; exact (by first | (simp; done) | (simp; omega) | omega)) | ((with_reducible refine Below.alloc ?_ ?_ _); rotate_left; exact (by first | (simp; done) | (simp; omega) | omega)))))) (lines_now HL.out (by (repeat (first | (with_reducible exact Below.refl _ _) | (with_reducible refine Below.drew ?_) | (with_reducible refine bdrewN ?_ _) | ((with_reducible refine Below.setCell ?_ ?_ _); rotate_left; exact (by first | (simp; done) | (simp; omega) | omega)) | ((with_reducible refine Below.alloc ?_ ?_ _); rotate_left; exact (by first | (simp; done) | (simp; omega) | omega)))))) HE.out _ _ _ HT.out).mono ?_
  rintro e w1 ⟨A1, a1, P1, p1, Q1, q1, c1, rfl, hx1, hr1, hl1, hb1, _, _, _⟩
  have HX1 := Lib.hid hx1
  have HR1 := Lib.hid hr1
  have HL1 := Lib.hid hl1
  clear hx1 hr1 hl1
  have hz1 := hb1.size
  (try simp only [World.size_alloc, World.size_setCell, World.size_drew] at hz1)
  have k1_0_0 := (bcell hb1).1 (w.heap.size + 1) 0 (by first | (simp; done) | (simp; omega) | omega)
  have k1_0_1 := (bcell hb1).1 (w.heap.size + 1) 1 (by first | (simp; done) | (simp; omega) | omega)
  have k1_0_2 := (bcell hb1).1 (w.heap.size + 1) 2 (by first | (simp; done) | (simp; omega) | omega)
  have l1_0 : (w.heap.size + 1) < w1.heap.size := (by omega)
  have q1_0 := fun o => (bcell hb1).2 (w.heap.size + 1) o (by first | (simp; done) | (simp; omega) | omega)
  simp (maxDischargeDepth := 6) [go_sem, *] at k1_0_0 k1_0_1 k1_0_2 q1_0
  have HB1 := Lib.hid hb1
  clear hb1
  have y0a : w.heap.size + 1 ≤ w1.heap.size := by omega
  have y0b : w.heap.size + 1 < w1.heap.size + 1 := by omega
  have y0c : w.heap.size + 1 < w1.heap.size + 1 + 1 := by omega
  have y0d : w.heap.size + 1 < w1.heap.size + 2 := by omega
  have y0e : w.heap.size + 1 ≤ w1.heap.size + 1 := by omega
  have y0f : w.heap.size + 1 < w1.heap.size := by omega
  go_wp2_with fail
  refine (law_ran _).mono ?_
  rintro e w2 ⟨rfl, hb2⟩
  have hz2 := hb2.size
  (try simp only [World.size_alloc, World.size_setCell, World.size_drew] at hz2)
  have k2_0_0 := (bcell hb2).1 (w.heap.size + 1) 0 (by first | (simp; done) | (simp; omega) | omega)
  have k2_0_1 := (bcell hb2).1 (w.heap.size + 1) 1 (by first | (simp; done) | (simp; omega) | omega)
  have k2_0_2 := (bcell hb2).1 (w.heap.size + 1) 2 (by first | (simp; done) | (simp; omega) | omega)
  have l2_0 : (w.heap.size + 1) < w2.heap.size := (by omega)
  have q2_0 := fun o => (bcell hb2).2 (w.heap.size + 1) o (by first | (simp; done) | (simp; omega) | omega)
  have k2_1_0 := (bcell hb2).1 (w1.heap.size) 0 (by first | (simp; done) | (simp; omega) | omega)
  have l2_1 : (w1.heap.size) < w2.heap.size := (by omega)
  have q2_1 := fun o => (bcell hb2).2 (w1.heap.size) o (by first | (simp; done) | (simp; omega) | omega)
  have k2_2_0 := (bcell hb2).1 (w1.heap.size + 1) 0 (by first | (simp; done) | (simp; omega) | omega)
  have k2_2_1 := (bcell hb2).1 (w1.heap.size + 1) 1 (by first | (simp; done) | (simp; omega) | omega)
  have k2_2_2 := (bcell hb2).1 (w1.heap.size + 1) 2 (by first | (simp; done) | (simp; omega) | omega)
  have l2_2 : (w1.heap.size + 1) < w2.heap.size := (by omega)
  have q2_2 := fun o => (bcell hb2).2 (w1.heap.size + 1) o (by first | (simp; done) | (simp; omega) | omega)
  have k2_3_0 := (bcell hb2).1 (w1.heap.size + 1 + 1) 0 (by first | (simp; done) | (simp; omega) | omega)
  have k2_3_1 := (bcell hb2).1 (w1.heap.size + 1 + 1) 1 (by first | (simp; done) | (simp; omega) | omega)
  have k2_3_2 := (bcell hb2).1 (w1.heap.size + 1 + 1) 2 (by first | (simp; done) | (simp; omega) | omega)
  have k2_3_3 := (bcell hb2).1 (w1.heap.size + 1 + 1) 3 (by first | (simp; done) | (simp; omega) | omega)
  have k2_3_4 := (bcell hb2).1 (w1.heap.size + 1 + 1) 4 (by first | (simp; done) | (simp; omega) | omega)
  have k2_3_5 := (bcell hb2).1 (w1.heap.size + 1 + 1) 5 (by first | (simp; done) | (simp; omega) | omega)
  have k2_3_6 := (bcell hb2).1 (w1.heap.size + 1 + 1) 6 (by first | (simp; done) | (simp; omega) | omega)
  have k2_3_7 := (bcell hb2).1 (w1.heap.size + 1 + 1) 7 (by first | (simp; done) | (simp; omega) | omega)
  have k2_3_8 := (bcell hb2).1 (w1.heap.size + 1 + 1) 8 (by first | (simp; done) | (simp; omega) | omega)
  have k2_3_9 := (bcell hb2).1 (w1.heap.size + 1 + 1) 9 (by first | (simp; done) | (simp; omega) | omega)
  have k2_3_10 := (bcell hb2).1 (w1.heap.size + 1 + 1) 10 (by first | (simp; done) | (simp; omega) | omega)
  have k2_3_11 := (bcell hb2).1 (w1.heap.size + 1 + 1) 11 (by first | (simp; done) | (simp; omega) | omega)
  have l2_3 : (w1.heap.size + 1 + 1) < w2.heap.size := (by omega)
  have q2_3 := fun o => (bcell hb2).2 (w1.heap.size + 1 + 1) o (by first | (simp; done) | (simp; omega) | omega)
  simp (maxDischargeDepth := 6) [go_sem, *] at k2_0_0 k2_0_1 k2_0_2 q2_0 k2_1_0 q2_1 k2_2_0 k2_2_1 k2_2_2 q2_2 k2_3_0 k2_3_1 k2_3_2 k2_3_3 k2_3_4 k2_3_5 k2_3_6 k2_3_7 k2_3_8 k2_3_9 k2_3_10 k2_3_11 q2_3
  have HB2 := Lib.hid hb2
  clear hb2
  go_wp2_with fail
  refine (step_ok ys ⟨ga, rs, false⟩ bb _ _ _ _ _ _ _ _ _ _ (ints_now HX1.out (by (repeat (first | (with_reducible exact Below.refl _ _) | (with_reducible refine Below.drew ?_) | (with_reducible refine bdrewN ?_ _) | ((with_reducible refine Below.setCell ?_ ?_ _); rotate_left; exact (by first | (simp; done) | (simp; omega) | omega)) | ((with_reducible refine Below.alloc ?_ ?_ _); rotate_left; exact (by first | (simp; done) | (simp; omega) | omega)) | ((with_reducible refine Below.trans ?_ (HB2.out.mono ?_)); rotate_left; exact (by first | (simp; done) | (simp; omega) | omega)))))) (ints_now HR1.out (by (repeat (first | (with_reducible exact Below.refl _ _) | (with_reducible refine Below.drew ?_) | (with_reducible refine bdrewN ?_ _) | ((with_reducible refine Below.setCell ?_ ?_ _); rotate_left; exact (by first | (simp; done) | (simp; omega) | omega)) | ((with_reducible refine Below.alloc ?_ ?_ _); rotate_left; exact (by first | (simp; done) | (simp; omega) | omega)) | ((with_reducible refine Below.trans ?_ (HB2.out.mono ?_)); rotate_left; exact (by first | (simp; done) | (simp; omega) | omega)))))) (lines_now HL1.out (by (repeat (first | (with_reducible exact Below.refl _ _) | (with_reducible refine Below.drew ?_) | (with_reducible refine bdrewN ?_ _) | ((with_reducible refine Below.setCell ?_ ?_ _); rotate_left; exact (by first | (simp; done) | (simp; omega) | omega)) | ((with_reducible refine Below.alloc ?_ ?_ _); rotate_left; exact (by first | (simp; done) | (simp; omega) | omega)) | ((with_reducible refine Below.trans ?_ (HB2.out.mono ?_)); rotate_left; exact (by first | (simp; done) | (simp; omega) | omega)))))) HA.out _ _ _ rfl).mono ?_
  rintro e w3 ⟨A3, a3, P3, p3, Q3, q3, c3, rfl, _, _, _, hb3, _, _, _⟩
  have hz3 := hb3.size
  (try simp only [World.size_alloc, World.size_setCell, World.size_drew] at hz3)
  have k3_0_0 := (bcell hb3).1 (w.heap.size + 1) 0 (by first | (simp; done) | (simp; omega) | omega)
  have k3_0_1 := (bcell hb3).1 (w.heap.size + 1) 1 (by first | (simp; done) | (simp; omega) | omega)
  have k3_0_2 := (bcell hb3).1 (w.heap.size + 1) 2 (by first | (simp; done) | (simp; omega) | omega)
  have l3_0 : (w.heap.size + 1) < w3.heap.size := (by omega)
  have q3_0 := fun o => (bcell hb3).2 (w.heap.size + 1) o (by first | (simp; done) | (simp; omega) | omega)
  have k3_1_0 := (bcell hb3).1 (w1.heap.size + 1) 0 (by first | (simp; done) | (simp; omega) | omega)
  have k3_1_1 := (bcell hb3).1 (w1.heap.size + 1) 1 (by first | (simp; done) | (simp; omega) | omega)
  have k3_1_2 := (bcell hb3).1 (w1.heap.size + 1) 2 (by first | (simp; done) | (simp; omega) | omega)
  have l3_1 : (w1.heap.size + 1) < w3.heap.size := (by omega)
  have q3_1 := fun o => (bcell hb3).2 (w1.heap.size + 1) o (by first | (simp; done) | (simp; omega) | omega)
  simp (maxDischargeDepth := 6) [go_sem, *] at k3_0_0 k3_0_1 k3_0_2 q3_0 k3_1_0 k3_1_1 k3_1_2 q3_1
  have HB3 := Lib.hid hb3
  clear hb3
  have y0a : w.heap.size + 1 ≤ w3.heap.size := by omega
  have y0b : w.heap.size + 1 < w3.heap.size + 1 := by omega
  have y0c : w.heap.size + 1 < w3.heap.size + 1 + 1 := by omega
  have y0d : w.heap.size + 1 < w3.heap.size + 2 := by omega
  have y0e : w.heap.size + 1 ≤ w3.heap.size + 1 := by omega
  have y0f : w.heap.size + 1 < w3.heap.size := by omega
  have y1a : w1.heap.size + 1 ≤ w3.heap.size := by omega
  have y1b : w1.heap.size + 1 < w3.heap.size + 1 := by omega
  have y1c : w1.heap.size + 1 < w3.heap.size + 1 + 1 := by omega
  have y1d : w1.heap.size + 1 < w3.heap.size + 2 := by omega
  have y1e : w1.heap.size + 1 ≤ w3.heap.size + 1 := by omega
  have y1f : w1.heap.size + 1 < w3.heap.size := by omega
  go_wp2
  go_ret
  exact ⟨rfl, by (repeat (first | (with_reducible exact Below.refl _ _) | (with_reducible refine Below.drew ?_) | (with_reducible refine bdrewN ?_ _) | ((with_reducible refine Below.setCell ?_ ?_ _); rotate_left; exact (by first | (simp; done) | (simp; omega) | omega)) | ((with_reducible refine Below.alloc ?_ ?_ _); rotate_left; exact (by first | (simp; done) | (simp; omega) | omega)) | ((with_reducible refine Below.trans ?_ (HB3.out.mono ?_)); rotate_left; exact (by first | (simp; done) | (simp; omega) | omega)) | ((with_reducible refine Below.trans ?_ (HB2.out.mono ?_)); rotate_left; exact (by first | (simp; done) | (simp; omega) | omega)) | ((with_reducible refine Below.trans ?_ (HB1.out.mono ?_)); rotate_left; exact (by first | (simp; done) | (simp; omega) | omega))))⟩
include hm hr hl in
theorem law_HartStands : Calls Try.prog 9 #[.agg #[.slice M nm mc], .agg #[.int .i64 h.at_, .slice R nr rc, .bool h.done], .agg #[.int .i64 b.mode, .int .i64 b.base, .slice L n c, .int .i64 b.orders.page, .int .i64 b.orders.head, .int .i64 b.orders.tail, .bool b.stopped, .int .i64 b.fences, .int .i64 b.faults.page, .int .i64 b.faults.head, .int .i64 b.faults.tail, .bool b.lost]] w fun e w' => e = .returned (.bool true) ∧ Below w.heap.size w w' := by
  by_cases hE : stepE xs h b = 0
  · have hk := step_keeps hE
    have ha := (ckH_inv (stepE_inv hE).2.1).2.1
    have hg := step_again hk
    have h1 := hk.at_
    have h2 := hk.no
    cases hr' : stepM xs h b with | mk ys r =>
    obtain ⟨⟨ga, rs, dn⟩, bb⟩ := r
    rw [hr'] at hg h1 h2
    simp only [] at hg h1 h2
    cases dn with
    | true => exact stands_1 xs h b M R L nm mc nr rc n c w hm hr hl hE ys ga rs bb hr' (by rw [hg]; rfl) ha (h2 rfl).2.2.1
    | false =>
      by_cases hn : ga = (h.at_ + 1) % 512
      · exact stands_2 xs h b M R L nm mc nr rc n c w hm hr hl hE ys ga rs bb hr' (by rw [hg]; rfl) ha hn
      · exact stands_3 xs h b M R L nm mc nr rc n c w hm hr hl hE ys ga rs bb hr' (by rw [hg]; rfl) ha hn ((h1 rfl).resolve_left hn).2
  · exact stands_no xs h b M R L nm mc nr rc n c w hm hr hl hE
end
end Go.Proofs.Ytbopdijnojaaiab
