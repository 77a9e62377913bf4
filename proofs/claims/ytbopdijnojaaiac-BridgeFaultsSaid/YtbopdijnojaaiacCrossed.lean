/- The laws' own 'tables' and 'crossed': a closed fact on bridges. No statement of the seat is proved here. -/
import Derived.Test.YtbopdijnojaaiacBridgeS
import Derived.Test.YtbopdijnojaaiacMemZ
namespace Go.Proofs.Ytbopdijnojaaiac
open Go.RowKit
set_option linter.unusedSimpArgs false
set_option linter.unusedVariables false

def tabM : List Int := withL (List.replicate 512 0) [9, 33, 10, 3, 16, 49, 24, 159, 25, 139]
theorem tabM_eq : withL (List.replicate 512 0) [9, 33, 10, 3, 16, 49, 24, 159, 25, 139] = tabM := rfl
def tabB : Brg := ⟨2, 1, [], ⟨40, 0, 0⟩, false, 0, ⟨41, 0, 0⟩, false⟩
def crsB : Brg := ⟨2, 1, [⟨1, 0, 9, true, true⟩], ⟨40, 0, 0⟩, false, 0, ⟨41, 0, 0⟩, false⟩
theorem crs1 : thruA tabM tabB 1 0 true = (crsB, 9, 0) := by kernel_rfl
theorem crs1e : thruE tabM tabB 1 0 = 0 := by kernel_rfl
theorem crs2 : thruA (tabM.set 24 0) crsB 1 0 true = (crsB, 9, 0) := by kernel_rfl
theorem crs2e : thruE (tabM.set 24 0) crsB 1 0 = 0 := by kernel_rfl
theorem crs3 : thruA (tabM.set 24 0) { crsB with cache := [] } 1 0 true = (tabB, 0, 3) := by kernel_rfl
theorem crs3e : thruE (tabM.set 24 0) { crsB with cache := [] } 1 0 = 0 := by kernel_rfl
theorem crs4 : thruA (tabM.set 24 0) tabB 2 7 true = (tabB, 7, 0) := by kernel_rfl
theorem crs4e : thruE (tabM.set 24 0) tabB 2 7 = 0 := by kernel_rfl
theorem crs5 : thruA (tabM.set 24 0) tabB 3 7 true = (tabB, 0, 2) := by kernel_rfl
theorem crs5e : thruE (tabM.set 24 0) tabB 3 7 = 0 := by kernel_rfl

set_option maxRecDepth 100000 in
set_option maxHeartbeats 4000000 in
theorem law_tables (w : World) : Calls Try.prog 57 #[] w fun e w' => ∃ A c, e = .returned (.tuple #[.agg #[.slice A 512 c], .agg #[.int .i64 tabB.mode, .int .i64 tabB.base, .slice none 0 0, .int .i64 tabB.orders.page, .int .i64 tabB.orders.head, .int .i64 tabB.orders.tail, .bool tabB.stopped, .int .i64 tabB.fences, .int .i64 tabB.faults.page, .int .i64 tabB.faults.head, .int .i64 tabB.faults.tail, .bool tabB.lost]]) ∧ OwnI w.heap.size w' A 512 c tabM ∧ Below w.heap.size w w' := by
  go_enter Try.func57, Try.ntmps57
  go_wp2_with fail
  refine (law_with _ _ _ [9, 33, 10, 3, 16, 49, 24, 159, 25, 139] _ (Ints.of_cells rfl (by decide) (by simp) ?_) (by decide) (by simp [places])).mono ?_
  · intro k
    simp [go_sem]
  rintro e w1 ⟨A1, d1, rfl, ho1, hb1⟩
  rw [tabM_eq] at ho1
  have HO : Hid (OwnI (w.heap.size + 1 + 1) w1 A1 512 d1 tabM) := Lib.hid (ho1.low (by simp))
  clear ho1
  have hz1 := hb1.size
  (try simp only [World.size_alloc, World.size_setCell, World.size_drew] at hz1)
  have k1_0 := fun o => (bcell hb1).1 (w.heap.size) o (by first | (simp; done) | (simp; omega) | omega)
  have l1_0 : (w.heap.size) < w1.heap.size := (by omega)
  have q1_0 := fun o => (bcell hb1).2 (w.heap.size) o (by first | (simp; done) | (simp; omega) | omega)
  have k1_1 := fun o => (bcell hb1).1 (w.heap.size + 1) o (by first | (simp; done) | (simp; omega) | omega)
  have l1_1 : (w.heap.size + 1) < w1.heap.size := (by omega)
  have q1_1 := fun o => (bcell hb1).2 (w.heap.size + 1) o (by first | (simp; done) | (simp; omega) | omega)
  simp (maxDischargeDepth := 6) [go_sem, *] at k1_0 q1_0 k1_1 q1_1
  have HB1 := Lib.hid hb1
  clear hb1
  go_wp2
  refine bodyPost_ret (v := .tuple #[.agg #[.slice A1 512 d1], .agg #[.int .i64 tabB.mode, .int .i64 tabB.base, .slice none 0 0, .int .i64 tabB.orders.page, .int .i64 tabB.orders.head, .int .i64 tabB.orders.tail, .bool tabB.stopped, .int .i64 tabB.fences, .int .i64 tabB.faults.page, .int .i64 tabB.faults.head, .int .i64 tabB.faults.tail, .bool tabB.lost]]) ?_ rfl ⟨A1, d1, rfl, ?_, ?_⟩
  · simp (maxDischargeDepth := 8) [results, Try.results57, go_sem, tabB, *]
  · (refine OwnI.low (B := w.heap.size + 1 + 1) ?_ (by omega)); (repeat (first | (with_reducible refine OwnI.drew ?_) | (with_reducible refine OwnI.drewN ?_ _) | (with_reducible refine OwnI.alloc ?_ _) | (with_reducible exact HO.out) | (with_reducible refine OwnI.set ?_ (by first | (simp; done) | (simp; omega)) _)))
  · (repeat (first | (with_reducible exact Below.refl _ _) | (with_reducible refine Below.drew ?_) | (with_reducible refine bdrewN ?_ _) | ((with_reducible refine Below.setCell ?_ ?_ _); rotate_left; exact (by first | (simp; done) | (simp; omega) | omega)) | ((with_reducible refine Below.alloc ?_ ?_ _); rotate_left; exact (by first | (simp; done) | (simp; omega) | omega)) | ((with_reducible refine Below.trans ?_ (HB1.out.mono ?_)); rotate_left; exact (by first | (simp; done) | (simp; omega) | omega))))

set_option maxRecDepth 100000 in
set_option maxHeartbeats 8000000 in
theorem law_crossed (w : World) : Calls Try.prog 22 #[] w fun e w' => e = .returned (.bool true) ∧ Below w.heap.size w w' := by
  go_enter Try.func22, Try.ntmps22
  go_wp2_with fail
  refine (law_tables _).mono ?_
  rintro e w1 ⟨A1, d1, rfl, ho1, hb1⟩
  obtain ⟨g, rfl, hg1, hg2, hgc, hgf, _⟩ := own_cells ho1 (by decide)
  have HO1 := Lib.hid ho1
  clear ho1 hgc hgf
  have hz1 := hb1.size
  (try simp only [World.size_alloc, World.size_setCell, World.size_drew] at hz1)
  have HB1 := Lib.hid hb1
  clear hb1
  go_wp2_with fail
  refine (through_ans tabM _ _ _ tabB none 0 0 1 0 true crsB 9 0 0 _ (ints_now (HO1.out.ints (by decide)) (by (repeat (first | (with_reducible exact Below.refl _ _) | (with_reducible refine Below.drew ?_) | (with_reducible refine bdrewN ?_ _) | ((with_reducible refine Below.setCell ?_ ?_ _); rotate_left; exact (by first | (simp; done) | (simp; omega) | omega)) | ((with_reducible refine Below.alloc ?_ ?_ _); rotate_left; exact (by first | (simp; done) | (simp; omega) | omega)))))) (lines_none _ _) crs1 crs1e).mono ?_
  rintro e w2 ⟨A2, n2, c2, rfl, hl2, hb2, hn2⟩
  obtain rfl : n2 = 1 := hl2.len.symm
  have O2 : OwnI w.heap.size (w2.alloc (.cells #[.int .i64 crsB.mode, .int .i64 crsB.base, .slice A2 1 c2, .int .i64 crsB.orders.page, .int .i64 crsB.orders.head, .int .i64 crsB.orders.tail, .bool crsB.stopped, .int .i64 crsB.fences, .int .i64 crsB.faults.page, .int .i64 crsB.faults.head, .int .i64 crsB.faults.tail, .bool crsB.lost] 37)) (some ⟨g, 0, none⟩) 512 d1 tabM := ((HO1.out.alloc _ |>.alloc _).below hb2).alloc _
  have HN2 := Lib.hid (show ∀ ad, A2 = some ad → ad.block ≠ g from fun ad h => by have := hn2 ad h; simp at this; omega)
  have HL2 := Lib.hid hl2
  clear hl2 hn2
  have hz2 := hb2.size
  (try simp only [World.size_alloc, World.size_setCell, World.size_drew] at hz2)
  have k2_0 := fun o => (bcell hb2).1 (w1.heap.size) o (by first | (simp; done) | (simp; omega) | omega)
  have l2_0 : (w1.heap.size) < w2.heap.size := (by omega)
  have q2_0 := fun o => (bcell hb2).2 (w1.heap.size) o (by first | (simp; done) | (simp; omega) | omega)
  have k2_1 := fun o => (bcell hb2).1 (w1.heap.size + 1) o (by first | (simp; done) | (simp; omega) | omega)
  have l2_1 : (w1.heap.size + 1) < w2.heap.size := (by omega)
  have q2_1 := fun o => (bcell hb2).2 (w1.heap.size + 1) o (by first | (simp; done) | (simp; omega) | omega)
  simp (maxDischargeDepth := 6) [go_sem, *] at k2_0 q2_0 k2_1 q2_1
  have HB2 := Lib.hid hb2
  clear hb2
  obtain ⟨g', hg', _, hg2', hgc, hgf, hgs⟩ := own_cells O2 (by decide)
  simp only [Option.some.injEq, Addr.mk.injEq, and_true] at hg'
  subst hg'
  have O3 := hgs 24 0 (by decide)
  have HO3 := Lib.hid O3
  have c24 := hgc 24 159 (by kernel_rfl)
  have f24 := hgf 24
  clear O2 O3 hgs hgc hgf
  have HX3 := Lib.hid (HO3.out.ints (by decide))
  have HL3 : Hid (Lines ((w2.alloc (.cells #[.int .i64 crsB.mode, .int .i64 crsB.base, .slice A2 1 c2, .int .i64 crsB.orders.page, .int .i64 crsB.orders.head, .int .i64 crsB.orders.tail, .bool crsB.stopped, .int .i64 crsB.fences, .int .i64 crsB.faults.page, .int .i64 crsB.faults.head, .int .i64 crsB.faults.tail, .bool crsB.lost] 37)).setCell ⟨g, 24, none⟩ (.int .i64 0)) ((w2.alloc (.cells #[.int .i64 crsB.mode, .int .i64 crsB.base, .slice A2 1 c2, .int .i64 crsB.orders.page, .int .i64 crsB.orders.head, .int .i64 crsB.orders.tail, .bool crsB.stopped, .int .i64 crsB.fences, .int .i64 crsB.faults.page, .int .i64 crsB.faults.head, .int .i64 crsB.faults.tail, .bool crsB.lost] 37)).setCell ⟨g, 24, none⟩ (.int .i64 0)).heap.size A2 1 c2 crsB.cache) := Lib.hid (lines_off ((HL2.out.alloc (Nat.le_refl _) _).more (by simp)) HN2.out _)
  have HG := Lib.hid (show w.heap.size ≤ g from hg1)
  go_wp2_with fail
  refine (through_ans (tabM.set 24 0) _ _ _ crsB A2 1 c2 1 0 true crsB 9 0 0 _ HX3.out HL3.out crs2 crs2e).mono ?_
  rintro e w3 ⟨A3, n3, c3, rfl, hl3, hb3, hn3⟩
  clear hl3 hn3
  have hz3 := hb3.size
  (try simp only [World.size_alloc, World.size_setCell, World.size_drew] at hz3)
  have k3_0 := fun o => (bcell hb3).1 (w1.heap.size) o (by first | (simp; done) | (simp; omega) | omega)
  have l3_0 : (w1.heap.size) < w3.heap.size := (by omega)
  have q3_0 := fun o => (bcell hb3).2 (w1.heap.size) o (by first | (simp; done) | (simp; omega) | omega)
  have k3_1 := fun o => (bcell hb3).1 (w1.heap.size + 1) o (by first | (simp; done) | (simp; omega) | omega)
  have l3_1 : (w1.heap.size + 1) < w3.heap.size := (by omega)
  have q3_1 := fun o => (bcell hb3).2 (w1.heap.size + 1) o (by first | (simp; done) | (simp; omega) | omega)
  have k3_2 := fun o => (bcell hb3).1 (w2.heap.size) o (by first | (simp; done) | (simp; omega) | omega)
  have l3_2 : (w2.heap.size) < w3.heap.size := (by omega)
  have q3_2 := fun o => (bcell hb3).2 (w2.heap.size) o (by first | (simp; done) | (simp; omega) | omega)
  simp (maxDischargeDepth := 6) [go_sem, *] at k3_0 q3_0 k3_1 q3_1 k3_2 q3_2
  have HB3 := Lib.hid hb3
  clear hb3
  go_wp2_with fail
  refine (bridge_Plain (tabM.set 24 0) _ _ _ crsB A2 1 c2 1 0 true tabB 0 3 0 _ (ints_now HX3.out (by (repeat (first | (with_reducible exact Below.refl _ _) | (with_reducible refine Below.drew ?_) | (with_reducible refine bdrewN ?_ _) | ((with_reducible refine Below.setCell ?_ ?_ _); rotate_left; exact (by first | (simp; done) | (simp; omega) | omega)) | ((with_reducible refine Below.alloc ?_ ?_ _); rotate_left; exact (by first | (simp; done) | (simp; omega) | omega)) | ((with_reducible refine Below.trans ?_ (HB3.out.mono ?_)); rotate_left; exact (by first | (simp; done) | (simp; omega) | omega)))))) crs3 crs3e).mono ?_
  rintro e w4 ⟨rfl, hb4⟩
  have hz4 := hb4.size
  (try simp only [World.size_alloc, World.size_setCell, World.size_drew] at hz4)
  have k4_0 := fun o => (bcell hb4).1 (w1.heap.size) o (by first | (simp; done) | (simp; omega) | omega)
  have l4_0 : (w1.heap.size) < w4.heap.size := (by omega)
  have q4_0 := fun o => (bcell hb4).2 (w1.heap.size) o (by first | (simp; done) | (simp; omega) | omega)
  have k4_1 := fun o => (bcell hb4).1 (w1.heap.size + 1) o (by first | (simp; done) | (simp; omega) | omega)
  have l4_1 : (w1.heap.size + 1) < w4.heap.size := (by omega)
  have q4_1 := fun o => (bcell hb4).2 (w1.heap.size + 1) o (by first | (simp; done) | (simp; omega) | omega)
  have k4_2 := fun o => (bcell hb4).1 (w2.heap.size) o (by first | (simp; done) | (simp; omega) | omega)
  have l4_2 : (w2.heap.size) < w4.heap.size := (by omega)
  have q4_2 := fun o => (bcell hb4).2 (w2.heap.size) o (by first | (simp; done) | (simp; omega) | omega)
  simp (maxDischargeDepth := 6) [go_sem, *] at k4_0 q4_0 k4_1 q4_1 k4_2 q4_2
  have HB4 := Lib.hid hb4
  clear hb4
  go_wp2_with fail
  refine (through_ans (tabM.set 24 0) _ _ _ tabB none 0 0 2 7 true tabB 7 0 0 _ (ints_now HX3.out (by (repeat (first | (with_reducible exact Below.refl _ _) | (with_reducible refine Below.drew ?_) | (with_reducible refine bdrewN ?_ _) | ((with_reducible refine Below.setCell ?_ ?_ _); rotate_left; exact (by first | (simp; done) | (simp; omega) | omega)) | ((with_reducible refine Below.alloc ?_ ?_ _); rotate_left; exact (by first | (simp; done) | (simp; omega) | omega)) | ((with_reducible refine Below.trans ?_ (HB4.out.mono ?_)); rotate_left; exact (by first | (simp; done) | (simp; omega) | omega)) | ((with_reducible refine Below.trans ?_ (HB3.out.mono ?_)); rotate_left; exact (by first | (simp; done) | (simp; omega) | omega)))))) (lines_none _ _) crs4 crs4e).mono ?_
  rintro e w5 ⟨A5, n5, c5, rfl, hl5, hb5, hn5⟩
  clear hl5 hn5
  have hz5 := hb5.size
  (try simp only [World.size_alloc, World.size_setCell, World.size_drew] at hz5)
  have k5_0 := fun o => (bcell hb5).1 (w1.heap.size) o (by first | (simp; done) | (simp; omega) | omega)
  have l5_0 : (w1.heap.size) < w5.heap.size := (by omega)
  have q5_0 := fun o => (bcell hb5).2 (w1.heap.size) o (by first | (simp; done) | (simp; omega) | omega)
  have k5_1 := fun o => (bcell hb5).1 (w1.heap.size + 1) o (by first | (simp; done) | (simp; omega) | omega)
  have l5_1 : (w1.heap.size + 1) < w5.heap.size := (by omega)
  have q5_1 := fun o => (bcell hb5).2 (w1.heap.size + 1) o (by first | (simp; done) | (simp; omega) | omega)
  have k5_2 := fun o => (bcell hb5).1 (w2.heap.size) o (by first | (simp; done) | (simp; omega) | omega)
  have l5_2 : (w2.heap.size) < w5.heap.size := (by omega)
  have q5_2 := fun o => (bcell hb5).2 (w2.heap.size) o (by first | (simp; done) | (simp; omega) | omega)
  simp (maxDischargeDepth := 6) [go_sem, *] at k5_0 q5_0 k5_1 q5_1 k5_2 q5_2
  have HB5 := Lib.hid hb5
  clear hb5
  go_wp2_with fail
  refine (through_ans (tabM.set 24 0) _ _ _ tabB none 0 0 3 7 true tabB 0 2 0 _ (ints_now HX3.out (by (repeat (first | (with_reducible exact Below.refl _ _) | (with_reducible refine Below.drew ?_) | (with_reducible refine bdrewN ?_ _) | ((with_reducible refine Below.setCell ?_ ?_ _); rotate_left; exact (by first | (simp; done) | (simp; omega) | omega)) | ((with_reducible refine Below.alloc ?_ ?_ _); rotate_left; exact (by first | (simp; done) | (simp; omega) | omega)) | ((with_reducible refine Below.trans ?_ (HB5.out.mono ?_)); rotate_left; exact (by first | (simp; done) | (simp; omega) | omega)) | ((with_reducible refine Below.trans ?_ (HB4.out.mono ?_)); rotate_left; exact (by first | (simp; done) | (simp; omega) | omega)) | ((with_reducible refine Below.trans ?_ (HB3.out.mono ?_)); rotate_left; exact (by first | (simp; done) | (simp; omega) | omega)))))) (lines_none _ _) crs5 crs5e).mono ?_
  rintro e w6 ⟨A6, n6, c6, rfl, hl6, hb6, hn6⟩
  clear hl6 hn6
  have hz6 := hb6.size
  (try simp only [World.size_alloc, World.size_setCell, World.size_drew] at hz6)
  have k6_0 := fun o => (bcell hb6).1 (w1.heap.size) o (by first | (simp; done) | (simp; omega) | omega)
  have l6_0 : (w1.heap.size) < w6.heap.size := (by omega)
  have q6_0 := fun o => (bcell hb6).2 (w1.heap.size) o (by first | (simp; done) | (simp; omega) | omega)
  have k6_1 := fun o => (bcell hb6).1 (w1.heap.size + 1) o (by first | (simp; done) | (simp; omega) | omega)
  have l6_1 : (w1.heap.size + 1) < w6.heap.size := (by omega)
  have q6_1 := fun o => (bcell hb6).2 (w1.heap.size + 1) o (by first | (simp; done) | (simp; omega) | omega)
  have k6_2 := fun o => (bcell hb6).1 (w2.heap.size) o (by first | (simp; done) | (simp; omega) | omega)
  have l6_2 : (w2.heap.size) < w6.heap.size := (by omega)
  have q6_2 := fun o => (bcell hb6).2 (w2.heap.size) o (by first | (simp; done) | (simp; omega) | omega)
  simp (maxDischargeDepth := 6) [go_sem, *] at k6_0 q6_0 k6_1 q6_1 k6_2 q6_2
  have HB6 := Lib.hid hb6
  clear hb6
  go_wp2
  go_ret
  exact ⟨rfl, by (repeat (first | (with_reducible exact Below.refl _ _) | (with_reducible refine Below.drew ?_) | (with_reducible refine bdrewN ?_ _) | ((with_reducible refine Below.setCell ?_ ?_ _); rotate_left; exact (by first | (simp; done) | (simp; omega) | omega)) | ((with_reducible refine Below.alloc ?_ ?_ _); rotate_left; exact (by first | (simp; done) | (simp; omega) | omega)) | ((with_reducible refine Below.trans ?_ (HB6.out.mono ?_)); rotate_left; exact (by first | (simp; done) | (simp; omega) | omega)) | ((with_reducible refine Below.trans ?_ (HB5.out.mono ?_)); rotate_left; exact (by first | (simp; done) | (simp; omega) | omega)) | ((with_reducible refine Below.trans ?_ (HB4.out.mono ?_)); rotate_left; exact (by first | (simp; done) | (simp; omega) | omega)) | ((with_reducible refine Below.trans ?_ (HB3.out.mono ?_)); rotate_left; exact (by first | (simp; done) | (simp; omega) | omega)) | ((with_reducible refine Below.trans ?_ (HB2.out.mono ?_)); rotate_left; exact (by first | (simp; done) | (simp; omega) | omega)) | ((with_reducible refine Below.trans ?_ (HB1.out.mono ?_)); rotate_left; exact (by first | (simp; done) | (simp; omega) | omega))))⟩
end Go.Proofs.Ytbopdijnojaaiac
