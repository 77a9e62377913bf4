/- The walk of the law BridgeSays, where the bridge is none. -/
import Derived.Test.YtbopdijnojaaiabLawSaysA
import Derived.Test.YtbopdijnojaaiabCrossed
import Derived.Deep.RegionHeld3
import Derived.Deep.DrawnRows
import Derived.Deep.DeepCutAuto
namespace Go.Proofs.Ytbopdijnojaaiab
open Go.RowKit
set_option linter.unusedSimpArgs false
set_option linter.unusedVariables false
attribute [local go_sem ↓] Go.wp_at_zero Go.wp_at_succ

set_option maxRecDepth 100000 in
set_option maxHeartbeats 8000000 in
theorem says_b (xs : List Int) (m : Option Addr) (cm' : Nat) (b cb : Brg) (A A5 : Option Addr) (n c n5 c5 : Nat) (d p : Int) (wb : Bool) (w : World) (hx : Ints w w.heap.size m 512 xs) (hl : Lines w w.heap.size A n c b.cache) (hl5 : Lines w w.heap.size A5 n5 c5 cb.cache) (hcm : cm xs = 0) (hb1 : ckB b ≠ 0) (hb2 : ckB { b with cache := [] } ≠ 0) (hin : inD d p) (h1 : thruA xs b d p wb = (Brg.no, 0, 0)) (h1e : thruE xs b d p = ckB b) (h2 : thruA xs { b with cache := [] } d p wb = (Brg.no, 0, 0)) (h2e : thruE xs { b with cache := [] } d p = ckB { b with cache := [] }) :
    Calls Try.prog 10 #[.agg #[.slice m 512 cm'], .agg #[.int .i64 b.mode, .int .i64 b.base, .slice A n c, .int .i64 b.orders.page, .int .i64 b.orders.head, .int .i64 b.orders.tail, .bool b.stopped, .int .i64 b.fences, .int .i64 b.faults.page, .int .i64 b.faults.head, .int .i64 b.faults.tail, .bool b.lost], .int .i64 d, .int .i64 p, .bool wb, .agg #[.int .i64 cb.mode, .int .i64 cb.base, .slice A5 n5 c5, .int .i64 cb.orders.page, .int .i64 cb.orders.head, .int .i64 cb.orders.tail, .bool cb.stopped, .int .i64 cb.fences, .int .i64 cb.faults.page, .int .i64 cb.faults.head, .int .i64 cb.faults.tail, .bool cb.lost]] w fun e w' => e = .returned (.bool true) ∧ Below w.heap.size w w' := by
  have HX := Lib.hid hx
  have HL := Lib.hid hl
  have HL5 := Lib.hid hl5
  have HCM := Lib.hid hcm
  have HIN := Lib.hid hin
  have H1 := Lib.hid h1
  have H1E := Lib.hid h1e
  have H2 := Lib.hid h2
  have H2E := Lib.hid h2e
  have HBV1 := Lib.hid hb1
  have HBV2 := Lib.hid hb2
  have td1 : (ckB b == 0) = false := beq_eq_false_iff_ne.2 hb1
  have td2 : (ckB b != 0) = true := by rw [bne_iff_ne]; exact hb1
  have te1 : (ckB { b with cache := [] } == 0) = false := beq_eq_false_iff_ne.2 hb2
  have te2 : (ckB { b with cache := [] } != 0) = true := by rw [bne_iff_ne]; exact hb2
  have hin2 : 0 ≤ d ∧ d ≤ 7 ∧ 0 ≤ p ∧ p ≤ 63 := by unfold inD at hin; omega
  have HIN2 := Lib.hid hin2
  clear hin2
  clear hx hl hl5 hcm hin h1 h1e h2 h2e hb1 hb2
  go_enter Try.func10, Try.ntmps10
  go_wp2_with fail
  refine (through_ans xs _ _ _ b _ _ _ _ _ _ _ _ _ _ _ (ints_now HX.out (by (repeat (first | (with_reducible exact Below.refl _ _) | (with_reducible refine Below.drew ?_) | (with_reducible refine bdrewN ?_ _) | ((with_reducible refine Below.setCell ?_ ?_ _); rotate_left; exact (by first | (simp; done) | (simp; omega) | omega)) | ((with_reducible refine Below.alloc ?_ ?_ _); rotate_left; exact (by first | (simp; done) | (simp; omega) | omega)))))) (lines_now HL.out (by (repeat (first | (with_reducible exact Below.refl _ _) | (with_reducible refine Below.drew ?_) | (with_reducible refine bdrewN ?_ _) | ((with_reducible refine Below.setCell ?_ ?_ _); rotate_left; exact (by first | (simp; done) | (simp; omega) | omega)) | ((with_reducible refine Below.alloc ?_ ?_ _); rotate_left; exact (by first | (simp; done) | (simp; omega) | omega)))))) H1.out H1E.out).mono ?_
  rintro e w1 ⟨A1, n1, c1, rfl, hl1, hb1, _⟩
  have HL1 := Lib.hid hl1
  clear hl1
  have hz1 := hb1.size
  (try simp only [World.size_alloc, World.size_setCell, World.size_drew] at hz1)
  have k1_0 := fun o => (bcell hb1).1 (w.heap.size) o (by first | (simp; done) | (simp; omega) | omega)
  have l1_0 : (w.heap.size) < w1.heap.size := (by omega)
  have q1_0 := fun o => (bcell hb1).2 (w.heap.size) o (by first | (simp; done) | (simp; omega) | omega)
  have k1_1 := fun o => (bcell hb1).1 (w.heap.size + 1) o (by first | (simp; done) | (simp; omega) | omega)
  have l1_1 : (w.heap.size + 1) < w1.heap.size := (by omega)
  have q1_1 := fun o => (bcell hb1).2 (w.heap.size + 1) o (by first | (simp; done) | (simp; omega) | omega)
  have k1_2 := fun o => (bcell hb1).1 (w.heap.size + 1 + 1) o (by first | (simp; done) | (simp; omega) | omega)
  have l1_2 : (w.heap.size + 1 + 1) < w1.heap.size := (by omega)
  have q1_2 := fun o => (bcell hb1).2 (w.heap.size + 1 + 1) o (by first | (simp; done) | (simp; omega) | omega)
  simp (maxDischargeDepth := 6) [go_sem, *] at k1_0 q1_0 k1_1 q1_1 k1_2 q1_2
  have HB1 := Lib.hid hb1
  clear hb1
  go_wp2_with fail
  refine (bridge_Plain xs _ _ _ b _ _ _ _ _ _ _ _ _ _ _ (ints_now HX.out (by (repeat (first | (with_reducible exact Below.refl _ _) | (with_reducible refine Below.drew ?_) | (with_reducible refine bdrewN ?_ _) | ((with_reducible refine Below.setCell ?_ ?_ _); rotate_left; exact (by first | (simp; done) | (simp; omega) | omega)) | ((with_reducible refine Below.alloc ?_ ?_ _); rotate_left; exact (by first | (simp; done) | (simp; omega) | omega)) | ((with_reducible refine Below.trans ?_ (HB1.out.mono ?_)); rotate_left; exact (by first | (simp; done) | (simp; omega) | omega)))))) H2.out H2E.out).mono ?_
  rintro e w2 ⟨rfl, hb2⟩
  have hz2 := hb2.size
  (try simp only [World.size_alloc, World.size_setCell, World.size_drew] at hz2)
  have k2_0 := fun o => (bcell hb2).1 (w.heap.size) o (by first | (simp; done) | (simp; omega) | omega)
  have l2_0 : (w.heap.size) < w2.heap.size := (by omega)
  have q2_0 := fun o => (bcell hb2).2 (w.heap.size) o (by first | (simp; done) | (simp; omega) | omega)
  have k2_1 := fun o => (bcell hb2).1 (w.heap.size + 1) o (by first | (simp; done) | (simp; omega) | omega)
  have l2_1 : (w.heap.size + 1) < w2.heap.size := (by omega)
  have q2_1 := fun o => (bcell hb2).2 (w.heap.size + 1) o (by first | (simp; done) | (simp; omega) | omega)
  have k2_2 := fun o => (bcell hb2).1 (w.heap.size + 1 + 1) o (by first | (simp; done) | (simp; omega) | omega)
  have l2_2 : (w.heap.size + 1 + 1) < w2.heap.size := (by omega)
  have q2_2 := fun o => (bcell hb2).2 (w.heap.size + 1 + 1) o (by first | (simp; done) | (simp; omega) | omega)
  have k2_3 := fun o => (bcell hb2).1 (w1.heap.size) o (by first | (simp; done) | (simp; omega) | omega)
  have l2_3 : (w1.heap.size) < w2.heap.size := (by omega)
  have q2_3 := fun o => (bcell hb2).2 (w1.heap.size) o (by first | (simp; done) | (simp; omega) | omega)
  simp (maxDischargeDepth := 6) [go_sem, *] at k2_0 q2_0 k2_1 q2_1 k2_2 q2_2 k2_3 q2_3
  have HB2 := Lib.hid hb2
  clear hb2
  go_wp2_with fail
  refine (ref_CheckMem _ _ _ xs _ (ints_now HX.out (by (repeat (first | (with_reducible exact Below.refl _ _) | (with_reducible refine Below.drew ?_) | (with_reducible refine bdrewN ?_ _) | ((with_reducible refine Below.setCell ?_ ?_ _); rotate_left; exact (by first | (simp; done) | (simp; omega) | omega)) | ((with_reducible refine Below.alloc ?_ ?_ _); rotate_left; exact (by first | (simp; done) | (simp; omega) | omega)) | ((with_reducible refine Below.trans ?_ (HB2.out.mono ?_)); rotate_left; exact (by first | (simp; done) | (simp; omega) | omega)) | ((with_reducible refine Below.trans ?_ (HB1.out.mono ?_)); rotate_left; exact (by first | (simp; done) | (simp; omega) | omega))))))).mono ?_
  rw [HCM.out]
  rintro e w3 ⟨rfl, hb3⟩
  have hz3 := hb3.size
  (try simp only [World.size_alloc, World.size_setCell, World.size_drew] at hz3)
  have k3_0 := fun o => (bcell hb3).1 (w.heap.size) o (by first | (simp; done) | (simp; omega) | omega)
  have l3_0 : (w.heap.size) < w3.heap.size := (by omega)
  have q3_0 := fun o => (bcell hb3).2 (w.heap.size) o (by first | (simp; done) | (simp; omega) | omega)
  have k3_1 := fun o => (bcell hb3).1 (w.heap.size + 1) o (by first | (simp; done) | (simp; omega) | omega)
  have l3_1 : (w.heap.size + 1) < w3.heap.size := (by omega)
  have q3_1 := fun o => (bcell hb3).2 (w.heap.size + 1) o (by first | (simp; done) | (simp; omega) | omega)
  have k3_2 := fun o => (bcell hb3).1 (w.heap.size + 1 + 1) o (by first | (simp; done) | (simp; omega) | omega)
  have l3_2 : (w.heap.size + 1 + 1) < w3.heap.size := (by omega)
  have q3_2 := fun o => (bcell hb3).2 (w.heap.size + 1 + 1) o (by first | (simp; done) | (simp; omega) | omega)
  have k3_3 := fun o => (bcell hb3).1 (w1.heap.size) o (by first | (simp; done) | (simp; omega) | omega)
  have l3_3 : (w1.heap.size) < w3.heap.size := (by omega)
  have q3_3 := fun o => (bcell hb3).2 (w1.heap.size) o (by first | (simp; done) | (simp; omega) | omega)
  simp (maxDischargeDepth := 6) [go_sem, *] at k3_0 q3_0 k3_1 q3_1 k3_2 q3_2 k3_3 q3_3
  have HB3 := Lib.hid hb3
  clear hb3
  go_wp2_with fail
  refine (ref_CheckBridge b _ _ _ _ (lines_now HL.out (by (repeat (first | (with_reducible exact Below.refl _ _) | (with_reducible refine Below.drew ?_) | (with_reducible refine bdrewN ?_ _) | ((with_reducible refine Below.setCell ?_ ?_ _); rotate_left; exact (by first | (simp; done) | (simp; omega) | omega)) | ((with_reducible refine Below.alloc ?_ ?_ _); rotate_left; exact (by first | (simp; done) | (simp; omega) | omega)) | ((with_reducible refine Below.trans ?_ (HB3.out.mono ?_)); rotate_left; exact (by first | (simp; done) | (simp; omega) | omega)) | ((with_reducible refine Below.trans ?_ (HB2.out.mono ?_)); rotate_left; exact (by first | (simp; done) | (simp; omega) | omega)) | ((with_reducible refine Below.trans ?_ (HB1.out.mono ?_)); rotate_left; exact (by first | (simp; done) | (simp; omega) | omega))))))).mono ?_
  rintro e w4 ⟨rfl, hb4⟩
  have hz4 := hb4.size
  (try simp only [World.size_alloc, World.size_setCell, World.size_drew] at hz4)
  have k4_0 := fun o => (bcell hb4).1 (w.heap.size) o (by first | (simp; done) | (simp; omega) | omega)
  have l4_0 : (w.heap.size) < w4.heap.size := (by omega)
  have q4_0 := fun o => (bcell hb4).2 (w.heap.size) o (by first | (simp; done) | (simp; omega) | omega)
  have k4_1 := fun o => (bcell hb4).1 (w.heap.size + 1) o (by first | (simp; done) | (simp; omega) | omega)
  have l4_1 : (w.heap.size + 1) < w4.heap.size := (by omega)
  have q4_1 := fun o => (bcell hb4).2 (w.heap.size + 1) o (by first | (simp; done) | (simp; omega) | omega)
  have k4_2 := fun o => (bcell hb4).1 (w.heap.size + 1 + 1) o (by first | (simp; done) | (simp; omega) | omega)
  have l4_2 : (w.heap.size + 1 + 1) < w4.heap.size := (by omega)
  have q4_2 := fun o => (bcell hb4).2 (w.heap.size + 1 + 1) o (by first | (simp; done) | (simp; omega) | omega)
  have k4_3 := fun o => (bcell hb4).1 (w1.heap.size) o (by first | (simp; done) | (simp; omega) | omega)
  have l4_3 : (w1.heap.size) < w4.heap.size := (by omega)
  have q4_3 := fun o => (bcell hb4).2 (w1.heap.size) o (by first | (simp; done) | (simp; omega) | omega)
  simp (maxDischargeDepth := 6) [go_sem, *] at k4_0 q4_0 k4_1 q4_1 k4_2 q4_2 k4_3 q4_3
  have HB4 := Lib.hid hb4
  clear hb4
  have G1 : Hid (BrgAt w4 (w.heap.size + 1) b A n c) := by show BrgAt _ _ _ _ _ _; unfold BrgAt; simp (maxDischargeDepth := 8) [go_sem, *]
  have G2 : Hid (BrgAt w4 (w.heap.size + 1 + 1) cb A5 n5 c5) := by show BrgAt _ _ _ _ _ _; unfold BrgAt; simp (maxDischargeDepth := 8) [go_sem, *]
  have LB := Lib.hid (lines_now HL.out (by (repeat (first | (with_reducible exact Below.refl _ _) | (with_reducible refine Below.drew ?_) | (with_reducible refine bdrewN ?_ _) | ((with_reducible refine Below.setCell ?_ ?_ _); rotate_left; exact (by first | (simp; done) | (simp; omega) | omega)) | ((with_reducible refine Below.alloc ?_ ?_ _); rotate_left; exact (by first | (simp; done) | (simp; omega) | omega)) | ((with_reducible refine Below.trans ?_ (HB4.out.mono ?_)); rotate_left; exact (by first | (simp; done) | (simp; omega) | omega)) | ((with_reducible refine Below.trans ?_ (HB3.out.mono ?_)); rotate_left; exact (by first | (simp; done) | (simp; omega) | omega)) | ((with_reducible refine Below.trans ?_ (HB2.out.mono ?_)); rotate_left; exact (by first | (simp; done) | (simp; omega) | omega)) | ((with_reducible refine Below.trans ?_ (HB1.out.mono ?_)); rotate_left; exact (by first | (simp; done) | (simp; omega) | omega)))) : Below w.heap.size w w4))
  have LC := Lib.hid (lines_now HL5.out (by (repeat (first | (with_reducible exact Below.refl _ _) | (with_reducible refine Below.drew ?_) | (with_reducible refine bdrewN ?_ _) | ((with_reducible refine Below.setCell ?_ ?_ _); rotate_left; exact (by first | (simp; done) | (simp; omega) | omega)) | ((with_reducible refine Below.alloc ?_ ?_ _); rotate_left; exact (by first | (simp; done) | (simp; omega) | omega)) | ((with_reducible refine Below.trans ?_ (HB4.out.mono ?_)); rotate_left; exact (by first | (simp; done) | (simp; omega) | omega)) | ((with_reducible refine Below.trans ?_ (HB3.out.mono ?_)); rotate_left; exact (by first | (simp; done) | (simp; omega) | omega)) | ((with_reducible refine Below.trans ?_ (HB2.out.mono ?_)); rotate_left; exact (by first | (simp; done) | (simp; omega) | omega)) | ((with_reducible refine Below.trans ?_ (HB1.out.mono ?_)); rotate_left; exact (by first | (simp; done) | (simp; omega) | omega)))) : Below w.heap.size w w4))
  go_upto_region 6 with (fail)
  go_cut [74] (fun s wd => s = .bool false ∧ Hid (Since w4 wd))
  case first =>
    go_region_held3 (fun W => W.cell? ⟨w.heap.size + 1, 0, none⟩ = some (.int .i64 b.mode) ∧ W.cell? ⟨w.heap.size + 1, 1, none⟩ = some (.int .i64 b.base) ∧ W.cell? ⟨w.heap.size + 1, 2, none⟩ = some (.slice A n c) ∧ W.cell? ⟨w.heap.size + 1, 3, none⟩ = some (.int .i64 b.orders.page) ∧ W.cell? ⟨w.heap.size + 1, 4, none⟩ = some (.int .i64 b.orders.head) ∧ W.cell? ⟨w.heap.size + 1, 5, none⟩ = some (.int .i64 b.orders.tail) ∧ W.cell? ⟨w.heap.size + 1, 6, none⟩ = some (.bool b.stopped) ∧ W.cell? ⟨w.heap.size + 1, 7, none⟩ = some (.int .i64 b.fences) ∧ W.cell? ⟨w.heap.size + 1, 8, none⟩ = some (.int .i64 b.faults.page) ∧ W.cell? ⟨w.heap.size + 1, 9, none⟩ = some (.int .i64 b.faults.head) ∧ W.cell? ⟨w.heap.size + 1, 10, none⟩ = some (.int .i64 b.faults.tail) ∧ W.cell? ⟨w.heap.size + 1, 11, none⟩ = some (.bool b.lost) ∧ W.cell? ⟨w.heap.size + 1 + 1, 0, none⟩ = some (.int .i64 cb.mode) ∧ W.cell? ⟨w.heap.size + 1 + 1, 1, none⟩ = some (.int .i64 cb.base) ∧ W.cell? ⟨w.heap.size + 1 + 1, 2, none⟩ = some (.slice A5 n5 c5) ∧ W.cell? ⟨w.heap.size + 1 + 1, 3, none⟩ = some (.int .i64 cb.orders.page) ∧ W.cell? ⟨w.heap.size + 1 + 1, 4, none⟩ = some (.int .i64 cb.orders.head) ∧ W.cell? ⟨w.heap.size + 1 + 1, 5, none⟩ = some (.int .i64 cb.orders.tail) ∧ W.cell? ⟨w.heap.size + 1 + 1, 6, none⟩ = some (.bool cb.stopped) ∧ W.cell? ⟨w.heap.size + 1 + 1, 7, none⟩ = some (.int .i64 cb.fences) ∧ W.cell? ⟨w.heap.size + 1 + 1, 8, none⟩ = some (.int .i64 cb.faults.page) ∧ W.cell? ⟨w.heap.size + 1 + 1, 9, none⟩ = some (.int .i64 cb.faults.head) ∧ W.cell? ⟨w.heap.size + 1 + 1, 10, none⟩ = some (.int .i64 cb.faults.tail) ∧ W.cell? ⟨w.heap.size + 1 + 1, 11, none⟩ = some (.bool cb.lost) ∧ Hid (Since w4 W))
      (((with_reducible refine keep24 ?_ G1.out G2.out); (repeat (first | (with_reducible assumption) | (with_reducible exact since_refl _) | (with_reducible exact since_24 (by assumption)) | (with_reducible exact since_step (by assumption) (since_24 (by assumption))) | (with_reducible refine since_drew ?_) | (with_reducible refine since_alloc ?_ _) | ((with_reducible refine since_set ?_ ?_ _); rotate_left; exact (by first | (simp; done) | (simp; omega) | omega)))); done))
      (first
        | (go_at_call 56; refine (law_crossed _).mono ?_; rintro e w' ⟨rfl, hb'⟩)
        | (go_at_call 57; refine (bridge_Check b _ _ _ _ ?_).mono ?_; (with_reducible exact lines_snc LB.out (since_24 (by assumption))); rintro e w' ⟨rfl, hb'⟩)
        | (go_at_call 55; refine (ref_CheckBridge b _ _ _ _ ?_).mono ?_; (with_reducible exact lines_snc LB.out (since_24 (by assumption))); rintro e w' ⟨rfl, hb'⟩)
        | (go_at_call 58; refine (bridge_Same b cb _ _ _ _ _ _ _ ?_ ?_).mono ?_; (with_reducible exact lines_snc LB.out (since_24 (by assumption))); (with_reducible exact lines_snc LC.out (since_24 (by assumption))); rintro e w' ⟨rfl, hb'⟩)
        | (go_at_call 59; refine (ref_SameBridge b cb _ _ _ _ _ _ _ ?_ ?_).mono ?_; (with_reducible exact lines_snc LB.out (since_24 (by assumption))); (with_reducible exact lines_snc LC.out (since_24 (by assumption))); rintro e w' ⟨rfl, hb'⟩))
    all_goals
      rename_i hHeld
      have HS := Lib.hid (since_24 hHeld)
      clear hHeld
      go_wp2
      go_meet
      exact ⟨rfl, HS.out⟩
  case rest =>
    obtain ⟨rfl, hsc⟩ := hcut
    obtain ⟨w5, hwc⟩ : ∃ w5, w5 = wc := ⟨_, rfl⟩
    subst hwc
    have hb5 := hsc.out
    clear hsc
    change Below w4.heap.size w4 w5 at hb5
    have hz5 := hb5.size
    (try simp only [World.size_alloc, World.size_setCell, World.size_drew] at hz5)
    have k5_0 := fun o => (bcell hb5).1 (w.heap.size) o (by first | (simp; done) | (simp; omega) | omega)
    have l5_0 : (w.heap.size) < w5.heap.size := (by omega)
    have q5_0 := fun o => (bcell hb5).2 (w.heap.size) o (by first | (simp; done) | (simp; omega) | omega)
    have k5_1 := fun o => (bcell hb5).1 (w.heap.size + 1) o (by first | (simp; done) | (simp; omega) | omega)
    have l5_1 : (w.heap.size + 1) < w5.heap.size := (by omega)
    have q5_1 := fun o => (bcell hb5).2 (w.heap.size + 1) o (by first | (simp; done) | (simp; omega) | omega)
    have k5_2 := fun o => (bcell hb5).1 (w1.heap.size) o (by first | (simp; done) | (simp; omega) | omega)
    have l5_2 : (w1.heap.size) < w5.heap.size := (by omega)
    have q5_2 := fun o => (bcell hb5).2 (w1.heap.size) o (by first | (simp; done) | (simp; omega) | omega)
    simp (maxDischargeDepth := 6) [go_sem, *] at k5_0 q5_0 k5_1 q5_1 k5_2 q5_2
    have HB5 := Lib.hid hb5
    clear hb5
    go_wp2_with fail
    refine (ref_CheckMem _ _ _ xs _ (ints_now HX.out (by (repeat (first | (with_reducible exact Below.refl _ _) | (with_reducible refine Below.drew ?_) | (with_reducible refine bdrewN ?_ _) | ((with_reducible refine Below.setCell ?_ ?_ _); rotate_left; exact (by first | (simp; done) | (simp; omega) | omega)) | ((with_reducible refine Below.alloc ?_ ?_ _); rotate_left; exact (by first | (simp; done) | (simp; omega) | omega)) | ((with_reducible refine Below.trans ?_ (HB5.out.mono ?_)); rotate_left; exact (by first | (simp; done) | (simp; omega) | omega)) | ((with_reducible refine Below.trans ?_ (HB4.out.mono ?_)); rotate_left; exact (by first | (simp; done) | (simp; omega) | omega)) | ((with_reducible refine Below.trans ?_ (HB3.out.mono ?_)); rotate_left; exact (by first | (simp; done) | (simp; omega) | omega)) | ((with_reducible refine Below.trans ?_ (HB2.out.mono ?_)); rotate_left; exact (by first | (simp; done) | (simp; omega) | omega)) | ((with_reducible refine Below.trans ?_ (HB1.out.mono ?_)); rotate_left; exact (by first | (simp; done) | (simp; omega) | omega))))))).mono ?_
    rw [HCM.out]
    rintro e w6 ⟨rfl, hb6⟩
    have hz6 := hb6.size
    (try simp only [World.size_alloc, World.size_setCell, World.size_drew] at hz6)
    have k6_0 := fun o => (bcell hb6).1 (w.heap.size) o (by first | (simp; done) | (simp; omega) | omega)
    have l6_0 : (w.heap.size) < w6.heap.size := (by omega)
    have q6_0 := fun o => (bcell hb6).2 (w.heap.size) o (by first | (simp; done) | (simp; omega) | omega)
    have k6_1 := fun o => (bcell hb6).1 (w.heap.size + 1) o (by first | (simp; done) | (simp; omega) | omega)
    have l6_1 : (w.heap.size + 1) < w6.heap.size := (by omega)
    have q6_1 := fun o => (bcell hb6).2 (w.heap.size + 1) o (by first | (simp; done) | (simp; omega) | omega)
    have k6_2 := fun o => (bcell hb6).1 (w1.heap.size) o (by first | (simp; done) | (simp; omega) | omega)
    have l6_2 : (w1.heap.size) < w6.heap.size := (by omega)
    have q6_2 := fun o => (bcell hb6).2 (w1.heap.size) o (by first | (simp; done) | (simp; omega) | omega)
    have k6_3 := fun o => (bcell hb6).1 (w5.heap.size) o (by first | (simp; done) | (simp; omega) | omega)
    have l6_3 : (w5.heap.size) < w6.heap.size := (by omega)
    have q6_3 := fun o => (bcell hb6).2 (w5.heap.size) o (by first | (simp; done) | (simp; omega) | omega)
    simp (maxDischargeDepth := 6) [go_sem, *] at k6_0 q6_0 k6_1 q6_1 k6_2 q6_2 k6_3 q6_3
    have HB6 := Lib.hid hb6
    clear hb6
    go_wp2_with fail
    refine (ref_CheckBridge { b with cache := [] } none 0 0 _ (lines_none _ _)).mono ?_
    rintro e w7 ⟨rfl, hb7⟩
    have hz7 := hb7.size
    (try simp only [World.size_alloc, World.size_setCell, World.size_drew] at hz7)
    have k7_0 := fun o => (bcell hb7).1 (w.heap.size) o (by first | (simp; done) | (simp; omega) | omega)
    have l7_0 : (w.heap.size) < w7.heap.size := (by omega)
    have q7_0 := fun o => (bcell hb7).2 (w.heap.size) o (by first | (simp; done) | (simp; omega) | omega)
    have k7_1 := fun o => (bcell hb7).1 (w.heap.size + 1) o (by first | (simp; done) | (simp; omega) | omega)
    have l7_1 : (w.heap.size + 1) < w7.heap.size := (by omega)
    have q7_1 := fun o => (bcell hb7).2 (w.heap.size + 1) o (by first | (simp; done) | (simp; omega) | omega)
    have k7_2 := fun o => (bcell hb7).1 (w1.heap.size) o (by first | (simp; done) | (simp; omega) | omega)
    have l7_2 : (w1.heap.size) < w7.heap.size := (by omega)
    have q7_2 := fun o => (bcell hb7).2 (w1.heap.size) o (by first | (simp; done) | (simp; omega) | omega)
    have k7_3 := fun o => (bcell hb7).1 (w5.heap.size) o (by first | (simp; done) | (simp; omega) | omega)
    have l7_3 : (w5.heap.size) < w7.heap.size := (by omega)
    have q7_3 := fun o => (bcell hb7).2 (w5.heap.size) o (by first | (simp; done) | (simp; omega) | omega)
    simp (maxDischargeDepth := 6) [go_sem, *] at k7_0 q7_0 k7_1 q7_1 k7_2 q7_2 k7_3 q7_3
    have HB7 := Lib.hid hb7
    clear hb7
    go_upto_region 13 with (fail)
    go_cut [23] (fun s wd => s = .bool true ∧ wd = w7)
    case first =>
      obtain ⟨t1, t2, t3, t4⟩ := HIN2.out
      go_wp2
      go_meet
      exact ⟨congrArg Value.bool (by first | rfl | (simp; done) | (simp; omega)), rfl⟩
    case rest =>
      obtain ⟨rfl, rfl⟩ := hcut
      go_wp2_with fail
      refine (ref_SameBridge .no .no _ _ _ _ _ _ _ (lines_now HL1.out (by (repeat (first | (with_reducible exact Below.refl _ _) | (with_reducible refine Below.drew ?_) | (with_reducible refine bdrewN ?_ _) | ((with_reducible refine Below.setCell ?_ ?_ _); rotate_left; exact (by first | (simp; done) | (simp; omega) | omega)) | ((with_reducible refine Below.alloc ?_ ?_ _); rotate_left; exact (by first | (simp; done) | (simp; omega) | omega)) | ((with_reducible refine Below.trans ?_ (HB7.out.mono ?_)); rotate_left; exact (by first | (simp; done) | (simp; omega) | omega)) | ((with_reducible refine Below.trans ?_ (HB6.out.mono ?_)); rotate_left; exact (by first | (simp; done) | (simp; omega) | omega)) | ((with_reducible refine Below.trans ?_ (HB5.out.mono ?_)); rotate_left; exact (by first | (simp; done) | (simp; omega) | omega)) | ((with_reducible refine Below.trans ?_ (HB4.out.mono ?_)); rotate_left; exact (by first | (simp; done) | (simp; omega) | omega)) | ((with_reducible refine Below.trans ?_ (HB3.out.mono ?_)); rotate_left; exact (by first | (simp; done) | (simp; omega) | omega)) | ((with_reducible refine Below.trans ?_ (HB2.out.mono ?_)); rotate_left; exact (by first | (simp; done) | (simp; omega) | omega)))))) (lines_none _ _)).mono ?_
      rw [same_me]
      rintro e w8 ⟨rfl, hb8⟩
      have hz8 := hb8.size
      (try simp only [World.size_alloc, World.size_setCell, World.size_drew] at hz8)
      have k8_0 := fun o => (bcell hb8).1 (w.heap.size) o (by first | (simp; done) | (simp; omega) | omega)
      have l8_0 : (w.heap.size) < w8.heap.size := (by omega)
      have q8_0 := fun o => (bcell hb8).2 (w.heap.size) o (by first | (simp; done) | (simp; omega) | omega)
      have k8_1 := fun o => (bcell hb8).1 (w.heap.size + 1) o (by first | (simp; done) | (simp; omega) | omega)
      have l8_1 : (w.heap.size + 1) < w8.heap.size := (by omega)
      have q8_1 := fun o => (bcell hb8).2 (w.heap.size + 1) o (by first | (simp; done) | (simp; omega) | omega)
      have k8_2 := fun o => (bcell hb8).1 (w1.heap.size) o (by first | (simp; done) | (simp; omega) | omega)
      have l8_2 : (w1.heap.size) < w8.heap.size := (by omega)
      have q8_2 := fun o => (bcell hb8).2 (w1.heap.size) o (by first | (simp; done) | (simp; omega) | omega)
      have k8_3 := fun o => (bcell hb8).1 (w5.heap.size) o (by first | (simp; done) | (simp; omega) | omega)
      have l8_3 : (w5.heap.size) < w8.heap.size := (by omega)
      have q8_3 := fun o => (bcell hb8).2 (w5.heap.size) o (by first | (simp; done) | (simp; omega) | omega)
      simp (maxDischargeDepth := 6) [go_sem, *] at k8_0 q8_0 k8_1 q8_1 k8_2 q8_2 k8_3 q8_3
      have HB8 := Lib.hid hb8
      clear hb8
      go_wp2
      go_ret
      exact ⟨rfl, by (repeat (first | (with_reducible exact Below.refl _ _) | (with_reducible refine Below.drew ?_) | (with_reducible refine bdrewN ?_ _) | ((with_reducible refine Below.setCell ?_ ?_ _); rotate_left; exact (by first | (simp; done) | (simp; omega) | omega)) | ((with_reducible refine Below.alloc ?_ ?_ _); rotate_left; exact (by first | (simp; done) | (simp; omega) | omega)) | ((with_reducible refine Below.trans ?_ (HB8.out.mono ?_)); rotate_left; exact (by first | (simp; done) | (simp; omega) | omega)) | ((with_reducible refine Below.trans ?_ (HB7.out.mono ?_)); rotate_left; exact (by first | (simp; done) | (simp; omega) | omega)) | ((with_reducible refine Below.trans ?_ (HB6.out.mono ?_)); rotate_left; exact (by first | (simp; done) | (simp; omega) | omega)) | ((with_reducible refine Below.trans ?_ (HB5.out.mono ?_)); rotate_left; exact (by first | (simp; done) | (simp; omega) | omega)) | ((with_reducible refine Below.trans ?_ (HB4.out.mono ?_)); rotate_left; exact (by first | (simp; done) | (simp; omega) | omega)) | ((with_reducible refine Below.trans ?_ (HB3.out.mono ?_)); rotate_left; exact (by first | (simp; done) | (simp; omega) | omega)) | ((with_reducible refine Below.trans ?_ (HB2.out.mono ?_)); rotate_left; exact (by first | (simp; done) | (simp; omega) | omega)) | ((with_reducible refine Below.trans ?_ (HB1.out.mono ?_)); rotate_left; exact (by first | (simp; done) | (simp; omega) | omega))))⟩

set_option maxRecDepth 100000 in
set_option maxHeartbeats 8000000 in
theorem says_bn (xs : List Int) (m : Option Addr) (cm' : Nat) (b cb : Brg) (A A5 : Option Addr) (n c n5 c5 : Nat) (d p : Int) (wb : Bool) (w : World) (hx : Ints w w.heap.size m 512 xs) (hl : Lines w w.heap.size A n c b.cache) (hl5 : Lines w w.heap.size A5 n5 c5 cb.cache) (hcm : cm xs = 0) (hb1 : ckB b ≠ 0) (hb2 : ckB { b with cache := [] } ≠ 0) (hin : ¬ inD d p) (h1 : thruA xs b d p wb = (Brg.no, 0, 0)) (h1e : thruE xs b d p = ckB b) (h2 : thruA xs { b with cache := [] } d p wb = (Brg.no, 0, 0)) (h2e : thruE xs { b with cache := [] } d p = ckB { b with cache := [] }) :
    Calls Try.prog 10 #[.agg #[.slice m 512 cm'], .agg #[.int .i64 b.mode, .int .i64 b.base, .slice A n c, .int .i64 b.orders.page, .int .i64 b.orders.head, .int .i64 b.orders.tail, .bool b.stopped, .int .i64 b.fences, .int .i64 b.faults.page, .int .i64 b.faults.head, .int .i64 b.faults.tail, .bool b.lost], .int .i64 d, .int .i64 p, .bool wb, .agg #[.int .i64 cb.mode, .int .i64 cb.base, .slice A5 n5 c5, .int .i64 cb.orders.page, .int .i64 cb.orders.head, .int .i64 cb.orders.tail, .bool cb.stopped, .int .i64 cb.fences, .int .i64 cb.faults.page, .int .i64 cb.faults.head, .int .i64 cb.faults.tail, .bool cb.lost]] w fun e w' => e = .returned (.bool true) ∧ Below w.heap.size w w' := by
  have HX := Lib.hid hx
  have HL := Lib.hid hl
  have HL5 := Lib.hid hl5
  have HCM := Lib.hid hcm
  have HIN := Lib.hid hin
  have H1 := Lib.hid h1
  have H1E := Lib.hid h1e
  have H2 := Lib.hid h2
  have H2E := Lib.hid h2e
  have HBV1 := Lib.hid hb1
  have HBV2 := Lib.hid hb2
  have td1 : (ckB b == 0) = false := beq_eq_false_iff_ne.2 hb1
  have td2 : (ckB b != 0) = true := by rw [bne_iff_ne]; exact hb1
  have te1 : (ckB { b with cache := [] } == 0) = false := beq_eq_false_iff_ne.2 hb2
  have te2 : (ckB { b with cache := [] } != 0) = true := by rw [bne_iff_ne]; exact hb2
  have hout : d < 0 ∨ (0 ≤ d ∧ 7 < d) ∨ (0 ≤ d ∧ d ≤ 7 ∧ p < 0) ∨ (0 ≤ d ∧ d ≤ 7 ∧ 0 ≤ p ∧ 63 < p) := by unfold inD at hin; omega
  have HOUT := Lib.hid hout
  clear hout
  clear hx hl hl5 hcm hin h1 h1e h2 h2e hb1 hb2
  go_enter Try.func10, Try.ntmps10
  go_wp2_with fail
  refine (through_ans xs _ _ _ b _ _ _ _ _ _ _ _ _ _ _ (ints_now HX.out (by (repeat (first | (with_reducible exact Below.refl _ _) | (with_reducible refine Below.drew ?_) | (with_reducible refine bdrewN ?_ _) | ((with_reducible refine Below.setCell ?_ ?_ _); rotate_left; exact (by first | (simp; done) | (simp; omega) | omega)) | ((with_reducible refine Below.alloc ?_ ?_ _); rotate_left; exact (by first | (simp; done) | (simp; omega) | omega)))))) (lines_now HL.out (by (repeat (first | (with_reducible exact Below.refl _ _) | (with_reducible refine Below.drew ?_) | (with_reducible refine bdrewN ?_ _) | ((with_reducible refine Below.setCell ?_ ?_ _); rotate_left; exact (by first | (simp; done) | (simp; omega) | omega)) | ((with_reducible refine Below.alloc ?_ ?_ _); rotate_left; exact (by first | (simp; done) | (simp; omega) | omega)))))) H1.out H1E.out).mono ?_
  rintro e w1 ⟨A1, n1, c1, rfl, hl1, hb1, _⟩
  have HL1 := Lib.hid hl1
  clear hl1
  have hz1 := hb1.size
  (try simp only [World.size_alloc, World.size_setCell, World.size_drew] at hz1)
  have k1_0 := fun o => (bcell hb1).1 (w.heap.size) o (by first | (simp; done) | (simp; omega) | omega)
  have l1_0 : (w.heap.size) < w1.heap.size := (by omega)
  have q1_0 := fun o => (bcell hb1).2 (w.heap.size) o (by first | (simp; done) | (simp; omega) | omega)
  have k1_1 := fun o => (bcell hb1).1 (w.heap.size + 1) o (by first | (simp; done) | (simp; omega) | omega)
  have l1_1 : (w.heap.size + 1) < w1.heap.size := (by omega)
  have q1_1 := fun o => (bcell hb1).2 (w.heap.size + 1) o (by first | (simp; done) | (simp; omega) | omega)
  have k1_2 := fun o => (bcell hb1).1 (w.heap.size + 1 + 1) o (by first | (simp; done) | (simp; omega) | omega)
  have l1_2 : (w.heap.size + 1 + 1) < w1.heap.size := (by omega)
  have q1_2 := fun o => (bcell hb1).2 (w.heap.size + 1 + 1) o (by first | (simp; done) | (simp; omega) | omega)
  simp (maxDischargeDepth := 6) [go_sem, *] at k1_0 q1_0 k1_1 q1_1 k1_2 q1_2
  have HB1 := Lib.hid hb1
  clear hb1
  go_wp2_with fail
  refine (bridge_Plain xs _ _ _ b _ _ _ _ _ _ _ _ _ _ _ (ints_now HX.out (by (repeat (first | (with_reducible exact Below.refl _ _) | (with_reducible refine Below.drew ?_) | (with_reducible refine bdrewN ?_ _) | ((with_reducible refine Below.setCell ?_ ?_ _); rotate_left; exact (by first | (simp; done) | (simp; omega) | omega)) | ((with_reducible refine Below.alloc ?_ ?_ _); rotate_left; exact (by first | (simp; done) | (simp; omega) | omega)) | ((with_reducible refine Below.trans ?_ (HB1.out.mono ?_)); rotate_left; exact (by first | (simp; done) | (simp; omega) | omega)))))) H2.out H2E.out).mono ?_
  rintro e w2 ⟨rfl, hb2⟩
  have hz2 := hb2.size
  (try simp only [World.size_alloc, World.size_setCell, World.size_drew] at hz2)
  have k2_0 := fun o => (bcell hb2).1 (w.heap.size) o (by first | (simp; done) | (simp; omega) | omega)
  have l2_0 : (w.heap.size) < w2.heap.size := (by omega)
  have q2_0 := fun o => (bcell hb2).2 (w.heap.size) o (by first | (simp; done) | (simp; omega) | omega)
  have k2_1 := fun o => (bcell hb2).1 (w.heap.size + 1) o (by first | (simp; done) | (simp; omega) | omega)
  have l2_1 : (w.heap.size + 1) < w2.heap.size := (by omega)
  have q2_1 := fun o => (bcell hb2).2 (w.heap.size + 1) o (by first | (simp; done) | (simp; omega) | omega)
  have k2_2 := fun o => (bcell hb2).1 (w.heap.size + 1 + 1) o (by first | (simp; done) | (simp; omega) | omega)
  have l2_2 : (w.heap.size + 1 + 1) < w2.heap.size := (by omega)
  have q2_2 := fun o => (bcell hb2).2 (w.heap.size + 1 + 1) o (by first | (simp; done) | (simp; omega) | omega)
  have k2_3 := fun o => (bcell hb2).1 (w1.heap.size) o (by first | (simp; done) | (simp; omega) | omega)
  have l2_3 : (w1.heap.size) < w2.heap.size := (by omega)
  have q2_3 := fun o => (bcell hb2).2 (w1.heap.size) o (by first | (simp; done) | (simp; omega) | omega)
  simp (maxDischargeDepth := 6) [go_sem, *] at k2_0 q2_0 k2_1 q2_1 k2_2 q2_2 k2_3 q2_3
  have HB2 := Lib.hid hb2
  clear hb2
  go_wp2_with fail
  refine (ref_CheckMem _ _ _ xs _ (ints_now HX.out (by (repeat (first | (with_reducible exact Below.refl _ _) | (with_reducible refine Below.drew ?_) | (with_reducible refine bdrewN ?_ _) | ((with_reducible refine Below.setCell ?_ ?_ _); rotate_left; exact (by first | (simp; done) | (simp; omega) | omega)) | ((with_reducible refine Below.alloc ?_ ?_ _); rotate_left; exact (by first | (simp; done) | (simp; omega) | omega)) | ((with_reducible refine Below.trans ?_ (HB2.out.mono ?_)); rotate_left; exact (by first | (simp; done) | (simp; omega) | omega)) | ((with_reducible refine Below.trans ?_ (HB1.out.mono ?_)); rotate_left; exact (by first | (simp; done) | (simp; omega) | omega))))))).mono ?_
  rw [HCM.out]
  rintro e w3 ⟨rfl, hb3⟩
  have hz3 := hb3.size
  (try simp only [World.size_alloc, World.size_setCell, World.size_drew] at hz3)
  have k3_0 := fun o => (bcell hb3).1 (w.heap.size) o (by first | (simp; done) | (simp; omega) | omega)
  have l3_0 : (w.heap.size) < w3.heap.size := (by omega)
  have q3_0 := fun o => (bcell hb3).2 (w.heap.size) o (by first | (simp; done) | (simp; omega) | omega)
  have k3_1 := fun o => (bcell hb3).1 (w.heap.size + 1) o (by first | (simp; done) | (simp; omega) | omega)
  have l3_1 : (w.heap.size + 1) < w3.heap.size := (by omega)
  have q3_1 := fun o => (bcell hb3).2 (w.heap.size + 1) o (by first | (simp; done) | (simp; omega) | omega)
  have k3_2 := fun o => (bcell hb3).1 (w.heap.size + 1 + 1) o (by first | (simp; done) | (simp; omega) | omega)
  have l3_2 : (w.heap.size + 1 + 1) < w3.heap.size := (by omega)
  have q3_2 := fun o => (bcell hb3).2 (w.heap.size + 1 + 1) o (by first | (simp; done) | (simp; omega) | omega)
  have k3_3 := fun o => (bcell hb3).1 (w1.heap.size) o (by first | (simp; done) | (simp; omega) | omega)
  have l3_3 : (w1.heap.size) < w3.heap.size := (by omega)
  have q3_3 := fun o => (bcell hb3).2 (w1.heap.size) o (by first | (simp; done) | (simp; omega) | omega)
  simp (maxDischargeDepth := 6) [go_sem, *] at k3_0 q3_0 k3_1 q3_1 k3_2 q3_2 k3_3 q3_3
  have HB3 := Lib.hid hb3
  clear hb3
  go_wp2_with fail
  refine (ref_CheckBridge b _ _ _ _ (lines_now HL.out (by (repeat (first | (with_reducible exact Below.refl _ _) | (with_reducible refine Below.drew ?_) | (with_reducible refine bdrewN ?_ _) | ((with_reducible refine Below.setCell ?_ ?_ _); rotate_left; exact (by first | (simp; done) | (simp; omega) | omega)) | ((with_reducible refine Below.alloc ?_ ?_ _); rotate_left; exact (by first | (simp; done) | (simp; omega) | omega)) | ((with_reducible refine Below.trans ?_ (HB3.out.mono ?_)); rotate_left; exact (by first | (simp; done) | (simp; omega) | omega)) | ((with_reducible refine Below.trans ?_ (HB2.out.mono ?_)); rotate_left; exact (by first | (simp; done) | (simp; omega) | omega)) | ((with_reducible refine Below.trans ?_ (HB1.out.mono ?_)); rotate_left; exact (by first | (simp; done) | (simp; omega) | omega))))))).mono ?_
  rintro e w4 ⟨rfl, hb4⟩
  have hz4 := hb4.size
  (try simp only [World.size_alloc, World.size_setCell, World.size_drew] at hz4)
  have k4_0 := fun o => (bcell hb4).1 (w.heap.size) o (by first | (simp; done) | (simp; omega) | omega)
  have l4_0 : (w.heap.size) < w4.heap.size := (by omega)
  have q4_0 := fun o => (bcell hb4).2 (w.heap.size) o (by first | (simp; done) | (simp; omega) | omega)
  have k4_1 := fun o => (bcell hb4).1 (w.heap.size + 1) o (by first | (simp; done) | (simp; omega) | omega)
  have l4_1 : (w.heap.size + 1) < w4.heap.size := (by omega)
  have q4_1 := fun o => (bcell hb4).2 (w.heap.size + 1) o (by first | (simp; done) | (simp; omega) | omega)
  have k4_2 := fun o => (bcell hb4).1 (w.heap.size + 1 + 1) o (by first | (simp; done) | (simp; omega) | omega)
  have l4_2 : (w.heap.size + 1 + 1) < w4.heap.size := (by omega)
  have q4_2 := fun o => (bcell hb4).2 (w.heap.size + 1 + 1) o (by first | (simp; done) | (simp; omega) | omega)
  have k4_3 := fun o => (bcell hb4).1 (w1.heap.size) o (by first | (simp; done) | (simp; omega) | omega)
  have l4_3 : (w1.heap.size) < w4.heap.size := (by omega)
  have q4_3 := fun o => (bcell hb4).2 (w1.heap.size) o (by first | (simp; done) | (simp; omega) | omega)
  simp (maxDischargeDepth := 6) [go_sem, *] at k4_0 q4_0 k4_1 q4_1 k4_2 q4_2 k4_3 q4_3
  have HB4 := Lib.hid hb4
  clear hb4
  have G1 : Hid (BrgAt w4 (w.heap.size + 1) b A n c) := by show BrgAt _ _ _ _ _ _; unfold BrgAt; simp (maxDischargeDepth := 8) [go_sem, *]
  have G2 : Hid (BrgAt w4 (w.heap.size + 1 + 1) cb A5 n5 c5) := by show BrgAt _ _ _ _ _ _; unfold BrgAt; simp (maxDischargeDepth := 8) [go_sem, *]
  have LB := Lib.hid (lines_now HL.out (by (repeat (first | (with_reducible exact Below.refl _ _) | (with_reducible refine Below.drew ?_) | (with_reducible refine bdrewN ?_ _) | ((with_reducible refine Below.setCell ?_ ?_ _); rotate_left; exact (by first | (simp; done) | (simp; omega) | omega)) | ((with_reducible refine Below.alloc ?_ ?_ _); rotate_left; exact (by first | (simp; done) | (simp; omega) | omega)) | ((with_reducible refine Below.trans ?_ (HB4.out.mono ?_)); rotate_left; exact (by first | (simp; done) | (simp; omega) | omega)) | ((with_reducible refine Below.trans ?_ (HB3.out.mono ?_)); rotate_left; exact (by first | (simp; done) | (simp; omega) | omega)) | ((with_reducible refine Below.trans ?_ (HB2.out.mono ?_)); rotate_left; exact (by first | (simp; done) | (simp; omega) | omega)) | ((with_reducible refine Below.trans ?_ (HB1.out.mono ?_)); rotate_left; exact (by first | (simp; done) | (simp; omega) | omega)))) : Below w.heap.size w w4))
  have LC := Lib.hid (lines_now HL5.out (by (repeat (first | (with_reducible exact Below.refl _ _) | (with_reducible refine Below.drew ?_) | (with_reducible refine bdrewN ?_ _) | ((with_reducible refine Below.setCell ?_ ?_ _); rotate_left; exact (by first | (simp; done) | (simp; omega) | omega)) | ((with_reducible refine Below.alloc ?_ ?_ _); rotate_left; exact (by first | (simp; done) | (simp; omega) | omega)) | ((with_reducible refine Below.trans ?_ (HB4.out.mono ?_)); rotate_left; exact (by first | (simp; done) | (simp; omega) | omega)) | ((with_reducible refine Below.trans ?_ (HB3.out.mono ?_)); rotate_left; exact (by first | (simp; done) | (simp; omega) | omega)) | ((with_reducible refine Below.trans ?_ (HB2.out.mono ?_)); rotate_left; exact (by first | (simp; done) | (simp; omega) | omega)) | ((with_reducible refine Below.trans ?_ (HB1.out.mono ?_)); rotate_left; exact (by first | (simp; done) | (simp; omega) | omega)))) : Below w.heap.size w w4))
  go_upto_region 6 with (fail)
  go_cut [74] (fun s wd => s = .bool false ∧ Hid (Since w4 wd))
  case first =>
    go_region_held3 (fun W => W.cell? ⟨w.heap.size + 1, 0, none⟩ = some (.int .i64 b.mode) ∧ W.cell? ⟨w.heap.size + 1, 1, none⟩ = some (.int .i64 b.base) ∧ W.cell? ⟨w.heap.size + 1, 2, none⟩ = some (.slice A n c) ∧ W.cell? ⟨w.heap.size + 1, 3, none⟩ = some (.int .i64 b.orders.page) ∧ W.cell? ⟨w.heap.size + 1, 4, none⟩ = some (.int .i64 b.orders.head) ∧ W.cell? ⟨w.heap.size + 1, 5, none⟩ = some (.int .i64 b.orders.tail) ∧ W.cell? ⟨w.heap.size + 1, 6, none⟩ = some (.bool b.stopped) ∧ W.cell? ⟨w.heap.size + 1, 7, none⟩ = some (.int .i64 b.fences) ∧ W.cell? ⟨w.heap.size + 1, 8, none⟩ = some (.int .i64 b.faults.page) ∧ W.cell? ⟨w.heap.size + 1, 9, none⟩ = some (.int .i64 b.faults.head) ∧ W.cell? ⟨w.heap.size + 1, 10, none⟩ = some (.int .i64 b.faults.tail) ∧ W.cell? ⟨w.heap.size + 1, 11, none⟩ = some (.bool b.lost) ∧ W.cell? ⟨w.heap.size + 1 + 1, 0, none⟩ = some (.int .i64 cb.mode) ∧ W.cell? ⟨w.heap.size + 1 + 1, 1, none⟩ = some (.int .i64 cb.base) ∧ W.cell? ⟨w.heap.size + 1 + 1, 2, none⟩ = some (.slice A5 n5 c5) ∧ W.cell? ⟨w.heap.size + 1 + 1, 3, none⟩ = some (.int .i64 cb.orders.page) ∧ W.cell? ⟨w.heap.size + 1 + 1, 4, none⟩ = some (.int .i64 cb.orders.head) ∧ W.cell? ⟨w.heap.size + 1 + 1, 5, none⟩ = some (.int .i64 cb.orders.tail) ∧ W.cell? ⟨w.heap.size + 1 + 1, 6, none⟩ = some (.bool cb.stopped) ∧ W.cell? ⟨w.heap.size + 1 + 1, 7, none⟩ = some (.int .i64 cb.fences) ∧ W.cell? ⟨w.heap.size + 1 + 1, 8, none⟩ = some (.int .i64 cb.faults.page) ∧ W.cell? ⟨w.heap.size + 1 + 1, 9, none⟩ = some (.int .i64 cb.faults.head) ∧ W.cell? ⟨w.heap.size + 1 + 1, 10, none⟩ = some (.int .i64 cb.faults.tail) ∧ W.cell? ⟨w.heap.size + 1 + 1, 11, none⟩ = some (.bool cb.lost) ∧ Hid (Since w4 W))
      (((with_reducible refine keep24 ?_ G1.out G2.out); (repeat (first | (with_reducible assumption) | (with_reducible exact since_refl _) | (with_reducible exact since_24 (by assumption)) | (with_reducible exact since_step (by assumption) (since_24 (by assumption))) | (with_reducible refine since_drew ?_) | (with_reducible refine since_alloc ?_ _) | ((with_reducible refine since_set ?_ ?_ _); rotate_left; exact (by first | (simp; done) | (simp; omega) | omega)))); done))
      (first
        | (go_at_call 56; refine (law_crossed _).mono ?_; rintro e w' ⟨rfl, hb'⟩)
        | (go_at_call 57; refine (bridge_Check b _ _ _ _ ?_).mono ?_; (with_reducible exact lines_snc LB.out (since_24 (by assumption))); rintro e w' ⟨rfl, hb'⟩)
        | (go_at_call 55; refine (ref_CheckBridge b _ _ _ _ ?_).mono ?_; (with_reducible exact lines_snc LB.out (since_24 (by assumption))); rintro e w' ⟨rfl, hb'⟩)
        | (go_at_call 58; refine (bridge_Same b cb _ _ _ _ _ _ _ ?_ ?_).mono ?_; (with_reducible exact lines_snc LB.out (since_24 (by assumption))); (with_reducible exact lines_snc LC.out (since_24 (by assumption))); rintro e w' ⟨rfl, hb'⟩)
        | (go_at_call 59; refine (ref_SameBridge b cb _ _ _ _ _ _ _ ?_ ?_).mono ?_; (with_reducible exact lines_snc LB.out (since_24 (by assumption))); (with_reducible exact lines_snc LC.out (since_24 (by assumption))); rintro e w' ⟨rfl, hb'⟩))
    all_goals
      rename_i hHeld
      have HS := Lib.hid (since_24 hHeld)
      clear hHeld
      go_wp2
      go_meet
      exact ⟨rfl, HS.out⟩
  case rest =>
    obtain ⟨rfl, hsc⟩ := hcut
    obtain ⟨w5, hwc⟩ : ∃ w5, w5 = wc := ⟨_, rfl⟩
    subst hwc
    have hb5 := hsc.out
    clear hsc
    change Below w4.heap.size w4 w5 at hb5
    have hz5 := hb5.size
    (try simp only [World.size_alloc, World.size_setCell, World.size_drew] at hz5)
    have k5_0 := fun o => (bcell hb5).1 (w.heap.size) o (by first | (simp; done) | (simp; omega) | omega)
    have l5_0 : (w.heap.size) < w5.heap.size := (by omega)
    have q5_0 := fun o => (bcell hb5).2 (w.heap.size) o (by first | (simp; done) | (simp; omega) | omega)
    have k5_1 := fun o => (bcell hb5).1 (w.heap.size + 1) o (by first | (simp; done) | (simp; omega) | omega)
    have l5_1 : (w.heap.size + 1) < w5.heap.size := (by omega)
    have q5_1 := fun o => (bcell hb5).2 (w.heap.size + 1) o (by first | (simp; done) | (simp; omega) | omega)
    have k5_2 := fun o => (bcell hb5).1 (w1.heap.size) o (by first | (simp; done) | (simp; omega) | omega)
    have l5_2 : (w1.heap.size) < w5.heap.size := (by omega)
    have q5_2 := fun o => (bcell hb5).2 (w1.heap.size) o (by first | (simp; done) | (simp; omega) | omega)
    simp (maxDischargeDepth := 6) [go_sem, *] at k5_0 q5_0 k5_1 q5_1 k5_2 q5_2
    have HB5 := Lib.hid hb5
    clear hb5
    go_wp2_with fail
    refine (ref_CheckMem _ _ _ xs _ (ints_now HX.out (by (repeat (first | (with_reducible exact Below.refl _ _) | (with_reducible refine Below.drew ?_) | (with_reducible refine bdrewN ?_ _) | ((with_reducible refine Below.setCell ?_ ?_ _); rotate_left; exact (by first | (simp; done) | (simp; omega) | omega)) | ((with_reducible refine Below.alloc ?_ ?_ _); rotate_left; exact (by first | (simp; done) | (simp; omega) | omega)) | ((with_reducible refine Below.trans ?_ (HB5.out.mono ?_)); rotate_left; exact (by first | (simp; done) | (simp; omega) | omega)) | ((with_reducible refine Below.trans ?_ (HB4.out.mono ?_)); rotate_left; exact (by first | (simp; done) | (simp; omega) | omega)) | ((with_reducible refine Below.trans ?_ (HB3.out.mono ?_)); rotate_left; exact (by first | (simp; done) | (simp; omega) | omega)) | ((with_reducible refine Below.trans ?_ (HB2.out.mono ?_)); rotate_left; exact (by first | (simp; done) | (simp; omega) | omega)) | ((with_reducible refine Below.trans ?_ (HB1.out.mono ?_)); rotate_left; exact (by first | (simp; done) | (simp; omega) | omega))))))).mono ?_
    rw [HCM.out]
    rintro e w6 ⟨rfl, hb6⟩
    have hz6 := hb6.size
    (try simp only [World.size_alloc, World.size_setCell, World.size_drew] at hz6)
    have k6_0 := fun o => (bcell hb6).1 (w.heap.size) o (by first | (simp; done) | (simp; omega) | omega)
    have l6_0 : (w.heap.size) < w6.heap.size := (by omega)
    have q6_0 := fun o => (bcell hb6).2 (w.heap.size) o (by first | (simp; done) | (simp; omega) | omega)
    have k6_1 := fun o => (bcell hb6).1 (w.heap.size + 1) o (by first | (simp; done) | (simp; omega) | omega)
    have l6_1 : (w.heap.size + 1) < w6.heap.size := (by omega)
    have q6_1 := fun o => (bcell hb6).2 (w.heap.size + 1) o (by first | (simp; done) | (simp; omega) | omega)
    have k6_2 := fun o => (bcell hb6).1 (w1.heap.size) o (by first | (simp; done) | (simp; omega) | omega)
    have l6_2 : (w1.heap.size) < w6.heap.size := (by omega)
    have q6_2 := fun o => (bcell hb6).2 (w1.heap.size) o (by first | (simp; done) | (simp; omega) | omega)
    have k6_3 := fun o => (bcell hb6).1 (w5.heap.size) o (by first | (simp; done) | (simp; omega) | omega)
    have l6_3 : (w5.heap.size) < w6.heap.size := (by omega)
    have q6_3 := fun o => (bcell hb6).2 (w5.heap.size) o (by first | (simp; done) | (simp; omega) | omega)
    simp (maxDischargeDepth := 6) [go_sem, *] at k6_0 q6_0 k6_1 q6_1 k6_2 q6_2 k6_3 q6_3
    have HB6 := Lib.hid hb6
    clear hb6
    go_wp2_with fail
    refine (ref_CheckBridge { b with cache := [] } none 0 0 _ (lines_none _ _)).mono ?_
    rintro e w7 ⟨rfl, hb7⟩
    have hz7 := hb7.size
    (try simp only [World.size_alloc, World.size_setCell, World.size_drew] at hz7)
    have k7_0 := fun o => (bcell hb7).1 (w.heap.size) o (by first | (simp; done) | (simp; omega) | omega)
    have l7_0 : (w.heap.size) < w7.heap.size := (by omega)
    have q7_0 := fun o => (bcell hb7).2 (w.heap.size) o (by first | (simp; done) | (simp; omega) | omega)
    have k7_1 := fun o => (bcell hb7).1 (w.heap.size + 1) o (by first | (simp; done) | (simp; omega) | omega)
    have l7_1 : (w.heap.size + 1) < w7.heap.size := (by omega)
    have q7_1 := fun o => (bcell hb7).2 (w.heap.size + 1) o (by first | (simp; done) | (simp; omega) | omega)
    have k7_2 := fun o => (bcell hb7).1 (w1.heap.size) o (by first | (simp; done) | (simp; omega) | omega)
    have l7_2 : (w1.heap.size) < w7.heap.size := (by omega)
    have q7_2 := fun o => (bcell hb7).2 (w1.heap.size) o (by first | (simp; done) | (simp; omega) | omega)
    have k7_3 := fun o => (bcell hb7).1 (w5.heap.size) o (by first | (simp; done) | (simp; omega) | omega)
    have l7_3 : (w5.heap.size) < w7.heap.size := (by omega)
    have q7_3 := fun o => (bcell hb7).2 (w5.heap.size) o (by first | (simp; done) | (simp; omega) | omega)
    simp (maxDischargeDepth := 6) [go_sem, *] at k7_0 q7_0 k7_1 q7_1 k7_2 q7_2 k7_3 q7_3
    have HB7 := Lib.hid hb7
    clear hb7
    go_upto_region 13 with (fail)
    go_cut [23] (fun s wd => s = .bool false ∧ wd = w7)
    case first =>
      rcases HOUT.out with t1 | ⟨t1, t2⟩ | ⟨t1, t2, t3⟩ | ⟨t1, t2, t3, t4⟩
      all_goals
        go_wp2
        go_meet
        exact ⟨congrArg Value.bool (by first | rfl | (simp; done) | (simp; omega)), rfl⟩
    case rest =>
      obtain ⟨rfl, rfl⟩ := hcut
      go_wp2_with fail
      refine (ref_SameBridge .no .no _ _ _ _ _ _ _ (lines_now HL1.out (by (repeat (first | (with_reducible exact Below.refl _ _) | (with_reducible refine Below.drew ?_) | (with_reducible refine bdrewN ?_ _) | ((with_reducible refine Below.setCell ?_ ?_ _); rotate_left; exact (by first | (simp; done) | (simp; omega) | omega)) | ((with_reducible refine Below.alloc ?_ ?_ _); rotate_left; exact (by first | (simp; done) | (simp; omega) | omega)) | ((with_reducible refine Below.trans ?_ (HB7.out.mono ?_)); rotate_left; exact (by first | (simp; done) | (simp; omega) | omega)) | ((with_reducible refine Below.trans ?_ (HB6.out.mono ?_)); rotate_left; exact (by first | (simp; done) | (simp; omega) | omega)) | ((with_reducible refine Below.trans ?_ (HB5.out.mono ?_)); rotate_left; exact (by first | (simp; done) | (simp; omega) | omega)) | ((with_reducible refine Below.trans ?_ (HB4.out.mono ?_)); rotate_left; exact (by first | (simp; done) | (simp; omega) | omega)) | ((with_reducible refine Below.trans ?_ (HB3.out.mono ?_)); rotate_left; exact (by first | (simp; done) | (simp; omega) | omega)) | ((with_reducible refine Below.trans ?_ (HB2.out.mono ?_)); rotate_left; exact (by first | (simp; done) | (simp; omega) | omega)))))) (lines_none _ _)).mono ?_
      rw [same_me]
      rintro e w8 ⟨rfl, hb8⟩
      have hz8 := hb8.size
      (try simp only [World.size_alloc, World.size_setCell, World.size_drew] at hz8)
      have k8_0 := fun o => (bcell hb8).1 (w.heap.size) o (by first | (simp; done) | (simp; omega) | omega)
      have l8_0 : (w.heap.size) < w8.heap.size := (by omega)
      have q8_0 := fun o => (bcell hb8).2 (w.heap.size) o (by first | (simp; done) | (simp; omega) | omega)
      have k8_1 := fun o => (bcell hb8).1 (w.heap.size + 1) o (by first | (simp; done) | (simp; omega) | omega)
      have l8_1 : (w.heap.size + 1) < w8.heap.size := (by omega)
      have q8_1 := fun o => (bcell hb8).2 (w.heap.size + 1) o (by first | (simp; done) | (simp; omega) | omega)
      have k8_2 := fun o => (bcell hb8).1 (w1.heap.size) o (by first | (simp; done) | (simp; omega) | omega)
      have l8_2 : (w1.heap.size) < w8.heap.size := (by omega)
      have q8_2 := fun o => (bcell hb8).2 (w1.heap.size) o (by first | (simp; done) | (simp; omega) | omega)
      have k8_3 := fun o => (bcell hb8).1 (w5.heap.size) o (by first | (simp; done) | (simp; omega) | omega)
      have l8_3 : (w5.heap.size) < w8.heap.size := (by omega)
      have q8_3 := fun o => (bcell hb8).2 (w5.heap.size) o (by first | (simp; done) | (simp; omega) | omega)
      simp (maxDischargeDepth := 6) [go_sem, *] at k8_0 q8_0 k8_1 q8_1 k8_2 q8_2 k8_3 q8_3
      have HB8 := Lib.hid hb8
      clear hb8
      go_wp2
      go_ret
      exact ⟨rfl, by (repeat (first | (with_reducible exact Below.refl _ _) | (with_reducible refine Below.drew ?_) | (with_reducible refine bdrewN ?_ _) | ((with_reducible refine Below.setCell ?_ ?_ _); rotate_left; exact (by first | (simp; done) | (simp; omega) | omega)) | ((with_reducible refine Below.alloc ?_ ?_ _); rotate_left; exact (by first | (simp; done) | (simp; omega) | omega)) | ((with_reducible refine Below.trans ?_ (HB8.out.mono ?_)); rotate_left; exact (by first | (simp; done) | (simp; omega) | omega)) | ((with_reducible refine Below.trans ?_ (HB7.out.mono ?_)); rotate_left; exact (by first | (simp; done) | (simp; omega) | omega)) | ((with_reducible refine Below.trans ?_ (HB6.out.mono ?_)); rotate_left; exact (by first | (simp; done) | (simp; omega) | omega)) | ((with_reducible refine Below.trans ?_ (HB5.out.mono ?_)); rotate_left; exact (by first | (simp; done) | (simp; omega) | omega)) | ((with_reducible refine Below.trans ?_ (HB4.out.mono ?_)); rotate_left; exact (by first | (simp; done) | (simp; omega) | omega)) | ((with_reducible refine Below.trans ?_ (HB3.out.mono ?_)); rotate_left; exact (by first | (simp; done) | (simp; omega) | omega)) | ((with_reducible refine Below.trans ?_ (HB2.out.mono ?_)); rotate_left; exact (by first | (simp; done) | (simp; omega) | omega)) | ((with_reducible refine Below.trans ?_ (HB1.out.mono ?_)); rotate_left; exact (by first | (simp; done) | (simp; omega) | omega))))⟩
end Go.Proofs.Ytbopdijnojaaiab
