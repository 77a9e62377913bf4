/- The hart: the walk of the laws' closed fact 'ran'. No statement of the seat is proved here. -/
import Derived.Test.YtbopdijnojaaiabHart9
import Derived.Test.YtbopdijnojaaiabMemZ
import Derived.Deep.DeepCutAuto
namespace Go.Proofs.Ytbopdijnojaaiab
open Go.RowKit
set_option linter.unusedSimpArgs false
set_option linter.unusedVariables false
attribute [local go_sem ↓] Go.wp_at_zero Go.wp_at_succ

def ranP : List Int := [0, 4101, 1, 28673, 2, 33281, 3, 0]
/-- what the program of the fact leads to. -/
def ranS : Nat → List Int × Hrt × Brg
  | 0 => (withL (List.replicate 512 0) ranP, ⟨0, List.replicate 8 0, false⟩, .no)
  | k + 1 => stepM (ranS k).1 (ranS k).2.1 (ranS k).2.2
theorem ran_e : ∀ k, k < 4 → stepE (ranS k).1 (ranS k).2.1 (ranS k).2.2 = 0 := by decide +kernel
theorem ran_3 : (ranS 3).2.2.base = 5 ∧ (ranS 3).2.1.at_ = 3 ∧ (ranS 3).2.1.regs[1]? = some 5 ∧ ckH (ranS 3).2.1 = 0 := by decide +kernel
theorem ran_4 : (ranS 4).2.1.at_ = 3 ∧ (ranS 4).2.1.done = true := by decide +kernel
theorem ranS_succ (k : Nat) : ranS (k + 1) = stepM (ranS k).1 (ranS k).2.1 (ranS k).2.2 := rfl
theorem ran_end {xs : List Int} {h : Hrt} {b : Brg} (e : ranS 3 = (xs, h, b)) : ∃ ys rs bb, stepM xs h b = (ys, ⟨3, rs, true⟩, bb) := by
  have h4 := ran_4
  have e4 : ranS 4 = stepM xs h b := (ranS_succ 3).trans (by rw [e])
  rw [e4] at h4
  refine ⟨(stepM xs h b).1, (stepM xs h b).2.1.regs, (stepM xs h b).2.2, ?_⟩
  have e2 : (stepM xs h b).2.1 = ⟨3, (stepM xs h b).2.1.regs, true⟩ := Hrt.ext' h4.1 rfl h4.2
  rw [← e2]
theorem ran_at {xs : List Int} {h : Hrt} {b : Brg} (e : ranS 3 = (xs, h, b)) : b.base = 5 ∧ h.at_ = 3 ∧ h.regs[1]? = some 5 ∧ ckH h = 0 := by
  have h3 := ran_3
  rw [e] at h3
  exact h3
theorem hart_New0 (w : World) : Calls Try.prog 61 #[.int .i64 0] w fun e w' => ∃ A c, e = .returned (.tuple #[.agg #[.int .i64 0, .slice A 8 c, .bool false], .int .i64 0]) ∧ Ints w' w'.heap.size A 8 (List.replicate 8 0) ∧ Below w.heap.size w w' ∧ ∀ ad, A = some ad → w.heap.size ≤ ad.block := by
  have := hart_New 0 w
  rw [show newH 0 = ⟨0, List.replicate 8 0, false⟩ from rfl, show newN 0 = 8 from rfl, show newE 0 = 0 from rfl] at this
  exact this

/-- memory, a hart, a bridge in boxes of their own, all of it to be turned. -/
def RanI (gm gh gb : Nat) (xs : List Int) (h : Hrt) (b : Brg) (w : World) : Prop :=
  ∃ A d P p Q q k, w.cell? ⟨gm, 0, none⟩ = some (.slice A 512 d) ∧ (w.cell? ⟨gh, 0, none⟩ = some (.int .i64 h.at_) ∧ w.cell? ⟨gh, 1, none⟩ = some (.slice P 8 p) ∧ w.cell? ⟨gh, 2, none⟩ = some (.bool h.done)) ∧ BrgAt w gb b Q q k ∧
    Ints w w.heap.size A 512 xs ∧ Ints w w.heap.size P 8 h.regs ∧ Lines w w.heap.size Q q k b.cache ∧ (∀ o, w.frozen? ⟨gm, o, none⟩ = false) ∧ (∀ o, w.frozen? ⟨gh, o, none⟩ = false) ∧ (∀ o, w.frozen? ⟨gb, o, none⟩ = false)

set_option maxRecDepth 100000 in
set_option maxHeartbeats 8000000 in
theorem law_ran (w : World) : Calls Try.prog 51 #[] w fun e w' => e = .returned (.bool true) ∧ Below w.heap.size w w' := by
  go_enter Try.func51, Try.ntmps51
  go_wp2_with fail
  refine (law_with _ _ _ ranP _ ?_ (by decide) (by simp [places, ranP])).mono ?_
  · exact Ints.of_cells rfl (by decide) (by simp [ranP]) (fun k => by simp [go_sem, ranP])
  rintro e w1 ⟨A1, d1, rfl, ho1, hb1⟩
  have H1 : Hid (Ints w1 w1.heap.size A1 512 (ranS 0).1) := Lib.hid (ho1.ints (by decide))
  have HP1 := Lib.hid (own_blk ho1.2)
  have HB1 := Lib.hid hb1
  have hz1 := hb1.size
  simp only [World.size_alloc] at hz1
  clear ho1 hb1
  go_wp2_with fail
  refine (hart_New0 _).mono ?_
  rintro e w2 ⟨P2, d2, rfl, hi2, hb2, hn2⟩
  have H2 : Hid (Ints w2 w2.heap.size P2 8 (ranS 0).2.1.regs) := Lib.hid hi2
  have HN2 := Lib.hid hn2
  clear hi2 hn2
  have hz2 := hb2.size
  (try simp only [World.size_alloc, World.size_setCell, World.size_drew] at hz2)
  have k2_0 := fun o => (bcell hb2).1 (w1.heap.size) o (by first | (simp; done) | (simp; omega) | omega)
  have l2_0 : (w1.heap.size) < w2.heap.size := (by omega)
  have q2_0 := fun o => (bcell hb2).2 (w1.heap.size) o (by first | (simp; done) | (simp; omega) | omega)
  simp (maxDischargeDepth := 6) [go_sem, *] at k2_0 q2_0
  have HB2 := Lib.hid hb2
  clear hb2
  (try simp only [World.size_alloc] at hz2)
  have hg1 : w1.heap.size < w2.heap.size := l2_0
  have n1 : ¬ w1.heap.size = w2.heap.size := by omega
  have n2 : ¬ w1.heap.size = w2.heap.size + 1 := by omega
  have n3 : ¬ w2.heap.size = w1.heap.size := by omega
  have n4 : ¬ w2.heap.size + 1 = w1.heap.size := by omega
  go_wp2
  go_loopw [17] (fun i wr => ∃ (k : Nat) (xs : List Int) (h : Hrt) (b : Brg), i = .int .i64 k ∧ k ≤ 3 ∧ Hid (ranS k = (xs, h, b)) ∧ Hid (RanI w1.heap.size w2.heap.size (w2.heap.size + 1) xs h b wr) ∧ Hid (Below w.heap.size w wr))
    (fun i _ => 3 - (intOf i).toNat)
  case atStart =>
    refine ⟨0, _, _, _, rfl, by omega, Lib.hid rfl, Lib.hid ⟨A1, d1, P2, d2, none, 0, 0, ?_, ⟨?_, ?_, ?_⟩, ?_, ?_, ?_, lines_none _ _, ?_, ?_, ?_⟩, ?_⟩
    · simp (maxDischargeDepth := 8) [go_sem, *]
    · simp [go_sem]
    · simp [go_sem]
    · simp [go_sem]
    · unfold BrgAt; simp [go_sem, Brg.no, Ring.no]
    · exact ints_now H1.out (by (repeat (first | (with_reducible exact Below.refl _ _) | (with_reducible refine Below.drew ?_) | (with_reducible refine bdrewN ?_ _) | ((with_reducible refine Below.setCell ?_ ?_ _); rotate_left; exact (by first | (simp; done) | (simp; omega) | omega)) | ((with_reducible refine Below.alloc ?_ ?_ _); rotate_left; exact (by first | (simp; done) | (simp; omega) | omega)) | ((with_reducible refine Below.trans ?_ (HB2.out.mono ?_)); rotate_left; exact (by first | (simp; done) | (simp; omega) | omega)))))
    · exact ints_now H2.out (by (repeat (first | (with_reducible exact Below.refl _ _) | (with_reducible refine Below.drew ?_) | (with_reducible refine bdrewN ?_ _) | ((with_reducible refine Below.setCell ?_ ?_ _); rotate_left; exact (by first | (simp; done) | (simp; omega) | omega)) | ((with_reducible refine Below.alloc ?_ ?_ _); rotate_left; exact (by first | (simp; done) | (simp; omega) | omega)))))
    · intro o; simp (maxDischargeDepth := 8) [go_sem, *]
    · intro o; simp [go_sem]
    · intro o; simp [go_sem]
    · show Below _ _ _
      (repeat (first | (with_reducible exact Below.refl _ _) | (with_reducible refine Below.drew ?_) | (with_reducible refine bdrewN ?_ _) | ((with_reducible refine Below.setCell ?_ ?_ _); rotate_left; exact (by first | (simp; done) | (simp; omega) | omega)) | ((with_reducible refine Below.alloc ?_ ?_ _); rotate_left; exact (by first | (simp; done) | (simp; omega) | omega)) | ((with_reducible refine Below.trans ?_ (HB2.out.mono ?_)); rotate_left; exact (by first | (simp; done) | (simp; omega) | omega)) | ((with_reducible refine Below.trans ?_ (HB1.out.mono ?_)); rotate_left; exact (by first | (simp; done) | (simp; omega) | omega))))
  case round =>
    obtain ⟨k, xs, h, b, rfl, hk, hS, hI, hBw⟩ := hrel
    by_cases hlt : k < 3
    · have HE := Lib.hid (show stepE xs h b = 0 by have := ran_e k (by omega); rw [hS.out] at this; exact this)
      have HM := Lib.hid (show stepM xs h b = ((ranS (k + 1)).1, (ranS (k + 1)).2.1, (ranS (k + 1)).2.2) by show _ = stepM _ _ _; rw [hS.out])
      have HT := Lib.hid (show ranS (k + 1) = ((ranS (k + 1)).1, (ranS (k + 1)).2.1, (ranS (k + 1)).2.2) from rfl)
      generalize (ranS (k + 1)).1 = ys at HM HT
      generalize (ranS (k + 1)).2.1 = g at HM HT
      generalize (ranS (k + 1)).2.2 = bb at HM HT
      obtain ⟨A, d, P, p, Q, q, c, hm, ⟨h0, h1, h2⟩, hb, hx, hr, hl, fm, fh, fb⟩ := hI.out
      have HX := Lib.hid hx
      have HR := Lib.hid hr
      have HL := Lib.hid hl
      have HB := Lib.hid hb
      have lb := brg_lt hb
      obtain ⟨b0, b1, b2, b3, b4, b5, b6, b7, b8, b9, b10, b11⟩ := hb
      clear hx hr hl hI hS
      go_wp2_with fail
      refine (step_ok xs h b _ _ _ _ _ _ _ _ _ _ HX.out HR.out HL.out HE.out _ _ _ HM.out).mono ?_
      rintro e w4 ⟨A4, a4, P4, p4, Q4, q4, c4, rfl, hx4, hr4, hl4, hb4, nA, nP, nQ⟩
      have HX4 := Lib.hid hx4
      have HR4 := Lib.hid hr4
      have HL4 := Lib.hid hl4
      have HN4 := Lib.hid (And.intro nA (And.intro nP nQ))
      clear hx4 hr4 hl4 nA nP nQ
      have hz4 := hb4.size
      (try simp only [World.size_alloc, World.size_setCell, World.size_drew] at hz4)
      have k4_0_0 := (bcell hb4).1 (w1.heap.size) 0 (by first | (simp; done) | (simp; omega) | omega)
      have l4_0 : (w1.heap.size) < w4.heap.size := (by omega)
      have q4_0 := fun o => (bcell hb4).2 (w1.heap.size) o (by first | (simp; done) | (simp; omega) | omega)
      have k4_1_0 := (bcell hb4).1 (w2.heap.size) 0 (by first | (simp; done) | (simp; omega) | omega)
      have k4_1_1 := (bcell hb4).1 (w2.heap.size) 1 (by first | (simp; done) | (simp; omega) | omega)
      have k4_1_2 := (bcell hb4).1 (w2.heap.size) 2 (by first | (simp; done) | (simp; omega) | omega)
      have l4_1 : (w2.heap.size) < w4.heap.size := (by omega)
      have q4_1 := fun o => (bcell hb4).2 (w2.heap.size) o (by first | (simp; done) | (simp; omega) | omega)
      have k4_2_0 := (bcell hb4).1 (w2.heap.size + 1) 0 (by first | (simp; done) | (simp; omega) | omega)
      have k4_2_1 := (bcell hb4).1 (w2.heap.size + 1) 1 (by first | (simp; done) | (simp; omega) | omega)
      have k4_2_2 := (bcell hb4).1 (w2.heap.size + 1) 2 (by first | (simp; done) | (simp; omega) | omega)
      have k4_2_3 := (bcell hb4).1 (w2.heap.size + 1) 3 (by first | (simp; done) | (simp; omega) | omega)
      have k4_2_4 := (bcell hb4).1 (w2.heap.size + 1) 4 (by first | (simp; done) | (simp; omega) | omega)
      have k4_2_5 := (bcell hb4).1 (w2.heap.size + 1) 5 (by first | (simp; done) | (simp; omega) | omega)
      have k4_2_6 := (bcell hb4).1 (w2.heap.size + 1) 6 (by first | (simp; done) | (simp; omega) | omega)
      have k4_2_7 := (bcell hb4).1 (w2.heap.size + 1) 7 (by first | (simp; done) | (simp; omega) | omega)
      have k4_2_8 := (bcell hb4).1 (w2.heap.size + 1) 8 (by first | (simp; done) | (simp; omega) | omega)
      have k4_2_9 := (bcell hb4).1 (w2.heap.size + 1) 9 (by first | (simp; done) | (simp; omega) | omega)
      have k4_2_10 := (bcell hb4).1 (w2.heap.size + 1) 10 (by first | (simp; done) | (simp; omega) | omega)
      have k4_2_11 := (bcell hb4).1 (w2.heap.size + 1) 11 (by first | (simp; done) | (simp; omega) | omega)
      have l4_2 : (w2.heap.size + 1) < w4.heap.size := (by omega)
      have q4_2 := fun o => (bcell hb4).2 (w2.heap.size + 1) o (by first | (simp; done) | (simp; omega) | omega)
      simp (maxDischargeDepth := 6) [go_sem, *] at k4_0_0 q4_0 k4_1_0 k4_1_1 k4_1_2 q4_1 k4_2_0 k4_2_1 k4_2_2 k4_2_3 k4_2_4 k4_2_5 k4_2_6 k4_2_7 k4_2_8 k4_2_9 k4_2_10 k4_2_11 q4_2
      have HB4 := Lib.hid hb4
      clear hb4
      go_wp2
      go_round
      case rel =>
        refine ⟨k + 1, ys, g, bb, by go_num, by omega, HT, Lib.hid ⟨A4, a4, P4, p4, Q4, q4, c4, ?_, ⟨?_, ?_, ?_⟩, ?_, ?_, ?_, ?_, ?_, ?_, ?_⟩, ?_⟩
        · simp (maxDischargeDepth := 8) [go_sem, *]
        · simp (maxDischargeDepth := 8) [go_sem, *]
        · simp (maxDischargeDepth := 8) [go_sem, *]
        · simp (maxDischargeDepth := 8) [go_sem, *]
        · unfold BrgAt
          simp (maxDischargeDepth := 8) [go_sem, *]
        · refine sm_ints (P := fun q => q = w1.heap.size ∨ q = w2.heap.size ∨ q = w2.heap.size + 1) HX4.out ?_ (fun ad e => by have := HN4.out.1 ad e; show ¬ (_ ∨ _); omega)
          (repeat (first | ((with_reducible refine sm_set ?_ ?_ _); rotate_left; exact (by simp)) | (with_reducible exact sm_refl _) | (with_reducible refine sm_drew ?_)))
        · refine sm_ints (P := fun q => q = w1.heap.size ∨ q = w2.heap.size ∨ q = w2.heap.size + 1) HR4.out ?_ (fun ad e => by have := HN4.out.2.1 ad e; show ¬ (_ ∨ _); omega)
          (repeat (first | ((with_reducible refine sm_set ?_ ?_ _); rotate_left; exact (by simp)) | (with_reducible exact sm_refl _) | (with_reducible refine sm_drew ?_)))
        · refine sm_lines (P := fun q => q = w1.heap.size ∨ q = w2.heap.size ∨ q = w2.heap.size + 1) HL4.out ?_ (fun ad e => by have := HN4.out.2.2 ad e; show ¬ (_ ∨ _); omega)
          (repeat (first | ((with_reducible refine sm_set ?_ ?_ _); rotate_left; exact (by simp)) | (with_reducible exact sm_refl _) | (with_reducible refine sm_drew ?_)))
        · intro o; simp (maxDischargeDepth := 8) [go_sem, *]
        · intro o; simp (maxDischargeDepth := 8) [go_sem, *]
        · intro o; simp (maxDischargeDepth := 8) [go_sem, *]
        · show Below _ _ _
          (repeat (first | (with_reducible exact Below.refl _ _) | (with_reducible refine Below.drew ?_) | (with_reducible refine bdrewN ?_ _) | ((with_reducible refine Below.setCell ?_ ?_ _); rotate_left; exact (by first | (simp; done) | (simp; omega) | omega)) | ((with_reducible refine Below.alloc ?_ ?_ _); rotate_left; exact (by first | (simp; done) | (simp; omega) | omega)) | ((with_reducible refine Below.trans ?_ (HB4.out.mono ?_)); rotate_left; exact (by first | (simp; done) | (simp; omega) | omega)) | ((with_reducible refine Below.trans ?_ (hBw.out.mono ?_)); rotate_left; exact (by first | (simp; done) | (simp; omega) | omega))))
      case measure => simp [intOf]; omega
    · obtain rfl : k = 3 := by omega
      obtain ⟨t1, t2, t3, t4⟩ := ran_at hS.out
      have HE := Lib.hid (show stepE xs h b = 0 by have := ran_e 3 (by omega); rw [hS.out] at this; exact this)
      obtain ⟨ys, rs, bb, hM⟩ := ran_end hS.out
      have HM := Lib.hid hM
      clear hM
      obtain ⟨A, d, P, p, Q, q, c, hm, ⟨h0, h1, h2⟩, hb, hx, hr, hl, fm, fh, fb⟩ := hI.out
      have HX := Lib.hid hx
      have HR := Lib.hid hr
      have HL := Lib.hid hl
      obtain ⟨gP, oP, rfl, hP1, hPc⟩ := hr.at_ (by decide)
      have hp := hPc 1 5 t3
      have lb := brg_lt hb
      obtain ⟨b0, b1, b2, b3, b4, b5, b6, b7, b8, b9, b10, b11⟩ := hb
      have T4 := Lib.hid (show ckH ⟨3, h.regs, h.done⟩ = 0 by rw [show (⟨3, h.regs, h.done⟩ : Hrt) = h from Hrt.ext' t2.symm rfl rfl]; exact t4)
      have T3 := Lib.hid (And.intro t1 t2)
      clear hx hr hl hI hS t1 t2 t3 t4 hPc
      go_wp2_with fail
      refine (step_ok xs h b _ _ _ _ _ _ _ _ _ _ HX.out HR.out HL.out HE.out _ _ _ HM.out).mono ?_
      rintro e w4 ⟨A4, a4, P4, p4, Q4, q4, c4, rfl, hx4, hr4, hl4, hb4, nA, nP, nQ⟩
      have HB0 := Lib.hid hb4
      have kp := (bcell hb4).1 gP (oP + 1) hP1
      have hz4 := hb4.size
      (try simp only [World.size_alloc, World.size_setCell, World.size_drew] at hz4)
      have k4_0_0 := (bcell hb4).1 (w1.heap.size) 0 (by first | (simp; done) | (simp; omega) | omega)
      have l4_0 : (w1.heap.size) < w4.heap.size := (by omega)
      have q4_0 := fun o => (bcell hb4).2 (w1.heap.size) o (by first | (simp; done) | (simp; omega) | omega)
      have k4_1_0 := (bcell hb4).1 (w2.heap.size) 0 (by first | (simp; done) | (simp; omega) | omega)
      have k4_1_1 := (bcell hb4).1 (w2.heap.size) 1 (by first | (simp; done) | (simp; omega) | omega)
      have k4_1_2 := (bcell hb4).1 (w2.heap.size) 2 (by first | (simp; done) | (simp; omega) | omega)
      have l4_1 : (w2.heap.size) < w4.heap.size := (by omega)
      have q4_1 := fun o => (bcell hb4).2 (w2.heap.size) o (by first | (simp; done) | (simp; omega) | omega)
      have k4_2_0 := (bcell hb4).1 (w2.heap.size + 1) 0 (by first | (simp; done) | (simp; omega) | omega)
      have k4_2_1 := (bcell hb4).1 (w2.heap.size + 1) 1 (by first | (simp; done) | (simp; omega) | omega)
      have k4_2_2 := (bcell hb4).1 (w2.heap.size + 1) 2 (by first | (simp; done) | (simp; omega) | omega)
      have k4_2_3 := (bcell hb4).1 (w2.heap.size + 1) 3 (by first | (simp; done) | (simp; omega) | omega)
      have k4_2_4 := (bcell hb4).1 (w2.heap.size + 1) 4 (by first | (simp; done) | (simp; omega) | omega)
      have k4_2_5 := (bcell hb4).1 (w2.heap.size + 1) 5 (by first | (simp; done) | (simp; omega) | omega)
      have k4_2_6 := (bcell hb4).1 (w2.heap.size + 1) 6 (by first | (simp; done) | (simp; omega) | omega)
      have k4_2_7 := (bcell hb4).1 (w2.heap.size + 1) 7 (by first | (simp; done) | (simp; omega) | omega)
      have k4_2_8 := (bcell hb4).1 (w2.heap.size + 1) 8 (by first | (simp; done) | (simp; omega) | omega)
      have k4_2_9 := (bcell hb4).1 (w2.heap.size + 1) 9 (by first | (simp; done) | (simp; omega) | omega)
      have k4_2_10 := (bcell hb4).1 (w2.heap.size + 1) 10 (by first | (simp; done) | (simp; omega) | omega)
      have k4_2_11 := (bcell hb4).1 (w2.heap.size + 1) 11 (by first | (simp; done) | (simp; omega) | omega)
      have l4_2 : (w2.heap.size + 1) < w4.heap.size := (by omega)
      have q4_2 := fun o => (bcell hb4).2 (w2.heap.size + 1) o (by first | (simp; done) | (simp; omega) | omega)
      simp (maxDischargeDepth := 6) [go_sem, *] at k4_0_0 q4_0 k4_1_0 k4_1_1 k4_1_2 q4_1 k4_2_0 k4_2_1 k4_2_2 k4_2_3 k4_2_4 k4_2_5 k4_2_6 k4_2_7 k4_2_8 k4_2_9 k4_2_10 k4_2_11 q4_2
      have HB4 := Lib.hid hb4
      clear hb4
      clear hx4 hr4 hl4 nA nP nQ
      rw [hp] at kp
      rw [T3.out.1] at k4_2_1
      rw [T3.out.2] at k4_1_0
      have zr := hz4
      have y0a : w1.heap.size ≤ w4.heap.size := by omega
      have y0b : w1.heap.size < w4.heap.size + 1 := by omega
      have y0c : w1.heap.size < w4.heap.size + 1 + 1 := by omega
      have y0d : w1.heap.size < w4.heap.size + 2 := by omega
      have y0e : w1.heap.size ≤ w4.heap.size + 1 := by omega
      have y0f : w1.heap.size < w4.heap.size := by omega
      have y1a : w2.heap.size ≤ w4.heap.size := by omega
      have y1b : w2.heap.size < w4.heap.size + 1 := by omega
      have y1c : w2.heap.size < w4.heap.size + 1 + 1 := by omega
      have y1d : w2.heap.size < w4.heap.size + 2 := by omega
      have y1e : w2.heap.size ≤ w4.heap.size + 1 := by omega
      have y1f : w2.heap.size < w4.heap.size := by omega
      have y2a : w2.heap.size + 1 ≤ w4.heap.size := by omega
      have y2b : w2.heap.size + 1 < w4.heap.size + 1 := by omega
      have y2c : w2.heap.size + 1 < w4.heap.size + 1 + 1 := by omega
      have y2d : w2.heap.size + 1 < w4.heap.size + 2 := by omega
      have y2e : w2.heap.size + 1 ≤ w4.heap.size + 1 := by omega
      have y2f : w2.heap.size + 1 < w4.heap.size := by omega
      have y3a : gP ≤ w4.heap.size := by omega
      have y3b : gP < w4.heap.size + 1 := by omega
      have y3c : gP < w4.heap.size + 1 + 1 := by omega
      have y3d : gP < w4.heap.size + 2 := by omega
      have y3e : gP ≤ w4.heap.size + 1 := by omega
      have y3f : gP < w4.heap.size := by omega
      go_wp2_with fail
      refine (hart_Check ⟨3, h.regs, h.done⟩ _ _ _ _ (ints_now HR.out (by (repeat (first | (with_reducible exact Below.refl _ _) | (with_reducible refine Below.drew ?_) | (with_reducible refine bdrewN ?_ _) | ((with_reducible refine Below.setCell ?_ ?_ _); rotate_left; exact (by first | (simp; done) | (simp; omega) | omega)) | ((with_reducible refine Below.alloc ?_ ?_ _); rotate_left; exact (by first | (simp; done) | (simp; omega) | omega)) | ((with_reducible refine Below.trans ?_ (HB4.out.mono ?_)); rotate_left; exact (by first | (simp; done) | (simp; omega) | omega))))))).mono ?_
      rw [T4.out]
      rintro e w5 ⟨rfl, hb5⟩
      have hz5 := hb5.size
      (try simp only [World.size_alloc, World.size_setCell, World.size_drew] at hz5)
      have HB5 := Lib.hid hb5
      clear hb5
      go_wp2
      go_ret
      exact ⟨rfl, by (repeat (first | (with_reducible exact Below.refl _ _) | (with_reducible refine Below.drew ?_) | (with_reducible refine bdrewN ?_ _) | ((with_reducible refine Below.setCell ?_ ?_ _); rotate_left; exact (by first | (simp; done) | (simp; omega) | omega)) | ((with_reducible refine Below.alloc ?_ ?_ _); rotate_left; exact (by first | (simp; done) | (simp; omega) | omega)) | ((with_reducible refine Below.trans ?_ (HB5.out.mono ?_)); rotate_left; exact (by first | (simp; done) | (simp; omega) | omega)) | ((with_reducible refine Below.trans ?_ (HB4.out.mono ?_)); rotate_left; exact (by first | (simp; done) | (simp; omega) | omega)) | ((with_reducible refine Below.trans ?_ (hBw.out.mono ?_)); rotate_left; exact (by first | (simp; done) | (simp; omega) | omega))))⟩
end Go.Proofs.Ytbopdijnojaaiab
