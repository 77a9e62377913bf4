/- Rings: the walk of the laws' closed fact 'turned'. No statement of the seat is proved here. -/
import Derived.Test.YtbopdijnojaaiabRingL
import Derived.Test.YtbopdijnojaaiabWith
import Derived.Deep.RegionHeld3
import Derived.Deep.DrawnRows
import Derived.Deep.DeepCutAuto
namespace Go.Proofs.Ytbopdijnojaaiab
open Go.RowKit
set_option linter.unusedSimpArgs false
set_option linter.unusedVariables false
attribute [local go_sem ↓] Go.wp_at_zero Go.wp_at_succ

def mt0 : List Int := withL (List.replicate 512 0) [14, 3]
theorem mt0_eq : withL (List.replicate 512 0) [14, 3] = mt0 := rfl
def mt1 : List Int := pushX mt0 ⟨1, 6, 7⟩ 5
theorem mt1_eq : pushX mt0 ⟨1, 6, 7⟩ 5 = mt1 := rfl
theorem tn1 : pushE mt0 ⟨1, 6, 7⟩ 5 = 0 := by decide +kernel
theorem tn2 : pushN mt0 ⟨1, 6, 7⟩ 5 = 512 := by decide +kernel
theorem tn3 : (pushT mt0 ⟨1, 6, 7⟩ 5).page = 1 ∧ (pushT mt0 ⟨1, 6, 7⟩ 5).head = 6 ∧ (pushT mt0 ⟨1, 6, 7⟩ 5).tail = 0 := by decide +kernel
theorem tp1 : popW mt1 ⟨1, 6, 0⟩ = 3 ∧ (popT mt1 ⟨1, 6, 0⟩).page = 1 ∧ (popT mt1 ⟨1, 6, 0⟩).head = 7 ∧ (popT mt1 ⟨1, 6, 0⟩).tail = 0 ∧ popE mt1 ⟨1, 6, 0⟩ = 0 := by decide +kernel
theorem tp2 : popW mt1 ⟨1, 7, 0⟩ = 5 ∧ (popT mt1 ⟨1, 7, 0⟩).page = 1 ∧ (popT mt1 ⟨1, 7, 0⟩).head = 0 ∧ (popT mt1 ⟨1, 7, 0⟩).tail = 0 ∧ popE mt1 ⟨1, 7, 0⟩ = 0 := by decide +kernel
theorem tl4 : lenR ⟨0, 6, 1⟩ = 3 := by decide
theorem tp3 : popE mt1 ⟨1, 0, 0⟩ = 6 := by decide +kernel

theorem ints_far {w : World} {B n g : Nat} {xs : List Int} {p : Addr} (h : Ints w B (some ⟨g, 0, none⟩) n xs) (hA : g ≠ p.block) (u : Value) : Ints (w.setCell p u) B (some ⟨g, 0, none⟩) n xs := by
  refine ⟨h.1, h.2.1, fun hn => ?_⟩
  obtain ⟨b, off, e, hb, hc⟩ := h.2.2 hn
  simp only [Option.some.injEq, Addr.mk.injEq, and_true] at e
  obtain ⟨rfl, rfl⟩ := e
  refine ⟨_, _, rfl, hb, fun k v hv => ?_⟩
  rw [World.cell?_setCell_other _ _ _ _ (by intro he; exact hA (by rw [he]))]
  exact hc k v hv
theorem ints_sets {w : World} {n g h : Nat} {xs : List Int} {a b c : Value} (hI : Ints w w.heap.size (some ⟨g, 0, none⟩) n xs) (hA : h ≠ g) :
    Ints (((w.setCell ⟨h, 0, none⟩ a).setCell ⟨h, 1, none⟩ b).setCell ⟨h, 2, none⟩ c) (((w.setCell ⟨h, 0, none⟩ a).setCell ⟨h, 1, none⟩ b).setCell ⟨h, 2, none⟩ c).heap.size (some ⟨g, 0, none⟩) n xs :=
  ((ints_far (ints_far (ints_far hI (Ne.symm hA) _) (Ne.symm hA) _) (Ne.symm hA) _)).more (by simp)
set_option maxRecDepth 100000 in
set_option maxHeartbeats 8000000 in
theorem law_turned (w : World) : Calls Try.prog 15 #[] w fun e w' => e = .returned (.bool true) ∧ Below w.heap.size w w' := by
  go_enter Try.func15, Try.ntmps15
  go_upto_region 2 with fail
  go_cut [2, 3] (fun s2 s3 wd => ∃ g gg c, s2 = .pointer (some ⟨g, 0, none⟩) ∧ s3 = .int .i64 0 ∧ Hid (Below w.heap.size w wd) ∧ Hid ((w.heap.size < g ∧ g < wd.heap.size) ∧ w.heap.size < gg) ∧ Hid (wd.cell? ⟨g, 0, none⟩ = some (.slice (some ⟨gg, 0, none⟩) 512 c)) ∧ Hid (wd.cell? ⟨w.heap.size, 0, none⟩ = some (.int .i64 1) ∧ wd.cell? ⟨w.heap.size, 1, none⟩ = some (.int .i64 6) ∧ wd.cell? ⟨w.heap.size, 2, none⟩ = some (.int .i64 0)) ∧ Hid (∀ o, wd.frozen? ⟨w.heap.size, o, none⟩ = false) ∧ Hid (Ints wd wd.heap.size (some ⟨gg, 0, none⟩) 512 mt1))
  case first =>
    go_region_with (first
      | (go_at_call 67; refine (law_with _ _ _ [14, 3] _ ?_ (by decide) (by simp [places])).mono ?_; (exact Ints.of_cells rfl (by decide) (by simp) (fun k => by simp [go_sem])); rintro e w1 ⟨A1, d1, rfl, ho1, hb1⟩; rw [mt0_eq] at ho1; have H1 := Lib.hid (ho1.ints (by decide)); clear ho1; have hz1 := hb1.size; (try simp only [World.size_alloc, World.size_setCell, World.size_drew] at hz1); have k1_0 := fun o => (bcell hb1).1 (w.heap.size) o (by first | (simp; done) | (simp; omega) | omega); have q1_0 := fun o => (bcell hb1).2 (w.heap.size) o (by first | (simp; done) | (simp; omega) | omega); have l1_0 : (w.heap.size) < w1.heap.size := (by omega); simp (maxDischargeDepth := 6) [go_sem, *] at k1_0 q1_0; have k1_1 := fun o => (bcell hb1).1 (w.heap.size + 1) o (by first | (simp; done) | (simp; omega) | omega); have q1_1 := fun o => (bcell hb1).2 (w.heap.size + 1) o (by first | (simp; done) | (simp; omega) | omega); have l1_1 : (w.heap.size + 1) < w1.heap.size := (by omega); simp (maxDischargeDepth := 6) [go_sem, *] at k1_1 q1_1; (try (have l1_5 : (w.heap.size + 1 + 1) < w1.heap.size := (by omega); have k1_5 := fun o => (bcell hb1).1 (w.heap.size + 1 + 1) o (by first | (simp; done) | (simp; omega) | omega); have q1_5 := fun o => (bcell hb1).2 (w.heap.size + 1 + 1) o (by first | (simp; done) | (simp; omega) | omega); simp (maxDischargeDepth := 6) [go_sem, *] at k1_5 q1_5)); have HB1 := Lib.hid hb1; clear hb1)
      | (go_at_call 21; refine (ring_Push _ _ _ mt0 1 6 7 5 _ ?_ tn1).mono ?_; (first | exact H1.out | exact (H1.out.alloc (Nat.le_refl _) _).more (by simp)); rintro e w2 ⟨A2, d2, rfl, ho2, hb2⟩; rw [mt1_eq] at ho2; obtain ⟨gg, rfl, hg1, hg2, _, _, _⟩ := own_cells ho2 (by decide); have H2 := Lib.hid (ho2.ints (by decide)); clear ho2; (try simp only [World.size_alloc, World.size_setCell, World.size_drew] at hg1); have hz2 := hb2.size; (try simp only [World.size_alloc, World.size_setCell, World.size_drew] at hz2); have k2_0 := fun o => (bcell hb2).1 (w.heap.size) o (by first | (simp; done) | (simp; omega) | omega); have q2_0 := fun o => (bcell hb2).2 (w.heap.size) o (by first | (simp; done) | (simp; omega) | omega); have l2_0 : (w.heap.size) < w2.heap.size := (by omega); simp (maxDischargeDepth := 6) [go_sem, *] at k2_0 q2_0; have k2_1 := fun o => (bcell hb2).1 (w.heap.size + 1) o (by first | (simp; done) | (simp; omega) | omega); have q2_1 := fun o => (bcell hb2).2 (w.heap.size + 1) o (by first | (simp; done) | (simp; omega) | omega); have l2_1 : (w.heap.size + 1) < w2.heap.size := (by omega); simp (maxDischargeDepth := 6) [go_sem, *] at k2_1 q2_1; (try (have l2_5 : (w.heap.size + 1 + 1) < w2.heap.size := (by omega); have k2_5 := fun o => (bcell hb2).1 (w.heap.size + 1 + 1) o (by first | (simp; done) | (simp; omega) | omega); have q2_5 := fun o => (bcell hb2).2 (w.heap.size + 1 + 1) o (by first | (simp; done) | (simp; omega) | omega); simp (maxDischargeDepth := 6) [go_sem, *] at k2_5 q2_5)); (try (have l2_6 : (w1.heap.size) < w2.heap.size := (by omega); have k2_6 := fun o => (bcell hb2).1 (w1.heap.size) o (by first | (simp; done) | (simp; omega) | omega); have q2_6 := fun o => (bcell hb2).2 (w1.heap.size) o (by first | (simp; done) | (simp; omega) | omega); simp (maxDischargeDepth := 6) [go_sem, *] at k2_6 q2_6)); have HB2 := Lib.hid hb2; clear hb2))
    all_goals
      go_wp2
      go_meet
      refine ⟨_, gg, d2, rfl, rfl, ?_, ?_, ?_, ?_, ?_, ?_⟩
      · show Below _ _ _
        (repeat (first | (with_reducible exact Below.refl _ _) | (with_reducible refine Below.drew ?_) | (with_reducible refine bdrewN ?_ _) | ((with_reducible refine Below.setCell ?_ ?_ _); rotate_left; exact (by first | (simp; done) | (simp; omega) | omega)) | ((with_reducible refine Below.alloc ?_ ?_ _); rotate_left; exact (by first | (simp; done) | (simp; omega) | omega)) | ((with_reducible refine Below.trans ?_ (HB2.out.mono ?_)); rotate_left; exact (by first | (simp; done) | (simp; omega) | omega)) | ((with_reducible refine Below.trans ?_ (HB1.out.mono ?_)); rotate_left; exact (by first | (simp; done) | (simp; omega) | omega))))
      · show (_ ∧ _) ∧ _
        refine ⟨⟨?_, ?_⟩, ?_⟩ <;> first | (simp; done) | (simp; omega) | omega
      · show _ = _
        simp (maxDischargeDepth := 8) [go_sem, *]
      · show _ ∧ _ ∧ _
        refine ⟨?_, ?_, ?_⟩ <;> simp (maxDischargeDepth := 8) [go_sem, *]
      · show ∀ o, _ = _
        intro o
        simp (maxDischargeDepth := 8) [go_sem, *]
      · show Ints _ _ _ _ _
        refine Ints.more (B := w2.heap.size) ?_ (by first | (simp; done) | (simp; omega) | omega)
        (repeat (first | (with_reducible exact H2.out) | ((with_reducible refine Ints.alloc ?_ ?_ _); rotate_left; exact (by first | (simp; done) | (simp; omega) | omega)) | (with_reducible refine Ints.drew ?_) | (refine ints_far ?_ ?_ _; rotate_left; exact (by first | (simp; done) | (simp; omega) | omega))))
  case rest =>
    obtain ⟨g, gg, c, rfl, rfl, hb0, hg, hcg, hcr, hfr, hI⟩ := hcut
    obtain ⟨⟨hg1, hg2⟩, hg3⟩ := hg.out
    have hcg' := hcg.out
    obtain ⟨hr0, hr1, hr2⟩ := hcr.out
    have hfr' := hfr.out
    have hz0 := hb0.out.size
    have P1 := Lib.hid tp1
    have P2 := Lib.hid tp2
    have P3 := Lib.hid tp3
    clear hcr hcg hfr hg
    go_wp2_with fail
    refine (any_Pop _ _ _ mt1 _ _ _ _ hI.out).mono ?_
    rw [P1.out.1, P1.out.2.1, P1.out.2.2.1, P1.out.2.2.2.1, P1.out.2.2.2.2]
    rintro e w1 ⟨rfl, hb1⟩
    have hz1 := hb1.size
    (try simp only [World.size_alloc, World.size_setCell, World.size_drew] at hz1)
    have k1_0_0 := (bcell hb1).1 (w.heap.size) 0 (by first | (simp; done) | (simp; omega) | omega)
    have k1_0_1 := (bcell hb1).1 (w.heap.size) 1 (by first | (simp; done) | (simp; omega) | omega)
    have k1_0_2 := (bcell hb1).1 (w.heap.size) 2 (by first | (simp; done) | (simp; omega) | omega)
    have l1_0 : (w.heap.size) < w1.heap.size := (by omega)
    have q1_0 := fun o => (bcell hb1).2 (w.heap.size) o (by first | (simp; done) | (simp; omega) | omega)
    have k1_1_0 := (bcell hb1).1 (g) 0 (by first | (simp; done) | (simp; omega) | omega)
    have l1_1 : (g) < w1.heap.size := (by omega)
    have q1_1 := fun o => (bcell hb1).2 (g) o (by first | (simp; done) | (simp; omega) | omega)
    simp (maxDischargeDepth := 6) [go_sem, *] at k1_0_0 k1_0_1 k1_0_2 q1_0 k1_1_0 q1_1
    have HB1 := Lib.hid hb1
    clear hb1
    have X1 := Lib.hid ((hI.out.below HB1.out).more (B' := w1.heap.size) (by omega))
    go_wp2_with fail
    refine (any_Pop _ _ _ mt1 _ _ _ _ (ints_sets X1.out (by omega))).mono ?_
    rw [P2.out.1, P2.out.2.1, P2.out.2.2.1, P2.out.2.2.2.1, P2.out.2.2.2.2]
    rintro e w2 ⟨rfl, hb2⟩
    have hz2 := hb2.size
    (try simp only [World.size_alloc, World.size_setCell, World.size_drew] at hz2)
    have k2_0_0 := (bcell hb2).1 (w.heap.size) 0 (by first | (simp; done) | (simp; omega) | omega)
    have k2_0_1 := (bcell hb2).1 (w.heap.size) 1 (by first | (simp; done) | (simp; omega) | omega)
    have k2_0_2 := (bcell hb2).1 (w.heap.size) 2 (by first | (simp; done) | (simp; omega) | omega)
    have l2_0 : (w.heap.size) < w2.heap.size := (by omega)
    have q2_0 := fun o => (bcell hb2).2 (w.heap.size) o (by first | (simp; done) | (simp; omega) | omega)
    have k2_1_0 := (bcell hb2).1 (g) 0 (by first | (simp; done) | (simp; omega) | omega)
    have l2_1 : (g) < w2.heap.size := (by omega)
    have q2_1 := fun o => (bcell hb2).2 (g) o (by first | (simp; done) | (simp; omega) | omega)
    simp (maxDischargeDepth := 6) [go_sem, *] at k2_0_0 k2_0_1 k2_0_2 q2_0 k2_1_0 q2_1
    have HB2 := Lib.hid hb2
    clear hb2
    have X2 := Lib.hid (((ints_sets (a := .int .i64 1) (b := .int .i64 7) (c := .int .i64 0) X1.out (by omega : w.heap.size ≠ gg)).below (HB2.out.mono (by simp))).more (B' := w2.heap.size) (by simp; omega))
    go_wp2_with fail
    refine (any_Pop _ _ _ mt1 _ _ _ _ (ints_sets X2.out (by omega))).mono ?_
    rw [P3.out]
    rintro e w3 ⟨rfl, hb3⟩
    have hz3 := hb3.size
    (try simp only [World.size_alloc, World.size_setCell, World.size_drew] at hz3)
    have k3_0_0 := (bcell hb3).1 (w.heap.size) 0 (by first | (simp; done) | (simp; omega) | omega)
    have k3_0_1 := (bcell hb3).1 (w.heap.size) 1 (by first | (simp; done) | (simp; omega) | omega)
    have k3_0_2 := (bcell hb3).1 (w.heap.size) 2 (by first | (simp; done) | (simp; omega) | omega)
    have l3_0 : (w.heap.size) < w3.heap.size := (by omega)
    have q3_0 := fun o => (bcell hb3).2 (w.heap.size) o (by first | (simp; done) | (simp; omega) | omega)
    simp (maxDischargeDepth := 6) [go_sem, *] at k3_0_0 k3_0_1 k3_0_2 q3_0
    have HB3 := Lib.hid hb3
    clear hb3
    have P4 := Lib.hid tl4
    go_wp2_with fail
    refine (ring_Length 0 6 1 (by decide) _).mono ?_
    rw [P4.out]
    rintro e w4 ⟨rfl, hb4⟩
    have hz4 := hb4.size
    (try simp only [World.size_alloc, World.size_setCell, World.size_drew] at hz4)
    have HB4 := Lib.hid hb4
    clear hb4
    go_wp2
    go_ret
    exact ⟨rfl, by (repeat (first | (with_reducible exact Below.refl _ _) | (with_reducible refine Below.drew ?_) | (with_reducible refine bdrewN ?_ _) | ((with_reducible refine Below.setCell ?_ ?_ _); rotate_left; exact (by first | (simp; done) | (simp; omega) | omega)) | ((with_reducible refine Below.alloc ?_ ?_ _); rotate_left; exact (by first | (simp; done) | (simp; omega) | omega)) | ((with_reducible refine Below.trans ?_ (HB4.out.mono ?_)); rotate_left; exact (by first | (simp; done) | (simp; omega) | omega)) | ((with_reducible refine Below.trans ?_ (HB3.out.mono ?_)); rotate_left; exact (by first | (simp; done) | (simp; omega) | omega)) | ((with_reducible refine Below.trans ?_ (HB2.out.mono ?_)); rotate_left; exact (by first | (simp; done) | (simp; omega) | omega)) | ((with_reducible refine Below.trans ?_ (HB1.out.mono ?_)); rotate_left; exact (by first | (simp; done) | (simp; omega) | omega)) | ((with_reducible refine Below.trans ?_ (hb0.out.mono ?_)); rotate_left; exact (by first | (simp; done) | (simp; omega) | omega))))⟩
end Go.Proofs.Ytbopdijnojaaiab
