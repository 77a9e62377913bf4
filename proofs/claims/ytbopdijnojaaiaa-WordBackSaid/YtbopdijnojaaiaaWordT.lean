/- Orders and faults as words: the walks of the document's OrderOf and FaultOf. No statement of the seat is proved here. -/
import Derived.Test.YtbopdijnojaaiaaWordS
namespace Go.Proofs.Ytbopdijnojaaiaa
open Go.RowKit
set_option linter.unusedSimpArgs false
set_option linter.unusedVariables false

set_option maxRecDepth 100000 in
set_option maxHeartbeats 1000000 in
theorem ref_OrderOf (v : Int) (w : World) : Calls Try.prog 25 #[.int .i64 v] w fun e w' => e = .returned (rdoV v) ∧ Below w.heap.size w w' := by
  have HB := Lib.hid (below_alloc w)
  by_cases hR : 0 ≤ v ∧ v ≤ 65535
  · have HR := Lib.hid hR
    have hin := inB_t hR
    obtain ⟨h1, h2⟩ := hR
    go_enter Try.func25, Try.ntmps25
    go_wp2_with (go_at_call 51; refine (ref_in _ _ _ _).mono ?_; rintro e w' ⟨rfl, rfl⟩)
    refine (ref_OrderWord _ _ _ _).mono ?_
    rintro e w1 ⟨rfl, hb1⟩
    have hz1 := hb1.size
    (try simp only [World.size_alloc, World.size_setCell, World.size_drew] at hz1)
    have k1_0 := fun o => (bcell hb1).1 (w.heap.size) o (by first | (simp; done) | (simp; omega) | omega)
    have l1_0 : (w.heap.size) < w1.heap.size := (by omega)
    have q1_0 := fun o => (bcell hb1).2 (w.heap.size) o (by first | (simp; done) | (simp; omega) | omega)
    have k1_1 := fun o => (bcell hb1).1 (w.heap.size + 1) o (by first | (simp; done) | (simp; omega) | omega)
    have l1_1 : (w.heap.size + 1) < w1.heap.size := (by omega)
    have q1_1 := fun o => (bcell hb1).2 (w.heap.size + 1) o (by first | (simp; done) | (simp; omega) | omega)
    simp (maxDischargeDepth := 6) [go_sem, *] at k1_0 q1_0 k1_1 q1_1
    have HB1 := Lib.hid hb1
    clear hb1
    by_cases hE : ordE (v % 4) (v / 4 % 8) (v / 32) = 0
    · have HE := Lib.hid hE
      have g1 : (ordE (v % 4) (v / 4 % 8) (v / 32) != 0) = false := by simp [hE]
      clear hE
      go_wp2
      refine bodyPost_ret (v := .tuple #[.agg #[.int .i64 (v % 4), .int .i64 (v / 4 % 8), .int .i64 (v / 32)], .int .i64 0]) ?_ rfl ⟨rdoV_0 (rdoE_0 HR.out HE.out), ?_⟩
      · simp (maxDischargeDepth := 8) [results, Try.results25, go_sem, *]
      · (repeat (first | (with_reducible exact Below.refl _ _) | (with_reducible refine Below.drew ?_) | ((with_reducible refine Below.setCell ?_ ?_ _); rotate_left; exact (by first | (simp; done) | (simp; omega) | omega)) | ((with_reducible refine Below.alloc ?_ ?_ _); rotate_left; exact (by first | (simp; done) | (simp; omega) | omega)) | ((with_reducible refine Below.trans ?_ (HB1.out.mono ?_)); rotate_left; exact (by first | (simp; done) | (simp; omega) | omega))))
    · have HE := Lib.hid hE
      have g2 : (ordE (v % 4) (v / 4 % 8) (v / 32) != 0) = true := by simp [hE]
      clear hE
      go_wp2
      refine bodyPost_ret (v := .tuple #[.agg #[.int .i64 0, .int .i64 0, .int .i64 0], .int .i64 3]) ?_ rfl ⟨rdoV_n (rdoE_f HR.out HE.out) (by decide), ?_⟩
      · simp (maxDischargeDepth := 8) [results, Try.results25, go_sem, *]
      · (repeat (first | (with_reducible exact Below.refl _ _) | (with_reducible refine Below.drew ?_) | ((with_reducible refine Below.setCell ?_ ?_ _); rotate_left; exact (by first | (simp; done) | (simp; omega) | omega)) | ((with_reducible refine Below.alloc ?_ ?_ _); rotate_left; exact (by first | (simp; done) | (simp; omega) | omega)) | ((with_reducible refine Below.trans ?_ (HB1.out.mono ?_)); rotate_left; exact (by first | (simp; done) | (simp; omega) | omega))))
  · have HR := Lib.hid hR
    have hin := inB_f hR
    clear hR
    go_enter Try.func25, Try.ntmps25
    go_wp2_with (go_at_call 51; refine (ref_in _ _ _ _).mono ?_; rintro e w' ⟨rfl, rfl⟩)
    all_goals refine bodyPost_ret (v := .tuple #[.agg #[.int .i64 0, .int .i64 0, .int .i64 0], .int .i64 2]) ?_ rfl ⟨rdoV_n (rdoE_r HR.out) (by decide), HB.out _⟩
    all_goals simp [results, Try.results25, go_sem]

set_option maxRecDepth 100000 in
set_option maxHeartbeats 1000000 in
theorem ref_FaultOf (v : Int) (w : World) : Calls Try.prog 27 #[.int .i64 v] w fun e w' => e = .returned (rdfV v) ∧ Below w.heap.size w w' := by
  have HB := Lib.hid (below_alloc w)
  by_cases hR : 0 ≤ v ∧ v ≤ 65535
  · have HR := Lib.hid hR
    have hin := inB_t hR
    obtain ⟨h1, h2⟩ := hR
    go_enter Try.func27, Try.ntmps27
    go_wp2_with (go_at_call 51; refine (ref_in _ _ _ _).mono ?_; rintro e w' ⟨rfl, rfl⟩)
    refine (ref_FaultWord _ _ _ _ _).mono ?_
    rintro e w1 ⟨rfl, hb1⟩
    have hz1 := hb1.size
    (try simp only [World.size_alloc, World.size_setCell, World.size_drew] at hz1)
    have k1_0 := fun o => (bcell hb1).1 (w.heap.size) o (by first | (simp; done) | (simp; omega) | omega)
    have l1_0 : (w.heap.size) < w1.heap.size := (by omega)
    have q1_0 := fun o => (bcell hb1).2 (w.heap.size) o (by first | (simp; done) | (simp; omega) | omega)
    have k1_1 := fun o => (bcell hb1).1 (w.heap.size + 1) o (by first | (simp; done) | (simp; omega) | omega)
    have l1_1 : (w.heap.size + 1) < w1.heap.size := (by omega)
    have q1_1 := fun o => (bcell hb1).2 (w.heap.size + 1) o (by first | (simp; done) | (simp; omega) | omega)
    simp (maxDischargeDepth := 6) [go_sem, *] at k1_0 q1_0 k1_1 q1_1
    have HB1 := Lib.hid hb1
    clear hb1
    by_cases hE : fltE (v % 8) (v / 8 % 8) (v / 64 % 64) = 0 ∧ v < 8192
    · have HE := Lib.hid hE
      have g1 : (fltE (v % 8) (v / 8 % 8) (v / 64 % 64) != 0) = false := by simp [hE.1]
      have g2 := hE.2
      clear hE
      go_wp2
      refine bodyPost_ret (v := .tuple #[.agg #[.int .i64 (v % 8), .int .i64 (v / 8 % 8), .int .i64 (v / 64 % 64), .bool (v / 4096 == 1)], .int .i64 0]) ?_ rfl ⟨rdfV_0 (rdfE_0 HR.out HE.out), ?_⟩
      · simp (maxDischargeDepth := 8) [results, Try.results27, go_sem, *]
      · (repeat (first | (with_reducible exact Below.refl _ _) | (with_reducible refine Below.drew ?_) | ((with_reducible refine Below.setCell ?_ ?_ _); rotate_left; exact (by first | (simp; done) | (simp; omega) | omega)) | ((with_reducible refine Below.alloc ?_ ?_ _); rotate_left; exact (by first | (simp; done) | (simp; omega) | omega)) | ((with_reducible refine Below.trans ?_ (HB1.out.mono ?_)); rotate_left; exact (by first | (simp; done) | (simp; omega) | omega))))
    · have HE := Lib.hid hE
      by_cases g1 : fltE (v % 8) (v / 8 % 8) (v / 64 % 64) = 0
      · have g2 : (fltE (v % 8) (v / 8 % 8) (v / 64 % 64) != 0) = false := by simp [g1]
        have g3 : 8192 ≤ v := by have := fun h => hE ⟨g1, h⟩; omega
        clear hE g1
        go_wp2
        refine bodyPost_ret (v := .tuple #[.agg #[.int .i64 0, .int .i64 0, .int .i64 0, .bool false], .int .i64 3]) ?_ rfl ⟨rdfV_n (rdfE_f HR.out HE.out) (by decide), ?_⟩
        · simp (maxDischargeDepth := 8) [results, Try.results27, go_sem, *]
        · (repeat (first | (with_reducible exact Below.refl _ _) | (with_reducible refine Below.drew ?_) | ((with_reducible refine Below.setCell ?_ ?_ _); rotate_left; exact (by first | (simp; done) | (simp; omega) | omega)) | ((with_reducible refine Below.alloc ?_ ?_ _); rotate_left; exact (by first | (simp; done) | (simp; omega) | omega)) | ((with_reducible refine Below.trans ?_ (HB1.out.mono ?_)); rotate_left; exact (by first | (simp; done) | (simp; omega) | omega))))
      · have g2 : (fltE (v % 8) (v / 8 % 8) (v / 64 % 64) != 0) = true := by simp [g1]
        clear hE g1
        go_wp2
        refine bodyPost_ret (v := .tuple #[.agg #[.int .i64 0, .int .i64 0, .int .i64 0, .bool false], .int .i64 3]) ?_ rfl ⟨rdfV_n (rdfE_f HR.out HE.out) (by decide), ?_⟩
        · simp (maxDischargeDepth := 8) [results, Try.results27, go_sem, *]
        · (repeat (first | (with_reducible exact Below.refl _ _) | (with_reducible refine Below.drew ?_) | ((with_reducible refine Below.setCell ?_ ?_ _); rotate_left; exact (by first | (simp; done) | (simp; omega) | omega)) | ((with_reducible refine Below.alloc ?_ ?_ _); rotate_left; exact (by first | (simp; done) | (simp; omega) | omega)) | ((with_reducible refine Below.trans ?_ (HB1.out.mono ?_)); rotate_left; exact (by first | (simp; done) | (simp; omega) | omega))))
  · have HR := Lib.hid hR
    have hin := inB_f hR
    clear hR
    go_enter Try.func27, Try.ntmps27
    go_wp2_with (go_at_call 51; refine (ref_in _ _ _ _).mono ?_; rintro e w' ⟨rfl, rfl⟩)
    all_goals refine bodyPost_ret (v := .tuple #[.agg #[.int .i64 0, .int .i64 0, .int .i64 0, .bool false], .int .i64 2]) ?_ rfl ⟨rdfV_n (rdfE_r HR.out) (by decide), HB.out _⟩
    all_goals simp [results, Try.results27, go_sem]
end Go.Proofs.Ytbopdijnojaaiaa
