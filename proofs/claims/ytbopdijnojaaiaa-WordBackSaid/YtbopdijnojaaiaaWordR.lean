/- Orders and faults as words: the walks of ReadOrder and ReadFault. No statement of the seat is proved here. -/
import Derived.Test.YtbopdijnojaaiaaWordW
namespace Go.Proofs.Ytbopdijnojaaiaa
open Go.RowKit
set_option linter.unusedSimpArgs false
set_option linter.unusedVariables false

set_option maxRecDepth 100000 in
set_option maxHeartbeats 1000000 in
theorem word_ReadOrder (v : Int) (w : World) : Calls Try.prog 21 #[.int .i64 v] w fun e w' => e = .returned (rdoV v) ∧ Below w.heap.size w w' := by
  have HB := Lib.hid (below_alloc w)
  by_cases hR : 0 ≤ v ∧ v ≤ 65535
  · have HR := Lib.hid hR
    obtain ⟨h1, h2⟩ := hR
    have e1 := and3 v (by omega) (by omega)
    have e2 := and7 (v / 4) (by omega) (by omega)
    have e3 := and63 (v / 32) (by omega) (by omega)
    go_enter Try.func21, Try.ntmps21
    go_wp2_with fail
    refine (word_PutOrder _ _ _ _).mono ?_
    rintro e w1 ⟨rfl, hb1⟩
    have hz1 := hb1.size
    (try simp only [World.size_alloc, World.size_setCell, World.size_drew] at hz1)
    have k1_0 := fun o => (bcell hb1).1 (w.heap.size) o (by first | (simp; done) | (simp; omega) | omega)
    have l1_0 : (w.heap.size) < w1.heap.size := (by omega)
    have q1_0 := fun o => (bcell hb1).2 (w.heap.size) o (by first | (simp; done) | (simp; omega) | omega)
    have k1_1 := fun o => (bcell hb1).1 (w.heap.size + 1) o (by first | (simp; done) | (simp; omega) | omega)
    have l1_1 : (w.heap.size + 1) < w1.heap.size := (by omega)
    have q1_1 := fun o => (bcell hb1).2 (w.heap.size + 1) o (by first | (simp; done) | (simp; omega) | omega)
    simp (maxDischargeDepth := 6) [go_sem, *] at k1_0 q1_0 k1_1 q1_1
    have HB1 := Lib.hid hb1
    clear hb1
    by_cases hE : ordE (v % 4) (v / 4 % 8) (v / 32) = 0
    · have HE := Lib.hid hE
      obtain ⟨g1, g2⟩ := (rdo_prog HR.out).1 hE
      have g3 := Lib.hid (show v / 32 % 64 = v / 32 from by have := (ordE_inv hE).1; unfold OrdR at this; omega)
      clear hE
      go_wp2
      refine bodyPost_ret (v := .tuple #[.agg #[.int .i64 (v % 4), .int .i64 (v / 4 % 8), .int .i64 (v / 32 % 64)], .int .i64 0]) ?_ rfl ⟨?_, ?_⟩
      · simp (maxDischargeDepth := 8) [results, Try.results21, go_sem, *]
      · rw [g3.out]; exact rdoV_0 (rdoE_0 HR.out HE.out)
      · (repeat (first | (with_reducible exact Below.refl _ _) | (with_reducible refine Below.drew ?_) | ((with_reducible refine Below.setCell ?_ ?_ _); rotate_left; exact (by first | (simp; done) | (simp; omega) | omega)) | ((with_reducible refine Below.alloc ?_ ?_ _); rotate_left; exact (by first | (simp; done) | (simp; omega) | omega)) | ((with_reducible refine Below.trans ?_ (HB1.out.mono ?_)); rotate_left; exact (by first | (simp; done) | (simp; omega) | omega))))
    · have HE := Lib.hid hE
      have g := Lib.hid (fun h => hE ((rdo_prog HR.out).2 h))
      clear hE
      by_cases g1 : ordE (v % 4) (v / 4 % 8) (v / 32 % 64) = 0
      · have g2 : (ordW (v % 4) (v / 4 % 8) (v / 32 % 64) != v) = true := by rw [bne_iff_ne]; exact fun h => g.out ⟨g1, h⟩
        clear g
        go_wp2
        refine bodyPost_ret (v := .tuple #[.agg #[.int .i64 0, .int .i64 0, .int .i64 0], .int .i64 3]) ?_ rfl ⟨rdoV_n (rdoE_f HR.out HE.out) (by decide), ?_⟩
        · simp (maxDischargeDepth := 8) [results, Try.results21, go_sem, *]
        · (repeat (first | (with_reducible exact Below.refl _ _) | (with_reducible refine Below.drew ?_) | ((with_reducible refine Below.setCell ?_ ?_ _); rotate_left; exact (by first | (simp; done) | (simp; omega) | omega)) | ((with_reducible refine Below.alloc ?_ ?_ _); rotate_left; exact (by first | (simp; done) | (simp; omega) | omega)) | ((with_reducible refine Below.trans ?_ (HB1.out.mono ?_)); rotate_left; exact (by first | (simp; done) | (simp; omega) | omega))))
      · have g2 : (ordE (v % 4) (v / 4 % 8) (v / 32 % 64) != 0) = true := by simp [g1]
        clear g g1
        go_wp2
        refine bodyPost_ret (v := .tuple #[.agg #[.int .i64 0, .int .i64 0, .int .i64 0], .int .i64 3]) ?_ rfl ⟨rdoV_n (rdoE_f HR.out HE.out) (by decide), ?_⟩
        · simp (maxDischargeDepth := 8) [results, Try.results21, go_sem, *]
        · (repeat (first | (with_reducible exact Below.refl _ _) | (with_reducible refine Below.drew ?_) | ((with_reducible refine Below.setCell ?_ ?_ _); rotate_left; exact (by first | (simp; done) | (simp; omega) | omega)) | ((with_reducible refine Below.alloc ?_ ?_ _); rotate_left; exact (by first | (simp; done) | (simp; omega) | omega)) | ((with_reducible refine Below.trans ?_ (HB1.out.mono ?_)); rotate_left; exact (by first | (simp; done) | (simp; omega) | omega))))
  · have HR := Lib.hid hR
    go_enter Try.func21, Try.ntmps21
    go_wp2
    all_goals refine bodyPost_ret (v := .tuple #[.agg #[.int .i64 0, .int .i64 0, .int .i64 0], .int .i64 2]) ?_ rfl ⟨rdoV_n (rdoE_r HR.out) (by decide), HB.out _⟩
    all_goals simp [results, Try.results21, go_sem]

set_option maxRecDepth 100000 in
set_option maxHeartbeats 1000000 in
theorem word_ReadFault (v : Int) (w : World) : Calls Try.prog 23 #[.int .i64 v] w fun e w' => e = .returned (rdfV v) ∧ Below w.heap.size w w' := by
  have HB := Lib.hid (below_alloc w)
  by_cases hR : 0 ≤ v ∧ v ≤ 65535
  · have HR := Lib.hid hR
    obtain ⟨h1, h2⟩ := hR
    have e1 := and7 v (by omega) (by omega)
    have e2 := and7 (v / 8) (by omega) (by omega)
    have e3 := and63 (v / 64) (by omega) (by omega)
    have e4 := and1 (v / 4096) (by omega) (by omega)
    go_enter Try.func23, Try.ntmps23
    go_wp2_with fail
    refine (word_PutFault _ _ _ _ _).mono ?_
    rintro e w1 ⟨rfl, hb1⟩
    have hz1 := hb1.size
    (try simp only [World.size_alloc, World.size_setCell, World.size_drew] at hz1)
    have k1_0 := fun o => (bcell hb1).1 (w.heap.size) o (by first | (simp; done) | (simp; omega) | omega)
    have l1_0 : (w.heap.size) < w1.heap.size := (by omega)
    have q1_0 := fun o => (bcell hb1).2 (w.heap.size) o (by first | (simp; done) | (simp; omega) | omega)
    have k1_1 := fun o => (bcell hb1).1 (w.heap.size + 1) o (by first | (simp; done) | (simp; omega) | omega)
    have l1_1 : (w.heap.size + 1) < w1.heap.size := (by omega)
    have q1_1 := fun o => (bcell hb1).2 (w.heap.size + 1) o (by first | (simp; done) | (simp; omega) | omega)
    simp (maxDischargeDepth := 6) [go_sem, *] at k1_0 q1_0 k1_1 q1_1
    have HB1 := Lib.hid hb1
    clear hb1
    by_cases hE : fltE (v % 8) (v / 8 % 8) (v / 64 % 64) = 0 ∧ v < 8192
    · have HE := Lib.hid hE
      obtain ⟨g1, g2⟩ := (rdf_prog HR.out).1 hE
      have g3 := Lib.hid (rdf_bit ⟨h1, hE.2⟩)
      clear hE
      go_wp2
      refine bodyPost_ret (v := .tuple #[.agg #[.int .i64 (v % 8), .int .i64 (v / 8 % 8), .int .i64 (v / 64 % 64), .bool (v / 4096 % 2 == 1)], .int .i64 0]) ?_ rfl ⟨?_, ?_⟩
      · simp (maxDischargeDepth := 8) [results, Try.results23, go_sem, *]
      · rw [g3.out]; exact rdfV_0 (rdfE_0 HR.out HE.out)
      · (repeat (first | (with_reducible exact Below.refl _ _) | (with_reducible refine Below.drew ?_) | ((with_reducible refine Below.setCell ?_ ?_ _); rotate_left; exact (by first | (simp; done) | (simp; omega) | omega)) | ((with_reducible refine Below.alloc ?_ ?_ _); rotate_left; exact (by first | (simp; done) | (simp; omega) | omega)) | ((with_reducible refine Below.trans ?_ (HB1.out.mono ?_)); rotate_left; exact (by first | (simp; done) | (simp; omega) | omega))))
    · have HE := Lib.hid hE
      have g := Lib.hid (fun h => hE ((rdf_prog HR.out).2 h))
      clear hE
      by_cases g1 : fltE (v % 8) (v / 8 % 8) (v / 64 % 64) = 0
      · have g2 : (fltW (v % 8) (v / 8 % 8) (v / 64 % 64) (v / 4096 % 2 == 1) != v) = true := by rw [bne_iff_ne]; exact fun h => g.out ⟨g1, h⟩
        clear g
        go_wp2
        refine bodyPost_ret (v := .tuple #[.agg #[.int .i64 0, .int .i64 0, .int .i64 0, .bool false], .int .i64 3]) ?_ rfl ⟨rdfV_n (rdfE_f HR.out HE.out) (by decide), ?_⟩
        · simp (maxDischargeDepth := 8) [results, Try.results23, go_sem, *]
        · (repeat (first | (with_reducible exact Below.refl _ _) | (with_reducible refine Below.drew ?_) | ((with_reducible refine Below.setCell ?_ ?_ _); rotate_left; exact (by first | (simp; done) | (simp; omega) | omega)) | ((with_reducible refine Below.alloc ?_ ?_ _); rotate_left; exact (by first | (simp; done) | (simp; omega) | omega)) | ((with_reducible refine Below.trans ?_ (HB1.out.mono ?_)); rotate_left; exact (by first | (simp; done) | (simp; omega) | omega))))
      · have g2 : (fltE (v % 8) (v / 8 % 8) (v / 64 % 64) != 0) = true := by simp [g1]
        clear g g1
        go_wp2
        refine bodyPost_ret (v := .tuple #[.agg #[.int .i64 0, .int .i64 0, .int .i64 0, .bool false], .int .i64 3]) ?_ rfl ⟨rdfV_n (rdfE_f HR.out HE.out) (by decide), ?_⟩
        · simp (maxDischargeDepth := 8) [results, Try.results23, go_sem, *]
        · (repeat (first | (with_reducible exact Below.refl _ _) | (with_reducible refine Below.drew ?_) | ((with_reducible refine Below.setCell ?_ ?_ _); rotate_left; exact (by first | (simp; done) | (simp; omega) | omega)) | ((with_reducible refine Below.alloc ?_ ?_ _); rotate_left; exact (by first | (simp; done) | (simp; omega) | omega)) | ((with_reducible refine Below.trans ?_ (HB1.out.mono ?_)); rotate_left; exact (by first | (simp; done) | (simp; omega) | omega))))
  · have HR := Lib.hid hR
    go_enter Try.func23, Try.ntmps23
    go_wp2
    all_goals refine bodyPost_ret (v := .tuple #[.agg #[.int .i64 0, .int .i64 0, .int .i64 0, .bool false], .int .i64 2]) ?_ rfl ⟨rdfV_n (rdfE_r HR.out) (by decide), HB.out _⟩
    all_goals simp [results, Try.results23, go_sem]
end Go.Proofs.Ytbopdijnojaaiaa
