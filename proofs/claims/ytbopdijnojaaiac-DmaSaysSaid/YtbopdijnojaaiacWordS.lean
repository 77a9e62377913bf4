/- Orders and faults as words: the walks of the document's OrderOf and FaultOf. No statement of the seat is proved here. -/
import Derived.Test.YtbopdijnojaaiacWord
namespace Go.Proofs.Ytbopdijnojaaiac
open Go.RowKit
set_option linter.unusedSimpArgs false
set_option linter.unusedVariables false

section
theorem ordBad {k d p : Int} (h : ¬ OrdR k d p) : inB k 0 3 = false ∨ (inB k 0 3 = true ∧ inB d 0 7 = false) ∨ (inB k 0 3 = true ∧ inB d 0 7 = true ∧ inB p 0 63 = false) := by
  unfold OrdR at h; unfold inB
  simp only [Bool.and_eq_true, Bool.and_eq_false_iff, decide_eq_true_eq, decide_eq_false_iff_not]
  omega
theorem fltBad {k d p : Int} (h : ¬ FltR k d p) : inB k 1 5 = false ∨ (inB k 1 5 = true ∧ inB d 0 7 = false) ∨ (inB k 1 5 = true ∧ inB d 0 7 = true ∧ inB p 0 63 = false) := by
  unfold FltR at h; unfold inB
  simp only [Bool.and_eq_true, Bool.and_eq_false_iff, decide_eq_true_eq, decide_eq_false_iff_not]
  omega

set_option maxRecDepth 100000 in
set_option maxHeartbeats 1000000 in
theorem ref_OrderWord (k d p : Int) (w : World) : Calls Try.prog 101 #[.agg #[.int .i64 k, .int .i64 d, .int .i64 p]] w fun e w' => e = .returned (.tuple #[.int .i64 (ordW k d p), .int .i64 (ordE k d p)]) ∧ Below w.heap.size w w' := by
  have HB := Lib.hid (below_alloc w)
  by_cases hR : OrdR k d p
  · have HR := Lib.hid hR
    unfold OrdR at hR
    obtain ⟨h1, h2, h3, h4, h5, h6⟩ := hR
    have i1 := inB_t (n := k) (a := 0) (b := 3) (by omega)
    have i2 := inB_t (n := d) (a := 0) (b := 7) (by omega)
    have i3 := inB_t (n := p) (a := 0) (b := 63) (by omega)
    by_cases hF : OrdF k d p
    · have HF := Lib.hid hF
      have E := (ordW_0 (ordE_0 HR.out hF)).symm
      clear hF
      have E' := Lib.hid E; clear E
      go_enter Try.func101, Try.ntmps101
      go_wp2_with (go_at_call 56; refine (ref_in _ _ _ _).mono ?_; rintro e w' ⟨rfl, rfl⟩)
      all_goals go_ret2
      all_goals go_tidy
      all_goals simp only [Array.getD_eq_getD_getElem?, List.getElem?_toArray, List.getElem?_cons_zero, List.getElem?_cons_succ, Option.getD_some]
      all_goals first
        | (with_reducible exact ⟨ret_int2 ((by omega : _ = k + 4 * d + 32 * p).trans E'.out) (ordE_0 HR.out HF.out).symm, HB.out _⟩)
        | (exfalso; have F := HF.out; unfold OrdF at F; omega)
    · have HF := Lib.hid hF; clear hF
      go_enter Try.func101, Try.ntmps101
      go_wp2_with (go_at_call 56; refine (ref_in _ _ _ _).mono ?_; rintro e w' ⟨rfl, rfl⟩)
      all_goals go_ret2
      all_goals go_tidy
      all_goals simp only [Array.getD_eq_getD_getElem?, List.getElem?_toArray, List.getElem?_cons_zero, List.getElem?_cons_succ, Option.getD_some]
      all_goals first
        | (with_reducible exact ⟨ret_int2 (ordW_n (ordE_f HR.out HF.out) (by decide)).symm (ordE_f HR.out HF.out).symm, HB.out _⟩)
        | (exfalso; refine HF.out ⟨fun _ => ?_, fun _ => ?_⟩ <;> omega)
  · have HR := Lib.hid hR
    have hb := ordBad hR
    clear hR
    rcases hb with h1 | ⟨h1, h2⟩ | ⟨h1, h2, h3⟩
    all_goals
      go_enter Try.func101, Try.ntmps101
      go_wp2_with (go_at_call 56; refine (ref_in _ _ _ _).mono ?_; rintro e w' ⟨rfl, rfl⟩)
      go_ret2
      exact ⟨ret_int2 (ordW_n (ordE_r HR.out) (by decide)).symm (ordE_r HR.out).symm, HB.out _⟩

set_option maxRecDepth 100000 in
set_option maxHeartbeats 1000000 in
theorem ref_FaultWord (c d p : Int) (r : Bool) (w : World) : Calls Try.prog 75 #[.agg #[.int .i64 c, .int .i64 d, .int .i64 p, .bool r]] w fun e w' => e = .returned (.tuple #[.int .i64 (fltW c d p r), .int .i64 (fltE c d p)]) ∧ Below w.heap.size w w' := by
  have HB := Lib.hid (below_alloc w)
  by_cases hR : FltR c d p
  · have HR := Lib.hid hR
    unfold FltR at hR
    obtain ⟨h1, h2, h3, h4, h5, h6⟩ := hR
    have i1 := inB_t (n := c) (a := 1) (b := 5) (by omega)
    have i2 := inB_t (n := d) (a := 0) (b := 7) (by omega)
    have i3 := inB_t (n := p) (a := 0) (b := 63) (by omega)
    cases r
    · have E := Lib.hid (fltW_0 (r := false) (fltE_0 HR.out))
      go_enter Try.func75, Try.ntmps75
      go_wp2_with (go_at_call 56; refine (ref_in _ _ _ _).mono ?_; rintro e w' ⟨rfl, rfl⟩)
      go_ret2
      exact ⟨ret_int2 (by rw [E.out]; simp; try omega) (fltE_0 HR.out).symm, HB.out _⟩
    · have E := Lib.hid (fltW_0 (r := true) (fltE_0 HR.out))
      go_enter Try.func75, Try.ntmps75
      go_wp2_with (go_at_call 56; refine (ref_in _ _ _ _).mono ?_; rintro e w' ⟨rfl, rfl⟩)
      go_ret2
      exact ⟨ret_int2 (by rw [E.out]; simp; try omega) (fltE_0 HR.out).symm, HB.out _⟩
  · have HR := Lib.hid hR
    have hb := fltBad hR
    clear hR
    rcases hb with h1 | ⟨h1, h2⟩ | ⟨h1, h2, h3⟩
    all_goals
      go_enter Try.func75, Try.ntmps75
      go_wp2_with (go_at_call 56; refine (ref_in _ _ _ _).mono ?_; rintro e w' ⟨rfl, rfl⟩)
      go_ret2
      exact ⟨ret_int2 (fltW_n (fltE_r HR.out) (by decide)).symm (fltE_r HR.out).symm, HB.out _⟩
end

section
set_option maxRecDepth 100000 in
set_option maxHeartbeats 1000000 in
theorem ref_OrderOf (v : Int) (w : World) : Calls Try.prog 78 #[.int .i64 v] w fun e w' => e = .returned (rdoV v) ∧ Below w.heap.size w w' := by
  have HB := Lib.hid (below_alloc w)
  by_cases hR : 0 ≤ v ∧ v ≤ 65535
  · have HR := Lib.hid hR
    have hin := inB_t hR
    obtain ⟨h1, h2⟩ := hR
    go_enter Try.func78, Try.ntmps78
    go_wp2_with (go_at_call 56; refine (ref_in _ _ _ _).mono ?_; rintro e w' ⟨rfl, rfl⟩)
    refine (ref_OrderWord _ _ _ _).mono ?_
    rintro e w1 ⟨rfl, hb1⟩
    have hz1 := hb1.size
    (try simp only [World.size_alloc, World.size_setCell, World.size_drew] at hz1)
    have k1_0 := fun o => (bcell hb1).1 (w.heap.size) o (by first | (simp; done) | (simp; omega) | omega)
    have l1_0 : (w.heap.size) < w1.heap.size := (by omega)
    have q1_0 := fun o => (bcell hb1).2 (w.heap.size) o (by first | (simp; done) | (simp; omega) | omega)
    have k1_1 := fun o => (bcell hb1).1 (w.heap.size + 1) o (by first | (simp; done) | (simp; omega) | omega)
    have l1_1 : (w.heap.size + 1) < w1.heap.size := (by omega)
    have q1_1 := fun o => (bcell hb1).2 (w.heap.size + 1) o (by first | (simp; done) | (simp; omega) | omega)
    simp (maxDischargeDepth := 6) [go_sem, *] at k1_0 q1_0 k1_1 q1_1
    have HB1 := Lib.hid hb1
    clear hb1
    by_cases hE : ordE (v % 4) (v / 4 % 8) (v / 32) = 0
    · have HE := Lib.hid hE
      have g1 : (ordE (v % 4) (v / 4 % 8) (v / 32) != 0) = false := by simp [hE]
      clear hE
      go_wp2
      refine bodyPost_ret (v := .tuple #[.agg #[.int .i64 (v % 4), .int .i64 (v / 4 % 8), .int .i64 (v / 32)], .int .i64 0]) ?_ rfl ⟨rdoV_0 (rdoE_0 HR.out HE.out), ?_⟩
      · simp (maxDischargeDepth := 8) [results, Try.results78, go_sem, *]
      · (repeat (first | (with_reducible exact Below.refl _ _) | (with_reducible refine Below.drew ?_) | (with_reducible refine bdrewN ?_ _) | ((with_reducible refine Below.setCell ?_ ?_ _); rotate_left; exact (by first | (simp; done) | (simp; omega) | omega)) | ((with_reducible refine Below.alloc ?_ ?_ _); rotate_left; exact (by first | (simp; done) | (simp; omega) | omega)) | ((with_reducible refine Below.trans ?_ (HB1.out.mono ?_)); rotate_left; exact (by first | (simp; done) | (simp; omega) | omega))))
    · have HE := Lib.hid hE
      have g2 : (ordE (v % 4) (v / 4 % 8) (v / 32) != 0) = true := by simp [hE]
      clear hE
      go_wp2
      refine bodyPost_ret (v := .tuple #[.agg #[.int .i64 0, .int .i64 0, .int .i64 0], .int .i64 3]) ?_ rfl ⟨rdoV_n (rdoE_f HR.out HE.out) (by decide), ?_⟩
      · simp (maxDischargeDepth := 8) [results, Try.results78, go_sem, *]
      · (repeat (first | (with_reducible exact Below.refl _ _) | (with_reducible refine Below.drew ?_) | (with_reducible refine bdrewN ?_ _) | ((with_reducible refine Below.setCell ?_ ?_ _); rotate_left; exact (by first | (simp; done) | (simp; omega) | omega)) | ((with_reducible refine Below.alloc ?_ ?_ _); rotate_left; exact (by first | (simp; done) | (simp; omega) | omega)) | ((with_reducible refine Below.trans ?_ (HB1.out.mono ?_)); rotate_left; exact (by first | (simp; done) | (simp; omega) | omega))))
  · have HR := Lib.hid hR
    have hin := inB_f hR
    clear hR
    go_enter Try.func78, Try.ntmps78
    go_wp2_with (go_at_call 56; refine (ref_in _ _ _ _).mono ?_; rintro e w' ⟨rfl, rfl⟩)
    all_goals refine bodyPost_ret (v := .tuple #[.agg #[.int .i64 0, .int .i64 0, .int .i64 0], .int .i64 2]) ?_ rfl ⟨rdoV_n (rdoE_r HR.out) (by decide), HB.out _⟩
    all_goals simp [results, Try.results78, go_sem]

end
end Go.Proofs.Ytbopdijnojaaiac
