/- Orders and faults as words: the walks of ReadOrder and ReadFault. No statement of the seat is proved here. -/
import Derived.Test.YtbopdijnojaaiacWord
namespace Go.Proofs.Ytbopdijnojaaiac
open Go.RowKit
set_option linter.unusedSimpArgs false
set_option linter.unusedVariables false

section
set_option maxRecDepth 100000 in
set_option maxHeartbeats 1000000 in
theorem word_PutOrder (k d p : Int) (w : World) : Calls Try.prog 71 #[.agg #[.int .i64 k, .int .i64 d, .int .i64 p]] w fun e w' => e = .returned (.tuple #[.int .i64 (ordW k d p), .int .i64 (ordE k d p)]) ∧ Below w.heap.size w w' := by
  have HB := Lib.hid (below_alloc w)
  by_cases hR : OrdR k d p
  · have HR := Lib.hid hR
    unfold OrdR at hR
    obtain ⟨h1, h2, h3, h4, h5, h6⟩ := hR
    by_cases hF : OrdF k d p
    · have HF := Lib.hid hF
      have E := ord_bits HR.out hF
      unfold OrdF at hF
      obtain ⟨f1, f2⟩ := hF
      rcases (by omega : k < 2 ∨ k = 2 ∨ k = 3) with hk | rfl | rfl
      · obtain rfl := f1 hk
        obtain rfl := f2 (by omega)
        clear f1 f2
        rw [Int.zero_mul, Int.zero_mul] at E
        have E' := Lib.hid E; clear E
        go_enter Try.func71, Try.ntmps71
        go_wp2
        go_ret2
        exact ⟨ret_int2 E'.out (ordE_0 HR.out HF.out).symm, HB.out _⟩
      · obtain rfl := f2 (by omega)
        clear f1 f2
        rw [Int.zero_mul] at E
        have E' := Lib.hid E; clear E
        go_enter Try.func71, Try.ntmps71
        go_wp2
        go_ret2
        exact ⟨ret_int2 E'.out (ordE_0 HR.out HF.out).symm, HB.out _⟩
      · have E' := Lib.hid E
        clear f1 f2 E
        go_enter Try.func71, Try.ntmps71
        go_wp2
        go_ret2
        exact ⟨ret_int2 E'.out (ordE_0 HR.out HF.out).symm, HB.out _⟩
    · have HF := Lib.hid hF; clear hF
      go_enter Try.func71, Try.ntmps71
      go_wp2
      all_goals go_ret2
      all_goals go_tidy
      all_goals (try simp only [bne_iff_ne, ne_eq, bne_eq_false_iff_eq, beq_iff_eq, beq_eq_false_iff_ne, Bool.and_eq_true, Bool.or_eq_true, Bool.not_eq_true', Bool.not_eq_false', decide_eq_true_eq, decide_eq_false_iff_not] at *)
      all_goals simp only [Array.getD_eq_getD_getElem?, List.getElem?_toArray, List.getElem?_cons_zero, List.getElem?_cons_succ, Option.getD_some]
      all_goals first
        | (with_reducible exact ⟨ret_int2 (ordW_n (ordE_f HR.out HF.out) (by decide)).symm (ordE_f HR.out HF.out).symm, HB.out _⟩)
        | (exfalso; refine HF.out ⟨fun _ => ?_, fun _ => ?_⟩ <;> omega)
  · have HR := Lib.hid hR
    unfold OrdR at hR
    go_enter Try.func71, Try.ntmps71
    go_wp2
    all_goals go_ret2
    all_goals exact ⟨ret_int2 (ordW_n (ordE_r HR.out) (by decide)).symm (ordE_r HR.out).symm, HB.out _⟩

set_option maxRecDepth 100000 in
set_option maxHeartbeats 1000000 in
theorem word_PutFault (c d p : Int) (r : Bool) (w : World) : Calls Try.prog 62 #[.agg #[.int .i64 c, .int .i64 d, .int .i64 p, .bool r]] w fun e w' => e = .returned (.tuple #[.int .i64 (fltW c d p r), .int .i64 (fltE c d p)]) ∧ Below w.heap.size w w' := by
  have HB := Lib.hid (below_alloc w)
  by_cases hR : FltR c d p
  · have HR := Lib.hid hR
    have hb0 := flt_bits0 hR
    have hb1 := flt_bits1 hR
    unfold FltR at hR
    obtain ⟨h1, h2, h3, h4, h5, h6⟩ := hR
    cases r
    · go_enter Try.func62, Try.ntmps62
      go_wp2
      go_ret2
      exact ⟨ret_int2 (fltW_f HR.out) (fltE_0 HR.out).symm, HB.out _⟩
    · go_enter Try.func62, Try.ntmps62
      go_wp2
      go_ret2
      exact ⟨ret_int2 rfl (fltE_0 HR.out).symm, HB.out _⟩
  · have HR := Lib.hid hR
    unfold FltR at hR
    go_enter Try.func62, Try.ntmps62
    go_wp2
    all_goals go_ret2
    all_goals exact ⟨ret_int2 (fltW_n (fltE_r HR.out) (by decide)).symm (fltE_r HR.out).symm, HB.out _⟩
end

section
set_option maxRecDepth 100000 in
set_option maxHeartbeats 1000000 in
theorem word_ReadOrder (v : Int) (w : World) : Calls Try.prog 42 #[.int .i64 v] w fun e w' => e = .returned (rdoV v) ∧ Below w.heap.size w w' := by
  have HB := Lib.hid (below_alloc w)
  by_cases hR : 0 ≤ v ∧ v ≤ 65535
  · have HR := Lib.hid hR
    obtain ⟨h1, h2⟩ := hR
    have e1 := and3 v (by omega) (by omega)
    have e2 := and7 (v / 4) (by omega) (by omega)
    have e3 := and63 (v / 32) (by omega) (by omega)
    go_enter Try.func42, Try.ntmps42
    go_wp2_with fail
    refine (word_PutOrder _ _ _ _).mono ?_
    rintro e w1 ⟨rfl, hb1⟩
    have hz1 := hb1.size
    (try simp only [World.size_alloc, World.size_setCell, World.size_drew] at hz1)
    have k1_0 := fun o => (bcell hb1).1 (w.heap.size) o (by first | (simp; done) | (simp; omega) | omega)
    have l1_0 : (w.heap.size) < w1.heap.size := (by omega)
    have q1_0 := fun o => (bcell hb1).2 (w.heap.size) o (by first | (simp; done) | (simp; omega) | omega)
    have k1_1 := fun o => (bcell hb1).1 (w.heap.size + 1) o (by first | (simp; done) | (simp; omega) | omega)
    have l1_1 : (w.heap.size + 1) < w1.heap.size := (by omega)
    have q1_1 := fun o => (bcell hb1).2 (w.heap.size + 1) o (by first | (simp; done) | (simp; omega) | omega)
    simp (maxDischargeDepth := 6) [go_sem, *] at k1_0 q1_0 k1_1 q1_1
    have HB1 := Lib.hid hb1
    clear hb1
    by_cases hE : ordE (v % 4) (v / 4 % 8) (v / 32) = 0
    · have HE := Lib.hid hE
      obtain ⟨g1, g2⟩ := (rdo_prog HR.out).1 hE
      have g3 := Lib.hid (show v / 32 % 64 = v / 32 from by have := (ordE_inv hE).1; unfold OrdR at this; omega)
      clear hE
      go_wp2
      refine bodyPost_ret (v := .tuple #[.agg #[.int .i64 (v % 4), .int .i64 (v / 4 % 8), .int .i64 (v / 32 % 64)], .int .i64 0]) ?_ rfl ⟨?_, ?_⟩
      · simp (maxDischargeDepth := 8) [results, Try.results42, go_sem, *]
      · rw [g3.out]; exact rdoV_0 (rdoE_0 HR.out HE.out)
      · (repeat (first | (with_reducible exact Below.refl _ _) | (with_reducible refine Below.drew ?_) | (with_reducible refine bdrewN ?_ _) | ((with_reducible refine Below.setCell ?_ ?_ _); rotate_left; exact (by first | (simp; done) | (simp; omega) | omega)) | ((with_reducible refine Below.alloc ?_ ?_ _); rotate_left; exact (by first | (simp; done) | (simp; omega) | omega)) | ((with_reducible refine Below.trans ?_ (HB1.out.mono ?_)); rotate_left; exact (by first | (simp; done) | (simp; omega) | omega))))
    · have HE := Lib.hid hE
      have g := Lib.hid (fun h => hE ((rdo_prog HR.out).2 h))
      clear hE
      by_cases g1 : ordE (v % 4) (v / 4 % 8) (v / 32 % 64) = 0
      · have g2 : (ordW (v % 4) (v / 4 % 8) (v / 32 % 64) != v) = true := by rw [bne_iff_ne]; exact fun h => g.out ⟨g1, h⟩
        clear g
        go_wp2
        refine bodyPost_ret (v := .tuple #[.agg #[.int .i64 0, .int .i64 0, .int .i64 0], .int .i64 3]) ?_ rfl ⟨rdoV_n (rdoE_f HR.out HE.out) (by decide), ?_⟩
        · simp (maxDischargeDepth := 8) [results, Try.results42, go_sem, *]
        · (repeat (first | (with_reducible exact Below.refl _ _) | (with_reducible refine Below.drew ?_) | (with_reducible refine bdrewN ?_ _) | ((with_reducible refine Below.setCell ?_ ?_ _); rotate_left; exact (by first | (simp; done) | (simp; omega) | omega)) | ((with_reducible refine Below.alloc ?_ ?_ _); rotate_left; exact (by first | (simp; done) | (simp; omega) | omega)) | ((with_reducible refine Below.trans ?_ (HB1.out.mono ?_)); rotate_left; exact (by first | (simp; done) | (simp; omega) | omega))))
      · have g2 : (ordE (v % 4) (v / 4 % 8) (v / 32 % 64) != 0) = true := by simp [g1]
        clear g g1
        go_wp2
        refine bodyPost_ret (v := .tuple #[.agg #[.int .i64 0, .int .i64 0, .int .i64 0], .int .i64 3]) ?_ rfl ⟨rdoV_n (rdoE_f HR.out HE.out) (by decide), ?_⟩
        · simp (maxDischargeDepth := 8) [results, Try.results42, go_sem, *]
        · (repeat (first | (with_reducible exact Below.refl _ _) | (with_reducible refine Below.drew ?_) | (with_reducible refine bdrewN ?_ _) | ((with_reducible refine Below.setCell ?_ ?_ _); rotate_left; exact (by first | (simp; done) | (simp; omega) | omega)) | ((with_reducible refine Below.alloc ?_ ?_ _); rotate_left; exact (by first | (simp; done) | (simp; omega) | omega)) | ((with_reducible refine Below.trans ?_ (HB1.out.mono ?_)); rotate_left; exact (by first | (simp; done) | (simp; omega) | omega))))
  · have HR := Lib.hid hR
    go_enter Try.func42, Try.ntmps42
    go_wp2
    all_goals refine bodyPost_ret (v := .tuple #[.agg #[.int .i64 0, .int .i64 0, .int .i64 0], .int .i64 2]) ?_ rfl ⟨rdoV_n (rdoE_r HR.out) (by decide), HB.out _⟩
    all_goals simp [results, Try.results42, go_sem]

set_option maxRecDepth 100000 in
set_option maxHeartbeats 1000000 in
theorem word_ReadFault (v : Int) (w : World) : Calls Try.prog 29 #[.int .i64 v] w fun e w' => e = .returned (rdfV v) ∧ Below w.heap.size w w' := by
  have HB := Lib.hid (below_alloc w)
  by_cases hR : 0 ≤ v ∧ v ≤ 65535
  · have HR := Lib.hid hR
    obtain ⟨h1, h2⟩ := hR
    have e1 := and7 v (by omega) (by omega)
    have e2 := and7 (v / 8) (by omega) (by omega)
    have e3 := and63 (v / 64) (by omega) (by omega)
    have e4 := and1 (v / 4096) (by omega) (by omega)
    go_enter Try.func29, Try.ntmps29
    go_wp2_with fail
    refine (word_PutFault _ _ _ _ _).mono ?_
    rintro e w1 ⟨rfl, hb1⟩
    have hz1 := hb1.size
    (try simp only [World.size_alloc, World.size_setCell, World.size_drew] at hz1)
    have k1_0 := fun o => (bcell hb1).1 (w.heap.size) o (by first | (simp; done) | (simp; omega) | omega)
    have l1_0 : (w.heap.size) < w1.heap.size := (by omega)
    have q1_0 := fun o => (bcell hb1).2 (w.heap.size) o (by first | (simp; done) | (simp; omega) | omega)
    have k1_1 := fun o => (bcell hb1).1 (w.heap.size + 1) o (by first | (simp; done) | (simp; omega) | omega)
    have l1_1 : (w.heap.size + 1) < w1.heap.size := (by omega)
    have q1_1 := fun o => (bcell hb1).2 (w.heap.size + 1) o (by first | (simp; done) | (simp; omega) | omega)
    simp (maxDischargeDepth := 6) [go_sem, *] at k1_0 q1_0 k1_1 q1_1
    have HB1 := Lib.hid hb1
    clear hb1
    by_cases hE : fltE (v % 8) (v / 8 % 8) (v / 64 % 64) = 0 ∧ v < 8192
    · have HE := Lib.hid hE
      obtain ⟨g1, g2⟩ := (rdf_prog HR.out).1 hE
      have g3 := Lib.hid (rdf_bit ⟨h1, hE.2⟩)
      clear hE
      go_wp2
      refine bodyPost_ret (v := .tuple #[.agg #[.int .i64 (v % 8), .int .i64 (v / 8 % 8), .int .i64 (v / 64 % 64), .bool (v / 4096 % 2 == 1)], .int .i64 0]) ?_ rfl ⟨?_, ?_⟩
      · simp (maxDischargeDepth := 8) [results, Try.results29, go_sem, *]
      · rw [g3.out]; exact rdfV_0 (rdfE_0 HR.out HE.out)
      · (repeat (first | (with_reducible exact Below.refl _ _) | (with_reducible refine Below.drew ?_) | (with_reducible refine bdrewN ?_ _) | ((with_reducible refine Below.setCell ?_ ?_ _); rotate_left; exact (by first | (simp; done) | (simp; omega) | omega)) | ((with_reducible refine Below.alloc ?_ ?_ _); rotate_left; exact (by first | (simp; done) | (simp; omega) | omega)) | ((with_reducible refine Below.trans ?_ (HB1.out.mono ?_)); rotate_left; exact (by first | (simp; done) | (simp; omega) | omega))))
    · have HE := Lib.hid hE
      have g := Lib.hid (fun h => hE ((rdf_prog HR.out).2 h))
      clear hE
      by_cases g1 : fltE (v % 8) (v / 8 % 8) (v / 64 % 64) = 0
      · have g2 : (fltW (v % 8) (v / 8 % 8) (v / 64 % 64) (v / 4096 % 2 == 1) != v) = true := by rw [bne_iff_ne]; exact fun h => g.out ⟨g1, h⟩
        clear g
        go_wp2
        refine bodyPost_ret (v := .tuple #[.agg #[.int .i64 0, .int .i64 0, .int .i64 0, .bool false], .int .i64 3]) ?_ rfl ⟨rdfV_n (rdfE_f HR.out HE.out) (by decide), ?_⟩
        · simp (maxDischargeDepth := 8) [results, Try.results29, go_sem, *]
        · (repeat (first | (with_reducible exact Below.refl _ _) | (with_reducible refine Below.drew ?_) | (with_reducible refine bdrewN ?_ _) | ((with_reducible refine Below.setCell ?_ ?_ _); rotate_left; exact (by first | (simp; done) | (simp; omega) | omega)) | ((with_reducible refine Below.alloc ?_ ?_ _); rotate_left; exact (by first | (simp; done) | (simp; omega) | omega)) | ((with_reducible refine Below.trans ?_ (HB1.out.mono ?_)); rotate_left; exact (by first | (simp; done) | (simp; omega) | omega))))
      · have g2 : (fltE (v % 8) (v / 8 % 8) (v / 64 % 64) != 0) = true := by simp [g1]
        clear g g1
        go_wp2
        refine bodyPost_ret (v := .tuple #[.agg #[.int .i64 0, .int .i64 0, .int .i64 0, .bool false], .int .i64 3]) ?_ rfl ⟨rdfV_n (rdfE_f HR.out HE.out) (by decide), ?_⟩
        · simp (maxDischargeDepth := 8) [results, Try.results29, go_sem, *]
        · (repeat (first | (with_reducible exact Below.refl _ _) | (with_reducible refine Below.drew ?_) | (with_reducible refine bdrewN ?_ _) | ((with_reducible refine Below.setCell ?_ ?_ _); rotate_left; exact (by first | (simp; done) | (simp; omega) | omega)) | ((with_reducible refine Below.alloc ?_ ?_ _); rotate_left; exact (by first | (simp; done) | (simp; omega) | omega)) | ((with_reducible refine Below.trans ?_ (HB1.out.mono ?_)); rotate_left; exact (by first | (simp; done) | (simp; omega) | omega))))
  · have HR := Lib.hid hR
    go_enter Try.func29, Try.ntmps29
    go_wp2
    all_goals refine bodyPost_ret (v := .tuple #[.agg #[.int .i64 0, .int .i64 0, .int .i64 0, .bool false], .int .i64 2]) ?_ rfl ⟨rdfV_n (rdfE_r HR.out) (by decide), HB.out _⟩
    all_goals simp [results, Try.results29, go_sem]
end
end Go.Proofs.Ytbopdijnojaaiac
