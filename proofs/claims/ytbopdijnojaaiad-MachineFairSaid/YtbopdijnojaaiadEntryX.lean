/- Contexts as words: the walk of the program's ReadContext. No statement of the seat is proved here. -/
import Derived.Test.YtbopdijnojaaiadBits
namespace Go.Proofs.Ytbopdijnojaaiad
open Go.RowKit
set_option linter.unusedSimpArgs false
set_option linter.unusedVariables false

section
theorem enIn_t {v : Int} (h : 0 ≤ v ∧ v ≤ 65535) : enIn v = true := by simp [enIn, h]
theorem enIn_f {v : Int} (h : ¬ (0 ≤ v ∧ v ≤ 65535)) : enIn v = false := by simp only [enIn, Bool.and_eq_false_iff, decide_eq_false_iff_not]; omega

set_option maxRecDepth 100000 in
set_option maxHeartbeats 8000000 in
theorem entry_Read (v : Int) (w : World) : Calls Try.prog 70 #[.int .i64 v] w fun e w' => e = .returned (enV v) ∧ Below w.heap.size w w' := by
  have HB := Lib.hid (below_alloc w)
  by_cases hR : 0 ≤ v ∧ v ≤ 65535
  · have HR := Lib.hid hR
    obtain ⟨h1, h2⟩ := hR
    have e1 := and63 (v / 16) (by omega) (by omega)
    by_cases hb0 : bitI v 0 = true
    · by_cases hbad : enBad v = true
      · have hG := Lib.hid (show enG v = false by unfold enG; rw [hbad]; simp)
        have hK := Lib.hid (show enK v = false by unfold enK; rw [hbad, hb0]; simp)
        by_cases ht : v / 1024 = 0 <;> cases g1 : bitI v 1 <;> cases g2 : bitI v 2 <;> cases g3 : bitI v 3
        all_goals first
          | (exfalso; simp [enBad, g1, g2, g3, ht] at hbad; done)
          | skip
        all_goals
          clear hbad
          have ht' := ht
          clear ht
          go_enter Try.func70, Try.ntmps70
          go_wp2_with (go_at_call 67; refine (entry_bit _ _ (by simp) HR.out _).mono ?_; rintro e w' ⟨rfl, rfl⟩)
          refine bodyPost_ret (v := .tuple #[.agg #[.bool false, .bool false, .bool false, .bool false, .int .i64 0], .bool false]) ?_ rfl ⟨enV_no hG.out false hK.out, ?_⟩
          · simp (maxDischargeDepth := 8) [results, Try.results70, go_sem, *]
          · (repeat (first | (with_reducible exact Below.refl _ _) | (with_reducible refine Below.drew ?_) | (with_reducible refine bdrewN ?_ _) | ((with_reducible refine Below.setCell ?_ ?_ _); rotate_left; exact (by first | (simp; done) | (simp; omega) | omega)) | ((with_reducible refine Below.alloc ?_ ?_ _); rotate_left; exact (by first | (simp; done) | (simp; omega) | omega))))
      · have hbad' : enBad v = false := by simpa using hbad
        have hG := Lib.hid (show enG v = true by unfold enG; rw [hbad', hb0, enIn_t HR.out]; rfl)
        clear hbad
        by_cases ht : v / 1024 = 0 <;> cases g1 : bitI v 1 <;> cases g2 : bitI v 2 <;> cases g3 : bitI v 3
        all_goals first
          | (exfalso; simp [enBad, g1, g2, g3, ht] at hbad'; done)
          | skip
        all_goals
          clear hbad'
          have G1 := Lib.hid g1
          have G2 := Lib.hid g2
          have G3 := Lib.hid g3
          go_enter Try.func70, Try.ntmps70
          go_wp2_with (go_at_call 67; refine (entry_bit _ _ (by simp) HR.out _).mono ?_; rintro e w' ⟨rfl, rfl⟩)
          refine bodyPost_ret (v := .tuple #[.agg #[.bool true, .bool (bitI v 1), .bool (bitI v 2), .bool (bitI v 3), .int .i64 (v / 16 % 64)], .bool true]) ?_ rfl ⟨enV_yes hG.out (enG_K hG.out), ?_⟩
          · rw [G1.out, G2.out, G3.out]; simp (maxDischargeDepth := 8) [results, Try.results70, go_sem, *]
          · (repeat (first | (with_reducible exact Below.refl _ _) | (with_reducible refine Below.drew ?_) | (with_reducible refine bdrewN ?_ _) | ((with_reducible refine Below.setCell ?_ ?_ _); rotate_left; exact (by first | (simp; done) | (simp; omega) | omega)) | ((with_reducible refine Below.alloc ?_ ?_ _); rotate_left; exact (by first | (simp; done) | (simp; omega) | omega))))
    · have hb0' : bitI v 0 = false := by simpa using hb0
      have hG := Lib.hid (show enG v = false by unfold enG; rw [hb0']; simp)
      have hK := Lib.hid (show enK v = true by unfold enK; rw [hb0', enIn_t HR.out]; simp)
      clear hb0
      go_enter Try.func70, Try.ntmps70
      go_wp2_with (go_at_call 67; refine (entry_bit _ _ (by simp) HR.out _).mono ?_; rintro e w' ⟨rfl, rfl⟩)
      refine bodyPost_ret (v := .tuple #[.agg #[.bool false, .bool false, .bool false, .bool false, .int .i64 0], .bool true]) ?_ rfl ⟨enV_no hG.out true hK.out, ?_⟩
      · simp (maxDischargeDepth := 8) [results, Try.results70, go_sem, *]
      · (repeat (first | (with_reducible exact Below.refl _ _) | (with_reducible refine Below.drew ?_) | (with_reducible refine bdrewN ?_ _) | ((with_reducible refine Below.setCell ?_ ?_ _); rotate_left; exact (by first | (simp; done) | (simp; omega) | omega)) | ((with_reducible refine Below.alloc ?_ ?_ _); rotate_left; exact (by first | (simp; done) | (simp; omega) | omega))))
  · have HR := Lib.hid hR
    have hG := Lib.hid (show enG v = false by unfold enG; rw [enIn_f hR]; simp)
    have hK := Lib.hid (show enK v = false by unfold enK; rw [enIn_f hR]; simp)
    go_enter Try.func70, Try.ntmps70
    go_wp2
    all_goals refine bodyPost_ret (v := .tuple #[.agg #[.bool false, .bool false, .bool false, .bool false, .int .i64 0], .bool false]) ?_ rfl ⟨enV_no hG.out false hK.out, HB.out _⟩
    all_goals simp [results, Try.results70, go_sem]
end

section
set_option maxRecDepth 100000 in
set_option maxHeartbeats 8000000 in
theorem entry_ReadContext (v : Int) (w : World) : Calls Try.prog 65 #[.int .i64 v] w fun e w' => e = .returned (cxV v) ∧ Below w.heap.size w w' := by
  have HB := Lib.hid (below_alloc w)
  by_cases hR : 0 ≤ v ∧ v ≤ 65535
  · have HR := Lib.hid hR
    obtain ⟨h1, h2⟩ := hR
    have e1 := and63 (v / 16) (by omega) (by omega)
    by_cases hb0 : bitI v 0 = true
    · by_cases hbad : cxBad v = true
      · have hG := Lib.hid (show cxG v = false by unfold cxG; rw [hbad]; simp)
        have hK := Lib.hid (show cxK v = false by unfold cxK; rw [hbad, hb0]; simp)
        by_cases ht : v / 1024 = 0 <;> by_cases hr : v / 16 % 64 = 0 <;> cases g1 : bitI v 1 <;> cases g2 : bitI v 2 <;> cases g3 : bitI v 3
        all_goals first
          | (exfalso; simp [cxBad, g1, g2, g3, ht, hr] at hbad; done)
          | skip
        all_goals
          clear hbad
          go_enter Try.func65, Try.ntmps65
          go_wp2_with (go_at_call 67; refine (entry_bit _ _ (by simp) HR.out _).mono ?_; rintro e w' ⟨rfl, rfl⟩)
          refine bodyPost_ret (v := .tuple #[.agg #[.bool false, .bool false, .int .i64 0], .bool false]) ?_ rfl ⟨cxV_no hG.out false hK.out, ?_⟩
          · simp (maxDischargeDepth := 8) [results, Try.results65, go_sem, *]
          · (repeat (first | (with_reducible exact Below.refl _ _) | (with_reducible refine Below.drew ?_) | (with_reducible refine bdrewN ?_ _) | ((with_reducible refine Below.setCell ?_ ?_ _); rotate_left; exact (by first | (simp; done) | (simp; omega) | omega)) | ((with_reducible refine Below.alloc ?_ ?_ _); rotate_left; exact (by first | (simp; done) | (simp; omega) | omega))))
      · have hbad' : cxBad v = false := by simpa using hbad
        have hG := Lib.hid (show cxG v = true by unfold cxG; rw [hbad', hb0, enIn_t HR.out]; rfl)
        clear hbad
        by_cases ht : v / 1024 = 0 <;> by_cases hr : v / 16 % 64 = 0 <;> cases g1 : bitI v 1 <;> cases g2 : bitI v 2 <;> cases g3 : bitI v 3
        all_goals first
          | (exfalso; simp [cxBad, g1, g2, g3, ht, hr] at hbad'; done)
          | skip
        all_goals
          clear hbad'
          have G1 := Lib.hid g1
          have hr' := Lib.hid hr
          go_enter Try.func65, Try.ntmps65
          go_wp2_with (go_at_call 67; refine (entry_bit _ _ (by simp) HR.out _).mono ?_; rintro e w' ⟨rfl, rfl⟩)
          refine bodyPost_ret (v := .tuple #[.agg #[.bool true, .bool (bitI v 1), .int .i64 (v / 16 % 64)], .bool true]) ?_ rfl ⟨cxV_yes hG.out (cxG_K hG.out), ?_⟩
          · rw [G1.out]; simp (maxDischargeDepth := 8) [results, Try.results65, go_sem, *]
          · (repeat (first | (with_reducible exact Below.refl _ _) | (with_reducible refine Below.drew ?_) | (with_reducible refine bdrewN ?_ _) | ((with_reducible refine Below.setCell ?_ ?_ _); rotate_left; exact (by first | (simp; done) | (simp; omega) | omega)) | ((with_reducible refine Below.alloc ?_ ?_ _); rotate_left; exact (by first | (simp; done) | (simp; omega) | omega))))
    · have hb0' : bitI v 0 = false := by simpa using hb0
      have hG := Lib.hid (show cxG v = false by unfold cxG; rw [hb0']; simp)
      have hK := Lib.hid (show cxK v = true by unfold cxK; rw [hb0', enIn_t HR.out]; simp)
      clear hb0
      go_enter Try.func65, Try.ntmps65
      go_wp2_with (go_at_call 67; refine (entry_bit _ _ (by simp) HR.out _).mono ?_; rintro e w' ⟨rfl, rfl⟩)
      refine bodyPost_ret (v := .tuple #[.agg #[.bool false, .bool false, .int .i64 0], .bool true]) ?_ rfl ⟨cxV_no hG.out true hK.out, ?_⟩
      · simp (maxDischargeDepth := 8) [results, Try.results65, go_sem, *]
      · (repeat (first | (with_reducible exact Below.refl _ _) | (with_reducible refine Below.drew ?_) | (with_reducible refine bdrewN ?_ _) | ((with_reducible refine Below.setCell ?_ ?_ _); rotate_left; exact (by first | (simp; done) | (simp; omega) | omega)) | ((with_reducible refine Below.alloc ?_ ?_ _); rotate_left; exact (by first | (simp; done) | (simp; omega) | omega))))
  · have HR := Lib.hid hR
    have hG := Lib.hid (show cxG v = false by unfold cxG; rw [enIn_f hR]; simp)
    have hK := Lib.hid (show cxK v = false by unfold cxK; rw [enIn_f hR]; simp)
    go_enter Try.func65, Try.ntmps65
    go_wp2
    all_goals refine bodyPost_ret (v := .tuple #[.agg #[.bool false, .bool false, .int .i64 0], .bool false]) ?_ rfl ⟨cxV_no hG.out false hK.out, HB.out _⟩
    all_goals simp [results, Try.results65, go_sem]
end
end Go.Proofs.Ytbopdijnojaaiad
