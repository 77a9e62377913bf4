/- Contexts as words: the walk of the program's ReadContext. No statement of the seat is proved here. -/
import Derived.Test.YtbopdijnojaaiaaGreatZz
import Derived.Test.YtbopdijnojaaiaaGreatBits
namespace Go.Proofs.YtbopdijnojaaiaaGreat
set_option maxRecDepth 100000
set_option maxHeartbeats 8000000
open Go.RowKit
set_option linter.unusedSimpArgs false
set_option linter.unusedVariables false
section
theorem Xhq {v : Int} (h : 0 ≤ v ∧ v ≤ 65535) : enIn v = true := by simp [enIn, h]
theorem Xhr {v : Int} (h : ¬ (0 ≤ v ∧ v ≤ 65535)) : enIn v = false := by simp only [enIn, Bool.and_eq_false_iff, decide_eq_false_iff_not]; omega
theorem Xhd (v : Int) (w : World) : Calls Tryz.prog 104 #[.int .i64 v] w fun e w' => e = .returned (enV v) ∧ Below w.heap.size w w' := by
 refine z151 ?_; intro HB
 by_cases hR : 0 ≤ v ∧ v ≤ 65535
 · have HR := Zh hR
   obtain ⟨h1, h2⟩ := hR
   have e1 := Xv5 (v / 16) (by omega) (by omega)
   by_cases hb0 : bitI v 0 = true
   · by_cases hbad : Xi0 v = true
     · have hG := Zh (show enG v = false by unfold enG; rw [hbad]; simp)
       have hK := Zh (show enK v = false by unfold enK; rw [hbad, hb0]; simp)
       by_cases ht : v / 1024 = 0 <;> cases g1 : bitI v 1 <;> cases g2 : bitI v 2 <;> cases g3 : bitI v 3
       all_goals first
         | (exfalso; simp [Xi0, g1, g2, g3, ht] at hbad; done)
         | skip
       all_goals
         clear hbad
         have ht' := ht
         clear ht
         go_enter Tryz.func104, Tryz.ntmps104
         go_wp2_with (go_at_call 101; refine (Xer _ _ (by simp) HR.out _).mono ?_; rintro e w' ⟨rfl, rfl⟩)
         refine bodyPost_ret (v := .tuple #[.agg #[.bool false, .bool false, .bool false, .bool false, .int .i64 0], .bool false]) ?_ rfl ⟨Xjy hG.out false hK.out, ?_⟩
         · simp (maxDischargeDepth := 8) [results, Tryz.results104, go_sem, *]
         · (repeat (first | (with_reducible exact Below.refl _ _) | (with_reducible refine Below.drew ?_) | (with_reducible refine Xaj ?_ _) | ((with_reducible refine Below.setCell ?_ ?_ _); rotate_left; exact y0) | ((with_reducible refine Below.alloc ?_ ?_ _); rotate_left; exact y0)))
     · have hbad' : Xi0 v = false := by simpa using hbad
       have hG := Zh (show enG v = true by unfold enG; rw [hbad', hb0, Xhq HR.out]; rfl)
       clear hbad
       by_cases ht : v / 1024 = 0 <;> cases g1 : bitI v 1 <;> cases g2 : bitI v 2 <;> cases g3 : bitI v 3
       all_goals first
         | (exfalso; simp [Xi0, g1, g2, g3, ht] at hbad'; done)
         | skip
       all_goals
         clear hbad'
         have G1 := Zh g1
         have G2 := Zh g2
         have G3 := Zh g3
         go_enter Tryz.func104, Tryz.ntmps104
         go_wp2_with (go_at_call 101; refine (Xer _ _ (by simp) HR.out _).mono ?_; rintro e w' ⟨rfl, rfl⟩)
         refine bodyPost_ret (v := .tuple #[.agg #[.bool true, .bool (bitI v 1), .bool (bitI v 2), .bool (bitI v 3), .int .i64 (v / 16 % 64)], .bool true]) ?_ rfl ⟨Xtl hG.out (Xvs hG.out), ?_⟩
         · rw [G1.out, G2.out, G3.out]; simp (maxDischargeDepth := 8) [results, Tryz.results104, go_sem, *]
         · (repeat (first | (with_reducible exact Below.refl _ _) | (with_reducible refine Below.drew ?_) | (with_reducible refine Xaj ?_ _) | ((with_reducible refine Below.setCell ?_ ?_ _); rotate_left; exact y0) | ((with_reducible refine Below.alloc ?_ ?_ _); rotate_left; exact y0)))
   · have hb0' : bitI v 0 = false := by simpa using hb0
     have hG := Zh (show enG v = false by unfold enG; rw [hb0']; simp)
     have hK := Zh (show enK v = true by unfold enK; rw [hb0', Xhq HR.out]; simp)
     clear hb0
     go_enter Tryz.func104, Tryz.ntmps104
     go_wp2_with (go_at_call 101; refine (Xer _ _ (by simp) HR.out _).mono ?_; rintro e w' ⟨rfl, rfl⟩)
     refine bodyPost_ret (v := .tuple #[.agg #[.bool false, .bool false, .bool false, .bool false, .int .i64 0], .bool true]) ?_ rfl ⟨Xjy hG.out true hK.out, ?_⟩
     · simp (maxDischargeDepth := 8) [results, Tryz.results104, go_sem, *]
     · exact z38
 · have HR := Zh hR
   have hG := Zh (show enG v = false by unfold enG; rw [Xhr hR]; simp)
   have hK := Zh (show enK v = false by unfold enK; rw [Xhr hR]; simp)
   go_enter Tryz.func104, Tryz.ntmps104
   go_wp2
   all_goals refine bodyPost_ret (v := .tuple #[.agg #[.bool false, .bool false, .bool false, .bool false, .int .i64 0], .bool false]) ?_ rfl ⟨Xjy hG.out false hK.out, HB.out _⟩
   all_goals simp [results, Tryz.results104, go_sem]
end
section
theorem Xdm (v : Int) (w : World) : Calls Tryz.prog 99 #[.int .i64 v] w fun e w' => e = .returned (cxV v) ∧ Below w.heap.size w w' := by
 refine z151 ?_; intro HB
 by_cases hR : 0 ≤ v ∧ v ≤ 65535
 · have HR := Zh hR
   obtain ⟨h1, h2⟩ := hR
   have e1 := Xv5 (v / 16) (by omega) (by omega)
   by_cases hb0 : bitI v 0 = true
   · by_cases hbad : Xi5 v = true
     · have hG := Zh (show cxG v = false by unfold cxG; rw [hbad]; simp)
       have hK := Zh (show cxK v = false by unfold cxK; rw [hbad, hb0]; simp)
       by_cases ht : v / 1024 = 0 <;> by_cases hr : v / 16 % 64 = 0 <;> cases g1 : bitI v 1 <;> cases g2 : bitI v 2 <;> cases g3 : bitI v 3
       all_goals first
         | (exfalso; simp [Xi5, g1, g2, g3, ht, hr] at hbad; done)
         | skip
       all_goals
         clear hbad
         go_enter Tryz.func99, Tryz.ntmps99
         go_wp2_with (go_at_call 101; refine (Xer _ _ (by simp) HR.out _).mono ?_; rintro e w' ⟨rfl, rfl⟩)
         refine bodyPost_ret (v := .tuple #[.agg #[.bool false, .bool false, .int .i64 0], .bool false]) ?_ rfl ⟨Xi4 hG.out false hK.out, ?_⟩
         · simp (maxDischargeDepth := 8) [results, Tryz.results99, go_sem, *]
         · (repeat (first | (with_reducible exact Below.refl _ _) | (with_reducible refine Below.drew ?_) | (with_reducible refine Xaj ?_ _) | ((with_reducible refine Below.setCell ?_ ?_ _); rotate_left; exact y0) | ((with_reducible refine Below.alloc ?_ ?_ _); rotate_left; exact y0)))
     · have hbad' : Xi5 v = false := by simpa using hbad
       have hG := Zh (show cxG v = true by unfold cxG; rw [hbad', hb0, Xhq HR.out]; rfl)
       clear hbad
       by_cases ht : v / 1024 = 0 <;> by_cases hr : v / 16 % 64 = 0 <;> cases g1 : bitI v 1 <;> cases g2 : bitI v 2 <;> cases g3 : bitI v 3
       all_goals first
         | (exfalso; simp [Xi5, g1, g2, g3, ht, hr] at hbad'; done)
         | skip
       all_goals
         clear hbad'
         have G1 := Zh g1
         have hr' := Zh hr
         go_enter Tryz.func99, Tryz.ntmps99
         go_wp2_with (go_at_call 101; refine (Xer _ _ (by simp) HR.out _).mono ?_; rintro e w' ⟨rfl, rfl⟩)
         refine bodyPost_ret (v := .tuple #[.agg #[.bool true, .bool (bitI v 1), .int .i64 (v / 16 % 64)], .bool true]) ?_ rfl ⟨Xtt hG.out (Xnt hG.out), ?_⟩
         · rw [G1.out]; simp (maxDischargeDepth := 8) [results, Tryz.results99, go_sem, *]
         · (repeat (first | (with_reducible exact Below.refl _ _) | (with_reducible refine Below.drew ?_) | (with_reducible refine Xaj ?_ _) | ((with_reducible refine Below.setCell ?_ ?_ _); rotate_left; exact y0) | ((with_reducible refine Below.alloc ?_ ?_ _); rotate_left; exact y0)))
   · have hb0' : bitI v 0 = false := by simpa using hb0
     have hG := Zh (show cxG v = false by unfold cxG; rw [hb0']; simp)
     have hK := Zh (show cxK v = true by unfold cxK; rw [hb0', Xhq HR.out]; simp)
     clear hb0
     go_enter Tryz.func99, Tryz.ntmps99
     go_wp2_with (go_at_call 101; refine (Xer _ _ (by simp) HR.out _).mono ?_; rintro e w' ⟨rfl, rfl⟩)
     refine bodyPost_ret (v := .tuple #[.agg #[.bool false, .bool false, .int .i64 0], .bool true]) ?_ rfl ⟨Xi4 hG.out true hK.out, ?_⟩
     · simp (maxDischargeDepth := 8) [results, Tryz.results99, go_sem, *]
     · exact z38
 · have HR := Zh hR
   have hG := Zh (show cxG v = false by unfold cxG; rw [Xhr hR]; simp)
   have hK := Zh (show cxK v = false by unfold cxK; rw [Xhr hR]; simp)
   go_enter Tryz.func99, Tryz.ntmps99
   go_wp2
   all_goals refine bodyPost_ret (v := .tuple #[.agg #[.bool false, .bool false, .int .i64 0], .bool false]) ?_ rfl ⟨Xi4 hG.out false hK.out, HB.out _⟩
   all_goals simp [results, Tryz.results99, go_sem]
end
end Go.Proofs.YtbopdijnojaaiaaGreat
