/- Entries and contexts as words: the walk of the law EntrySays. Its row: the text RowEntrySays. -/
import Derived.Test.YtbopdijnojaaiaaEntryG
import Derived.Test.YtbopdijnojaaiaaEntryH
import Derived.Test.YtbopdijnojaaiaaLawEntryB
namespace Go.Proofs.Ytbopdijnojaaiaa
open Go.RowKit
set_option linter.unusedSimpArgs false
set_option linter.unusedVariables false

set_option maxRecDepth 100000 in
set_option maxHeartbeats 4000000 in
theorem law_EntrySays (x : Int) (v r u l : Bool) (p : Int) (cv cs : Bool) (cr : Int) (w : World) : Calls Try.prog 8 #[.int .i64 x, .agg #[.bool v, .bool r, .bool u, .bool l, .int .i64 p], .agg #[.bool cv, .bool cs, .int .i64 cr]] w fun e w' => e = .returned (.bool true) ∧ Below w.heap.size w w' := by
  go_enter Try.func8, Try.ntmps8
  go_wp2_with fail
  refine (entry_Read x _).mono ?_
  rw [enV_eq]
  rintro e w1 ⟨rfl, hb1⟩
  have hz1 := hb1.size
  (try simp only [World.size_alloc, World.size_setCell, World.size_drew] at hz1)
  have k1_0 := fun o => (bcell hb1).1 (w.heap.size) o (by first | (simp; done) | (simp; omega) | omega)
  have l1_0 : (w.heap.size) < w1.heap.size := (by omega)
  have q1_0 := fun o => (bcell hb1).2 (w.heap.size) o (by first | (simp; done) | (simp; omega) | omega)
  have k1_1 := fun o => (bcell hb1).1 (w.heap.size + 1) o (by first | (simp; done) | (simp; omega) | omega)
  have l1_1 : (w.heap.size + 1) < w1.heap.size := (by omega)
  have q1_1 := fun o => (bcell hb1).2 (w.heap.size + 1) o (by first | (simp; done) | (simp; omega) | omega)
  simp (maxDischargeDepth := 6) [go_sem, *] at k1_0 q1_0 k1_1 q1_1
  have HB1 := Lib.hid hb1
  clear hb1
  go_wp2_with fail
  refine (ref_EntryOf x _).mono ?_
  rw [enV_eq]
  rintro e w2 ⟨rfl, hb2⟩
  have hz2 := hb2.size
  (try simp only [World.size_alloc, World.size_setCell, World.size_drew] at hz2)
  have k2_0 := fun o => (bcell hb2).1 (w.heap.size) o (by first | (simp; done) | (simp; omega) | omega)
  have l2_0 : (w.heap.size) < w2.heap.size := (by omega)
  have q2_0 := fun o => (bcell hb2).2 (w.heap.size) o (by first | (simp; done) | (simp; omega) | omega)
  have k2_1 := fun o => (bcell hb2).1 (w.heap.size + 1) o (by first | (simp; done) | (simp; omega) | omega)
  have l2_1 : (w.heap.size + 1) < w2.heap.size := (by omega)
  have q2_1 := fun o => (bcell hb2).2 (w.heap.size + 1) o (by first | (simp; done) | (simp; omega) | omega)
  have k2_2 := fun o => (bcell hb2).1 (w1.heap.size) o (by first | (simp; done) | (simp; omega) | omega)
  have l2_2 : (w1.heap.size) < w2.heap.size := (by omega)
  have q2_2 := fun o => (bcell hb2).2 (w1.heap.size) o (by first | (simp; done) | (simp; omega) | omega)
  simp (maxDischargeDepth := 6) [go_sem, *] at k2_0 q2_0 k2_1 q2_1 k2_2 q2_2
  have HB2 := Lib.hid hb2
  clear hb2
  go_wp2_with fail
  refine (entry_ReadContext x _).mono ?_
  rw [cxV_eq]
  rintro e w3 ⟨rfl, hb3⟩
  have hz3 := hb3.size
  (try simp only [World.size_alloc, World.size_setCell, World.size_drew] at hz3)
  have k3_0 := fun o => (bcell hb3).1 (w.heap.size) o (by first | (simp; done) | (simp; omega) | omega)
  have l3_0 : (w.heap.size) < w3.heap.size := (by omega)
  have q3_0 := fun o => (bcell hb3).2 (w.heap.size) o (by first | (simp; done) | (simp; omega) | omega)
  have k3_1 := fun o => (bcell hb3).1 (w.heap.size + 1) o (by first | (simp; done) | (simp; omega) | omega)
  have l3_1 : (w.heap.size + 1) < w3.heap.size := (by omega)
  have q3_1 := fun o => (bcell hb3).2 (w.heap.size + 1) o (by first | (simp; done) | (simp; omega) | omega)
  have k3_2 := fun o => (bcell hb3).1 (w1.heap.size) o (by first | (simp; done) | (simp; omega) | omega)
  have l3_2 : (w1.heap.size) < w3.heap.size := (by omega)
  have q3_2 := fun o => (bcell hb3).2 (w1.heap.size) o (by first | (simp; done) | (simp; omega) | omega)
  have k3_3 := fun o => (bcell hb3).1 (w2.heap.size) o (by first | (simp; done) | (simp; omega) | omega)
  have l3_3 : (w2.heap.size) < w3.heap.size := (by omega)
  have q3_3 := fun o => (bcell hb3).2 (w2.heap.size) o (by first | (simp; done) | (simp; omega) | omega)
  simp (maxDischargeDepth := 6) [go_sem, *] at k3_0 q3_0 k3_1 q3_1 k3_2 q3_2 k3_3 q3_3
  have HB3 := Lib.hid hb3
  clear hb3
  go_wp2_with fail
  refine (ref_ContextOf x _).mono ?_
  rw [cxV_eq]
  rintro e w4 ⟨rfl, hb4⟩
  have hz4 := hb4.size
  (try simp only [World.size_alloc, World.size_setCell, World.size_drew] at hz4)
  have k4_0 := fun o => (bcell hb4).1 (w.heap.size) o (by first | (simp; done) | (simp; omega) | omega)
  have l4_0 : (w.heap.size) < w4.heap.size := (by omega)
  have q4_0 := fun o => (bcell hb4).2 (w.heap.size) o (by first | (simp; done) | (simp; omega) | omega)
  have k4_1 := fun o => (bcell hb4).1 (w.heap.size + 1) o (by first | (simp; done) | (simp; omega) | omega)
  have l4_1 : (w.heap.size + 1) < w4.heap.size := (by omega)
  have q4_1 := fun o => (bcell hb4).2 (w.heap.size + 1) o (by first | (simp; done) | (simp; omega) | omega)
  have k4_2 := fun o => (bcell hb4).1 (w1.heap.size) o (by first | (simp; done) | (simp; omega) | omega)
  have l4_2 : (w1.heap.size) < w4.heap.size := (by omega)
  have q4_2 := fun o => (bcell hb4).2 (w1.heap.size) o (by first | (simp; done) | (simp; omega) | omega)
  have k4_3 := fun o => (bcell hb4).1 (w2.heap.size) o (by first | (simp; done) | (simp; omega) | omega)
  have l4_3 : (w2.heap.size) < w4.heap.size := (by omega)
  have q4_3 := fun o => (bcell hb4).2 (w2.heap.size) o (by first | (simp; done) | (simp; omega) | omega)
  have k4_4 := fun o => (bcell hb4).1 (w3.heap.size) o (by first | (simp; done) | (simp; omega) | omega)
  have l4_4 : (w3.heap.size) < w4.heap.size := (by omega)
  have q4_4 := fun o => (bcell hb4).2 (w3.heap.size) o (by first | (simp; done) | (simp; omega) | omega)
  simp (maxDischargeDepth := 6) [go_sem, *] at k4_0 q4_0 k4_1 q4_1 k4_2 q4_2 k4_3 q4_3 k4_4 q4_4
  have HB4 := Lib.hid hb4
  clear hb4
  go_wp2_with fail
  refine (entry_Put v r u l p _).mono ?_
  rintro e w5 ⟨rfl, hb5⟩
  have hz5 := hb5.size
  (try simp only [World.size_alloc, World.size_setCell, World.size_drew] at hz5)
  have k5_0 := fun o => (bcell hb5).1 (w.heap.size) o (by first | (simp; done) | (simp; omega) | omega)
  have l5_0 : (w.heap.size) < w5.heap.size := (by omega)
  have q5_0 := fun o => (bcell hb5).2 (w.heap.size) o (by first | (simp; done) | (simp; omega) | omega)
  have k5_1 := fun o => (bcell hb5).1 (w.heap.size + 1) o (by first | (simp; done) | (simp; omega) | omega)
  have l5_1 : (w.heap.size + 1) < w5.heap.size := (by omega)
  have q5_1 := fun o => (bcell hb5).2 (w.heap.size + 1) o (by first | (simp; done) | (simp; omega) | omega)
  have k5_2 := fun o => (bcell hb5).1 (w1.heap.size) o (by first | (simp; done) | (simp; omega) | omega)
  have l5_2 : (w1.heap.size) < w5.heap.size := (by omega)
  have q5_2 := fun o => (bcell hb5).2 (w1.heap.size) o (by first | (simp; done) | (simp; omega) | omega)
  have k5_3 := fun o => (bcell hb5).1 (w2.heap.size) o (by first | (simp; done) | (simp; omega) | omega)
  have l5_3 : (w2.heap.size) < w5.heap.size := (by omega)
  have q5_3 := fun o => (bcell hb5).2 (w2.heap.size) o (by first | (simp; done) | (simp; omega) | omega)
  have k5_4 := fun o => (bcell hb5).1 (w3.heap.size) o (by first | (simp; done) | (simp; omega) | omega)
  have l5_4 : (w3.heap.size) < w5.heap.size := (by omega)
  have q5_4 := fun o => (bcell hb5).2 (w3.heap.size) o (by first | (simp; done) | (simp; omega) | omega)
  have k5_5 := fun o => (bcell hb5).1 (w4.heap.size) o (by first | (simp; done) | (simp; omega) | omega)
  have l5_5 : (w4.heap.size) < w5.heap.size := (by omega)
  have q5_5 := fun o => (bcell hb5).2 (w4.heap.size) o (by first | (simp; done) | (simp; omega) | omega)
  simp (maxDischargeDepth := 6) [go_sem, *] at k5_0 q5_0 k5_1 q5_1 k5_2 q5_2 k5_3 q5_3 k5_4 q5_4 k5_5 q5_5
  have HB5 := Lib.hid hb5
  clear hb5
  go_wp2_with fail
  refine (ref_WordOf v r u l p _).mono ?_
  rintro e w6 ⟨rfl, hb6⟩
  have hz6 := hb6.size
  (try simp only [World.size_alloc, World.size_setCell, World.size_drew] at hz6)
  have k6_0 := fun o => (bcell hb6).1 (w.heap.size) o (by first | (simp; done) | (simp; omega) | omega)
  have l6_0 : (w.heap.size) < w6.heap.size := (by omega)
  have q6_0 := fun o => (bcell hb6).2 (w.heap.size) o (by first | (simp; done) | (simp; omega) | omega)
  have k6_1 := fun o => (bcell hb6).1 (w.heap.size + 1) o (by first | (simp; done) | (simp; omega) | omega)
  have l6_1 : (w.heap.size + 1) < w6.heap.size := (by omega)
  have q6_1 := fun o => (bcell hb6).2 (w.heap.size + 1) o (by first | (simp; done) | (simp; omega) | omega)
  have k6_2 := fun o => (bcell hb6).1 (w1.heap.size) o (by first | (simp; done) | (simp; omega) | omega)
  have l6_2 : (w1.heap.size) < w6.heap.size := (by omega)
  have q6_2 := fun o => (bcell hb6).2 (w1.heap.size) o (by first | (simp; done) | (simp; omega) | omega)
  have k6_3 := fun o => (bcell hb6).1 (w2.heap.size) o (by first | (simp; done) | (simp; omega) | omega)
  have l6_3 : (w2.heap.size) < w6.heap.size := (by omega)
  have q6_3 := fun o => (bcell hb6).2 (w2.heap.size) o (by first | (simp; done) | (simp; omega) | omega)
  have k6_4 := fun o => (bcell hb6).1 (w3.heap.size) o (by first | (simp; done) | (simp; omega) | omega)
  have l6_4 : (w3.heap.size) < w6.heap.size := (by omega)
  have q6_4 := fun o => (bcell hb6).2 (w3.heap.size) o (by first | (simp; done) | (simp; omega) | omega)
  have k6_5 := fun o => (bcell hb6).1 (w4.heap.size) o (by first | (simp; done) | (simp; omega) | omega)
  have l6_5 : (w4.heap.size) < w6.heap.size := (by omega)
  have q6_5 := fun o => (bcell hb6).2 (w4.heap.size) o (by first | (simp; done) | (simp; omega) | omega)
  simp (maxDischargeDepth := 6) [go_sem, *] at k6_0 q6_0 k6_1 q6_1 k6_2 q6_2 k6_3 q6_3 k6_4 q6_4 k6_5 q6_5
  have HB6 := Lib.hid hb6
  clear hb6
  go_wp2_with fail
  refine (entry_PutContext cv cs cr _).mono ?_
  rintro e w7 ⟨rfl, hb7⟩
  have hz7 := hb7.size
  (try simp only [World.size_alloc, World.size_setCell, World.size_drew] at hz7)
  have k7_0 := fun o => (bcell hb7).1 (w.heap.size) o (by first | (simp; done) | (simp; omega) | omega)
  have l7_0 : (w.heap.size) < w7.heap.size := (by omega)
  have q7_0 := fun o => (bcell hb7).2 (w.heap.size) o (by first | (simp; done) | (simp; omega) | omega)
  have k7_1 := fun o => (bcell hb7).1 (w.heap.size + 1) o (by first | (simp; done) | (simp; omega) | omega)
  have l7_1 : (w.heap.size + 1) < w7.heap.size := (by omega)
  have q7_1 := fun o => (bcell hb7).2 (w.heap.size + 1) o (by first | (simp; done) | (simp; omega) | omega)
  have k7_2 := fun o => (bcell hb7).1 (w1.heap.size) o (by first | (simp; done) | (simp; omega) | omega)
  have l7_2 : (w1.heap.size) < w7.heap.size := (by omega)
  have q7_2 := fun o => (bcell hb7).2 (w1.heap.size) o (by first | (simp; done) | (simp; omega) | omega)
  have k7_3 := fun o => (bcell hb7).1 (w2.heap.size) o (by first | (simp; done) | (simp; omega) | omega)
  have l7_3 : (w2.heap.size) < w7.heap.size := (by omega)
  have q7_3 := fun o => (bcell hb7).2 (w2.heap.size) o (by first | (simp; done) | (simp; omega) | omega)
  have k7_4 := fun o => (bcell hb7).1 (w3.heap.size) o (by first | (simp; done) | (simp; omega) | omega)
  have l7_4 : (w3.heap.size) < w7.heap.size := (by omega)
  have q7_4 := fun o => (bcell hb7).2 (w3.heap.size) o (by first | (simp; done) | (simp; omega) | omega)
  have k7_5 := fun o => (bcell hb7).1 (w4.heap.size) o (by first | (simp; done) | (simp; omega) | omega)
  have l7_5 : (w4.heap.size) < w7.heap.size := (by omega)
  have q7_5 := fun o => (bcell hb7).2 (w4.heap.size) o (by first | (simp; done) | (simp; omega) | omega)
  simp (maxDischargeDepth := 6) [go_sem, *] at k7_0 q7_0 k7_1 q7_1 k7_2 q7_2 k7_3 q7_3 k7_4 q7_4 k7_5 q7_5
  have HB7 := Lib.hid hb7
  clear hb7
  go_wp2_with fail
  refine (ref_WordOfContext cv cs cr _).mono ?_
  rintro e w8 ⟨rfl, hb8⟩
  have hz8 := hb8.size
  (try simp only [World.size_alloc, World.size_setCell, World.size_drew] at hz8)
  have k8_0 := fun o => (bcell hb8).1 (w1.heap.size) o (by first | (simp; done) | (simp; omega) | omega)
  have l8_0 : (w1.heap.size) < w8.heap.size := (by omega)
  have q8_0 := fun o => (bcell hb8).2 (w1.heap.size) o (by first | (simp; done) | (simp; omega) | omega)
  have k8_1 := fun o => (bcell hb8).1 (w2.heap.size) o (by first | (simp; done) | (simp; omega) | omega)
  have l8_1 : (w2.heap.size) < w8.heap.size := (by omega)
  have q8_1 := fun o => (bcell hb8).2 (w2.heap.size) o (by first | (simp; done) | (simp; omega) | omega)
  have k8_2 := fun o => (bcell hb8).1 (w3.heap.size) o (by first | (simp; done) | (simp; omega) | omega)
  have l8_2 : (w3.heap.size) < w8.heap.size := (by omega)
  have q8_2 := fun o => (bcell hb8).2 (w3.heap.size) o (by first | (simp; done) | (simp; omega) | omega)
  have k8_3 := fun o => (bcell hb8).1 (w4.heap.size) o (by first | (simp; done) | (simp; omega) | omega)
  have l8_3 : (w4.heap.size) < w8.heap.size := (by omega)
  have q8_3 := fun o => (bcell hb8).2 (w4.heap.size) o (by first | (simp; done) | (simp; omega) | omega)
  simp (maxDischargeDepth := 6) [go_sem, *] at k8_0 q8_0 k8_1 q8_1 k8_2 q8_2 k8_3 q8_3
  have HB8 := Lib.hid hb8
  clear hb8
  go_wp2_with fail
  refine (law_parted _).mono ?_
  rintro e w9 ⟨rfl, hb9⟩
  have hz9 := hb9.size
  (try simp only [World.size_alloc, World.size_setCell, World.size_drew] at hz9)
  have k9_0 := fun o => (bcell hb9).1 (w1.heap.size) o (by first | (simp; done) | (simp; omega) | omega)
  have l9_0 : (w1.heap.size) < w9.heap.size := (by omega)
  have q9_0 := fun o => (bcell hb9).2 (w1.heap.size) o (by first | (simp; done) | (simp; omega) | omega)
  have k9_1 := fun o => (bcell hb9).1 (w2.heap.size) o (by first | (simp; done) | (simp; omega) | omega)
  have l9_1 : (w2.heap.size) < w9.heap.size := (by omega)
  have q9_1 := fun o => (bcell hb9).2 (w2.heap.size) o (by first | (simp; done) | (simp; omega) | omega)
  have k9_2 := fun o => (bcell hb9).1 (w3.heap.size) o (by first | (simp; done) | (simp; omega) | omega)
  have l9_2 : (w3.heap.size) < w9.heap.size := (by omega)
  have q9_2 := fun o => (bcell hb9).2 (w3.heap.size) o (by first | (simp; done) | (simp; omega) | omega)
  have k9_3 := fun o => (bcell hb9).1 (w4.heap.size) o (by first | (simp; done) | (simp; omega) | omega)
  have l9_3 : (w4.heap.size) < w9.heap.size := (by omega)
  have q9_3 := fun o => (bcell hb9).2 (w4.heap.size) o (by first | (simp; done) | (simp; omega) | omega)
  simp (maxDischargeDepth := 6) [go_sem, *] at k9_0 q9_0 k9_1 q9_1 k9_2 q9_2 k9_3 q9_3
  have HB9 := Lib.hid hb9
  clear hb9
  go_wp2
  go_ret
  exact ⟨rfl, by (repeat (first | (with_reducible exact Below.refl _ _) | (with_reducible refine Below.drew ?_) | (with_reducible refine bdrewN ?_ _) | ((with_reducible refine Below.setCell ?_ ?_ _); rotate_left; exact (by first | (simp; done) | (simp; omega) | omega)) | ((with_reducible refine Below.alloc ?_ ?_ _); rotate_left; exact (by first | (simp; done) | (simp; omega) | omega)) | ((with_reducible refine Below.trans ?_ (HB9.out.mono ?_)); rotate_left; exact (by first | (simp; done) | (simp; omega) | omega)) | ((with_reducible refine Below.trans ?_ (HB8.out.mono ?_)); rotate_left; exact (by first | (simp; done) | (simp; omega) | omega)) | ((with_reducible refine Below.trans ?_ (HB7.out.mono ?_)); rotate_left; exact (by first | (simp; done) | (simp; omega) | omega)) | ((with_reducible refine Below.trans ?_ (HB6.out.mono ?_)); rotate_left; exact (by first | (simp; done) | (simp; omega) | omega)) | ((with_reducible refine Below.trans ?_ (HB5.out.mono ?_)); rotate_left; exact (by first | (simp; done) | (simp; omega) | omega)) | ((with_reducible refine Below.trans ?_ (HB4.out.mono ?_)); rotate_left; exact (by first | (simp; done) | (simp; omega) | omega)) | ((with_reducible refine Below.trans ?_ (HB3.out.mono ?_)); rotate_left; exact (by first | (simp; done) | (simp; omega) | omega)) | ((with_reducible refine Below.trans ?_ (HB2.out.mono ?_)); rotate_left; exact (by first | (simp; done) | (simp; omega) | omega)) | ((with_reducible refine Below.trans ?_ (HB1.out.mono ?_)); rotate_left; exact (by first | (simp; done) | (simp; omega) | omega))))⟩
end Go.Proofs.Ytbopdijnojaaiaa
