/- Memory: the walks of the laws MemSays and MemKeeps. -/
import Derived.Test.YtbopdijnojaaiaaMemN
import Derived.Test.YtbopdijnojaaiaaAt
import Derived.Deep.DeepCutAuto
namespace Go.Proofs.Ytbopdijnojaaiaa
open Go.RowKit
set_option linter.unusedSimpArgs false
set_option linter.unusedVariables false

def zs : List Int := List.replicate 512 0
theorem zs_eq : List.replicate 512 0 = zs := rfl
theorem cm_zs : cm zs = 0 := by decide +kernel
theorem cm_zs9 : cm (zs.set 9 7) = 0 := by decide +kernel
theorem mr1 : mrV (zs.set 9 7) 9 = 7 := by decide +kernel
theorem mr2 : mrE (zs.set 9 7) 9 = 0 := by decide +kernel
theorem mr3 : mrE (zs.set 9 7) 512 = 4 := by decide +kernel

theorem fieldMem : ∀ (A : Option Addr) (n c : Nat) (w : World), (Instr.field 59 (.agg #[.slice A n c]) 0).run Try.prog w = .ok (.slice A n c) w := fun _ _ _ _ => by kernel_rfl

set_option maxRecDepth 100000 in
set_option maxHeartbeats 1000000 in
theorem law_stored (w : World) : Calls Try.prog 41 #[] w fun e w' => e = .returned (.bool true) ∧ Below w.heap.size w w' := by
  have c2 := mr2
  have c3 := mr3
  have c1 := mr1
  have c4 := cm_zs
  have hfl := fieldMem
  go_enter Try.func41, Try.ntmps41
  go_wp2_with fail
  refine (mem_New _).mono ?_
  rintro e w1 ⟨A1, d1, rfl, ho1, hb1⟩
  rw [zs_eq] at ho1
  have hz1 := hb1.size
  (try simp only [World.size_alloc, World.size_setCell, World.size_drew] at hz1)
  have HB1 := Lib.hid hb1
  clear hb1
  have H1 := Lib.hid (ho1.ints (by decide)); clear ho1
  go_wp2_with fail
  refine (mem_Write _ _ _ zs _ _ _ H1.out cm_zs (by decide) (by decide)).mono ?_
  rintro e w2 ⟨A2, d2, rfl, ho2, hb2⟩
  have hz2 := hb2.size
  (try simp only [World.size_alloc, World.size_setCell, World.size_drew] at hz2)
  have HB2 := Lib.hid hb2
  clear hb2
  have H2 := Lib.hid (show Ints w2 w2.heap.size A2 512 (zs.set 9 7) from ho2.ints (by decide)); clear ho2
  go_wp2_with fail
  refine (mem_Read _ _ _ (zs.set 9 7) _ _ ((H2.out.alloc (Nat.le_refl _) _).more (by simp))).mono ?_
  rintro e w3 ⟨rfl, hb3⟩
  have hz3 := hb3.size
  (try simp only [World.size_alloc, World.size_setCell, World.size_drew] at hz3)
  have k3_0 := fun o => (bcell hb3).1 (w2.heap.size) o (by first | (simp; done) | (simp; omega) | omega)
  have l3_0 : (w2.heap.size) < w3.heap.size := (by omega)
  have q3_0 := fun o => (bcell hb3).2 (w2.heap.size) o (by first | (simp; done) | (simp; omega) | omega)
  simp (maxDischargeDepth := 6) [go_sem, *] at k3_0 q3_0
  have HB3 := Lib.hid hb3
  clear hb3
  go_wp2_with fail
  refine (mem_Read _ _ _ (zs.set 9 7) _ _ (((H2.out.alloc (Nat.le_refl _) _).below (HB3.out.mono (by simp))).more (by omega))).mono ?_
  rintro e w4 ⟨rfl, hb4⟩
  have hz4 := hb4.size
  (try simp only [World.size_alloc, World.size_setCell, World.size_drew] at hz4)
  have k4_0 := fun o => (bcell hb4).1 (w2.heap.size) o (by first | (simp; done) | (simp; omega) | omega)
  have l4_0 : (w2.heap.size) < w4.heap.size := (by omega)
  have q4_0 := fun o => (bcell hb4).2 (w2.heap.size) o (by first | (simp; done) | (simp; omega) | omega)
  simp (maxDischargeDepth := 6) [go_sem, *] at k4_0 q4_0
  have HB4 := Lib.hid hb4
  clear hb4
  go_wp2_with fail
  refine (mem_New _).mono ?_
  rintro e w5 ⟨A5, d5, rfl, ho5, hb5⟩
  rw [zs_eq] at ho5
  have hz5 := hb5.size
  (try simp only [World.size_alloc, World.size_setCell, World.size_drew] at hz5)
  have HB5 := Lib.hid hb5
  clear hb5
  have H5 := Lib.hid (ho5.ints (by decide)); clear ho5
  go_wp2_with fail
  refine (mem_Check _ _ _ zs _ H5.out).mono ?_
  rintro e w6 ⟨rfl, hb6⟩
  have hz6 := hb6.size
  (try simp only [World.size_alloc, World.size_setCell, World.size_drew] at hz6)
  have HB6 := Lib.hid hb6
  clear hb6
  go_wp2_with fail
  refine (mem_New _).mono ?_
  rintro e w7 ⟨A7, d7, rfl, ho7, hb7⟩
  have hz7 := hb7.size
  (try simp only [World.size_alloc, World.size_setCell, World.size_drew] at hz7)
  have HB7 := Lib.hid hb7
  clear hb7
  clear ho7
  go_wp2_with fail
  go_ret
  exact ⟨rfl, by (repeat (first | (with_reducible exact Below.refl _ _) | (with_reducible refine Below.drew ?_) | (with_reducible refine bdrewN ?_ _) | ((with_reducible refine Below.setCell ?_ ?_ _); rotate_left; exact (by first | (simp; done) | (simp; omega) | omega)) | ((with_reducible refine Below.alloc ?_ ?_ _); rotate_left; exact (by first | (simp; done) | (simp; omega) | omega)) | ((with_reducible refine Below.trans ?_ (HB7.out.mono ?_)); rotate_left; exact (by first | (simp; done) | (simp; omega) | omega)) | ((with_reducible refine Below.trans ?_ (HB6.out.mono ?_)); rotate_left; exact (by first | (simp; done) | (simp; omega) | omega)) | ((with_reducible refine Below.trans ?_ (HB5.out.mono ?_)); rotate_left; exact (by first | (simp; done) | (simp; omega) | omega)) | ((with_reducible refine Below.trans ?_ (HB4.out.mono ?_)); rotate_left; exact (by first | (simp; done) | (simp; omega) | omega)) | ((with_reducible refine Below.trans ?_ (HB3.out.mono ?_)); rotate_left; exact (by first | (simp; done) | (simp; omega) | omega)) | ((with_reducible refine Below.trans ?_ (HB2.out.mono ?_)); rotate_left; exact (by first | (simp; done) | (simp; omega) | omega)) | ((with_reducible refine Below.trans ?_ (HB1.out.mono ?_)); rotate_left; exact (by first | (simp; done) | (simp; omega) | omega))))⟩

theorem set_swap {xs : List Int} {i j v u : Int} (hi : 0 ≤ i) (hj : 0 ≤ j) (hn : i ≠ j) : eqI ((xs.set i.toNat v).set j.toNat u) ((xs.set j.toNat u).set i.toNat v) = true := by
  rw [List.set_comm _ _ (by omega)]; simp [eqI]

set_option maxRecDepth 100000 in
set_option maxHeartbeats 4000000 in
theorem law_MemKeeps (A : Option Addr) (n c : Nat) (xs : List Int) (i v j u : Int) (w : World) (h : Ints w w.heap.size A n xs) :
    Calls Try.prog 11 #[.agg #[.slice A n c], .int .i64 i, .int .i64 v, .int .i64 j, .int .i64 u] w fun e w' => e = .returned (.bool true) ∧ Below w.heap.size w w' := by
  have HX := Lib.hid h; clear h
  have hfl := fieldMem
  have bi : 0 ≤ i % 512 ∧ i % 512 < 512 := by omega
  have bj : 0 ≤ j % 512 ∧ j % 512 < 512 := by omega
  generalize hi : i % 512 = i' at *
  generalize hj : j % 512 = j' at *
  have HBI := Lib.hid bi; clear bi
  have HBJ := Lib.hid bj; clear bj
  by_cases hE : mwE xs i' v = 0
  · obtain ⟨h0, _, hv⟩ := mwE_inv hE
    have H0 := Lib.hid h0
    have HV := Lib.hid hv
    have hn : n = 512 := by rw [← HX.out.len]; exact (cm_inv h0).1
    subst hn
    clear h0 hv hE
    have H0' := Lib.hid (cm_set (i := i') H0.out HV.out)
    have r1 := mrE_0 H0'.out HBI.out
    have r2 := mrE_0 H0'.out HBJ.out
    have r3 := mrE_0 H0.out HBJ.out
    have r4 := mrV_set H0.out HBI.out HV.out
    by_cases hij : i' = j'
    · subst hij
      go_enter Try.func11, Try.ntmps11
      go_wp2_with (first | (go_at_call 46; refine (law_at _ _ (by simp) _).mono ?_; rintro e w' ⟨rfl, rfl⟩; simp only [hi, hj]))
      refine (mem_Write _ _ _ xs _ _ _ ((HX.out.alloc (Nat.le_refl _) _).more (by simp)) H0.out HBI.out HV.out).mono ?_
      rintro e w1 ⟨A1, d1, rfl, ho1, hb1⟩
      have hz1 := hb1.size
      (try simp only [World.size_alloc, World.size_setCell, World.size_drew] at hz1)
      have k1_0 := fun o => (bcell hb1).1 (w.heap.size) o (by first | (simp; done) | (simp; omega) | omega)
      have l1_0 : (w.heap.size) < w1.heap.size := (by omega)
      have q1_0 := fun o => (bcell hb1).2 (w.heap.size) o (by first | (simp; done) | (simp; omega) | omega)
      simp (maxDischargeDepth := 6) [go_sem, *] at k1_0 q1_0
      have HB1 := Lib.hid hb1
      clear hb1
      have Y1 := Lib.hid (ho1.ints (by decide)); clear ho1
      have X1 := Lib.hid (((HX.out.alloc (Nat.le_refl _) _).below (HB1.out.mono (by simp))).more (B' := w1.heap.size) (by omega))
      go_wp2_with fail
      refine (law_stored _).mono ?_
      rintro e w2 ⟨rfl, hb2⟩
      have hz2 := hb2.size
      (try simp only [World.size_alloc, World.size_setCell, World.size_drew] at hz2)
      have k2_0 := fun o => (bcell hb2).1 (w.heap.size) o (by first | (simp; done) | (simp; omega) | omega)
      have l2_0 : (w.heap.size) < w2.heap.size := (by omega)
      have q2_0 := fun o => (bcell hb2).2 (w.heap.size) o (by first | (simp; done) | (simp; omega) | omega)
      have k2_1 := fun o => (bcell hb2).1 (w1.heap.size) o (by first | (simp; done) | (simp; omega) | omega)
      have l2_1 : (w1.heap.size) < w2.heap.size := (by omega)
      have q2_1 := fun o => (bcell hb2).2 (w1.heap.size) o (by first | (simp; done) | (simp; omega) | omega)
      simp (maxDischargeDepth := 6) [go_sem, *] at k2_0 q2_0 k2_1 q2_1
      have HB2 := Lib.hid hb2
      clear hb2
      have X2 := Lib.hid (((X1.out.alloc (Nat.le_refl _) _).below (HB2.out.mono (by simp))).more (B' := w2.heap.size) (by omega))
      have Y2 := Lib.hid (((Y1.out.alloc (Nat.le_refl _) _).below (HB2.out.mono (by simp))).more (B' := w2.heap.size) (by omega))
      go_wp2_with fail
      refine (mem_Read _ _ _ (xs.set i'.toNat v) _ _ Y2.out).mono ?_
      rintro e w3 ⟨rfl, hb3⟩
      have hz3 := hb3.size
      (try simp only [World.size_alloc, World.size_setCell, World.size_drew] at hz3)
      have k3_0 := fun o => (bcell hb3).1 (w.heap.size) o (by first | (simp; done) | (simp; omega) | omega)
      have l3_0 : (w.heap.size) < w3.heap.size := (by omega)
      have q3_0 := fun o => (bcell hb3).2 (w.heap.size) o (by first | (simp; done) | (simp; omega) | omega)
      have k3_1 := fun o => (bcell hb3).1 (w1.heap.size) o (by first | (simp; done) | (simp; omega) | omega)
      have l3_1 : (w1.heap.size) < w3.heap.size := (by omega)
      have q3_1 := fun o => (bcell hb3).2 (w1.heap.size) o (by first | (simp; done) | (simp; omega) | omega)
      simp (maxDischargeDepth := 6) [go_sem, *] at k3_0 q3_0 k3_1 q3_1
      have HB3 := Lib.hid hb3
      clear hb3
      have X3 := Lib.hid ((X2.out.below HB3.out).more (B' := w3.heap.size) (by omega))
      have Y3 := Lib.hid ((Y2.out.below HB3.out).more (B' := w3.heap.size) (by omega))
      go_wp2_with fail
      refine (mem_Read _ _ _ (xs.set i'.toNat v) _ _ Y3.out).mono ?_
      rintro e w4 ⟨rfl, hb4⟩
      have hz4 := hb4.size
      (try simp only [World.size_alloc, World.size_setCell, World.size_drew] at hz4)
      have k4_0 := fun o => (bcell hb4).1 (w.heap.size) o (by first | (simp; done) | (simp; omega) | omega)
      have l4_0 : (w.heap.size) < w4.heap.size := (by omega)
      have q4_0 := fun o => (bcell hb4).2 (w.heap.size) o (by first | (simp; done) | (simp; omega) | omega)
      have k4_1 := fun o => (bcell hb4).1 (w1.heap.size) o (by first | (simp; done) | (simp; omega) | omega)
      have l4_1 : (w1.heap.size) < w4.heap.size := (by omega)
      have q4_1 := fun o => (bcell hb4).2 (w1.heap.size) o (by first | (simp; done) | (simp; omega) | omega)
      simp (maxDischargeDepth := 6) [go_sem, *] at k4_0 q4_0 k4_1 q4_1
      have HB4 := Lib.hid hb4
      clear hb4
      have X4 := Lib.hid ((X3.out.below HB4.out).more (B' := w4.heap.size) (by omega))
      have Y4 := Lib.hid ((Y3.out.below HB4.out).more (B' := w4.heap.size) (by omega))
      go_wp2_with fail
      refine (mem_Read _ _ _ xs _ _ X4.out).mono ?_
      rintro e w5 ⟨rfl, hb5⟩
      have hz5 := hb5.size
      (try simp only [World.size_alloc, World.size_setCell, World.size_drew] at hz5)
      have k5_0 := fun o => (bcell hb5).1 (w.heap.size) o (by first | (simp; done) | (simp; omega) | omega)
      have l5_0 : (w.heap.size) < w5.heap.size := (by omega)
      have q5_0 := fun o => (bcell hb5).2 (w.heap.size) o (by first | (simp; done) | (simp; omega) | omega)
      have k5_1 := fun o => (bcell hb5).1 (w1.heap.size) o (by first | (simp; done) | (simp; omega) | omega)
      have l5_1 : (w1.heap.size) < w5.heap.size := (by omega)
      have q5_1 := fun o => (bcell hb5).2 (w1.heap.size) o (by first | (simp; done) | (simp; omega) | omega)
      simp (maxDischargeDepth := 6) [go_sem, *] at k5_0 q5_0 k5_1 q5_1
      have HB5 := Lib.hid hb5
      clear hb5
      have X5 := Lib.hid ((X4.out.below HB5.out).more (B' := w5.heap.size) (by omega))
      have Y5 := Lib.hid ((Y4.out.below HB5.out).more (B' := w5.heap.size) (by omega))
      by_cases hU : mwE (xs.set i'.toNat v) i' u = 0
      · obtain ⟨_, _, hu⟩ := mwE_inv hU
        have HU := Lib.hid hu; clear hu hU
        go_wp2_with fail
        refine (mem_Write _ _ _ (xs.set i'.toNat v) _ _ _ Y5.out H0'.out HBJ.out HU.out).mono ?_
        rintro e w6 ⟨A6, d6, rfl, ho6, hb6⟩
        have hz6 := hb6.size
        (try simp only [World.size_alloc, World.size_setCell, World.size_drew] at hz6)
        have k6_0 := fun o => (bcell hb6).1 (w.heap.size) o (by first | (simp; done) | (simp; omega) | omega)
        have l6_0 : (w.heap.size) < w6.heap.size := (by omega)
        have q6_0 := fun o => (bcell hb6).2 (w.heap.size) o (by first | (simp; done) | (simp; omega) | omega)
        have k6_1 := fun o => (bcell hb6).1 (w1.heap.size) o (by first | (simp; done) | (simp; omega) | omega)
        have l6_1 : (w1.heap.size) < w6.heap.size := (by omega)
        have q6_1 := fun o => (bcell hb6).2 (w1.heap.size) o (by first | (simp; done) | (simp; omega) | omega)
        simp (maxDischargeDepth := 6) [go_sem, *] at k6_0 q6_0 k6_1 q6_1
        have HB6 := Lib.hid hb6
        clear hb6
        have Z6 := Lib.hid (ho6.ints (by decide)); clear ho6
        have X6 := Lib.hid ((X5.out.below HB6.out).more (B' := w6.heap.size) (by omega))
        go_wp2_with fail
        go_ret
        exact ⟨rfl, by (repeat (first | (with_reducible exact Below.refl _ _) | (with_reducible refine Below.drew ?_) | (with_reducible refine bdrewN ?_ _) | ((with_reducible refine Below.setCell ?_ ?_ _); rotate_left; exact (by first | (simp; done) | (simp; omega) | omega)) | ((with_reducible refine Below.alloc ?_ ?_ _); rotate_left; exact (by first | (simp; done) | (simp; omega) | omega)) | ((with_reducible refine Below.trans ?_ (HB6.out.mono ?_)); rotate_left; exact (by first | (simp; done) | (simp; omega) | omega)) | ((with_reducible refine Below.trans ?_ (HB5.out.mono ?_)); rotate_left; exact (by first | (simp; done) | (simp; omega) | omega)) | ((with_reducible refine Below.trans ?_ (HB4.out.mono ?_)); rotate_left; exact (by first | (simp; done) | (simp; omega) | omega)) | ((with_reducible refine Below.trans ?_ (HB3.out.mono ?_)); rotate_left; exact (by first | (simp; done) | (simp; omega) | omega)) | ((with_reducible refine Below.trans ?_ (HB2.out.mono ?_)); rotate_left; exact (by first | (simp; done) | (simp; omega) | omega)) | ((with_reducible refine Below.trans ?_ (HB1.out.mono ?_)); rotate_left; exact (by first | (simp; done) | (simp; omega) | omega))))⟩
      · have HUU := Lib.hid hU
        have e2 : mwE (xs.set i'.toNat v) i' u = 2 := by
          by_cases hu : 0 ≤ u ∧ u ≤ 65535
          · exact absurd (mwE_0 H0'.out HBJ.out hu) hU
          · exact mwE_v H0'.out HBJ.out hu
        clear hU
        go_wp2_with fail
        refine (mem_Write_no _ _ _ (xs.set i'.toNat v) _ _ _ Y5.out HUU.out).mono ?_
        rintro e w6 ⟨rfl, hb6⟩
        have hz6 := hb6.size
        (try simp only [World.size_alloc, World.size_setCell, World.size_drew] at hz6)
        have HB6 := Lib.hid hb6
        clear hb6
        go_wp2_with fail
        go_ret
        exact ⟨rfl, by (repeat (first | (with_reducible exact Below.refl _ _) | (with_reducible refine Below.drew ?_) | (with_reducible refine bdrewN ?_ _) | ((with_reducible refine Below.setCell ?_ ?_ _); rotate_left; exact (by first | (simp; done) | (simp; omega) | omega)) | ((with_reducible refine Below.alloc ?_ ?_ _); rotate_left; exact (by first | (simp; done) | (simp; omega) | omega)) | ((with_reducible refine Below.trans ?_ (HB6.out.mono ?_)); rotate_left; exact (by first | (simp; done) | (simp; omega) | omega)) | ((with_reducible refine Below.trans ?_ (HB5.out.mono ?_)); rotate_left; exact (by first | (simp; done) | (simp; omega) | omega)) | ((with_reducible refine Below.trans ?_ (HB4.out.mono ?_)); rotate_left; exact (by first | (simp; done) | (simp; omega) | omega)) | ((with_reducible refine Below.trans ?_ (HB3.out.mono ?_)); rotate_left; exact (by first | (simp; done) | (simp; omega) | omega)) | ((with_reducible refine Below.trans ?_ (HB2.out.mono ?_)); rotate_left; exact (by first | (simp; done) | (simp; omega) | omega)) | ((with_reducible refine Below.trans ?_ (HB1.out.mono ?_)); rotate_left; exact (by first | (simp; done) | (simp; omega) | omega))))⟩
    · have hij1 : (i' != j') = true := by rw [bne_iff_ne]; exact hij
      have hij2 : (i' == j') = false := by rw [beq_eq_false_iff_ne]; exact hij
      have HIJ := Lib.hid hij; clear hij
      have r5 := mrV_other H0.out HBI.out HBJ.out HV.out HIJ.out
      go_enter Try.func11, Try.ntmps11
      go_wp2_with (first | (go_at_call 46; refine (law_at _ _ (by simp) _).mono ?_; rintro e w' ⟨rfl, rfl⟩; simp only [hi, hj]))
      refine (mem_Write _ _ _ xs _ _ _ ((HX.out.alloc (Nat.le_refl _) _).more (by simp)) H0.out HBI.out HV.out).mono ?_
      rintro e w1 ⟨A1, d1, rfl, ho1, hb1⟩
      have hz1 := hb1.size
      (try simp only [World.size_alloc, World.size_setCell, World.size_drew] at hz1)
      have k1_0 := fun o => (bcell hb1).1 (w.heap.size) o (by first | (simp; done) | (simp; omega) | omega)
      have l1_0 : (w.heap.size) < w1.heap.size := (by omega)
      have q1_0 := fun o => (bcell hb1).2 (w.heap.size) o (by first | (simp; done) | (simp; omega) | omega)
      simp (maxDischargeDepth := 6) [go_sem, *] at k1_0 q1_0
      have HB1 := Lib.hid hb1
      clear hb1
      have Y1 := Lib.hid (ho1.ints (by decide)); clear ho1
      have X1 := Lib.hid (((HX.out.alloc (Nat.le_refl _) _).below (HB1.out.mono (by simp))).more (B' := w1.heap.size) (by omega))
      go_wp2_with fail
      refine (law_stored _).mono ?_
      rintro e w2 ⟨rfl, hb2⟩
      have hz2 := hb2.size
      (try simp only [World.size_alloc, World.size_setCell, World.size_drew] at hz2)
      have k2_0 := fun o => (bcell hb2).1 (w.heap.size) o (by first | (simp; done) | (simp; omega) | omega)
      have l2_0 : (w.heap.size) < w2.heap.size := (by omega)
      have q2_0 := fun o => (bcell hb2).2 (w.heap.size) o (by first | (simp; done) | (simp; omega) | omega)
      have k2_1 := fun o => (bcell hb2).1 (w1.heap.size) o (by first | (simp; done) | (simp; omega) | omega)
      have l2_1 : (w1.heap.size) < w2.heap.size := (by omega)
      have q2_1 := fun o => (bcell hb2).2 (w1.heap.size) o (by first | (simp; done) | (simp; omega) | omega)
      simp (maxDischargeDepth := 6) [go_sem, *] at k2_0 q2_0 k2_1 q2_1
      have HB2 := Lib.hid hb2
      clear hb2
      have X2 := Lib.hid (((X1.out.alloc (Nat.le_refl _) _).below (HB2.out.mono (by simp))).more (B' := w2.heap.size) (by omega))
      have Y2 := Lib.hid (((Y1.out.alloc (Nat.le_refl _) _).below (HB2.out.mono (by simp))).more (B' := w2.heap.size) (by omega))
      go_wp2_with fail
      refine (mem_Read _ _ _ (xs.set i'.toNat v) _ _ Y2.out).mono ?_
      rintro e w3 ⟨rfl, hb3⟩
      have hz3 := hb3.size
      (try simp only [World.size_alloc, World.size_setCell, World.size_drew] at hz3)
      have k3_0 := fun o => (bcell hb3).1 (w.heap.size) o (by first | (simp; done) | (simp; omega) | omega)
      have l3_0 : (w.heap.size) < w3.heap.size := (by omega)
      have q3_0 := fun o => (bcell hb3).2 (w.heap.size) o (by first | (simp; done) | (simp; omega) | omega)
      have k3_1 := fun o => (bcell hb3).1 (w1.heap.size) o (by first | (simp; done) | (simp; omega) | omega)
      have l3_1 : (w1.heap.size) < w3.heap.size := (by omega)
      have q3_1 := fun o => (bcell hb3).2 (w1.heap.size) o (by first | (simp; done) | (simp; omega) | omega)
      simp (maxDischargeDepth := 6) [go_sem, *] at k3_0 q3_0 k3_1 q3_1
      have HB3 := Lib.hid hb3
      clear hb3
      have X3 := Lib.hid ((X2.out.below HB3.out).more (B' := w3.heap.size) (by omega))
      have Y3 := Lib.hid ((Y2.out.below HB3.out).more (B' := w3.heap.size) (by omega))
      go_wp2_with fail
      refine (mem_Read _ _ _ (xs.set i'.toNat v) _ _ Y3.out).mono ?_
      rintro e w4 ⟨rfl, hb4⟩
      have hz4 := hb4.size
      (try simp only [World.size_alloc, World.size_setCell, World.size_drew] at hz4)
      have k4_0 := fun o => (bcell hb4).1 (w.heap.size) o (by first | (simp; done) | (simp; omega) | omega)
      have l4_0 : (w.heap.size) < w4.heap.size := (by omega)
      have q4_0 := fun o => (bcell hb4).2 (w.heap.size) o (by first | (simp; done) | (simp; omega) | omega)
      have k4_1 := fun o => (bcell hb4).1 (w1.heap.size) o (by first | (simp; done) | (simp; omega) | omega)
      have l4_1 : (w1.heap.size) < w4.heap.size := (by omega)
      have q4_1 := fun o => (bcell hb4).2 (w1.heap.size) o (by first | (simp; done) | (simp; omega) | omega)
      simp (maxDischargeDepth := 6) [go_sem, *] at k4_0 q4_0 k4_1 q4_1
      have HB4 := Lib.hid hb4
      clear hb4
      have X4 := Lib.hid ((X3.out.below HB4.out).more (B' := w4.heap.size) (by omega))
      have Y4 := Lib.hid ((Y3.out.below HB4.out).more (B' := w4.heap.size) (by omega))
      go_wp2_with fail
      refine (mem_Read _ _ _ xs _ _ X4.out).mono ?_
      rintro e w5 ⟨rfl, hb5⟩
      have hz5 := hb5.size
      (try simp only [World.size_alloc, World.size_setCell, World.size_drew] at hz5)
      have k5_0 := fun o => (bcell hb5).1 (w.heap.size) o (by first | (simp; done) | (simp; omega) | omega)
      have l5_0 : (w.heap.size) < w5.heap.size := (by omega)
      have q5_0 := fun o => (bcell hb5).2 (w.heap.size) o (by first | (simp; done) | (simp; omega) | omega)
      have k5_1 := fun o => (bcell hb5).1 (w1.heap.size) o (by first | (simp; done) | (simp; omega) | omega)
      have l5_1 : (w1.heap.size) < w5.heap.size := (by omega)
      have q5_1 := fun o => (bcell hb5).2 (w1.heap.size) o (by first | (simp; done) | (simp; omega) | omega)
      simp (maxDischargeDepth := 6) [go_sem, *] at k5_0 q5_0 k5_1 q5_1
      have HB5 := Lib.hid hb5
      clear hb5
      have X5 := Lib.hid ((X4.out.below HB5.out).more (B' := w5.heap.size) (by omega))
      have Y5 := Lib.hid ((Y4.out.below HB5.out).more (B' := w5.heap.size) (by omega))
      by_cases hU : mwE (xs.set i'.toNat v) j' u = 0
      · obtain ⟨_, _, hu⟩ := mwE_inv hU
        have HU := Lib.hid hu; clear hu hU
        go_wp2_with fail
        refine (mem_Write _ _ _ (xs.set i'.toNat v) _ _ _ Y5.out H0'.out HBJ.out HU.out).mono ?_
        rintro e w6 ⟨A6, d6, rfl, ho6, hb6⟩
        have hz6 := hb6.size
        (try simp only [World.size_alloc, World.size_setCell, World.size_drew] at hz6)
        have k6_0 := fun o => (bcell hb6).1 (w.heap.size) o (by first | (simp; done) | (simp; omega) | omega)
        have l6_0 : (w.heap.size) < w6.heap.size := (by omega)
        have q6_0 := fun o => (bcell hb6).2 (w.heap.size) o (by first | (simp; done) | (simp; omega) | omega)
        have k6_1 := fun o => (bcell hb6).1 (w1.heap.size) o (by first | (simp; done) | (simp; omega) | omega)
        have l6_1 : (w1.heap.size) < w6.heap.size := (by omega)
        have q6_1 := fun o => (bcell hb6).2 (w1.heap.size) o (by first | (simp; done) | (simp; omega) | omega)
        simp (maxDischargeDepth := 6) [go_sem, *] at k6_0 q6_0 k6_1 q6_1
        have HB6 := Lib.hid hb6
        clear hb6
        have Z6 := Lib.hid (ho6.ints (by decide)); clear ho6
        have X6 := Lib.hid ((X5.out.below HB6.out).more (B' := w6.heap.size) (by omega))
        have H7 := Lib.hid (cm_set (i := j') H0.out HU.out)
        have hsw := set_swap (xs := xs) (v := v) (u := u) HBI.out.1 HBJ.out.1 HIJ.out
        go_wp2_with fail
        refine (mem_Write _ _ _ xs _ _ _ ((X6.out.alloc (Nat.le_refl _) _).more (by simp)) H0.out HBJ.out HU.out).mono ?_
        rintro e w7 ⟨A7, d7, rfl, ho7, hb7⟩
        have hz7 := hb7.size
        (try simp only [World.size_alloc, World.size_setCell, World.size_drew] at hz7)
        have k7_0 := fun o => (bcell hb7).1 (w.heap.size) o (by first | (simp; done) | (simp; omega) | omega)
        have l7_0 : (w.heap.size) < w7.heap.size := (by omega)
        have q7_0 := fun o => (bcell hb7).2 (w.heap.size) o (by first | (simp; done) | (simp; omega) | omega)
        have k7_1 := fun o => (bcell hb7).1 (w6.heap.size) o (by first | (simp; done) | (simp; omega) | omega)
        have l7_1 : (w6.heap.size) < w7.heap.size := (by omega)
        have q7_1 := fun o => (bcell hb7).2 (w6.heap.size) o (by first | (simp; done) | (simp; omega) | omega)
        simp (maxDischargeDepth := 6) [go_sem, *] at k7_0 q7_0 k7_1 q7_1
        have HB7 := Lib.hid hb7
        clear hb7
        have V7 := Lib.hid (ho7.ints (by decide)); clear ho7
        have Z7 := Lib.hid (((Z6.out.alloc (Nat.le_refl _) _).below (HB7.out.mono (by simp))).more (B' := w7.heap.size) (by omega))
        go_wp2_with fail
        refine (mem_Write _ _ _ (xs.set j'.toNat u) _ _ _ ((V7.out.alloc (Nat.le_refl _) _).more (by simp)) H7.out HBI.out HV.out).mono ?_
        rintro e w8 ⟨A8, d8, rfl, ho8, hb8⟩
        have hz8 := hb8.size
        (try simp only [World.size_alloc, World.size_setCell, World.size_drew] at hz8)
        have k8_0 := fun o => (bcell hb8).1 (w6.heap.size) o (by first | (simp; done) | (simp; omega) | omega)
        have l8_0 : (w6.heap.size) < w8.heap.size := (by omega)
        have q8_0 := fun o => (bcell hb8).2 (w6.heap.size) o (by first | (simp; done) | (simp; omega) | omega)
        have k8_1 := fun o => (bcell hb8).1 (w7.heap.size) o (by first | (simp; done) | (simp; omega) | omega)
        have l8_1 : (w7.heap.size) < w8.heap.size := (by omega)
        have q8_1 := fun o => (bcell hb8).2 (w7.heap.size) o (by first | (simp; done) | (simp; omega) | omega)
        simp (maxDischargeDepth := 6) [go_sem, *] at k8_0 q8_0 k8_1 q8_1
        have HB8 := Lib.hid hb8
        clear hb8
        have V8 := Lib.hid ((ho8.set (p := ⟨w7.heap.size, 0, none⟩) (by simp) (.slice A8 512 d8)).ints (by decide)); clear ho8
        have Z8 := Lib.hid (((Z7.out.alloc (Nat.le_refl _) (.cells #[.slice A7 512 d7] 59)).below (HB8.out.mono (by simp))).setCell (p := ⟨w7.heap.size, 0, none⟩) (Nat.le_refl _) (.slice A8 512 d8))
        go_wp2_with fail
        refine (mem_Same _ _ _ _ _ _ ((xs.set i'.toNat v).set j'.toNat u) ((xs.set j'.toNat u).set i'.toNat v) _ (Z8.out.more (by simp; omega)) V8.out).mono ?_
        rintro e w9 ⟨rfl, hb9⟩
        have hz9 := hb9.size
        (try simp only [World.size_alloc, World.size_setCell, World.size_drew] at hz9)
        have HB9 := Lib.hid hb9
        clear hb9
        go_wp2_with fail
        go_ret
        exact ⟨rfl, by (repeat (first | (with_reducible exact Below.refl _ _) | (with_reducible refine Below.drew ?_) | (with_reducible refine bdrewN ?_ _) | ((with_reducible refine Below.setCell ?_ ?_ _); rotate_left; exact (by first | (simp; done) | (simp; omega) | omega)) | ((with_reducible refine Below.alloc ?_ ?_ _); rotate_left; exact (by first | (simp; done) | (simp; omega) | omega)) | ((with_reducible refine Below.trans ?_ (HB9.out.mono ?_)); rotate_left; exact (by first | (simp; done) | (simp; omega) | omega)) | ((with_reducible refine Below.trans ?_ (HB8.out.mono ?_)); rotate_left; exact (by first | (simp; done) | (simp; omega) | omega)) | ((with_reducible refine Below.trans ?_ (HB7.out.mono ?_)); rotate_left; exact (by first | (simp; done) | (simp; omega) | omega)) | ((with_reducible refine Below.trans ?_ (HB6.out.mono ?_)); rotate_left; exact (by first | (simp; done) | (simp; omega) | omega)) | ((with_reducible refine Below.trans ?_ (HB5.out.mono ?_)); rotate_left; exact (by first | (simp; done) | (simp; omega) | omega)) | ((with_reducible refine Below.trans ?_ (HB4.out.mono ?_)); rotate_left; exact (by first | (simp; done) | (simp; omega) | omega)) | ((with_reducible refine Below.trans ?_ (HB3.out.mono ?_)); rotate_left; exact (by first | (simp; done) | (simp; omega) | omega)) | ((with_reducible refine Below.trans ?_ (HB2.out.mono ?_)); rotate_left; exact (by first | (simp; done) | (simp; omega) | omega)) | ((with_reducible refine Below.trans ?_ (HB1.out.mono ?_)); rotate_left; exact (by first | (simp; done) | (simp; omega) | omega))))⟩
      · have HUU := Lib.hid hU
        have e2 : mwE (xs.set i'.toNat v) j' u = 2 := by
          by_cases hu : 0 ≤ u ∧ u ≤ 65535
          · exact absurd (mwE_0 H0'.out HBJ.out hu) hU
          · exact mwE_v H0'.out HBJ.out hu
        clear hU
        go_wp2_with fail
        refine (mem_Write_no _ _ _ (xs.set i'.toNat v) _ _ _ Y5.out HUU.out).mono ?_
        rintro e w6 ⟨rfl, hb6⟩
        have hz6 := hb6.size
        (try simp only [World.size_alloc, World.size_setCell, World.size_drew] at hz6)
        have HB6 := Lib.hid hb6
        clear hb6
        go_wp2_with fail
        go_ret
        exact ⟨rfl, by (repeat (first | (with_reducible exact Below.refl _ _) | (with_reducible refine Below.drew ?_) | (with_reducible refine bdrewN ?_ _) | ((with_reducible refine Below.setCell ?_ ?_ _); rotate_left; exact (by first | (simp; done) | (simp; omega) | omega)) | ((with_reducible refine Below.alloc ?_ ?_ _); rotate_left; exact (by first | (simp; done) | (simp; omega) | omega)) | ((with_reducible refine Below.trans ?_ (HB6.out.mono ?_)); rotate_left; exact (by first | (simp; done) | (simp; omega) | omega)) | ((with_reducible refine Below.trans ?_ (HB5.out.mono ?_)); rotate_left; exact (by first | (simp; done) | (simp; omega) | omega)) | ((with_reducible refine Below.trans ?_ (HB4.out.mono ?_)); rotate_left; exact (by first | (simp; done) | (simp; omega) | omega)) | ((with_reducible refine Below.trans ?_ (HB3.out.mono ?_)); rotate_left; exact (by first | (simp; done) | (simp; omega) | omega)) | ((with_reducible refine Below.trans ?_ (HB2.out.mono ?_)); rotate_left; exact (by first | (simp; done) | (simp; omega) | omega)) | ((with_reducible refine Below.trans ?_ (HB1.out.mono ?_)); rotate_left; exact (by first | (simp; done) | (simp; omega) | omega))))⟩
  · have hE1 : (mwE xs i' v != 0) = true := by rw [bne_iff_ne]; exact hE
    have HE := Lib.hid hE; clear hE
    go_enter Try.func11, Try.ntmps11
    go_wp2_with (first | (go_at_call 46; refine (law_at _ _ (by simp) _).mono ?_; rintro e w' ⟨rfl, rfl⟩; simp only [hi, hj]))
    refine (mem_Write_no _ _ _ xs _ _ _ ((HX.out.alloc (Nat.le_refl _) _).more (by simp)) HE.out).mono ?_
    rintro e w1 ⟨rfl, hb1⟩
    have hz1 := hb1.size
    (try simp only [World.size_alloc, World.size_setCell, World.size_drew] at hz1)
    have HB1 := Lib.hid hb1
    clear hb1
    go_wp2_with fail
    refine (law_stored _).mono ?_
    rintro e w2 ⟨rfl, hb2⟩
    have hz2 := hb2.size
    (try simp only [World.size_alloc, World.size_setCell, World.size_drew] at hz2)
    have HB2 := Lib.hid hb2
    clear hb2
    go_wp2_with fail
    refine (law_stored _).mono ?_
    rintro e w3 ⟨rfl, hb3⟩
    have hz3 := hb3.size
    (try simp only [World.size_alloc, World.size_setCell, World.size_drew] at hz3)
    have HB3 := Lib.hid hb3
    clear hb3
    go_wp2_with fail
    go_ret
    exact ⟨rfl, by (repeat (first | (with_reducible exact Below.refl _ _) | (with_reducible refine Below.drew ?_) | (with_reducible refine bdrewN ?_ _) | ((with_reducible refine Below.setCell ?_ ?_ _); rotate_left; exact (by first | (simp; done) | (simp; omega) | omega)) | ((with_reducible refine Below.alloc ?_ ?_ _); rotate_left; exact (by first | (simp; done) | (simp; omega) | omega)) | ((with_reducible refine Below.trans ?_ (HB3.out.mono ?_)); rotate_left; exact (by first | (simp; done) | (simp; omega) | omega)) | ((with_reducible refine Below.trans ?_ (HB2.out.mono ?_)); rotate_left; exact (by first | (simp; done) | (simp; omega) | omega)) | ((with_reducible refine Below.trans ?_ (HB1.out.mono ?_)); rotate_left; exact (by first | (simp; done) | (simp; omega) | omega))))⟩
end Go.Proofs.Ytbopdijnojaaiaa
