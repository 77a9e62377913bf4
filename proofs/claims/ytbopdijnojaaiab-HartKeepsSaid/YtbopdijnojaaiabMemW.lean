/- Memory: the walks of Read, Write, Same. No statement of the seat is proved here. -/
import Derived.Test.YtbopdijnojaaiabMem
namespace Go.Proofs.Ytbopdijnojaaiab
open Go.RowKit
set_option linter.unusedSimpArgs false
set_option linter.unusedVariables false

set_option maxRecDepth 100000 in
set_option maxHeartbeats 1000000 in
theorem mem_Read (A : Option Addr) (n c : Nat) (xs : List Int) (k : Int) (w : World) (h : Ints w w.heap.size A n xs) :
    Calls Try.prog 47 #[.agg #[.slice A n c], .int .i64 k] w fun e w' => e = .returned (.tuple #[.int .i64 (mrV xs k), .int .i64 (mrE xs k)]) ∧ Below w.heap.size w w' := by
  have HX := Lib.hid h
  have HI := Lib.hid ((h.alloc (Nat.le_refl _) (.cells #[.slice A n c] 24)).more (B' := (w.alloc (.cells #[.slice A n c] 24)).heap.size) (by simp))
  clear h
  by_cases h0 : cm xs = 0
  · have H0 := Lib.hid h0
    obtain ⟨hl, hin⟩ := cm_inv h0
    have hn : n = 512 := by rw [← HX.out.len]; exact hl
    subst hn
    have HIN := Lib.hid hin
    clear hl hin h0
    have hc0 : (cm xs != 0) = false := by simp [H0.out]
    by_cases hk : 0 ≤ k ∧ k < 512
    · have HK := Lib.hid hk
      obtain ⟨h1, h2⟩ := hk
      obtain ⟨b, off, rfl, hb, hc⟩ := HX.out.at_ (by omega)
      obtain ⟨x, hx⟩ := some_of_lt xs (k := k.toNat) (by rw [HX.out.len]; omega)
      have hcc := hc _ _ hx
      have HXX := Lib.hid hx
      clear hc hx
      go_enter Try.func47, Try.ntmps47
      go_wp2_with fail
      refine (mem_Check _ _ _ xs _ HI.out).mono ?_
      rintro e w1 ⟨rfl, hb1⟩
      have hz1 := hb1.size
      (try simp only [World.size_alloc, World.size_setCell, World.size_drew] at hz1)
      have k1_0 := fun o => (bcell hb1).1 (w.heap.size) o (by first | (simp; done) | (simp; omega) | omega)
      have l1_0 : (w.heap.size) < w1.heap.size := (by omega)
      have q1_0 := fun o => (bcell hb1).2 (w.heap.size) o (by first | (simp; done) | (simp; omega) | omega)
      have k1_1 := fun o => (bcell hb1).1 (b) o (by first | (simp; done) | (simp; omega) | omega)
      have l1_1 : (b) < w1.heap.size := (by omega)
      have q1_1 := fun o => (bcell hb1).2 (b) o (by first | (simp; done) | (simp; omega) | omega)
      simp (maxDischargeDepth := 6) [go_sem, *] at k1_0 q1_0 k1_1 q1_1
      have HB1 := Lib.hid hb1
      clear hb1
      go_wp2
      go_ret2
      exact ⟨ret_int2 (mrV_0 (mrE_0 H0.out HK.out) HXX.out).symm (mrE_0 H0.out HK.out).symm, by (repeat (first | (with_reducible exact Below.refl _ _) | (with_reducible refine Below.drew ?_) | (with_reducible refine bdrewN ?_ _) | ((with_reducible refine Below.setCell ?_ ?_ _); rotate_left; exact (by first | (simp; done) | (simp; omega) | omega)) | ((with_reducible refine Below.alloc ?_ ?_ _); rotate_left; exact (by first | (simp; done) | (simp; omega) | omega)) | ((with_reducible refine Below.trans ?_ (HB1.out.mono ?_)); rotate_left; exact (by first | (simp; done) | (simp; omega) | omega))))⟩
    · have HK := Lib.hid hk
      clear hk
      have hk2 : k < 0 ∨ 512 ≤ k := by have := HK.out; omega
      rcases hk2 with hk2 | hk2
      all_goals
        go_enter Try.func47, Try.ntmps47
        go_wp2_with fail
        refine (mem_Check _ _ _ xs _ HI.out).mono ?_
        rintro e w1 ⟨rfl, hb1⟩
        have hz1 := hb1.size
        (try simp only [World.size_alloc, World.size_setCell, World.size_drew] at hz1)
        have k1_0 := fun o => (bcell hb1).1 (w.heap.size) o (by first | (simp; done) | (simp; omega) | omega)
        have l1_0 : (w.heap.size) < w1.heap.size := (by omega)
        have q1_0 := fun o => (bcell hb1).2 (w.heap.size) o (by first | (simp; done) | (simp; omega) | omega)
        simp (maxDischargeDepth := 6) [go_sem, *] at k1_0 q1_0
        have HB1 := Lib.hid hb1
        clear hb1
        go_wp2
        go_ret2
        exact ⟨ret_int2 (mrV_n (mrE_r H0.out HK.out) (by decide)).symm (mrE_r H0.out HK.out).symm, by (repeat (first | (with_reducible exact Below.refl _ _) | (with_reducible refine Below.drew ?_) | (with_reducible refine bdrewN ?_ _) | ((with_reducible refine Below.setCell ?_ ?_ _); rotate_left; exact (by first | (simp; done) | (simp; omega) | omega)) | ((with_reducible refine Below.alloc ?_ ?_ _); rotate_left; exact (by first | (simp; done) | (simp; omega) | omega)) | ((with_reducible refine Below.trans ?_ (HB1.out.mono ?_)); rotate_left; exact (by first | (simp; done) | (simp; omega) | omega))))⟩
  · have H0 := Lib.hid h0
    have hc0 : (cm xs != 0) = true := by simp [h0]
    clear h0
    go_enter Try.func47, Try.ntmps47
    go_wp2_with fail
    refine (mem_Check _ _ _ xs _ HI.out).mono ?_
    rintro e w1 ⟨rfl, hb1⟩
    have hz1 := hb1.size
    (try simp only [World.size_alloc, World.size_setCell, World.size_drew] at hz1)
    have k1_0 := fun o => (bcell hb1).1 (w.heap.size) o (by first | (simp; done) | (simp; omega) | omega)
    have l1_0 : (w.heap.size) < w1.heap.size := (by omega)
    have q1_0 := fun o => (bcell hb1).2 (w.heap.size) o (by first | (simp; done) | (simp; omega) | omega)
    simp (maxDischargeDepth := 6) [go_sem, *] at k1_0 q1_0
    have HB1 := Lib.hid hb1
    clear hb1
    go_wp2
    go_ret2
    exact ⟨ret_int2 (mrV_n (mrE_c H0.out) H0.out).symm (mrE_c H0.out).symm, by (repeat (first | (with_reducible exact Below.refl _ _) | (with_reducible refine Below.drew ?_) | (with_reducible refine bdrewN ?_ _) | ((with_reducible refine Below.setCell ?_ ?_ _); rotate_left; exact (by first | (simp; done) | (simp; omega) | omega)) | ((with_reducible refine Below.alloc ?_ ?_ _); rotate_left; exact (by first | (simp; done) | (simp; omega) | omega)) | ((with_reducible refine Below.trans ?_ (HB1.out.mono ?_)); rotate_left; exact (by first | (simp; done) | (simp; omega) | omega))))⟩

set_option maxRecDepth 100000 in
set_option maxHeartbeats 1000000 in
theorem mem_Same (A B : Option Addr) (n m c d : Nat) (xs ys : List Int) (w : World) (hx : Ints w w.heap.size A n xs) (hy : Ints w w.heap.size B m ys) :
    Calls Try.prog 84 #[.agg #[.slice A n c], .agg #[.slice B m d]] w fun e w' => e = .returned (.bool (eqI xs ys)) ∧ Below w.heap.size w w' := by
  have HX := Lib.hid hx; clear hx
  have HY := Lib.hid hy; clear hy
  go_enter Try.func84, Try.ntmps84
  go_wp2_with fail
  refine (sl_Equal _ _ _ _ _ _ xs ys _ (((HX.out.alloc (Nat.le_refl _) _).alloc (by simp) _).more (by simp; omega)) (((HY.out.alloc (Nat.le_refl _) _).alloc (by simp) _).more (by simp; omega))).mono ?_
  rintro e w1 ⟨rfl, hb1⟩
  have hz1 := hb1.size
  (try simp only [World.size_alloc, World.size_setCell, World.size_drew] at hz1)
  have HB1 := Lib.hid hb1
  clear hb1
  go_wp2
  go_ret
  exact ⟨rfl, by (repeat (first | (with_reducible exact Below.refl _ _) | (with_reducible refine Below.drew ?_) | (with_reducible refine bdrewN ?_ _) | ((with_reducible refine Below.setCell ?_ ?_ _); rotate_left; exact (by first | (simp; done) | (simp; omega) | omega)) | ((with_reducible refine Below.alloc ?_ ?_ _); rotate_left; exact (by first | (simp; done) | (simp; omega) | omega)) | ((with_reducible refine Below.trans ?_ (HB1.out.mono ?_)); rotate_left; exact (by first | (simp; done) | (simp; omega) | omega))))⟩
end Go.Proofs.Ytbopdijnojaaiab
