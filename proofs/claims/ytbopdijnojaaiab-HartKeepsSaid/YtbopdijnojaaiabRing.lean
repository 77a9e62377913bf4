/- Rings: the walks of the program's Check, Length and both. No statement of the seat is proved here. -/
import Derived.Test.YtbopdijnojaaiabRingP
import Derived.Test.YtbopdijnojaaiabMem
namespace Go.Proofs.Ytbopdijnojaaiab
open Go.RowKit
set_option linter.unusedSimpArgs false
set_option linter.unusedVariables false

theorem OwnI.drew {B : Nat} {w : World} {A : Option Addr} {n c : Nat} {xs : List Int} (h : OwnI B w A n c xs) : OwnI B w.drew A n c xs := h
theorem OwnI.drewN {B : Nat} {w : World} {A : Option Addr} {n c : Nat} {xs : List Int} (h : OwnI B w A n c xs) (k : Nat) : OwnI B (w.drewN k) A n c xs := h
theorem tmod8 (d : Int) (h : -8 < d ∧ d < 8) : d.tmod 8 = d := by
  rcases Int.le_total 0 d with h0 | h0
  · rw [Int.tmod_eq_emod_of_nonneg h0]; omega
  · obtain ⟨m, rfl⟩ : ∃ m, d = -m := ⟨-d, by omega⟩
    rw [Int.neg_tmod, Int.tmod_eq_emod_of_nonneg (by omega)]; omega

set_option maxRecDepth 100000 in
set_option maxHeartbeats 1000000 in
theorem ring_Check (p h t : Int) (w : World) : Calls Try.prog 17 #[.agg #[.int .i64 p, .int .i64 h, .int .i64 t]] w fun e w' => e = .returned (.int .i64 (ckR ⟨p, h, t⟩)) ∧ Below w.heap.size w w' := by
  have HB := Lib.hid (below_alloc w)
  by_cases hr : ringR ⟨p, h, t⟩
  · rw [ckR_0 hr]
    unfold ringR at hr
    simp only [] at hr
    obtain ⟨⟨h1, h2⟩, ⟨h3, h4⟩, h5, h6⟩ := hr
    go_enter Try.func17, Try.ntmps17
    go_wp2
    go_ret
    exact ⟨rfl, HB.out _⟩
  · rw [ckR_2 hr]
    unfold ringR at hr
    simp only [] at hr
    have hr2 : p < 0 ∨ (0 ≤ p ∧ 64 ≤ p) ∨ (0 ≤ p ∧ p < 64 ∧ h < 0) ∨ (0 ≤ p ∧ p < 64 ∧ 0 ≤ h ∧ 8 ≤ h) ∨ (0 ≤ p ∧ p < 64 ∧ 0 ≤ h ∧ h < 8 ∧ t < 0) ∨ (0 ≤ p ∧ p < 64 ∧ 0 ≤ h ∧ h < 8 ∧ 0 ≤ t ∧ 8 ≤ t) := by omega
    clear hr
    rcases hr2 with hr | ⟨h1, hr⟩ | ⟨h1, h2, hr⟩ | ⟨h1, h2, h3, hr⟩ | ⟨h1, h2, h3, h4, hr⟩ | ⟨h1, h2, h3, h4, h5, hr⟩
    all_goals
      go_enter Try.func17, Try.ntmps17
      go_wp2
      go_ret
      exact ⟨rfl, HB.out _⟩

set_option maxRecDepth 100000 in
set_option maxHeartbeats 1000000 in
theorem ring_Length (p h t : Int) (hr : ringR ⟨p, h, t⟩) (w : World) : Calls Try.prog 18 #[.agg #[.int .i64 p, .int .i64 h, .int .i64 t]] w fun e w' => e = .returned (.int .i64 (lenR ⟨p, h, t⟩)) ∧ Below w.heap.size w w' := by
  have HB := Lib.hid (below_alloc w)
  unfold ringR at hr
  simp only [] at hr
  obtain ⟨⟨h1, h2⟩, ⟨h3, h4⟩, h5, h6⟩ := hr
  have ht := tmod8 (t - h) (by omega)
  have HE := Lib.hid (show (t - h + 8) % 8 = lenR ⟨p, h, t⟩ by unfold lenR; simp only []; omega)
  go_enter Try.func18, Try.ntmps18
  go_wp2
  go_ret
  exact ⟨ret_int HE.out, HB.out _⟩

set_option maxRecDepth 100000 in
set_option maxHeartbeats 1000000 in
theorem ring_both (A : Option Addr) (n c : Nat) (xs : List Int) (p h t : Int) (w : World) (hx : Ints w w.heap.size A n xs) :
    Calls Try.prog 68 #[.agg #[.slice A n c], .agg #[.int .i64 p, .int .i64 h, .int .i64 t]] w fun e w' => e = .returned (.int .i64 (bothE xs ⟨p, h, t⟩)) ∧ Below w.heap.size w w' := by
  have HX := Lib.hid hx
  by_cases h0 : cm xs = 0
  · have e : bothE xs ⟨p, h, t⟩ = ckR ⟨p, h, t⟩ := by unfold bothE; rw [if_pos h0]
    rw [e]
    have hc0 : (cm xs != 0) = false := by rw [bne_eq_false_iff_eq]; exact h0
    clear hx h0 e
    go_enter Try.func68, Try.ntmps68
    go_wp2_with fail
    refine (mem_Check _ _ _ xs _ (((HX.out.alloc (Nat.le_refl _) _).alloc (by simp) _).more (by simp; omega))).mono ?_
    rintro e w1 ⟨rfl, hb1⟩
    have hz1 := hb1.size
    (try simp only [World.size_alloc, World.size_setCell, World.size_drew] at hz1)
    have k1_0 := fun o => (bcell hb1).1 (w.heap.size + 1) o (by first | (simp; done) | (simp; omega) | omega)
    have l1_0 : (w.heap.size + 1) < w1.heap.size := (by omega)
    have q1_0 := fun o => (bcell hb1).2 (w.heap.size + 1) o (by first | (simp; done) | (simp; omega) | omega)
    simp (maxDischargeDepth := 6) [go_sem, *] at k1_0 q1_0
    have HB1 := Lib.hid hb1
    clear hb1
    go_wp2_with fail
    refine (ring_Check _ _ _ _).mono ?_
    rintro e w2 ⟨rfl, hb2⟩
    have hz2 := hb2.size
    (try simp only [World.size_alloc, World.size_setCell, World.size_drew] at hz2)
    have HB2 := Lib.hid hb2
    clear hb2
    go_wp2
    go_ret
    exact ⟨rfl, by (repeat (first | (with_reducible exact Below.refl _ _) | (with_reducible refine Below.drew ?_) | (with_reducible refine bdrewN ?_ _) | ((with_reducible refine Below.setCell ?_ ?_ _); rotate_left; exact (by first | (simp; done) | (simp; omega) | omega)) | ((with_reducible refine Below.alloc ?_ ?_ _); rotate_left; exact (by first | (simp; done) | (simp; omega) | omega)) | ((with_reducible refine Below.trans ?_ (HB2.out.mono ?_)); rotate_left; exact (by first | (simp; done) | (simp; omega) | omega)) | ((with_reducible refine Below.trans ?_ (HB1.out.mono ?_)); rotate_left; exact (by first | (simp; done) | (simp; omega) | omega))))⟩
  · have e : bothE xs ⟨p, h, t⟩ = cm xs := by unfold bothE; rw [if_neg h0]
    rw [e]
    have hc0 : (cm xs != 0) = true := by rw [bne_iff_ne]; exact h0
    clear hx h0 e
    go_enter Try.func68, Try.ntmps68
    go_wp2_with fail
    refine (mem_Check _ _ _ xs _ (((HX.out.alloc (Nat.le_refl _) _).alloc (by simp) _).more (by simp; omega))).mono ?_
    rintro e w1 ⟨rfl, hb1⟩
    have hz1 := hb1.size
    (try simp only [World.size_alloc, World.size_setCell, World.size_drew] at hz1)
    have k1_0 := fun o => (bcell hb1).1 (w.heap.size + 1) o (by first | (simp; done) | (simp; omega) | omega)
    have l1_0 : (w.heap.size + 1) < w1.heap.size := (by omega)
    have q1_0 := fun o => (bcell hb1).2 (w.heap.size + 1) o (by first | (simp; done) | (simp; omega) | omega)
    simp (maxDischargeDepth := 6) [go_sem, *] at k1_0 q1_0
    have HB1 := Lib.hid hb1
    clear hb1
    go_wp2
    go_ret
    exact ⟨rfl, by (repeat (first | (with_reducible exact Below.refl _ _) | (with_reducible refine Below.drew ?_) | (with_reducible refine bdrewN ?_ _) | ((with_reducible refine Below.setCell ?_ ?_ _); rotate_left; exact (by first | (simp; done) | (simp; omega) | omega)) | ((with_reducible refine Below.alloc ?_ ?_ _); rotate_left; exact (by first | (simp; done) | (simp; omega) | omega)) | ((with_reducible refine Below.trans ?_ (HB1.out.mono ?_)); rotate_left; exact (by first | (simp; done) | (simp; omega) | omega))))⟩
end Go.Proofs.Ytbopdijnojaaiab
