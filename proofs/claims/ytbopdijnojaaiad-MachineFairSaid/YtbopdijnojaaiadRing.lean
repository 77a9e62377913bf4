/- Rings: the walks of the program's Push and Pop. No statement of the seat is proved here. -/
import Derived.Test.YtbopdijnojaaiadBase
import Derived.Test.YtbopdijnojaaiadMem
import Derived.Test.YtbopdijnojaaiadSlices
import Derived.RegionTactic
namespace Go.Proofs.Ytbopdijnojaaiad
open Go.RowKit
set_option linter.unusedSimpArgs false
set_option linter.unusedVariables false

section
section
theorem OwnI.drew {B : Nat} {w : World} {A : Option Addr} {n c : Nat} {xs : List Int} (h : OwnI B w A n c xs) : OwnI B w.drew A n c xs := h
theorem OwnI.drewN {B : Nat} {w : World} {A : Option Addr} {n c : Nat} {xs : List Int} (h : OwnI B w A n c xs) (k : Nat) : OwnI B (w.drewN k) A n c xs := h
theorem tmod8 (d : Int) (h : -8 < d ∧ d < 8) : d.tmod 8 = d := by
  rcases Int.le_total 0 d with h0 | h0
  · rw [Int.tmod_eq_emod_of_nonneg h0]; omega
  · obtain ⟨m, rfl⟩ : ∃ m, d = -m := ⟨-d, by omega⟩
    rw [Int.neg_tmod, Int.tmod_eq_emod_of_nonneg (by omega)]; omega

set_option maxRecDepth 100000 in
set_option maxHeartbeats 1000000 in
theorem ring_Check (p h t : Int) (w : World) : Calls Try.prog 33 #[.agg #[.int .i64 p, .int .i64 h, .int .i64 t]] w fun e w' => e = .returned (.int .i64 (ckR ⟨p, h, t⟩)) ∧ Below w.heap.size w w' := by
  have HB := Lib.hid (below_alloc w)
  by_cases hr : ringR ⟨p, h, t⟩
  · rw [ckR_0 hr]
    unfold ringR at hr
    simp only [] at hr
    obtain ⟨⟨h1, h2⟩, ⟨h3, h4⟩, h5, h6⟩ := hr
    go_enter Try.func33, Try.ntmps33
    go_wp2
    go_ret
    exact ⟨rfl, HB.out _⟩
  · rw [ckR_2 hr]
    unfold ringR at hr
    simp only [] at hr
    have hr2 : p < 0 ∨ (0 ≤ p ∧ 64 ≤ p) ∨ (0 ≤ p ∧ p < 64 ∧ h < 0) ∨ (0 ≤ p ∧ p < 64 ∧ 0 ≤ h ∧ 8 ≤ h) ∨ (0 ≤ p ∧ p < 64 ∧ 0 ≤ h ∧ h < 8 ∧ t < 0) ∨ (0 ≤ p ∧ p < 64 ∧ 0 ≤ h ∧ h < 8 ∧ 0 ≤ t ∧ 8 ≤ t) := by omega
    clear hr
    rcases hr2 with hr | ⟨h1, hr⟩ | ⟨h1, h2, hr⟩ | ⟨h1, h2, h3, hr⟩ | ⟨h1, h2, h3, h4, hr⟩ | ⟨h1, h2, h3, h4, h5, hr⟩
    all_goals
      go_enter Try.func33, Try.ntmps33
      go_wp2
      go_ret
      exact ⟨rfl, HB.out _⟩

set_option maxRecDepth 100000 in
set_option maxHeartbeats 1000000 in
theorem ring_Length (p h t : Int) (hr : ringR ⟨p, h, t⟩) (w : World) : Calls Try.prog 44 #[.agg #[.int .i64 p, .int .i64 h, .int .i64 t]] w fun e w' => e = .returned (.int .i64 (lenR ⟨p, h, t⟩)) ∧ Below w.heap.size w w' := by
  have HB := Lib.hid (below_alloc w)
  unfold ringR at hr
  simp only [] at hr
  obtain ⟨⟨h1, h2⟩, ⟨h3, h4⟩, h5, h6⟩ := hr
  have ht := tmod8 (t - h) (by omega)
  have HE := Lib.hid (show (t - h + 8) % 8 = lenR ⟨p, h, t⟩ by unfold lenR; simp only []; omega)
  go_enter Try.func44, Try.ntmps44
  go_wp2
  go_ret
  exact ⟨ret_int HE.out, HB.out _⟩

set_option maxRecDepth 100000 in
set_option maxHeartbeats 1000000 in
theorem ring_both (A : Option Addr) (n c : Nat) (xs : List Int) (p h t : Int) (w : World) (hx : Ints w w.heap.size A n xs) :
    Calls Try.prog 43 #[.agg #[.slice A n c], .agg #[.int .i64 p, .int .i64 h, .int .i64 t]] w fun e w' => e = .returned (.int .i64 (bothE xs ⟨p, h, t⟩)) ∧ Below w.heap.size w w' := by
  have HX := Lib.hid hx
  by_cases h0 : cm xs = 0
  · have e : bothE xs ⟨p, h, t⟩ = ckR ⟨p, h, t⟩ := by unfold bothE; rw [if_pos h0]
    rw [e]
    have hc0 : (cm xs != 0) = false := by rw [bne_eq_false_iff_eq]; exact h0
    clear hx h0 e
    go_enter Try.func43, Try.ntmps43
    go_wp2_with fail
    refine (mem_Check _ _ _ xs _ (((HX.out.alloc (Nat.le_refl _) _).alloc (by simp) _).more (by simp; omega))).mono ?_
    rintro e w1 ⟨rfl, hb1⟩
    have hz1 := hb1.size
    (try simp only [World.size_alloc, World.size_setCell, World.size_drew] at hz1)
    have k1_0 := fun o => (bcell hb1).1 (w.heap.size + 1) o (by first | (simp; done) | (simp; omega) | omega)
    have l1_0 : (w.heap.size + 1) < w1.heap.size := (by omega)
    have q1_0 := fun o => (bcell hb1).2 (w.heap.size + 1) o (by first | (simp; done) | (simp; omega) | omega)
    simp (maxDischargeDepth := 6) [go_sem, *] at k1_0 q1_0
    have HB1 := Lib.hid hb1
    clear hb1
    go_wp2_with fail
    refine (ring_Check _ _ _ _).mono ?_
    rintro e w2 ⟨rfl, hb2⟩
    have hz2 := hb2.size
    (try simp only [World.size_alloc, World.size_setCell, World.size_drew] at hz2)
    have HB2 := Lib.hid hb2
    clear hb2
    go_wp2
    go_ret
    exact ⟨rfl, by (repeat (first | (with_reducible exact Below.refl _ _) | (with_reducible refine Below.drew ?_) | (with_reducible refine bdrewN ?_ _) | ((with_reducible refine Below.setCell ?_ ?_ _); rotate_left; exact (by first | (simp; done) | (simp; omega) | omega)) | ((with_reducible refine Below.alloc ?_ ?_ _); rotate_left; exact (by first | (simp; done) | (simp; omega) | omega)) | ((with_reducible refine Below.trans ?_ (HB2.out.mono ?_)); rotate_left; exact (by first | (simp; done) | (simp; omega) | omega)) | ((with_reducible refine Below.trans ?_ (HB1.out.mono ?_)); rotate_left; exact (by first | (simp; done) | (simp; omega) | omega))))⟩
  · have e : bothE xs ⟨p, h, t⟩ = cm xs := by unfold bothE; rw [if_neg h0]
    rw [e]
    have hc0 : (cm xs != 0) = true := by rw [bne_iff_ne]; exact h0
    clear hx h0 e
    go_enter Try.func43, Try.ntmps43
    go_wp2_with fail
    refine (mem_Check _ _ _ xs _ (((HX.out.alloc (Nat.le_refl _) _).alloc (by simp) _).more (by simp; omega))).mono ?_
    rintro e w1 ⟨rfl, hb1⟩
    have hz1 := hb1.size
    (try simp only [World.size_alloc, World.size_setCell, World.size_drew] at hz1)
    have k1_0 := fun o => (bcell hb1).1 (w.heap.size + 1) o (by first | (simp; done) | (simp; omega) | omega)
    have l1_0 : (w.heap.size + 1) < w1.heap.size := (by omega)
    have q1_0 := fun o => (bcell hb1).2 (w.heap.size + 1) o (by first | (simp; done) | (simp; omega) | omega)
    simp (maxDischargeDepth := 6) [go_sem, *] at k1_0 q1_0
    have HB1 := Lib.hid hb1
    clear hb1
    go_wp2
    go_ret
    exact ⟨rfl, by (repeat (first | (with_reducible exact Below.refl _ _) | (with_reducible refine Below.drew ?_) | (with_reducible refine bdrewN ?_ _) | ((with_reducible refine Below.setCell ?_ ?_ _); rotate_left; exact (by first | (simp; done) | (simp; omega) | omega)) | ((with_reducible refine Below.alloc ?_ ?_ _); rotate_left; exact (by first | (simp; done) | (simp; omega) | omega)) | ((with_reducible refine Below.trans ?_ (HB1.out.mono ?_)); rotate_left; exact (by first | (simp; done) | (simp; omega) | omega))))⟩
end

section
set_option maxRecDepth 100000 in
set_option maxHeartbeats 4000000 in
theorem ring_Pop_no (A : Option Addr) (n c : Nat) (xs : List Int) (p h t : Int) (w : World) (hx : Ints w w.heap.size A n xs) (hE : popE xs ⟨p, h, t⟩ ≠ 0) :
    Calls Try.prog 28 #[.agg #[.slice A n c], .agg #[.int .i64 p, .int .i64 h, .int .i64 t]] w fun e w' => e = .returned (.tuple #[.int .i64 0, .agg #[.int .i64 0, .int .i64 0, .int .i64 0], .int .i64 (popE xs ⟨p, h, t⟩)]) ∧ Below w.heap.size w w' := by
  have HX := Lib.hid hx
  have HE := Lib.hid hE
  clear hE
  by_cases hb : bothE xs ⟨p, h, t⟩ = 0
  · have hb0 : (bothE xs ⟨p, h, t⟩ != 0) = false := by rw [bne_eq_false_iff_eq]; exact hb
    have HR := Lib.hid (bothE_inv hb).2
    by_cases hl : lenR ⟨p, h, t⟩ = 0
    · rw [popE_6 hb hl]
      clear hb hx
      go_enter Try.func28, Try.ntmps28
      go_wp2_with fail
      refine (ring_both _ _ _ xs p h t _ ((HX.out.alloc (Nat.le_refl _) _ |>.alloc (by simp) _ |>.alloc (by simp; omega) _).more (by simp; omega))).mono ?_
      rintro e w1 ⟨rfl, hb1⟩
      have hz1 := hb1.size
      (try simp only [World.size_alloc, World.size_setCell, World.size_drew] at hz1)
      have k1_0 := fun o => (bcell hb1).1 (w.heap.size + 1) o (by first | (simp; done) | (simp; omega) | omega)
      have l1_0 : (w.heap.size + 1) < w1.heap.size := (by omega)
      have q1_0 := fun o => (bcell hb1).2 (w.heap.size + 1) o (by first | (simp; done) | (simp; omega) | omega)
      have k1_1 := fun o => (bcell hb1).1 (w.heap.size + 1 + 1) o (by first | (simp; done) | (simp; omega) | omega)
      have l1_1 : (w.heap.size + 1 + 1) < w1.heap.size := (by omega)
      have q1_1 := fun o => (bcell hb1).2 (w.heap.size + 1 + 1) o (by first | (simp; done) | (simp; omega) | omega)
      simp (maxDischargeDepth := 6) [go_sem, *] at k1_0 q1_0 k1_1 q1_1
      have HB1 := Lib.hid hb1
      clear hb1
      go_wp2_with fail
      refine (ring_Length p h t HR.out _).mono ?_
      rintro e w2 ⟨rfl, hb2⟩
      have hz2 := hb2.size
      (try simp only [World.size_alloc, World.size_setCell, World.size_drew] at hz2)
      have k2_0 := fun o => (bcell hb2).1 (w.heap.size + 1 + 1) o (by first | (simp; done) | (simp; omega) | omega)
      have l2_0 : (w.heap.size + 1 + 1) < w2.heap.size := (by omega)
      have q2_0 := fun o => (bcell hb2).2 (w.heap.size + 1 + 1) o (by first | (simp; done) | (simp; omega) | omega)
      simp (maxDischargeDepth := 6) [go_sem, *] at k2_0 q2_0
      have HB2 := Lib.hid hb2
      clear hb2
      go_wp2_with fail
      all_goals (try go_region)
      all_goals (try go_wp2)
      all_goals
        refine bodyPost_ret (v := .tuple #[.int .i64 0, .agg #[.int .i64 0, .int .i64 0, .int .i64 0], .int .i64 6]) ?_ rfl ⟨rfl, ?_⟩
        · simp (maxDischargeDepth := 8) [results, Try.results28, go_sem, *]
        · (repeat (first | (with_reducible exact Below.refl _ _) | (with_reducible refine Below.drew ?_) | (with_reducible refine bdrewN ?_ _) | ((with_reducible refine Below.setCell ?_ ?_ _); rotate_left; exact (by first | (simp; done) | (simp; omega) | omega)) | ((with_reducible refine Below.alloc ?_ ?_ _); rotate_left; exact (by first | (simp; done) | (simp; omega) | omega)) | ((with_reducible refine Below.trans ?_ (HB2.out.mono ?_)); rotate_left; exact (by first | (simp; done) | (simp; omega) | omega)) | ((with_reducible refine Below.trans ?_ (HB1.out.mono ?_)); rotate_left; exact (by first | (simp; done) | (simp; omega) | omega))))
    · exact absurd (popE_0 hb hl) HE.out
  · rw [popE_b hb]
    have hb0 : (bothE xs ⟨p, h, t⟩ != 0) = true := by rw [bne_iff_ne]; exact hb
    clear hb hx
    go_enter Try.func28, Try.ntmps28
    go_wp2_with fail
    refine (ring_both _ _ _ xs p h t _ ((HX.out.alloc (Nat.le_refl _) _ |>.alloc (by simp) _ |>.alloc (by simp; omega) _).more (by simp; omega))).mono ?_
    rintro e w1 ⟨rfl, hb1⟩
    have hz1 := hb1.size
    (try simp only [World.size_alloc, World.size_setCell, World.size_drew] at hz1)
    have k1_0 := fun o => (bcell hb1).1 (w.heap.size + 1 + 1) o (by first | (simp; done) | (simp; omega) | omega)
    have l1_0 : (w.heap.size + 1 + 1) < w1.heap.size := (by omega)
    have q1_0 := fun o => (bcell hb1).2 (w.heap.size + 1 + 1) o (by first | (simp; done) | (simp; omega) | omega)
    simp (maxDischargeDepth := 6) [go_sem, *] at k1_0 q1_0
    have HB1 := Lib.hid hb1
    clear hb1
    go_wp2_with fail
    all_goals (try go_region)
    all_goals (try go_wp2)
    all_goals
      refine bodyPost_ret (v := .tuple #[.int .i64 0, .agg #[.int .i64 0, .int .i64 0, .int .i64 0], .int .i64 (bothE xs ⟨p, h, t⟩)]) ?_ rfl ⟨rfl, ?_⟩
      · simp (maxDischargeDepth := 8) [results, Try.results28, go_sem, *]
      · (repeat (first | (with_reducible exact Below.refl _ _) | (with_reducible refine Below.drew ?_) | (with_reducible refine bdrewN ?_ _) | ((with_reducible refine Below.setCell ?_ ?_ _); rotate_left; exact (by first | (simp; done) | (simp; omega) | omega)) | ((with_reducible refine Below.alloc ?_ ?_ _); rotate_left; exact (by first | (simp; done) | (simp; omega) | omega)) | ((with_reducible refine Below.trans ?_ (HB1.out.mono ?_)); rotate_left; exact (by first | (simp; done) | (simp; omega) | omega))))

set_option maxRecDepth 100000 in
set_option maxHeartbeats 4000000 in
theorem ring_Pop (A : Option Addr) (n c : Nat) (xs : List Int) (p h t : Int) (w : World) (hx : Ints w w.heap.size A n xs) (hE : popE xs ⟨p, h, t⟩ = 0) :
    Calls Try.prog 28 #[.agg #[.slice A n c], .agg #[.int .i64 p, .int .i64 h, .int .i64 t]] w fun e w' => e = .returned (.tuple #[.int .i64 (popV xs ⟨p, h, t⟩), .agg #[.int .i64 p, .int .i64 ((h + 1) % 8), .int .i64 t], .int .i64 0]) ∧ Below w.heap.size w w' := by
  obtain ⟨hb, hl⟩ := popE_inv hE
  obtain ⟨h0, hr⟩ := bothE_inv hb
  have hn : n = 512 := by rw [← hx.len]; exact (cm_inv h0).1
  subst hn
  have HX := Lib.hid hx
  have HR := Lib.hid hr
  have hb0 : (bothE xs ⟨p, h, t⟩ != 0) = false := by rw [bne_eq_false_iff_eq]; exact hb
  have hl0 : (lenR ⟨p, h, t⟩ == 0) = false := by rw [beq_eq_false_iff_ne]; exact hl
  unfold ringR at hr
  simp only [] at hr
  obtain ⟨⟨h1, h2⟩, ⟨h3, h4⟩, h5, h6⟩ := hr
  have hv := rd_at (xs := xs) (i := p * 8 + h) (cm_inv h0).1 (by omega)
  obtain ⟨b, off, rfl, hbb, hc⟩ := hx.at_ (by omega)
  have hcv := hc _ _ hv
  rw [show rd xs (p * 8 + h) = popV xs ⟨p, h, t⟩ from rfl] at hcv
  generalize popV xs ⟨p, h, t⟩ = x at *
  clear hb h0 hx hE hl hv hc
  go_enter Try.func28, Try.ntmps28
  go_wp2_with fail
  refine (ring_both _ _ _ xs p h t _ ((HX.out.alloc (Nat.le_refl _) _ |>.alloc (by simp) _ |>.alloc (by simp; omega) _).more (by simp; omega))).mono ?_
  rintro e w1 ⟨rfl, hb1⟩
  have hz1 := hb1.size
  (try simp only [World.size_alloc, World.size_setCell, World.size_drew] at hz1)
  have k1_0 := fun o => (bcell hb1).1 (w.heap.size) o (by first | (simp; done) | (simp; omega) | omega)
  have l1_0 : (w.heap.size) < w1.heap.size := (by omega)
  have q1_0 := fun o => (bcell hb1).2 (w.heap.size) o (by first | (simp; done) | (simp; omega) | omega)
  have k1_1 := fun o => (bcell hb1).1 (w.heap.size + 1) o (by first | (simp; done) | (simp; omega) | omega)
  have l1_1 : (w.heap.size + 1) < w1.heap.size := (by omega)
  have q1_1 := fun o => (bcell hb1).2 (w.heap.size + 1) o (by first | (simp; done) | (simp; omega) | omega)
  have k1_2 := fun o => (bcell hb1).1 (w.heap.size + 1 + 1) o (by first | (simp; done) | (simp; omega) | omega)
  have l1_2 : (w.heap.size + 1 + 1) < w1.heap.size := (by omega)
  have q1_2 := fun o => (bcell hb1).2 (w.heap.size + 1 + 1) o (by first | (simp; done) | (simp; omega) | omega)
  have k1_3 := fun o => (bcell hb1).1 (b) o (by first | (simp; done) | (simp; omega) | omega)
  have l1_3 : (b) < w1.heap.size := (by omega)
  have q1_3 := fun o => (bcell hb1).2 (b) o (by first | (simp; done) | (simp; omega) | omega)
  simp (maxDischargeDepth := 6) [go_sem, *] at k1_0 q1_0 k1_1 q1_1 k1_2 q1_2 k1_3 q1_3
  have HB1 := Lib.hid hb1
  clear hb1
  go_wp2_with fail
  refine (ring_Length p h t HR.out _).mono ?_
  rintro e w2 ⟨rfl, hb2⟩
  have hz2 := hb2.size
  (try simp only [World.size_alloc, World.size_setCell, World.size_drew] at hz2)
  have k2_0 := fun o => (bcell hb2).1 (w.heap.size) o (by first | (simp; done) | (simp; omega) | omega)
  have l2_0 : (w.heap.size) < w2.heap.size := (by omega)
  have q2_0 := fun o => (bcell hb2).2 (w.heap.size) o (by first | (simp; done) | (simp; omega) | omega)
  have k2_1 := fun o => (bcell hb2).1 (w.heap.size + 1) o (by first | (simp; done) | (simp; omega) | omega)
  have l2_1 : (w.heap.size + 1) < w2.heap.size := (by omega)
  have q2_1 := fun o => (bcell hb2).2 (w.heap.size + 1) o (by first | (simp; done) | (simp; omega) | omega)
  have k2_2 := fun o => (bcell hb2).1 (w.heap.size + 1 + 1) o (by first | (simp; done) | (simp; omega) | omega)
  have l2_2 : (w.heap.size + 1 + 1) < w2.heap.size := (by omega)
  have q2_2 := fun o => (bcell hb2).2 (w.heap.size + 1 + 1) o (by first | (simp; done) | (simp; omega) | omega)
  have k2_3 := fun o => (bcell hb2).1 (b) o (by first | (simp; done) | (simp; omega) | omega)
  have l2_3 : (b) < w2.heap.size := (by omega)
  have q2_3 := fun o => (bcell hb2).2 (b) o (by first | (simp; done) | (simp; omega) | omega)
  simp (maxDischargeDepth := 6) [go_sem, *] at k2_0 q2_0 k2_1 q2_1 k2_2 q2_2 k2_3 q2_3
  have HB2 := Lib.hid hb2
  clear hb2
  go_wp2_with fail
  all_goals (try go_region)
  all_goals (try go_wp2)
  all_goals
    refine bodyPost_ret (v := .tuple #[.int .i64 x, .agg #[.int .i64 p, .int .i64 ((h + 1) % 8), .int .i64 t], .int .i64 0]) ?_ rfl ⟨rfl, ?_⟩
    · simp (maxDischargeDepth := 8) [results, Try.results28, go_sem, *]
    · (repeat (first | (with_reducible exact Below.refl _ _) | (with_reducible refine Below.drew ?_) | (with_reducible refine bdrewN ?_ _) | ((with_reducible refine Below.setCell ?_ ?_ _); rotate_left; exact (by first | (simp; done) | (simp; omega) | omega)) | ((with_reducible refine Below.alloc ?_ ?_ _); rotate_left; exact (by first | (simp; done) | (simp; omega) | omega)) | ((with_reducible refine Below.trans ?_ (HB2.out.mono ?_)); rotate_left; exact (by first | (simp; done) | (simp; omega) | omega)) | ((with_reducible refine Below.trans ?_ (HB1.out.mono ?_)); rotate_left; exact (by first | (simp; done) | (simp; omega) | omega))))

end
end

section
set_option maxRecDepth 100000 in
set_option maxHeartbeats 4000000 in
theorem ring_Push_no (A : Option Addr) (n c : Nat) (xs : List Int) (p h t v : Int) (w : World) (hx : Ints w w.heap.size A n xs) (hE : pushE xs ⟨p, h, t⟩ v ≠ 0) :
    Calls Try.prog 64 #[.agg #[.slice A n c], .agg #[.int .i64 p, .int .i64 h, .int .i64 t], .int .i64 v] w fun e w' => e = .returned (.tuple #[.agg #[.slice none 0 0], .agg #[.int .i64 0, .int .i64 0, .int .i64 0], .int .i64 (pushE xs ⟨p, h, t⟩ v)]) ∧ Below w.heap.size w w' := by
  have HX := Lib.hid hx
  have HE := Lib.hid hE
  clear hE
  by_cases hb : bothE xs ⟨p, h, t⟩ = 0
  · have hb0 : (bothE xs ⟨p, h, t⟩ != 0) = false := by rw [bne_eq_false_iff_eq]; exact hb
    have HR := Lib.hid (bothE_inv hb).2
    by_cases hv : 0 ≤ v ∧ v ≤ 65535
    · by_cases hl : lenR ⟨p, h, t⟩ = 7
      · rw [pushE_m hb hv hl]
        obtain ⟨h1, h2⟩ := hv
        clear hb hx
        go_enter Try.func64, Try.ntmps64
        go_wp2_with fail
        refine (ring_both _ _ _ xs p h t _ ((HX.out.alloc (Nat.le_refl _) _ |>.alloc (by simp) _ |>.alloc (by simp; omega) _ |>.alloc (by simp; omega) _).more (by simp; omega))).mono ?_
        rintro e w1 ⟨rfl, hb1⟩
        have hz1 := hb1.size
        (try simp only [World.size_alloc, World.size_setCell, World.size_drew] at hz1)
        have k1_0 := fun o => (bcell hb1).1 (w.heap.size + 1) o (by first | (simp; done) | (simp; omega) | omega)
        have l1_0 : (w.heap.size + 1) < w1.heap.size := (by omega)
        have q1_0 := fun o => (bcell hb1).2 (w.heap.size + 1) o (by first | (simp; done) | (simp; omega) | omega)
        have k1_1 := fun o => (bcell hb1).1 (w.heap.size + 1 + 1) o (by first | (simp; done) | (simp; omega) | omega)
        have l1_1 : (w.heap.size + 1 + 1) < w1.heap.size := (by omega)
        have q1_1 := fun o => (bcell hb1).2 (w.heap.size + 1 + 1) o (by first | (simp; done) | (simp; omega) | omega)
        have k1_2 := fun o => (bcell hb1).1 (w.heap.size + 1 + 1 + 1) o (by first | (simp; done) | (simp; omega) | omega)
        have l1_2 : (w.heap.size + 1 + 1 + 1) < w1.heap.size := (by omega)
        have q1_2 := fun o => (bcell hb1).2 (w.heap.size + 1 + 1 + 1) o (by first | (simp; done) | (simp; omega) | omega)
        simp (maxDischargeDepth := 6) [go_sem, *] at k1_0 q1_0 k1_1 q1_1 k1_2 q1_2
        have HB1 := Lib.hid hb1
        clear hb1
        go_wp2_with fail
        refine (ring_Length p h t HR.out _).mono ?_
        rintro e w2 ⟨rfl, hb2⟩
        have hz2 := hb2.size
        (try simp only [World.size_alloc, World.size_setCell, World.size_drew] at hz2)
        have k2_0 := fun o => (bcell hb2).1 (w.heap.size + 1 + 1) o (by first | (simp; done) | (simp; omega) | omega)
        have l2_0 : (w.heap.size + 1 + 1) < w2.heap.size := (by omega)
        have q2_0 := fun o => (bcell hb2).2 (w.heap.size + 1 + 1) o (by first | (simp; done) | (simp; omega) | omega)
        have k2_1 := fun o => (bcell hb2).1 (w.heap.size + 1 + 1 + 1) o (by first | (simp; done) | (simp; omega) | omega)
        have l2_1 : (w.heap.size + 1 + 1 + 1) < w2.heap.size := (by omega)
        have q2_1 := fun o => (bcell hb2).2 (w.heap.size + 1 + 1 + 1) o (by first | (simp; done) | (simp; omega) | omega)
        simp (maxDischargeDepth := 6) [go_sem, *] at k2_0 q2_0 k2_1 q2_1
        have HB2 := Lib.hid hb2
        clear hb2
        go_wp2_with fail
        all_goals (try go_region)
        all_goals (try go_wp2)
        all_goals
          refine bodyPost_ret (v := .tuple #[.agg #[.slice none 0 0], .agg #[.int .i64 0, .int .i64 0, .int .i64 0], .int .i64 1]) ?_ rfl ⟨rfl, ?_⟩
          · simp (maxDischargeDepth := 8) [results, Try.results64, go_sem, *]
          · (repeat (first | (with_reducible exact Below.refl _ _) | (with_reducible refine Below.drew ?_) | (with_reducible refine bdrewN ?_ _) | ((with_reducible refine Below.setCell ?_ ?_ _); rotate_left; exact (by first | (simp; done) | (simp; omega) | omega)) | ((with_reducible refine Below.alloc ?_ ?_ _); rotate_left; exact (by first | (simp; done) | (simp; omega) | omega)) | ((with_reducible refine Below.trans ?_ (HB2.out.mono ?_)); rotate_left; exact (by first | (simp; done) | (simp; omega) | omega)) | ((with_reducible refine Below.trans ?_ (HB1.out.mono ?_)); rotate_left; exact (by first | (simp; done) | (simp; omega) | omega))))
      · exact absurd (pushE_0 hb hv hl) HE.out
    · rw [pushE_v hb hv]
      have hv2 : v < 0 ∨ (0 ≤ v ∧ 65535 < v) := by omega
      clear hb hx hv
      rcases hv2 with hv2 | ⟨hv2, hv3⟩
      all_goals
        go_enter Try.func64, Try.ntmps64
        go_wp2_with fail
        refine (ring_both _ _ _ xs p h t _ ((HX.out.alloc (Nat.le_refl _) _ |>.alloc (by simp) _ |>.alloc (by simp; omega) _ |>.alloc (by simp; omega) _).more (by simp; omega))).mono ?_
        rintro e w1 ⟨rfl, hb1⟩
        have hz1 := hb1.size
        (try simp only [World.size_alloc, World.size_setCell, World.size_drew] at hz1)
        have k1_0 := fun o => (bcell hb1).1 (w.heap.size + 1 + 1) o (by first | (simp; done) | (simp; omega) | omega)
        have l1_0 : (w.heap.size + 1 + 1) < w1.heap.size := (by omega)
        have q1_0 := fun o => (bcell hb1).2 (w.heap.size + 1 + 1) o (by first | (simp; done) | (simp; omega) | omega)
        have k1_1 := fun o => (bcell hb1).1 (w.heap.size + 1 + 1 + 1) o (by first | (simp; done) | (simp; omega) | omega)
        have l1_1 : (w.heap.size + 1 + 1 + 1) < w1.heap.size := (by omega)
        have q1_1 := fun o => (bcell hb1).2 (w.heap.size + 1 + 1 + 1) o (by first | (simp; done) | (simp; omega) | omega)
        simp (maxDischargeDepth := 6) [go_sem, *] at k1_0 q1_0 k1_1 q1_1
        have HB1 := Lib.hid hb1
        clear hb1
        go_wp2_with fail
        all_goals (try go_region)
        all_goals (try go_wp2)
        all_goals
          refine bodyPost_ret (v := .tuple #[.agg #[.slice none 0 0], .agg #[.int .i64 0, .int .i64 0, .int .i64 0], .int .i64 2]) ?_ rfl ⟨rfl, ?_⟩
          · simp (maxDischargeDepth := 8) [results, Try.results64, go_sem, *]
          · (repeat (first | (with_reducible exact Below.refl _ _) | (with_reducible refine Below.drew ?_) | (with_reducible refine bdrewN ?_ _) | ((with_reducible refine Below.setCell ?_ ?_ _); rotate_left; exact (by first | (simp; done) | (simp; omega) | omega)) | ((with_reducible refine Below.alloc ?_ ?_ _); rotate_left; exact (by first | (simp; done) | (simp; omega) | omega)) | ((with_reducible refine Below.trans ?_ (HB1.out.mono ?_)); rotate_left; exact (by first | (simp; done) | (simp; omega) | omega))))
  · rw [pushE_b hb]
    have hb0 : (bothE xs ⟨p, h, t⟩ != 0) = true := by rw [bne_iff_ne]; exact hb
    clear hb hx
    go_enter Try.func64, Try.ntmps64
    go_wp2_with fail
    refine (ring_both _ _ _ xs p h t _ ((HX.out.alloc (Nat.le_refl _) _ |>.alloc (by simp) _ |>.alloc (by simp; omega) _ |>.alloc (by simp; omega) _).more (by simp; omega))).mono ?_
    rintro e w1 ⟨rfl, hb1⟩
    have hz1 := hb1.size
    (try simp only [World.size_alloc, World.size_setCell, World.size_drew] at hz1)
    have k1_0 := fun o => (bcell hb1).1 (w.heap.size + 1 + 1) o (by first | (simp; done) | (simp; omega) | omega)
    have l1_0 : (w.heap.size + 1 + 1) < w1.heap.size := (by omega)
    have q1_0 := fun o => (bcell hb1).2 (w.heap.size + 1 + 1) o (by first | (simp; done) | (simp; omega) | omega)
    have k1_1 := fun o => (bcell hb1).1 (w.heap.size + 1 + 1 + 1) o (by first | (simp; done) | (simp; omega) | omega)
    have l1_1 : (w.heap.size + 1 + 1 + 1) < w1.heap.size := (by omega)
    have q1_1 := fun o => (bcell hb1).2 (w.heap.size + 1 + 1 + 1) o (by first | (simp; done) | (simp; omega) | omega)
    simp (maxDischargeDepth := 6) [go_sem, *] at k1_0 q1_0 k1_1 q1_1
    have HB1 := Lib.hid hb1
    clear hb1
    go_wp2_with fail
    all_goals (try go_region)
    all_goals (try go_wp2)
    all_goals
      refine bodyPost_ret (v := .tuple #[.agg #[.slice none 0 0], .agg #[.int .i64 0, .int .i64 0, .int .i64 0], .int .i64 (bothE xs ⟨p, h, t⟩)]) ?_ rfl ⟨rfl, ?_⟩
      · simp (maxDischargeDepth := 8) [results, Try.results64, go_sem, *]
      · (repeat (first | (with_reducible exact Below.refl _ _) | (with_reducible refine Below.drew ?_) | (with_reducible refine bdrewN ?_ _) | ((with_reducible refine Below.setCell ?_ ?_ _); rotate_left; exact (by first | (simp; done) | (simp; omega) | omega)) | ((with_reducible refine Below.alloc ?_ ?_ _); rotate_left; exact (by first | (simp; done) | (simp; omega) | omega)) | ((with_reducible refine Below.trans ?_ (HB1.out.mono ?_)); rotate_left; exact (by first | (simp; done) | (simp; omega) | omega))))

set_option maxRecDepth 100000 in
set_option maxHeartbeats 4000000 in
theorem ring_Push (A : Option Addr) (n c : Nat) (xs : List Int) (p h t v : Int) (w : World) (hx : Ints w w.heap.size A n xs) (hE : pushE xs ⟨p, h, t⟩ v = 0) :
    Calls Try.prog 64 #[.agg #[.slice A n c], .agg #[.int .i64 p, .int .i64 h, .int .i64 t], .int .i64 v] w fun e w' => ∃ A' c', e = .returned (.tuple #[.agg #[.slice A' 512 c'], .agg #[.int .i64 p, .int .i64 h, .int .i64 ((t + 1) % 8)], .int .i64 0]) ∧ OwnI w.heap.size w' A' 512 c' (pushX xs ⟨p, h, t⟩ v) ∧ Below w.heap.size w w' := by
  obtain ⟨hb, hv, hl⟩ := pushE_inv hE
  obtain ⟨h0, hr⟩ := bothE_inv hb
  have hn : n = 512 := by rw [← hx.len]; exact (cm_inv h0).1
  subst hn
  have HX := Lib.hid hx
  have HL := Lib.hid (cm_inv h0).1
  have HR := Lib.hid hr
  have hb0 : (bothE xs ⟨p, h, t⟩ != 0) = false := by rw [bne_eq_false_iff_eq]; exact hb
  have hl0 : (lenR ⟨p, h, t⟩ == 7) = false := by rw [beq_eq_false_iff_ne]; exact hl
  obtain ⟨v1, v2⟩ := hv
  unfold ringR at hr
  simp only [] at hr
  obtain ⟨⟨h1, h2⟩, ⟨h3, h4⟩, h5, h6⟩ := hr
  clear hb h0 hx hE hl
  go_enter Try.func64, Try.ntmps64
  go_wp2_with fail
  refine (ring_both _ _ _ xs p h t _ ((HX.out.alloc (Nat.le_refl _) _ |>.alloc (by simp) _ |>.alloc (by simp; omega) _ |>.alloc (by simp; omega) _).more (by simp; omega))).mono ?_
  rintro e w1 ⟨rfl, hb1⟩
  have hz1 := hb1.size
  (try simp only [World.size_alloc, World.size_setCell, World.size_drew] at hz1)
  have k1_0 := fun o => (bcell hb1).1 (w.heap.size) o (by first | (simp; done) | (simp; omega) | omega)
  have l1_0 : (w.heap.size) < w1.heap.size := (by omega)
  have q1_0 := fun o => (bcell hb1).2 (w.heap.size) o (by first | (simp; done) | (simp; omega) | omega)
  have k1_1 := fun o => (bcell hb1).1 (w.heap.size + 1) o (by first | (simp; done) | (simp; omega) | omega)
  have l1_1 : (w.heap.size + 1) < w1.heap.size := (by omega)
  have q1_1 := fun o => (bcell hb1).2 (w.heap.size + 1) o (by first | (simp; done) | (simp; omega) | omega)
  have k1_2 := fun o => (bcell hb1).1 (w.heap.size + 1 + 1) o (by first | (simp; done) | (simp; omega) | omega)
  have l1_2 : (w.heap.size + 1 + 1) < w1.heap.size := (by omega)
  have q1_2 := fun o => (bcell hb1).2 (w.heap.size + 1 + 1) o (by first | (simp; done) | (simp; omega) | omega)
  have k1_3 := fun o => (bcell hb1).1 (w.heap.size + 1 + 1 + 1) o (by first | (simp; done) | (simp; omega) | omega)
  have l1_3 : (w.heap.size + 1 + 1 + 1) < w1.heap.size := (by omega)
  have q1_3 := fun o => (bcell hb1).2 (w.heap.size + 1 + 1 + 1) o (by first | (simp; done) | (simp; omega) | omega)
  simp (maxDischargeDepth := 6) [go_sem, *] at k1_0 q1_0 k1_1 q1_1 k1_2 q1_2 k1_3 q1_3
  have HB1 := Lib.hid hb1
  clear hb1
  have X1 := Lib.hid ((((HX.out.alloc (Nat.le_refl _) (.cells #[.slice A 512 c] 24) |>.alloc (by simp) (.cells #[.int .i64 p, .int .i64 h, .int .i64 t] 29) |>.alloc (by simp; omega) (.cells #[.slice none 0 0] 24) |>.alloc (by simp; omega) (.cells #[.int .i64 0, .int .i64 0, .int .i64 0] 29)).below (HB1.out.mono (by simp; omega)))).more (B' := w1.heap.size) (by omega))
  go_wp2_with fail
  refine (ring_Length p h t HR.out _).mono ?_
  rintro e w2 ⟨rfl, hb2⟩
  have hz2 := hb2.size
  (try simp only [World.size_alloc, World.size_setCell, World.size_drew] at hz2)
  have k2_0 := fun o => (bcell hb2).1 (w.heap.size) o (by first | (simp; done) | (simp; omega) | omega)
  have l2_0 : (w.heap.size) < w2.heap.size := (by omega)
  have q2_0 := fun o => (bcell hb2).2 (w.heap.size) o (by first | (simp; done) | (simp; omega) | omega)
  have k2_1 := fun o => (bcell hb2).1 (w.heap.size + 1) o (by first | (simp; done) | (simp; omega) | omega)
  have l2_1 : (w.heap.size + 1) < w2.heap.size := (by omega)
  have q2_1 := fun o => (bcell hb2).2 (w.heap.size + 1) o (by first | (simp; done) | (simp; omega) | omega)
  have k2_2 := fun o => (bcell hb2).1 (w.heap.size + 1 + 1) o (by first | (simp; done) | (simp; omega) | omega)
  have l2_2 : (w.heap.size + 1 + 1) < w2.heap.size := (by omega)
  have q2_2 := fun o => (bcell hb2).2 (w.heap.size + 1 + 1) o (by first | (simp; done) | (simp; omega) | omega)
  have k2_3 := fun o => (bcell hb2).1 (w.heap.size + 1 + 1 + 1) o (by first | (simp; done) | (simp; omega) | omega)
  have l2_3 : (w.heap.size + 1 + 1 + 1) < w2.heap.size := (by omega)
  have q2_3 := fun o => (bcell hb2).2 (w.heap.size + 1 + 1 + 1) o (by first | (simp; done) | (simp; omega) | omega)
  simp (maxDischargeDepth := 6) [go_sem, *] at k2_0 q2_0 k2_1 q2_1 k2_2 q2_2 k2_3 q2_3
  have HB2 := Lib.hid hb2
  clear hb2
  have X2 := Lib.hid ((X1.out.below HB2.out).more (B' := w2.heap.size) (by omega))
  go_wp2_with fail
  refine (mem_Copy _ _ _ xs _ X2.out (by decide) (by decide)).mono ?_
  rintro e w3 ⟨A3, c3, rfl, ho, hb3⟩
  have hz3 := hb3.size
  (try simp only [World.size_alloc, World.size_setCell, World.size_drew] at hz3)
  have k3_0 := fun o => (bcell hb3).1 (w.heap.size) o (by first | (simp; done) | (simp; omega) | omega)
  have l3_0 : (w.heap.size) < w3.heap.size := (by omega)
  have q3_0 := fun o => (bcell hb3).2 (w.heap.size) o (by first | (simp; done) | (simp; omega) | omega)
  have k3_1 := fun o => (bcell hb3).1 (w.heap.size + 1) o (by first | (simp; done) | (simp; omega) | omega)
  have l3_1 : (w.heap.size + 1) < w3.heap.size := (by omega)
  have q3_1 := fun o => (bcell hb3).2 (w.heap.size + 1) o (by first | (simp; done) | (simp; omega) | omega)
  have k3_2 := fun o => (bcell hb3).1 (w.heap.size + 1 + 1) o (by first | (simp; done) | (simp; omega) | omega)
  have l3_2 : (w.heap.size + 1 + 1) < w3.heap.size := (by omega)
  have q3_2 := fun o => (bcell hb3).2 (w.heap.size + 1 + 1) o (by first | (simp; done) | (simp; omega) | omega)
  have k3_3 := fun o => (bcell hb3).1 (w.heap.size + 1 + 1 + 1) o (by first | (simp; done) | (simp; omega) | omega)
  have l3_3 : (w.heap.size + 1 + 1 + 1) < w3.heap.size := (by omega)
  have q3_3 := fun o => (bcell hb3).2 (w.heap.size + 1 + 1 + 1) o (by first | (simp; done) | (simp; omega) | omega)
  simp (maxDischargeDepth := 6) [go_sem, *] at k3_0 q3_0 k3_1 q3_1 k3_2 q3_2 k3_3 q3_3
  have HB3 := Lib.hid hb3
  clear hb3
  have ho1 : OwnI w2.heap.size (w3.setCell ⟨w.heap.size, 0, none⟩ (.slice A3 512 c3)) A3 512 c3 xs := ho.set (by simp; omega) _
  obtain ⟨g, rfl, hg1, hg2, hgc, hgf, hgs⟩ := own_cells ho1 (by decide)
  have HGS := Lib.hid (hgs (p * 8 + t).toNat v (by omega))
  obtain ⟨x, hx⟩ := some_of_lt xs (k := (p * 8 + t).toNat) (by rw [HL.out]; omega)
  have hcx := hgc _ _ hx
  have hne : ¬ g = w.heap.size := by omega
  have hne2 : ¬ g = w.heap.size + 1 := by omega
  clear ho1 hgc hgs hx ho
  go_wp2_with fail
  all_goals (try go_region)
  all_goals (try go_wp2)
  all_goals
    refine bodyPost_ret (v := .tuple #[.agg #[.slice (some ⟨g, 0, none⟩) 512 c3], .agg #[.int .i64 p, .int .i64 h, .int .i64 ((t + 1) % 8)], .int .i64 0]) ?_ rfl ⟨_, _, rfl, ?_, ?_⟩
    · simp (maxDischargeDepth := 8) [results, Try.results64, go_sem, *]
    · show OwnI _ _ _ _ _ (xs.set (p * 8 + t).toNat v)
      (refine OwnI.low (B := w2.heap.size) ?_ (by omega)); (repeat (first | (with_reducible refine OwnI.drew ?_) | (with_reducible refine OwnI.drewN ?_ _) | (with_reducible refine OwnI.alloc ?_ _) | (with_reducible exact HGS.out) | (with_reducible refine OwnI.set ?_ (by first | (simp; done) | (simp; omega)) _)))
    · (repeat (first | (with_reducible exact Below.refl _ _) | (with_reducible refine Below.drew ?_) | (with_reducible refine bdrewN ?_ _) | ((with_reducible refine Below.setCell ?_ ?_ _); rotate_left; exact (by first | (simp; done) | (simp; omega) | omega)) | ((with_reducible refine Below.alloc ?_ ?_ _); rotate_left; exact (by first | (simp; done) | (simp; omega) | omega)) | ((with_reducible refine Below.trans ?_ (HB3.out.mono ?_)); rotate_left; exact (by first | (simp; done) | (simp; omega) | omega)) | ((with_reducible refine Below.trans ?_ (HB2.out.mono ?_)); rotate_left; exact (by first | (simp; done) | (simp; omega) | omega)) | ((with_reducible refine Below.trans ?_ (HB1.out.mono ?_)); rotate_left; exact (by first | (simp; done) | (simp; omega) | omega))))
end
end Go.Proofs.Ytbopdijnojaaiad
