/- Rings: the walk of the law RingSays. Its row: the text RowRingSays. -/
import Derived.Test.YtbopdijnojaaiabTurned
import Derived.Test.YtbopdijnojaaiabSlices
namespace Go.Proofs.Ytbopdijnojaaiab
open Go.RowKit
set_option linter.unusedSimpArgs false
set_option linter.unusedVariables false
attribute [local go_sem ↓] Go.wp_at_zero Go.wp_at_succ

theorem keepR {w3 W : World} {p0 p1 p2 : Addr} {v0 v1 v2 : Value} (h : Since w3 W) (hc : w3.cell? p0 = some v0 ∧ w3.cell? p1 = some v1 ∧ w3.cell? p2 = some v2) : W.cell? p0 = some v0 ∧ W.cell? p1 = some v1 ∧ W.cell? p2 = some v2 ∧ Hid (Since w3 W) := ⟨since_cell h hc.1, since_cell h hc.2.1, since_cell h hc.2.2, h⟩
theorem eqI_same (xs : List Int) : eqI xs xs = true := by simp [eqI]

set_option maxRecDepth 100000 in
set_option maxHeartbeats 8000000 in
theorem law_RingSays_t (A : Option Addr) (n c : Nat) (xs : List Int) (p h t v : Int) (w : World) (hx : Ints w w.heap.size A n xs) (hr : ringR ⟨p, h, t⟩) :
    Calls Try.prog 4 #[.agg #[.slice A n c], .agg #[.int .i64 p, .int .i64 h, .int .i64 t], .int .i64 v] w fun e w' => e = .returned (.bool true) ∧ Below w.heap.size w w' := by
  have HX := Lib.hid hx
  have hee := eqI_same (pushL xs ⟨p, h, t⟩ v)
  clear hx
  have HR := Lib.hid hr
  have hck : (ckR ⟨p, h, t⟩ == 0) = true := by simp [ckR, hr]
  clear hr
  go_enter Try.func4, Try.ntmps4
  go_wp2_with fail
  refine (any_Push _ _ _ xs p h t v _ ((HX.out.alloc (Nat.le_refl _) _ |>.alloc (by simp) _).more (by simp; omega))).mono ?_
  rintro e w1 ⟨A1, c1, rfl, hi1, hb1⟩
  have hz1 := hb1.size
  (try simp only [World.size_alloc, World.size_setCell, World.size_drew] at hz1)
  have k1_0 := fun o => (bcell hb1).1 (w.heap.size) o (by first | (simp; done) | (simp; omega) | omega)
  have l1_0 : (w.heap.size) < w1.heap.size := (by omega)
  have q1_0 := fun o => (bcell hb1).2 (w.heap.size) o (by first | (simp; done) | (simp; omega) | omega)
  have k1_1 := fun o => (bcell hb1).1 (w.heap.size + 1) o (by first | (simp; done) | (simp; omega) | omega)
  have l1_1 : (w.heap.size + 1) < w1.heap.size := (by omega)
  have q1_1 := fun o => (bcell hb1).2 (w.heap.size + 1) o (by first | (simp; done) | (simp; omega) | omega)
  simp (maxDischargeDepth := 6) [go_sem, *] at k1_0 q1_0 k1_1 q1_1
  have HB1 := Lib.hid hb1
  clear hb1
  have I1 := Lib.hid hi1
  clear hi1
  have X1 := Lib.hid (((HX.out.alloc (Nat.le_refl _) (.cells #[.slice A n c] 24) |>.alloc (by simp) (.cells #[.int .i64 p, .int .i64 h, .int .i64 t] 26)).below (HB1.out.mono (by simp; omega))).more (B' := w1.heap.size) (by omega))
  go_wp2_with fail
  refine (any_Pop _ _ _ xs p h t _ ((X1.out.alloc (Nat.le_refl _) _ |>.alloc (by simp) _).more (by simp; omega))).mono ?_
  rintro e w2 ⟨rfl, hb2⟩
  have hz2 := hb2.size
  (try simp only [World.size_alloc, World.size_setCell, World.size_drew] at hz2)
  have k2_0 := fun o => (bcell hb2).1 (w.heap.size) o (by first | (simp; done) | (simp; omega) | omega)
  have l2_0 : (w.heap.size) < w2.heap.size := (by omega)
  have q2_0 := fun o => (bcell hb2).2 (w.heap.size) o (by first | (simp; done) | (simp; omega) | omega)
  have k2_1 := fun o => (bcell hb2).1 (w.heap.size + 1) o (by first | (simp; done) | (simp; omega) | omega)
  have l2_1 : (w.heap.size + 1) < w2.heap.size := (by omega)
  have q2_1 := fun o => (bcell hb2).2 (w.heap.size + 1) o (by first | (simp; done) | (simp; omega) | omega)
  have k2_2 := fun o => (bcell hb2).1 (w1.heap.size) o (by first | (simp; done) | (simp; omega) | omega)
  have l2_2 : (w1.heap.size) < w2.heap.size := (by omega)
  have q2_2 := fun o => (bcell hb2).2 (w1.heap.size) o (by first | (simp; done) | (simp; omega) | omega)
  have k2_3 := fun o => (bcell hb2).1 (w1.heap.size + 1) o (by first | (simp; done) | (simp; omega) | omega)
  have l2_3 : (w1.heap.size + 1) < w2.heap.size := (by omega)
  have q2_3 := fun o => (bcell hb2).2 (w1.heap.size + 1) o (by first | (simp; done) | (simp; omega) | omega)
  simp (maxDischargeDepth := 6) [go_sem, *] at k2_0 q2_0 k2_1 q2_1 k2_2 q2_2 k2_3 q2_3
  have HB2 := Lib.hid hb2
  clear hb2
  have I2 := Lib.hid (((I1.out.alloc (Nat.le_refl _) (.cells #[.slice A1 (pushN xs ⟨p, h, t⟩ v) c1] 24) |>.alloc (by simp) (.cells #[.int .i64 (pushT xs ⟨p, h, t⟩ v).page, .int .i64 (pushT xs ⟨p, h, t⟩ v).head, .int .i64 (pushT xs ⟨p, h, t⟩ v).tail] 26)).below (HB2.out.mono (by simp; omega))).more (B' := w2.heap.size) (by omega))
  have X2 := Lib.hid (((X1.out.alloc (Nat.le_refl _) (.cells #[.slice A1 (pushN xs ⟨p, h, t⟩ v) c1] 24) |>.alloc (by simp) (.cells #[.int .i64 (pushT xs ⟨p, h, t⟩ v).page, .int .i64 (pushT xs ⟨p, h, t⟩ v).head, .int .i64 (pushT xs ⟨p, h, t⟩ v).tail] 26)).below (HB2.out.mono (by simp; omega))).more (B' := w2.heap.size) (by omega))
  go_wp2_with fail
  refine (any_Pushed _ _ _ xs p h t v _ ((X2.out.alloc (Nat.le_refl _) _).more (by simp))).mono ?_
  rintro e w3 ⟨A3, c3, rfl, hi3, hb3⟩
  have hz3 := hb3.size
  (try simp only [World.size_alloc, World.size_setCell, World.size_drew] at hz3)
  have k3_0 := fun o => (bcell hb3).1 (w.heap.size) o (by first | (simp; done) | (simp; omega) | omega)
  have l3_0 : (w.heap.size) < w3.heap.size := (by omega)
  have q3_0 := fun o => (bcell hb3).2 (w.heap.size) o (by first | (simp; done) | (simp; omega) | omega)
  have k3_1 := fun o => (bcell hb3).1 (w.heap.size + 1) o (by first | (simp; done) | (simp; omega) | omega)
  have l3_1 : (w.heap.size + 1) < w3.heap.size := (by omega)
  have q3_1 := fun o => (bcell hb3).2 (w.heap.size + 1) o (by first | (simp; done) | (simp; omega) | omega)
  have k3_2 := fun o => (bcell hb3).1 (w1.heap.size) o (by first | (simp; done) | (simp; omega) | omega)
  have l3_2 : (w1.heap.size) < w3.heap.size := (by omega)
  have q3_2 := fun o => (bcell hb3).2 (w1.heap.size) o (by first | (simp; done) | (simp; omega) | omega)
  have k3_3 := fun o => (bcell hb3).1 (w1.heap.size + 1) o (by first | (simp; done) | (simp; omega) | omega)
  have l3_3 : (w1.heap.size + 1) < w3.heap.size := (by omega)
  have q3_3 := fun o => (bcell hb3).2 (w1.heap.size + 1) o (by first | (simp; done) | (simp; omega) | omega)
  have k3_4 := fun o => (bcell hb3).1 (w2.heap.size) o (by first | (simp; done) | (simp; omega) | omega)
  have l3_4 : (w2.heap.size) < w3.heap.size := (by omega)
  have q3_4 := fun o => (bcell hb3).2 (w2.heap.size) o (by first | (simp; done) | (simp; omega) | omega)
  simp (maxDischargeDepth := 6) [go_sem, *] at k3_0 q3_0 k3_1 q3_1 k3_2 q3_2 k3_3 q3_3 k3_4 q3_4
  have HB3 := Lib.hid hb3
  clear hb3
  have I3 := Lib.hid hi3
  clear hi3
  have J3 := Lib.hid (((I2.out.alloc (Nat.le_refl _) (.cells #[.int .i64 (popT xs ⟨p, h, t⟩).page, .int .i64 (popT xs ⟨p, h, t⟩).head, .int .i64 (popT xs ⟨p, h, t⟩).tail] 26)).below (HB3.out.mono (by simp))).more (B' := w3.heap.size) (by omega))
  have X3 := Lib.hid (((X2.out.alloc (Nat.le_refl _) (.cells #[.int .i64 (popT xs ⟨p, h, t⟩).page, .int .i64 (popT xs ⟨p, h, t⟩).head, .int .i64 (popT xs ⟨p, h, t⟩).tail] 26)).below (HB3.out.mono (by simp))).more (B' := w3.heap.size) (by omega))
  go_wp2_with fail
  refine (any_Popped _ _ _ xs p h t _ ((X3.out.alloc (Nat.le_refl _) _ |>.alloc (by simp) _).more (by simp; omega))).mono ?_
  rintro e w4 ⟨rfl, hb4⟩
  have hz4 := hb4.size
  (try simp only [World.size_alloc, World.size_setCell, World.size_drew] at hz4)
  have k4_0 := fun o => (bcell hb4).1 (w.heap.size + 1) o (by first | (simp; done) | (simp; omega) | omega)
  have l4_0 : (w.heap.size + 1) < w4.heap.size := (by omega)
  have q4_0 := fun o => (bcell hb4).2 (w.heap.size + 1) o (by first | (simp; done) | (simp; omega) | omega)
  have k4_1 := fun o => (bcell hb4).1 (w1.heap.size) o (by first | (simp; done) | (simp; omega) | omega)
  have l4_1 : (w1.heap.size) < w4.heap.size := (by omega)
  have q4_1 := fun o => (bcell hb4).2 (w1.heap.size) o (by first | (simp; done) | (simp; omega) | omega)
  have k4_2 := fun o => (bcell hb4).1 (w1.heap.size + 1) o (by first | (simp; done) | (simp; omega) | omega)
  have l4_2 : (w1.heap.size + 1) < w4.heap.size := (by omega)
  have q4_2 := fun o => (bcell hb4).2 (w1.heap.size + 1) o (by first | (simp; done) | (simp; omega) | omega)
  have k4_3 := fun o => (bcell hb4).1 (w2.heap.size) o (by first | (simp; done) | (simp; omega) | omega)
  have l4_3 : (w2.heap.size) < w4.heap.size := (by omega)
  have q4_3 := fun o => (bcell hb4).2 (w2.heap.size) o (by first | (simp; done) | (simp; omega) | omega)
  have k4_4 := fun o => (bcell hb4).1 (w3.heap.size) o (by first | (simp; done) | (simp; omega) | omega)
  have l4_4 : (w3.heap.size) < w4.heap.size := (by omega)
  have q4_4 := fun o => (bcell hb4).2 (w3.heap.size) o (by first | (simp; done) | (simp; omega) | omega)
  have k4_5 := fun o => (bcell hb4).1 (w3.heap.size + 1) o (by first | (simp; done) | (simp; omega) | omega)
  have l4_5 : (w3.heap.size + 1) < w4.heap.size := (by omega)
  have q4_5 := fun o => (bcell hb4).2 (w3.heap.size + 1) o (by first | (simp; done) | (simp; omega) | omega)
  simp (maxDischargeDepth := 6) [go_sem, *] at k4_0 q4_0 k4_1 q4_1 k4_2 q4_2 k4_3 q4_3 k4_4 q4_4 k4_5 q4_5
  have HB4 := Lib.hid hb4
  clear hb4
  have J4 := Lib.hid ((J3.out.alloc (Nat.le_refl _) (.cells #[.slice A3 (pushN xs ⟨p, h, t⟩ v) c3] 24) |>.alloc (by simp) (.cells #[.int .i64 (pushT xs ⟨p, h, t⟩ v).page, .int .i64 (pushT xs ⟨p, h, t⟩ v).head, .int .i64 (pushT xs ⟨p, h, t⟩ v).tail] 26)).below (HB4.out.mono (by simp; omega)) |>.more (B' := w4.heap.size) (by omega) |>.alloc (Nat.le_refl _) (.cells #[.int .i64 (popT xs ⟨p, h, t⟩).page, .int .i64 (popT xs ⟨p, h, t⟩).head, .int .i64 (popT xs ⟨p, h, t⟩).tail] 26) |>.more (B' := w4.heap.size + 1) (by omega))
  have I4 := Lib.hid ((I3.out.alloc (Nat.le_refl _) (.cells #[.slice A3 (pushN xs ⟨p, h, t⟩ v) c3] 24) |>.alloc (by simp) (.cells #[.int .i64 (pushT xs ⟨p, h, t⟩ v).page, .int .i64 (pushT xs ⟨p, h, t⟩ v).head, .int .i64 (pushT xs ⟨p, h, t⟩ v).tail] 26)).below (HB4.out.mono (by simp; omega)) |>.more (B' := w4.heap.size) (by omega) |>.alloc (Nat.le_refl _) (.cells #[.int .i64 (popT xs ⟨p, h, t⟩).page, .int .i64 (popT xs ⟨p, h, t⟩).head, .int .i64 (popT xs ⟨p, h, t⟩).tail] 26) |>.more (B' := w4.heap.size + 1) (by omega))
  have S0 := Lib.hid (since_drew (since_refl (w4.alloc (.cells #[.int .i64 (popT xs ⟨p, h, t⟩).page, .int .i64 (popT xs ⟨p, h, t⟩).head, .int .i64 (popT xs ⟨p, h, t⟩).tail] 26))))
  have HC := Lib.hid (show (w4.alloc (.cells #[.int .i64 (popT xs ⟨p, h, t⟩).page, .int .i64 (popT xs ⟨p, h, t⟩).head, .int .i64 (popT xs ⟨p, h, t⟩).tail] 26)).cell? ⟨w.heap.size + 1, 0, none⟩ = some (.int .i64 p) ∧ (w4.alloc (.cells #[.int .i64 (popT xs ⟨p, h, t⟩).page, .int .i64 (popT xs ⟨p, h, t⟩).head, .int .i64 (popT xs ⟨p, h, t⟩).tail] 26)).cell? ⟨w.heap.size + 1, 1, none⟩ = some (.int .i64 h) ∧ (w4.alloc (.cells #[.int .i64 (popT xs ⟨p, h, t⟩).page, .int .i64 (popT xs ⟨p, h, t⟩).head, .int .i64 (popT xs ⟨p, h, t⟩).tail] 26)).cell? ⟨w.heap.size + 1, 2, none⟩ = some (.int .i64 t) by refine ⟨?_, ?_, ?_⟩ <;> simp (maxDischargeDepth := 8) [go_sem, *])
  go_wp2_with fail
  go_region_held3 (fun W => W.cell? ⟨w.heap.size + 1, 0, none⟩ = some (.int .i64 p) ∧ W.cell? ⟨w.heap.size + 1, 1, none⟩ = some (.int .i64 h) ∧ W.cell? ⟨w.heap.size + 1, 2, none⟩ = some (.int .i64 t) ∧ Hid (Since (w4.alloc (.cells #[.int .i64 (popT xs ⟨p, h, t⟩).page, .int .i64 (popT xs ⟨p, h, t⟩).head, .int .i64 (popT xs ⟨p, h, t⟩).tail] 26)) W))
    (first
      | exact keepR S0.out HC.out
      | exact keepR (since_step (by assumption) (since_of (by assumption))) HC.out)
    (first
      | (go_at_call 15; refine (law_turned _).mono ?_; rintro e w' ⟨rfl, hb⟩)
      | (go_at_call 17; refine (ring_Check _ _ _ _).mono ?_; rintro e w' ⟨rfl, hb⟩)
      | (go_at_call 24; refine (ref_CheckRing _ _ _ _).mono ?_; rintro e w' ⟨rfl, hb⟩)
      | (go_at_call 18; refine (ring_Length _ _ _ HR.out _).mono ?_; rintro e w' ⟨rfl, hb⟩)
      | (go_at_call 25; refine (ref_LengthOf _ _ _ HR.out _).mono ?_; rintro e w' ⟨rfl, hb⟩))
  all_goals
    rename_i hHeld
    have SS := Lib.hid (since_of hHeld)
    have hb5 := SS.out
    clear hHeld
    have k5_0 := fun o => (bcell hb5).1 (w1.heap.size) o (by first | (simp; done) | (simp; omega) | omega)
    have k5_1 := fun o => (bcell hb5).1 (w1.heap.size + 1) o (by first | (simp; done) | (simp; omega) | omega)
    have k5_2 := fun o => (bcell hb5).1 (w2.heap.size) o (by first | (simp; done) | (simp; omega) | omega)
    have k5_3 := fun o => (bcell hb5).1 (w3.heap.size) o (by first | (simp; done) | (simp; omega) | omega)
    have k5_4 := fun o => (bcell hb5).1 (w3.heap.size + 1) o (by first | (simp; done) | (simp; omega) | omega)
    have k5_5 := fun o => (bcell hb5).1 (w4.heap.size) o (by first | (simp; done) | (simp; omega) | omega)
    have hz5 := hb5.size
    simp only [World.size_alloc] at hz5
    have I5 := Lib.hid ((I4.out.below (hb5.mono (by simp))).more (Nat.le_trans (by simp) hb5.size))
    have J5 := Lib.hid ((J4.out.below (hb5.mono (by simp))).more (Nat.le_trans (by simp) hb5.size))
    clear hb5
    simp (maxDischargeDepth := 6) [go_sem, *] at k5_0 k5_1 k5_2 k5_3 k5_4 k5_5
    go_wp2_with fail
    refine (sl_Equal _ _ _ _ _ _ (pushL xs ⟨p, h, t⟩ v) (pushL xs ⟨p, h, t⟩ v) _ J5.out I5.out).mono ?_
    rintro e w6 ⟨rfl, hb6⟩
    have hz6 := hb6.size
    have k6_1 := fun o => (bcell hb6).1 (w1.heap.size + 1) o (by omega)
    have k6_2 := fun o => (bcell hb6).1 (w2.heap.size) o (by omega)
    have k6_4 := fun o => (bcell hb6).1 (w3.heap.size + 1) o (by omega)
    have k6_5 := fun o => (bcell hb6).1 (w4.heap.size) o (by omega)
    have HB6 := Lib.hid hb6
    clear hb6
    simp (maxDischargeDepth := 6) [go_sem, *] at k6_1 k6_2 k6_4 k6_5
    go_wp2
    go_ret
    refine ⟨rfl, since_below ?_ (since_step HB6.out SS.out) (by simp; omega)⟩
    (repeat (first | (with_reducible exact Below.refl _ _) | (with_reducible refine Below.drew ?_) | (with_reducible refine bdrewN ?_ _) | ((with_reducible refine Below.setCell ?_ ?_ _); rotate_left; exact (by first | (simp; done) | (simp; omega) | omega)) | ((with_reducible refine Below.alloc ?_ ?_ _); rotate_left; exact (by first | (simp; done) | (simp; omega) | omega)) | ((with_reducible refine Below.trans ?_ (HB4.out.mono ?_)); rotate_left; exact (by first | (simp; done) | (simp; omega) | omega)) | ((with_reducible refine Below.trans ?_ (HB3.out.mono ?_)); rotate_left; exact (by first | (simp; done) | (simp; omega) | omega)) | ((with_reducible refine Below.trans ?_ (HB2.out.mono ?_)); rotate_left; exact (by first | (simp; done) | (simp; omega) | omega)) | ((with_reducible refine Below.trans ?_ (HB1.out.mono ?_)); rotate_left; exact (by first | (simp; done) | (simp; omega) | omega))))

set_option maxRecDepth 100000 in
set_option maxHeartbeats 8000000 in
theorem law_RingSays_f (A : Option Addr) (n c : Nat) (xs : List Int) (p h t v : Int) (w : World) (hx : Ints w w.heap.size A n xs) (hr : ¬ ringR ⟨p, h, t⟩) :
    Calls Try.prog 4 #[.agg #[.slice A n c], .agg #[.int .i64 p, .int .i64 h, .int .i64 t], .int .i64 v] w fun e w' => e = .returned (.bool true) ∧ Below w.heap.size w w' := by
  have HX := Lib.hid hx
  have hee := eqI_same (pushL xs ⟨p, h, t⟩ v)
  clear hx
  have HR := Lib.hid hr
  have hck : (ckR ⟨p, h, t⟩ == 0) = false := by simp [ckR, hr]
  clear hr
  go_enter Try.func4, Try.ntmps4
  go_wp2_with fail
  refine (any_Push _ _ _ xs p h t v _ ((HX.out.alloc (Nat.le_refl _) _ |>.alloc (by simp) _).more (by simp; omega))).mono ?_
  rintro e w1 ⟨A1, c1, rfl, hi1, hb1⟩
  have hz1 := hb1.size
  (try simp only [World.size_alloc, World.size_setCell, World.size_drew] at hz1)
  have k1_0 := fun o => (bcell hb1).1 (w.heap.size) o (by first | (simp; done) | (simp; omega) | omega)
  have l1_0 : (w.heap.size) < w1.heap.size := (by omega)
  have q1_0 := fun o => (bcell hb1).2 (w.heap.size) o (by first | (simp; done) | (simp; omega) | omega)
  have k1_1 := fun o => (bcell hb1).1 (w.heap.size + 1) o (by first | (simp; done) | (simp; omega) | omega)
  have l1_1 : (w.heap.size + 1) < w1.heap.size := (by omega)
  have q1_1 := fun o => (bcell hb1).2 (w.heap.size + 1) o (by first | (simp; done) | (simp; omega) | omega)
  simp (maxDischargeDepth := 6) [go_sem, *] at k1_0 q1_0 k1_1 q1_1
  have HB1 := Lib.hid hb1
  clear hb1
  have I1 := Lib.hid hi1
  clear hi1
  have X1 := Lib.hid (((HX.out.alloc (Nat.le_refl _) (.cells #[.slice A n c] 24) |>.alloc (by simp) (.cells #[.int .i64 p, .int .i64 h, .int .i64 t] 26)).below (HB1.out.mono (by simp; omega))).more (B' := w1.heap.size) (by omega))
  go_wp2_with fail
  refine (any_Pop _ _ _ xs p h t _ ((X1.out.alloc (Nat.le_refl _) _ |>.alloc (by simp) _).more (by simp; omega))).mono ?_
  rintro e w2 ⟨rfl, hb2⟩
  have hz2 := hb2.size
  (try simp only [World.size_alloc, World.size_setCell, World.size_drew] at hz2)
  have k2_0 := fun o => (bcell hb2).1 (w.heap.size) o (by first | (simp; done) | (simp; omega) | omega)
  have l2_0 : (w.heap.size) < w2.heap.size := (by omega)
  have q2_0 := fun o => (bcell hb2).2 (w.heap.size) o (by first | (simp; done) | (simp; omega) | omega)
  have k2_1 := fun o => (bcell hb2).1 (w.heap.size + 1) o (by first | (simp; done) | (simp; omega) | omega)
  have l2_1 : (w.heap.size + 1) < w2.heap.size := (by omega)
  have q2_1 := fun o => (bcell hb2).2 (w.heap.size + 1) o (by first | (simp; done) | (simp; omega) | omega)
  have k2_2 := fun o => (bcell hb2).1 (w1.heap.size) o (by first | (simp; done) | (simp; omega) | omega)
  have l2_2 : (w1.heap.size) < w2.heap.size := (by omega)
  have q2_2 := fun o => (bcell hb2).2 (w1.heap.size) o (by first | (simp; done) | (simp; omega) | omega)
  have k2_3 := fun o => (bcell hb2).1 (w1.heap.size + 1) o (by first | (simp; done) | (simp; omega) | omega)
  have l2_3 : (w1.heap.size + 1) < w2.heap.size := (by omega)
  have q2_3 := fun o => (bcell hb2).2 (w1.heap.size + 1) o (by first | (simp; done) | (simp; omega) | omega)
  simp (maxDischargeDepth := 6) [go_sem, *] at k2_0 q2_0 k2_1 q2_1 k2_2 q2_2 k2_3 q2_3
  have HB2 := Lib.hid hb2
  clear hb2
  have I2 := Lib.hid (((I1.out.alloc (Nat.le_refl _) (.cells #[.slice A1 (pushN xs ⟨p, h, t⟩ v) c1] 24) |>.alloc (by simp) (.cells #[.int .i64 (pushT xs ⟨p, h, t⟩ v).page, .int .i64 (pushT xs ⟨p, h, t⟩ v).head, .int .i64 (pushT xs ⟨p, h, t⟩ v).tail] 26)).below (HB2.out.mono (by simp; omega))).more (B' := w2.heap.size) (by omega))
  have X2 := Lib.hid (((X1.out.alloc (Nat.le_refl _) (.cells #[.slice A1 (pushN xs ⟨p, h, t⟩ v) c1] 24) |>.alloc (by simp) (.cells #[.int .i64 (pushT xs ⟨p, h, t⟩ v).page, .int .i64 (pushT xs ⟨p, h, t⟩ v).head, .int .i64 (pushT xs ⟨p, h, t⟩ v).tail] 26)).below (HB2.out.mono (by simp; omega))).more (B' := w2.heap.size) (by omega))
  go_wp2_with fail
  refine (any_Pushed _ _ _ xs p h t v _ ((X2.out.alloc (Nat.le_refl _) _).more (by simp))).mono ?_
  rintro e w3 ⟨A3, c3, rfl, hi3, hb3⟩
  have hz3 := hb3.size
  (try simp only [World.size_alloc, World.size_setCell, World.size_drew] at hz3)
  have k3_0 := fun o => (bcell hb3).1 (w.heap.size) o (by first | (simp; done) | (simp; omega) | omega)
  have l3_0 : (w.heap.size) < w3.heap.size := (by omega)
  have q3_0 := fun o => (bcell hb3).2 (w.heap.size) o (by first | (simp; done) | (simp; omega) | omega)
  have k3_1 := fun o => (bcell hb3).1 (w.heap.size + 1) o (by first | (simp; done) | (simp; omega) | omega)
  have l3_1 : (w.heap.size + 1) < w3.heap.size := (by omega)
  have q3_1 := fun o => (bcell hb3).2 (w.heap.size + 1) o (by first | (simp; done) | (simp; omega) | omega)
  have k3_2 := fun o => (bcell hb3).1 (w1.heap.size) o (by first | (simp; done) | (simp; omega) | omega)
  have l3_2 : (w1.heap.size) < w3.heap.size := (by omega)
  have q3_2 := fun o => (bcell hb3).2 (w1.heap.size) o (by first | (simp; done) | (simp; omega) | omega)
  have k3_3 := fun o => (bcell hb3).1 (w1.heap.size + 1) o (by first | (simp; done) | (simp; omega) | omega)
  have l3_3 : (w1.heap.size + 1) < w3.heap.size := (by omega)
  have q3_3 := fun o => (bcell hb3).2 (w1.heap.size + 1) o (by first | (simp; done) | (simp; omega) | omega)
  have k3_4 := fun o => (bcell hb3).1 (w2.heap.size) o (by first | (simp; done) | (simp; omega) | omega)
  have l3_4 : (w2.heap.size) < w3.heap.size := (by omega)
  have q3_4 := fun o => (bcell hb3).2 (w2.heap.size) o (by first | (simp; done) | (simp; omega) | omega)
  simp (maxDischargeDepth := 6) [go_sem, *] at k3_0 q3_0 k3_1 q3_1 k3_2 q3_2 k3_3 q3_3 k3_4 q3_4
  have HB3 := Lib.hid hb3
  clear hb3
  have I3 := Lib.hid hi3
  clear hi3
  have J3 := Lib.hid (((I2.out.alloc (Nat.le_refl _) (.cells #[.int .i64 (popT xs ⟨p, h, t⟩).page, .int .i64 (popT xs ⟨p, h, t⟩).head, .int .i64 (popT xs ⟨p, h, t⟩).tail] 26)).below (HB3.out.mono (by simp))).more (B' := w3.heap.size) (by omega))
  have X3 := Lib.hid (((X2.out.alloc (Nat.le_refl _) (.cells #[.int .i64 (popT xs ⟨p, h, t⟩).page, .int .i64 (popT xs ⟨p, h, t⟩).head, .int .i64 (popT xs ⟨p, h, t⟩).tail] 26)).below (HB3.out.mono (by simp))).more (B' := w3.heap.size) (by omega))
  go_wp2_with fail
  refine (any_Popped _ _ _ xs p h t _ ((X3.out.alloc (Nat.le_refl _) _ |>.alloc (by simp) _).more (by simp; omega))).mono ?_
  rintro e w4 ⟨rfl, hb4⟩
  have hz4 := hb4.size
  (try simp only [World.size_alloc, World.size_setCell, World.size_drew] at hz4)
  have k4_0 := fun o => (bcell hb4).1 (w.heap.size + 1) o (by first | (simp; done) | (simp; omega) | omega)
  have l4_0 : (w.heap.size + 1) < w4.heap.size := (by omega)
  have q4_0 := fun o => (bcell hb4).2 (w.heap.size + 1) o (by first | (simp; done) | (simp; omega) | omega)
  have k4_1 := fun o => (bcell hb4).1 (w1.heap.size) o (by first | (simp; done) | (simp; omega) | omega)
  have l4_1 : (w1.heap.size) < w4.heap.size := (by omega)
  have q4_1 := fun o => (bcell hb4).2 (w1.heap.size) o (by first | (simp; done) | (simp; omega) | omega)
  have k4_2 := fun o => (bcell hb4).1 (w1.heap.size + 1) o (by first | (simp; done) | (simp; omega) | omega)
  have l4_2 : (w1.heap.size + 1) < w4.heap.size := (by omega)
  have q4_2 := fun o => (bcell hb4).2 (w1.heap.size + 1) o (by first | (simp; done) | (simp; omega) | omega)
  have k4_3 := fun o => (bcell hb4).1 (w2.heap.size) o (by first | (simp; done) | (simp; omega) | omega)
  have l4_3 : (w2.heap.size) < w4.heap.size := (by omega)
  have q4_3 := fun o => (bcell hb4).2 (w2.heap.size) o (by first | (simp; done) | (simp; omega) | omega)
  have k4_4 := fun o => (bcell hb4).1 (w3.heap.size) o (by first | (simp; done) | (simp; omega) | omega)
  have l4_4 : (w3.heap.size) < w4.heap.size := (by omega)
  have q4_4 := fun o => (bcell hb4).2 (w3.heap.size) o (by first | (simp; done) | (simp; omega) | omega)
  have k4_5 := fun o => (bcell hb4).1 (w3.heap.size + 1) o (by first | (simp; done) | (simp; omega) | omega)
  have l4_5 : (w3.heap.size + 1) < w4.heap.size := (by omega)
  have q4_5 := fun o => (bcell hb4).2 (w3.heap.size + 1) o (by first | (simp; done) | (simp; omega) | omega)
  simp (maxDischargeDepth := 6) [go_sem, *] at k4_0 q4_0 k4_1 q4_1 k4_2 q4_2 k4_3 q4_3 k4_4 q4_4 k4_5 q4_5
  have HB4 := Lib.hid hb4
  clear hb4
  have J4 := Lib.hid ((J3.out.alloc (Nat.le_refl _) (.cells #[.slice A3 (pushN xs ⟨p, h, t⟩ v) c3] 24) |>.alloc (by simp) (.cells #[.int .i64 (pushT xs ⟨p, h, t⟩ v).page, .int .i64 (pushT xs ⟨p, h, t⟩ v).head, .int .i64 (pushT xs ⟨p, h, t⟩ v).tail] 26)).below (HB4.out.mono (by simp; omega)) |>.more (B' := w4.heap.size) (by omega) |>.alloc (Nat.le_refl _) (.cells #[.int .i64 (popT xs ⟨p, h, t⟩).page, .int .i64 (popT xs ⟨p, h, t⟩).head, .int .i64 (popT xs ⟨p, h, t⟩).tail] 26) |>.more (B' := w4.heap.size + 1) (by omega))
  have I4 := Lib.hid ((I3.out.alloc (Nat.le_refl _) (.cells #[.slice A3 (pushN xs ⟨p, h, t⟩ v) c3] 24) |>.alloc (by simp) (.cells #[.int .i64 (pushT xs ⟨p, h, t⟩ v).page, .int .i64 (pushT xs ⟨p, h, t⟩ v).head, .int .i64 (pushT xs ⟨p, h, t⟩ v).tail] 26)).below (HB4.out.mono (by simp; omega)) |>.more (B' := w4.heap.size) (by omega) |>.alloc (Nat.le_refl _) (.cells #[.int .i64 (popT xs ⟨p, h, t⟩).page, .int .i64 (popT xs ⟨p, h, t⟩).head, .int .i64 (popT xs ⟨p, h, t⟩).tail] 26) |>.more (B' := w4.heap.size + 1) (by omega))
  have S0 := Lib.hid (since_drew (since_refl (w4.alloc (.cells #[.int .i64 (popT xs ⟨p, h, t⟩).page, .int .i64 (popT xs ⟨p, h, t⟩).head, .int .i64 (popT xs ⟨p, h, t⟩).tail] 26))))
  have HC := Lib.hid (show (w4.alloc (.cells #[.int .i64 (popT xs ⟨p, h, t⟩).page, .int .i64 (popT xs ⟨p, h, t⟩).head, .int .i64 (popT xs ⟨p, h, t⟩).tail] 26)).cell? ⟨w.heap.size + 1, 0, none⟩ = some (.int .i64 p) ∧ (w4.alloc (.cells #[.int .i64 (popT xs ⟨p, h, t⟩).page, .int .i64 (popT xs ⟨p, h, t⟩).head, .int .i64 (popT xs ⟨p, h, t⟩).tail] 26)).cell? ⟨w.heap.size + 1, 1, none⟩ = some (.int .i64 h) ∧ (w4.alloc (.cells #[.int .i64 (popT xs ⟨p, h, t⟩).page, .int .i64 (popT xs ⟨p, h, t⟩).head, .int .i64 (popT xs ⟨p, h, t⟩).tail] 26)).cell? ⟨w.heap.size + 1, 2, none⟩ = some (.int .i64 t) by refine ⟨?_, ?_, ?_⟩ <;> simp (maxDischargeDepth := 8) [go_sem, *])
  go_wp2_with fail
  have HS := S0
  have kr0 := since_cell HS.out HC.out.1
  have kr1 := since_cell HS.out HC.out.2.1
  have kr2 := since_cell HS.out HC.out.2.2
  go_region_with (first
    | (go_at_call 15; refine (law_turned _).mono ?_; rintro e w5 ⟨rfl, hb⟩; have HS := Lib.hid (since_step hb HS.out); clear hb; have kr0 := since_cell HS.out HC.out.1; have kr1 := since_cell HS.out HC.out.2.1; have kr2 := since_cell HS.out HC.out.2.2)
    | (go_at_call 17; refine (ring_Check _ _ _ _).mono ?_; rintro e w5 ⟨rfl, hb⟩; have HS := Lib.hid (since_step hb HS.out); clear hb; have kr0 := since_cell HS.out HC.out.1; have kr1 := since_cell HS.out HC.out.2.1; have kr2 := since_cell HS.out HC.out.2.2)
    | (go_at_call 24; refine (ref_CheckRing _ _ _ _).mono ?_; rintro e w5 ⟨rfl, hb⟩; have HS := Lib.hid (since_step hb HS.out); clear hb; have kr0 := since_cell HS.out HC.out.1; have kr1 := since_cell HS.out HC.out.2.1; have kr2 := since_cell HS.out HC.out.2.2))
  all_goals
    have SS := HS
    have hb5 := SS.out
    have k5_0 := fun o => (bcell hb5).1 (w1.heap.size) o (by first | (simp; done) | (simp; omega) | omega)
    have k5_1 := fun o => (bcell hb5).1 (w1.heap.size + 1) o (by first | (simp; done) | (simp; omega) | omega)
    have k5_2 := fun o => (bcell hb5).1 (w2.heap.size) o (by first | (simp; done) | (simp; omega) | omega)
    have k5_3 := fun o => (bcell hb5).1 (w3.heap.size) o (by first | (simp; done) | (simp; omega) | omega)
    have k5_4 := fun o => (bcell hb5).1 (w3.heap.size + 1) o (by first | (simp; done) | (simp; omega) | omega)
    have k5_5 := fun o => (bcell hb5).1 (w4.heap.size) o (by first | (simp; done) | (simp; omega) | omega)
    have hz5 := hb5.size
    simp only [World.size_alloc] at hz5
    have I5 := Lib.hid ((I4.out.below (hb5.mono (by simp))).more (Nat.le_trans (by simp) hb5.size))
    have J5 := Lib.hid ((J4.out.below (hb5.mono (by simp))).more (Nat.le_trans (by simp) hb5.size))
    clear hb5
    simp (maxDischargeDepth := 6) [go_sem, *] at k5_0 k5_1 k5_2 k5_3 k5_4 k5_5
    go_wp2_with fail
    refine (sl_Equal _ _ _ _ _ _ (pushL xs ⟨p, h, t⟩ v) (pushL xs ⟨p, h, t⟩ v) _ J5.out I5.out).mono ?_
    rintro e w6 ⟨rfl, hb6⟩
    have hz6 := hb6.size
    have k6_1 := fun o => (bcell hb6).1 (w1.heap.size + 1) o (by omega)
    have k6_2 := fun o => (bcell hb6).1 (w2.heap.size) o (by omega)
    have k6_4 := fun o => (bcell hb6).1 (w3.heap.size + 1) o (by omega)
    have k6_5 := fun o => (bcell hb6).1 (w4.heap.size) o (by omega)
    have HB6 := Lib.hid hb6
    clear hb6
    simp (maxDischargeDepth := 6) [go_sem, *] at k6_1 k6_2 k6_4 k6_5
    go_wp2
    go_ret
    refine ⟨rfl, since_below ?_ (since_step HB6.out SS.out) (by simp; omega)⟩
    (repeat (first | (with_reducible exact Below.refl _ _) | (with_reducible refine Below.drew ?_) | (with_reducible refine bdrewN ?_ _) | ((with_reducible refine Below.setCell ?_ ?_ _); rotate_left; exact (by first | (simp; done) | (simp; omega) | omega)) | ((with_reducible refine Below.alloc ?_ ?_ _); rotate_left; exact (by first | (simp; done) | (simp; omega) | omega)) | ((with_reducible refine Below.trans ?_ (HB4.out.mono ?_)); rotate_left; exact (by first | (simp; done) | (simp; omega) | omega)) | ((with_reducible refine Below.trans ?_ (HB3.out.mono ?_)); rotate_left; exact (by first | (simp; done) | (simp; omega) | omega)) | ((with_reducible refine Below.trans ?_ (HB2.out.mono ?_)); rotate_left; exact (by first | (simp; done) | (simp; omega) | omega)) | ((with_reducible refine Below.trans ?_ (HB1.out.mono ?_)); rotate_left; exact (by first | (simp; done) | (simp; omega) | omega))))

theorem law_RingSays (A : Option Addr) (n c : Nat) (xs : List Int) (p h t v : Int) (w : World) (hx : Ints w w.heap.size A n xs) :
    Calls Try.prog 4 #[.agg #[.slice A n c], .agg #[.int .i64 p, .int .i64 h, .int .i64 t], .int .i64 v] w fun e w' => e = .returned (.bool true) ∧ Below w.heap.size w w' := by
  by_cases hr : ringR ⟨p, h, t⟩
  · exact law_RingSays_t A n c xs p h t v w hx hr
  · exact law_RingSays_f A n c xs p h t v w hx hr
end Go.Proofs.Ytbopdijnojaaiab
