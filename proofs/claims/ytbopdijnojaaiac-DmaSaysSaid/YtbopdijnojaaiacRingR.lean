/- Rings: Push, Pop and the document's Pushed, Popped, each by one contract for good and bad asks alike. No statement of the seat is proved here. -/
import Derived.Test.YtbopdijnojaaiacRing
import Derived.Test.YtbopdijnojaaiacMemZ
import Derived.Test.YtbopdijnojaaiacBase
import Derived.RegionTactic
import Derived.Deep.RegionHeld3
import Derived.Deep.DrawnRows
import Derived.Test.YtbopdijnojaaiacRingW
namespace Go.Proofs.Ytbopdijnojaaiac
open Go.RowKit
set_option linter.unusedSimpArgs false
set_option linter.unusedVariables false

section
attribute [local go_sem ↓] Go.wp_at_zero Go.wp_at_succ

theorem keepB4 {W W' : World} {p0 p1 p2 p3 : Addr} {v0 v1 v2 v3 : Value} (hb : Below W.heap.size W W') (h : W.cell? p0 = some v0 ∧ W.cell? p1 = some v1 ∧ W.cell? p2 = some v2 ∧ W.cell? p3 = some v3) :
    W'.cell? p0 = some v0 ∧ W'.cell? p1 = some v1 ∧ W'.cell? p2 = some v2 ∧ W'.cell? p3 = some v3 :=
  ⟨since_cell hb h.1, since_cell hb h.2.1, since_cell hb h.2.2.1, since_cell hb h.2.2.2⟩
set_option maxRecDepth 100000 in
set_option maxHeartbeats 4000000 in
theorem ref_Pushed_no (A : Option Addr) (n c : Nat) (xs : List Int) (p h t v : Int) (w : World) (hx : Ints w w.heap.size A n xs) (hE : pushE xs ⟨p, h, t⟩ v ≠ 0) :
    Calls Try.prog 77 #[.agg #[.slice A n c], .agg #[.int .i64 p, .int .i64 h, .int .i64 t], .int .i64 v] w fun e w' => e = .returned (.tuple #[.agg #[.slice none 0 0], .agg #[.int .i64 0, .int .i64 0, .int .i64 0], .int .i64 (pushE xs ⟨p, h, t⟩ v)]) ∧ Below w.heap.size w w' := by
  have HX := Lib.hid hx
  have HE := Lib.hid hE
  clear hE
  by_cases h0 : cm xs = 0
  · have t1 : (cm xs == 0) = true := by rw [beq_iff_eq]; exact h0
    by_cases hr : ringR ⟨p, h, t⟩
    · have hb := bothE_0 h0 hr
      have HR := Lib.hid hr
      have t2 : (ckR ⟨p, h, t⟩ != 0) = false := by rw [bne_eq_false_iff_eq]; exact ckR_0 hr
      by_cases hv : 0 ≤ v ∧ v ≤ 65535
      · have hi := inB_t hv
        by_cases hl : lenR ⟨p, h, t⟩ = 7
        · rw [pushE_m hb hv hl]
          clear hb hx h0 hr hv
          go_enter Try.func77, Try.ntmps77
          go_wp2_with fail
          refine (ref_CheckMem _ _ _ xs _ ((HX.out.alloc (Nat.le_refl _) _ |>.alloc (by simp) _ |>.alloc (by simp; omega) _ |>.alloc (by simp; omega) _).more (by simp; omega))).mono ?_
          rintro e w1 ⟨rfl, hb1⟩
          have hz1 := hb1.size
          (try simp only [World.size_alloc, World.size_setCell, World.size_drew] at hz1)
          have k1_0 := fun o => (bcell hb1).1 (w.heap.size) o (by first | (simp; done) | (simp; omega) | omega)
          have l1_0 : (w.heap.size) < w1.heap.size := (by omega)
          have q1_0 := fun o => (bcell hb1).2 (w.heap.size) o (by first | (simp; done) | (simp; omega) | omega)
          have k1_1 := fun o => (bcell hb1).1 (w.heap.size + 1) o (by first | (simp; done) | (simp; omega) | omega)
          have l1_1 : (w.heap.size + 1) < w1.heap.size := (by omega)
          have q1_1 := fun o => (bcell hb1).2 (w.heap.size + 1) o (by first | (simp; done) | (simp; omega) | omega)
          have k1_2 := fun o => (bcell hb1).1 (w.heap.size + 1 + 1) o (by first | (simp; done) | (simp; omega) | omega)
          have l1_2 : (w.heap.size + 1 + 1) < w1.heap.size := (by omega)
          have q1_2 := fun o => (bcell hb1).2 (w.heap.size + 1 + 1) o (by first | (simp; done) | (simp; omega) | omega)
          have k1_3 := fun o => (bcell hb1).1 (w.heap.size + 1 + 1 + 1) o (by first | (simp; done) | (simp; omega) | omega)
          have l1_3 : (w.heap.size + 1 + 1 + 1) < w1.heap.size := (by omega)
          have q1_3 := fun o => (bcell hb1).2 (w.heap.size + 1 + 1 + 1) o (by first | (simp; done) | (simp; omega) | omega)
          simp (maxDischargeDepth := 6) [go_sem, *] at k1_0 q1_0 k1_1 q1_1 k1_2 q1_2 k1_3 q1_3
          have HB1 := Lib.hid hb1
          clear hb1
          go_wp2_with fail
          refine (ref_CheckRing p h t _).mono ?_
          rintro e w2 ⟨rfl, hb2⟩
          have hz2 := hb2.size
          (try simp only [World.size_alloc, World.size_setCell, World.size_drew] at hz2)
          have k2_0 := fun o => (bcell hb2).1 (w.heap.size) o (by first | (simp; done) | (simp; omega) | omega)
          have l2_0 : (w.heap.size) < w2.heap.size := (by omega)
          have q2_0 := fun o => (bcell hb2).2 (w.heap.size) o (by first | (simp; done) | (simp; omega) | omega)
          have k2_1 := fun o => (bcell hb2).1 (w.heap.size + 1) o (by first | (simp; done) | (simp; omega) | omega)
          have l2_1 : (w.heap.size + 1) < w2.heap.size := (by omega)
          have q2_1 := fun o => (bcell hb2).2 (w.heap.size + 1) o (by first | (simp; done) | (simp; omega) | omega)
          have k2_2 := fun o => (bcell hb2).1 (w.heap.size + 1 + 1) o (by first | (simp; done) | (simp; omega) | omega)
          have l2_2 : (w.heap.size + 1 + 1) < w2.heap.size := (by omega)
          have q2_2 := fun o => (bcell hb2).2 (w.heap.size + 1 + 1) o (by first | (simp; done) | (simp; omega) | omega)
          have k2_3 := fun o => (bcell hb2).1 (w.heap.size + 1 + 1 + 1) o (by first | (simp; done) | (simp; omega) | omega)
          have l2_3 : (w.heap.size + 1 + 1 + 1) < w2.heap.size := (by omega)
          have q2_3 := fun o => (bcell hb2).2 (w.heap.size + 1 + 1 + 1) o (by first | (simp; done) | (simp; omega) | omega)
          simp (maxDischargeDepth := 6) [go_sem, *] at k2_0 q2_0 k2_1 q2_1 k2_2 q2_2 k2_3 q2_3
          have HB2 := Lib.hid hb2
          clear hb2
          go_wp2_with fail
          refine (ref_in _ _ _ _).mono ?_
          rintro e w' ⟨rfl, rfl⟩
          go_wp2_with fail
          refine (ref_LengthOf p h t HR.out _).mono ?_
          rintro e w3 ⟨rfl, hb3⟩
          have hz3 := hb3.size
          (try simp only [World.size_alloc, World.size_setCell, World.size_drew] at hz3)
          have k3_0 := fun o => (bcell hb3).1 (w.heap.size) o (by first | (simp; done) | (simp; omega) | omega)
          have l3_0 : (w.heap.size) < w3.heap.size := (by omega)
          have q3_0 := fun o => (bcell hb3).2 (w.heap.size) o (by first | (simp; done) | (simp; omega) | omega)
          have k3_1 := fun o => (bcell hb3).1 (w.heap.size + 1) o (by first | (simp; done) | (simp; omega) | omega)
          have l3_1 : (w.heap.size + 1) < w3.heap.size := (by omega)
          have q3_1 := fun o => (bcell hb3).2 (w.heap.size + 1) o (by first | (simp; done) | (simp; omega) | omega)
          have k3_2 := fun o => (bcell hb3).1 (w.heap.size + 1 + 1) o (by first | (simp; done) | (simp; omega) | omega)
          have l3_2 : (w.heap.size + 1 + 1) < w3.heap.size := (by omega)
          have q3_2 := fun o => (bcell hb3).2 (w.heap.size + 1 + 1) o (by first | (simp; done) | (simp; omega) | omega)
          have k3_3 := fun o => (bcell hb3).1 (w.heap.size + 1 + 1 + 1) o (by first | (simp; done) | (simp; omega) | omega)
          have l3_3 : (w.heap.size + 1 + 1 + 1) < w3.heap.size := (by omega)
          have q3_3 := fun o => (bcell hb3).2 (w.heap.size + 1 + 1 + 1) o (by first | (simp; done) | (simp; omega) | omega)
          simp (maxDischargeDepth := 6) [go_sem, *] at k3_0 q3_0 k3_1 q3_1 k3_2 q3_2 k3_3 q3_3
          have HB3 := Lib.hid hb3
          clear hb3
          go_wp2_with fail
          all_goals (try go_region)
          all_goals (try go_wp2)
          all_goals
            refine bodyPost_ret (v := .tuple #[.agg #[.slice none 0 0], .agg #[.int .i64 0, .int .i64 0, .int .i64 0], .int .i64 1]) ?_ rfl ⟨rfl, ?_⟩
            · simp (maxDischargeDepth := 8) [results, Try.results77, go_sem, *]
            · (repeat (first | (with_reducible exact Below.refl _ _) | (with_reducible refine Below.drew ?_) | (with_reducible refine bdrewN ?_ _) | ((with_reducible refine Below.setCell ?_ ?_ _); rotate_left; exact (by first | (simp; done) | (simp; omega) | omega)) | ((with_reducible refine Below.alloc ?_ ?_ _); rotate_left; exact (by first | (simp; done) | (simp; omega) | omega)) | ((with_reducible refine Below.trans ?_ (HB3.out.mono ?_)); rotate_left; exact (by first | (simp; done) | (simp; omega) | omega)) | ((with_reducible refine Below.trans ?_ (HB2.out.mono ?_)); rotate_left; exact (by first | (simp; done) | (simp; omega) | omega)) | ((with_reducible refine Below.trans ?_ (HB1.out.mono ?_)); rotate_left; exact (by first | (simp; done) | (simp; omega) | omega))))
        · exact absurd (pushE_0 hb hv hl) HE.out
      · rw [pushE_v hb hv]
        have hi := inB_f hv
        clear hb hx h0 hr hv
        go_enter Try.func77, Try.ntmps77
        go_wp2_with fail
        refine (ref_CheckMem _ _ _ xs _ ((HX.out.alloc (Nat.le_refl _) _ |>.alloc (by simp) _ |>.alloc (by simp; omega) _ |>.alloc (by simp; omega) _).more (by simp; omega))).mono ?_
        rintro e w1 ⟨rfl, hb1⟩
        have hz1 := hb1.size
        (try simp only [World.size_alloc, World.size_setCell, World.size_drew] at hz1)
        have k1_0 := fun o => (bcell hb1).1 (w.heap.size) o (by first | (simp; done) | (simp; omega) | omega)
        have l1_0 : (w.heap.size) < w1.heap.size := (by omega)
        have q1_0 := fun o => (bcell hb1).2 (w.heap.size) o (by first | (simp; done) | (simp; omega) | omega)
        have k1_1 := fun o => (bcell hb1).1 (w.heap.size + 1) o (by first | (simp; done) | (simp; omega) | omega)
        have l1_1 : (w.heap.size + 1) < w1.heap.size := (by omega)
        have q1_1 := fun o => (bcell hb1).2 (w.heap.size + 1) o (by first | (simp; done) | (simp; omega) | omega)
        have k1_2 := fun o => (bcell hb1).1 (w.heap.size + 1 + 1) o (by first | (simp; done) | (simp; omega) | omega)
        have l1_2 : (w.heap.size + 1 + 1) < w1.heap.size := (by omega)
        have q1_2 := fun o => (bcell hb1).2 (w.heap.size + 1 + 1) o (by first | (simp; done) | (simp; omega) | omega)
        have k1_3 := fun o => (bcell hb1).1 (w.heap.size + 1 + 1 + 1) o (by first | (simp; done) | (simp; omega) | omega)
        have l1_3 : (w.heap.size + 1 + 1 + 1) < w1.heap.size := (by omega)
        have q1_3 := fun o => (bcell hb1).2 (w.heap.size + 1 + 1 + 1) o (by first | (simp; done) | (simp; omega) | omega)
        simp (maxDischargeDepth := 6) [go_sem, *] at k1_0 q1_0 k1_1 q1_1 k1_2 q1_2 k1_3 q1_3
        have HB1 := Lib.hid hb1
        clear hb1
        go_wp2_with fail
        refine (ref_CheckRing p h t _).mono ?_
        rintro e w2 ⟨rfl, hb2⟩
        have hz2 := hb2.size
        (try simp only [World.size_alloc, World.size_setCell, World.size_drew] at hz2)
        have k2_0 := fun o => (bcell hb2).1 (w.heap.size) o (by first | (simp; done) | (simp; omega) | omega)
        have l2_0 : (w.heap.size) < w2.heap.size := (by omega)
        have q2_0 := fun o => (bcell hb2).2 (w.heap.size) o (by first | (simp; done) | (simp; omega) | omega)
        have k2_1 := fun o => (bcell hb2).1 (w.heap.size + 1) o (by first | (simp; done) | (simp; omega) | omega)
        have l2_1 : (w.heap.size + 1) < w2.heap.size := (by omega)
        have q2_1 := fun o => (bcell hb2).2 (w.heap.size + 1) o (by first | (simp; done) | (simp; omega) | omega)
        have k2_2 := fun o => (bcell hb2).1 (w.heap.size + 1 + 1) o (by first | (simp; done) | (simp; omega) | omega)
        have l2_2 : (w.heap.size + 1 + 1) < w2.heap.size := (by omega)
        have q2_2 := fun o => (bcell hb2).2 (w.heap.size + 1 + 1) o (by first | (simp; done) | (simp; omega) | omega)
        have k2_3 := fun o => (bcell hb2).1 (w.heap.size + 1 + 1 + 1) o (by first | (simp; done) | (simp; omega) | omega)
        have l2_3 : (w.heap.size + 1 + 1 + 1) < w2.heap.size := (by omega)
        have q2_3 := fun o => (bcell hb2).2 (w.heap.size + 1 + 1 + 1) o (by first | (simp; done) | (simp; omega) | omega)
        simp (maxDischargeDepth := 6) [go_sem, *] at k2_0 q2_0 k2_1 q2_1 k2_2 q2_2 k2_3 q2_3
        have HB2 := Lib.hid hb2
        clear hb2
        go_wp2_with fail
        refine (ref_in _ _ _ _).mono ?_
        rintro e w' ⟨rfl, rfl⟩
        go_wp2_with fail
        all_goals (try go_region)
        all_goals (try go_wp2)
        all_goals
          refine bodyPost_ret (v := .tuple #[.agg #[.slice none 0 0], .agg #[.int .i64 0, .int .i64 0, .int .i64 0], .int .i64 2]) ?_ rfl ⟨rfl, ?_⟩
          · simp (maxDischargeDepth := 8) [results, Try.results77, go_sem, *]
          · (repeat (first | (with_reducible exact Below.refl _ _) | (with_reducible refine Below.drew ?_) | (with_reducible refine bdrewN ?_ _) | ((with_reducible refine Below.setCell ?_ ?_ _); rotate_left; exact (by first | (simp; done) | (simp; omega) | omega)) | ((with_reducible refine Below.alloc ?_ ?_ _); rotate_left; exact (by first | (simp; done) | (simp; omega) | omega)) | ((with_reducible refine Below.trans ?_ (HB2.out.mono ?_)); rotate_left; exact (by first | (simp; done) | (simp; omega) | omega)) | ((with_reducible refine Below.trans ?_ (HB1.out.mono ?_)); rotate_left; exact (by first | (simp; done) | (simp; omega) | omega))))
    · have e2 := ckR_2 hr
      have hb : bothE xs ⟨p, h, t⟩ = 2 := by unfold bothE; rw [if_pos h0, e2]
      rw [pushE_b (by rw [hb]; decide), hb]
      clear hb hx h0 hr
      go_enter Try.func77, Try.ntmps77
      go_wp2_with fail
      refine (ref_CheckMem _ _ _ xs _ ((HX.out.alloc (Nat.le_refl _) _ |>.alloc (by simp) _ |>.alloc (by simp; omega) _ |>.alloc (by simp; omega) _).more (by simp; omega))).mono ?_
      rintro e w1 ⟨rfl, hb1⟩
      have hz1 := hb1.size
      (try simp only [World.size_alloc, World.size_setCell, World.size_drew] at hz1)
      have k1_0 := fun o => (bcell hb1).1 (w.heap.size) o (by first | (simp; done) | (simp; omega) | omega)
      have l1_0 : (w.heap.size) < w1.heap.size := (by omega)
      have q1_0 := fun o => (bcell hb1).2 (w.heap.size) o (by first | (simp; done) | (simp; omega) | omega)
      have k1_1 := fun o => (bcell hb1).1 (w.heap.size + 1) o (by first | (simp; done) | (simp; omega) | omega)
      have l1_1 : (w.heap.size + 1) < w1.heap.size := (by omega)
      have q1_1 := fun o => (bcell hb1).2 (w.heap.size + 1) o (by first | (simp; done) | (simp; omega) | omega)
      have k1_2 := fun o => (bcell hb1).1 (w.heap.size + 1 + 1) o (by first | (simp; done) | (simp; omega) | omega)
      have l1_2 : (w.heap.size + 1 + 1) < w1.heap.size := (by omega)
      have q1_2 := fun o => (bcell hb1).2 (w.heap.size + 1 + 1) o (by first | (simp; done) | (simp; omega) | omega)
      have k1_3 := fun o => (bcell hb1).1 (w.heap.size + 1 + 1 + 1) o (by first | (simp; done) | (simp; omega) | omega)
      have l1_3 : (w.heap.size + 1 + 1 + 1) < w1.heap.size := (by omega)
      have q1_3 := fun o => (bcell hb1).2 (w.heap.size + 1 + 1 + 1) o (by first | (simp; done) | (simp; omega) | omega)
      simp (maxDischargeDepth := 6) [go_sem, *] at k1_0 q1_0 k1_1 q1_1 k1_2 q1_2 k1_3 q1_3
      have HB1 := Lib.hid hb1
      clear hb1
      go_wp2_with fail
      refine (ref_CheckRing p h t _).mono ?_
      rintro e w2 ⟨rfl, hb2⟩
      have hz2 := hb2.size
      (try simp only [World.size_alloc, World.size_setCell, World.size_drew] at hz2)
      have k2_0 := fun o => (bcell hb2).1 (w.heap.size) o (by first | (simp; done) | (simp; omega) | omega)
      have l2_0 : (w.heap.size) < w2.heap.size := (by omega)
      have q2_0 := fun o => (bcell hb2).2 (w.heap.size) o (by first | (simp; done) | (simp; omega) | omega)
      have k2_1 := fun o => (bcell hb2).1 (w.heap.size + 1) o (by first | (simp; done) | (simp; omega) | omega)
      have l2_1 : (w.heap.size + 1) < w2.heap.size := (by omega)
      have q2_1 := fun o => (bcell hb2).2 (w.heap.size + 1) o (by first | (simp; done) | (simp; omega) | omega)
      have k2_2 := fun o => (bcell hb2).1 (w.heap.size + 1 + 1) o (by first | (simp; done) | (simp; omega) | omega)
      have l2_2 : (w.heap.size + 1 + 1) < w2.heap.size := (by omega)
      have q2_2 := fun o => (bcell hb2).2 (w.heap.size + 1 + 1) o (by first | (simp; done) | (simp; omega) | omega)
      have k2_3 := fun o => (bcell hb2).1 (w.heap.size + 1 + 1 + 1) o (by first | (simp; done) | (simp; omega) | omega)
      have l2_3 : (w.heap.size + 1 + 1 + 1) < w2.heap.size := (by omega)
      have q2_3 := fun o => (bcell hb2).2 (w.heap.size + 1 + 1 + 1) o (by first | (simp; done) | (simp; omega) | omega)
      simp (maxDischargeDepth := 6) [go_sem, *] at k2_0 q2_0 k2_1 q2_1 k2_2 q2_2 k2_3 q2_3
      have HB2 := Lib.hid hb2
      clear hb2
      go_wp2_with fail
      all_goals (try go_region)
      all_goals (try go_wp2)
      all_goals
        refine bodyPost_ret (v := .tuple #[.agg #[.slice none 0 0], .agg #[.int .i64 0, .int .i64 0, .int .i64 0], .int .i64 2]) ?_ rfl ⟨rfl, ?_⟩
        · simp (maxDischargeDepth := 8) [results, Try.results77, go_sem, *]
        · (repeat (first | (with_reducible exact Below.refl _ _) | (with_reducible refine Below.drew ?_) | (with_reducible refine bdrewN ?_ _) | ((with_reducible refine Below.setCell ?_ ?_ _); rotate_left; exact (by first | (simp; done) | (simp; omega) | omega)) | ((with_reducible refine Below.alloc ?_ ?_ _); rotate_left; exact (by first | (simp; done) | (simp; omega) | omega)) | ((with_reducible refine Below.trans ?_ (HB2.out.mono ?_)); rotate_left; exact (by first | (simp; done) | (simp; omega) | omega)) | ((with_reducible refine Below.trans ?_ (HB1.out.mono ?_)); rotate_left; exact (by first | (simp; done) | (simp; omega) | omega))))
  · have hb : bothE xs ⟨p, h, t⟩ = cm xs := by unfold bothE; rw [if_neg h0]
    rw [pushE_b (by rw [hb]; exact h0), hb]
    have t1 : (cm xs == 0) = false := by rw [beq_eq_false_iff_ne]; exact h0
    have t2 : (cm xs != 0) = true := by rw [bne_iff_ne]; exact h0
    clear hb hx h0
    go_enter Try.func77, Try.ntmps77
    go_wp2_with fail
    refine (ref_CheckMem _ _ _ xs _ ((HX.out.alloc (Nat.le_refl _) _ |>.alloc (by simp) _ |>.alloc (by simp; omega) _ |>.alloc (by simp; omega) _).more (by simp; omega))).mono ?_
    rintro e w1 ⟨rfl, hb1⟩
    have hz1 := hb1.size
    (try simp only [World.size_alloc, World.size_setCell, World.size_drew] at hz1)
    have k1_0 := fun o => (bcell hb1).1 (w.heap.size) o (by first | (simp; done) | (simp; omega) | omega)
    have l1_0 : (w.heap.size) < w1.heap.size := (by omega)
    have q1_0 := fun o => (bcell hb1).2 (w.heap.size) o (by first | (simp; done) | (simp; omega) | omega)
    have k1_1 := fun o => (bcell hb1).1 (w.heap.size + 1) o (by first | (simp; done) | (simp; omega) | omega)
    have l1_1 : (w.heap.size + 1) < w1.heap.size := (by omega)
    have q1_1 := fun o => (bcell hb1).2 (w.heap.size + 1) o (by first | (simp; done) | (simp; omega) | omega)
    have k1_2 := fun o => (bcell hb1).1 (w.heap.size + 1 + 1) o (by first | (simp; done) | (simp; omega) | omega)
    have l1_2 : (w.heap.size + 1 + 1) < w1.heap.size := (by omega)
    have q1_2 := fun o => (bcell hb1).2 (w.heap.size + 1 + 1) o (by first | (simp; done) | (simp; omega) | omega)
    have k1_3 := fun o => (bcell hb1).1 (w.heap.size + 1 + 1 + 1) o (by first | (simp; done) | (simp; omega) | omega)
    have l1_3 : (w.heap.size + 1 + 1 + 1) < w1.heap.size := (by omega)
    have q1_3 := fun o => (bcell hb1).2 (w.heap.size + 1 + 1 + 1) o (by first | (simp; done) | (simp; omega) | omega)
    simp (maxDischargeDepth := 6) [go_sem, *] at k1_0 q1_0 k1_1 q1_1 k1_2 q1_2 k1_3 q1_3
    have HB1 := Lib.hid hb1
    clear hb1
    go_wp2_with fail
    all_goals (try go_region)
    all_goals (try go_wp2)
    all_goals
      refine bodyPost_ret (v := .tuple #[.agg #[.slice none 0 0], .agg #[.int .i64 0, .int .i64 0, .int .i64 0], .int .i64 (cm xs)]) ?_ rfl ⟨rfl, ?_⟩
      · simp (maxDischargeDepth := 8) [results, Try.results77, go_sem, *]
      · (repeat (first | (with_reducible exact Below.refl _ _) | (with_reducible refine Below.drew ?_) | (with_reducible refine bdrewN ?_ _) | ((with_reducible refine Below.setCell ?_ ?_ _); rotate_left; exact (by first | (simp; done) | (simp; omega) | omega)) | ((with_reducible refine Below.alloc ?_ ?_ _); rotate_left; exact (by first | (simp; done) | (simp; omega) | omega)) | ((with_reducible refine Below.trans ?_ (HB1.out.mono ?_)); rotate_left; exact (by first | (simp; done) | (simp; omega) | omega))))

set_option maxRecDepth 100000 in
set_option maxHeartbeats 4000000 in
theorem ref_Pushed (A : Option Addr) (n c : Nat) (xs : List Int) (p h t v : Int) (w : World) (hx : Ints w w.heap.size A n xs) (hE : pushE xs ⟨p, h, t⟩ v = 0) :
    Calls Try.prog 77 #[.agg #[.slice A n c], .agg #[.int .i64 p, .int .i64 h, .int .i64 t], .int .i64 v] w fun e w' => ∃ A' c', e = .returned (.tuple #[.agg #[.slice A' 512 c'], .agg #[.int .i64 p, .int .i64 h, .int .i64 ((t + 1) % 8)], .int .i64 0]) ∧ OwnI w.heap.size w' A' 512 c' (pushX xs ⟨p, h, t⟩ v) ∧ Below w.heap.size w w' := by
  obtain ⟨hb, hv, hl⟩ := pushE_inv hE
  obtain ⟨h0, hr⟩ := bothE_inv hb
  have hn : n = 512 := by rw [← hx.len]; exact (cm_inv h0).1
  subst hn
  have HX := Lib.hid hx
  have HR := Lib.hid hr
  have t1 : (cm xs == 0) = true := by rw [beq_iff_eq]; exact h0
  have t2 : (ckR ⟨p, h, t⟩ != 0) = false := by rw [bne_eq_false_iff_eq]; exact ckR_0 hr
  have t3 : (lenR ⟨p, h, t⟩ == 7) = false := by rw [beq_eq_false_iff_ne]; exact hl
  have hi := inB_t hv
  unfold ringR at hr
  simp only [] at hr
  obtain ⟨⟨h1, h2⟩, ⟨h3, h4⟩, h5, h6⟩ := hr
  have HK := Lib.hid (show 0 ≤ p * 8 + t ∧ p * 8 + t < 512 by omega)
  have q1 : IntKind.i64.wrap (p * 8) = p * 8 := IntWalk.i64_in _ (by omega)
  have q2 : IntKind.i64.wrap (p * 8 + t) = p * 8 + t := IntWalk.i64_in _ (by omega)
  have q3 : IntKind.i64.wrap (t + 1) = t + 1 := IntWalk.i64_in _ (by omega)
  have q4 : (t + 1).tmod 8 = (t + 1) % 8 := Int.tmod_eq_emod_of_nonneg (by omega)
  have Q := Lib.hid (And.intro q1 (And.intro q2 (And.intro q3 q4)))
  clear hb hx h0 hv hl hE q1 q2 q3 q4
  go_enter Try.func77, Try.ntmps77
  go_wp2_with fail
  refine (ref_CheckMem _ _ _ xs _ ((HX.out.alloc (Nat.le_refl _) _ |>.alloc (by simp) _ |>.alloc (by simp; omega) _ |>.alloc (by simp; omega) _).more (by simp; omega))).mono ?_
  rintro e w1 ⟨rfl, hb1⟩
  have hz1 := hb1.size
  (try simp only [World.size_alloc, World.size_setCell, World.size_drew] at hz1)
  have k1_0 := fun o => (bcell hb1).1 (w.heap.size) o (by first | (simp; done) | (simp; omega) | omega)
  have l1_0 : (w.heap.size) < w1.heap.size := (by omega)
  have q1_0 := fun o => (bcell hb1).2 (w.heap.size) o (by first | (simp; done) | (simp; omega) | omega)
  have k1_1 := fun o => (bcell hb1).1 (w.heap.size + 1) o (by first | (simp; done) | (simp; omega) | omega)
  have l1_1 : (w.heap.size + 1) < w1.heap.size := (by omega)
  have q1_1 := fun o => (bcell hb1).2 (w.heap.size + 1) o (by first | (simp; done) | (simp; omega) | omega)
  have k1_2 := fun o => (bcell hb1).1 (w.heap.size + 1 + 1) o (by first | (simp; done) | (simp; omega) | omega)
  have l1_2 : (w.heap.size + 1 + 1) < w1.heap.size := (by omega)
  have q1_2 := fun o => (bcell hb1).2 (w.heap.size + 1 + 1) o (by first | (simp; done) | (simp; omega) | omega)
  have k1_3 := fun o => (bcell hb1).1 (w.heap.size + 1 + 1 + 1) o (by first | (simp; done) | (simp; omega) | omega)
  have l1_3 : (w.heap.size + 1 + 1 + 1) < w1.heap.size := (by omega)
  have q1_3 := fun o => (bcell hb1).2 (w.heap.size + 1 + 1 + 1) o (by first | (simp; done) | (simp; omega) | omega)
  simp (maxDischargeDepth := 6) [go_sem, *] at k1_0 q1_0 k1_1 q1_1 k1_2 q1_2 k1_3 q1_3
  have HB1 := Lib.hid hb1
  clear hb1
  go_wp2_with fail
  refine (ref_CheckRing p h t _).mono ?_
  rintro e w2 ⟨rfl, hb2⟩
  have hz2 := hb2.size
  (try simp only [World.size_alloc, World.size_setCell, World.size_drew] at hz2)
  have k2_0 := fun o => (bcell hb2).1 (w.heap.size) o (by first | (simp; done) | (simp; omega) | omega)
  have l2_0 : (w.heap.size) < w2.heap.size := (by omega)
  have q2_0 := fun o => (bcell hb2).2 (w.heap.size) o (by first | (simp; done) | (simp; omega) | omega)
  have k2_1 := fun o => (bcell hb2).1 (w.heap.size + 1) o (by first | (simp; done) | (simp; omega) | omega)
  have l2_1 : (w.heap.size + 1) < w2.heap.size := (by omega)
  have q2_1 := fun o => (bcell hb2).2 (w.heap.size + 1) o (by first | (simp; done) | (simp; omega) | omega)
  have k2_2 := fun o => (bcell hb2).1 (w.heap.size + 1 + 1) o (by first | (simp; done) | (simp; omega) | omega)
  have l2_2 : (w.heap.size + 1 + 1) < w2.heap.size := (by omega)
  have q2_2 := fun o => (bcell hb2).2 (w.heap.size + 1 + 1) o (by first | (simp; done) | (simp; omega) | omega)
  have k2_3 := fun o => (bcell hb2).1 (w.heap.size + 1 + 1 + 1) o (by first | (simp; done) | (simp; omega) | omega)
  have l2_3 : (w.heap.size + 1 + 1 + 1) < w2.heap.size := (by omega)
  have q2_3 := fun o => (bcell hb2).2 (w.heap.size + 1 + 1 + 1) o (by first | (simp; done) | (simp; omega) | omega)
  simp (maxDischargeDepth := 6) [go_sem, *] at k2_0 q2_0 k2_1 q2_1 k2_2 q2_2 k2_3 q2_3
  have HB2 := Lib.hid hb2
  clear hb2
  go_wp2_with fail
  refine (ref_in _ _ _ _).mono ?_
  rintro e w' ⟨rfl, rfl⟩
  go_wp2_with fail
  refine (ref_LengthOf p h t HR.out _).mono ?_
  rintro e w3 ⟨rfl, hb3⟩
  have hz3 := hb3.size
  (try simp only [World.size_alloc, World.size_setCell, World.size_drew] at hz3)
  have k3_0 := fun o => (bcell hb3).1 (w.heap.size) o (by first | (simp; done) | (simp; omega) | omega)
  have l3_0 : (w.heap.size) < w3.heap.size := (by omega)
  have q3_0 := fun o => (bcell hb3).2 (w.heap.size) o (by first | (simp; done) | (simp; omega) | omega)
  have k3_1 := fun o => (bcell hb3).1 (w.heap.size + 1) o (by first | (simp; done) | (simp; omega) | omega)
  have l3_1 : (w.heap.size + 1) < w3.heap.size := (by omega)
  have q3_1 := fun o => (bcell hb3).2 (w.heap.size + 1) o (by first | (simp; done) | (simp; omega) | omega)
  have k3_2 := fun o => (bcell hb3).1 (w.heap.size + 1 + 1) o (by first | (simp; done) | (simp; omega) | omega)
  have l3_2 : (w.heap.size + 1 + 1) < w3.heap.size := (by omega)
  have q3_2 := fun o => (bcell hb3).2 (w.heap.size + 1 + 1) o (by first | (simp; done) | (simp; omega) | omega)
  have k3_3 := fun o => (bcell hb3).1 (w.heap.size + 1 + 1 + 1) o (by first | (simp; done) | (simp; omega) | omega)
  have l3_3 : (w.heap.size + 1 + 1 + 1) < w3.heap.size := (by omega)
  have q3_3 := fun o => (bcell hb3).2 (w.heap.size + 1 + 1 + 1) o (by first | (simp; done) | (simp; omega) | omega)
  simp (maxDischargeDepth := 6) [go_sem, *] at k3_0 q3_0 k3_1 q3_1 k3_2 q3_2 k3_3 q3_3
  have HB3 := Lib.hid hb3
  clear hb3
  have X3 := Lib.hid ((((HX.out.alloc (Nat.le_refl _) (.cells #[.slice A 512 c] 30) |>.alloc (by simp) (.cells #[.int .i64 p, .int .i64 h, .int .i64 t] 35) |>.alloc (by simp; omega) (.cells #[.slice none 0 0] 30) |>.alloc (by simp; omega) (.cells #[.int .i64 0, .int .i64 0, .int .i64 0] 35)).below (HB1.out.mono (by simp; omega))).more (B' := w1.heap.size) (by omega)).below HB2.out |>.more (B' := w2.heap.size) (by omega) |>.below HB3.out |>.more (B' := w3.heap.size) (by omega))
  have C0 : w3.cell? ⟨w.heap.size, 0, none⟩ = some (.slice A 512 c) := by simp [k3_0]
  have C1 : w3.cell? ⟨w.heap.size + 1, 0, none⟩ = some (.int .i64 p) := by simp [k3_1]
  have C2 : w3.cell? ⟨w.heap.size + 1, 1, none⟩ = some (.int .i64 h) := by simp [k3_1]
  have C3 : w3.cell? ⟨w.heap.size + 1, 2, none⟩ = some (.int .i64 t) := by simp [k3_1]
  have HC := Lib.hid (And.intro C0 (And.intro C1 (And.intro C2 C3)))
  go_wp2_with fail
  obtain ⟨q1, q2, q3, q4⟩ := Q.out
  go_region_held3 (fun W => W.cell? ⟨w.heap.size, 0, none⟩ = some (.slice A 512 c) ∧ W.cell? ⟨w.heap.size + 1, 0, none⟩ = some (.int .i64 p) ∧ W.cell? ⟨w.heap.size + 1, 1, none⟩ = some (.int .i64 h) ∧ W.cell? ⟨w.heap.size + 1, 2, none⟩ = some (.int .i64 t))
    (first
      | exact ⟨C0, C1, C2, C3⟩
      | (refine ⟨?_, ?_, ?_, ?_⟩ <;> simp (maxDischargeDepth := 8) [k5_0, k5_1])
      | (refine ⟨?_, ?_, ?_, ?_⟩ <;> simp (maxDischargeDepth := 8) [go_sem, *])
      | go_keep)
    (first
      | (go_at_call 100; refine (ref_Put A c xs _ v _ ?_ HK.out).mono ?_; (exact X3.out.drew); rintro e w5 ⟨A5, c5, rfl, ho5, hb5⟩; have HO5 : Hid (OwnI w3.heap.size w5 A5 512 c5 (pushX xs ⟨p, h, t⟩ v)) := Lib.hid ho5; clear ho5; have hz5 := hb5.size; (try simp only [World.size_alloc, World.size_setCell, World.size_drew] at hz5); have k5_0 := fun o => (bcell hb5).1 (w.heap.size) o (by first | (simp; done) | (simp; omega) | omega); have l5_0 : (w.heap.size) < w5.heap.size := (by omega); have q5_0 := fun o => (bcell hb5).2 (w.heap.size) o (by first | (simp; done) | (simp; omega) | omega); have k5_1 := fun o => (bcell hb5).1 (w.heap.size + 1) o (by first | (simp; done) | (simp; omega) | omega); have l5_1 : (w.heap.size + 1) < w5.heap.size := (by omega); have q5_1 := fun o => (bcell hb5).2 (w.heap.size + 1) o (by first | (simp; done) | (simp; omega) | omega); have k5_2 := fun o => (bcell hb5).1 (w.heap.size + 1 + 1) o (by first | (simp; done) | (simp; omega) | omega); have l5_2 : (w.heap.size + 1 + 1) < w5.heap.size := (by omega); have q5_2 := fun o => (bcell hb5).2 (w.heap.size + 1 + 1) o (by first | (simp; done) | (simp; omega) | omega); have k5_3 := fun o => (bcell hb5).1 (w.heap.size + 1 + 1 + 1) o (by first | (simp; done) | (simp; omega) | omega); have l5_3 : (w.heap.size + 1 + 1 + 1) < w5.heap.size := (by omega); have q5_3 := fun o => (bcell hb5).2 (w.heap.size + 1 + 1 + 1) o (by first | (simp; done) | (simp; omega) | omega); simp (maxDischargeDepth := 6) [go_sem, *] at k5_0 q5_0 k5_1 q5_1 k5_2 q5_2 k5_3 q5_3; have HB5 := Lib.hid hb5; clear hb5))
  all_goals
    clear q1 q2 q3 q4
    go_wp2
    refine bodyPost_ret (v := .tuple #[.agg #[.slice A5 512 c5], .agg #[.int .i64 p, .int .i64 h, .int .i64 ((t + 1) % 8)], .int .i64 0]) ?_ rfl ⟨_, _, rfl, ?_, ?_⟩
    · simp (maxDischargeDepth := 8) [results, Try.results77, go_sem, *]
    · (refine OwnI.low (B := w3.heap.size) ?_ (by omega)); (repeat (first | (with_reducible refine OwnI.drew ?_) | (with_reducible refine OwnI.drewN ?_ _) | (with_reducible refine OwnI.alloc ?_ _) | (with_reducible exact HO5.out) | (with_reducible refine OwnI.set ?_ (by first | (simp; done) | (simp; omega)) _)))
    · (repeat (first | (with_reducible exact Below.refl _ _) | (with_reducible refine Below.drew ?_) | (with_reducible refine bdrewN ?_ _) | ((with_reducible refine Below.setCell ?_ ?_ _); rotate_left; exact (by first | (simp; done) | (simp; omega) | omega)) | ((with_reducible refine Below.alloc ?_ ?_ _); rotate_left; exact (by first | (simp; done) | (simp; omega) | omega)) | ((with_reducible refine Below.trans ?_ (HB5.out.mono ?_)); rotate_left; exact (by first | (simp; done) | (simp; omega) | omega)) | ((with_reducible refine Below.trans ?_ (HB3.out.mono ?_)); rotate_left; exact (by first | (simp; done) | (simp; omega) | omega)) | ((with_reducible refine Below.trans ?_ (HB2.out.mono ?_)); rotate_left; exact (by first | (simp; done) | (simp; omega) | omega)) | ((with_reducible refine Below.trans ?_ (HB1.out.mono ?_)); rotate_left; exact (by first | (simp; done) | (simp; omega) | omega))))

end

section
def pushL (xs : List Int) (r : Ring) (v : Int) : List Int := if pushE xs r v = 0 then pushX xs r v else []
def pushN (xs : List Int) (r : Ring) (v : Int) : Nat := if pushE xs r v = 0 then 512 else 0
def pushT (xs : List Int) (r : Ring) (v : Int) : Ring := if pushE xs r v = 0 then pushR r else Ring.no
def popW (xs : List Int) (r : Ring) : Int := if popE xs r = 0 then popV xs r else 0
def popT (xs : List Int) (r : Ring) : Ring := if popE xs r = 0 then popR r else Ring.no
theorem ints_none (w : World) (B : Nat) : Ints w B none 0 [] := ⟨rfl, by unfold maxLen; omega, Row.nil_⟩

def PushC (w : World) (xs : List Int) (r : Ring) (v : Int) (e : Ending) (w' : World) : Prop :=
  ∃ A c, e = .returned (.tuple #[.agg #[.slice A (pushN xs r v) c], .agg #[.int .i64 (pushT xs r v).page, .int .i64 (pushT xs r v).head, .int .i64 (pushT xs r v).tail], .int .i64 (pushE xs r v)]) ∧ Ints w' w'.heap.size A (pushN xs r v) (pushL xs r v) ∧ Below w.heap.size w w'
theorem any_Push (A : Option Addr) (n c : Nat) (xs : List Int) (p h t v : Int) (w : World) (hx : Ints w w.heap.size A n xs) :
    Calls Try.prog 92 #[.agg #[.slice A n c], .agg #[.int .i64 p, .int .i64 h, .int .i64 t], .int .i64 v] w (PushC w xs ⟨p, h, t⟩ v) := by
  by_cases hE : pushE xs ⟨p, h, t⟩ v = 0
  · refine (ring_Push A n c xs p h t v w hx hE).mono ?_
    rintro e w' ⟨A', c', rfl, ho, hb⟩
    refine ⟨A', c', ?_, ?_, hb⟩
    · simp only [pushN, pushT, if_pos hE]; rw [hE]; rfl
    · simp only [pushN, pushL, if_pos hE]; exact ho.ints (by decide)
  · refine (ring_Push_no A n c xs p h t v w hx hE).mono ?_
    rintro e w' ⟨rfl, hb⟩
    refine ⟨none, 0, ?_, ?_, hb⟩
    · simp only [pushN, pushT, if_neg hE]; rfl
    · simp only [pushN, pushL, if_neg hE]; exact ints_none _ _
theorem any_Pushed (A : Option Addr) (n c : Nat) (xs : List Int) (p h t v : Int) (w : World) (hx : Ints w w.heap.size A n xs) :
    Calls Try.prog 77 #[.agg #[.slice A n c], .agg #[.int .i64 p, .int .i64 h, .int .i64 t], .int .i64 v] w (PushC w xs ⟨p, h, t⟩ v) := by
  by_cases hE : pushE xs ⟨p, h, t⟩ v = 0
  · refine (ref_Pushed A n c xs p h t v w hx hE).mono ?_
    rintro e w' ⟨A', c', rfl, ho, hb⟩
    refine ⟨A', c', ?_, ?_, hb⟩
    · simp only [pushN, pushT, if_pos hE]; rw [hE]; rfl
    · simp only [pushN, pushL, if_pos hE]; exact ho.ints (by decide)
  · refine (ref_Pushed_no A n c xs p h t v w hx hE).mono ?_
    rintro e w' ⟨rfl, hb⟩
    refine ⟨none, 0, ?_, ?_, hb⟩
    · simp only [pushN, pushT, if_neg hE]; rfl
    · simp only [pushN, pushL, if_neg hE]; exact ints_none _ _
theorem any_Pop (A : Option Addr) (n c : Nat) (xs : List Int) (p h t : Int) (w : World) (hx : Ints w w.heap.size A n xs) :
    Calls Try.prog 28 #[.agg #[.slice A n c], .agg #[.int .i64 p, .int .i64 h, .int .i64 t]] w fun e w' => e = .returned (.tuple #[.int .i64 (popW xs ⟨p, h, t⟩), .agg #[.int .i64 (popT xs ⟨p, h, t⟩).page, .int .i64 (popT xs ⟨p, h, t⟩).head, .int .i64 (popT xs ⟨p, h, t⟩).tail], .int .i64 (popE xs ⟨p, h, t⟩)]) ∧ Below w.heap.size w w' := by
  by_cases hE : popE xs ⟨p, h, t⟩ = 0
  · refine (ring_Pop A n c xs p h t w hx hE).mono ?_
    rintro e w' ⟨rfl, hb⟩
    refine ⟨?_, hb⟩
    simp only [popW, popT, if_pos hE]; rw [hE]; rfl
  · refine (ring_Pop_no A n c xs p h t w hx hE).mono ?_
    rintro e w' ⟨rfl, hb⟩
    refine ⟨?_, hb⟩
    simp only [popW, popT, if_neg hE]; rfl
end
end Go.Proofs.Ytbopdijnojaaiac
