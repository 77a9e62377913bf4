/- Tables: the walk of the law WalkRight. -/
import Derived.Test.YtbopdijnojaaiaaLawWalk
import Derived.Test.YtbopdijnojaaiaaAt
namespace Go.Proofs.Ytbopdijnojaaiaa
open Go.RowKit
set_option linter.unusedSimpArgs false
set_option linter.unusedVariables false

set_option maxRecDepth 100000 in
set_option maxHeartbeats 4000000 in
theorem Right_c (A : Option Addr) (n c : Nat) (xs : List Int) (root page : Int) (w : World) (h : Ints w w.heap.size A n xs) (h0 : cm xs ≠ 0)
    (hx : walkA xs (root % 64) (page % 64) true = (⟨false, false, false, false, 0⟩, 0, cm xs)) (hy : walkA xs (root % 64) (page % 64) false = (⟨false, false, false, false, 0⟩, 0, cm xs)) :
    Calls Try.prog 13 #[.agg #[.slice A n c], .int .i64 root, .int .i64 page] w fun e w' => e = .returned (.bool true) ∧ Below w.heap.size w w' := by
  have HX := Lib.hid h
  generalize hr : root % 64 = root' at *
  generalize hp : page % 64 = page' at *
  have H1 := Lib.hid hx
  have H2 := Lib.hid hy
  have t1 : (cm xs != 0) = true := by rw [bne_iff_ne]; exact h0
  clear h hx hy h0
  go_enter Try.func13, Try.ntmps13
  go_wp2_with (first | (go_at_call 46; refine (law_at _ _ (by simp) _).mono ?_; rintro e w' ⟨rfl, rfl⟩; simp only [hr, hp]))
  refine (walk_at _ _ _ xs _ _ _ _ _ _ _ _ _ _ _ ((HX.out.alloc (Nat.le_refl _) _).more (by simp)) H1.out).mono ?_
  rintro e w1 ⟨rfl, hb1⟩
  have hz1 := hb1.size
  (try simp only [World.size_alloc, World.size_setCell, World.size_drew] at hz1)
  have k1_0 := fun o => (bcell hb1).1 (w.heap.size) o (by first | (simp; done) | (simp; omega) | omega)
  have l1_0 : (w.heap.size) < w1.heap.size := (by omega)
  have q1_0 := fun o => (bcell hb1).2 (w.heap.size) o (by first | (simp; done) | (simp; omega) | omega)
  simp (maxDischargeDepth := 6) [go_sem, *] at k1_0 q1_0
  have HB1 := Lib.hid hb1
  clear hb1
  have X1 := Lib.hid (((HX.out.alloc (Nat.le_refl _) (.cells #[.slice A n c] 59)).below (HB1.out.mono (by simp))).more (B' := w1.heap.size) (by omega))
  go_wp2_with fail
  refine (walk_at _ _ _ xs _ _ _ _ _ _ _ _ _ _ _ ((X1.out.alloc (Nat.le_refl _) _).more (by simp)) H2.out).mono ?_
  rintro e w2 ⟨rfl, hb2⟩
  have hz2 := hb2.size
  (try simp only [World.size_alloc, World.size_setCell, World.size_drew] at hz2)
  have k2_0 := fun o => (bcell hb2).1 (w1.heap.size) o (by first | (simp; done) | (simp; omega) | omega)
  have l2_0 : (w1.heap.size) < w2.heap.size := (by omega)
  have q2_0 := fun o => (bcell hb2).2 (w1.heap.size) o (by first | (simp; done) | (simp; omega) | omega)
  simp (maxDischargeDepth := 6) [go_sem, *] at k2_0 q2_0
  have HB2 := Lib.hid hb2
  clear hb2
  go_wp2_with fail
  refine (law_walked _).mono ?_
  rintro e w3 ⟨rfl, hb3⟩
  have hz3 := hb3.size
  (try simp only [World.size_alloc, World.size_setCell, World.size_drew] at hz3)
  have k3_0 := fun o => (bcell hb3).1 (w1.heap.size) o (by first | (simp; done) | (simp; omega) | omega)
  have l3_0 : (w1.heap.size) < w3.heap.size := (by omega)
  have q3_0 := fun o => (bcell hb3).2 (w1.heap.size) o (by first | (simp; done) | (simp; omega) | omega)
  have k3_1 := fun o => (bcell hb3).1 (w2.heap.size) o (by first | (simp; done) | (simp; omega) | omega)
  have l3_1 : (w2.heap.size) < w3.heap.size := (by omega)
  have q3_1 := fun o => (bcell hb3).2 (w2.heap.size) o (by first | (simp; done) | (simp; omega) | omega)
  simp (maxDischargeDepth := 6) [go_sem, *] at k3_0 q3_0 k3_1 q3_1
  have HB3 := Lib.hid hb3
  clear hb3
  go_wp2_with fail
  refine (law_walked _).mono ?_
  rintro e w4 ⟨rfl, hb4⟩
  have hz4 := hb4.size
  (try simp only [World.size_alloc, World.size_setCell, World.size_drew] at hz4)
  have k4_0 := fun o => (bcell hb4).1 (w1.heap.size) o (by first | (simp; done) | (simp; omega) | omega)
  have l4_0 : (w1.heap.size) < w4.heap.size := (by omega)
  have q4_0 := fun o => (bcell hb4).2 (w1.heap.size) o (by first | (simp; done) | (simp; omega) | omega)
  have k4_1 := fun o => (bcell hb4).1 (w2.heap.size) o (by first | (simp; done) | (simp; omega) | omega)
  have l4_1 : (w2.heap.size) < w4.heap.size := (by omega)
  have q4_1 := fun o => (bcell hb4).2 (w2.heap.size) o (by first | (simp; done) | (simp; omega) | omega)
  simp (maxDischargeDepth := 6) [go_sem, *] at k4_0 q4_0 k4_1 q4_1
  have HB4 := Lib.hid hb4
  clear hb4
  go_wp2
  go_ret
  exact ⟨rfl, by (repeat (first | (with_reducible exact Below.refl _ _) | (with_reducible refine Below.drew ?_) | (with_reducible refine bdrewN ?_ _) | ((with_reducible refine Below.setCell ?_ ?_ _); rotate_left; exact (by first | (simp; done) | (simp; omega) | omega)) | ((with_reducible refine Below.alloc ?_ ?_ _); rotate_left; exact (by first | (simp; done) | (simp; omega) | omega)) | ((with_reducible refine Below.trans ?_ (HB4.out.mono ?_)); rotate_left; exact (by first | (simp; done) | (simp; omega) | omega)) | ((with_reducible refine Below.trans ?_ (HB3.out.mono ?_)); rotate_left; exact (by first | (simp; done) | (simp; omega) | omega)) | ((with_reducible refine Below.trans ?_ (HB2.out.mono ?_)); rotate_left; exact (by first | (simp; done) | (simp; omega) | omega)) | ((with_reducible refine Below.trans ?_ (HB1.out.mono ?_)); rotate_left; exact (by first | (simp; done) | (simp; omega) | omega))))⟩

set_option maxRecDepth 100000 in
set_option maxHeartbeats 4000000 in
theorem Right_f (A : Option Addr) (n c : Nat) (xs : List Int) (root page : Int) (w : World) (h : Ints w w.heap.size A n xs) (f : Int) (h0 : f ≠ 0)
    (hx : walkA xs (root % 64) (page % 64) true = (⟨false, false, false, false, 0⟩, f, 0)) (hy : walkA xs (root % 64) (page % 64) false = (⟨false, false, false, false, 0⟩, f, 0)) :
    Calls Try.prog 13 #[.agg #[.slice A n c], .int .i64 root, .int .i64 page] w fun e w' => e = .returned (.bool true) ∧ Below w.heap.size w w' := by
  have HX := Lib.hid h
  generalize hr : root % 64 = root' at *
  generalize hp : page % 64 = page' at *
  have H1 := Lib.hid hx
  have H2 := Lib.hid hy
  have t1 : (f != 0) = true := by rw [bne_iff_ne]; exact h0
  have t2 : (f == 0) = false := by rw [beq_eq_false_iff_ne]; exact h0
  clear h hx hy h0
  go_enter Try.func13, Try.ntmps13
  go_wp2_with (first | (go_at_call 46; refine (law_at _ _ (by simp) _).mono ?_; rintro e w' ⟨rfl, rfl⟩; simp only [hr, hp]))
  refine (walk_at _ _ _ xs _ _ _ _ _ _ _ _ _ _ _ ((HX.out.alloc (Nat.le_refl _) _).more (by simp)) H1.out).mono ?_
  rintro e w1 ⟨rfl, hb1⟩
  have hz1 := hb1.size
  (try simp only [World.size_alloc, World.size_setCell, World.size_drew] at hz1)
  have k1_0 := fun o => (bcell hb1).1 (w.heap.size) o (by first | (simp; done) | (simp; omega) | omega)
  have l1_0 : (w.heap.size) < w1.heap.size := (by omega)
  have q1_0 := fun o => (bcell hb1).2 (w.heap.size) o (by first | (simp; done) | (simp; omega) | omega)
  simp (maxDischargeDepth := 6) [go_sem, *] at k1_0 q1_0
  have HB1 := Lib.hid hb1
  clear hb1
  have X1 := Lib.hid (((HX.out.alloc (Nat.le_refl _) (.cells #[.slice A n c] 59)).below (HB1.out.mono (by simp))).more (B' := w1.heap.size) (by omega))
  go_wp2_with fail
  refine (walk_at _ _ _ xs _ _ _ _ _ _ _ _ _ _ _ ((X1.out.alloc (Nat.le_refl _) _).more (by simp)) H2.out).mono ?_
  rintro e w2 ⟨rfl, hb2⟩
  have hz2 := hb2.size
  (try simp only [World.size_alloc, World.size_setCell, World.size_drew] at hz2)
  have k2_0 := fun o => (bcell hb2).1 (w1.heap.size) o (by first | (simp; done) | (simp; omega) | omega)
  have l2_0 : (w1.heap.size) < w2.heap.size := (by omega)
  have q2_0 := fun o => (bcell hb2).2 (w1.heap.size) o (by first | (simp; done) | (simp; omega) | omega)
  simp (maxDischargeDepth := 6) [go_sem, *] at k2_0 q2_0
  have HB2 := Lib.hid hb2
  clear hb2
  go_wp2_with fail
  refine (law_walked _).mono ?_
  rintro e w3 ⟨rfl, hb3⟩
  have hz3 := hb3.size
  (try simp only [World.size_alloc, World.size_setCell, World.size_drew] at hz3)
  have k3_0 := fun o => (bcell hb3).1 (w1.heap.size) o (by first | (simp; done) | (simp; omega) | omega)
  have l3_0 : (w1.heap.size) < w3.heap.size := (by omega)
  have q3_0 := fun o => (bcell hb3).2 (w1.heap.size) o (by first | (simp; done) | (simp; omega) | omega)
  have k3_1 := fun o => (bcell hb3).1 (w2.heap.size) o (by first | (simp; done) | (simp; omega) | omega)
  have l3_1 : (w2.heap.size) < w3.heap.size := (by omega)
  have q3_1 := fun o => (bcell hb3).2 (w2.heap.size) o (by first | (simp; done) | (simp; omega) | omega)
  simp (maxDischargeDepth := 6) [go_sem, *] at k3_0 q3_0 k3_1 q3_1
  have HB3 := Lib.hid hb3
  clear hb3
  go_wp2
  go_ret
  exact ⟨rfl, by (repeat (first | (with_reducible exact Below.refl _ _) | (with_reducible refine Below.drew ?_) | (with_reducible refine bdrewN ?_ _) | ((with_reducible refine Below.setCell ?_ ?_ _); rotate_left; exact (by first | (simp; done) | (simp; omega) | omega)) | ((with_reducible refine Below.alloc ?_ ?_ _); rotate_left; exact (by first | (simp; done) | (simp; omega) | omega)) | ((with_reducible refine Below.trans ?_ (HB3.out.mono ?_)); rotate_left; exact (by first | (simp; done) | (simp; omega) | omega)) | ((with_reducible refine Below.trans ?_ (HB2.out.mono ?_)); rotate_left; exact (by first | (simp; done) | (simp; omega) | omega)) | ((with_reducible refine Below.trans ?_ (HB1.out.mono ?_)); rotate_left; exact (by first | (simp; done) | (simp; omega) | omega))))⟩

set_option maxRecDepth 100000 in
set_option maxHeartbeats 4000000 in
theorem Right_r (A : Option Addr) (n c : Nat) (xs : List Int) (root page : Int) (w : World) (h : Ints w w.heap.size A n xs) (v : Bool) (p : Int)
    (hx : walkA xs (root % 64) (page % 64) true = (⟨false, false, false, false, 0⟩, 5, 0)) (hy : walkA xs (root % 64) (page % 64) false = (⟨v, true, false, true, p⟩, 0, 0)) :
    Calls Try.prog 13 #[.agg #[.slice A n c], .int .i64 root, .int .i64 page] w fun e w' => e = .returned (.bool true) ∧ Below w.heap.size w w' := by
  have HX := Lib.hid h
  generalize hr : root % 64 = root' at *
  generalize hp : page % 64 = page' at *
  have H1 := Lib.hid hx
  have H2 := Lib.hid hy

  clear h hx hy 
  go_enter Try.func13, Try.ntmps13
  go_wp2_with (first | (go_at_call 46; refine (law_at _ _ (by simp) _).mono ?_; rintro e w' ⟨rfl, rfl⟩; simp only [hr, hp]))
  refine (walk_at _ _ _ xs _ _ _ _ _ _ _ _ _ _ _ ((HX.out.alloc (Nat.le_refl _) _).more (by simp)) H1.out).mono ?_
  rintro e w1 ⟨rfl, hb1⟩
  have hz1 := hb1.size
  (try simp only [World.size_alloc, World.size_setCell, World.size_drew] at hz1)
  have k1_0 := fun o => (bcell hb1).1 (w.heap.size) o (by first | (simp; done) | (simp; omega) | omega)
  have l1_0 : (w.heap.size) < w1.heap.size := (by omega)
  have q1_0 := fun o => (bcell hb1).2 (w.heap.size) o (by first | (simp; done) | (simp; omega) | omega)
  simp (maxDischargeDepth := 6) [go_sem, *] at k1_0 q1_0
  have HB1 := Lib.hid hb1
  clear hb1
  have X1 := Lib.hid (((HX.out.alloc (Nat.le_refl _) (.cells #[.slice A n c] 59)).below (HB1.out.mono (by simp))).more (B' := w1.heap.size) (by omega))
  go_wp2_with fail
  refine (walk_at _ _ _ xs _ _ _ _ _ _ _ _ _ _ _ ((X1.out.alloc (Nat.le_refl _) _).more (by simp)) H2.out).mono ?_
  rintro e w2 ⟨rfl, hb2⟩
  have hz2 := hb2.size
  (try simp only [World.size_alloc, World.size_setCell, World.size_drew] at hz2)
  have k2_0 := fun o => (bcell hb2).1 (w1.heap.size) o (by first | (simp; done) | (simp; omega) | omega)
  have l2_0 : (w1.heap.size) < w2.heap.size := (by omega)
  have q2_0 := fun o => (bcell hb2).2 (w1.heap.size) o (by first | (simp; done) | (simp; omega) | omega)
  simp (maxDischargeDepth := 6) [go_sem, *] at k2_0 q2_0
  have HB2 := Lib.hid hb2
  clear hb2
  go_wp2_with fail
  refine (law_walked _).mono ?_
  rintro e w3 ⟨rfl, hb3⟩
  have hz3 := hb3.size
  (try simp only [World.size_alloc, World.size_setCell, World.size_drew] at hz3)
  have k3_0 := fun o => (bcell hb3).1 (w1.heap.size) o (by first | (simp; done) | (simp; omega) | omega)
  have l3_0 : (w1.heap.size) < w3.heap.size := (by omega)
  have q3_0 := fun o => (bcell hb3).2 (w1.heap.size) o (by first | (simp; done) | (simp; omega) | omega)
  have k3_1 := fun o => (bcell hb3).1 (w2.heap.size) o (by first | (simp; done) | (simp; omega) | omega)
  have l3_1 : (w2.heap.size) < w3.heap.size := (by omega)
  have q3_1 := fun o => (bcell hb3).2 (w2.heap.size) o (by first | (simp; done) | (simp; omega) | omega)
  simp (maxDischargeDepth := 6) [go_sem, *] at k3_0 q3_0 k3_1 q3_1
  have HB3 := Lib.hid hb3
  clear hb3
  go_wp2
  go_ret
  exact ⟨rfl, by (repeat (first | (with_reducible exact Below.refl _ _) | (with_reducible refine Below.drew ?_) | (with_reducible refine bdrewN ?_ _) | ((with_reducible refine Below.setCell ?_ ?_ _); rotate_left; exact (by first | (simp; done) | (simp; omega) | omega)) | ((with_reducible refine Below.alloc ?_ ?_ _); rotate_left; exact (by first | (simp; done) | (simp; omega) | omega)) | ((with_reducible refine Below.trans ?_ (HB3.out.mono ?_)); rotate_left; exact (by first | (simp; done) | (simp; omega) | omega)) | ((with_reducible refine Below.trans ?_ (HB2.out.mono ?_)); rotate_left; exact (by first | (simp; done) | (simp; omega) | omega)) | ((with_reducible refine Below.trans ?_ (HB1.out.mono ?_)); rotate_left; exact (by first | (simp; done) | (simp; omega) | omega))))⟩

set_option maxRecDepth 100000 in
set_option maxHeartbeats 4000000 in
theorem Right_u (A : Option Addr) (n c : Nat) (xs : List Int) (root page : Int) (w : World) (h : Ints w w.heap.size A n xs) (v : Bool) (p : Int)
    (hx : walkA xs (root % 64) (page % 64) true = (⟨v, true, true, true, p⟩, 0, 0)) (hy : walkA xs (root % 64) (page % 64) false = (⟨v, true, true, true, p⟩, 0, 0)) :
    Calls Try.prog 13 #[.agg #[.slice A n c], .int .i64 root, .int .i64 page] w fun e w' => e = .returned (.bool true) ∧ Below w.heap.size w w' := by
  have HX := Lib.hid h
  generalize hr : root % 64 = root' at *
  generalize hp : page % 64 = page' at *
  have H1 := Lib.hid hx
  have H2 := Lib.hid hy

  clear h hx hy 
  go_enter Try.func13, Try.ntmps13
  go_wp2_with (first | (go_at_call 46; refine (law_at _ _ (by simp) _).mono ?_; rintro e w' ⟨rfl, rfl⟩; simp only [hr, hp]))
  refine (walk_at _ _ _ xs _ _ _ _ _ _ _ _ _ _ _ ((HX.out.alloc (Nat.le_refl _) _).more (by simp)) H1.out).mono ?_
  rintro e w1 ⟨rfl, hb1⟩
  have hz1 := hb1.size
  (try simp only [World.size_alloc, World.size_setCell, World.size_drew] at hz1)
  have k1_0 := fun o => (bcell hb1).1 (w.heap.size) o (by first | (simp; done) | (simp; omega) | omega)
  have l1_0 : (w.heap.size) < w1.heap.size := (by omega)
  have q1_0 := fun o => (bcell hb1).2 (w.heap.size) o (by first | (simp; done) | (simp; omega) | omega)
  simp (maxDischargeDepth := 6) [go_sem, *] at k1_0 q1_0
  have HB1 := Lib.hid hb1
  clear hb1
  have X1 := Lib.hid (((HX.out.alloc (Nat.le_refl _) (.cells #[.slice A n c] 59)).below (HB1.out.mono (by simp))).more (B' := w1.heap.size) (by omega))
  go_wp2_with fail
  refine (walk_at _ _ _ xs _ _ _ _ _ _ _ _ _ _ _ ((X1.out.alloc (Nat.le_refl _) _).more (by simp)) H2.out).mono ?_
  rintro e w2 ⟨rfl, hb2⟩
  have hz2 := hb2.size
  (try simp only [World.size_alloc, World.size_setCell, World.size_drew] at hz2)
  have k2_0 := fun o => (bcell hb2).1 (w1.heap.size) o (by first | (simp; done) | (simp; omega) | omega)
  have l2_0 : (w1.heap.size) < w2.heap.size := (by omega)
  have q2_0 := fun o => (bcell hb2).2 (w1.heap.size) o (by first | (simp; done) | (simp; omega) | omega)
  simp (maxDischargeDepth := 6) [go_sem, *] at k2_0 q2_0
  have HB2 := Lib.hid hb2
  clear hb2
  go_wp2_with fail
  refine (law_walked _).mono ?_
  rintro e w3 ⟨rfl, hb3⟩
  have hz3 := hb3.size
  (try simp only [World.size_alloc, World.size_setCell, World.size_drew] at hz3)
  have k3_0 := fun o => (bcell hb3).1 (w1.heap.size) o (by first | (simp; done) | (simp; omega) | omega)
  have l3_0 : (w1.heap.size) < w3.heap.size := (by omega)
  have q3_0 := fun o => (bcell hb3).2 (w1.heap.size) o (by first | (simp; done) | (simp; omega) | omega)
  have k3_1 := fun o => (bcell hb3).1 (w2.heap.size) o (by first | (simp; done) | (simp; omega) | omega)
  have l3_1 : (w2.heap.size) < w3.heap.size := (by omega)
  have q3_1 := fun o => (bcell hb3).2 (w2.heap.size) o (by first | (simp; done) | (simp; omega) | omega)
  simp (maxDischargeDepth := 6) [go_sem, *] at k3_0 q3_0 k3_1 q3_1
  have HB3 := Lib.hid hb3
  clear hb3
  go_wp2
  go_ret
  exact ⟨rfl, by (repeat (first | (with_reducible exact Below.refl _ _) | (with_reducible refine Below.drew ?_) | (with_reducible refine bdrewN ?_ _) | ((with_reducible refine Below.setCell ?_ ?_ _); rotate_left; exact (by first | (simp; done) | (simp; omega) | omega)) | ((with_reducible refine Below.alloc ?_ ?_ _); rotate_left; exact (by first | (simp; done) | (simp; omega) | omega)) | ((with_reducible refine Below.trans ?_ (HB3.out.mono ?_)); rotate_left; exact (by first | (simp; done) | (simp; omega) | omega)) | ((with_reducible refine Below.trans ?_ (HB2.out.mono ?_)); rotate_left; exact (by first | (simp; done) | (simp; omega) | omega)) | ((with_reducible refine Below.trans ?_ (HB1.out.mono ?_)); rotate_left; exact (by first | (simp; done) | (simp; omega) | omega))))⟩

theorem law_WalkRight (A : Option Addr) (n c : Nat) (xs : List Int) (root page : Int) (w : World) (h : Ints w w.heap.size A n xs) :
    Calls Try.prog 13 #[.agg #[.slice A n c], .int .i64 root, .int .i64 page] w fun e w' => e = .returned (.bool true) ∧ Below w.heap.size w w' := by
  by_cases h0 : cm xs = 0
  · have hin : inP (root % 64) (page % 64) := by unfold inP; omega
    have ea : ∀ wr, walkA xs (root % 64) (page % 64) wr = ((walkM xs (root % 64) (page % 64) wr).1, (walkM xs (root % 64) (page % 64) wr).2, 0) := fun wr => by unfold walkA; rw [if_pos h0, if_pos hin]
    have hk := leafM_ok xs (root % 64) (page % 64)
    have hm : ∀ wr, walkM xs (root % 64) (page % 64) wr = if (leafM xs (root % 64) (page % 64)).2 = 0 then (if (leafM xs (root % 64) (page % 64)).1.r && (!wr || (leafM xs (root % 64) (page % 64)).1.u) then leafM xs (root % 64) (page % 64) else (.no, 5)) else (.no, (leafM xs (root % 64) (page % 64)).2) := fun _ => rfl
    generalize leafM xs (root % 64) (page % 64) = q at *
    obtain ⟨⟨v, r, u, l, p⟩, f⟩ := q
    dsimp only at hm
    by_cases hf : f = 0
    · subst hf
      rcases hk with ⟨_, _, hl, _⟩ | ⟨_, hk⟩
      · dsimp only at hl
        subst hl
        cases r
        · exact Right_f A n c xs root page w h 5 (by decide) (by rw [ea, hm]; simp [Ent.no]) (by rw [ea, hm]; simp [Ent.no])
        · cases u
          · exact Right_r A n c xs root page w h v p (by rw [ea, hm]; simp [Ent.no]) (by rw [ea, hm]; simp)
          · exact Right_u A n c xs root page w h v p (by rw [ea, hm]; simp) (by rw [ea, hm]; simp)
      · rcases hk with hk | hk <;> cases hk
    · exact Right_f A n c xs root page w h f hf (by rw [ea, hm]; simp [hf, Ent.no]) (by rw [ea, hm]; simp [hf, Ent.no])
  · have ea : ∀ wr, walkA xs (root % 64) (page % 64) wr = (⟨false, false, false, false, 0⟩, 0, cm xs) := fun wr => by unfold walkA; rw [if_neg h0]; rfl
    exact Right_c A n c xs root page w h h0 (ea _) (ea _)
end Go.Proofs.Ytbopdijnojaaiaa
