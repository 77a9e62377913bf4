/- Tables: the walk of the laws' closed fact 'walked'. No statement of the seat is proved here. -/
import Derived.Test.YtbopdijnojaaiadWalk
import Derived.Test.YtbopdijnojaaiadMemZ
namespace Go.Proofs.Ytbopdijnojaaiad
open Go.RowKit
set_option linter.unusedSimpArgs false
set_option linter.unusedVariables false

section
set_option maxRecDepth 100000 in
set_option maxHeartbeats 1000000 in
theorem walk_right (v r u l : Bool) (p : Int) (wr : Bool) (w : World) : Calls Try.prog 69 #[.agg #[.bool v, .bool r, .bool u, .bool l, .int .i64 p], .bool wr] w fun e w' => e = .returned (.bool (r && (!wr || u))) ∧ Below w.heap.size w w' := by
  have HB := Lib.hid (below_alloc w)
  cases r <;> cases u <;> cases wr
  all_goals
    go_enter Try.func69, Try.ntmps69
    go_wp2
    go_ret
    exact ⟨rfl, HB.out _⟩

theorem walk_right' (v r u l : Bool) (p : Int) (wr b : Bool) (h : (r && (!wr || u)) = b) (w : World) : Calls Try.prog 69 #[.agg #[.bool v, .bool r, .bool u, .bool l, .int .i64 p], .bool wr] w fun e w' => e = .returned (.bool b) ∧ Below w.heap.size w w' := by
  rw [← h]; exact walk_right v r u l p wr w

/-- the leaf, as a contract that shows its parts. -/
theorem walk_leaf' (A : Option Addr) (c : Nat) (xs : List Int) (root page : Int) (v r u l : Bool) (p f : Int) (w : World) (h : Ints w w.heap.size A 512 xs) (h0 : cm xs = 0) (hin : inP root page) (hq : leafM xs root page = (⟨v, r, u, l, p⟩, f)) :
    Calls Try.prog 68 #[.agg #[.slice A 512 c], .int .i64 root, .int .i64 page] w fun e w' => e = .returned (.tuple #[.agg #[.bool v, .bool r, .bool u, .bool l, .int .i64 p], .int .i64 f]) ∧ Below w.heap.size w w' := by
  have := walk_leaf A c xs root page w h h0 hin
  rw [hq] at this
  exact this
set_option maxRecDepth 100000 in
set_option maxHeartbeats 4000000 in
theorem Walk_cm (A : Option Addr) (n c : Nat) (xs : List Int) (root page : Int) (wr : Bool) (w : World) (h : Ints w w.heap.size A n xs) (h0 : cm xs ≠ 0) :
    Calls Try.prog 66 #[.agg #[.slice A n c], .int .i64 root, .int .i64 page, .bool wr] w fun e w' => e = .returned (.tuple #[.agg #[.bool false, .bool false, .bool false, .bool false, .int .i64 0], .int .i64 0, .int .i64 (cm xs)]) ∧ Below w.heap.size w w' := by
  have HX := Lib.hid h
  have hc0 : (cm xs != 0) = true := by rw [bne_iff_ne]; exact h0
  clear h h0
  go_enter Try.func66, Try.ntmps66
  go_wp2_with fail
  refine (mem_Check _ _ _ xs _ (((HX.out.alloc (Nat.le_refl _) _).alloc (by simp) _).more (by simp; omega))).mono ?_
  rintro e w1 ⟨rfl, hb1⟩
  have hz1 := hb1.size
  (try simp only [World.size_alloc, World.size_setCell, World.size_drew] at hz1)
  have k1_0 := fun o => (bcell hb1).1 (w.heap.size) o (by first | (simp; done) | (simp; omega) | omega)
  have l1_0 : (w.heap.size) < w1.heap.size := (by omega)
  have q1_0 := fun o => (bcell hb1).2 (w.heap.size) o (by first | (simp; done) | (simp; omega) | omega)
  have k1_1 := fun o => (bcell hb1).1 (w.heap.size + 1) o (by first | (simp; done) | (simp; omega) | omega)
  have l1_1 : (w.heap.size + 1) < w1.heap.size := (by omega)
  have q1_1 := fun o => (bcell hb1).2 (w.heap.size + 1) o (by first | (simp; done) | (simp; omega) | omega)
  simp (maxDischargeDepth := 6) [go_sem, *] at k1_0 q1_0 k1_1 q1_1
  have HB1 := Lib.hid hb1
  clear hb1
  go_wp2
  refine bodyPost_ret (v := .tuple #[.agg #[.bool false, .bool false, .bool false, .bool false, .int .i64 0], .int .i64 0, .int .i64 (cm xs)]) ?_ rfl ⟨rfl, ?_⟩
  · simp (maxDischargeDepth := 8) [results, Try.results66, go_sem, *]
  · (repeat (first | (with_reducible exact Below.refl _ _) | (with_reducible refine Below.drew ?_) | (with_reducible refine bdrewN ?_ _) | ((with_reducible refine Below.setCell ?_ ?_ _); rotate_left; exact (by first | (simp; done) | (simp; omega) | omega)) | ((with_reducible refine Below.alloc ?_ ?_ _); rotate_left; exact (by first | (simp; done) | (simp; omega) | omega)) | ((with_reducible refine Below.trans ?_ (HB1.out.mono ?_)); rotate_left; exact (by first | (simp; done) | (simp; omega) | omega))))

set_option maxRecDepth 100000 in
set_option maxHeartbeats 4000000 in
theorem Walk_who (A : Option Addr) (n c : Nat) (xs : List Int) (root page : Int) (wr : Bool) (w : World) (h : Ints w w.heap.size A n xs) (h0 : cm xs = 0) (hin : ¬ inP root page) :
    Calls Try.prog 66 #[.agg #[.slice A n c], .int .i64 root, .int .i64 page, .bool wr] w fun e w' => e = .returned (.tuple #[.agg #[.bool false, .bool false, .bool false, .bool false, .int .i64 0], .int .i64 0, .int .i64 4]) ∧ Below w.heap.size w w' := by
  have HX := Lib.hid h
  have hc0 : (cm xs != 0) = false := by rw [bne_eq_false_iff_eq]; exact h0
  have H0 := Lib.hid h0
  unfold inP at hin
  have hr : root < 0 ∨ (0 ≤ root ∧ 64 ≤ root) ∨ (0 ≤ root ∧ root < 64 ∧ page < 0) ∨ (0 ≤ root ∧ root < 64 ∧ 0 ≤ page ∧ 64 ≤ page) := by omega
  clear h h0 hin
  have hc1 := H0.out
  clear hc1
  rcases hr with hr | ⟨hr, hr2⟩ | ⟨hr, hr2, hr3⟩ | ⟨hr, hr2, hr3, hr4⟩
  all_goals
    go_enter Try.func66, Try.ntmps66
    go_wp2_with fail
    refine (mem_Check _ _ _ xs _ (((HX.out.alloc (Nat.le_refl _) _).alloc (by simp) _).more (by simp; omega))).mono ?_
    rintro e w1 ⟨rfl, hb1⟩
    have hz1 := hb1.size
    (try simp only [World.size_alloc, World.size_setCell, World.size_drew] at hz1)
    have k1_0 := fun o => (bcell hb1).1 (w.heap.size) o (by first | (simp; done) | (simp; omega) | omega)
    have l1_0 : (w.heap.size) < w1.heap.size := (by omega)
    have q1_0 := fun o => (bcell hb1).2 (w.heap.size) o (by first | (simp; done) | (simp; omega) | omega)
    have k1_1 := fun o => (bcell hb1).1 (w.heap.size + 1) o (by first | (simp; done) | (simp; omega) | omega)
    have l1_1 : (w.heap.size + 1) < w1.heap.size := (by omega)
    have q1_1 := fun o => (bcell hb1).2 (w.heap.size + 1) o (by first | (simp; done) | (simp; omega) | omega)
    simp (maxDischargeDepth := 6) [go_sem, *] at k1_0 q1_0 k1_1 q1_1
    have HB1 := Lib.hid hb1
    clear hb1
    go_wp2
    refine bodyPost_ret (v := .tuple #[.agg #[.bool false, .bool false, .bool false, .bool false, .int .i64 0], .int .i64 0, .int .i64 4]) ?_ rfl ⟨rfl, ?_⟩
    · simp (maxDischargeDepth := 8) [results, Try.results66, go_sem, *]
    · (repeat (first | (with_reducible exact Below.refl _ _) | (with_reducible refine Below.drew ?_) | (with_reducible refine bdrewN ?_ _) | ((with_reducible refine Below.setCell ?_ ?_ _); rotate_left; exact (by first | (simp; done) | (simp; omega) | omega)) | ((with_reducible refine Below.alloc ?_ ?_ _); rotate_left; exact (by first | (simp; done) | (simp; omega) | omega)) | ((with_reducible refine Below.trans ?_ (HB1.out.mono ?_)); rotate_left; exact (by first | (simp; done) | (simp; omega) | omega))))

set_option maxRecDepth 100000 in
set_option maxHeartbeats 4000000 in
theorem Walk_fault (A : Option Addr) (n c : Nat) (xs : List Int) (root page : Int) (wr : Bool) (w : World) (h : Ints w w.heap.size A n xs) (h0 : cm xs = 0) (hin : inP root page) (v r u l : Bool) (p f : Int) (hq : leafM xs root page = (⟨v, r, u, l, p⟩, f)) (hf : f ≠ 0) :
    Calls Try.prog 66 #[.agg #[.slice A n c], .int .i64 root, .int .i64 page, .bool wr] w fun e w' => e = .returned (.tuple #[.agg #[.bool v, .bool r, .bool u, .bool l, .int .i64 p], .int .i64 f, .int .i64 0]) ∧ Below w.heap.size w w' := by
  have HX := Lib.hid h
  have hc0 : (cm xs != 0) = false := by rw [bne_eq_false_iff_eq]; exact h0
  have H0 := Lib.hid h0
  have HIN := Lib.hid hin
  have HQ := Lib.hid hq
  have hn : n = 512 := by rw [← HX.out.len]; exact (cm_inv h0).1
  subst hn
  unfold inP at hin
  obtain ⟨⟨h1, h2⟩, h3, h4⟩ := hin
  have hf1 : (f == 0) = false := by rw [beq_eq_false_iff_ne]; exact hf
  clear h h0 hq hf
  go_enter Try.func66, Try.ntmps66
  go_wp2_with fail
  refine (mem_Check _ _ _ xs _ (((HX.out.alloc (Nat.le_refl _) _).alloc (by simp) _).more (by simp; omega))).mono ?_
  rintro e w1 ⟨rfl, hb1⟩
  have hz1 := hb1.size
  (try simp only [World.size_alloc, World.size_setCell, World.size_drew] at hz1)
  have k1_0 := fun o => (bcell hb1).1 (w.heap.size) o (by first | (simp; done) | (simp; omega) | omega)
  have l1_0 : (w.heap.size) < w1.heap.size := (by omega)
  have q1_0 := fun o => (bcell hb1).2 (w.heap.size) o (by first | (simp; done) | (simp; omega) | omega)
  have k1_1 := fun o => (bcell hb1).1 (w.heap.size + 1) o (by first | (simp; done) | (simp; omega) | omega)
  have l1_1 : (w.heap.size + 1) < w1.heap.size := (by omega)
  have q1_1 := fun o => (bcell hb1).2 (w.heap.size + 1) o (by first | (simp; done) | (simp; omega) | omega)
  simp (maxDischargeDepth := 6) [go_sem, *] at k1_0 q1_0 k1_1 q1_1
  have HB1 := Lib.hid hb1
  clear hb1
  go_wp2_with fail
  refine (walk_leaf' _ _ xs root page v r u l p f _ ((((HX.out.alloc (Nat.le_refl _) _).alloc (by simp) _).below (HB1.out.mono (by simp; omega))).more (by omega)) H0.out HIN.out HQ.out).mono ?_
  rintro e w2 ⟨rfl, hb2⟩
  have hz2 := hb2.size
  (try simp only [World.size_alloc, World.size_setCell, World.size_drew] at hz2)
  have k2_0 := fun o => (bcell hb2).1 (w.heap.size) o (by first | (simp; done) | (simp; omega) | omega)
  have l2_0 : (w.heap.size) < w2.heap.size := (by omega)
  have q2_0 := fun o => (bcell hb2).2 (w.heap.size) o (by first | (simp; done) | (simp; omega) | omega)
  have k2_1 := fun o => (bcell hb2).1 (w.heap.size + 1) o (by first | (simp; done) | (simp; omega) | omega)
  have l2_1 : (w.heap.size + 1) < w2.heap.size := (by omega)
  have q2_1 := fun o => (bcell hb2).2 (w.heap.size + 1) o (by first | (simp; done) | (simp; omega) | omega)
  simp (maxDischargeDepth := 6) [go_sem, *] at k2_0 q2_0 k2_1 q2_1
  have HB2 := Lib.hid hb2
  clear hb2
  go_wp2
  refine bodyPost_ret (v := .tuple #[.agg #[.bool v, .bool r, .bool u, .bool l, .int .i64 p], .int .i64 f, .int .i64 0]) ?_ rfl ⟨rfl, ?_⟩
  · simp (maxDischargeDepth := 8) [results, Try.results66, go_sem, *]
  · (repeat (first | (with_reducible exact Below.refl _ _) | (with_reducible refine Below.drew ?_) | (with_reducible refine bdrewN ?_ _) | ((with_reducible refine Below.setCell ?_ ?_ _); rotate_left; exact (by first | (simp; done) | (simp; omega) | omega)) | ((with_reducible refine Below.alloc ?_ ?_ _); rotate_left; exact (by first | (simp; done) | (simp; omega) | omega)) | ((with_reducible refine Below.trans ?_ (HB2.out.mono ?_)); rotate_left; exact (by first | (simp; done) | (simp; omega) | omega)) | ((with_reducible refine Below.trans ?_ (HB1.out.mono ?_)); rotate_left; exact (by first | (simp; done) | (simp; omega) | omega))))

set_option maxRecDepth 100000 in
set_option maxHeartbeats 4000000 in
theorem Walk_no (A : Option Addr) (n c : Nat) (xs : List Int) (root page : Int) (wr : Bool) (w : World) (h : Ints w w.heap.size A n xs) (h0 : cm xs = 0) (hin : inP root page) (v r u l : Bool) (p f : Int) (hq : leafM xs root page = (⟨v, r, u, l, p⟩, f)) (hf : f = 0) (hr : (r && (!wr || u)) = false) :
    Calls Try.prog 66 #[.agg #[.slice A n c], .int .i64 root, .int .i64 page, .bool wr] w fun e w' => e = .returned (.tuple #[.agg #[.bool false, .bool false, .bool false, .bool false, .int .i64 0], .int .i64 5, .int .i64 0]) ∧ Below w.heap.size w w' := by
  have HX := Lib.hid h
  have hc0 : (cm xs != 0) = false := by rw [bne_eq_false_iff_eq]; exact h0
  have H0 := Lib.hid h0
  have HIN := Lib.hid hin
  have HQ := Lib.hid hq
  have hn : n = 512 := by rw [← HX.out.len]; exact (cm_inv h0).1
  subst hn
  unfold inP at hin
  obtain ⟨⟨h1, h2⟩, h3, h4⟩ := hin
  subst hf
  have HR := Lib.hid hr
  clear h h0 hq hr
  go_enter Try.func66, Try.ntmps66
  go_wp2_with fail
  refine (mem_Check _ _ _ xs _ (((HX.out.alloc (Nat.le_refl _) _).alloc (by simp) _).more (by simp; omega))).mono ?_
  rintro e w1 ⟨rfl, hb1⟩
  have hz1 := hb1.size
  (try simp only [World.size_alloc, World.size_setCell, World.size_drew] at hz1)
  have k1_0 := fun o => (bcell hb1).1 (w.heap.size) o (by first | (simp; done) | (simp; omega) | omega)
  have l1_0 : (w.heap.size) < w1.heap.size := (by omega)
  have q1_0 := fun o => (bcell hb1).2 (w.heap.size) o (by first | (simp; done) | (simp; omega) | omega)
  have k1_1 := fun o => (bcell hb1).1 (w.heap.size + 1) o (by first | (simp; done) | (simp; omega) | omega)
  have l1_1 : (w.heap.size + 1) < w1.heap.size := (by omega)
  have q1_1 := fun o => (bcell hb1).2 (w.heap.size + 1) o (by first | (simp; done) | (simp; omega) | omega)
  simp (maxDischargeDepth := 6) [go_sem, *] at k1_0 q1_0 k1_1 q1_1
  have HB1 := Lib.hid hb1
  clear hb1
  go_wp2_with fail
  refine (walk_leaf' _ _ xs root page v r u l p 0 _ ((((HX.out.alloc (Nat.le_refl _) _).alloc (by simp) _).below (HB1.out.mono (by simp; omega))).more (by omega)) H0.out HIN.out HQ.out).mono ?_
  rintro e w2 ⟨rfl, hb2⟩
  have hz2 := hb2.size
  (try simp only [World.size_alloc, World.size_setCell, World.size_drew] at hz2)
  have k2_0 := fun o => (bcell hb2).1 (w.heap.size) o (by first | (simp; done) | (simp; omega) | omega)
  have l2_0 : (w.heap.size) < w2.heap.size := (by omega)
  have q2_0 := fun o => (bcell hb2).2 (w.heap.size) o (by first | (simp; done) | (simp; omega) | omega)
  have k2_1 := fun o => (bcell hb2).1 (w.heap.size + 1) o (by first | (simp; done) | (simp; omega) | omega)
  have l2_1 : (w.heap.size + 1) < w2.heap.size := (by omega)
  have q2_1 := fun o => (bcell hb2).2 (w.heap.size + 1) o (by first | (simp; done) | (simp; omega) | omega)
  simp (maxDischargeDepth := 6) [go_sem, *] at k2_0 q2_0 k2_1 q2_1
  have HB2 := Lib.hid hb2
  clear hb2
  go_wp2_with fail
  refine (walk_right' _ _ _ _ _ _ _ HR.out _).mono ?_
  rintro e w3 ⟨rfl, hb3⟩
  have hz3 := hb3.size
  (try simp only [World.size_alloc, World.size_setCell, World.size_drew] at hz3)
  have k3_0 := fun o => (bcell hb3).1 (w.heap.size + 1) o (by first | (simp; done) | (simp; omega) | omega)
  have l3_0 : (w.heap.size + 1) < w3.heap.size := (by omega)
  have q3_0 := fun o => (bcell hb3).2 (w.heap.size + 1) o (by first | (simp; done) | (simp; omega) | omega)
  have k3_1 := fun o => (bcell hb3).1 (w2.heap.size) o (by first | (simp; done) | (simp; omega) | omega)
  have l3_1 : (w2.heap.size) < w3.heap.size := (by omega)
  have q3_1 := fun o => (bcell hb3).2 (w2.heap.size) o (by first | (simp; done) | (simp; omega) | omega)
  simp (maxDischargeDepth := 6) [go_sem, *] at k3_0 q3_0 k3_1 q3_1
  have HB3 := Lib.hid hb3
  clear hb3
  go_wp2
  refine bodyPost_ret (v := .tuple #[.agg #[.bool false, .bool false, .bool false, .bool false, .int .i64 0], .int .i64 5, .int .i64 0]) ?_ rfl ⟨rfl, ?_⟩
  · simp (maxDischargeDepth := 8) [results, Try.results66, go_sem, *]
  · (repeat (first | (with_reducible exact Below.refl _ _) | (with_reducible refine Below.drew ?_) | (with_reducible refine bdrewN ?_ _) | ((with_reducible refine Below.setCell ?_ ?_ _); rotate_left; exact (by first | (simp; done) | (simp; omega) | omega)) | ((with_reducible refine Below.alloc ?_ ?_ _); rotate_left; exact (by first | (simp; done) | (simp; omega) | omega)) | ((with_reducible refine Below.trans ?_ (HB3.out.mono ?_)); rotate_left; exact (by first | (simp; done) | (simp; omega) | omega)) | ((with_reducible refine Below.trans ?_ (HB2.out.mono ?_)); rotate_left; exact (by first | (simp; done) | (simp; omega) | omega)) | ((with_reducible refine Below.trans ?_ (HB1.out.mono ?_)); rotate_left; exact (by first | (simp; done) | (simp; omega) | omega))))

set_option maxRecDepth 100000 in
set_option maxHeartbeats 4000000 in
theorem Walk_yes (A : Option Addr) (n c : Nat) (xs : List Int) (root page : Int) (wr : Bool) (w : World) (h : Ints w w.heap.size A n xs) (h0 : cm xs = 0) (hin : inP root page) (v r u l : Bool) (p f : Int) (hq : leafM xs root page = (⟨v, r, u, l, p⟩, f)) (hf : f = 0) (hr : (r && (!wr || u)) = true) :
    Calls Try.prog 66 #[.agg #[.slice A n c], .int .i64 root, .int .i64 page, .bool wr] w fun e w' => e = .returned (.tuple #[.agg #[.bool v, .bool r, .bool u, .bool l, .int .i64 p], .int .i64 0, .int .i64 0]) ∧ Below w.heap.size w w' := by
  have HX := Lib.hid h
  have hc0 : (cm xs != 0) = false := by rw [bne_eq_false_iff_eq]; exact h0
  have H0 := Lib.hid h0
  have HIN := Lib.hid hin
  have HQ := Lib.hid hq
  have hn : n = 512 := by rw [← HX.out.len]; exact (cm_inv h0).1
  subst hn
  unfold inP at hin
  obtain ⟨⟨h1, h2⟩, h3, h4⟩ := hin
  subst hf
  have HR := Lib.hid hr
  clear h h0 hq hr
  go_enter Try.func66, Try.ntmps66
  go_wp2_with fail
  refine (mem_Check _ _ _ xs _ (((HX.out.alloc (Nat.le_refl _) _).alloc (by simp) _).more (by simp; omega))).mono ?_
  rintro e w1 ⟨rfl, hb1⟩
  have hz1 := hb1.size
  (try simp only [World.size_alloc, World.size_setCell, World.size_drew] at hz1)
  have k1_0 := fun o => (bcell hb1).1 (w.heap.size) o (by first | (simp; done) | (simp; omega) | omega)
  have l1_0 : (w.heap.size) < w1.heap.size := (by omega)
  have q1_0 := fun o => (bcell hb1).2 (w.heap.size) o (by first | (simp; done) | (simp; omega) | omega)
  have k1_1 := fun o => (bcell hb1).1 (w.heap.size + 1) o (by first | (simp; done) | (simp; omega) | omega)
  have l1_1 : (w.heap.size + 1) < w1.heap.size := (by omega)
  have q1_1 := fun o => (bcell hb1).2 (w.heap.size + 1) o (by first | (simp; done) | (simp; omega) | omega)
  simp (maxDischargeDepth := 6) [go_sem, *] at k1_0 q1_0 k1_1 q1_1
  have HB1 := Lib.hid hb1
  clear hb1
  go_wp2_with fail
  refine (walk_leaf' _ _ xs root page v r u l p 0 _ ((((HX.out.alloc (Nat.le_refl _) _).alloc (by simp) _).below (HB1.out.mono (by simp; omega))).more (by omega)) H0.out HIN.out HQ.out).mono ?_
  rintro e w2 ⟨rfl, hb2⟩
  have hz2 := hb2.size
  (try simp only [World.size_alloc, World.size_setCell, World.size_drew] at hz2)
  have k2_0 := fun o => (bcell hb2).1 (w.heap.size) o (by first | (simp; done) | (simp; omega) | omega)
  have l2_0 : (w.heap.size) < w2.heap.size := (by omega)
  have q2_0 := fun o => (bcell hb2).2 (w.heap.size) o (by first | (simp; done) | (simp; omega) | omega)
  have k2_1 := fun o => (bcell hb2).1 (w.heap.size + 1) o (by first | (simp; done) | (simp; omega) | omega)
  have l2_1 : (w.heap.size + 1) < w2.heap.size := (by omega)
  have q2_1 := fun o => (bcell hb2).2 (w.heap.size + 1) o (by first | (simp; done) | (simp; omega) | omega)
  simp (maxDischargeDepth := 6) [go_sem, *] at k2_0 q2_0 k2_1 q2_1
  have HB2 := Lib.hid hb2
  clear hb2
  go_wp2_with fail
  refine (walk_right' _ _ _ _ _ _ _ HR.out _).mono ?_
  rintro e w3 ⟨rfl, hb3⟩
  have hz3 := hb3.size
  (try simp only [World.size_alloc, World.size_setCell, World.size_drew] at hz3)
  have k3_0 := fun o => (bcell hb3).1 (w.heap.size + 1) o (by first | (simp; done) | (simp; omega) | omega)
  have l3_0 : (w.heap.size + 1) < w3.heap.size := (by omega)
  have q3_0 := fun o => (bcell hb3).2 (w.heap.size + 1) o (by first | (simp; done) | (simp; omega) | omega)
  have k3_1 := fun o => (bcell hb3).1 (w2.heap.size) o (by first | (simp; done) | (simp; omega) | omega)
  have l3_1 : (w2.heap.size) < w3.heap.size := (by omega)
  have q3_1 := fun o => (bcell hb3).2 (w2.heap.size) o (by first | (simp; done) | (simp; omega) | omega)
  simp (maxDischargeDepth := 6) [go_sem, *] at k3_0 q3_0 k3_1 q3_1
  have HB3 := Lib.hid hb3
  clear hb3
  go_wp2
  refine bodyPost_ret (v := .tuple #[.agg #[.bool v, .bool r, .bool u, .bool l, .int .i64 p], .int .i64 0, .int .i64 0]) ?_ rfl ⟨rfl, ?_⟩
  · simp (maxDischargeDepth := 8) [results, Try.results66, go_sem, *]
  · (repeat (first | (with_reducible exact Below.refl _ _) | (with_reducible refine Below.drew ?_) | (with_reducible refine bdrewN ?_ _) | ((with_reducible refine Below.setCell ?_ ?_ _); rotate_left; exact (by first | (simp; done) | (simp; omega) | omega)) | ((with_reducible refine Below.alloc ?_ ?_ _); rotate_left; exact (by first | (simp; done) | (simp; omega) | omega)) | ((with_reducible refine Below.trans ?_ (HB3.out.mono ?_)); rotate_left; exact (by first | (simp; done) | (simp; omega) | omega)) | ((with_reducible refine Below.trans ?_ (HB2.out.mono ?_)); rotate_left; exact (by first | (simp; done) | (simp; omega) | omega)) | ((with_reducible refine Below.trans ?_ (HB1.out.mono ?_)); rotate_left; exact (by first | (simp; done) | (simp; omega) | omega))))


set_option maxRecDepth 100000 in
set_option maxHeartbeats 1000000 in
theorem walk_Walk (A : Option Addr) (n c : Nat) (xs : List Int) (root page : Int) (wr : Bool) (w : World) (h : Ints w w.heap.size A n xs) :
    Calls Try.prog 66 #[.agg #[.slice A n c], .int .i64 root, .int .i64 page, .bool wr] w fun e w' => e = .returned (.tuple #[(walkA xs root page wr).1.val, .int .i64 (walkA xs root page wr).2.1, .int .i64 (walkA xs root page wr).2.2]) ∧ Below w.heap.size w w' := by
  by_cases h0 : cm xs = 0
  · by_cases hin : inP root page
    · have e : walkA xs root page wr = ((walkM xs root page wr).1, (walkM xs root page wr).2, 0) := by unfold walkA; rw [if_pos h0, if_pos hin]
      rw [e]
      have hk := leafM_ok xs root page
      unfold walkM
      generalize hq : leafM xs root page = q at *
      obtain ⟨⟨v, r, u, l, p⟩, f⟩ := q
      dsimp only at *
      by_cases hf : f = 0
      · rw [if_pos hf]
        by_cases hr : (r && (!wr || u)) = true
        · rw [if_pos hr]
          subst hf
          exact Walk_yes A n c xs root page wr w h h0 hin v r u l p 0 hq rfl hr
        · rw [if_neg hr]
          exact Walk_no A n c xs root page wr w h h0 hin v r u l p f hq hf (by simpa using hr)
      · rw [if_neg hf]
        rcases hk with hk | ⟨hk, _⟩
        · exact absurd hk.1 hf
        · simp only [] at hk
          rw [← hk]
          exact Walk_fault A n c xs root page wr w h h0 hin v r u l p f hq hf
    · have e : walkA xs root page wr = (.no, 0, 4) := by unfold walkA; rw [if_pos h0, if_neg hin]
      rw [e]
      exact Walk_who A n c xs root page wr w h h0 hin
  · have e : walkA xs root page wr = (.no, 0, cm xs) := by unfold walkA; rw [if_neg h0]
    rw [e]
    exact Walk_cm A n c xs root page wr w h h0
end

section
theorem walk_at (A : Option Addr) (n c : Nat) (xs : List Int) (root page : Int) (wr : Bool) (v r u l : Bool) (p f e : Int) (w : World) (h : Ints w w.heap.size A n xs) (hq : walkA xs root page wr = (⟨v, r, u, l, p⟩, f, e)) :
    Calls Try.prog 66 #[.agg #[.slice A n c], .int .i64 root, .int .i64 page, .bool wr] w fun e' w' => e' = .returned (.tuple #[.agg #[.bool v, .bool r, .bool u, .bool l, .int .i64 p], .int .i64 f, .int .i64 e]) ∧ Below w.heap.size w w' := by
  have := walk_Walk A n c xs root page wr w h
  rw [hq] at this
  exact this

end
end Go.Proofs.Ytbopdijnojaaiad
