/- Tables: the walk of the laws' closed fact 'walked'. No statement of the seat is proved here. -/
import Derived.Test.YtbopdijnojaaiabWalkW
import Derived.Test.YtbopdijnojaaiabWith
namespace Go.Proofs.Ytbopdijnojaaiab
open Go.RowKit
set_option linter.unusedSimpArgs false
set_option linter.unusedVariables false

def mwalk : List Int := withL (List.replicate 512 0) [16, 49, 17, 143, 25, 155]
theorem mwalk_eq : withL (List.replicate 512 0) [16, 49, 17, 143, 25, 155] = mwalk := rfl
theorem mw1 : walkA mwalk 2 1 false = (⟨true, true, false, true, 9⟩, 0, 0) := by kernel_rfl
theorem mw2 : walkA mwalk 2 1 true = (⟨false, false, false, false, 0⟩, 5, 0) := by kernel_rfl
theorem mw3 : walkA mwalk 2 13 true = (⟨true, true, true, true, 13⟩, 0, 0) := by kernel_rfl
theorem mw4 : walkA mwalk 2 2 false = (⟨false, false, false, false, 0⟩, 3, 0) := by kernel_rfl
theorem walk_at (A : Option Addr) (n c : Nat) (xs : List Int) (root page : Int) (wr : Bool) (v r u l : Bool) (p f e : Int) (w : World) (h : Ints w w.heap.size A n xs) (hq : walkA xs root page wr = (⟨v, r, u, l, p⟩, f, e)) :
    Calls Try.prog 45 #[.agg #[.slice A n c], .int .i64 root, .int .i64 page, .bool wr] w fun e' w' => e' = .returned (.tuple #[.agg #[.bool v, .bool r, .bool u, .bool l, .int .i64 p], .int .i64 f, .int .i64 e]) ∧ Below w.heap.size w w' := by
  have := walk_Walk A n c xs root page wr w h
  rw [hq] at this
  exact this

set_option maxRecDepth 100000 in
set_option maxHeartbeats 4000000 in
theorem law_walked (w : World) : Calls Try.prog 46 #[] w fun e w' => e = .returned (.bool true) ∧ Below w.heap.size w w' := by
  go_enter Try.func46, Try.ntmps46
  go_wp2_with fail
  refine (law_with _ _ _ [16, 49, 17, 143, 25, 155] _ (Ints.of_cells rfl (by decide) (by simp) ?_) (by decide) (by simp [places])).mono ?_
  · intro k
    simp [go_sem]
  rintro e w1 ⟨A1, d1, rfl, ho1, hb1⟩
  rw [mwalk_eq] at ho1
  have hz1 := hb1.size
  (try simp only [World.size_alloc, World.size_setCell, World.size_drew] at hz1)
  have HB1 := Lib.hid hb1
  clear hb1
  have H1 := Lib.hid ((ho1.ints (by decide)).alloc (Nat.le_refl _) (.cells #[.slice A1 512 d1] 24) |>.more (B' := w1.heap.size + 1) (by omega))
  clear ho1
  go_wp2_with fail
  refine (walk_at _ _ _ mwalk _ _ _ _ _ _ _ _ _ _ _ (H1.out.more (by simp)) mw1).mono ?_
  rintro e w2 ⟨rfl, hb2⟩
  have hz2 := hb2.size
  (try simp only [World.size_alloc, World.size_setCell, World.size_drew] at hz2)
  have k2_0 := fun o => (bcell hb2).1 (w1.heap.size) o (by first | (simp; done) | (simp; omega) | omega)
  have l2_0 : (w1.heap.size) < w2.heap.size := (by omega)
  have q2_0 := fun o => (bcell hb2).2 (w1.heap.size) o (by first | (simp; done) | (simp; omega) | omega)
  simp (maxDischargeDepth := 6) [go_sem, *] at k2_0 q2_0
  have HB2 := Lib.hid hb2
  clear hb2
  have H2 := Lib.hid ((H1.out.below (HB2.out.mono (by simp))).more (B' := w2.heap.size) (by omega))
  go_wp2_with fail
  refine (walk_at _ _ _ mwalk _ _ _ _ _ _ _ _ _ _ _ ((H2.out.alloc (Nat.le_refl _) _).more (by simp)) mw2).mono ?_
  rintro e w3 ⟨rfl, hb3⟩
  have hz3 := hb3.size
  (try simp only [World.size_alloc, World.size_setCell, World.size_drew] at hz3)
  have k3_0 := fun o => (bcell hb3).1 (w1.heap.size) o (by first | (simp; done) | (simp; omega) | omega)
  have l3_0 : (w1.heap.size) < w3.heap.size := (by omega)
  have q3_0 := fun o => (bcell hb3).2 (w1.heap.size) o (by first | (simp; done) | (simp; omega) | omega)
  have k3_1 := fun o => (bcell hb3).1 (w2.heap.size) o (by first | (simp; done) | (simp; omega) | omega)
  have l3_1 : (w2.heap.size) < w3.heap.size := (by omega)
  have q3_1 := fun o => (bcell hb3).2 (w2.heap.size) o (by first | (simp; done) | (simp; omega) | omega)
  simp (maxDischargeDepth := 6) [go_sem, *] at k3_0 q3_0 k3_1 q3_1
  have HB3 := Lib.hid hb3
  clear hb3
  have H3 := Lib.hid (((H2.out.alloc (Nat.le_refl _) (.cells #[.bool true, .bool true, .bool false, .bool true, .int .i64 9] 75)).below (HB3.out.mono (by simp))).more (B' := w3.heap.size) (by omega))
  go_wp2_with fail
  refine (walk_at _ _ _ mwalk _ _ _ _ _ _ _ _ _ _ _ ((H3.out.alloc (Nat.le_refl _) _).more (by simp)) mw3).mono ?_
  rintro e w4 ⟨rfl, hb4⟩
  have hz4 := hb4.size
  (try simp only [World.size_alloc, World.size_setCell, World.size_drew] at hz4)
  have k4_0 := fun o => (bcell hb4).1 (w1.heap.size) o (by first | (simp; done) | (simp; omega) | omega)
  have l4_0 : (w1.heap.size) < w4.heap.size := (by omega)
  have q4_0 := fun o => (bcell hb4).2 (w1.heap.size) o (by first | (simp; done) | (simp; omega) | omega)
  have k4_1 := fun o => (bcell hb4).1 (w2.heap.size) o (by first | (simp; done) | (simp; omega) | omega)
  have l4_1 : (w2.heap.size) < w4.heap.size := (by omega)
  have q4_1 := fun o => (bcell hb4).2 (w2.heap.size) o (by first | (simp; done) | (simp; omega) | omega)
  simp (maxDischargeDepth := 6) [go_sem, *] at k4_0 q4_0 k4_1 q4_1
  have HB4 := Lib.hid hb4
  clear hb4
  have H4 := Lib.hid (((H3.out.alloc (Nat.le_refl _) (.cells #[.bool false, .bool false, .bool false, .bool false, .int .i64 0] 75)).below (HB4.out.mono (by simp))).more (B' := w4.heap.size) (by omega))
  go_wp2_with fail
  refine (walk_at _ _ _ mwalk _ _ _ _ _ _ _ _ _ _ _ ((H4.out.alloc (Nat.le_refl _) _).more (by simp)) mw4).mono ?_
  rintro e w5 ⟨rfl, hb5⟩
  have hz5 := hb5.size
  (try simp only [World.size_alloc, World.size_setCell, World.size_drew] at hz5)
  have k5_0 := fun o => (bcell hb5).1 (w2.heap.size) o (by first | (simp; done) | (simp; omega) | omega)
  have l5_0 : (w2.heap.size) < w5.heap.size := (by omega)
  have q5_0 := fun o => (bcell hb5).2 (w2.heap.size) o (by first | (simp; done) | (simp; omega) | omega)
  have k5_1 := fun o => (bcell hb5).1 (w4.heap.size) o (by first | (simp; done) | (simp; omega) | omega)
  have l5_1 : (w4.heap.size) < w5.heap.size := (by omega)
  have q5_1 := fun o => (bcell hb5).2 (w4.heap.size) o (by first | (simp; done) | (simp; omega) | omega)
  simp (maxDischargeDepth := 6) [go_sem, *] at k5_0 q5_0 k5_1 q5_1
  have HB5 := Lib.hid hb5
  clear hb5
  go_wp2
  go_ret
  exact ⟨rfl, by (repeat (first | (with_reducible exact Below.refl _ _) | (with_reducible refine Below.drew ?_) | (with_reducible refine bdrewN ?_ _) | ((with_reducible refine Below.setCell ?_ ?_ _); rotate_left; exact (by first | (simp; done) | (simp; omega) | omega)) | ((with_reducible refine Below.alloc ?_ ?_ _); rotate_left; exact (by first | (simp; done) | (simp; omega) | omega)) | ((with_reducible refine Below.trans ?_ (HB5.out.mono ?_)); rotate_left; exact (by first | (simp; done) | (simp; omega) | omega)) | ((with_reducible refine Below.trans ?_ (HB4.out.mono ?_)); rotate_left; exact (by first | (simp; done) | (simp; omega) | omega)) | ((with_reducible refine Below.trans ?_ (HB3.out.mono ?_)); rotate_left; exact (by first | (simp; done) | (simp; omega) | omega)) | ((with_reducible refine Below.trans ?_ (HB2.out.mono ?_)); rotate_left; exact (by first | (simp; done) | (simp; omega) | omega)) | ((with_reducible refine Below.trans ?_ (HB1.out.mono ?_)); rotate_left; exact (by first | (simp; done) | (simp; omega) | omega))))⟩

end Go.Proofs.Ytbopdijnojaaiab
