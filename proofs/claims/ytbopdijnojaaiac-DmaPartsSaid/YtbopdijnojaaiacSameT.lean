/- The devices: the document's SameTold. No statement of the seat is proved here. -/
import Derived.Test.YtbopdijnojaaiacTch
namespace Go.Proofs.Ytbopdijnojaaiac
open Go.RowKit
set_option linter.unusedSimpArgs false
set_option linter.unusedVariables false
theorem sameT_and (a b : Tld) : sameT a b = (a.done == b.done && eqI a.data b.data && a.fault == b.fault && eqT a.touched b.touched) := by
  unfold sameT eqT eqI
  rw [Bool.eq_iff_iff]
  simp only [decide_eq_true_eq, Bool.and_eq_true, beq_iff_eq]
  constructor
  · rintro rfl; exact ⟨⟨⟨rfl, rfl⟩, rfl⟩, rfl⟩
  · rintro ⟨⟨⟨h1, h2⟩, h3⟩, h4⟩; exact Tld.ext' h1 h2 h3 h4
set_option maxRecDepth 100000 in
set_option maxHeartbeats 4000000 in
theorem ref_SameTold (a b : Tld) (A B C D : Option Addr) (n c m d p q r s : Nat) (w : World) (hx : Ints w w.heap.size A n a.data) (hy : Ints w w.heap.size B m b.data) (h1 : Tchs w w.heap.size C p q a.touched) (h2 : Tchs w w.heap.size D r s b.touched) :
    Calls Try.prog 37 #[.agg #[.bool a.done, .slice A n c, .int .i64 a.fault, .slice C p q], .agg #[.bool b.done, .slice B m d, .int .i64 b.fault, .slice D r s]] w fun e w' => e = .returned (.bool (sameT a b)) ∧ Below w.heap.size w w' := by
  have HX := Lib.hid hx
  have HY := Lib.hid hy
  have HU := Lib.hid h1
  have HV := Lib.hid h2
  have HS := Lib.hid (sameT_and a b)
  clear hx hy h1 h2
  by_cases h1 : a.done = b.done
  rotate_left
  · have t1 : (a.done == b.done) = false := by rw [beq_eq_false_iff_ne]; exact h1
    have HR := Lib.hid (show false = sameT a b by rw [HS.out]; simp [h1])
    clear h1
    go_enter Try.func37, Try.ntmps37
    go_wp2
    go_ret
    exact ⟨ret_bool HR.out, by (repeat (first | (with_reducible exact Below.refl _ _) | (with_reducible refine Below.drew ?_) | (with_reducible refine bdrewN ?_ _) | ((with_reducible refine Below.setCell ?_ ?_ _); rotate_left; exact (by first | (simp; done) | (simp; omega) | omega)) | ((with_reducible refine Below.alloc ?_ ?_ _); rotate_left; exact (by first | (simp; done) | (simp; omega) | omega))))⟩
  · have t1 : (a.done == b.done) = true := by rw [beq_iff_eq]; exact h1
    by_cases h2 : a.data = b.data
    rotate_left
    · have HQ := Lib.hid (show eqI a.data b.data = false by simp [eqI, h2])
      have HR := Lib.hid (show false = sameT a b by rw [HS.out, HQ.out]; simp)
      clear h1 h2
      go_enter Try.func37, Try.ntmps37
      go_wp2_with fail
      refine (sl_Equal _ _ _ _ _ _ a.data b.data _ (ints_now HX.out (by (repeat (first | (with_reducible exact Below.refl _ _) | (with_reducible refine Below.drew ?_) | (with_reducible refine bdrewN ?_ _) | ((with_reducible refine Below.setCell ?_ ?_ _); rotate_left; exact (by first | (simp; done) | (simp; omega) | omega)) | ((with_reducible refine Below.alloc ?_ ?_ _); rotate_left; exact (by first | (simp; done) | (simp; omega) | omega)))))) (ints_now HY.out (by (repeat (first | (with_reducible exact Below.refl _ _) | (with_reducible refine Below.drew ?_) | (with_reducible refine bdrewN ?_ _) | ((with_reducible refine Below.setCell ?_ ?_ _); rotate_left; exact (by first | (simp; done) | (simp; omega) | omega)) | ((with_reducible refine Below.alloc ?_ ?_ _); rotate_left; exact (by first | (simp; done) | (simp; omega) | omega))))))).mono ?_
      rw [HQ.out]
      rintro e w1 ⟨rfl, hb1⟩
      have hz1 := hb1.size
      (try simp only [World.size_alloc, World.size_setCell, World.size_drew] at hz1)
      have HB1 := Lib.hid hb1
      clear hb1
      go_wp2
      go_ret
      exact ⟨ret_bool HR.out, by (repeat (first | (with_reducible exact Below.refl _ _) | (with_reducible refine Below.drew ?_) | (with_reducible refine bdrewN ?_ _) | ((with_reducible refine Below.setCell ?_ ?_ _); rotate_left; exact (by first | (simp; done) | (simp; omega) | omega)) | ((with_reducible refine Below.alloc ?_ ?_ _); rotate_left; exact (by first | (simp; done) | (simp; omega) | omega)) | ((with_reducible refine Below.trans ?_ (HB1.out.mono ?_)); rotate_left; exact (by first | (simp; done) | (simp; omega) | omega))))⟩
    · have HQ := Lib.hid (show eqI a.data b.data = true by simp [eqI, h2])
      by_cases h3 : a.fault = b.fault
      rotate_left
      · have t3 : (a.fault == b.fault) = false := by rw [beq_eq_false_iff_ne]; exact h3
        have HR := Lib.hid (show false = sameT a b by rw [HS.out, t3]; simp)
        clear h1 h2 h3
        go_enter Try.func37, Try.ntmps37
        go_wp2_with fail
        refine (sl_Equal _ _ _ _ _ _ a.data b.data _ (ints_now HX.out (by (repeat (first | (with_reducible exact Below.refl _ _) | (with_reducible refine Below.drew ?_) | (with_reducible refine bdrewN ?_ _) | ((with_reducible refine Below.setCell ?_ ?_ _); rotate_left; exact (by first | (simp; done) | (simp; omega) | omega)) | ((with_reducible refine Below.alloc ?_ ?_ _); rotate_left; exact (by first | (simp; done) | (simp; omega) | omega)))))) (ints_now HY.out (by (repeat (first | (with_reducible exact Below.refl _ _) | (with_reducible refine Below.drew ?_) | (with_reducible refine bdrewN ?_ _) | ((with_reducible refine Below.setCell ?_ ?_ _); rotate_left; exact (by first | (simp; done) | (simp; omega) | omega)) | ((with_reducible refine Below.alloc ?_ ?_ _); rotate_left; exact (by first | (simp; done) | (simp; omega) | omega))))))).mono ?_
        rw [HQ.out]
        rintro e w1 ⟨rfl, hb1⟩
        have hz1 := hb1.size
        (try simp only [World.size_alloc, World.size_setCell, World.size_drew] at hz1)
        have k1_0 := fun o => (bcell hb1).1 (w.heap.size) o (by first | (simp; done) | (simp; omega) | omega)
        have l1_0 : (w.heap.size) < w1.heap.size := (by omega)
        have q1_0 := fun o => (bcell hb1).2 (w.heap.size) o (by first | (simp; done) | (simp; omega) | omega)
        have k1_1 := fun o => (bcell hb1).1 (w.heap.size + 1) o (by first | (simp; done) | (simp; omega) | omega)
        have l1_1 : (w.heap.size + 1) < w1.heap.size := (by omega)
        have q1_1 := fun o => (bcell hb1).2 (w.heap.size + 1) o (by first | (simp; done) | (simp; omega) | omega)
        simp (maxDischargeDepth := 6) [go_sem, *] at k1_0 q1_0 k1_1 q1_1
        have HB1 := Lib.hid hb1
        clear hb1
        go_wp2
        go_ret
        exact ⟨ret_bool HR.out, by (repeat (first | (with_reducible exact Below.refl _ _) | (with_reducible refine Below.drew ?_) | (with_reducible refine bdrewN ?_ _) | ((with_reducible refine Below.setCell ?_ ?_ _); rotate_left; exact (by first | (simp; done) | (simp; omega) | omega)) | ((with_reducible refine Below.alloc ?_ ?_ _); rotate_left; exact (by first | (simp; done) | (simp; omega) | omega)) | ((with_reducible refine Below.trans ?_ (HB1.out.mono ?_)); rotate_left; exact (by first | (simp; done) | (simp; omega) | omega))))⟩
      · have t3 : (a.fault == b.fault) = true := by rw [beq_iff_eq]; exact h3
        have HR := Lib.hid (show eqT a.touched b.touched = sameT a b by rw [HS.out, t1, t3, HQ.out]; simp)
        clear h1 h2 h3
        go_enter Try.func37, Try.ntmps37
        go_wp2_with fail
        refine (sl_Equal _ _ _ _ _ _ a.data b.data _ (ints_now HX.out (by (repeat (first | (with_reducible exact Below.refl _ _) | (with_reducible refine Below.drew ?_) | (with_reducible refine bdrewN ?_ _) | ((with_reducible refine Below.setCell ?_ ?_ _); rotate_left; exact (by first | (simp; done) | (simp; omega) | omega)) | ((with_reducible refine Below.alloc ?_ ?_ _); rotate_left; exact (by first | (simp; done) | (simp; omega) | omega)))))) (ints_now HY.out (by (repeat (first | (with_reducible exact Below.refl _ _) | (with_reducible refine Below.drew ?_) | (with_reducible refine bdrewN ?_ _) | ((with_reducible refine Below.setCell ?_ ?_ _); rotate_left; exact (by first | (simp; done) | (simp; omega) | omega)) | ((with_reducible refine Below.alloc ?_ ?_ _); rotate_left; exact (by first | (simp; done) | (simp; omega) | omega))))))).mono ?_
        rw [HQ.out]
        rintro e w1 ⟨rfl, hb1⟩
        have hz1 := hb1.size
        (try simp only [World.size_alloc, World.size_setCell, World.size_drew] at hz1)
        have k1_0 := fun o => (bcell hb1).1 (w.heap.size) o (by first | (simp; done) | (simp; omega) | omega)
        have l1_0 : (w.heap.size) < w1.heap.size := (by omega)
        have q1_0 := fun o => (bcell hb1).2 (w.heap.size) o (by first | (simp; done) | (simp; omega) | omega)
        have k1_1 := fun o => (bcell hb1).1 (w.heap.size + 1) o (by first | (simp; done) | (simp; omega) | omega)
        have l1_1 : (w.heap.size + 1) < w1.heap.size := (by omega)
        have q1_1 := fun o => (bcell hb1).2 (w.heap.size + 1) o (by first | (simp; done) | (simp; omega) | omega)
        simp (maxDischargeDepth := 6) [go_sem, *] at k1_0 q1_0 k1_1 q1_1
        have HB1 := Lib.hid hb1
        clear hb1
        go_wp2_with fail
        refine (sl_EqualT _ _ _ _ _ _ a.touched b.touched _ (tchs_now HU.out (by (repeat (first | (with_reducible exact Below.refl _ _) | (with_reducible refine Below.drew ?_) | (with_reducible refine bdrewN ?_ _) | ((with_reducible refine Below.setCell ?_ ?_ _); rotate_left; exact (by first | (simp; done) | (simp; omega) | omega)) | ((with_reducible refine Below.alloc ?_ ?_ _); rotate_left; exact (by first | (simp; done) | (simp; omega) | omega)) | ((with_reducible refine Below.trans ?_ (HB1.out.mono ?_)); rotate_left; exact (by first | (simp; done) | (simp; omega) | omega)))))) (tchs_now HV.out (by (repeat (first | (with_reducible exact Below.refl _ _) | (with_reducible refine Below.drew ?_) | (with_reducible refine bdrewN ?_ _) | ((with_reducible refine Below.setCell ?_ ?_ _); rotate_left; exact (by first | (simp; done) | (simp; omega) | omega)) | ((with_reducible refine Below.alloc ?_ ?_ _); rotate_left; exact (by first | (simp; done) | (simp; omega) | omega)) | ((with_reducible refine Below.trans ?_ (HB1.out.mono ?_)); rotate_left; exact (by first | (simp; done) | (simp; omega) | omega))))))).mono ?_
        rw [HR.out]
        rintro e w2 ⟨rfl, hb2⟩
        have hz2 := hb2.size
        (try simp only [World.size_alloc, World.size_setCell, World.size_drew] at hz2)
        have HB2 := Lib.hid hb2
        clear hb2
        go_wp2
        go_ret
        exact ⟨rfl, by (repeat (first | (with_reducible exact Below.refl _ _) | (with_reducible refine Below.drew ?_) | (with_reducible refine bdrewN ?_ _) | ((with_reducible refine Below.setCell ?_ ?_ _); rotate_left; exact (by first | (simp; done) | (simp; omega) | omega)) | ((with_reducible refine Below.alloc ?_ ?_ _); rotate_left; exact (by first | (simp; done) | (simp; omega) | omega)) | ((with_reducible refine Below.trans ?_ (HB2.out.mono ?_)); rotate_left; exact (by first | (simp; done) | (simp; omega) | omega)) | ((with_reducible refine Below.trans ?_ (HB1.out.mono ?_)); rotate_left; exact (by first | (simp; done) | (simp; omega) | omega))))⟩
end Go.Proofs.Ytbopdijnojaaiac
