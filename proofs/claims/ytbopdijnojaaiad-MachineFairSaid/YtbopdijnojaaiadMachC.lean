/- The machine: the walks of the program's Check and of the document's CheckMachine. No statement of the seat is proved here. -/
import Derived.Test.YtbopdijnojaaiadHart1
import Derived.Test.YtbopdijnojaaiadRefB
import Derived.Test.YtbopdijnojaaiadDmaP
namespace Go.Proofs.Ytbopdijnojaaiad
open Go.RowKit
set_option linter.unusedSimpArgs false
set_option linter.unusedVariables false

section
variable (x : Mch) (M R L : Option Addr) (nm mc nr rc n c : Nat) (w : World) (hm : Ints w w.heap.size M nm x.m) (hr : Ints w w.heap.size R nr x.h.regs) (hl : Lines w w.heap.size L n c x.b.cache)
set_option maxRecDepth 100000 in
set_option maxHeartbeats 2000000 in
include hm hr hl in
theorem machine_Check : Calls Try.prog 7 #[.agg #[.slice M nm mc, .int .i64 x.h.at_, .slice R nr rc, .bool x.h.done, .int .i64 x.b.mode, .int .i64 x.b.base, .slice L n c, .int .i64 x.b.orders.page, .int .i64 x.b.orders.head, .int .i64 x.b.orders.tail, .bool x.b.stopped, .int .i64 x.b.fences, .int .i64 x.b.faults.page, .int .i64 x.b.faults.head, .int .i64 x.b.faults.tail, .bool x.b.lost]] w fun e w' => e = .returned (.int .i64 (ckM x)) ∧ Below w.heap.size w w' := by
  have HM := Lib.hid hm
  have HR := Lib.hid hr
  have HL := Lib.hid hl
  by_cases h0 : cm x.m = 0
  · have t0 : (cm x.m != 0) = false := by rw [bne_eq_false_iff_eq]; assumption
    by_cases h1 : ckH x.h = 0
    · have t1 : (ckH x.h != 0) = false := by rw [bne_eq_false_iff_eq]; assumption
      rw [show ckM x = ckB x.b by unfold ckM; rw [if_pos h0, if_pos h1]]
      clear hm hr hl h0 h1
      go_enter Try.func7, Try.ntmps7
      go_wp2_with fail
      refine (mem_Check _ _ _ x.m _ (ints_now HM.out (by (repeat (first | (with_reducible exact Below.refl _ _) | (with_reducible refine Below.drew ?_) | (with_reducible refine bdrewN ?_ _) | ((with_reducible refine Below.setCell ?_ ?_ _); rotate_left; exact (by first | (simp; done) | (simp; omega) | omega)) | ((with_reducible refine Below.alloc ?_ ?_ _); rotate_left; exact (by first | (simp; done) | (simp; omega) | omega))))))).mono ?_
      rintro e w1 ⟨rfl, hb1⟩
      have hz1 := hb1.size
      (try simp only [World.size_alloc, World.size_setCell, World.size_drew] at hz1)
      have k1_0 := fun o => (bcell hb1).1 (w.heap.size) o (by first | (simp; done) | (simp; omega) | omega)
      have l1_0 : (w.heap.size) < w1.heap.size := (by omega)
      have q1_0 := fun o => (bcell hb1).2 (w.heap.size) o (by first | (simp; done) | (simp; omega) | omega)
      simp (maxDischargeDepth := 6) [go_sem, *] at k1_0 q1_0
      have HB1 := Lib.hid hb1
      clear hb1
      go_wp2_with fail
      refine (hart_Check x.h _ _ _ _ (ints_now HR.out (by (repeat (first | (with_reducible exact Below.refl _ _) | (with_reducible refine Below.drew ?_) | (with_reducible refine bdrewN ?_ _) | ((with_reducible refine Below.setCell ?_ ?_ _); rotate_left; exact (by first | (simp; done) | (simp; omega) | omega)) | ((with_reducible refine Below.alloc ?_ ?_ _); rotate_left; exact (by first | (simp; done) | (simp; omega) | omega)) | ((with_reducible refine Below.trans ?_ (HB1.out.mono ?_)); rotate_left; exact (by first | (simp; done) | (simp; omega) | omega))))))).mono ?_
      rintro e w2 ⟨rfl, hb2⟩
      have hz2 := hb2.size
      (try simp only [World.size_alloc, World.size_setCell, World.size_drew] at hz2)
      have k2_0 := fun o => (bcell hb2).1 (w.heap.size) o (by first | (simp; done) | (simp; omega) | omega)
      have l2_0 : (w.heap.size) < w2.heap.size := (by omega)
      have q2_0 := fun o => (bcell hb2).2 (w.heap.size) o (by first | (simp; done) | (simp; omega) | omega)
      simp (maxDischargeDepth := 6) [go_sem, *] at k2_0 q2_0
      have HB2 := Lib.hid hb2
      clear hb2
      go_wp2_with fail
      refine (bridge_Check x.b _ _ _ _ (lines_now HL.out (by (repeat (first | (with_reducible exact Below.refl _ _) | (with_reducible refine Below.drew ?_) | (with_reducible refine bdrewN ?_ _) | ((with_reducible refine Below.setCell ?_ ?_ _); rotate_left; exact (by first | (simp; done) | (simp; omega) | omega)) | ((with_reducible refine Below.alloc ?_ ?_ _); rotate_left; exact (by first | (simp; done) | (simp; omega) | omega)) | ((with_reducible refine Below.trans ?_ (HB2.out.mono ?_)); rotate_left; exact (by first | (simp; done) | (simp; omega) | omega)) | ((with_reducible refine Below.trans ?_ (HB1.out.mono ?_)); rotate_left; exact (by first | (simp; done) | (simp; omega) | omega))))))).mono ?_
      rintro e w3 ⟨rfl, hb3⟩
      have hz3 := hb3.size
      (try simp only [World.size_alloc, World.size_setCell, World.size_drew] at hz3)
      have HB3 := Lib.hid hb3
      clear hb3
      go_wp2
      go_ret
      exact ⟨rfl, by (repeat (first | (with_reducible exact Below.refl _ _) | (with_reducible refine Below.drew ?_) | (with_reducible refine bdrewN ?_ _) | ((with_reducible refine Below.setCell ?_ ?_ _); rotate_left; exact (by first | (simp; done) | (simp; omega) | omega)) | ((with_reducible refine Below.alloc ?_ ?_ _); rotate_left; exact (by first | (simp; done) | (simp; omega) | omega)) | ((with_reducible refine Below.trans ?_ (HB3.out.mono ?_)); rotate_left; exact (by first | (simp; done) | (simp; omega) | omega)) | ((with_reducible refine Below.trans ?_ (HB2.out.mono ?_)); rotate_left; exact (by first | (simp; done) | (simp; omega) | omega)) | ((with_reducible refine Below.trans ?_ (HB1.out.mono ?_)); rotate_left; exact (by first | (simp; done) | (simp; omega) | omega))))⟩
    · have t1 : (ckH x.h != 0) = true := by rw [bne_iff_ne]; assumption
      rw [show ckM x = ckH x.h by unfold ckM; rw [if_pos h0, if_neg h1]]
      clear hm hr hl h0 h1
      go_enter Try.func7, Try.ntmps7
      go_wp2_with fail
      refine (mem_Check _ _ _ x.m _ (ints_now HM.out (by (repeat (first | (with_reducible exact Below.refl _ _) | (with_reducible refine Below.drew ?_) | (with_reducible refine bdrewN ?_ _) | ((with_reducible refine Below.setCell ?_ ?_ _); rotate_left; exact (by first | (simp; done) | (simp; omega) | omega)) | ((with_reducible refine Below.alloc ?_ ?_ _); rotate_left; exact (by first | (simp; done) | (simp; omega) | omega))))))).mono ?_
      rintro e w1 ⟨rfl, hb1⟩
      have hz1 := hb1.size
      (try simp only [World.size_alloc, World.size_setCell, World.size_drew] at hz1)
      have k1_0 := fun o => (bcell hb1).1 (w.heap.size) o (by first | (simp; done) | (simp; omega) | omega)
      have l1_0 : (w.heap.size) < w1.heap.size := (by omega)
      have q1_0 := fun o => (bcell hb1).2 (w.heap.size) o (by first | (simp; done) | (simp; omega) | omega)
      simp (maxDischargeDepth := 6) [go_sem, *] at k1_0 q1_0
      have HB1 := Lib.hid hb1
      clear hb1
      go_wp2_with fail
      refine (hart_Check x.h _ _ _ _ (ints_now HR.out (by (repeat (first | (with_reducible exact Below.refl _ _) | (with_reducible refine Below.drew ?_) | (with_reducible refine bdrewN ?_ _) | ((with_reducible refine Below.setCell ?_ ?_ _); rotate_left; exact (by first | (simp; done) | (simp; omega) | omega)) | ((with_reducible refine Below.alloc ?_ ?_ _); rotate_left; exact (by first | (simp; done) | (simp; omega) | omega)) | ((with_reducible refine Below.trans ?_ (HB1.out.mono ?_)); rotate_left; exact (by first | (simp; done) | (simp; omega) | omega))))))).mono ?_
      rintro e w2 ⟨rfl, hb2⟩
      have hz2 := hb2.size
      (try simp only [World.size_alloc, World.size_setCell, World.size_drew] at hz2)
      have HB2 := Lib.hid hb2
      clear hb2
      go_wp2
      go_ret
      exact ⟨rfl, by (repeat (first | (with_reducible exact Below.refl _ _) | (with_reducible refine Below.drew ?_) | (with_reducible refine bdrewN ?_ _) | ((with_reducible refine Below.setCell ?_ ?_ _); rotate_left; exact (by first | (simp; done) | (simp; omega) | omega)) | ((with_reducible refine Below.alloc ?_ ?_ _); rotate_left; exact (by first | (simp; done) | (simp; omega) | omega)) | ((with_reducible refine Below.trans ?_ (HB2.out.mono ?_)); rotate_left; exact (by first | (simp; done) | (simp; omega) | omega)) | ((with_reducible refine Below.trans ?_ (HB1.out.mono ?_)); rotate_left; exact (by first | (simp; done) | (simp; omega) | omega))))⟩
  · have t0 : (cm x.m != 0) = true := by rw [bne_iff_ne]; assumption
    rw [show ckM x = cm x.m by unfold ckM; rw [if_neg h0]]
    clear hm hr hl h0
    go_enter Try.func7, Try.ntmps7
    go_wp2_with fail
    refine (mem_Check _ _ _ x.m _ (ints_now HM.out (by (repeat (first | (with_reducible exact Below.refl _ _) | (with_reducible refine Below.drew ?_) | (with_reducible refine bdrewN ?_ _) | ((with_reducible refine Below.setCell ?_ ?_ _); rotate_left; exact (by first | (simp; done) | (simp; omega) | omega)) | ((with_reducible refine Below.alloc ?_ ?_ _); rotate_left; exact (by first | (simp; done) | (simp; omega) | omega))))))).mono ?_
    rintro e w1 ⟨rfl, hb1⟩
    have hz1 := hb1.size
    (try simp only [World.size_alloc, World.size_setCell, World.size_drew] at hz1)
    have HB1 := Lib.hid hb1
    clear hb1
    go_wp2
    go_ret
    exact ⟨rfl, by (repeat (first | (with_reducible exact Below.refl _ _) | (with_reducible refine Below.drew ?_) | (with_reducible refine bdrewN ?_ _) | ((with_reducible refine Below.setCell ?_ ?_ _); rotate_left; exact (by first | (simp; done) | (simp; omega) | omega)) | ((with_reducible refine Below.alloc ?_ ?_ _); rotate_left; exact (by first | (simp; done) | (simp; omega) | omega)) | ((with_reducible refine Below.trans ?_ (HB1.out.mono ?_)); rotate_left; exact (by first | (simp; done) | (simp; omega) | omega))))⟩
end
end Go.Proofs.Ytbopdijnojaaiad
