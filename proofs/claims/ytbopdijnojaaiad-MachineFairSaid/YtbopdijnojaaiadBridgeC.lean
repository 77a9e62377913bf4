/- The bridge: the walks of the program's Copy, all and asked. No statement of the seat is proved here. -/
import Derived.Test.YtbopdijnojaaiadBase
import Derived.Test.YtbopdijnojaaiadFillZ
import Derived.Test.YtbopdijnojaaiadRing
import Derived.Test.YtbopdijnojaaiadSlices
namespace Go.Proofs.Ytbopdijnojaaiad
open Go.RowKit
set_option linter.unusedSimpArgs false
set_option linter.unusedVariables false

section
theorem ring_ck (r : Ring) (w : World) : Calls Try.prog 33 #[.agg #[.int .i64 r.page, .int .i64 r.head, .int .i64 r.tail]] w fun e w' => e = .returned (.int .i64 (ckR r)) ∧ Below w.heap.size w w' := ring_Check r.page r.head r.tail w
theorem ckB_r {b : Brg} (h : ¬ brgR b) : ckB b = 2 := by unfold ckB; rw [if_neg h]
theorem ckB_c {b : Brg} (h : brgR b) (h' : ckC b.cache ≠ 0) : ckB b = ckC b.cache := by unfold ckB; rw [if_pos h, if_neg h']
theorem ckB_o {b : Brg} (h : brgR b) (h' : ckC b.cache = 0) (h2 : ¬ ringR b.orders) : ckB b = 2 := by unfold ckB; rw [if_pos h, if_pos h', if_neg h2]
theorem ckB_f {b : Brg} (h : brgR b) (h' : ckC b.cache = 0) (h2 : ringR b.orders) : ckB b = ckR b.faults := by unfold ckB; rw [if_pos h, if_pos h', if_pos h2]

set_option maxRecDepth 100000 in
set_option maxHeartbeats 4000000 in
theorem bridge_Check (b : Brg) (A : Option Addr) (n c : Nat) (w : World) (h : Lines w w.heap.size A n c b.cache) :
    Calls Try.prog 18 #[.agg #[.int .i64 b.mode, .int .i64 b.base, .slice A n c, .int .i64 b.orders.page, .int .i64 b.orders.head, .int .i64 b.orders.tail, .bool b.stopped, .int .i64 b.fences, .int .i64 b.faults.page, .int .i64 b.faults.head, .int .i64 b.faults.tail, .bool b.lost]] w fun e w' => e = .returned (.int .i64 (ckB b)) ∧ Below w.heap.size w w' := by
  have HB := Lib.hid (below_alloc w)
  have HL := Lib.hid h
  clear h
  by_cases hR : brgR b
  · have HR := Lib.hid hR
    unfold brgR at hR
    obtain ⟨⟨r1, r2⟩, ⟨r3, r4⟩, r5, r6⟩ := hR
    by_cases hc : ckC b.cache = 0
    · have hc0 : (ckC b.cache != 0) = false := by rw [bne_eq_false_iff_eq]; exact hc
      by_cases ho : ringR b.orders
      · have ho0 : (ckR b.orders != 0) = false := by rw [bne_eq_false_iff_eq]; exact ckR_0 ho
        rw [ckB_f HR.out hc ho]
        clear hc ho
        go_enter Try.func18, Try.ntmps18
        go_wp2_with fail
        refine (cache_Check _ _ _ _ _ ((HL.out.alloc (Nat.le_refl _) _).more (by simp))).mono ?_
        rintro e w1 ⟨rfl, hb1⟩
        have hz1 := hb1.size
        (try simp only [World.size_alloc, World.size_setCell, World.size_drew] at hz1)
        have k1_0 := fun o => (bcell hb1).1 (w.heap.size) o (by first | (simp; done) | (simp; omega) | omega)
        have l1_0 : (w.heap.size) < w1.heap.size := (by omega)
        have q1_0 := fun o => (bcell hb1).2 (w.heap.size) o (by first | (simp; done) | (simp; omega) | omega)
        simp (maxDischargeDepth := 6) [go_sem, *] at k1_0 q1_0
        have HB1 := Lib.hid hb1
        clear hb1
        go_wp2_with fail
        refine (ring_ck _ _).mono ?_
        rintro e w2 ⟨rfl, hb2⟩
        have hz2 := hb2.size
        (try simp only [World.size_alloc, World.size_setCell, World.size_drew] at hz2)
        have k2_0 := fun o => (bcell hb2).1 (w.heap.size) o (by first | (simp; done) | (simp; omega) | omega)
        have l2_0 : (w.heap.size) < w2.heap.size := (by omega)
        have q2_0 := fun o => (bcell hb2).2 (w.heap.size) o (by first | (simp; done) | (simp; omega) | omega)
        simp (maxDischargeDepth := 6) [go_sem, *] at k2_0 q2_0
        have HB2 := Lib.hid hb2
        clear hb2
        go_wp2_with fail
        refine (ring_ck _ _).mono ?_
        rintro e w3 ⟨rfl, hb3⟩
        have hz3 := hb3.size
        (try simp only [World.size_alloc, World.size_setCell, World.size_drew] at hz3)
        have HB3 := Lib.hid hb3
        clear hb3
        go_wp2
        go_ret
        exact ⟨rfl, by (repeat (first | (with_reducible exact Below.refl _ _) | (with_reducible refine Below.drew ?_) | (with_reducible refine bdrewN ?_ _) | ((with_reducible refine Below.setCell ?_ ?_ _); rotate_left; exact (by first | (simp; done) | (simp; omega) | omega)) | ((with_reducible refine Below.alloc ?_ ?_ _); rotate_left; exact (by first | (simp; done) | (simp; omega) | omega)) | ((with_reducible refine Below.trans ?_ (HB3.out.mono ?_)); rotate_left; exact (by first | (simp; done) | (simp; omega) | omega)) | ((with_reducible refine Below.trans ?_ (HB2.out.mono ?_)); rotate_left; exact (by first | (simp; done) | (simp; omega) | omega)) | ((with_reducible refine Below.trans ?_ (HB1.out.mono ?_)); rotate_left; exact (by first | (simp; done) | (simp; omega) | omega))))⟩
      · have ho0 : (ckR b.orders != 0) = true := by rw [ckR_2 ho]; rfl
        have HO := Lib.hid (ckR_2 ho)
        rw [ckB_o HR.out hc ho]
        clear hc ho
        go_enter Try.func18, Try.ntmps18
        go_wp2_with fail
        refine (cache_Check _ _ _ _ _ ((HL.out.alloc (Nat.le_refl _) _).more (by simp))).mono ?_
        rintro e w1 ⟨rfl, hb1⟩
        have hz1 := hb1.size
        (try simp only [World.size_alloc, World.size_setCell, World.size_drew] at hz1)
        have k1_0 := fun o => (bcell hb1).1 (w.heap.size) o (by first | (simp; done) | (simp; omega) | omega)
        have l1_0 : (w.heap.size) < w1.heap.size := (by omega)
        have q1_0 := fun o => (bcell hb1).2 (w.heap.size) o (by first | (simp; done) | (simp; omega) | omega)
        simp (maxDischargeDepth := 6) [go_sem, *] at k1_0 q1_0
        have HB1 := Lib.hid hb1
        clear hb1
        go_wp2_with fail
        refine (ring_ck _ _).mono ?_
        rintro e w2 ⟨rfl, hb2⟩
        have hz2 := hb2.size
        (try simp only [World.size_alloc, World.size_setCell, World.size_drew] at hz2)
        have HB2 := Lib.hid hb2
        clear hb2
        go_wp2
        go_ret
        exact ⟨ret_int HO.out, by (repeat (first | (with_reducible exact Below.refl _ _) | (with_reducible refine Below.drew ?_) | (with_reducible refine bdrewN ?_ _) | ((with_reducible refine Below.setCell ?_ ?_ _); rotate_left; exact (by first | (simp; done) | (simp; omega) | omega)) | ((with_reducible refine Below.alloc ?_ ?_ _); rotate_left; exact (by first | (simp; done) | (simp; omega) | omega)) | ((with_reducible refine Below.trans ?_ (HB2.out.mono ?_)); rotate_left; exact (by first | (simp; done) | (simp; omega) | omega)) | ((with_reducible refine Below.trans ?_ (HB1.out.mono ?_)); rotate_left; exact (by first | (simp; done) | (simp; omega) | omega))))⟩
    · have hc0 : (ckC b.cache != 0) = true := by rw [bne_iff_ne]; exact hc
      rw [ckB_c HR.out hc]
      clear hc
      go_enter Try.func18, Try.ntmps18
      go_wp2_with fail
      refine (cache_Check _ _ _ _ _ ((HL.out.alloc (Nat.le_refl _) _).more (by simp))).mono ?_
      rintro e w1 ⟨rfl, hb1⟩
      have hz1 := hb1.size
      (try simp only [World.size_alloc, World.size_setCell, World.size_drew] at hz1)
      have HB1 := Lib.hid hb1
      clear hb1
      go_wp2
      go_ret
      exact ⟨rfl, by (repeat (first | (with_reducible exact Below.refl _ _) | (with_reducible refine Below.drew ?_) | (with_reducible refine bdrewN ?_ _) | ((with_reducible refine Below.setCell ?_ ?_ _); rotate_left; exact (by first | (simp; done) | (simp; omega) | omega)) | ((with_reducible refine Below.alloc ?_ ?_ _); rotate_left; exact (by first | (simp; done) | (simp; omega) | omega)) | ((with_reducible refine Below.trans ?_ (HB1.out.mono ?_)); rotate_left; exact (by first | (simp; done) | (simp; omega) | omega))))⟩
  · rw [ckB_r hR]
    have hr2 : b.mode < 0 ∨ (0 ≤ b.mode ∧ 2 < b.mode) ∨ (0 ≤ b.mode ∧ b.mode ≤ 2 ∧ b.base < 0) ∨ (0 ≤ b.mode ∧ b.mode ≤ 2 ∧ 0 ≤ b.base ∧ 64 ≤ b.base) ∨ (0 ≤ b.mode ∧ b.mode ≤ 2 ∧ 0 ≤ b.base ∧ b.base < 64 ∧ b.fences < 0) ∨ (0 ≤ b.mode ∧ b.mode ≤ 2 ∧ 0 ≤ b.base ∧ b.base < 64 ∧ 0 ≤ b.fences ∧ 1000 ≤ b.fences) := by unfold brgR at hR; omega
    clear hR
    rcases hr2 with r1 | ⟨r1, r2⟩ | ⟨r1, r2, r3⟩ | ⟨r1, r2, r3, r4⟩ | ⟨r1, r2, r3, r4, r5⟩ | ⟨r1, r2, r3, r4, r5, r6⟩
    all_goals
      go_enter Try.func18, Try.ntmps18
      go_wp2
      go_ret
      exact ⟨rfl, HB.out _⟩
end

section
set_option maxRecDepth 100000 in
set_option maxHeartbeats 2000000 in
theorem bridge_Copy (b : Brg) (A : Option Addr) (n c : Nat) (w : World) (h : Lines w w.heap.size A n c b.cache) (hn : n ≤ 1000) :
    Calls Try.prog 35 #[.agg #[.int .i64 b.mode, .int .i64 b.base, .slice A n c, .int .i64 b.orders.page, .int .i64 b.orders.head, .int .i64 b.orders.tail, .bool b.stopped, .int .i64 b.fences, .int .i64 b.faults.page, .int .i64 b.faults.head, .int .i64 b.faults.tail, .bool b.lost]] w fun e w' => ∃ A' c', e = .returned (.agg #[.int .i64 b.mode, .int .i64 b.base, .slice A' n c', .int .i64 b.orders.page, .int .i64 b.orders.head, .int .i64 b.orders.tail, .bool b.stopped, .int .i64 b.fences, .int .i64 b.faults.page, .int .i64 b.faults.head, .int .i64 b.faults.tail, .bool b.lost]) ∧ OwnL w.heap.size w' A' n c' b.cache ∧ Below w.heap.size w w' := by
  have HL := Lib.hid h
  clear h
  go_enter Try.func35, Try.ntmps35
  go_wp2_with fail
  refine (sl_CloneL _ _ _ _ _ ((HL.out.alloc (Nat.le_refl _) _ |>.alloc (by simp) _).more (by simp; omega)) hn).mono ?_
  rintro e w1 ⟨A1, c1, rfl, ho, hb1⟩
  have hz1 := hb1.size
  (try simp only [World.size_alloc, World.size_setCell, World.size_drew] at hz1)
  have k1_0 := fun o => (bcell hb1).1 (w.heap.size) o (by first | (simp; done) | (simp; omega) | omega)
  have l1_0 : (w.heap.size) < w1.heap.size := (by omega)
  have q1_0 := fun o => (bcell hb1).2 (w.heap.size) o (by first | (simp; done) | (simp; omega) | omega)
  have k1_1 := fun o => (bcell hb1).1 (w.heap.size + 1) o (by first | (simp; done) | (simp; omega) | omega)
  have l1_1 : (w.heap.size + 1) < w1.heap.size := (by omega)
  have q1_1 := fun o => (bcell hb1).2 (w.heap.size + 1) o (by first | (simp; done) | (simp; omega) | omega)
  simp (maxDischargeDepth := 6) [go_sem, *] at k1_0 q1_0 k1_1 q1_1
  have HB1 := Lib.hid hb1
  clear hb1
  have HO : Hid (OwnL (w.heap.size + 1 + 1) w1 A1 n c1 b.cache) := Lib.hid (ho.low (by simp))
  clear ho
  go_wp2
  refine bodyPost_ret (v := .agg #[.int .i64 b.mode, .int .i64 b.base, .slice A1 n c1, .int .i64 b.orders.page, .int .i64 b.orders.head, .int .i64 b.orders.tail, .bool b.stopped, .int .i64 b.fences, .int .i64 b.faults.page, .int .i64 b.faults.head, .int .i64 b.faults.tail, .bool b.lost]) ?_ rfl ⟨_, _, rfl, ?_, ?_⟩
  · simp (maxDischargeDepth := 8) [results, Try.results35, go_sem, *]
  · refine OwnL.low (B := w.heap.size + 1 + 1) ?_ (by omega)
    (repeat (first | (with_reducible exact HO.out) | (with_reducible refine OwnL.set ?_ (by first | (simp; done) | (simp; omega)) _)))
  · (repeat (first | (with_reducible exact Below.refl _ _) | (with_reducible refine Below.drew ?_) | (with_reducible refine bdrewN ?_ _) | ((with_reducible refine Below.setCell ?_ ?_ _); rotate_left; exact (by first | (simp; done) | (simp; omega) | omega)) | ((with_reducible refine Below.alloc ?_ ?_ _); rotate_left; exact (by first | (simp; done) | (simp; omega) | omega)) | ((with_reducible refine Below.trans ?_ (HB1.out.mono ?_)); rotate_left; exact (by first | (simp; done) | (simp; omega) | omega))))

set_option maxRecDepth 100000 in
set_option maxHeartbeats 2000000 in
theorem bridge_all (xs : List Int) (M : Option Addr) (nm cm' : Nat) (b : Brg) (A : Option Addr) (n c : Nat) (w : World) (hm : Ints w w.heap.size M nm xs) (h : Lines w w.heap.size A n c b.cache) :
    Calls Try.prog 39 #[.agg #[.slice M nm cm'], .agg #[.int .i64 b.mode, .int .i64 b.base, .slice A n c, .int .i64 b.orders.page, .int .i64 b.orders.head, .int .i64 b.orders.tail, .bool b.stopped, .int .i64 b.fences, .int .i64 b.faults.page, .int .i64 b.faults.head, .int .i64 b.faults.tail, .bool b.lost]] w fun e w' => e = .returned (.int .i64 (allE xs b)) ∧ Below w.heap.size w w' := by
  have HM := Lib.hid hm
  have HL := Lib.hid h
  clear h hm
  by_cases h0 : cm xs = 0
  · have t0 : (cm xs != 0) = false := by rw [bne_eq_false_iff_eq]; exact h0
    rw [show allE xs b = ckB b by unfold allE; rw [if_pos h0]]
    clear h0
    go_enter Try.func39, Try.ntmps39
    go_wp2_with fail
    refine (mem_Check _ _ _ xs _ ((HM.out.alloc (Nat.le_refl _) _ |>.alloc (by simp) _).more (by simp; omega))).mono ?_
    rintro e w1 ⟨rfl, hb1⟩
    have hz1 := hb1.size
    (try simp only [World.size_alloc, World.size_setCell, World.size_drew] at hz1)
    have k1_0 := fun o => (bcell hb1).1 (w.heap.size + 1) o (by first | (simp; done) | (simp; omega) | omega)
    have l1_0 : (w.heap.size + 1) < w1.heap.size := (by omega)
    have q1_0 := fun o => (bcell hb1).2 (w.heap.size + 1) o (by first | (simp; done) | (simp; omega) | omega)
    simp (maxDischargeDepth := 6) [go_sem, *] at k1_0 q1_0
    have HB1 := Lib.hid hb1
    clear hb1
    go_wp2_with fail
    refine (bridge_Check b _ _ _ _ ((HL.out.alloc (Nat.le_refl _) _ |>.alloc (by simp) _ |>.below (HB1.out.mono (by simp; omega))).more (by omega))).mono ?_
    rintro e w2 ⟨rfl, hb2⟩
    have hz2 := hb2.size
    (try simp only [World.size_alloc, World.size_setCell, World.size_drew] at hz2)
    have HB2 := Lib.hid hb2
    clear hb2
    go_wp2
    go_ret
    exact ⟨rfl, by (repeat (first | (with_reducible exact Below.refl _ _) | (with_reducible refine Below.drew ?_) | (with_reducible refine bdrewN ?_ _) | ((with_reducible refine Below.setCell ?_ ?_ _); rotate_left; exact (by first | (simp; done) | (simp; omega) | omega)) | ((with_reducible refine Below.alloc ?_ ?_ _); rotate_left; exact (by first | (simp; done) | (simp; omega) | omega)) | ((with_reducible refine Below.trans ?_ (HB2.out.mono ?_)); rotate_left; exact (by first | (simp; done) | (simp; omega) | omega)) | ((with_reducible refine Below.trans ?_ (HB1.out.mono ?_)); rotate_left; exact (by first | (simp; done) | (simp; omega) | omega))))⟩
  · have t0 : (cm xs != 0) = true := by rw [bne_iff_ne]; exact h0
    rw [show allE xs b = cm xs by unfold allE; rw [if_neg h0]]
    clear h0
    go_enter Try.func39, Try.ntmps39
    go_wp2_with fail
    refine (mem_Check _ _ _ xs _ ((HM.out.alloc (Nat.le_refl _) _ |>.alloc (by simp) _).more (by simp; omega))).mono ?_
    rintro e w1 ⟨rfl, hb1⟩
    have hz1 := hb1.size
    (try simp only [World.size_alloc, World.size_setCell, World.size_drew] at hz1)
    have HB1 := Lib.hid hb1
    clear hb1
    go_wp2
    go_ret
    exact ⟨rfl, by (repeat (first | (with_reducible exact Below.refl _ _) | (with_reducible refine Below.drew ?_) | (with_reducible refine bdrewN ?_ _) | ((with_reducible refine Below.setCell ?_ ?_ _); rotate_left; exact (by first | (simp; done) | (simp; omega) | omega)) | ((with_reducible refine Below.alloc ?_ ?_ _); rotate_left; exact (by first | (simp; done) | (simp; omega) | omega)) | ((with_reducible refine Below.trans ?_ (HB1.out.mono ?_)); rotate_left; exact (by first | (simp; done) | (simp; omega) | omega))))⟩
def askE (d p : Int) : Int := if inD d p then 0 else 4
set_option maxRecDepth 100000 in
set_option maxHeartbeats 1000000 in
theorem bridge_asked (d p : Int) (w : World) : Calls Try.prog 56 #[.int .i64 d, .int .i64 p] w fun e w' => e = .returned (.int .i64 (askE d p)) ∧ w = w' := by
  by_cases h : inD d p
  · rw [show askE d p = 0 by unfold askE; rw [if_pos h]]
    unfold inD at h
    obtain ⟨⟨h1, h2⟩, h3, h4⟩ := h
    go_enter Try.func56, Try.ntmps56
    go_wp2
    go_ret
    exact ⟨rfl, rfl⟩
  · rw [show askE d p = 4 by unfold askE; rw [if_neg h]]
    have h2 : d < 0 ∨ (0 ≤ d ∧ 8 ≤ d) ∨ (0 ≤ d ∧ d < 8 ∧ p < 0) ∨ (0 ≤ d ∧ d < 8 ∧ 0 ≤ p ∧ 64 ≤ p) := by unfold inD at h; omega
    clear h
    rcases h2 with h1 | ⟨h1, h2⟩ | ⟨h1, h2, h3⟩ | ⟨h1, h2, h3, h4⟩
    all_goals
      go_enter Try.func56, Try.ntmps56
      go_wp2
      go_ret
      exact ⟨rfl, rfl⟩
end
end Go.Proofs.Ytbopdijnojaaiad
