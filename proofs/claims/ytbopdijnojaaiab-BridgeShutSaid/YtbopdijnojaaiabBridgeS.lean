/- The bridge: the walks of the program's Plain and Same. No statement of the seat is proved here. -/
import Derived.Test.YtbopdijnojaaiabBridgeV
namespace Go.Proofs.Ytbopdijnojaaiab
open Go.RowKit
set_option linter.unusedSimpArgs false
set_option linter.unusedVariables false

theorem through_ans (xs : List Int) (m : Option Addr) (nm cm' : Nat) (b : Brg) (A : Option Addr) (n c : Nat) (d p : Int) (wr : Bool) (rb : Brg) (ra rf E : Int) (w : World) (hx : Ints w w.heap.size m nm xs) (hl : Lines w w.heap.size A n c b.cache) (hr : thruA xs b d p wr = (rb, ra, rf)) (hE : thruE xs b d p = E) :
    Calls Try.prog 52 #[.agg #[.slice m nm cm'], .agg #[.int .i64 b.mode, .int .i64 b.base, .slice A n c, .int .i64 b.orders.page, .int .i64 b.orders.head, .int .i64 b.orders.tail, .bool b.stopped, .int .i64 b.fences, .int .i64 b.faults.page, .int .i64 b.faults.head, .int .i64 b.faults.tail, .bool b.lost], .int .i64 d, .int .i64 p, .bool wr] w fun e w' => ∃ A' n' c', e = .returned (.tuple #[.agg #[.int .i64 rb.mode, .int .i64 rb.base, .slice A' n' c', .int .i64 rb.orders.page, .int .i64 rb.orders.head, .int .i64 rb.orders.tail, .bool rb.stopped, .int .i64 rb.fences, .int .i64 rb.faults.page, .int .i64 rb.faults.head, .int .i64 rb.faults.tail, .bool rb.lost], .int .i64 ra, .int .i64 rf, .int .i64 E]) ∧ Lines w' w'.heap.size A' n' c' rb.cache ∧ Below w.heap.size w w' ∧ ∀ ad, A' = some ad → w.heap.size ≤ ad.block := by
  have := bridge_Through xs m nm cm' b A n c d p wr w hx hl
  rw [hr, hE] at this
  exact this

set_option maxRecDepth 100000 in
set_option maxHeartbeats 4000000 in
theorem bridge_Plain (xs : List Int) (m : Option Addr) (nm cm' : Nat) (b : Brg) (A : Option Addr) (n c : Nat) (d p : Int) (wr : Bool) (rb : Brg) (ra rf E : Int) (w : World) (hx : Ints w w.heap.size m nm xs) (hr : thruA xs { b with cache := [] } d p wr = (rb, ra, rf)) (hE : thruE xs { b with cache := [] } d p = E) :
    Calls Try.prog 53 #[.agg #[.slice m nm cm'], .agg #[.int .i64 b.mode, .int .i64 b.base, .slice A n c, .int .i64 b.orders.page, .int .i64 b.orders.head, .int .i64 b.orders.tail, .bool b.stopped, .int .i64 b.fences, .int .i64 b.faults.page, .int .i64 b.faults.head, .int .i64 b.faults.tail, .bool b.lost], .int .i64 d, .int .i64 p, .bool wr] w fun e w' => e = .returned (.tuple #[.int .i64 ra, .int .i64 rf, .int .i64 E]) ∧ Below w.heap.size w w' := by
  have HX := Lib.hid hx
  have HR := Lib.hid hr
  have HE := Lib.hid hE
  clear hx hr hE
  go_enter Try.func53, Try.ntmps53
  go_wp2_with fail
  refine (through_ans xs _ _ _ { b with cache := [] } none 0 0 d p wr rb ra rf E _ ?_ (lines_none _ _) HR.out HE.out).mono ?_
  · refine ints_now HX.out ?_
    (repeat (first | (with_reducible exact Below.refl _ _) | (with_reducible refine Below.drew ?_) | (with_reducible refine bdrewN ?_ _) | ((with_reducible refine Below.setCell ?_ ?_ _); rotate_left; exact (by first | (simp; done) | (simp; omega) | omega)) | ((with_reducible refine Below.alloc ?_ ?_ _); rotate_left; exact (by first | (simp; done) | (simp; omega) | omega))))
  rintro e w1 ⟨A1, n1, c1, rfl, hl1, hb1, _⟩
  have hz1 := hb1.size
  (try simp only [World.size_alloc, World.size_setCell, World.size_drew] at hz1)
  have HB1 := Lib.hid hb1
  clear hb1
  clear hl1
  go_wp2
  go_ret3
  exact ⟨rfl, by (repeat (first | (with_reducible exact Below.refl _ _) | (with_reducible refine Below.drew ?_) | (with_reducible refine bdrewN ?_ _) | ((with_reducible refine Below.setCell ?_ ?_ _); rotate_left; exact (by first | (simp; done) | (simp; omega) | omega)) | ((with_reducible refine Below.alloc ?_ ?_ _); rotate_left; exact (by first | (simp; done) | (simp; omega) | omega)) | ((with_reducible refine Below.trans ?_ (HB1.out.mono ?_)); rotate_left; exact (by first | (simp; done) | (simp; omega) | omega))))⟩

def ringEq (r s : Ring) : Bool := r.page == s.page && r.head == s.head && r.tail == s.tail
set_option maxRecDepth 100000 in
theorem Try.eqlRing (x y : Ring) (w : World) : (binOp .eql 26 (.agg #[.int .i64 x.page, .int .i64 x.head, .int .i64 x.tail]) (.agg #[.int .i64 y.page, .int .i64 y.head, .int .i64 y.tail])).run Try.prog w = .ok (.bool (ringEq x y)) w := by
  unfold ringEq
  simp [go_sem]
  repeat' split
  all_goals simp_all
theorem sameB_and (a b : Brg) : sameB a b = (a.mode == b.mode && a.base == b.base && eqL a.cache b.cache && ringEq a.orders b.orders && a.stopped == b.stopped && a.fences == b.fences && ringEq a.faults b.faults && a.lost == b.lost) := by
  unfold sameB
  by_cases h : a = b
  · subst h; simp [eqL, ringEq]
  · rw [decide_eq_false h]
    symm
    rw [Bool.eq_false_iff]
    intro hh
    simp only [Bool.and_eq_true, beq_iff_eq, eqL, ringEq, decide_eq_true_eq] at hh
    obtain ⟨⟨⟨⟨⟨⟨⟨h1, h2⟩, h3⟩, ⟨h4, h5⟩, h6⟩, h7⟩, h8⟩, ⟨h9, h10⟩, h11⟩, h12⟩ := hh
    exact h (Brg.ext' h1 h2 h3 (Ring.ext' h4 h5 h6) h7 h8 (Ring.ext' h9 h10 h11) h12)
set_option maxRecDepth 100000 in
set_option maxHeartbeats 8000000 in
theorem bridge_Same (a b : Brg) (A B : Option Addr) (n c n2 c2 : Nat) (w : World) (h1 : Lines w w.heap.size A n c a.cache) (h2 : Lines w w.heap.size B n2 c2 b.cache) :
    Calls Try.prog 58 #[.agg #[.int .i64 a.mode, .int .i64 a.base, .slice A n c, .int .i64 a.orders.page, .int .i64 a.orders.head, .int .i64 a.orders.tail, .bool a.stopped, .int .i64 a.fences, .int .i64 a.faults.page, .int .i64 a.faults.head, .int .i64 a.faults.tail, .bool a.lost], .agg #[.int .i64 b.mode, .int .i64 b.base, .slice B n2 c2, .int .i64 b.orders.page, .int .i64 b.orders.head, .int .i64 b.orders.tail, .bool b.stopped, .int .i64 b.fences, .int .i64 b.faults.page, .int .i64 b.faults.head, .int .i64 b.faults.tail, .bool b.lost]] w fun e w' => e = .returned (.bool (sameB a b)) ∧ Below w.heap.size w w' := by
  have H1 := Lib.hid h1
  have H2 := Lib.hid h2
  have HB := Lib.hid (fun o o' => ((below_alloc w o).alloc (by simp) o'))
  rw [sameB_and]
  clear h1 h2
  cases t1 : (a.mode == b.mode)
  · go_enter Try.func58, Try.ntmps58
    go_wp2
    go_ret
    exact ⟨rfl, HB.out _ _⟩
  cases t2 : (a.base == b.base)
  · go_enter Try.func58, Try.ntmps58
    go_wp2
    go_ret
    exact ⟨rfl, HB.out _ _⟩
  cases t3 : eqL a.cache b.cache
  · have HQ := Lib.hid t3
    clear t3
    go_enter Try.func58, Try.ntmps58
    go_wp2_with fail
    refine (sl_EqualL _ _ _ _ _ _ a.cache b.cache _ (lines_now H1.out (by (repeat (first | (with_reducible exact Below.refl _ _) | (with_reducible refine Below.drew ?_) | (with_reducible refine bdrewN ?_ _) | ((with_reducible refine Below.setCell ?_ ?_ _); rotate_left; exact (by first | (simp; done) | (simp; omega) | omega)) | ((with_reducible refine Below.alloc ?_ ?_ _); rotate_left; exact (by first | (simp; done) | (simp; omega) | omega)))))) (lines_now H2.out (by (repeat (first | (with_reducible exact Below.refl _ _) | (with_reducible refine Below.drew ?_) | (with_reducible refine bdrewN ?_ _) | ((with_reducible refine Below.setCell ?_ ?_ _); rotate_left; exact (by first | (simp; done) | (simp; omega) | omega)) | ((with_reducible refine Below.alloc ?_ ?_ _); rotate_left; exact (by first | (simp; done) | (simp; omega) | omega))))))).mono ?_
    rw [HQ.out]
    rintro e w1 ⟨rfl, hb1⟩
    have hz1 := hb1.size
    (try simp only [World.size_alloc, World.size_setCell, World.size_drew] at hz1)
    have k1_0 := fun o => (bcell hb1).1 (w.heap.size) o (by first | (simp; done) | (simp; omega) | omega)
    have l1_0 : (w.heap.size) < w1.heap.size := (by omega)
    have q1_0 := fun o => (bcell hb1).2 (w.heap.size) o (by first | (simp; done) | (simp; omega) | omega)
    have k1_1 := fun o => (bcell hb1).1 (w.heap.size + 1) o (by first | (simp; done) | (simp; omega) | omega)
    have l1_1 : (w.heap.size + 1) < w1.heap.size := (by omega)
    have q1_1 := fun o => (bcell hb1).2 (w.heap.size + 1) o (by first | (simp; done) | (simp; omega) | omega)
    simp (maxDischargeDepth := 6) [go_sem, *] at k1_0 q1_0 k1_1 q1_1
    have HB1 := Lib.hid hb1
    clear hb1
    go_wp2
    go_ret
    exact ⟨rfl, by (repeat (first | (with_reducible exact Below.refl _ _) | (with_reducible refine Below.drew ?_) | (with_reducible refine bdrewN ?_ _) | ((with_reducible refine Below.setCell ?_ ?_ _); rotate_left; exact (by first | (simp; done) | (simp; omega) | omega)) | ((with_reducible refine Below.alloc ?_ ?_ _); rotate_left; exact (by first | (simp; done) | (simp; omega) | omega)) | ((with_reducible refine Below.trans ?_ (HB1.out.mono ?_)); rotate_left; exact (by first | (simp; done) | (simp; omega) | omega))))⟩
  have HQ := Lib.hid t3
  clear t3
  go_enter Try.func58, Try.ntmps58
  go_wp2_with fail
  refine (sl_EqualL _ _ _ _ _ _ a.cache b.cache _ (lines_now H1.out (by (repeat (first | (with_reducible exact Below.refl _ _) | (with_reducible refine Below.drew ?_) | (with_reducible refine bdrewN ?_ _) | ((with_reducible refine Below.setCell ?_ ?_ _); rotate_left; exact (by first | (simp; done) | (simp; omega) | omega)) | ((with_reducible refine Below.alloc ?_ ?_ _); rotate_left; exact (by first | (simp; done) | (simp; omega) | omega)))))) (lines_now H2.out (by (repeat (first | (with_reducible exact Below.refl _ _) | (with_reducible refine Below.drew ?_) | (with_reducible refine bdrewN ?_ _) | ((with_reducible refine Below.setCell ?_ ?_ _); rotate_left; exact (by first | (simp; done) | (simp; omega) | omega)) | ((with_reducible refine Below.alloc ?_ ?_ _); rotate_left; exact (by first | (simp; done) | (simp; omega) | omega))))))).mono ?_
  rw [HQ.out]
  rintro e w1 ⟨rfl, hb1⟩
  have hz1 := hb1.size
  (try simp only [World.size_alloc, World.size_setCell, World.size_drew] at hz1)
  have k1_0 := fun o => (bcell hb1).1 (w.heap.size) o (by first | (simp; done) | (simp; omega) | omega)
  have l1_0 : (w.heap.size) < w1.heap.size := (by omega)
  have q1_0 := fun o => (bcell hb1).2 (w.heap.size) o (by first | (simp; done) | (simp; omega) | omega)
  have k1_1 := fun o => (bcell hb1).1 (w.heap.size + 1) o (by first | (simp; done) | (simp; omega) | omega)
  have l1_1 : (w.heap.size + 1) < w1.heap.size := (by omega)
  have q1_1 := fun o => (bcell hb1).2 (w.heap.size + 1) o (by first | (simp; done) | (simp; omega) | omega)
  simp (maxDischargeDepth := 6) [go_sem, *] at k1_0 q1_0 k1_1 q1_1
  have HB1 := Lib.hid hb1
  clear hb1
  have r1 := fun w => Try.eqlRing a.orders b.orders w
  have r2 := fun w => Try.eqlRing a.faults b.faults w
  cases t4 : (ringEq a.orders b.orders)
  · rw [t4] at r1
    go_wp2
    go_ret
    exact ⟨ret_bool (by simp [t4]), by (repeat (first | (with_reducible exact Below.refl _ _) | (with_reducible refine Below.drew ?_) | (with_reducible refine bdrewN ?_ _) | ((with_reducible refine Below.setCell ?_ ?_ _); rotate_left; exact (by first | (simp; done) | (simp; omega) | omega)) | ((with_reducible refine Below.alloc ?_ ?_ _); rotate_left; exact (by first | (simp; done) | (simp; omega) | omega)) | ((with_reducible refine Below.trans ?_ (HB1.out.mono ?_)); rotate_left; exact (by first | (simp; done) | (simp; omega) | omega))))⟩
  rw [t4] at r1
  cases t5 : (a.stopped == b.stopped)
  · skip
    go_wp2
    go_ret
    exact ⟨ret_bool (by simp [t4, t5]), by (repeat (first | (with_reducible exact Below.refl _ _) | (with_reducible refine Below.drew ?_) | (with_reducible refine bdrewN ?_ _) | ((with_reducible refine Below.setCell ?_ ?_ _); rotate_left; exact (by first | (simp; done) | (simp; omega) | omega)) | ((with_reducible refine Below.alloc ?_ ?_ _); rotate_left; exact (by first | (simp; done) | (simp; omega) | omega)) | ((with_reducible refine Below.trans ?_ (HB1.out.mono ?_)); rotate_left; exact (by first | (simp; done) | (simp; omega) | omega))))⟩
  cases t6 : (a.fences == b.fences)
  · skip
    go_wp2
    go_ret
    exact ⟨ret_bool (by simp [t4, t5, t6]), by (repeat (first | (with_reducible exact Below.refl _ _) | (with_reducible refine Below.drew ?_) | (with_reducible refine bdrewN ?_ _) | ((with_reducible refine Below.setCell ?_ ?_ _); rotate_left; exact (by first | (simp; done) | (simp; omega) | omega)) | ((with_reducible refine Below.alloc ?_ ?_ _); rotate_left; exact (by first | (simp; done) | (simp; omega) | omega)) | ((with_reducible refine Below.trans ?_ (HB1.out.mono ?_)); rotate_left; exact (by first | (simp; done) | (simp; omega) | omega))))⟩
  cases t7 : (ringEq a.faults b.faults)
  · rw [t7] at r2
    go_wp2
    go_ret
    exact ⟨ret_bool (by simp [t4, t5, t6, t7]), by (repeat (first | (with_reducible exact Below.refl _ _) | (with_reducible refine Below.drew ?_) | (with_reducible refine bdrewN ?_ _) | ((with_reducible refine Below.setCell ?_ ?_ _); rotate_left; exact (by first | (simp; done) | (simp; omega) | omega)) | ((with_reducible refine Below.alloc ?_ ?_ _); rotate_left; exact (by first | (simp; done) | (simp; omega) | omega)) | ((with_reducible refine Below.trans ?_ (HB1.out.mono ?_)); rotate_left; exact (by first | (simp; done) | (simp; omega) | omega))))⟩
  rw [t7] at r2
  go_wp2
  go_ret
  exact ⟨ret_bool (by simp [t4, t5, t6, t7]), by (repeat (first | (with_reducible exact Below.refl _ _) | (with_reducible refine Below.drew ?_) | (with_reducible refine bdrewN ?_ _) | ((with_reducible refine Below.setCell ?_ ?_ _); rotate_left; exact (by first | (simp; done) | (simp; omega) | omega)) | ((with_reducible refine Below.alloc ?_ ?_ _); rotate_left; exact (by first | (simp; done) | (simp; omega) | omega)) | ((with_reducible refine Below.trans ?_ (HB1.out.mono ?_)); rotate_left; exact (by first | (simp; done) | (simp; omega) | omega))))⟩
end Go.Proofs.Ytbopdijnojaaiab
