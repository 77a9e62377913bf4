/- The library's Equal at lines. No statement of the seat is proved here. -/
import Derived.Test.YtbopdijnojaaiabLines
import Derived.Test.YtbopdijnojaaiabSince
import Derived.Test.YtbopdijnojaaiabProg
import Derived.Test.YtbopdijnojaaiabSlices
namespace Go.Proofs.Ytbopdijnojaaiab
open Go.RowKit
set_option linter.unusedSimpArgs false
set_option linter.unusedVariables false

theorem eqL_len {xs ys : List Line} (h : xs.length ≠ ys.length) : false = eqL xs ys := by
  symm; unfold eqL; rw [decide_eq_false_iff_not]; intro e; exact h (by rw [e])
theorem eqL_at {xs ys : List Line} {k : Nat} {x y : Line} (hx : xs[k]? = some x) (hy : ys[k]? = some y) (h : lineEq x y = false) : false = eqL xs ys := by
  symm; unfold eqL; rw [decide_eq_false_iff_not]; intro e; subst e; rw [hx] at hy; simp at hy; unfold lineEq at h; simp [hy] at h
theorem eqL_all {xs ys : List Line} {k : Nat} (hx : xs.length = k) (hy : ys.length = k) (h : xs.take k = ys.take k) : true = eqL xs ys := by
  rw [List.take_of_length_le (by omega), List.take_of_length_le (by omega)] at h; simp [eqL, h]

theorem lineEq_and (x y : Line) : lineEq x y = (x.dev == y.dev && x.page == y.page && x.at_ == y.at_ && x.rd == y.rd && x.wr == y.wr) := by
  unfold lineEq
  by_cases h : x = y
  · subst h; simp
  · rw [decide_eq_false h]
    symm
    rw [Bool.eq_false_iff]
    intro hh
    simp only [Bool.and_eq_true, beq_iff_eq] at hh
    exact h (Line.ext' hh.1.1.1.1 hh.1.1.1.2 hh.1.1.2 hh.1.2 hh.2)
set_option maxRecDepth 100000 in
theorem Try.neqLine (x y : Line) (w : World) : (binOp .neq 42 (.agg #[.int .i64 x.dev, .int .i64 x.page, .int .i64 x.at_, .bool x.rd, .bool x.wr]) (.agg #[.int .i64 y.dev, .int .i64 y.page, .int .i64 y.at_, .bool y.rd, .bool y.wr])).run Try.prog w = .ok (.bool (!lineEq x y)) w := by
  rw [lineEq_and]
  simp [go_sem]
  repeat' split
  all_goals simp_all
set_option maxRecDepth 100000 in
set_option maxHeartbeats 4000000 in
theorem sl_EqualL (A B : Option Addr) (n m c d : Nat) (xs ys : List Line) (w : World) (hx : Lines w w.heap.size A n c xs) (hy : Lines w w.heap.size B m d ys) :
    Calls Try.prog 36 #[.slice A n c, .slice B m d] w fun e w' => e = .returned (.bool (eqL xs ys)) ∧ Below w.heap.size w w' := by
  have hn := hx.cap
  have HX := Lib.hid hx; clear hx
  have HY := Lib.hid hy; clear hy
  obtain ⟨hn1, hn2⟩ := hn
  by_cases hnm : n = m
  · subst hnm
    go_enter Try.func36, Try.ntmps36
    go_wp2
    go_loopw [13, 5] (fun i _ wr => ∃ k : Nat, k ≤ n ∧ i = .int .i64 k ∧ Hid (xs.take k = ys.take k) ∧ ∃ q, wr = w.drewN q) (fun i _ _ => n - (intOf i).toNat)
    case atStart => exact ⟨0, by omega, rfl, by simp [Hid], 0, rfl⟩
    case round =>
      obtain ⟨k, hk, rfl, hall, q, rfl⟩ := hrel
      by_cases hlt : k < n
      · obtain ⟨x, hxk⟩ := some_of_lt xs (k := k) (by rw [HX.out.len]; exact hlt)
        obtain ⟨y, hyk⟩ := some_of_lt ys (k := k) (by rw [HY.out.len]; exact hlt)
        obtain ⟨b, off, rfl, hb, hc⟩ := HX.out.at_ (by omega)
        obtain ⟨b', off', rfl, hb', hc'⟩ := HY.out.at_ (by omega)
        obtain ⟨e0, e1, e2, e3, e4⟩ := hc k x hxk
        obtain ⟨d0, d1, d2, d3, d4⟩ := hc' k y hyk
        clear hc hc'
        have HXK := Lib.hid hxk; clear hxk
        have HYK := Lib.hid hyk; clear hyk
        have hne := fun w => Try.neqLine x y w
        cases hq : lineEq x y
        · rw [hq] at hne
          have HQ := Lib.hid hq
          clear hq
          go_wp2
          go_quiet (fail)
          go_wp2
          go_ret
          exact ⟨ret_bool (eqL_at HXK.out HYK.out HQ.out), bdrewN (bdrewN (Below.refl _ _) _) _⟩
        · rw [hq] at hne
          have HQ := Lib.hid (show x = y from of_decide_eq_true hq)
          clear hq
          go_wp2
          go_quiet (fail)
          go_wp2
          go_roundw
          case rel => exact ⟨k + 1, by omega, by go_num, take_snoc_eq HXK.out HYK.out hall.out HQ.out, _, rfl⟩
          case measure => simp [intOf]; omega
      · go_wp2
        go_ret
        obtain rfl : k = n := by omega
        exact ⟨ret_bool (eqL_all HX.out.len HY.out.len hall.out), bdrewN (Below.refl _ _) _⟩
  · have h3 : ((n : Int) != (m : Int)) = true := by simp; omega
    go_enter Try.func36, Try.ntmps36
    go_wp2
    go_ret
    exact ⟨ret_bool (eqL_len (by rw [HX.out.len, HY.out.len]; exact hnm)), Below.refl _ _⟩
end Go.Proofs.Ytbopdijnojaaiab
