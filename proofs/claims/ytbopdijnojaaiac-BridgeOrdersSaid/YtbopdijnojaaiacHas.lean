/- The library's Index and Contains at lines. No statement of the seat is proved here. -/
import Derived.Test.YtbopdijnojaaiacSlices
namespace Go.Proofs.Ytbopdijnojaaiac
open Go.RowKit
set_option linter.unusedSimpArgs false
set_option linter.unusedVariables false

def posL (ls : List Line) (x : Line) : Int := match ls.findIdx? (lineEq x) with | some k => (k : Int) | none => -1
theorem posL_none {ls : List Line} {x : Line} (h : ls.all (fun y => !lineEq x y) = true) : posL ls x = -1 := by
  unfold posL
  rw [List.findIdx?_eq_none_iff.2 (fun y hy => by simpa using List.all_eq_true.1 h y hy)]
theorem posL_some {ls : List Line} {x y : Line} {k : Nat} (hk : ls[k]? = some y) (hx : lineEq x y = true) (h : (ls.take k).all (fun y => !lineEq x y) = true) : posL ls x = (k : Int) := by
  unfold posL
  have hlt : k < ls.length := (List.getElem?_eq_some_iff.1 hk).1
  have hx' : ls[k] = y := (List.getElem?_eq_some_iff.1 hk).2
  have : ls.findIdx? (lineEq x) = some k := by
    rw [List.findIdx?_eq_some_iff_getElem]
    refine ⟨hlt, by rw [hx']; exact hx, fun j hj => ?_⟩
    have := List.all_eq_true.1 h (ls[j]'(by omega)) (by rw [List.mem_take_iff_getElem]; exact ⟨j, by omega, rfl⟩)
    simpa using this
  rw [this]
theorem posL_mem {ls : List Line} {x : Line} (h : x ∈ ls) : 0 ≤ posL ls x := by
  unfold posL
  cases e : ls.findIdx? (lineEq x) with
  | some k => simp
  | none =>
    have := List.findIdx?_eq_none_iff.1 e x h
    simp [lineEq] at this
set_option maxRecDepth 100000 in
theorem Try.eqlLine (x y : Line) (w : World) : (binOp .eql 83 (.agg #[.int .i64 x.dev, .int .i64 x.page, .int .i64 x.at_, .bool x.rd, .bool x.wr]) (.agg #[.int .i64 y.dev, .int .i64 y.page, .int .i64 y.at_, .bool y.rd, .bool y.wr])).run Try.prog w = .ok (.bool (lineEq x y)) w := by
  rw [lineEq_and]
  simp [go_sem]
  repeat' split
  all_goals simp_all
theorem all_tk {α : Type} {p : α → Bool} {xs : List α} {k : Nat} (hl : xs.length = k) (h : (xs.take k).all p = true) : xs.all p = true := by rw [List.take_of_length_le (by omega)] at h; exact h
set_option maxRecDepth 100000 in
set_option maxHeartbeats 2000000 in
theorem sl_IndexL (A : Option Addr) (n c : Nat) (ls : List Line) (x : Line) (w : World) (hx : Lines w w.heap.size A n c ls) :
    Calls Try.prog 72 #[.slice A n c, .agg #[.int .i64 x.dev, .int .i64 x.page, .int .i64 x.at_, .bool x.rd, .bool x.wr]] w fun e w' => e = .returned (.int .i64 (posL ls x)) ∧ Below w.heap.size w w' := by
  have hn := hx.cap
  have HX := Lib.hid hx; clear hx
  have HB := Lib.hid (below_alloc w)
  obtain ⟨hn1, hn2⟩ := hn
  go_enter Try.func72, Try.ntmps72
  go_wp2
  go_loopw [8, 5] (fun i _ wr => ∃ k : Nat, k ≤ n ∧ i = .int .i64 k ∧ Hid ((ls.take k).all (fun y => !lineEq x y) = true) ∧ ∃ q, wr = (w.alloc (.cells #[.int .i64 x.dev, .int .i64 x.page, .int .i64 x.at_, .bool x.rd, .bool x.wr] 83)).drewN q) (fun i _ _ => n - (intOf i).toNat)
  case atStart => exact ⟨0, by omega, rfl, by simp [Hid], 0, rfl⟩
  case round =>
    obtain ⟨k, hk, rfl, hall, q, rfl⟩ := hrel
    by_cases hlt : k < n
    · obtain ⟨y, hyk⟩ := some_of_lt ls (k := k) (by rw [HX.out.len]; exact hlt)
      obtain ⟨b, off, rfl, hb, hc⟩ := HX.out.at_ (by omega)
      obtain ⟨e0, e1, e2, e3, e4⟩ := hc k y hyk
      clear hc
      have HYK := Lib.hid hyk; clear hyk
      have hne := fun w => Try.eqlLine x y w
      cases hq : lineEq x y
      · rw [hq] at hne
        have HQ := Lib.hid hq
        clear hq
        go_wp2
        go_quiet (fail)
        go_wp2
        go_roundw
        case rel => exact ⟨k + 1, by omega, by go_num, all_take_succ HYK.out hall.out (by rw [HQ.out]; rfl), _, rfl⟩
        case measure => simp [intOf]; omega
      · rw [hq] at hne
        have HQ := Lib.hid hq
        clear hq
        go_wp2
        go_quiet (fail)
        go_wp2
        go_ret
        exact ⟨ret_int (posL_some HYK.out HQ.out hall.out).symm, bdrewN (bdrewN (HB.out _) _) _⟩
    · go_wp2
      go_ret
      obtain rfl : k = n := by omega
      exact ⟨ret_int (posL_none (all_tk HX.out.len hall.out)).symm, bdrewN (HB.out _) _⟩
set_option maxRecDepth 100000 in
set_option maxHeartbeats 2000000 in
theorem sl_ContainsL (A : Option Addr) (n c : Nat) (ls : List Line) (x : Line) (w : World) (hx : Lines w w.heap.size A n c ls) :
    Calls Try.prog 44 #[.slice A n c, .agg #[.int .i64 x.dev, .int .i64 x.page, .int .i64 x.at_, .bool x.rd, .bool x.wr]] w fun e w' => e = .returned (.bool (decide (0 ≤ posL ls x))) ∧ Below w.heap.size w w' := by
  have HX := Lib.hid hx; clear hx
  go_enter Try.func44, Try.ntmps44
  go_wp2_with fail
  refine (sl_IndexL _ _ _ ls x _ (lines_now HX.out (by (repeat (first | (with_reducible exact Below.refl _ _) | (with_reducible refine Below.drew ?_) | (with_reducible refine bdrewN ?_ _) | ((with_reducible refine Below.setCell ?_ ?_ _); rotate_left; exact (by first | (simp; done) | (simp; omega) | omega)) | ((with_reducible refine Below.alloc ?_ ?_ _); rotate_left; exact (by first | (simp; done) | (simp; omega) | omega))))))).mono ?_
  rintro e w1 ⟨rfl, hb1⟩
  have hz1 := hb1.size
  (try simp only [World.size_alloc, World.size_setCell, World.size_drew] at hz1)
  have HB1 := Lib.hid hb1
  clear hb1
  go_wp2
  go_ret
  exact ⟨rfl, by (repeat (first | (with_reducible exact Below.refl _ _) | (with_reducible refine Below.drew ?_) | (with_reducible refine bdrewN ?_ _) | ((with_reducible refine Below.setCell ?_ ?_ _); rotate_left; exact (by first | (simp; done) | (simp; omega) | omega)) | ((with_reducible refine Below.alloc ?_ ?_ _); rotate_left; exact (by first | (simp; done) | (simp; omega) | omega)) | ((with_reducible refine Below.trans ?_ (HB1.out.mono ?_)); rotate_left; exact (by first | (simp; done) | (simp; omega) | omega))))⟩
end Go.Proofs.Ytbopdijnojaaiac
