/- The hart: the walk of the law HartKeeps. No statement of the seat is proved here. -/
import Derived.Test.YtbopdijnojaaiabLawRan
import Derived.Test.YtbopdijnojaaiabLinesEq
namespace Go.Proofs.Ytbopdijnojaaiab
open Go.RowKit
set_option linter.unusedSimpArgs false
set_option linter.unusedVariables false

theorem cntD_eq {a b : List Int} {k : Nat} {x y : Int} (hx : a[k]? = some x) (hy : b[k]? = some y) (e : x = y) : cntD a b (k + 1) = cntD a b k := by
  show cntD a b k + (if a[k]? = b[k]? then 0 else 1) = _
  rw [hx, hy, e, if_pos rfl]; rfl
theorem cntD_ne {a b : List Int} {k : Nat} {x y : Int} (hx : a[k]? = some x) (hy : b[k]? = some y) (e : x ≠ y) : cntD a b (k + 1) = cntD a b k + 1 := by
  show cntD a b k + (if a[k]? = b[k]? then 0 else 1) = _
  rw [hx, hy, if_neg (fun h => e (by injection h))]
section
variable (xs : List Int) (h : Hrt) (b : Brg) (M R L : Option Addr) (nm mc nr rc n c : Nat) (w : World) (hm : Ints w w.heap.size M nm xs) (hr : Ints w w.heap.size R nr h.regs) (hl : Lines w w.heap.size L n c b.cache)
set_option maxRecDepth 100000 in
set_option maxHeartbeats 4000000 in
include hm hr hl in
theorem keeps_no (hE : stepE xs h b ≠ 0) : Calls Try.prog 13 #[.agg #[.slice M nm mc], .agg #[.int .i64 h.at_, .slice R nr rc, .bool h.done], .agg #[.int .i64 b.mode, .int .i64 b.base, .slice L n c, .int .i64 b.orders.page, .int .i64 b.orders.head, .int .i64 b.orders.tail, .bool b.stopped, .int .i64 b.fences, .int .i64 b.faults.page, .int .i64 b.faults.head, .int .i64 b.faults.tail, .bool b.lost]] w fun e w' => e = .returned (.bool true) ∧ Below w.heap.size w w' := by
  have HM := Lib.hid hm
  have HR := Lib.hid hr
  have HL := Lib.hid hl
  have HE := Lib.hid hE
  have t1 : (stepE xs h b != 0) = true := by rw [bne_iff_ne]; exact hE
  clear hm hr hl hE
  go_enter Try.func13, Try.ntmps13
  go_wp2_with fail
  refine (step_not xs h b _ _ _ _ _ _ _ _ _ _ (ints_now HM.out (by (repeat (first | (with_reducible exact Below.refl _ _) | (with_reducible refine Below.drew ?_) | (with_reducible refine bdrewN ?_ _) | ((with_reducible refine Below.setCell ?_ ?_ _); rotate_left; exact (by first | (simp; done) | (simp; omega) | omega)) | ((with_reducible refine Below.alloc ?_ ?_ _); rotate_left; exact (by first | (simp; done) | (simp; omega) | omega)))))) (ints_now HR.out (by (repeat (first | (with_reducible exact Below.refl _ _) | (with_reducible refine Below.drew ?_) | (with_reducible refine bdrewN ?_ _) | ((with_reducible refine Below.setCell ?_ ?_ _); rotate_left; exact (by first | (simp; done) | (simp; omega) | omega)) | ((with_reducible refine Below.alloc ?_ ?_ _); rotate_left; exact (by first | (simp; done) | (simp; omega) | omega)))))) (lines_now HL.out (by (repeat (first | (with_reducible exact Below.refl _ _) | (with_reducible refine Below.drew ?_) | (with_reducible refine bdrewN ?_ _) | ((with_reducible refine Below.setCell ?_ ?_ _); rotate_left; exact (by first | (simp; done) | (simp; omega) | omega)) | ((with_reducible refine Below.alloc ?_ ?_ _); rotate_left; exact (by first | (simp; done) | (simp; omega) | omega)))))) HE.out).mono ?_
  rintro e w1 ⟨rfl, hb1⟩
  have hz1 := hb1.size
  (try simp only [World.size_alloc, World.size_setCell, World.size_drew] at hz1)
  have HB1 := Lib.hid hb1
  clear hb1
  go_wp2_with fail
  refine (law_ran _).mono ?_
  rintro e w2 ⟨rfl, hb2⟩
  have hz2 := hb2.size
  (try simp only [World.size_alloc, World.size_setCell, World.size_drew] at hz2)
  have HB2 := Lib.hid hb2
  clear hb2
  go_wp2_with fail
  refine (law_ran _).mono ?_
  rintro e w3 ⟨rfl, hb3⟩
  have hz3 := hb3.size
  (try simp only [World.size_alloc, World.size_setCell, World.size_drew] at hz3)
  have HB3 := Lib.hid hb3
  clear hb3
  go_wp2
  go_ret
  exact ⟨rfl, by (repeat (first | (with_reducible exact Below.refl _ _) | (with_reducible refine Below.drew ?_) | (with_reducible refine bdrewN ?_ _) | ((with_reducible refine Below.setCell ?_ ?_ _); rotate_left; exact (by first | (simp; done) | (simp; omega) | omega)) | ((with_reducible refine Below.alloc ?_ ?_ _); rotate_left; exact (by first | (simp; done) | (simp; omega) | omega)) | ((with_reducible refine Below.trans ?_ (HB3.out.mono ?_)); rotate_left; exact (by first | (simp; done) | (simp; omega) | omega)) | ((with_reducible refine Below.trans ?_ (HB2.out.mono ?_)); rotate_left; exact (by first | (simp; done) | (simp; omega) | omega)) | ((with_reducible refine Below.trans ?_ (HB1.out.mono ?_)); rotate_left; exact (by first | (simp; done) | (simp; omega) | omega))))⟩
set_option maxRecDepth 100000 in
set_option maxHeartbeats 8000000 in
include hm hr hl in
theorem keeps_yes (hE : stepE xs h b = 0) (ys : List Int) (ga : Int) (rs : List Int) (dn : Bool) (bb : Brg) (hM : stepM xs h b = (ys, ⟨ga, rs, dn⟩, bb)) (hK : SKps xs h b (ys, ⟨ga, rs, dn⟩, bb)) : Calls Try.prog 13 #[.agg #[.slice M nm mc], .agg #[.int .i64 h.at_, .slice R nr rc, .bool h.done], .agg #[.int .i64 b.mode, .int .i64 b.base, .slice L n c, .int .i64 b.orders.page, .int .i64 b.orders.head, .int .i64 b.orders.tail, .bool b.stopped, .int .i64 b.fences, .int .i64 b.faults.page, .int .i64 b.faults.head, .int .i64 b.faults.tail, .bool b.lost]] w fun e w' => e = .returned (.bool true) ∧ Below w.heap.size w w' := by
  obtain ⟨c1, c2, -, -⟩ := stepE_inv hE
  have n1 : nm = 512 := by rw [← hm.len]; exact (cm_inv c1).1
  have n2 : nr = 8 := by rw [← hr.len]; exact (ckH_inv c2).1
  subst n1 n2
  have hcnt := skps_cnt hK
  have HXS := Lib.hid (cm_inv c1).1
  have HRS := Lib.hid (ckH_inv c2).1
  have HYS := Lib.hid (cm_inv hK.km).1
  have HGS := Lib.hid (ckH_inv hK.kh).1
  have tf : (bb.fences != b.fences) = false := by rw [bne_eq_false_iff_eq]; exact hK.kc.2.1
  have th : (bb.orders.head != b.orders.head) = false := by rw [bne_eq_false_iff_eq]; exact hK.kc.2.2.1
  have tt : (bb.faults.tail != b.faults.tail) = false := by rw [bne_eq_false_iff_eq]; exact hK.kc.2.2.2
  have HK := Lib.hid hK
  have HM := Lib.hid hm
  have HR := Lib.hid hr
  have HL := Lib.hid hl
  have HE := Lib.hid hE
  have HT := Lib.hid hM
  have HC := Lib.hid hcnt
  clear hm hr hl hE hM hK hcnt c1 c2
  go_enter Try.func13, Try.ntmps13
  go_wp2_with fail
  refine (step_ok xs h b _ _ _ _ _ _ _ _ _ _ (ints_now HM.out (by (repeat (first | (with_reducible exact Below.refl _ _) | (with_reducible refine Below.drew ?_) | (with_reducible refine bdrewN ?_ _) | ((with_reducible refine Below.setCell ?_ ?_ _); rotate_left; exact (by first | (simp; done) | (simp; omega) | omega)) | ((with_reducible refine Below.alloc ?_ ?_ _); rotate_left; exact (by first | (simp; done) | (simp; omega) | omega)))))) (ints_now HR.out (by (repeat (first | (with_reducible exact Below.refl _ _) | (with_reducible refine Below.drew ?_) | (with_reducible refine bdrewN ?_ _) | ((with_reducible refine Below.setCell ?_ ?_ _); rotate_left; exact (by first | (simp; done) | (simp; omega) | omega)) | ((with_reducible refine Below.alloc ?_ ?_ _); rotate_left; exact (by first | (simp; done) | (simp; omega) | omega)))))) (lines_now HL.out (by (repeat (first | (with_reducible exact Below.refl _ _) | (with_reducible refine Below.drew ?_) | (with_reducible refine bdrewN ?_ _) | ((with_reducible refine Below.setCell ?_ ?_ _); rotate_left; exact (by first | (simp; done) | (simp; omega) | omega)) | ((with_reducible refine Below.alloc ?_ ?_ _); rotate_left; exact (by first | (simp; done) | (simp; omega) | omega)))))) HE.out _ _ _ HT.out).mono ?_
  rintro e w1 ⟨A1, a1, P1, p1, Q1, q1, k1, rfl, hx1, hr1, hl1, hb1, _, _, _⟩
  have HX1 := Lib.hid hx1
  have HR1 := Lib.hid hr1
  have HL1 := Lib.hid hl1
  clear hx1 hr1 hl1
  have HQ1 := Lib.hid (brg_since (g := w.heap.size + 1 + 1) (b := b) (A := L) (n := n) (c := c) (by unfold BrgAt; simp [go_sem]) hb1)
  have hz1 := hb1.size
  (try simp only [World.size_alloc, World.size_setCell, World.size_drew] at hz1)
  have k1_0_0 := (bcell hb1).1 (w.heap.size) 0 (by first | (simp; done) | (simp; omega) | omega)
  have l1_0 : (w.heap.size) < w1.heap.size := (by omega)
  have q1_0 := fun o => (bcell hb1).2 (w.heap.size) o (by first | (simp; done) | (simp; omega) | omega)
  have k1_1_0 := (bcell hb1).1 (w.heap.size + 1) 0 (by first | (simp; done) | (simp; omega) | omega)
  have k1_1_1 := (bcell hb1).1 (w.heap.size + 1) 1 (by first | (simp; done) | (simp; omega) | omega)
  have k1_1_2 := (bcell hb1).1 (w.heap.size + 1) 2 (by first | (simp; done) | (simp; omega) | omega)
  have l1_1 : (w.heap.size + 1) < w1.heap.size := (by omega)
  have q1_1 := fun o => (bcell hb1).2 (w.heap.size + 1) o (by first | (simp; done) | (simp; omega) | omega)
  simp (maxDischargeDepth := 6) [go_sem, *] at k1_0_0 q1_0 k1_1_0 k1_1_1 k1_1_2 q1_1
  have HB1 := Lib.hid hb1
  clear hb1
  have y0a : w.heap.size ≤ w1.heap.size := by omega
  have y0b : w.heap.size < w1.heap.size + 1 := by omega
  have y0c : w.heap.size < w1.heap.size + 1 + 1 := by omega
  have y0d : w.heap.size < w1.heap.size + 2 := by omega
  have y0e : w.heap.size ≤ w1.heap.size + 1 := by omega
  have y0f : w.heap.size < w1.heap.size := by omega
  have y1a : w.heap.size + 1 ≤ w1.heap.size := by omega
  have y1b : w.heap.size + 1 < w1.heap.size + 1 := by omega
  have y1c : w.heap.size + 1 < w1.heap.size + 1 + 1 := by omega
  have y1d : w.heap.size + 1 < w1.heap.size + 2 := by omega
  have y1e : w.heap.size + 1 ≤ w1.heap.size + 1 := by omega
  have y1f : w.heap.size + 1 < w1.heap.size := by omega
  have y2a : w.heap.size + 1 + 1 ≤ w1.heap.size := by omega
  have y2b : w.heap.size + 1 + 1 < w1.heap.size + 1 := by omega
  have y2c : w.heap.size + 1 + 1 < w1.heap.size + 1 + 1 := by omega
  have y2d : w.heap.size + 1 + 1 < w1.heap.size + 2 := by omega
  have y2e : w.heap.size + 1 + 1 ≤ w1.heap.size + 1 := by omega
  have y2f : w.heap.size + 1 + 1 < w1.heap.size := by omega
  go_wp2_with fail
  refine (law_ran _).mono ?_
  rintro e w2 ⟨rfl, hb2⟩
  have HQ5 := Lib.hid (brg_since (brg_since HQ1.out (since_alloc (since_alloc (since_alloc (since_refl _) _) _) _)) hb2)
  have HQ9 := Lib.hid (brg_since (g := w1.heap.size + 1 + 1) (b := bb) (A := Q1) (n := q1) (c := k1) (by unfold BrgAt; simp [go_sem]) hb2)
  have hz2 := hb2.size
  (try simp only [World.size_alloc, World.size_setCell, World.size_drew] at hz2)
  have k2_0_0 := (bcell hb2).1 (w.heap.size) 0 (by first | (simp; done) | (simp; omega) | omega)
  have l2_0 : (w.heap.size) < w2.heap.size := (by omega)
  have q2_0 := fun o => (bcell hb2).2 (w.heap.size) o (by first | (simp; done) | (simp; omega) | omega)
  have k2_1_0 := (bcell hb2).1 (w.heap.size + 1) 0 (by first | (simp; done) | (simp; omega) | omega)
  have k2_1_1 := (bcell hb2).1 (w.heap.size + 1) 1 (by first | (simp; done) | (simp; omega) | omega)
  have k2_1_2 := (bcell hb2).1 (w.heap.size + 1) 2 (by first | (simp; done) | (simp; omega) | omega)
  have l2_1 : (w.heap.size + 1) < w2.heap.size := (by omega)
  have q2_1 := fun o => (bcell hb2).2 (w.heap.size + 1) o (by first | (simp; done) | (simp; omega) | omega)
  have k2_2_0 := (bcell hb2).1 (w1.heap.size + 1) 0 (by first | (simp; done) | (simp; omega) | omega)
  have k2_2_1 := (bcell hb2).1 (w1.heap.size + 1) 1 (by first | (simp; done) | (simp; omega) | omega)
  have k2_2_2 := (bcell hb2).1 (w1.heap.size + 1) 2 (by first | (simp; done) | (simp; omega) | omega)
  have l2_2 : (w1.heap.size + 1) < w2.heap.size := (by omega)
  have q2_2 := fun o => (bcell hb2).2 (w1.heap.size + 1) o (by first | (simp; done) | (simp; omega) | omega)
  have k2_3_0 := (bcell hb2).1 (w1.heap.size) 0 (by first | (simp; done) | (simp; omega) | omega)
  have l2_3 : (w1.heap.size) < w2.heap.size := (by omega)
  have q2_3 := fun o => (bcell hb2).2 (w1.heap.size) o (by first | (simp; done) | (simp; omega) | omega)
  simp (maxDischargeDepth := 6) [go_sem, *] at k2_0_0 q2_0 k2_1_0 k2_1_1 k2_1_2 q2_1 k2_2_0 k2_2_1 k2_2_2 q2_2 k2_3_0 q2_3
  have HB2 := Lib.hid hb2
  clear hb2
  obtain ⟨gM, oM, eM, hM1, hMc⟩ := (ints_now HM.out (show Below w.heap.size w w2 by (repeat (first | (with_reducible exact Below.refl _ _) | (with_reducible refine Below.drew ?_) | (with_reducible refine bdrewN ?_ _) | ((with_reducible refine Below.setCell ?_ ?_ _); rotate_left; exact (by first | (simp; done) | (simp; omega) | omega)) | ((with_reducible refine Below.alloc ?_ ?_ _); rotate_left; exact (by first | (simp; done) | (simp; omega) | omega)) | ((with_reducible refine Below.trans ?_ (HB2.out.mono ?_)); rotate_left; exact (by first | (simp; done) | (simp; omega) | omega)) | ((with_reducible refine Below.trans ?_ (HB1.out.mono ?_)); rotate_left; exact (by first | (simp; done) | (simp; omega) | omega)))))).at_ (by decide)
  obtain ⟨gR, oR, eR, hR1, hRc⟩ := (ints_now HR.out (show Below w.heap.size w w2 by (repeat (first | (with_reducible exact Below.refl _ _) | (with_reducible refine Below.drew ?_) | (with_reducible refine bdrewN ?_ _) | ((with_reducible refine Below.setCell ?_ ?_ _); rotate_left; exact (by first | (simp; done) | (simp; omega) | omega)) | ((with_reducible refine Below.alloc ?_ ?_ _); rotate_left; exact (by first | (simp; done) | (simp; omega) | omega)) | ((with_reducible refine Below.trans ?_ (HB2.out.mono ?_)); rotate_left; exact (by first | (simp; done) | (simp; omega) | omega)) | ((with_reducible refine Below.trans ?_ (HB1.out.mono ?_)); rotate_left; exact (by first | (simp; done) | (simp; omega) | omega)))))).at_ (by decide)
  obtain ⟨gX, oX, eX, hX1, hXc⟩ := (ints_now HX1.out (show Below w1.heap.size w1 w2 by (repeat (first | (with_reducible exact Below.refl _ _) | (with_reducible refine Below.drew ?_) | (with_reducible refine bdrewN ?_ _) | ((with_reducible refine Below.setCell ?_ ?_ _); rotate_left; exact (by first | (simp; done) | (simp; omega) | omega)) | ((with_reducible refine Below.alloc ?_ ?_ _); rotate_left; exact (by first | (simp; done) | (simp; omega) | omega)) | ((with_reducible refine Below.trans ?_ (HB2.out.mono ?_)); rotate_left; exact (by first | (simp; done) | (simp; omega) | omega)))))).at_ (by decide)
  obtain ⟨gY, oY, eY, hY1, hYc⟩ := (ints_now HR1.out (show Below w1.heap.size w1 w2 by (repeat (first | (with_reducible exact Below.refl _ _) | (with_reducible refine Below.drew ?_) | (with_reducible refine bdrewN ?_ _) | ((with_reducible refine Below.setCell ?_ ?_ _); rotate_left; exact (by first | (simp; done) | (simp; omega) | omega)) | ((with_reducible refine Below.alloc ?_ ?_ _); rotate_left; exact (by first | (simp; done) | (simp; omega) | omega)) | ((with_reducible refine Below.trans ?_ (HB2.out.mono ?_)); rotate_left; exact (by first | (simp; done) | (simp; omega) | omega)))))).at_ (by decide)
  subst eM eR eX eY
  have HMC := Lib.hid hMc
  have HRC := Lib.hid hRc
  have HXC := Lib.hid hXc
  have HYC := Lib.hid hYc
  clear hMc hRc hXc hYc
  go_wp2
  go_loopw [11, 34] (fun s i wr => ∃ k : Nat, k ≤ 512 ∧ i = .int .i64 k ∧ s = .int .i64 (cntD ys xs k : Nat) ∧ ∃ q, wr = w2.drewN q) (fun _ i _ => 512 - (intOf i).toNat)
  case atStart => exact ⟨0, by omega, rfl, rfl, 0, rfl⟩
  case round =>
    obtain ⟨k, hk, rfl, rfl, q, rfl⟩ := hrel
    by_cases hlt : k < 512
    · obtain ⟨y, hy⟩ := some_of_lt ys (k := k) (by rw [HYS.out]; exact hlt)
      obtain ⟨x, hx⟩ := some_of_lt xs (k := k) (by rw [HXS.out]; exact hlt)
      have f1 := HXC.out k y hy
      have f2 := HMC.out k x hx
      have HY := Lib.hid hy
      have HX := Lib.hid hx
      have hle := cntD_le ys xs k
      clear hy hx
      by_cases e : y = x
      · have t1 : (y != x) = false := by rw [bne_eq_false_iff_eq]; exact e
        have HQ := Lib.hid (cntD_eq HY.out HX.out e)
        clear e
        go_wp2
        go_quiet (fail)
        go_wp2
        go_roundw
        case rel => exact ⟨k + 1, by omega, by go_num, by rw [HQ.out], _, rfl⟩
        case measure => simp [intOf]; omega
      · have t1 : (y != x) = true := by rw [bne_iff_ne]; exact e
        have HQ := Lib.hid (cntD_ne HY.out HX.out e)
        have e1 : IntKind.i64.wrap ((cntD ys xs k : Int) + 1) = (cntD ys xs k : Int) + 1 := IntWalk.i64_in _ (by omega)
        clear e
        go_wp2
        go_quiet (fail)
        go_wp2
        go_roundw
        case rel => exact ⟨k + 1, by omega, by go_num, by rw [HQ.out]; simp, _, rfl⟩
        case measure => simp [intOf]; omega
    · obtain rfl : k = 512 := by omega
      have hl1 := cntD_le ys xs 512
      go_wp2
      go_loopw [12, 54] (fun s i wr => ∃ k : Nat, k ≤ 8 ∧ i = .int .i64 k ∧ s = .int .i64 (cntD rs h.regs k : Nat) ∧ ∃ q, wr = w2.drewN q) (fun _ i _ => 8 - (intOf i).toNat)
      case atStart => exact ⟨0, by omega, rfl, rfl, q, rfl⟩
      case round =>
        obtain ⟨k, hk, rfl, rfl, q, rfl⟩ := hrel
        by_cases hlt : k < 8
        · obtain ⟨y, hy⟩ := some_of_lt rs (k := k) (by rw [HGS.out]; exact hlt)
          obtain ⟨x, hx⟩ := some_of_lt h.regs (k := k) (by rw [HRS.out]; exact hlt)
          have f1 := HYC.out k y hy
          have f2 := HRC.out k x hx
          have HY := Lib.hid hy
          have HX := Lib.hid hx
          have hle := cntD_le rs h.regs k
          clear hy hx
          by_cases e : y = x
          · have t1 : (y != x) = false := by rw [bne_eq_false_iff_eq]; exact e
            have HQ := Lib.hid (cntD_eq HY.out HX.out e)
            clear e
            go_wp2
            go_quiet (fail)
            go_wp2
            go_roundw
            case rel => exact ⟨k + 1, by omega, by go_num, by rw [HQ.out], _, rfl⟩
            case measure => simp [intOf]; omega
          · have t1 : (y != x) = true := by rw [bne_iff_ne]; exact e
            have HQ := Lib.hid (cntD_ne HY.out HX.out e)
            have e1 : IntKind.i64.wrap ((cntD rs h.regs k : Int) + 1) = (cntD rs h.regs k : Int) + 1 := IntWalk.i64_in _ (by omega)
            clear e
            go_wp2
            go_quiet (fail)
            go_wp2
            go_roundw
            case rel => exact ⟨k + 1, by omega, by go_num, by rw [HQ.out]; simp, _, rfl⟩
            case measure => simp [intOf]; omega
        · obtain rfl : k = 8 := by omega
          have hl2 := cntD_le rs h.regs 8
          generalize cntD ys xs 512 = n1 at *
          generalize cntD rs h.regs 8 = n2 at *
          obtain ⟨g1, g2, g3⟩ := HC.out
          have g5 : IntKind.i64.wrap ((n1 : Int) + (n2 : Int)) = (n1 : Int) + (n2 : Int) := IntWalk.i64_in _ (by omega)
          have g6 : (n1 : Int) + (n2 : Int) ≤ 1 := by omega
          have HG := Lib.hid (And.intro g2 g3)
          clear g1 g2 g3 HMC HRC HXC HYC
          go_wp2_with fail
          refine (mem_Check _ _ _ ys _ (ints_now HX1.out (by (repeat (first | (with_reducible exact Below.refl _ _) | (with_reducible refine Below.drew ?_) | (with_reducible refine bdrewN ?_ _) | ((with_reducible refine Below.setCell ?_ ?_ _); rotate_left; exact (by first | (simp; done) | (simp; omega) | omega)) | ((with_reducible refine Below.alloc ?_ ?_ _); rotate_left; exact (by first | (simp; done) | (simp; omega) | omega)) | ((with_reducible refine Below.trans ?_ (HB2.out.mono ?_)); rotate_left; exact (by first | (simp; done) | (simp; omega) | omega))))))).mono ?_
          rw [HK.out.km]
          rintro e w3 ⟨rfl, hb3⟩
          replace hb3 : Below w2.heap.size w2 w3 := ⟨hb3.os, hb3.tape, hb3.output, hb3.size, hb3.block⟩
          have hz3 := hb3.size
          (try simp only [World.size_alloc, World.size_setCell, World.size_drew] at hz3)
          have k3_0_0 := (bcell hb3).1 (w.heap.size + 1) 0 (by first | (simp; done) | (simp; omega) | omega)
          have k3_0_1 := (bcell hb3).1 (w.heap.size + 1) 1 (by first | (simp; done) | (simp; omega) | omega)
          have k3_0_2 := (bcell hb3).1 (w.heap.size + 1) 2 (by first | (simp; done) | (simp; omega) | omega)
          have l3_0 : (w.heap.size + 1) < w3.heap.size := (by omega)
          have q3_0 := fun o => (bcell hb3).2 (w.heap.size + 1) o (by first | (simp; done) | (simp; omega) | omega)
          have k3_1_0 := (bcell hb3).1 (w1.heap.size + 1) 0 (by first | (simp; done) | (simp; omega) | omega)
          have k3_1_1 := (bcell hb3).1 (w1.heap.size + 1) 1 (by first | (simp; done) | (simp; omega) | omega)
          have k3_1_2 := (bcell hb3).1 (w1.heap.size + 1) 2 (by first | (simp; done) | (simp; omega) | omega)
          have l3_1 : (w1.heap.size + 1) < w3.heap.size := (by omega)
          have q3_1 := fun o => (bcell hb3).2 (w1.heap.size + 1) o (by first | (simp; done) | (simp; omega) | omega)
          simp (maxDischargeDepth := 6) [go_sem, *] at k3_0_0 k3_0_1 k3_0_2 q3_0 k3_1_0 k3_1_1 k3_1_2 q3_1
          have HB3 := Lib.hid hb3
          clear hb3
          go_wp2_with fail
          refine (hart_Check ⟨ga, rs, dn⟩ _ _ _ _ (ints_now HR1.out (by (repeat (first | (with_reducible exact Below.refl _ _) | (with_reducible refine Below.drew ?_) | (with_reducible refine bdrewN ?_ _) | ((with_reducible refine Below.setCell ?_ ?_ _); rotate_left; exact (by first | (simp; done) | (simp; omega) | omega)) | ((with_reducible refine Below.alloc ?_ ?_ _); rotate_left; exact (by first | (simp; done) | (simp; omega) | omega)) | ((with_reducible refine Below.trans ?_ (HB3.out.mono ?_)); rotate_left; exact (by first | (simp; done) | (simp; omega) | omega)) | ((with_reducible refine Below.trans ?_ (HB2.out.mono ?_)); rotate_left; exact (by first | (simp; done) | (simp; omega) | omega))))))).mono ?_
          rw [HK.out.kh]
          rintro e w4 ⟨rfl, hb4⟩
          have hz4 := hb4.size
          (try simp only [World.size_alloc, World.size_setCell, World.size_drew] at hz4)
          have k4_0_0 := (bcell hb4).1 (w.heap.size + 1) 0 (by first | (simp; done) | (simp; omega) | omega)
          have k4_0_1 := (bcell hb4).1 (w.heap.size + 1) 1 (by first | (simp; done) | (simp; omega) | omega)
          have k4_0_2 := (bcell hb4).1 (w.heap.size + 1) 2 (by first | (simp; done) | (simp; omega) | omega)
          have l4_0 : (w.heap.size + 1) < w4.heap.size := (by omega)
          have q4_0 := fun o => (bcell hb4).2 (w.heap.size + 1) o (by first | (simp; done) | (simp; omega) | omega)
          have k4_1_0 := (bcell hb4).1 (w1.heap.size + 1) 0 (by first | (simp; done) | (simp; omega) | omega)
          have k4_1_1 := (bcell hb4).1 (w1.heap.size + 1) 1 (by first | (simp; done) | (simp; omega) | omega)
          have k4_1_2 := (bcell hb4).1 (w1.heap.size + 1) 2 (by first | (simp; done) | (simp; omega) | omega)
          have l4_1 : (w1.heap.size + 1) < w4.heap.size := (by omega)
          have q4_1 := fun o => (bcell hb4).2 (w1.heap.size + 1) o (by first | (simp; done) | (simp; omega) | omega)
          simp (maxDischargeDepth := 6) [go_sem, *] at k4_0_0 k4_0_1 k4_0_2 q4_0 k4_1_0 k4_1_1 k4_1_2 q4_1
          have HB4 := Lib.hid hb4
          clear hb4
          obtain ⟨pb0, pb1, pb2, pb3, pb4, pb5, pb6, pb7, pb8, pb9, pb10, pb11⟩ := brg_since HQ9.out (show Since w2 w4 by unfold Since; (repeat (first | (with_reducible exact Below.refl _ _) | (with_reducible refine Below.drew ?_) | (with_reducible refine bdrewN ?_ _) | ((with_reducible refine Below.setCell ?_ ?_ _); rotate_left; exact (by first | (simp; done) | (simp; omega) | omega)) | ((with_reducible refine Below.alloc ?_ ?_ _); rotate_left; exact (by first | (simp; done) | (simp; omega) | omega)) | ((with_reducible refine Below.trans ?_ (HB4.out.mono ?_)); rotate_left; exact (by first | (simp; done) | (simp; omega) | omega)) | ((with_reducible refine Below.trans ?_ (HB3.out.mono ?_)); rotate_left; exact (by first | (simp; done) | (simp; omega) | omega)))))
          go_wp2_with fail
          clear pb0 pb1 pb2 pb3 pb4 pb5 pb6 pb7 pb8 pb9 pb10 pb11
          refine (bridge_Check bb _ _ _ _ (lines_now HL1.out (by (repeat (first | (with_reducible exact Below.refl _ _) | (with_reducible refine Below.drew ?_) | (with_reducible refine bdrewN ?_ _) | ((with_reducible refine Below.setCell ?_ ?_ _); rotate_left; exact (by first | (simp; done) | (simp; omega) | omega)) | ((with_reducible refine Below.alloc ?_ ?_ _); rotate_left; exact (by first | (simp; done) | (simp; omega) | omega)) | ((with_reducible refine Below.trans ?_ (HB4.out.mono ?_)); rotate_left; exact (by first | (simp; done) | (simp; omega) | omega)) | ((with_reducible refine Below.trans ?_ (HB3.out.mono ?_)); rotate_left; exact (by first | (simp; done) | (simp; omega) | omega)) | ((with_reducible refine Below.trans ?_ (HB2.out.mono ?_)); rotate_left; exact (by first | (simp; done) | (simp; omega) | omega))))))).mono ?_
          rw [HK.out.kb]
          rintro e w5 ⟨rfl, hb5⟩
          have hz5 := hb5.size
          (try simp only [World.size_alloc, World.size_setCell, World.size_drew] at hz5)
          have k5_0_0 := (bcell hb5).1 (w.heap.size + 1) 0 (by first | (simp; done) | (simp; omega) | omega)
          have k5_0_1 := (bcell hb5).1 (w.heap.size + 1) 1 (by first | (simp; done) | (simp; omega) | omega)
          have k5_0_2 := (bcell hb5).1 (w.heap.size + 1) 2 (by first | (simp; done) | (simp; omega) | omega)
          have l5_0 : (w.heap.size + 1) < w5.heap.size := (by omega)
          have q5_0 := fun o => (bcell hb5).2 (w.heap.size + 1) o (by first | (simp; done) | (simp; omega) | omega)
          have k5_1_0 := (bcell hb5).1 (w1.heap.size + 1) 0 (by first | (simp; done) | (simp; omega) | omega)
          have k5_1_1 := (bcell hb5).1 (w1.heap.size + 1) 1 (by first | (simp; done) | (simp; omega) | omega)
          have k5_1_2 := (bcell hb5).1 (w1.heap.size + 1) 2 (by first | (simp; done) | (simp; omega) | omega)
          have l5_1 : (w1.heap.size + 1) < w5.heap.size := (by omega)
          have q5_1 := fun o => (bcell hb5).2 (w1.heap.size + 1) o (by first | (simp; done) | (simp; omega) | omega)
          simp (maxDischargeDepth := 6) [go_sem, *] at k5_0_0 k5_0_1 k5_0_2 q5_0 k5_1_0 k5_1_1 k5_1_2 q5_1
          have HB5 := Lib.hid hb5
          clear hb5
          have c9 := (brg_since HQ9.out (show Since w2 w5 by unfold Since; (repeat (first | (with_reducible exact Below.refl _ _) | (with_reducible refine Below.drew ?_) | (with_reducible refine bdrewN ?_ _) | ((with_reducible refine Below.setCell ?_ ?_ _); rotate_left; exact (by first | (simp; done) | (simp; omega) | omega)) | ((with_reducible refine Below.alloc ?_ ?_ _); rotate_left; exact (by first | (simp; done) | (simp; omega) | omega)) | ((with_reducible refine Below.trans ?_ (HB5.out.mono ?_)); rotate_left; exact (by first | (simp; done) | (simp; omega) | omega)) | ((with_reducible refine Below.trans ?_ (HB4.out.mono ?_)); rotate_left; exact (by first | (simp; done) | (simp; omega) | omega)) | ((with_reducible refine Below.trans ?_ (HB3.out.mono ?_)); rotate_left; exact (by first | (simp; done) | (simp; omega) | omega)))))).2.2.1
          have c5 := (brg_since HQ5.out (show Since w2 w5 by unfold Since; (repeat (first | (with_reducible exact Below.refl _ _) | (with_reducible refine Below.drew ?_) | (with_reducible refine bdrewN ?_ _) | ((with_reducible refine Below.setCell ?_ ?_ _); rotate_left; exact (by first | (simp; done) | (simp; omega) | omega)) | ((with_reducible refine Below.alloc ?_ ?_ _); rotate_left; exact (by first | (simp; done) | (simp; omega) | omega)) | ((with_reducible refine Below.trans ?_ (HB5.out.mono ?_)); rotate_left; exact (by first | (simp; done) | (simp; omega) | omega)) | ((with_reducible refine Below.trans ?_ (HB4.out.mono ?_)); rotate_left; exact (by first | (simp; done) | (simp; omega) | omega)) | ((with_reducible refine Below.trans ?_ (HB3.out.mono ?_)); rotate_left; exact (by first | (simp; done) | (simp; omega) | omega)))))).2.2.1
          go_wp2_with fail
          refine (sl_EqualL _ _ _ _ _ _ bb.cache b.cache _ (lines_now HL1.out (by (repeat (first | (with_reducible exact Below.refl _ _) | (with_reducible refine Below.drew ?_) | (with_reducible refine bdrewN ?_ _) | ((with_reducible refine Below.setCell ?_ ?_ _); rotate_left; exact (by first | (simp; done) | (simp; omega) | omega)) | ((with_reducible refine Below.alloc ?_ ?_ _); rotate_left; exact (by first | (simp; done) | (simp; omega) | omega)) | ((with_reducible refine Below.trans ?_ (HB5.out.mono ?_)); rotate_left; exact (by first | (simp; done) | (simp; omega) | omega)) | ((with_reducible refine Below.trans ?_ (HB4.out.mono ?_)); rotate_left; exact (by first | (simp; done) | (simp; omega) | omega)) | ((with_reducible refine Below.trans ?_ (HB3.out.mono ?_)); rotate_left; exact (by first | (simp; done) | (simp; omega) | omega)) | ((with_reducible refine Below.trans ?_ (HB2.out.mono ?_)); rotate_left; exact (by first | (simp; done) | (simp; omega) | omega)))))) (lines_now HL.out (by (repeat (first | (with_reducible exact Below.refl _ _) | (with_reducible refine Below.drew ?_) | (with_reducible refine bdrewN ?_ _) | ((with_reducible refine Below.setCell ?_ ?_ _); rotate_left; exact (by first | (simp; done) | (simp; omega) | omega)) | ((with_reducible refine Below.alloc ?_ ?_ _); rotate_left; exact (by first | (simp; done) | (simp; omega) | omega)) | ((with_reducible refine Below.trans ?_ (HB5.out.mono ?_)); rotate_left; exact (by first | (simp; done) | (simp; omega) | omega)) | ((with_reducible refine Below.trans ?_ (HB4.out.mono ?_)); rotate_left; exact (by first | (simp; done) | (simp; omega) | omega)) | ((with_reducible refine Below.trans ?_ (HB3.out.mono ?_)); rotate_left; exact (by first | (simp; done) | (simp; omega) | omega)) | ((with_reducible refine Below.trans ?_ (HB2.out.mono ?_)); rotate_left; exact (by first | (simp; done) | (simp; omega) | omega)) | ((with_reducible refine Below.trans ?_ (HB1.out.mono ?_)); rotate_left; exact (by first | (simp; done) | (simp; omega) | omega))))))).mono ?_
          rw [show eqL bb.cache b.cache = true by unfold eqL; simpa using HK.out.kc.1]
          rintro e w6 ⟨rfl, hb6⟩
          have hz6 := hb6.size
          (try simp only [World.size_alloc, World.size_setCell, World.size_drew] at hz6)
          have k6_0_0 := (bcell hb6).1 (w.heap.size + 1) 0 (by first | (simp; done) | (simp; omega) | omega)
          have k6_0_1 := (bcell hb6).1 (w.heap.size + 1) 1 (by first | (simp; done) | (simp; omega) | omega)
          have k6_0_2 := (bcell hb6).1 (w.heap.size + 1) 2 (by first | (simp; done) | (simp; omega) | omega)
          have l6_0 : (w.heap.size + 1) < w6.heap.size := (by omega)
          have q6_0 := fun o => (bcell hb6).2 (w.heap.size + 1) o (by first | (simp; done) | (simp; omega) | omega)
          have k6_1_0 := (bcell hb6).1 (w1.heap.size + 1) 0 (by first | (simp; done) | (simp; omega) | omega)
          have k6_1_1 := (bcell hb6).1 (w1.heap.size + 1) 1 (by first | (simp; done) | (simp; omega) | omega)
          have k6_1_2 := (bcell hb6).1 (w1.heap.size + 1) 2 (by first | (simp; done) | (simp; omega) | omega)
          have l6_1 : (w1.heap.size + 1) < w6.heap.size := (by omega)
          have q6_1 := fun o => (bcell hb6).2 (w1.heap.size + 1) o (by first | (simp; done) | (simp; omega) | omega)
          simp (maxDischargeDepth := 6) [go_sem, *] at k6_0_0 k6_0_1 k6_0_2 q6_0 k6_1_0 k6_1_1 k6_1_2 q6_1
          have HB6 := Lib.hid hb6
          clear hb6
          clear c9 c5
          obtain ⟨pb0, pb1, pb2, pb3, pb4, pb5, pb6, pb7, pb8, pb9, pb10, pb11⟩ := brg_since HQ9.out (show Since w2 w6 by unfold Since; (repeat (first | (with_reducible exact Below.refl _ _) | (with_reducible refine Below.drew ?_) | (with_reducible refine bdrewN ?_ _) | ((with_reducible refine Below.setCell ?_ ?_ _); rotate_left; exact (by first | (simp; done) | (simp; omega) | omega)) | ((with_reducible refine Below.alloc ?_ ?_ _); rotate_left; exact (by first | (simp; done) | (simp; omega) | omega)) | ((with_reducible refine Below.trans ?_ (HB6.out.mono ?_)); rotate_left; exact (by first | (simp; done) | (simp; omega) | omega)) | ((with_reducible refine Below.trans ?_ (HB5.out.mono ?_)); rotate_left; exact (by first | (simp; done) | (simp; omega) | omega)) | ((with_reducible refine Below.trans ?_ (HB4.out.mono ?_)); rotate_left; exact (by first | (simp; done) | (simp; omega) | omega)) | ((with_reducible refine Below.trans ?_ (HB3.out.mono ?_)); rotate_left; exact (by first | (simp; done) | (simp; omega) | omega)))))
          obtain ⟨rb0, rb1, rb2, rb3, rb4, rb5, rb6, rb7, rb8, rb9, rb10, rb11⟩ := brg_since HQ5.out (show Since w2 w6 by unfold Since; (repeat (first | (with_reducible exact Below.refl _ _) | (with_reducible refine Below.drew ?_) | (with_reducible refine bdrewN ?_ _) | ((with_reducible refine Below.setCell ?_ ?_ _); rotate_left; exact (by first | (simp; done) | (simp; omega) | omega)) | ((with_reducible refine Below.alloc ?_ ?_ _); rotate_left; exact (by first | (simp; done) | (simp; omega) | omega)) | ((with_reducible refine Below.trans ?_ (HB6.out.mono ?_)); rotate_left; exact (by first | (simp; done) | (simp; omega) | omega)) | ((with_reducible refine Below.trans ?_ (HB5.out.mono ?_)); rotate_left; exact (by first | (simp; done) | (simp; omega) | omega)) | ((with_reducible refine Below.trans ?_ (HB4.out.mono ?_)); rotate_left; exact (by first | (simp; done) | (simp; omega) | omega)) | ((with_reducible refine Below.trans ?_ (HB3.out.mono ?_)); rotate_left; exact (by first | (simp; done) | (simp; omega) | omega)))))
          go_upto_region 19 with (fail)
          have HW1 := Lib.hid (show Below w.heap.size w w6 by (repeat (first | (with_reducible exact Below.refl _ _) | (with_reducible refine Below.drew ?_) | (with_reducible refine bdrewN ?_ _) | ((with_reducible refine Below.setCell ?_ ?_ _); rotate_left; exact (by first | (simp; done) | (simp; omega) | omega)) | ((with_reducible refine Below.alloc ?_ ?_ _); rotate_left; exact (by first | (simp; done) | (simp; omega) | omega)) | ((with_reducible refine Below.trans ?_ (HB6.out.mono ?_)); rotate_left; exact (by first | (simp; done) | (simp; omega) | omega)) | ((with_reducible refine Below.trans ?_ (HB5.out.mono ?_)); rotate_left; exact (by first | (simp; done) | (simp; omega) | omega)) | ((with_reducible refine Below.trans ?_ (HB4.out.mono ?_)); rotate_left; exact (by first | (simp; done) | (simp; omega) | omega)) | ((with_reducible refine Below.trans ?_ (HB3.out.mono ?_)); rotate_left; exact (by first | (simp; done) | (simp; omega) | omega)) | ((with_reducible refine Below.trans ?_ (HB2.out.mono ?_)); rotate_left; exact (by first | (simp; done) | (simp; omega) | omega)) | ((with_reducible refine Below.trans ?_ (HB1.out.mono ?_)); rotate_left; exact (by first | (simp; done) | (simp; omega) | omega)))))
          have HW2 := Lib.hid (show Below w1.heap.size w1 w6 by (repeat (first | (with_reducible exact Below.refl _ _) | (with_reducible refine Below.drew ?_) | (with_reducible refine bdrewN ?_ _) | ((with_reducible refine Below.setCell ?_ ?_ _); rotate_left; exact (by first | (simp; done) | (simp; omega) | omega)) | ((with_reducible refine Below.alloc ?_ ?_ _); rotate_left; exact (by first | (simp; done) | (simp; omega) | omega)) | ((with_reducible refine Below.trans ?_ (HB6.out.mono ?_)); rotate_left; exact (by first | (simp; done) | (simp; omega) | omega)) | ((with_reducible refine Below.trans ?_ (HB5.out.mono ?_)); rotate_left; exact (by first | (simp; done) | (simp; omega) | omega)) | ((with_reducible refine Below.trans ?_ (HB4.out.mono ?_)); rotate_left; exact (by first | (simp; done) | (simp; omega) | omega)) | ((with_reducible refine Below.trans ?_ (HB3.out.mono ?_)); rotate_left; exact (by first | (simp; done) | (simp; omega) | omega)) | ((with_reducible refine Below.trans ?_ (HB2.out.mono ?_)); rotate_left; exact (by first | (simp; done) | (simp; omega) | omega)))))
          cases dn
          · by_cases hs : b = bb
            · have HS := Lib.hid (show sameB b bb = true by unfold sameB; simpa using hs)
              clear hs
              go_wp2_with fail
              refine (bridge_Same b bb _ _ _ _ _ _ _ (lines_now HL.out (by (repeat (first | (with_reducible exact Below.refl _ _) | (with_reducible refine Below.drew ?_) | (with_reducible refine bdrewN ?_ _) | ((with_reducible refine Below.setCell ?_ ?_ _); rotate_left; exact (by first | (simp; done) | (simp; omega) | omega)) | ((with_reducible refine Below.alloc ?_ ?_ _); rotate_left; exact (by first | (simp; done) | (simp; omega) | omega)) | ((with_reducible refine Below.trans ?_ (HW1.out.mono ?_)); rotate_left; exact (by first | (simp; done) | (simp; omega) | omega)))))) (lines_now HL1.out (by (repeat (first | (with_reducible exact Below.refl _ _) | (with_reducible refine Below.drew ?_) | (with_reducible refine bdrewN ?_ _) | ((with_reducible refine Below.setCell ?_ ?_ _); rotate_left; exact (by first | (simp; done) | (simp; omega) | omega)) | ((with_reducible refine Below.alloc ?_ ?_ _); rotate_left; exact (by first | (simp; done) | (simp; omega) | omega)) | ((with_reducible refine Below.trans ?_ (HW2.out.mono ?_)); rotate_left; exact (by first | (simp; done) | (simp; omega) | omega))))))).mono ?_
              rw [HS.out]
              rintro e w7 ⟨rfl, hb7⟩
              have hz7 := hb7.size
              (try simp only [World.size_alloc, World.size_setCell, World.size_drew] at hz7)
              have HB7 := Lib.hid hb7
              clear hb7
              go_wp2
              go_ret
              exact ⟨rfl, by (repeat (first | (with_reducible exact Below.refl _ _) | (with_reducible refine Below.drew ?_) | (with_reducible refine bdrewN ?_ _) | ((with_reducible refine Below.setCell ?_ ?_ _); rotate_left; exact (by first | (simp; done) | (simp; omega) | omega)) | ((with_reducible refine Below.alloc ?_ ?_ _); rotate_left; exact (by first | (simp; done) | (simp; omega) | omega)) | ((with_reducible refine Below.trans ?_ (HB7.out.mono ?_)); rotate_left; exact (by first | (simp; done) | (simp; omega) | omega)) | ((with_reducible refine Below.trans ?_ (HW1.out.mono ?_)); rotate_left; exact (by first | (simp; done) | (simp; omega) | omega))))⟩
            · have HS := Lib.hid (show sameB b bb = false by unfold sameB; simpa using hs)
              have g8 : ((n1 : Int) + (n2 : Int) == 0) = true := by rw [beq_iff_eq]; have := HG.out.2.resolve_left (fun e => hs e.symm); omega
              clear hs
              go_wp2_with fail
              refine (bridge_Same b bb _ _ _ _ _ _ _ (lines_now HL.out (by (repeat (first | (with_reducible exact Below.refl _ _) | (with_reducible refine Below.drew ?_) | (with_reducible refine bdrewN ?_ _) | ((with_reducible refine Below.setCell ?_ ?_ _); rotate_left; exact (by first | (simp; done) | (simp; omega) | omega)) | ((with_reducible refine Below.alloc ?_ ?_ _); rotate_left; exact (by first | (simp; done) | (simp; omega) | omega)) | ((with_reducible refine Below.trans ?_ (HW1.out.mono ?_)); rotate_left; exact (by first | (simp; done) | (simp; omega) | omega)))))) (lines_now HL1.out (by (repeat (first | (with_reducible exact Below.refl _ _) | (with_reducible refine Below.drew ?_) | (with_reducible refine bdrewN ?_ _) | ((with_reducible refine Below.setCell ?_ ?_ _); rotate_left; exact (by first | (simp; done) | (simp; omega) | omega)) | ((with_reducible refine Below.alloc ?_ ?_ _); rotate_left; exact (by first | (simp; done) | (simp; omega) | omega)) | ((with_reducible refine Below.trans ?_ (HW2.out.mono ?_)); rotate_left; exact (by first | (simp; done) | (simp; omega) | omega))))))).mono ?_
              rw [HS.out]
              rintro e w7 ⟨rfl, hb7⟩
              have hz7 := hb7.size
              (try simp only [World.size_alloc, World.size_setCell, World.size_drew] at hz7)
              have HB7 := Lib.hid hb7
              clear hb7
              go_wp2
              go_ret
              exact ⟨rfl, by (repeat (first | (with_reducible exact Below.refl _ _) | (with_reducible refine Below.drew ?_) | (with_reducible refine bdrewN ?_ _) | ((with_reducible refine Below.setCell ?_ ?_ _); rotate_left; exact (by first | (simp; done) | (simp; omega) | omega)) | ((with_reducible refine Below.alloc ?_ ?_ _); rotate_left; exact (by first | (simp; done) | (simp; omega) | omega)) | ((with_reducible refine Below.trans ?_ (HB7.out.mono ?_)); rotate_left; exact (by first | (simp; done) | (simp; omega) | omega)) | ((with_reducible refine Below.trans ?_ (HW1.out.mono ?_)); rotate_left; exact (by first | (simp; done) | (simp; omega) | omega))))⟩
          · have hno := HK.out.no rfl
            have HS := Lib.hid (show sameB b bb = true by unfold sameB; simpa using hno.2.2.2.symm)
            have g8 : ((n1 : Int) + (n2 : Int) == 0) = true := by rw [beq_iff_eq]; have := HG.out.1 rfl; omega
            have g9 : (ga == h.at_) = true := by rw [beq_iff_eq]; exact hno.2.2.1
            clear hno
            go_wp2_with fail
            refine (bridge_Same b bb _ _ _ _ _ _ _ (lines_now HL.out (by (repeat (first | (with_reducible exact Below.refl _ _) | (with_reducible refine Below.drew ?_) | (with_reducible refine bdrewN ?_ _) | ((with_reducible refine Below.setCell ?_ ?_ _); rotate_left; exact (by first | (simp; done) | (simp; omega) | omega)) | ((with_reducible refine Below.alloc ?_ ?_ _); rotate_left; exact (by first | (simp; done) | (simp; omega) | omega)) | ((with_reducible refine Below.trans ?_ (HW1.out.mono ?_)); rotate_left; exact (by first | (simp; done) | (simp; omega) | omega)))))) (lines_now HL1.out (by (repeat (first | (with_reducible exact Below.refl _ _) | (with_reducible refine Below.drew ?_) | (with_reducible refine bdrewN ?_ _) | ((with_reducible refine Below.setCell ?_ ?_ _); rotate_left; exact (by first | (simp; done) | (simp; omega) | omega)) | ((with_reducible refine Below.alloc ?_ ?_ _); rotate_left; exact (by first | (simp; done) | (simp; omega) | omega)) | ((with_reducible refine Below.trans ?_ (HW2.out.mono ?_)); rotate_left; exact (by first | (simp; done) | (simp; omega) | omega))))))).mono ?_
            rw [HS.out]
            rintro e w7 ⟨rfl, hb7⟩
            have hz7 := hb7.size
            (try simp only [World.size_alloc, World.size_setCell, World.size_drew] at hz7)
            have HB7 := Lib.hid hb7
            clear hb7
            go_wp2
            go_ret
            exact ⟨rfl, by (repeat (first | (with_reducible exact Below.refl _ _) | (with_reducible refine Below.drew ?_) | (with_reducible refine bdrewN ?_ _) | ((with_reducible refine Below.setCell ?_ ?_ _); rotate_left; exact (by first | (simp; done) | (simp; omega) | omega)) | ((with_reducible refine Below.alloc ?_ ?_ _); rotate_left; exact (by first | (simp; done) | (simp; omega) | omega)) | ((with_reducible refine Below.trans ?_ (HB7.out.mono ?_)); rotate_left; exact (by first | (simp; done) | (simp; omega) | omega)) | ((with_reducible refine Below.trans ?_ (HW1.out.mono ?_)); rotate_left; exact (by first | (simp; done) | (simp; omega) | omega))))⟩
include hm hr hl in
theorem law_HartKeeps : Calls Try.prog 13 #[.agg #[.slice M nm mc], .agg #[.int .i64 h.at_, .slice R nr rc, .bool h.done], .agg #[.int .i64 b.mode, .int .i64 b.base, .slice L n c, .int .i64 b.orders.page, .int .i64 b.orders.head, .int .i64 b.orders.tail, .bool b.stopped, .int .i64 b.fences, .int .i64 b.faults.page, .int .i64 b.faults.head, .int .i64 b.faults.tail, .bool b.lost]] w fun e w' => e = .returned (.bool true) ∧ Below w.heap.size w w' := by
  by_cases hE : stepE xs h b = 0
  · have hk := step_keeps hE
    cases hr' : stepM xs h b with | mk ys r =>
    obtain ⟨⟨ga, rs, dn⟩, bb⟩ := r
    rw [hr'] at hk
    exact keeps_yes xs h b M R L nm mc nr rc n c w hm hr hl hE ys ga rs dn bb hr' hk
  · exact keeps_no xs h b M R L nm mc nr rc n c w hm hr hl hE
end
end Go.Proofs.Ytbopdijnojaaiab
