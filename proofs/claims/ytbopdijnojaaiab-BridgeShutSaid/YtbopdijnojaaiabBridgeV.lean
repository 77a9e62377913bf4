/- The bridge: the walks of the program's Through, Plain and Same. No statement of the seat is proved here. -/
import Derived.Test.YtbopdijnojaaiabBridgeU
import Derived.Test.YtbopdijnojaaiabLinesEq
namespace Go.Proofs.Ytbopdijnojaaiab
open Go.RowKit
set_option linter.unusedSimpArgs false
set_option linter.unusedVariables false
attribute [local go_sem ↓] Go.wp_at_zero Go.wp_at_succ

theorem lines_off {w : World} {B n c : Nat} {A : Option Addr} {ls : List Line} (h : Lines w B A n c ls) {p : Addr} (hp : ∀ ad, A = some ad → ad.block ≠ p.block) (u : Value) : Lines (w.setCell p u) B A n c ls := by
  obtain ⟨h1, h2, h3, h4, h5⟩ := h
  refine ⟨h1, h2, h3, h4, fun h0 => ?_⟩
  obtain ⟨b, off, e, hb, hc⟩ := h5 h0
  exact ⟨b, off, e, hb, fun j v hv => (World.cell?_setCell_other _ _ _ _ (fun e' => hp _ e (by have := congrArg Addr.block e'; simpa using this.symm))).trans (hc j v hv)⟩
/-- through, whatever is asked. -/
theorem through_any (xs : List Int) (m : Option Addr) (cm' : Nat) (b : Brg) (A : Option Addr) (n c g : Nat) (d p : Int) (wr : Bool) (w : World) (hb : BrgAt w g b A n c) (hfz : ∀ o, w.frozen? ⟨g, o, none⟩ = false) (hl : Lines w w.heap.size A n c b.cache) (hx : Ints w w.heap.size m 512 xs) (h0 : cm xs = 0) (hck : ckB b = 0) (hin : inD d p) :
    Calls Try.prog 97 #[.agg #[.slice m 512 cm'], .pointer (some ⟨g, 0, none⟩), .int .i64 d, .int .i64 p, .bool wr] w (ThruC g A w (thruM xs b d p wr)) := by
  obtain ⟨hr, hc, _, _⟩ := (ckB_iff b).1 hck
  have hbase : 0 ≤ b.base ∧ b.base < 64 := hr.2.1
  by_cases hm0 : b.mode = 0
  · rw [show thruM xs b d p wr = (b, 0, 1) by unfold thruM; rw [if_pos hm0]]
    exact through_shut xs m cm' b A n c g d p wr w hb hl hm0
  · by_cases hm1 : b.mode = 1
    · rw [show thruM xs b d p wr = (b, p, 0) by unfold thruM; rw [if_neg hm0, if_pos hm1]]
      exact through_bare xs m cm' b A n c g d p wr w hb hl hm1
    · have hm2 : b.mode = 2 := by have := hr.1; omega
      cases hf : b.cache.find? (hitL d p) with
      | some x =>
        obtain ⟨k, e, hk⟩ := find_some hf
        by_cases hx5 : wr = true ∧ x.wr = false
        · rw [show thruM xs b d p wr = (b, 0, 5) by unfold thruM; rw [if_neg hm0, if_neg hm1, hf]; simp [hx5.1, hx5.2]]
          exact through_found0 xs m cm' b A n c g d p wr w hb hl hm2 k x e hk hx5.1 hx5.2
        · have ex : thruM xs b d p wr = (b, x.at_, 0) := by
            unfold thruM; rw [if_neg hm0, if_neg hm1, hf]
            cases wr <;> cases hxw : x.wr <;> simp_all
          rw [ex]
          cases wr with
          | false => exact through_found1 xs m cm' b A n c g d p false w hb hl hm2 k x e hk rfl
          | true => exact through_found2 xs m cm' b A n c g d p true w hb hl hm2 k x e hk rfl (by cases h : x.wr <;> simp_all)
      | none =>
        have e := find_find hf
        have et : thruM xs b d p wr = ((if (freshM xs b d p wr).2.1 then { b with cache := fillL b.cache (freshM xs b d p wr).1 } else b), (freshM xs b d p wr).1.at_, (freshM xs b d p wr).2.2) := by
          unfold thruM; rw [if_neg hm0, if_neg hm1, hf]
        rw [et]
        have hline := fresh_line (xs := xs) (b := b) (wr := wr) hin
        cases hq : freshM xs b d p wr with
        | mk x r =>
          obtain ⟨kp, f⟩ := r
          obtain ⟨x1, x2, x3, x4, x5⟩ := x
          cases kp with
          | false => exact through_not xs m cm' b A n c g d p wr w hb hl hx h0 hbase hin hm2 e x1 x2 x3 x4 x5 f hq
          | true =>
            rw [hq] at hline
            obtain ⟨q1, q2, q3, q4⟩ := hline rfl
            simp only [] at q2 q3 q4
            subst q2 q3 q4
            exact through_keep xs m cm' b A n c g x1 x2 wr w hb hfz hl hx h0 hbase hin hm2 e x1 x2 x3 x4 x5 hq (fillE_0 hc q1 (by rw [e]; decide))

theorem through_at (xs : List Int) (m : Option Addr) (cm' : Nat) (b : Brg) (A : Option Addr) (n c g : Nat) (d p : Int) (wr : Bool) (rb : Brg) (ra rf : Int) (w : World) (hb : BrgAt w g b A n c) (hfz : ∀ o, w.frozen? ⟨g, o, none⟩ = false) (hl : Lines w w.heap.size A n c b.cache) (hx : Ints w w.heap.size m 512 xs) (h0 : cm xs = 0) (hck : ckB b = 0) (hin : inD d p) (hr : thruM xs b d p wr = (rb, ra, rf)) :
    Calls Try.prog 97 #[.agg #[.slice m 512 cm'], .pointer (some ⟨g, 0, none⟩), .int .i64 d, .int .i64 p, .bool wr] w fun e w' => ∃ A' n c, e = .returned (.tuple #[.int .i64 ra, .int .i64 rf]) ∧ BrgAt w' g rb A' n c ∧ Lines w' w'.heap.size A' n c rb.cache ∧ Only g w w' ∧ NewIn w A A' := by
  have := through_any xs m cm' b A n c g d p wr w hb hfz hl hx h0 hck hin
  rw [hr] at this
  exact this
/-- what Through answers. -/
def ThroughC (w : World) (r : Brg × Int × Int) (E : Int) (e : Ending) (w' : World) : Prop :=
  ∃ A n c, e = .returned (.tuple #[.agg #[.int .i64 r.1.mode, .int .i64 r.1.base, .slice A n c, .int .i64 r.1.orders.page, .int .i64 r.1.orders.head, .int .i64 r.1.orders.tail, .bool r.1.stopped, .int .i64 r.1.fences, .int .i64 r.1.faults.page, .int .i64 r.1.faults.head, .int .i64 r.1.faults.tail, .bool r.1.lost], .int .i64 r.2.1, .int .i64 r.2.2, .int .i64 E]) ∧ Lines w' w'.heap.size A n c r.1.cache ∧ Below w.heap.size w w' ∧ ∀ ad, A = some ad → w.heap.size ≤ ad.block

set_option maxRecDepth 100000 in
set_option maxHeartbeats 4000000 in
theorem Through_no1 (xs : List Int) (m : Option Addr) (nm cm' : Nat) (b : Brg) (A : Option Addr) (n c : Nat) (d p : Int) (wr : Bool) (w : World) (hx : Ints w w.heap.size m nm xs) (hl : Lines w w.heap.size A n c b.cache) (hE : allE xs b ≠ 0) :
    Calls Try.prog 52 #[.agg #[.slice m nm cm'], .agg #[.int .i64 b.mode, .int .i64 b.base, .slice A n c, .int .i64 b.orders.page, .int .i64 b.orders.head, .int .i64 b.orders.tail, .bool b.stopped, .int .i64 b.fences, .int .i64 b.faults.page, .int .i64 b.faults.head, .int .i64 b.faults.tail, .bool b.lost], .int .i64 d, .int .i64 p, .bool wr] w (ThroughC w (.no, 0, 0) (allE xs b)) := by
  have HX := Lib.hid hx
  have HL := Lib.hid hl
  have t0 : (allE xs b == 0) = false := beq_eq_false_iff_ne.2 hE
  have t1 : (allE xs b != 0) = true := by rw [bne_iff_ne]; exact hE
  clear hx hl hE
  go_enter Try.func52, Try.ntmps52
  go_wp2_with fail
  refine (bridge_all xs _ _ _ b _ _ _ _ (ints_now HX.out (by (repeat (first | (with_reducible exact Below.refl _ _) | (with_reducible refine Below.drew ?_) | (with_reducible refine bdrewN ?_ _) | ((with_reducible refine Below.setCell ?_ ?_ _); rotate_left; exact (by first | (simp; done) | (simp; omega) | omega)) | ((with_reducible refine Below.alloc ?_ ?_ _); rotate_left; exact (by first | (simp; done) | (simp; omega) | omega)))))) (lines_now HL.out (by (repeat (first | (with_reducible exact Below.refl _ _) | (with_reducible refine Below.drew ?_) | (with_reducible refine bdrewN ?_ _) | ((with_reducible refine Below.setCell ?_ ?_ _); rotate_left; exact (by first | (simp; done) | (simp; omega) | omega)) | ((with_reducible refine Below.alloc ?_ ?_ _); rotate_left; exact (by first | (simp; done) | (simp; omega) | omega))))))).mono ?_
  rintro e w1 ⟨rfl, hb1⟩
  have hz1 := hb1.size
  (try simp only [World.size_alloc, World.size_setCell, World.size_drew] at hz1)
  have k1_0 := fun o => (bcell hb1).1 (w.heap.size) o (by first | (simp; done) | (simp; omega) | omega)
  have l1_0 : (w.heap.size) < w1.heap.size := (by omega)
  have q1_0 := fun o => (bcell hb1).2 (w.heap.size) o (by first | (simp; done) | (simp; omega) | omega)
  have k1_1 := fun o => (bcell hb1).1 (w.heap.size + 1) o (by first | (simp; done) | (simp; omega) | omega)
  have l1_1 : (w.heap.size + 1) < w1.heap.size := (by omega)
  have q1_1 := fun o => (bcell hb1).2 (w.heap.size + 1) o (by first | (simp; done) | (simp; omega) | omega)
  have k1_2 := fun o => (bcell hb1).1 (w.heap.size + 1 + 1) o (by first | (simp; done) | (simp; omega) | omega)
  have l1_2 : (w.heap.size + 1 + 1) < w1.heap.size := (by omega)
  have q1_2 := fun o => (bcell hb1).2 (w.heap.size + 1 + 1) o (by first | (simp; done) | (simp; omega) | omega)
  simp (maxDischargeDepth := 6) [go_sem, *] at k1_0 q1_0 k1_1 q1_1 k1_2 q1_2
  have HB1 := Lib.hid hb1
  clear hb1
  go_wp2
  refine bodyPost_ret (v := .tuple #[.agg #[.int .i64 Brg.no.mode, .int .i64 Brg.no.base, .slice none 0 0, .int .i64 Brg.no.orders.page, .int .i64 Brg.no.orders.head, .int .i64 Brg.no.orders.tail, .bool Brg.no.stopped, .int .i64 Brg.no.fences, .int .i64 Brg.no.faults.page, .int .i64 Brg.no.faults.head, .int .i64 Brg.no.faults.tail, .bool Brg.no.lost], .int .i64 0, .int .i64 0, .int .i64 (allE xs b)]) ?_ rfl ⟨none, 0, 0, rfl, lines_none _ _, ?_, fun _ h => by cases h⟩
  · simp (maxDischargeDepth := 8) [results, Try.results52, go_sem, Brg.no, Ring.no, *]
  · (repeat (first | (with_reducible exact Below.refl _ _) | (with_reducible refine Below.drew ?_) | (with_reducible refine bdrewN ?_ _) | ((with_reducible refine Below.setCell ?_ ?_ _); rotate_left; exact (by first | (simp; done) | (simp; omega) | omega)) | ((with_reducible refine Below.alloc ?_ ?_ _); rotate_left; exact (by first | (simp; done) | (simp; omega) | omega)) | ((with_reducible refine Below.trans ?_ (HB1.out.mono ?_)); rotate_left; exact (by first | (simp; done) | (simp; omega) | omega))))

set_option maxRecDepth 100000 in
set_option maxHeartbeats 4000000 in
theorem Through_no2 (xs : List Int) (m : Option Addr) (nm cm' : Nat) (b : Brg) (A : Option Addr) (n c : Nat) (d p : Int) (wr : Bool) (w : World) (hx : Ints w w.heap.size m nm xs) (hl : Lines w w.heap.size A n c b.cache) (hE : allE xs b = 0) (hin : ¬ inD d p) :
    Calls Try.prog 52 #[.agg #[.slice m nm cm'], .agg #[.int .i64 b.mode, .int .i64 b.base, .slice A n c, .int .i64 b.orders.page, .int .i64 b.orders.head, .int .i64 b.orders.tail, .bool b.stopped, .int .i64 b.fences, .int .i64 b.faults.page, .int .i64 b.faults.head, .int .i64 b.faults.tail, .bool b.lost], .int .i64 d, .int .i64 p, .bool wr] w (ThroughC w (.no, 0, 0) 4) := by
  have HX := Lib.hid hx
  have HL := Lib.hid hl
  have HE := Lib.hid hE
  have HA := Lib.hid (show askE d p = 4 by unfold askE; rw [if_neg hin])
  clear hx hl hE hin
  go_enter Try.func52, Try.ntmps52
  go_wp2_with fail
  refine (bridge_all xs _ _ _ b _ _ _ _ (ints_now HX.out (by (repeat (first | (with_reducible exact Below.refl _ _) | (with_reducible refine Below.drew ?_) | (with_reducible refine bdrewN ?_ _) | ((with_reducible refine Below.setCell ?_ ?_ _); rotate_left; exact (by first | (simp; done) | (simp; omega) | omega)) | ((with_reducible refine Below.alloc ?_ ?_ _); rotate_left; exact (by first | (simp; done) | (simp; omega) | omega)))))) (lines_now HL.out (by (repeat (first | (with_reducible exact Below.refl _ _) | (with_reducible refine Below.drew ?_) | (with_reducible refine bdrewN ?_ _) | ((with_reducible refine Below.setCell ?_ ?_ _); rotate_left; exact (by first | (simp; done) | (simp; omega) | omega)) | ((with_reducible refine Below.alloc ?_ ?_ _); rotate_left; exact (by first | (simp; done) | (simp; omega) | omega))))))).mono ?_
  rw [HE.out]
  rintro e w1 ⟨rfl, hb1⟩
  have hz1 := hb1.size
  (try simp only [World.size_alloc, World.size_setCell, World.size_drew] at hz1)
  have k1_0 := fun o => (bcell hb1).1 (w.heap.size) o (by first | (simp; done) | (simp; omega) | omega)
  have l1_0 : (w.heap.size) < w1.heap.size := (by omega)
  have q1_0 := fun o => (bcell hb1).2 (w.heap.size) o (by first | (simp; done) | (simp; omega) | omega)
  have k1_1 := fun o => (bcell hb1).1 (w.heap.size + 1) o (by first | (simp; done) | (simp; omega) | omega)
  have l1_1 : (w.heap.size + 1) < w1.heap.size := (by omega)
  have q1_1 := fun o => (bcell hb1).2 (w.heap.size + 1) o (by first | (simp; done) | (simp; omega) | omega)
  have k1_2 := fun o => (bcell hb1).1 (w.heap.size + 1 + 1) o (by first | (simp; done) | (simp; omega) | omega)
  have l1_2 : (w.heap.size + 1 + 1) < w1.heap.size := (by omega)
  have q1_2 := fun o => (bcell hb1).2 (w.heap.size + 1 + 1) o (by first | (simp; done) | (simp; omega) | omega)
  simp (maxDischargeDepth := 6) [go_sem, *] at k1_0 q1_0 k1_1 q1_1 k1_2 q1_2
  have HB1 := Lib.hid hb1
  clear hb1
  go_wp2_with fail
  refine (bridge_asked _ _ _).mono ?_
  rw [HA.out]
  rintro e w' ⟨rfl, rfl⟩
  go_wp2
  refine bodyPost_ret (v := .tuple #[.agg #[.int .i64 Brg.no.mode, .int .i64 Brg.no.base, .slice none 0 0, .int .i64 Brg.no.orders.page, .int .i64 Brg.no.orders.head, .int .i64 Brg.no.orders.tail, .bool Brg.no.stopped, .int .i64 Brg.no.fences, .int .i64 Brg.no.faults.page, .int .i64 Brg.no.faults.head, .int .i64 Brg.no.faults.tail, .bool Brg.no.lost], .int .i64 0, .int .i64 0, .int .i64 4]) ?_ rfl ⟨none, 0, 0, rfl, lines_none _ _, ?_, fun _ h => by cases h⟩
  · simp (maxDischargeDepth := 8) [results, Try.results52, go_sem, Brg.no, Ring.no, *]
  · (repeat (first | (with_reducible exact Below.refl _ _) | (with_reducible refine Below.drew ?_) | (with_reducible refine bdrewN ?_ _) | ((with_reducible refine Below.setCell ?_ ?_ _); rotate_left; exact (by first | (simp; done) | (simp; omega) | omega)) | ((with_reducible refine Below.alloc ?_ ?_ _); rotate_left; exact (by first | (simp; done) | (simp; omega) | omega)) | ((with_reducible refine Below.trans ?_ (HB1.out.mono ?_)); rotate_left; exact (by first | (simp; done) | (simp; omega) | omega))))

set_option maxRecDepth 100000 in
set_option maxHeartbeats 4000000 in
theorem Through_ok (xs : List Int) (m : Option Addr) (cm' : Nat) (b : Brg) (A : Option Addr) (n c : Nat) (d p : Int) (wr : Bool) (w : World) (hx : Ints w w.heap.size m 512 xs) (hl : Lines w w.heap.size A n c b.cache) (h0 : cm xs = 0) (hb : ckB b = 0) (hin : inD d p) (rb : Brg) (ra rf : Int) (hr : thruM xs b d p wr = (rb, ra, rf)) :
    Calls Try.prog 52 #[.agg #[.slice m 512 cm'], .agg #[.int .i64 b.mode, .int .i64 b.base, .slice A n c, .int .i64 b.orders.page, .int .i64 b.orders.head, .int .i64 b.orders.tail, .bool b.stopped, .int .i64 b.fences, .int .i64 b.faults.page, .int .i64 b.faults.head, .int .i64 b.faults.tail, .bool b.lost], .int .i64 d, .int .i64 p, .bool wr] w (ThroughC w (rb, ra, rf) 0) := by
  have HT := Lib.hid hr
  have HX := Lib.hid hx
  have HL := Lib.hid hl
  have HE := Lib.hid (show allE xs b = 0 by unfold allE; rw [if_pos h0]; exact hb)
  have HA := Lib.hid (show askE d p = 0 by unfold askE; rw [if_pos hin])
  have H0 := Lib.hid h0
  have HCK := Lib.hid hb
  have HIN := Lib.hid hin
  have hn6 : n ≤ 1000 := by
    have := ((ckC_iff b.cache).1 ((ckB_iff b).1 hb).2.1).1
    have := hl.len
    omega
  clear hx hl h0 hb hin hr
  go_enter Try.func52, Try.ntmps52
  go_wp2_with fail
  refine (bridge_all xs _ _ _ b _ _ _ _ (ints_now HX.out (by (repeat (first | (with_reducible exact Below.refl _ _) | (with_reducible refine Below.drew ?_) | (with_reducible refine bdrewN ?_ _) | ((with_reducible refine Below.setCell ?_ ?_ _); rotate_left; exact (by first | (simp; done) | (simp; omega) | omega)) | ((with_reducible refine Below.alloc ?_ ?_ _); rotate_left; exact (by first | (simp; done) | (simp; omega) | omega)))))) (lines_now HL.out (by (repeat (first | (with_reducible exact Below.refl _ _) | (with_reducible refine Below.drew ?_) | (with_reducible refine bdrewN ?_ _) | ((with_reducible refine Below.setCell ?_ ?_ _); rotate_left; exact (by first | (simp; done) | (simp; omega) | omega)) | ((with_reducible refine Below.alloc ?_ ?_ _); rotate_left; exact (by first | (simp; done) | (simp; omega) | omega))))))).mono ?_
  rw [HE.out]
  rintro e w1 ⟨rfl, hb1⟩
  have hz1 := hb1.size
  (try simp only [World.size_alloc, World.size_setCell, World.size_drew] at hz1)
  have k1_0 := fun o => (bcell hb1).1 (w.heap.size) o (by first | (simp; done) | (simp; omega) | omega)
  have l1_0 : (w.heap.size) < w1.heap.size := (by omega)
  have q1_0 := fun o => (bcell hb1).2 (w.heap.size) o (by first | (simp; done) | (simp; omega) | omega)
  have k1_1 := fun o => (bcell hb1).1 (w.heap.size + 1) o (by first | (simp; done) | (simp; omega) | omega)
  have l1_1 : (w.heap.size + 1) < w1.heap.size := (by omega)
  have q1_1 := fun o => (bcell hb1).2 (w.heap.size + 1) o (by first | (simp; done) | (simp; omega) | omega)
  have k1_2 := fun o => (bcell hb1).1 (w.heap.size + 1 + 1) o (by first | (simp; done) | (simp; omega) | omega)
  have l1_2 : (w.heap.size + 1 + 1) < w1.heap.size := (by omega)
  have q1_2 := fun o => (bcell hb1).2 (w.heap.size + 1 + 1) o (by first | (simp; done) | (simp; omega) | omega)
  simp (maxDischargeDepth := 6) [go_sem, *] at k1_0 q1_0 k1_1 q1_1 k1_2 q1_2
  have HB1 := Lib.hid hb1
  clear hb1
  go_wp2_with fail
  refine (bridge_asked _ _ _).mono ?_
  rw [HA.out]
  rintro e w' ⟨rfl, rfl⟩
  go_wp2_with fail
  refine (bridge_Copy b _ _ _ _ (lines_now HL.out (by (repeat (first | (with_reducible exact Below.refl _ _) | (with_reducible refine Below.drew ?_) | (with_reducible refine bdrewN ?_ _) | ((with_reducible refine Below.setCell ?_ ?_ _); rotate_left; exact (by first | (simp; done) | (simp; omega) | omega)) | ((with_reducible refine Below.alloc ?_ ?_ _); rotate_left; exact (by first | (simp; done) | (simp; omega) | omega)) | ((with_reducible refine Below.trans ?_ (HB1.out.mono ?_)); rotate_left; exact (by first | (simp; done) | (simp; omega) | omega)))))) hn6).mono ?_
  rintro e w2 ⟨A2, c2, rfl, ho2, hb2⟩
  have HO2 := Lib.hid ho2
  clear ho2
  have hz2 := hb2.size
  (try simp only [World.size_alloc, World.size_setCell, World.size_drew] at hz2)
  have k2_0 := fun o => (bcell hb2).1 (w.heap.size) o (by first | (simp; done) | (simp; omega) | omega)
  have l2_0 : (w.heap.size) < w2.heap.size := (by omega)
  have q2_0 := fun o => (bcell hb2).2 (w.heap.size) o (by first | (simp; done) | (simp; omega) | omega)
  have k2_1 := fun o => (bcell hb2).1 (w.heap.size + 1) o (by first | (simp; done) | (simp; omega) | omega)
  have l2_1 : (w.heap.size + 1) < w2.heap.size := (by omega)
  have q2_1 := fun o => (bcell hb2).2 (w.heap.size + 1) o (by first | (simp; done) | (simp; omega) | omega)
  have k2_2 := fun o => (bcell hb2).1 (w.heap.size + 1 + 1) o (by first | (simp; done) | (simp; omega) | omega)
  have l2_2 : (w.heap.size + 1 + 1) < w2.heap.size := (by omega)
  have q2_2 := fun o => (bcell hb2).2 (w.heap.size + 1 + 1) o (by first | (simp; done) | (simp; omega) | omega)
  simp (maxDischargeDepth := 6) [go_sem, *] at k2_0 q2_0 k2_1 q2_1 k2_2 q2_2
  have HB2 := Lib.hid hb2
  clear hb2
  go_wp2_with fail
  refine (through_at xs _ _ b A2 n c2 (w.heap.size + 1) _ _ _ rb ra rf _ ?_ ?_ ?_ ?_ H0.out HCK.out HIN.out HT.out).mono ?_
  · unfold BrgAt
    simp (maxDischargeDepth := 8) [go_sem, *]
  · intro o
    simp (maxDischargeDepth := 8) [go_sem, *]
  · refine OwnL.lines (B := w1.heap.size) ?_
    (repeat (first | (with_reducible exact HO2.out) | (with_reducible refine OwnL.set ?_ (by first | (simp; done) | (simp; omega)) _)))
  · refine ints_now HX.out ?_
    (repeat (first | (with_reducible exact Below.refl _ _) | (with_reducible refine Below.drew ?_) | (with_reducible refine bdrewN ?_ _) | ((with_reducible refine Below.setCell ?_ ?_ _); rotate_left; exact (by first | (simp; done) | (simp; omega) | omega)) | ((with_reducible refine Below.alloc ?_ ?_ _); rotate_left; exact (by first | (simp; done) | (simp; omega) | omega)) | ((with_reducible refine Below.trans ?_ (HB2.out.mono ?_)); rotate_left; exact (by first | (simp; done) | (simp; omega) | omega)) | ((with_reducible refine Below.trans ?_ (HB1.out.mono ?_)); rotate_left; exact (by first | (simp; done) | (simp; omega) | omega))))
  rintro e w3 ⟨A3, n3, c3, rfl, hb3, hl3, ho3, hnw3⟩
  have HNW := Lib.hid (show ∀ ad, A3 = some ad → w.heap.size + 1 + 1 < ad.block from fun ad h => by
    rcases hnw3 ad h with h | h
    · have := own_ge HO2.out.2.2.2 _ (by rw [h]; rfl); omega
    · simp only [World.size_setCell] at h; omega)
  have HBW := Lib.hid ((by (repeat (first | (with_reducible exact Below.refl _ _) | (with_reducible refine Below.drew ?_) | (with_reducible refine bdrewN ?_ _) | ((with_reducible refine Below.setCell ?_ ?_ _); rotate_left; exact (by first | (simp; done) | (simp; omega) | omega)) | ((with_reducible refine Below.alloc ?_ ?_ _); rotate_left; exact (by first | (simp; done) | (simp; omega) | omega)) | ((with_reducible refine Below.trans ?_ (HB2.out.mono ?_)); rotate_left; exact (by first | (simp; done) | (simp; omega) | omega)) | ((with_reducible refine Below.trans ?_ (HB1.out.mono ?_)); rotate_left; exact (by first | (simp; done) | (simp; omega) | omega)))) : Below w.heap.size w _).trans (ho3.1.mono (by omega)))
  have hz3 := ho3.2.1
  simp only [World.size_setCell] at hz3
  have kr := fun o => ho3.2.2.1 (w.heap.size + 1 + 1) o (by omega) (by simp; omega)
  have qr := fun o => ho3.2.2.2 (w.heap.size + 1 + 1) o (by simp; omega)
  simp (maxDischargeDepth := 8) [go_sem, *] at kr qr
  have lr : w.heap.size + 1 + 1 < w3.heap.size := by omega
  obtain ⟨g0, g1, g2, g3, g4, g5, g6, g7, g8, g9, g10, g11⟩ := hb3
  have HL3 := Lib.hid hl3
  clear ho3 hl3 hnw3
  go_wp2
  refine bodyPost_ret (v := .tuple #[.agg #[.int .i64 rb.mode, .int .i64 rb.base, .slice A3 n3 c3, .int .i64 rb.orders.page, .int .i64 rb.orders.head, .int .i64 rb.orders.tail, .bool rb.stopped, .int .i64 rb.fences, .int .i64 rb.faults.page, .int .i64 rb.faults.head, .int .i64 rb.faults.tail, .bool rb.lost], .int .i64 ra, .int .i64 rf, .int .i64 0]) ?_ rfl ⟨A3, n3, c3, rfl, ?_, ?_, fun ad h => by have := HNW.out ad h; omega⟩
  · simp (maxDischargeDepth := 8) [results, Try.results52, go_sem, *]
  · have hq : ∀ ad, A3 = some ad → ad.block ≠ w.heap.size + 1 + 1 := fun ad h => Nat.ne_of_gt (HNW.out ad h)
    refine Lines.more (B := w3.heap.size) ?_ (by simp)
    repeat (first | (with_reducible exact HL3.out) | ((with_reducible refine lines_off ?_ ?_ _); rotate_left; exact hq))
  · (repeat (first | (with_reducible exact Below.refl _ _) | (with_reducible refine Below.drew ?_) | (with_reducible refine bdrewN ?_ _) | ((with_reducible refine Below.setCell ?_ ?_ _); rotate_left; exact (by first | (simp; done) | (simp; omega) | omega)) | ((with_reducible refine Below.alloc ?_ ?_ _); rotate_left; exact (by first | (simp; done) | (simp; omega) | omega))))
    exact HBW.out

theorem bridge_Through (xs : List Int) (m : Option Addr) (nm cm' : Nat) (b : Brg) (A : Option Addr) (n c : Nat) (d p : Int) (wr : Bool) (w : World) (hx : Ints w w.heap.size m nm xs) (hl : Lines w w.heap.size A n c b.cache) :
    Calls Try.prog 52 #[.agg #[.slice m nm cm'], .agg #[.int .i64 b.mode, .int .i64 b.base, .slice A n c, .int .i64 b.orders.page, .int .i64 b.orders.head, .int .i64 b.orders.tail, .bool b.stopped, .int .i64 b.fences, .int .i64 b.faults.page, .int .i64 b.faults.head, .int .i64 b.faults.tail, .bool b.lost], .int .i64 d, .int .i64 p, .bool wr] w (ThroughC w (thruA xs b d p wr) (thruE xs b d p)) := by
  by_cases hE : allE xs b = 0
  · by_cases hin : inD d p
    · obtain ⟨h0, hb⟩ := allE_inv hE
      have hn : nm = 512 := by rw [← hx.len]; exact (cm_inv h0).1
      subst hn
      have e : thruE xs b d p = 0 := by unfold thruE; rw [if_pos hE, if_pos hin]
      rw [e, show thruA xs b d p wr = thruM xs b d p wr by unfold thruA; rw [if_pos e]]
      exact Through_ok xs m cm' b A n c d p wr w hx hl h0 hb hin _ _ _ rfl
    · have e : thruE xs b d p = 4 := by unfold thruE; rw [if_pos hE, if_neg hin]
      rw [e, show thruA xs b d p wr = (.no, 0, 0) by unfold thruA; rw [if_neg (by rw [e]; decide)]]
      exact Through_no2 xs m nm cm' b A n c d p wr w hx hl hE hin
  · have e : thruE xs b d p = allE xs b := by unfold thruE; rw [if_neg hE]
    rw [e, show thruA xs b d p wr = (.no, 0, 0) by unfold thruA; rw [if_neg (by rw [e]; exact hE)]]
    exact Through_no1 xs m nm cm' b A n c d p wr w hx hl hE
end Go.Proofs.Ytbopdijnojaaiab
