/- The walk of the law BridgeOrders: orders are obeyed one by one. -/
import Derived.Test.YtbopdijnojaaiacObey
import Derived.Test.YtbopdijnojaaiacHas
import Derived.Test.YtbopdijnojaaiacCrossed
import Derived.Test.YtbopdijnojaaiacBridgeS
namespace Go.Proofs.Ytbopdijnojaaiac
open Go.RowKit
set_option linter.unusedSimpArgs false
set_option linter.unusedVariables false

theorem same_self_ (b : Brg) : sameB b b = true := by simp [sameB]
set_option maxRecDepth 100000 in
theorem Try.neqRing (p h t : Int) (w : World) : (binOp .neq 35 (.agg #[.int .i64 p, .int .i64 h, .int .i64 t]) (.agg #[.int .i64 p, .int .i64 h, .int .i64 t])).run Try.prog w = .ok (.bool false) w := by
  simp [go_sem]
set_option maxRecDepth 100000 in
theorem Try.neqRing_ (r s : Ring) (h : r = popR s) (w : World) : (binOp .neq 35 (.agg #[.int .i64 r.page, .int .i64 r.head, .int .i64 r.tail]) (.agg #[.int .i64 s.page, .int .i64 ((s.head + 1) % 8), .int .i64 s.tail])).run Try.prog w = .ok (.bool false) w := by
  subst h
  exact Try.neqRing _ _ _ w
def Brg.stp (b : Brg) : Brg := ⟨b.mode, b.base, b.cache, b.orders, true, b.fences, b.faults, b.lost⟩
/-- where the orders stand. -/
structure OrdI (w : World) (m : Option Addr) (mc : Nat) (k : Nat) (wr : World) (b : Brg) (L : Option Addr) (n c : Nat) : Prop where
  base : Below w.heap.size w wr
  mem : wr.cell? ⟨w.heap.size, 0, none⟩ = some (.slice m 512 mc)
  brg : BrgAt wr (w.heap.size + 1) b L n c
  lin : Lines wr wr.heap.size L n c b.cache
  frz : ∀ o, wr.frozen? ⟨w.heap.size + 1, o, none⟩ = false
  ck : ckB b = 0
  len : lenR b.orders + k ≤ 7
theorem OrdI.since {w wr w1 : World} {m : Option Addr} {mc k n c : Nat} {b : Brg} {L : Option Addr} (h : OrdI w m mc k wr b L n c) (hs : Since wr w1) : OrdI w m mc k w1 b L n c :=
  ⟨h.base.trans (Below.mono hs h.base.size), since_cell hs h.mem, brg_since h.brg hs, lines_snc h.lin hs, fun o => (Below.frozen (p := ⟨w.heap.size + 1, o, none⟩) hs (brg_lt h.brg)).trans (h.frz o), h.ck, h.len⟩
theorem late_why {xs : List Int} {b : Brg} (h : cm xs = 0) (h' : ckB b = 0) (hE : obeyE xs b ≠ 0) : obeyE xs b = 6 ∧ (b.stopped = true ∨ lenR b.orders = 0) := by
  rw [obeyE_0 h h'] at hE ⊢
  by_cases hs : b.stopped = true
  · rw [if_pos hs]; exact ⟨rfl, Or.inl hs⟩
  · rw [if_neg hs] at hE ⊢
    by_cases hl : lenR b.orders = 0
    · rw [if_pos hl]; exact ⟨rfl, Or.inr hl⟩
    · rw [if_neg hl] at hE; exact absurd rfl hE
set_option maxRecDepth 100000 in
set_option maxHeartbeats 2000000 in
theorem orders_c (xs : List Int) (m : Option Addr) (nm cm' : Nat) (b : Brg) (A : Option Addr) (n c : Nat) (w : World) (hx : Ints w w.heap.size m nm xs) (hcm : cm xs ≠ 0) :
    Calls Try.prog 8 #[.agg #[.slice m nm cm'], .agg #[.int .i64 b.mode, .int .i64 b.base, .slice A n c, .int .i64 b.orders.page, .int .i64 b.orders.head, .int .i64 b.orders.tail, .bool b.stopped, .int .i64 b.fences, .int .i64 b.faults.page, .int .i64 b.faults.head, .int .i64 b.faults.tail, .bool b.lost]] w fun e w' => e = .returned (.bool true) ∧ Below w.heap.size w w' := by
  have HX := Lib.hid hx
  have t1 : (cm xs != 0) = true := by rw [bne_iff_ne]; exact hcm
  clear hx hcm
  go_enter Try.func8, Try.ntmps8
  go_wp2_with fail
  refine (law_crossed _).mono ?_
  rintro e w1 ⟨rfl, hb1⟩
  have hz1 := hb1.size
  (try simp only [World.size_alloc, World.size_setCell, World.size_drew] at hz1)
  have k1_0 := fun o => (bcell hb1).1 (w.heap.size) o (by first | (simp; done) | (simp; omega) | omega)
  have l1_0 : (w.heap.size) < w1.heap.size := (by omega)
  have q1_0 := fun o => (bcell hb1).2 (w.heap.size) o (by first | (simp; done) | (simp; omega) | omega)
  simp (maxDischargeDepth := 6) [go_sem, *] at k1_0 q1_0
  have HB1 := Lib.hid hb1
  clear hb1
  go_wp2_with fail
  refine (mem_Check _ _ _ xs _ (ints_now HX.out (by (repeat (first | (with_reducible exact Below.refl _ _) | (with_reducible refine Below.drew ?_) | (with_reducible refine bdrewN ?_ _) | ((with_reducible refine Below.setCell ?_ ?_ _); rotate_left; exact (by first | (simp; done) | (simp; omega) | omega)) | ((with_reducible refine Below.alloc ?_ ?_ _); rotate_left; exact (by first | (simp; done) | (simp; omega) | omega)) | ((with_reducible refine Below.trans ?_ (HB1.out.mono ?_)); rotate_left; exact (by first | (simp; done) | (simp; omega) | omega))))))).mono ?_
  rintro e w2 ⟨rfl, hb2⟩
  have hz2 := hb2.size
  (try simp only [World.size_alloc, World.size_setCell, World.size_drew] at hz2)
  have HB2 := Lib.hid hb2
  clear hb2
  go_wp2_with fail
  refine (law_crossed _).mono ?_
  rintro e w3 ⟨rfl, hb3⟩
  have hz3 := hb3.size
  (try simp only [World.size_alloc, World.size_setCell, World.size_drew] at hz3)
  have HB3 := Lib.hid hb3
  clear hb3
  go_wp2
  go_ret
  exact ⟨rfl, by (repeat (first | (with_reducible exact Below.refl _ _) | (with_reducible refine Below.drew ?_) | (with_reducible refine bdrewN ?_ _) | ((with_reducible refine Below.setCell ?_ ?_ _); rotate_left; exact (by first | (simp; done) | (simp; omega) | omega)) | ((with_reducible refine Below.alloc ?_ ?_ _); rotate_left; exact (by first | (simp; done) | (simp; omega) | omega)) | ((with_reducible refine Below.trans ?_ (HB3.out.mono ?_)); rotate_left; exact (by first | (simp; done) | (simp; omega) | omega)) | ((with_reducible refine Below.trans ?_ (HB2.out.mono ?_)); rotate_left; exact (by first | (simp; done) | (simp; omega) | omega)) | ((with_reducible refine Below.trans ?_ (HB1.out.mono ?_)); rotate_left; exact (by first | (simp; done) | (simp; omega) | omega))))⟩
set_option maxRecDepth 100000 in
set_option maxHeartbeats 2000000 in
theorem orders_b (xs : List Int) (m : Option Addr) (nm cm' : Nat) (b : Brg) (A : Option Addr) (n c : Nat) (w : World) (hx : Ints w w.heap.size m nm xs) (hl : Lines w w.heap.size A n c b.cache) (hcm : cm xs = 0) (hb : ckB b ≠ 0) :
    Calls Try.prog 8 #[.agg #[.slice m nm cm'], .agg #[.int .i64 b.mode, .int .i64 b.base, .slice A n c, .int .i64 b.orders.page, .int .i64 b.orders.head, .int .i64 b.orders.tail, .bool b.stopped, .int .i64 b.fences, .int .i64 b.faults.page, .int .i64 b.faults.head, .int .i64 b.faults.tail, .bool b.lost]] w fun e w' => e = .returned (.bool true) ∧ Below w.heap.size w w' := by
  have HX := Lib.hid hx
  have HL := Lib.hid hl
  have HCM := Lib.hid hcm
  have t1 : (ckB b != 0) = true := by rw [bne_iff_ne]; exact hb
  clear hx hl hcm hb
  go_enter Try.func8, Try.ntmps8
  go_wp2_with fail
  refine (law_crossed _).mono ?_
  rintro e w1 ⟨rfl, hb1⟩
  have hz1 := hb1.size
  (try simp only [World.size_alloc, World.size_setCell, World.size_drew] at hz1)
  have k1_0 := fun o => (bcell hb1).1 (w.heap.size) o (by first | (simp; done) | (simp; omega) | omega)
  have l1_0 : (w.heap.size) < w1.heap.size := (by omega)
  have q1_0 := fun o => (bcell hb1).2 (w.heap.size) o (by first | (simp; done) | (simp; omega) | omega)
  have k1_1 := fun o => (bcell hb1).1 (w.heap.size + 1) o (by first | (simp; done) | (simp; omega) | omega)
  have l1_1 : (w.heap.size + 1) < w1.heap.size := (by omega)
  have q1_1 := fun o => (bcell hb1).2 (w.heap.size + 1) o (by first | (simp; done) | (simp; omega) | omega)
  simp (maxDischargeDepth := 6) [go_sem, *] at k1_0 q1_0 k1_1 q1_1
  have HB1 := Lib.hid hb1
  clear hb1
  go_wp2_with fail
  refine (mem_Check _ _ _ xs _ (ints_now HX.out (by (repeat (first | (with_reducible exact Below.refl _ _) | (with_reducible refine Below.drew ?_) | (with_reducible refine bdrewN ?_ _) | ((with_reducible refine Below.setCell ?_ ?_ _); rotate_left; exact (by first | (simp; done) | (simp; omega) | omega)) | ((with_reducible refine Below.alloc ?_ ?_ _); rotate_left; exact (by first | (simp; done) | (simp; omega) | omega)) | ((with_reducible refine Below.trans ?_ (HB1.out.mono ?_)); rotate_left; exact (by first | (simp; done) | (simp; omega) | omega))))))).mono ?_
  rw [HCM.out]
  rintro e w2 ⟨rfl, hb2⟩
  have hz2 := hb2.size
  (try simp only [World.size_alloc, World.size_setCell, World.size_drew] at hz2)
  have k2_0 := fun o => (bcell hb2).1 (w.heap.size + 1) o (by first | (simp; done) | (simp; omega) | omega)
  have l2_0 : (w.heap.size + 1) < w2.heap.size := (by omega)
  have q2_0 := fun o => (bcell hb2).2 (w.heap.size + 1) o (by first | (simp; done) | (simp; omega) | omega)
  simp (maxDischargeDepth := 6) [go_sem, *] at k2_0 q2_0
  have HB2 := Lib.hid hb2
  clear hb2
  go_wp2_with fail
  refine (bridge_Check b _ _ _ _ (lines_now HL.out (by (repeat (first | (with_reducible exact Below.refl _ _) | (with_reducible refine Below.drew ?_) | (with_reducible refine bdrewN ?_ _) | ((with_reducible refine Below.setCell ?_ ?_ _); rotate_left; exact (by first | (simp; done) | (simp; omega) | omega)) | ((with_reducible refine Below.alloc ?_ ?_ _); rotate_left; exact (by first | (simp; done) | (simp; omega) | omega)) | ((with_reducible refine Below.trans ?_ (HB2.out.mono ?_)); rotate_left; exact (by first | (simp; done) | (simp; omega) | omega)) | ((with_reducible refine Below.trans ?_ (HB1.out.mono ?_)); rotate_left; exact (by first | (simp; done) | (simp; omega) | omega))))))).mono ?_
  rintro e w3 ⟨rfl, hb3⟩
  have hz3 := hb3.size
  (try simp only [World.size_alloc, World.size_setCell, World.size_drew] at hz3)
  have HB3 := Lib.hid hb3
  clear hb3
  go_wp2_with fail
  refine (law_crossed _).mono ?_
  rintro e w4 ⟨rfl, hb4⟩
  have hz4 := hb4.size
  (try simp only [World.size_alloc, World.size_setCell, World.size_drew] at hz4)
  have HB4 := Lib.hid hb4
  clear hb4
  go_wp2
  go_ret
  exact ⟨rfl, by (repeat (first | (with_reducible exact Below.refl _ _) | (with_reducible refine Below.drew ?_) | (with_reducible refine bdrewN ?_ _) | ((with_reducible refine Below.setCell ?_ ?_ _); rotate_left; exact (by first | (simp; done) | (simp; omega) | omega)) | ((with_reducible refine Below.alloc ?_ ?_ _); rotate_left; exact (by first | (simp; done) | (simp; omega) | omega)) | ((with_reducible refine Below.trans ?_ (HB4.out.mono ?_)); rotate_left; exact (by first | (simp; done) | (simp; omega) | omega)) | ((with_reducible refine Below.trans ?_ (HB3.out.mono ?_)); rotate_left; exact (by first | (simp; done) | (simp; omega) | omega)) | ((with_reducible refine Below.trans ?_ (HB2.out.mono ?_)); rotate_left; exact (by first | (simp; done) | (simp; omega) | omega)) | ((with_reducible refine Below.trans ?_ (HB1.out.mono ?_)); rotate_left; exact (by first | (simp; done) | (simp; omega) | omega))))⟩
set_option maxRecDepth 100000 in
set_option maxHeartbeats 8000000 in
theorem orders_ok (xs : List Int) (m : Option Addr) (cm' : Nat) (b : Brg) (A : Option Addr) (n c : Nat) (w : World) (hx : Ints w w.heap.size m 512 xs) (hl : Lines w w.heap.size A n c b.cache) (hcm : cm xs = 0) (hb : ckB b = 0) :
    Calls Try.prog 8 #[.agg #[.slice m 512 cm'], .agg #[.int .i64 b.mode, .int .i64 b.base, .slice A n c, .int .i64 b.orders.page, .int .i64 b.orders.head, .int .i64 b.orders.tail, .bool b.stopped, .int .i64 b.fences, .int .i64 b.faults.page, .int .i64 b.faults.head, .int .i64 b.faults.tail, .bool b.lost]] w fun e w' => e = .returned (.bool true) ∧ Below w.heap.size w w' := by
  have HX := Lib.hid hx
  have HL := Lib.hid hl
  have HCM := Lib.hid hcm
  have HCK := Lib.hid hb
  have HLEN := Lib.hid (show lenR b.orders ≤ 7 from (lenR_bd b.orders).2)
  clear hx hl hcm hb
  go_enter Try.func8, Try.ntmps8
  go_wp2_with fail
  refine (law_crossed _).mono ?_
  rintro e w1 ⟨rfl, hb1⟩
  have hz1 := hb1.size
  (try simp only [World.size_alloc, World.size_setCell, World.size_drew] at hz1)
  have k1_0 := fun o => (bcell hb1).1 (w.heap.size) o (by first | (simp; done) | (simp; omega) | omega)
  have l1_0 : (w.heap.size) < w1.heap.size := (by omega)
  have q1_0 := fun o => (bcell hb1).2 (w.heap.size) o (by first | (simp; done) | (simp; omega) | omega)
  have k1_1 := fun o => (bcell hb1).1 (w.heap.size + 1) o (by first | (simp; done) | (simp; omega) | omega)
  have l1_1 : (w.heap.size + 1) < w1.heap.size := (by omega)
  have q1_1 := fun o => (bcell hb1).2 (w.heap.size + 1) o (by first | (simp; done) | (simp; omega) | omega)
  simp (maxDischargeDepth := 6) [go_sem, *] at k1_0 q1_0 k1_1 q1_1
  have HB1 := Lib.hid hb1
  clear hb1
  go_wp2_with fail
  refine (mem_Check _ _ _ xs _ (ints_now HX.out (by (repeat (first | (with_reducible exact Below.refl _ _) | (with_reducible refine Below.drew ?_) | (with_reducible refine bdrewN ?_ _) | ((with_reducible refine Below.setCell ?_ ?_ _); rotate_left; exact (by first | (simp; done) | (simp; omega) | omega)) | ((with_reducible refine Below.alloc ?_ ?_ _); rotate_left; exact (by first | (simp; done) | (simp; omega) | omega)) | ((with_reducible refine Below.trans ?_ (HB1.out.mono ?_)); rotate_left; exact (by first | (simp; done) | (simp; omega) | omega))))))).mono ?_
  rw [HCM.out]
  rintro e w2 ⟨rfl, hb2⟩
  have hz2 := hb2.size
  (try simp only [World.size_alloc, World.size_setCell, World.size_drew] at hz2)
  have k2_0 := fun o => (bcell hb2).1 (w.heap.size) o (by first | (simp; done) | (simp; omega) | omega)
  have l2_0 : (w.heap.size) < w2.heap.size := (by omega)
  have q2_0 := fun o => (bcell hb2).2 (w.heap.size) o (by first | (simp; done) | (simp; omega) | omega)
  have k2_1 := fun o => (bcell hb2).1 (w.heap.size + 1) o (by first | (simp; done) | (simp; omega) | omega)
  have l2_1 : (w.heap.size + 1) < w2.heap.size := (by omega)
  have q2_1 := fun o => (bcell hb2).2 (w.heap.size + 1) o (by first | (simp; done) | (simp; omega) | omega)
  simp (maxDischargeDepth := 6) [go_sem, *] at k2_0 q2_0 k2_1 q2_1
  have HB2 := Lib.hid hb2
  clear hb2
  go_wp2_with fail
  refine (bridge_Check b _ _ _ _ (lines_now HL.out (by (repeat (first | (with_reducible exact Below.refl _ _) | (with_reducible refine Below.drew ?_) | (with_reducible refine bdrewN ?_ _) | ((with_reducible refine Below.setCell ?_ ?_ _); rotate_left; exact (by first | (simp; done) | (simp; omega) | omega)) | ((with_reducible refine Below.alloc ?_ ?_ _); rotate_left; exact (by first | (simp; done) | (simp; omega) | omega)) | ((with_reducible refine Below.trans ?_ (HB2.out.mono ?_)); rotate_left; exact (by first | (simp; done) | (simp; omega) | omega)) | ((with_reducible refine Below.trans ?_ (HB1.out.mono ?_)); rotate_left; exact (by first | (simp; done) | (simp; omega) | omega))))))).mono ?_
  rw [HCK.out]
  rintro e w3 ⟨rfl, hb3⟩
  have hz3 := hb3.size
  (try simp only [World.size_alloc, World.size_setCell, World.size_drew] at hz3)
  have k3_0 := fun o => (bcell hb3).1 (w.heap.size) o (by first | (simp; done) | (simp; omega) | omega)
  have l3_0 : (w.heap.size) < w3.heap.size := (by omega)
  have q3_0 := fun o => (bcell hb3).2 (w.heap.size) o (by first | (simp; done) | (simp; omega) | omega)
  have k3_1 := fun o => (bcell hb3).1 (w.heap.size + 1) o (by first | (simp; done) | (simp; omega) | omega)
  have l3_1 : (w.heap.size + 1) < w3.heap.size := (by omega)
  have q3_1 := fun o => (bcell hb3).2 (w.heap.size + 1) o (by first | (simp; done) | (simp; omega) | omega)
  simp (maxDischargeDepth := 6) [go_sem, *] at k3_0 q3_0 k3_1 q3_1
  have HB3 := Lib.hid hb3
  clear hb3
  have HI : Hid (OrdI w m cm' 0 w3 b A n c) := Lib.hid (by
    refine ⟨by (repeat (first | (with_reducible exact Below.refl _ _) | (with_reducible refine Below.drew ?_) | (with_reducible refine bdrewN ?_ _) | ((with_reducible refine Below.setCell ?_ ?_ _); rotate_left; exact (by first | (simp; done) | (simp; omega) | omega)) | ((with_reducible refine Below.alloc ?_ ?_ _); rotate_left; exact (by first | (simp; done) | (simp; omega) | omega)) | ((with_reducible refine Below.trans ?_ (HB3.out.mono ?_)); rotate_left; exact (by first | (simp; done) | (simp; omega) | omega)) | ((with_reducible refine Below.trans ?_ (HB2.out.mono ?_)); rotate_left; exact (by first | (simp; done) | (simp; omega) | omega)) | ((with_reducible refine Below.trans ?_ (HB1.out.mono ?_)); rotate_left; exact (by first | (simp; done) | (simp; omega) | omega)))), ?_, ?_, lines_now HL.out (by (repeat (first | (with_reducible exact Below.refl _ _) | (with_reducible refine Below.drew ?_) | (with_reducible refine bdrewN ?_ _) | ((with_reducible refine Below.setCell ?_ ?_ _); rotate_left; exact (by first | (simp; done) | (simp; omega) | omega)) | ((with_reducible refine Below.alloc ?_ ?_ _); rotate_left; exact (by first | (simp; done) | (simp; omega) | omega)) | ((with_reducible refine Below.trans ?_ (HB3.out.mono ?_)); rotate_left; exact (by first | (simp; done) | (simp; omega) | omega)) | ((with_reducible refine Below.trans ?_ (HB2.out.mono ?_)); rotate_left; exact (by first | (simp; done) | (simp; omega) | omega)) | ((with_reducible refine Below.trans ?_ (HB1.out.mono ?_)); rotate_left; exact (by first | (simp; done) | (simp; omega) | omega))))), ?_, HCK.out, ?_⟩
    · simp (maxDischargeDepth := 8) [go_sem, *]
    · unfold BrgAt; simp (maxDischargeDepth := 8) [go_sem, *]
    · intro o; simp (maxDischargeDepth := 8) [go_sem, *]
    · have := HLEN.out; simpa using this)
  clear k1_0 q1_0 l1_0 k1_1 q1_1 l1_1 k2_0 q2_0 l2_0 k2_1 q2_1 l2_1 k3_0 q3_0 l3_0 k3_1 q3_1 l3_1 HB1 HB2 HB3 hz1 hz2 hz3
  go_wp2
  go_loopw [27] (fun i wr => ∃ (k : Nat) (b : Brg) (L : Option Addr) (n c : Nat), i = .int .i64 k ∧ Hid (OrdI w m cm' k wr b L n c)) (fun i _ => 9 - (intOf i).toNat)
  case atStart => exact ⟨0, b, A, n, c, rfl, HI.out⟩
  case round =>
    clear HL HCK HLEN HI
    obtain ⟨k, b, L, n, c, rfl, I0⟩ := hrel
    have hk7 : (k : Int) ≤ 7 := by have := I0.out.len; have := (lenR_bd b.orders).1; omega
    have hlt : k < 9 := by omega
    have z0 := I0.out.base.size
    by_cases hE : obeyE xs b = 0
    rotate_left
    · obtain ⟨h6, hw⟩ := late_why HCM.out I0.out.ck hE
      have HE := Lib.hid h6
      have HR := Lib.hid (show obeyA xs b = .no by unfold obeyA; rw [if_neg hE])
      have HRG := Lib.hid (show ringR ⟨b.orders.page, b.orders.head, b.orders.tail⟩ from ((ckB_iff b).1 I0.out.ck).2.2.1)
      clear hE h6
      have m0 := I0.out.mem
      obtain ⟨b0, b1, b2, b3, b4, b5, b6, b7, b8, b9, b10, b11⟩ := I0.out.brg
      have lb : w.heap.size + 1 < wr.heap.size := brg_lt I0.out.brg
      have la : w.heap.size < wr.heap.size := by omega
      have HIX := Lib.hid (ints_now HX.out I0.out.base)
      by_cases hs : b.stopped = true
      · have HS := Lib.hid hs
        clear hw hs
        go_wp2_with fail
        refine (obey_ans xs _ _ _ b _ _ _ .no 6 _ HIX.out I0.out.lin HR.out HE.out).mono ?_
        rintro e w1 ⟨L1, n1, c1, rfl, hl1, hb1, hn1⟩
        have I1 := Lib.hid (I0.out.since (show Since wr w1 from hb1))
        have HB1 := Lib.hid hb1
        clear m0 b0 b1 b2 b3 b4 b5 b6 b7 b8 b9 b10 b11 lb la
        clear hl1 hn1 hb1
        have m0 := I1.out.mem
        obtain ⟨b0, b1, b2, b3, b4, b5, b6, b7, b8, b9, b10, b11⟩ := I1.out.brg
        have lb : w.heap.size + 1 < w1.heap.size := brg_lt I1.out.brg
        have la : w.heap.size < w1.heap.size := by omega
        have hs := HS.out
        go_wp2
        go_ret
        exact ⟨rfl, by (repeat (first | (with_reducible exact Below.refl _ _) | (with_reducible refine Below.drew ?_) | (with_reducible refine bdrewN ?_ _) | ((with_reducible refine Below.setCell ?_ ?_ _); rotate_left; exact (by first | (simp; done) | (simp; omega) | omega)) | ((with_reducible refine Below.alloc ?_ ?_ _); rotate_left; exact (by first | (simp; done) | (simp; omega) | omega)))); exact I1.out.base⟩
      · have hs' : b.stopped = false := by simpa using hs
        have HL0 := Lib.hid (show lenR ⟨b.orders.page, b.orders.head, b.orders.tail⟩ = 0 from hw.resolve_left hs)
        have HS := Lib.hid hs'
        clear hw hs hs'
        go_wp2_with fail
        refine (obey_ans xs _ _ _ b _ _ _ .no 6 _ HIX.out I0.out.lin HR.out HE.out).mono ?_
        rintro e w1 ⟨L1, n1, c1, rfl, hl1, hb1, hn1⟩
        have I1 := Lib.hid (I0.out.since (show Since wr w1 from hb1))
        have HB1 := Lib.hid hb1
        clear m0 b0 b1 b2 b3 b4 b5 b6 b7 b8 b9 b10 b11 lb la
        clear hl1 hn1 hb1
        have m0 := I1.out.mem
        obtain ⟨b0, b1, b2, b3, b4, b5, b6, b7, b8, b9, b10, b11⟩ := I1.out.brg
        have lb : w.heap.size + 1 < w1.heap.size := brg_lt I1.out.brg
        have la : w.heap.size < w1.heap.size := by omega
        have hs := HS.out
        go_wp2_with fail
        refine (ring_Length _ _ _ HRG.out _).mono ?_
        rw [HL0.out]
        rintro e w2 ⟨rfl, hb2⟩
        have hz2 := hb2.size
        (try simp only [World.size_alloc, World.size_setCell, World.size_drew] at hz2)
        have HB2 := Lib.hid hb2
        clear hb2
        go_wp2
        go_ret
        exact ⟨rfl, by (repeat (first | (with_reducible exact Below.refl _ _) | (with_reducible refine Below.drew ?_) | (with_reducible refine bdrewN ?_ _) | ((with_reducible refine Below.setCell ?_ ?_ _); rotate_left; exact (by first | (simp; done) | (simp; omega) | omega)) | ((with_reducible refine Below.alloc ?_ ?_ _); rotate_left; exact (by first | (simp; done) | (simp; omega) | omega)) | ((with_reducible refine Below.trans ?_ (HB2.out.mono ?_)); rotate_left; exact (by first | (simp; done) | (simp; omega) | omega)))); exact I1.out.base⟩
    · obtain ⟨_, _, hs, hl0, hp⟩ := obeyE_inv hE
      have HS := Lib.hid hs
      have HE := Lib.hid hE
      have HP := Lib.hid (show popE xs ⟨b.orders.page, b.orders.head, b.orders.tail⟩ = 0 from hp)
      obtain ⟨v, hv⟩ : ∃ v, popV xs b.orders = v := ⟨_, rfl⟩
      have HV := Lib.hid (show popV xs ⟨b.orders.page, b.orders.head, b.orders.tail⟩ = v from hv)
      have HA := Lib.hid (show obeyA xs b = obeyM xs b by unfold obeyA; rw [if_pos hE])
      have HCK2 := Lib.hid (obey_ck hE)
      have HIX := Lib.hid (ints_now HX.out I0.out.base)
      have HLE := Lib.hid (show lenR (popR b.orders) = lenR b.orders - 1 from pop_len ((ckB_iff b).1 I0.out.ck).2.2.1 hl0)
      by_cases hr : rdoE v = 0
      rotate_left
      · have t1 : (rdoE v != 0) = true := by rw [bne_iff_ne]; exact hr
        have e1 : obeyM xs b = b.stp := by unfold obeyM; rw [hv, if_neg hr]; rfl
        rw [e1] at HA HCK2
        have hst : b.stp.stopped = true := rfl
        clear hE hs hl0 hp hv hr e1
        have m0 := I0.out.mem
        obtain ⟨b0, b1, b2, b3, b4, b5, b6, b7, b8, b9, b10, b11⟩ := I0.out.brg
        have lb : w.heap.size + 1 < wr.heap.size := brg_lt I0.out.brg
        have la : w.heap.size < wr.heap.size := by omega
        go_wp2_with fail
        refine (obey_ans xs _ _ _ b _ _ _ b.stp 0 _ HIX.out I0.out.lin HA.out HE.out).mono ?_
        rintro e w1 ⟨L1, n1, c1, rfl, hl1, hb1, hn1⟩
        have I1 := Lib.hid (I0.out.since (show Since wr w1 from hb1))
        have HL1 := Lib.hid hl1
        clear m0 b0 b1 b2 b3 b4 b5 b6 b7 b8 b9 b10 b11 lb la
        clear hl1 hn1 hb1
        have m0 := I1.out.mem
        obtain ⟨b0, b1, b2, b3, b4, b5, b6, b7, b8, b9, b10, b11⟩ := I1.out.brg
        have lb : w.heap.size + 1 < w1.heap.size := brg_lt I1.out.brg
        have la : w.heap.size < w1.heap.size := by omega
        go_wp2_with fail
        refine (ring_Pop _ _ _ xs _ _ _ _ (ints_now HX.out (by (repeat (first | (with_reducible exact Below.refl _ _) | (with_reducible refine Below.drew ?_) | (with_reducible refine bdrewN ?_ _) | ((with_reducible refine Below.setCell ?_ ?_ _); rotate_left; exact (by first | (simp; done) | (simp; omega) | omega)) | ((with_reducible refine Below.alloc ?_ ?_ _); rotate_left; exact (by first | (simp; done) | (simp; omega) | omega)))); exact I1.out.base)) HP.out).mono ?_
        rw [HV.out]
        rintro e w2 ⟨rfl, hb2⟩
        have hz2 := hb2.size
        (try simp only [World.size_alloc, World.size_setCell, World.size_drew] at hz2)
        have k2_0 := fun o => (bcell hb2).1 (w1.heap.size) o (by first | (simp; done) | (simp; omega) | omega)
        have l2_0 : (w1.heap.size) < w2.heap.size := (by omega)
        have q2_0 := fun o => (bcell hb2).2 (w1.heap.size) o (by first | (simp; done) | (simp; omega) | omega)
        simp (maxDischargeDepth := 6) [go_sem, *] at k2_0 q2_0
        have HB2 := Lib.hid hb2
        clear hb2
        have I2 := Lib.hid (I1.out.since (show Since w1 w2 by unfold Since; (repeat (first | (with_reducible exact Below.refl _ _) | (with_reducible refine Below.drew ?_) | (with_reducible refine bdrewN ?_ _) | ((with_reducible refine Below.setCell ?_ ?_ _); rotate_left; exact (by first | (simp; done) | (simp; omega) | omega)) | ((with_reducible refine Below.alloc ?_ ?_ _); rotate_left; exact (by first | (simp; done) | (simp; omega) | omega)) | ((with_reducible refine Below.trans ?_ (HB2.out.mono ?_)); rotate_left; exact (by first | (simp; done) | (simp; omega) | omega))))))
        clear m0 b0 b1 b2 b3 b4 b5 b6 b7 b8 b9 b10 b11 lb la
        have m0 := I2.out.mem
        obtain ⟨b0, b1, b2, b3, b4, b5, b6, b7, b8, b9, b10, b11⟩ := I2.out.brg
        have lb : w.heap.size + 1 < w2.heap.size := brg_lt I2.out.brg
        have la : w.heap.size < w2.heap.size := by omega
        have hs := HS.out
        go_wp2_with fail
        refine (bridge_Check b.stp _ _ _ _ (lines_now HL1.out (by (repeat (first | (with_reducible exact Below.refl _ _) | (with_reducible refine Below.drew ?_) | (with_reducible refine bdrewN ?_ _) | ((with_reducible refine Below.setCell ?_ ?_ _); rotate_left; exact (by first | (simp; done) | (simp; omega) | omega)) | ((with_reducible refine Below.alloc ?_ ?_ _); rotate_left; exact (by first | (simp; done) | (simp; omega) | omega)) | ((with_reducible refine Below.trans ?_ (HB2.out.mono ?_)); rotate_left; exact (by first | (simp; done) | (simp; omega) | omega))))))).mono ?_
        rw [HCK2.out]
        rintro e w3 ⟨rfl, hb3⟩
        have hz3 := hb3.size
        (try simp only [World.size_alloc, World.size_setCell, World.size_drew] at hz3)
        have k3_0 := fun o => (bcell hb3).1 (w1.heap.size) o (by first | (simp; done) | (simp; omega) | omega)
        have l3_0 : (w1.heap.size) < w3.heap.size := (by omega)
        have q3_0 := fun o => (bcell hb3).2 (w1.heap.size) o (by first | (simp; done) | (simp; omega) | omega)
        simp (maxDischargeDepth := 6) [go_sem, *] at k3_0 q3_0
        have HB3 := Lib.hid hb3
        clear hb3
        have I3 := Lib.hid (I2.out.since (show Since w2 w3 by unfold Since; (repeat (first | (with_reducible exact Below.refl _ _) | (with_reducible refine Below.drew ?_) | (with_reducible refine bdrewN ?_ _) | ((with_reducible refine Below.setCell ?_ ?_ _); rotate_left; exact (by first | (simp; done) | (simp; omega) | omega)) | ((with_reducible refine Below.alloc ?_ ?_ _); rotate_left; exact (by first | (simp; done) | (simp; omega) | omega)) | ((with_reducible refine Below.trans ?_ (HB3.out.mono ?_)); rotate_left; exact (by first | (simp; done) | (simp; omega) | omega))))))
        clear k2_0 q2_0 l2_0
        clear m0 b0 b1 b2 b3 b4 b5 b6 b7 b8 b9 b10 b11 lb la
        have m0 := I3.out.mem
        obtain ⟨b0, b1, b2, b3, b4, b5, b6, b7, b8, b9, b10, b11⟩ := I3.out.brg
        have lb : w.heap.size + 1 < w3.heap.size := brg_lt I3.out.brg
        have la : w.heap.size < w3.heap.size := by omega
        go_wp2_with fail
        refine (word_ReadOrder _ _).mono ?_
        rw [show rdoV v = .tuple #[.agg #[.int .i64 (rdoF v (v % 4)), .int .i64 (rdoF v (v / 4 % 8)), .int .i64 (rdoF v (v / 32))], .int .i64 (rdoE v)] from rfl]
        rintro e w4 ⟨rfl, hb4⟩
        have hz4 := hb4.size
        (try simp only [World.size_alloc, World.size_setCell, World.size_drew] at hz4)
        have k4_0 := fun o => (bcell hb4).1 (w1.heap.size) o (by first | (simp; done) | (simp; omega) | omega)
        have l4_0 : (w1.heap.size) < w4.heap.size := (by omega)
        have q4_0 := fun o => (bcell hb4).2 (w1.heap.size) o (by first | (simp; done) | (simp; omega) | omega)
        simp (maxDischargeDepth := 6) [go_sem, *] at k4_0 q4_0
        have HB4 := Lib.hid hb4
        clear hb4
        have I4 := Lib.hid (I3.out.since (show Since w3 w4 by unfold Since; (repeat (first | (with_reducible exact Below.refl _ _) | (with_reducible refine Below.drew ?_) | (with_reducible refine bdrewN ?_ _) | ((with_reducible refine Below.setCell ?_ ?_ _); rotate_left; exact (by first | (simp; done) | (simp; omega) | omega)) | ((with_reducible refine Below.alloc ?_ ?_ _); rotate_left; exact (by first | (simp; done) | (simp; omega) | omega)) | ((with_reducible refine Below.trans ?_ (HB4.out.mono ?_)); rotate_left; exact (by first | (simp; done) | (simp; omega) | omega))))))
        clear k3_0 q3_0 l3_0
        clear m0 b0 b1 b2 b3 b4 b5 b6 b7 b8 b9 b10 b11 lb la
        have m0 := I4.out.mem
        obtain ⟨b0, b1, b2, b3, b4, b5, b6, b7, b8, b9, b10, b11⟩ := I4.out.brg
        have lb : w.heap.size + 1 < w4.heap.size := brg_lt I4.out.brg
        have la : w.heap.size < w4.heap.size := by omega
        have u1 : ¬ w1.heap.size = w4.heap.size + 1 := by omega
        have u2 : w1.heap.size < w4.heap.size + 1 := by omega
        have u3 : w.heap.size + 1 < w4.heap.size + 1 := by omega
        go_wp2_with fail
        have hsm := fun W h1 h2 => bridge_Same b b L1 L n1 c1 n c W h1 h2
        simp only [HS.out, same_self_] at hsm
        refine (hsm _ (lines_now HL1.out (by (repeat (first | (with_reducible exact Below.refl _ _) | (with_reducible refine Below.drew ?_) | (with_reducible refine bdrewN ?_ _) | ((with_reducible refine Below.setCell ?_ ?_ _); rotate_left; exact (by first | (simp; done) | (simp; omega) | omega)) | ((with_reducible refine Below.alloc ?_ ?_ _); rotate_left; exact (by first | (simp; done) | (simp; omega) | omega)) | ((with_reducible refine Below.trans ?_ (HB4.out.mono ?_)); rotate_left; exact (by first | (simp; done) | (simp; omega) | omega)) | ((with_reducible refine Below.trans ?_ (HB3.out.mono ?_)); rotate_left; exact (by first | (simp; done) | (simp; omega) | omega)) | ((with_reducible refine Below.trans ?_ (HB2.out.mono ?_)); rotate_left; exact (by first | (simp; done) | (simp; omega) | omega)))))) (lines_now I4.out.lin (by (repeat (first | (with_reducible exact Below.refl _ _) | (with_reducible refine Below.drew ?_) | (with_reducible refine bdrewN ?_ _) | ((with_reducible refine Below.setCell ?_ ?_ _); rotate_left; exact (by first | (simp; done) | (simp; omega) | omega)) | ((with_reducible refine Below.alloc ?_ ?_ _); rotate_left; exact (by first | (simp; done) | (simp; omega) | omega))))))).mono ?_
        clear hsm
        rintro e w5 ⟨rfl, hb5⟩
        have hz5 := hb5.size
        (try simp only [World.size_alloc, World.size_setCell, World.size_drew] at hz5)
        have HB5 := Lib.hid hb5
        clear hb5
        go_wp2
        go_ret
        exact ⟨rfl, by (repeat (first | (with_reducible exact Below.refl _ _) | (with_reducible refine Below.drew ?_) | (with_reducible refine bdrewN ?_ _) | ((with_reducible refine Below.setCell ?_ ?_ _); rotate_left; exact (by first | (simp; done) | (simp; omega) | omega)) | ((with_reducible refine Below.alloc ?_ ?_ _); rotate_left; exact (by first | (simp; done) | (simp; omega) | omega)) | ((with_reducible refine Below.trans ?_ (HB5.out.mono ?_)); rotate_left; exact (by first | (simp; done) | (simp; omega) | omega)))); exact I4.out.base⟩
      · have HSUB := Lib.hid (fun x (hx : x ∈ (obeyM xs b).cache) => obey_sub hE (by rw [hv]; exact hr) hx)
        have HFN := Lib.hid (obey_fence hE (by rw [hv]; exact hr))
        rw [hv] at HSUB HFN
        have HRR := Lib.hid (show rdoV v = .tuple #[.agg #[.int .i64 (v % 4), .int .i64 (v / 4 % 8), .int .i64 (v / 32)], .int .i64 0] by simp [rdoV, rdoF, hr])
        obtain ⟨rb, hrb⟩ : ∃ rb, obeyM xs b = rb := ⟨_, rfl⟩
        rw [hrb] at HA HCK2 HSUB HFN
        obtain ⟨vk, hvk⟩ : ∃ k, v % 4 = k := ⟨_, rfl⟩
        obtain ⟨vd, hvd⟩ : ∃ k, v / 4 % 8 = k := ⟨_, rfl⟩
        obtain ⟨vp, hvp⟩ : ∃ k, v / 32 = k := ⟨_, rfl⟩
        rw [hvk] at HSUB HFN HRR
        rw [hvd, hvp] at HRR
        clear hE hs hl0 hp hv hr hrb hvk hvd hvp
        have m0 := I0.out.mem
        obtain ⟨b0, b1, b2, b3, b4, b5, b6, b7, b8, b9, b10, b11⟩ := I0.out.brg
        have lb : w.heap.size + 1 < wr.heap.size := brg_lt I0.out.brg
        have la : w.heap.size < wr.heap.size := by omega
        go_wp2_with fail
        refine (obey_ans xs _ _ _ b _ _ _ rb 0 _ HIX.out I0.out.lin HA.out HE.out).mono ?_
        rintro e w1 ⟨L1, n1, c1, rfl, hl1, hb1, hn1⟩
        have I1 := Lib.hid (I0.out.since (show Since wr w1 from hb1))
        have HL1 := Lib.hid hl1
        have HN1 := Lib.hid (show ∀ ad, L1 = some ad → ad.block ≠ w.heap.size + 1 from fun ad e => by have := hn1 ad e; omega)
        have hcap := hl1.cap
        have HLN := Lib.hid hl1.len
        clear m0 b0 b1 b2 b3 b4 b5 b6 b7 b8 b9 b10 b11 lb la
        clear hl1 hn1 hb1
        have m0 := I1.out.mem
        obtain ⟨b0, b1, b2, b3, b4, b5, b6, b7, b8, b9, b10, b11⟩ := I1.out.brg
        have lb : w.heap.size + 1 < w1.heap.size := brg_lt I1.out.brg
        have la : w.heap.size < w1.heap.size := by omega
        go_wp2_with fail
        refine (ring_Pop _ _ _ xs _ _ _ _ (ints_now HX.out (by (repeat (first | (with_reducible exact Below.refl _ _) | (with_reducible refine Below.drew ?_) | (with_reducible refine bdrewN ?_ _) | ((with_reducible refine Below.setCell ?_ ?_ _); rotate_left; exact (by first | (simp; done) | (simp; omega) | omega)) | ((with_reducible refine Below.alloc ?_ ?_ _); rotate_left; exact (by first | (simp; done) | (simp; omega) | omega)))); exact I1.out.base)) HP.out).mono ?_
        rw [HV.out]
        rintro e w2 ⟨rfl, hb2⟩
        have hz2 := hb2.size
        (try simp only [World.size_alloc, World.size_setCell, World.size_drew] at hz2)
        have k2_0 := fun o => (bcell hb2).1 (w1.heap.size) o (by first | (simp; done) | (simp; omega) | omega)
        have l2_0 : (w1.heap.size) < w2.heap.size := (by omega)
        have q2_0 := fun o => (bcell hb2).2 (w1.heap.size) o (by first | (simp; done) | (simp; omega) | omega)
        simp (maxDischargeDepth := 6) [go_sem, *] at k2_0 q2_0
        have HB2 := Lib.hid hb2
        clear hb2
        have I2 := Lib.hid (I1.out.since (show Since w1 w2 by unfold Since; (repeat (first | (with_reducible exact Below.refl _ _) | (with_reducible refine Below.drew ?_) | (with_reducible refine bdrewN ?_ _) | ((with_reducible refine Below.setCell ?_ ?_ _); rotate_left; exact (by first | (simp; done) | (simp; omega) | omega)) | ((with_reducible refine Below.alloc ?_ ?_ _); rotate_left; exact (by first | (simp; done) | (simp; omega) | omega)) | ((with_reducible refine Below.trans ?_ (HB2.out.mono ?_)); rotate_left; exact (by first | (simp; done) | (simp; omega) | omega))))))
        clear m0 b0 b1 b2 b3 b4 b5 b6 b7 b8 b9 b10 b11 lb la
        have m0 := I2.out.mem
        obtain ⟨b0, b1, b2, b3, b4, b5, b6, b7, b8, b9, b10, b11⟩ := I2.out.brg
        have lb : w.heap.size + 1 < w2.heap.size := brg_lt I2.out.brg
        have la : w.heap.size < w2.heap.size := by omega
        have hs := HS.out
        go_wp2_with fail
        refine (bridge_Check rb _ _ _ _ (lines_now HL1.out (by (repeat (first | (with_reducible exact Below.refl _ _) | (with_reducible refine Below.drew ?_) | (with_reducible refine bdrewN ?_ _) | ((with_reducible refine Below.setCell ?_ ?_ _); rotate_left; exact (by first | (simp; done) | (simp; omega) | omega)) | ((with_reducible refine Below.alloc ?_ ?_ _); rotate_left; exact (by first | (simp; done) | (simp; omega) | omega)) | ((with_reducible refine Below.trans ?_ (HB2.out.mono ?_)); rotate_left; exact (by first | (simp; done) | (simp; omega) | omega))))))).mono ?_
        rw [HCK2.out]
        rintro e w3 ⟨rfl, hb3⟩
        have hz3 := hb3.size
        (try simp only [World.size_alloc, World.size_setCell, World.size_drew] at hz3)
        have k3_0 := fun o => (bcell hb3).1 (w1.heap.size) o (by first | (simp; done) | (simp; omega) | omega)
        have l3_0 : (w1.heap.size) < w3.heap.size := (by omega)
        have q3_0 := fun o => (bcell hb3).2 (w1.heap.size) o (by first | (simp; done) | (simp; omega) | omega)
        have k3_1 := fun o => (bcell hb3).1 (w2.heap.size) o (by first | (simp; done) | (simp; omega) | omega)
        have l3_1 : (w2.heap.size) < w3.heap.size := (by omega)
        have q3_1 := fun o => (bcell hb3).2 (w2.heap.size) o (by first | (simp; done) | (simp; omega) | omega)
        simp (maxDischargeDepth := 6) [go_sem, *] at k3_0 q3_0 k3_1 q3_1
        have HB3 := Lib.hid hb3
        clear hb3
        have I3 := Lib.hid (I2.out.since (show Since w2 w3 by unfold Since; (repeat (first | (with_reducible exact Below.refl _ _) | (with_reducible refine Below.drew ?_) | (with_reducible refine bdrewN ?_ _) | ((with_reducible refine Below.setCell ?_ ?_ _); rotate_left; exact (by first | (simp; done) | (simp; omega) | omega)) | ((with_reducible refine Below.alloc ?_ ?_ _); rotate_left; exact (by first | (simp; done) | (simp; omega) | omega)) | ((with_reducible refine Below.trans ?_ (HB3.out.mono ?_)); rotate_left; exact (by first | (simp; done) | (simp; omega) | omega))))))
        clear k2_0 q2_0 l2_0
        clear m0 b0 b1 b2 b3 b4 b5 b6 b7 b8 b9 b10 b11 lb la
        have m0 := I3.out.mem
        obtain ⟨b0, b1, b2, b3, b4, b5, b6, b7, b8, b9, b10, b11⟩ := I3.out.brg
        have lb : w.heap.size + 1 < w3.heap.size := brg_lt I3.out.brg
        have la : w.heap.size < w3.heap.size := by omega
        go_wp2_with fail
        refine (word_ReadOrder _ _).mono ?_
        rw [HRR.out]
        rintro e w4 ⟨rfl, hb4⟩
        have hz4 := hb4.size
        (try simp only [World.size_alloc, World.size_setCell, World.size_drew] at hz4)
        have k4_0 := fun o => (bcell hb4).1 (w1.heap.size) o (by first | (simp; done) | (simp; omega) | omega)
        have l4_0 : (w1.heap.size) < w4.heap.size := (by omega)
        have q4_0 := fun o => (bcell hb4).2 (w1.heap.size) o (by first | (simp; done) | (simp; omega) | omega)
        have k4_1 := fun o => (bcell hb4).1 (w2.heap.size) o (by first | (simp; done) | (simp; omega) | omega)
        have l4_1 : (w2.heap.size) < w4.heap.size := (by omega)
        have q4_1 := fun o => (bcell hb4).2 (w2.heap.size) o (by first | (simp; done) | (simp; omega) | omega)
        simp (maxDischargeDepth := 6) [go_sem, *] at k4_0 q4_0 k4_1 q4_1
        have HB4 := Lib.hid hb4
        clear hb4
        have I4 := Lib.hid (I3.out.since (show Since w3 w4 by unfold Since; (repeat (first | (with_reducible exact Below.refl _ _) | (with_reducible refine Below.drew ?_) | (with_reducible refine bdrewN ?_ _) | ((with_reducible refine Below.setCell ?_ ?_ _); rotate_left; exact (by first | (simp; done) | (simp; omega) | omega)) | ((with_reducible refine Below.alloc ?_ ?_ _); rotate_left; exact (by first | (simp; done) | (simp; omega) | omega)) | ((with_reducible refine Below.trans ?_ (HB4.out.mono ?_)); rotate_left; exact (by first | (simp; done) | (simp; omega) | omega))))))
        have HS5 := Lib.hid (show Since w1 w4 by unfold Since; (repeat (first | (with_reducible exact Below.refl _ _) | (with_reducible refine Below.drew ?_) | (with_reducible refine bdrewN ?_ _) | ((with_reducible refine Below.setCell ?_ ?_ _); rotate_left; exact (by first | (simp; done) | (simp; omega) | omega)) | ((with_reducible refine Below.alloc ?_ ?_ _); rotate_left; exact (by first | (simp; done) | (simp; omega) | omega)) | ((with_reducible refine Below.trans ?_ (HB4.out.mono ?_)); rotate_left; exact (by first | (simp; done) | (simp; omega) | omega)) | ((with_reducible refine Below.trans ?_ (HB3.out.mono ?_)); rotate_left; exact (by first | (simp; done) | (simp; omega) | omega)) | ((with_reducible refine Below.trans ?_ (HB2.out.mono ?_)); rotate_left; exact (by first | (simp; done) | (simp; omega) | omega)))))
        have HW4 := Lib.hid (show w4.heap.size < (w4.alloc (.cells #[.int .i64 vk, .int .i64 vd, .int .i64 vp] 79)).heap.size by simp)
        have KO := Lib.hid (show ∀ o, (w4.alloc (.cells #[.int .i64 vk, .int .i64 vd, .int .i64 vp] 79)).cell? ⟨w4.heap.size, o, none⟩ = (#[.int .i64 vk, .int .i64 vd, .int .i64 vp] : Array Value)[o]? from fun o => by simp [go_sem])
        have I5 := Lib.hid (I4.out.since (show Since w4 (w4.alloc (.cells #[.int .i64 vk, .int .i64 vd, .int .i64 vp] 79)) from since_alloc (since_refl _) _))
        have S5 := Lib.hid (show Since w1 (w4.alloc (.cells #[.int .i64 vk, .int .i64 vd, .int .i64 vp] 79)) from since_alloc HS5.out _)
        have K4 := Lib.hid k4_0
        have K5 := Lib.hid k4_1
        have L4 := Lib.hid l4_0
        have L5 := Lib.hid l4_1
        clear k3_0 q3_0 l3_0 k3_1 q3_1 l3_1
        clear m0 b0 b1 b2 b3 b4 b5 b6 b7 b8 b9 b10 b11 lb la
        have m0 := I4.out.mem
        obtain ⟨b0, b1, b2, b3, b4, b5, b6, b7, b8, b9, b10, b11⟩ := I4.out.brg
        have lb : w.heap.size + 1 < w4.heap.size := brg_lt I4.out.brg
        have la : w.heap.size < w4.heap.size := by omega
        have hk1 : w1.heap.size < w4.heap.size + 1 := by omega
        have HU := Lib.hid (show w.heap.size + 1 < w1.heap.size from brg_lt I1.out.brg)
        go_wp2
        clear k4_0 k4_1 q4_0 q4_1 l4_0 l4_1
        clear m0 b0 b1 b2 b3 b4 b5 b6 b7 b8 b9 b10 b11 lb la
        clear hs hk1
        go_loopw [87, 13] (fun i _ wq => ∃ j : Nat, j ≤ n1 ∧ i = .int .i64 j ∧ Hid (Since (w4.alloc (.cells #[.int .i64 vk, .int .i64 vd, .int .i64 vp] 79)) wq)) (fun i _ _ => n1 - (intOf i).toNat)
        case atStart => exact ⟨0, by omega, rfl, since_refl _⟩
        case round =>
          obtain ⟨j, hj, rfl, HQ⟩ := hrel
          obtain ⟨wq, hwq⟩ : ∃ wq, wq = wr := ⟨_, rfl⟩
          subst hwq
          have I6 := Lib.hid (I5.out.since HQ.out)
          have S6 := Lib.hid (show Since w1 wq from since_step (show Below (w4.alloc (.cells #[.int .i64 vk, .int .i64 vd, .int .i64 vp] 79)).heap.size (w4.alloc (.cells #[.int .i64 vk, .int .i64 vd, .int .i64 vp] 79)) wq from HQ.out) S5.out)
          have HBQ := Lib.hid (show Below w1.heap.size w1 wq from S6.out)
          have hzq : w4.heap.size + 1 ≤ wq.heap.size := by have := Below.size HQ.out; simpa using this
          have lw1 : w1.heap.size < wq.heap.size := by have := L4.out; omega
          have lw2 : w2.heap.size < wq.heap.size := by have := L5.out; omega
          have lw4 : w4.heap.size < wq.heap.size := by omega
          have KB := fun o => (Below.cell (p := ⟨w1.heap.size, o, none⟩) HQ.out (show w1.heap.size < (w4.alloc (.cells #[.int .i64 vk, .int .i64 vd, .int .i64 vp] 79)).heap.size by simp; have := L4.out; omega)).trans ((World.cell?_alloc_lt w4 _ ⟨w1.heap.size, o, none⟩ L4.out).trans (K4.out o))
          have KR := fun o => (Below.cell (p := ⟨w2.heap.size, o, none⟩) HQ.out (show w2.heap.size < (w4.alloc (.cells #[.int .i64 vk, .int .i64 vd, .int .i64 vp] 79)).heap.size by simp; have := L5.out; omega)).trans ((World.cell?_alloc_lt w4 _ ⟨w2.heap.size, o, none⟩ L5.out).trans (K5.out o))
          have KX := fun o => (Below.cell (p := ⟨w4.heap.size, o, none⟩) HQ.out HW4.out).trans (KO.out o)
          have m0 := I6.out.mem
          obtain ⟨b0, b1, b2, b3, b4, b5, b6, b7, b8, b9, b10, b11⟩ := I6.out.brg
          have lb : w.heap.size + 1 < wq.heap.size := brg_lt I6.out.brg
          have la : w.heap.size < wq.heap.size := by omega
          by_cases hjn : j < n1
          · obtain ⟨x, hxj⟩ := some_of_lt rb.cache (k := j) (by rw [HLN.out]; exact hjn)
            obtain ⟨g, off, rfl, hg, hc⟩ := (lines_snc HL1.out S6.out).at_ (by omega)
            obtain ⟨e0, e1, e2, e3, e4⟩ := hc j x hxj
            obtain ⟨hv1, hv2⟩ := HSUB.out x (List.mem_of_getElem? hxj)
            have t2 : (vk == 1) = false := beq_eq_false_iff_ne.2 hv1
            have HPO := Lib.hid (show decide (0 ≤ posL b.cache x) = true from decide_eq_true (posL_mem hv2))
            have hgq : g < wq.heap.size + 1 := by omega
            clear hc hxj hv1 hv2
            go_wp2_with fail
            refine (sl_ContainsL L n c b.cache x _ (lines_now I6.out.lin (by (repeat (first | (with_reducible exact Below.refl _ _) | (with_reducible refine Below.drew ?_) | (with_reducible refine bdrewN ?_ _) | ((with_reducible refine Below.setCell ?_ ?_ _); rotate_left; exact (by first | (simp; done) | (simp; omega) | omega)) | ((with_reducible refine Below.alloc ?_ ?_ _); rotate_left; exact (by first | (simp; done) | (simp; omega) | omega))))))).mono ?_
            rw [HPO.out]
            rintro e wz ⟨rfl, hbz⟩
            have HZ := Lib.hid (since_step hbz (since_alloc (show Since (w4.alloc (.cells #[.int .i64 vk, .int .i64 vd, .int .i64 vp] 79)) wq from HQ.out) (.cells #[.int .i64 x.dev, .int .i64 x.page, .int .i64 x.at_, .bool x.rd, .bool x.wr] 83)))
            clear hbz
            go_wp2
            go_roundw
            case rel => exact ⟨j + 1, by omega, by go_num, HZ.out⟩
            case measure => simp [intOf]; omega
          · have u1 : ¬ w1.heap.size = w.heap.size + 1 := by have := HU.out; omega
            have u2 : ¬ w.heap.size + 1 = w1.heap.size := by omega
            have hnq := fun W => Try.neqRing_ rb.orders b.orders HFN.out.2.2.1 W
            have hst := HFN.out.2.2.2
            have HEND : Hid (lenR rb.orders + (k + 1 : Nat) ≤ 7) := Lib.hid (by rw [HFN.out.2.2.1, HLE.out]; have := I0.out.len; omega)
            by_cases hvk : vk = 0
            · have t2 : (vk == 0) = true := by rw [beq_iff_eq]; exact hvk
              have t3 : (b.fences != rb.fences) = true := by rw [bne_iff_ne]; exact HFN.out.2.1.1 hvk
              have HEQ := Lib.hid (show eqL b.cache rb.cache = true by unfold eqL; rw [HFN.out.1 hvk]; simp)
              clear hvk
              go_wp2_with fail
              refine (sl_EqualL L L1 n n1 c c1 b.cache rb.cache _ (lines_now I6.out.lin (by (repeat (first | (with_reducible exact Below.refl _ _) | (with_reducible refine Below.drew ?_) | (with_reducible refine bdrewN ?_ _) | ((with_reducible refine Below.setCell ?_ ?_ _); rotate_left; exact (by first | (simp; done) | (simp; omega) | omega)) | ((with_reducible refine Below.alloc ?_ ?_ _); rotate_left; exact (by first | (simp; done) | (simp; omega) | omega)))))) (lines_now HL1.out (by (repeat (first | (with_reducible exact Below.refl _ _) | (with_reducible refine Below.drew ?_) | (with_reducible refine bdrewN ?_ _) | ((with_reducible refine Below.setCell ?_ ?_ _); rotate_left; exact (by first | (simp; done) | (simp; omega) | omega)) | ((with_reducible refine Below.alloc ?_ ?_ _); rotate_left; exact (by first | (simp; done) | (simp; omega) | omega)) | ((with_reducible refine Below.trans ?_ (HBQ.out.mono ?_)); rotate_left; exact (by first | (simp; done) | (simp; omega) | omega))))))).mono ?_
              rw [HEQ.out]
              rintro e w8 ⟨rfl, hb8⟩
              have hz8 := hb8.size
              (try simp only [World.size_alloc, World.size_setCell, World.size_drew] at hz8)
              have k8_0 := fun o => (bcell hb8).1 (w1.heap.size) o (by first | (simp; done) | (simp; omega) | omega)
              have l8_0 : (w1.heap.size) < w8.heap.size := (by omega)
              have q8_0 := fun o => (bcell hb8).2 (w1.heap.size) o (by first | (simp; done) | (simp; omega) | omega)
              have k8_1 := fun o => (bcell hb8).1 (w2.heap.size) o (by first | (simp; done) | (simp; omega) | omega)
              have l8_1 : (w2.heap.size) < w8.heap.size := (by omega)
              have q8_1 := fun o => (bcell hb8).2 (w2.heap.size) o (by first | (simp; done) | (simp; omega) | omega)
              have k8_2 := fun o => (bcell hb8).1 (w4.heap.size) o (by first | (simp; done) | (simp; omega) | omega)
              have l8_2 : (w4.heap.size) < w8.heap.size := (by omega)
              have q8_2 := fun o => (bcell hb8).2 (w4.heap.size) o (by first | (simp; done) | (simp; omega) | omega)
              simp (maxDischargeDepth := 6) [go_sem, *] at k8_0 q8_0 k8_1 q8_1 k8_2 q8_2
              have HB8 := Lib.hid hb8
              clear hb8
              have I8 := Lib.hid (I6.out.since (show Since wq w8 by unfold Since; (repeat (first | (with_reducible exact Below.refl _ _) | (with_reducible refine Below.drew ?_) | (with_reducible refine bdrewN ?_ _) | ((with_reducible refine Below.setCell ?_ ?_ _); rotate_left; exact (by first | (simp; done) | (simp; omega) | omega)) | ((with_reducible refine Below.alloc ?_ ?_ _); rotate_left; exact (by first | (simp; done) | (simp; omega) | omega)) | ((with_reducible refine Below.trans ?_ (HB8.out.mono ?_)); rotate_left; exact (by first | (simp; done) | (simp; omega) | omega))))))
              clear KB KR KX lw1 lw2 lw4
              clear m0 b0 b1 b2 b3 b4 b5 b6 b7 b8 b9 b10 b11 lb la
              have m0 := I8.out.mem
              obtain ⟨b0, b1, b2, b3, b4, b5, b6, b7, b8, b9, b10, b11⟩ := I8.out.brg
              have lb : w.heap.size + 1 < w8.heap.size := brg_lt I8.out.brg
              have la : w.heap.size < w8.heap.size := by omega
              have f0 := I8.out.frz
              go_wp2
              go_roundw
              case rel =>
                refine ⟨k + 1, rb, L1, n1, c1, by go_num, ?_⟩
                show OrdI _ _ _ _ _ _ _ _ _
                refine ⟨?_, ?_, ?_, ?_, ?_, HCK2.out, HEND.out⟩
                · (repeat (first | (with_reducible exact Below.refl _ _) | (with_reducible refine Below.drew ?_) | (with_reducible refine bdrewN ?_ _) | ((with_reducible refine Below.setCell ?_ ?_ _); rotate_left; exact (by first | (simp; done) | (simp; omega) | omega)) | ((with_reducible refine Below.alloc ?_ ?_ _); rotate_left; exact (by first | (simp; done) | (simp; omega) | omega))))
                  exact I8.out.base
                · simp (maxDischargeDepth := 8) [go_sem, *]
                · unfold BrgAt; simp (maxDischargeDepth := 8) [go_sem, *]
                · refine Lines.more (B := w8.heap.size) ?_ (by simp)
                  (repeat (first | ((with_reducible refine lines_off ?_ ?_ _); rotate_left; exact (by intro ad e; exact HN1.out ad e)) | (exact (lines_now HL1.out (by (repeat (first | (with_reducible exact Below.refl _ _) | (with_reducible refine Below.drew ?_) | (with_reducible refine bdrewN ?_ _) | ((with_reducible refine Below.setCell ?_ ?_ _); rotate_left; exact (by first | (simp; done) | (simp; omega) | omega)) | ((with_reducible refine Below.alloc ?_ ?_ _); rotate_left; exact (by first | (simp; done) | (simp; omega) | omega)) | ((with_reducible refine Below.trans ?_ (HB8.out.mono ?_)); rotate_left; exact (by first | (simp; done) | (simp; omega) | omega)) | ((with_reducible refine Below.trans ?_ (HBQ.out.mono ?_)); rotate_left; exact (by first | (simp; done) | (simp; omega) | omega)))))))))
                · intro o; simp (maxDischargeDepth := 8) [go_sem, *]
              case measure => simp [intOf]; omega
            · have t2 : (vk == 0) = false := beq_eq_false_iff_ne.2 hvk
              have t3 : (b.fences != rb.fences) = false := by rw [bne_eq_false_iff_eq]; exact Decidable.byContradiction (fun h => hvk (HFN.out.2.1.2 h))
              clear hvk
              have f0 := I6.out.frz
              go_wp2
              go_roundw
              case rel =>
                refine ⟨k + 1, rb, L1, n1, c1, by go_num, ?_⟩
                show OrdI _ _ _ _ _ _ _ _ _
                refine ⟨?_, ?_, ?_, ?_, ?_, HCK2.out, HEND.out⟩
                · (repeat (first | (with_reducible exact Below.refl _ _) | (with_reducible refine Below.drew ?_) | (with_reducible refine bdrewN ?_ _) | ((with_reducible refine Below.setCell ?_ ?_ _); rotate_left; exact (by first | (simp; done) | (simp; omega) | omega)) | ((with_reducible refine Below.alloc ?_ ?_ _); rotate_left; exact (by first | (simp; done) | (simp; omega) | omega))))
                  exact I6.out.base
                · simp (maxDischargeDepth := 8) [go_sem, *]
                · unfold BrgAt; simp (maxDischargeDepth := 8) [go_sem, *]
                · refine Lines.more (B := wq.heap.size) ?_ (by simp)
                  (repeat (first | ((with_reducible refine lines_off ?_ ?_ _); rotate_left; exact (by intro ad e; exact HN1.out ad e)) | (exact (lines_now HL1.out (by (repeat (first | (with_reducible exact Below.refl _ _) | (with_reducible refine Below.drew ?_) | (with_reducible refine bdrewN ?_ _) | ((with_reducible refine Below.setCell ?_ ?_ _); rotate_left; exact (by first | (simp; done) | (simp; omega) | omega)) | ((with_reducible refine Below.alloc ?_ ?_ _); rotate_left; exact (by first | (simp; done) | (simp; omega) | omega)) | ((with_reducible refine Below.trans ?_ (HBQ.out.mono ?_)); rotate_left; exact (by first | (simp; done) | (simp; omega) | omega)))))))))
                · intro o; simp (maxDischargeDepth := 8) [go_sem, *]
              case measure => simp [intOf]; omega
theorem law_BridgeOrders (xs : List Int) (m : Option Addr) (nm cm' : Nat) (b : Brg) (A : Option Addr) (n c : Nat) (w : World) (hx : Ints w w.heap.size m nm xs) (hl : Lines w w.heap.size A n c b.cache) :
    Calls Try.prog 8 #[.agg #[.slice m nm cm'], .agg #[.int .i64 b.mode, .int .i64 b.base, .slice A n c, .int .i64 b.orders.page, .int .i64 b.orders.head, .int .i64 b.orders.tail, .bool b.stopped, .int .i64 b.fences, .int .i64 b.faults.page, .int .i64 b.faults.head, .int .i64 b.faults.tail, .bool b.lost]] w fun e w' => e = .returned (.bool true) ∧ Below w.heap.size w w' := by
  by_cases hcm : cm xs = 0
  · by_cases hb : ckB b = 0
    · have hn : nm = 512 := by rw [← hx.len]; exact (cm_inv hcm).1
      subst hn
      exact orders_ok xs m cm' b A n c w hx hl hcm hb
    · exact orders_b xs m nm cm' b A n c w hx hl hcm hb
  · exact orders_c xs m nm cm' b A n c w hx hcm
end Go.Proofs.Ytbopdijnojaaiac
