/- Orders obeyed: the document's Obeyed, whatever comes. No statement of the seat is proved here. -/
import Derived.Test.YtbopdijnojaaiacBridgeS
import Derived.Test.YtbopdijnojaaiacBase
import Derived.Test.YtbopdijnojaaiacWord
import Derived.Test.YtbopdijnojaaiacWordS
import Derived.Test.YtbopdijnojaaiacRefD
import Derived.IntWalk
namespace Go.Proofs.Ytbopdijnojaaiac
open Go.RowKit
set_option linter.unusedSimpArgs false
set_option linter.unusedVariables false

section
/-- what Obeyed answers. -/
def ObdC (w : World) (A0 : Option Addr) (rb : Brg) (E : Int) (e : Ending) (w' : World) : Prop :=
  ∃ L n c, e = .returned (.tuple #[.agg #[.int .i64 rb.mode, .int .i64 rb.base, .slice L n c, .int .i64 rb.orders.page, .int .i64 rb.orders.head, .int .i64 rb.orders.tail, .bool rb.stopped, .int .i64 rb.fences, .int .i64 rb.faults.page, .int .i64 rb.faults.head, .int .i64 rb.faults.tail, .bool rb.lost], .int .i64 E]) ∧ Lines w' w'.heap.size L n c rb.cache ∧ Below w.heap.size w w' ∧ NewIn w A0 L
theorem obd_no {w w' : World} {A0 : Option Addr} {E : Int} (hb : Below w.heap.size w w') : ObdC w A0 .no E (.returned (.tuple #[.agg #[.int .i64 Brg.no.mode, .int .i64 Brg.no.base, .slice none 0 0, .int .i64 Brg.no.orders.page, .int .i64 Brg.no.orders.head, .int .i64 Brg.no.orders.tail, .bool Brg.no.stopped, .int .i64 Brg.no.fences, .int .i64 Brg.no.faults.page, .int .i64 Brg.no.faults.head, .int .i64 Brg.no.faults.tail, .bool Brg.no.lost], .int .i64 E])) w' :=
  ⟨none, 0, 0, rfl, lines_none _ _, hb, fun _ h => by cases h⟩
theorem set_set (w : World) (g o : Nat) (u v : Value) : (w.setCell ⟨g, o, none⟩ u).setCell ⟨g, o, none⟩ v = w.setCell ⟨g, o, none⟩ v := by
  unfold World.setCell
  congr 1
  apply Array.ext_getElem?
  intro k
  simp only [Array.getElem?_modify]
  by_cases hk : g = k
  · simp only [hk, if_true]
    cases w.heap[k]? with
    | none => rfl
    | some x => cases x <;> simp
  · simp [hk]
def obC (b : Brg) (ms : List Line) (F : Int) : Brg := ⟨b.mode, b.base, ms, ⟨b.orders.page, (b.orders.head + 1) % 8, b.orders.tail⟩, b.stopped, F, b.faults, b.lost⟩
def Brg.stop (b : Brg) : Brg := ⟨b.mode, b.base, b.cache, b.orders, true, b.fences, b.faults, b.lost⟩
section
variable (xs : List Int) (m : Option Addr) (cm' : Nat) (b : Brg) (A : Option Addr) (n c : Nat) (w : World)
set_option maxRecDepth 100000 in
set_option maxHeartbeats 2000000 in
theorem obd_stopped (hs : b.stopped = true) : Calls Try.prog 49 #[.agg #[.slice m 512 cm'], .agg #[.int .i64 b.mode, .int .i64 b.base, .slice A n c, .int .i64 b.orders.page, .int .i64 b.orders.head, .int .i64 b.orders.tail, .bool b.stopped, .int .i64 b.fences, .int .i64 b.faults.page, .int .i64 b.faults.head, .int .i64 b.faults.tail, .bool b.lost]] w (ObdC w A .no 6) := by
  go_enter Try.func49, Try.ntmps49
  go_wp2
  refine bodyPost_ret (v := .tuple #[.agg #[.int .i64 Brg.no.mode, .int .i64 Brg.no.base, .slice none 0 0, .int .i64 Brg.no.orders.page, .int .i64 Brg.no.orders.head, .int .i64 Brg.no.orders.tail, .bool Brg.no.stopped, .int .i64 Brg.no.fences, .int .i64 Brg.no.faults.page, .int .i64 Brg.no.faults.head, .int .i64 Brg.no.faults.tail, .bool Brg.no.lost], .int .i64 6]) ?_ rfl (obd_no ?_)
  · simp (maxDischargeDepth := 8) [results, Try.results49, go_sem, Brg.no, Ring.no, *]
  · (repeat (first | (with_reducible exact Below.refl _ _) | (with_reducible refine Below.drew ?_) | (with_reducible refine bdrewN ?_ _) | ((with_reducible refine Below.setCell ?_ ?_ _); rotate_left; exact (by first | (simp; done) | (simp; omega) | omega)) | ((with_reducible refine Below.alloc ?_ ?_ _); rotate_left; exact (by first | (simp; done) | (simp; omega) | omega))))
set_option maxRecDepth 100000 in
set_option maxHeartbeats 2000000 in
theorem obd_empty (hs : b.stopped = false) (he : b.orders.head = b.orders.tail) : Calls Try.prog 49 #[.agg #[.slice m 512 cm'], .agg #[.int .i64 b.mode, .int .i64 b.base, .slice A n c, .int .i64 b.orders.page, .int .i64 b.orders.head, .int .i64 b.orders.tail, .bool b.stopped, .int .i64 b.fences, .int .i64 b.faults.page, .int .i64 b.faults.head, .int .i64 b.faults.tail, .bool b.lost]] w (ObdC w A .no 6) := by
  have t1 : (b.orders.head == b.orders.tail) = true := by rw [beq_iff_eq]; exact he
  clear he
  go_enter Try.func49, Try.ntmps49
  go_wp2
  refine bodyPost_ret (v := .tuple #[.agg #[.int .i64 Brg.no.mode, .int .i64 Brg.no.base, .slice none 0 0, .int .i64 Brg.no.orders.page, .int .i64 Brg.no.orders.head, .int .i64 Brg.no.orders.tail, .bool Brg.no.stopped, .int .i64 Brg.no.fences, .int .i64 Brg.no.faults.page, .int .i64 Brg.no.faults.head, .int .i64 Brg.no.faults.tail, .bool Brg.no.lost], .int .i64 6]) ?_ rfl (obd_no ?_)
  · simp (maxDischargeDepth := 8) [results, Try.results49, go_sem, Brg.no, Ring.no, *]
  · (repeat (first | (with_reducible exact Below.refl _ _) | (with_reducible refine Below.drew ?_) | (with_reducible refine bdrewN ?_ _) | ((with_reducible refine Below.setCell ?_ ?_ _); rotate_left; exact (by first | (simp; done) | (simp; omega) | omega)) | ((with_reducible refine Below.alloc ?_ ?_ _); rotate_left; exact (by first | (simp; done) | (simp; omega) | omega))))
variable (hx : Ints w w.heap.size m 512 xs) (hl : Lines w w.heap.size A n c b.cache) (h0 : cm xs = 0) (hb : ckB b = 0) (hs : b.stopped = false) (hp : b.orders.head ≠ b.orders.tail) (v : Int) (hv : popV xs b.orders = v)
set_option maxRecDepth 100000 in
set_option maxHeartbeats 2000000 in
include hx hl h0 hb hs hp hv in
theorem obd_bad (hr0 : rdoE v ≠ 0) : Calls Try.prog 49 #[.agg #[.slice m 512 cm'], .agg #[.int .i64 b.mode, .int .i64 b.base, .slice A n c, .int .i64 b.orders.page, .int .i64 b.orders.head, .int .i64 b.orders.tail, .bool b.stopped, .int .i64 b.fences, .int .i64 b.faults.page, .int .i64 b.faults.head, .int .i64 b.faults.tail, .bool b.lost]] w (ObdC w A b.stop 0) := by
  have t0 : (b.orders.head == b.orders.tail) = false := beq_eq_false_iff_ne.2 hp
  have hr := ((ckB_iff b).1 hb).2.2.1
  unfold ringR at hr
  obtain ⟨⟨r1, r2⟩, ⟨r3, r4⟩, r5, r6⟩ := hr
  have hvx := rd_at (xs := xs) (i := b.orders.page * 8 + b.orders.head) (cm_inv h0).1 (by omega)
  obtain ⟨g, off, rfl, hg, hc⟩ := hx.at_ (by omega)
  have hcv := hc _ _ hvx
  rw [show rd xs (b.orders.page * 8 + b.orders.head) = v from hv, show b.orders.page * 8 = 8 * b.orders.page from Int.mul_comm _ _] at hcv
  have e1 : IntKind.i64.wrap (8 * b.orders.page) = 8 * b.orders.page := IntWalk.i64_in _ (by omega)
  have e2 : IntKind.i64.wrap (8 * b.orders.page + b.orders.head) = 8 * b.orders.page + b.orders.head := IntWalk.i64_in _ (by omega)
  have HL := Lib.hid hl
  have hg2 : g < w.heap.size + 1 := by omega
  have hg3 : g < w.heap.size + 1 + 1 := by omega
  have t1 : (rdoE v != 0) = true := by rw [bne_iff_ne]; exact hr0
  clear hx hl h0 hb hp hv hr0 hc hvx
  go_enter Try.func49, Try.ntmps49
  go_wp2_with fail
  refine (ref_OrderOf _ _).mono ?_
  rw [show rdoV v = .tuple #[.agg #[.int .i64 (rdoF v (v % 4)), .int .i64 (rdoF v (v / 4 % 8)), .int .i64 (rdoF v (v / 32))], .int .i64 (rdoE v)] from rfl]
  rintro e w1 ⟨rfl, hb1⟩
  have hz1 := hb1.size
  (try simp only [World.size_alloc, World.size_setCell, World.size_drew] at hz1)
  have k1_0_0 := (bcell hb1).1 (w.heap.size + 1) 0 (by first | (simp; done) | (simp; omega) | omega)
  have k1_0_1 := (bcell hb1).1 (w.heap.size + 1) 1 (by first | (simp; done) | (simp; omega) | omega)
  have k1_0_2 := (bcell hb1).1 (w.heap.size + 1) 2 (by first | (simp; done) | (simp; omega) | omega)
  have k1_0_3 := (bcell hb1).1 (w.heap.size + 1) 3 (by first | (simp; done) | (simp; omega) | omega)
  have k1_0_4 := (bcell hb1).1 (w.heap.size + 1) 4 (by first | (simp; done) | (simp; omega) | omega)
  have k1_0_5 := (bcell hb1).1 (w.heap.size + 1) 5 (by first | (simp; done) | (simp; omega) | omega)
  have k1_0_6 := (bcell hb1).1 (w.heap.size + 1) 6 (by first | (simp; done) | (simp; omega) | omega)
  have k1_0_7 := (bcell hb1).1 (w.heap.size + 1) 7 (by first | (simp; done) | (simp; omega) | omega)
  have k1_0_8 := (bcell hb1).1 (w.heap.size + 1) 8 (by first | (simp; done) | (simp; omega) | omega)
  have k1_0_9 := (bcell hb1).1 (w.heap.size + 1) 9 (by first | (simp; done) | (simp; omega) | omega)
  have k1_0_10 := (bcell hb1).1 (w.heap.size + 1) 10 (by first | (simp; done) | (simp; omega) | omega)
  have k1_0_11 := (bcell hb1).1 (w.heap.size + 1) 11 (by first | (simp; done) | (simp; omega) | omega)
  have l1_0 : (w.heap.size + 1) < w1.heap.size := (by omega)
  have q1_0 := fun o => (bcell hb1).2 (w.heap.size + 1) o (by first | (simp; done) | (simp; omega) | omega)
  have k1_1 := fun o => (bcell hb1).1 (w.heap.size + 1 + 1) o (by first | (simp; done) | (simp; omega) | omega)
  have l1_1 : (w.heap.size + 1 + 1) < w1.heap.size := (by omega)
  have q1_1 := fun o => (bcell hb1).2 (w.heap.size + 1 + 1) o (by first | (simp; done) | (simp; omega) | omega)
  simp (maxDischargeDepth := 6) [go_sem, *] at k1_0_0 k1_0_1 k1_0_2 k1_0_3 k1_0_4 k1_0_5 k1_0_6 k1_0_7 k1_0_8 k1_0_9 k1_0_10 k1_0_11 q1_0 k1_1 q1_1
  have HB1 := Lib.hid hb1
  clear hb1
  go_wp2
  refine bodyPost_ret (v := .tuple #[.agg #[.int .i64 b.stop.mode, .int .i64 b.stop.base, .slice A n c, .int .i64 b.stop.orders.page, .int .i64 b.stop.orders.head, .int .i64 b.stop.orders.tail, .bool b.stop.stopped, .int .i64 b.stop.fences, .int .i64 b.stop.faults.page, .int .i64 b.stop.faults.head, .int .i64 b.stop.faults.tail, .bool b.stop.lost], .int .i64 0]) ?_ rfl ⟨A, n, c, rfl, ?_, ?_, new_same _ _⟩
  · simp (maxDischargeDepth := 8) [results, Try.results49, go_sem, Brg.stop, *]
  · exact lines_now HL.out (by (repeat (first | (with_reducible exact Below.refl _ _) | (with_reducible refine Below.drew ?_) | (with_reducible refine bdrewN ?_ _) | ((with_reducible refine Below.setCell ?_ ?_ _); rotate_left; exact (by first | (simp; done) | (simp; omega) | omega)) | ((with_reducible refine Below.alloc ?_ ?_ _); rotate_left; exact (by first | (simp; done) | (simp; omega) | omega)) | ((with_reducible refine Below.trans ?_ (HB1.out.mono ?_)); rotate_left; exact (by first | (simp; done) | (simp; omega) | omega)))))
  · (repeat (first | (with_reducible exact Below.refl _ _) | (with_reducible refine Below.drew ?_) | (with_reducible refine bdrewN ?_ _) | ((with_reducible refine Below.setCell ?_ ?_ _); rotate_left; exact (by first | (simp; done) | (simp; omega) | omega)) | ((with_reducible refine Below.alloc ?_ ?_ _); rotate_left; exact (by first | (simp; done) | (simp; omega) | omega)) | ((with_reducible refine Below.trans ?_ (HB1.out.mono ?_)); rotate_left; exact (by first | (simp; done) | (simp; omega) | omega))))
set_option maxRecDepth 100000 in
set_option maxHeartbeats 8000000 in
include hx hl h0 hb hs hp hv in
theorem obd_good (ms : List Line) (F : Int) (hr0 : rdoE v = 0) (hm : dropL b.cache (v % 4) (v / 4 % 8) (v / 32) = ms) (hF : F = if v % 4 = 0 then (b.fences + 1) % 1000 else b.fences) : Calls Try.prog 49 #[.agg #[.slice m 512 cm'], .agg #[.int .i64 b.mode, .int .i64 b.base, .slice A n c, .int .i64 b.orders.page, .int .i64 b.orders.head, .int .i64 b.orders.tail, .bool b.stopped, .int .i64 b.fences, .int .i64 b.faults.page, .int .i64 b.faults.head, .int .i64 b.faults.tail, .bool b.lost]] w (ObdC w A (obC b ms F) 0) := by
  have t0 : (b.orders.head == b.orders.tail) = false := beq_eq_false_iff_ne.2 hp
  have hr := ((ckB_iff b).1 hb).2.2.1
  unfold ringR at hr
  obtain ⟨⟨r1, r2⟩, ⟨r3, r4⟩, r5, r6⟩ := hr
  have hvx := rd_at (xs := xs) (i := b.orders.page * 8 + b.orders.head) (cm_inv h0).1 (by omega)
  obtain ⟨g, off, rfl, hg, hc⟩ := hx.at_ (by omega)
  have hcv := hc _ _ hvx
  rw [show rd xs (b.orders.page * 8 + b.orders.head) = v from hv, show b.orders.page * 8 = 8 * b.orders.page from Int.mul_comm _ _] at hcv
  have e1 : IntKind.i64.wrap (8 * b.orders.page) = 8 * b.orders.page := IntWalk.i64_in _ (by omega)
  have e2 : IntKind.i64.wrap (8 * b.orders.page + b.orders.head) = 8 * b.orders.page + b.orders.head := IntWalk.i64_in _ (by omega)
  have HL := Lib.hid hl
  have hg2 : g < w.heap.size + 1 := by omega
  have hg3 : g < w.heap.size + 1 + 1 := by omega
  have HM := Lib.hid hm
  have HRR := Lib.hid (show rdoV v = .tuple #[.agg #[.int .i64 (v % 4), .int .i64 (v / 4 % 8), .int .i64 (v / 32)], .int .i64 0] by simp [rdoV, rdoF, hr0])
  have hk := (ord_rng hr0).2
  unfold OrdR at hk
  have HDE := Lib.hid (show dropE b.cache (v % 4) = 0 from dropE_0 ((ckB_iff b).1 hb).2.1 (by omega))
  have hf := ((ckB_iff b).1 hb).1.2.2
  obtain ⟨hf1, hf2⟩ := hf
  have HFF := Lib.hid hF
  have e3 : IntKind.i64.wrap (b.fences + 1) = b.fences + 1 := IntWalk.i64_in _ (by omega)
  have e4 : IntKind.i64.wrap (b.orders.head + 1) = b.orders.head + 1 := IntWalk.i64_in _ (by omega)
  have e5 : (b.orders.head + 1).tmod 8 = (b.orders.head + 1) % 8 := Int.tmod_eq_emod_of_nonneg (by omega)
  obtain ⟨vk, hvk⟩ : ∃ k, v % 4 = k := ⟨_, rfl⟩
  obtain ⟨vd, hvd⟩ : ∃ k, v / 4 % 8 = k := ⟨_, rfl⟩
  obtain ⟨vp, hvp⟩ : ∃ k, v / 32 = k := ⟨_, rfl⟩
  rw [hvk] at HM HRR HDE HFF
  rw [hvd] at HM HRR
  rw [hvp] at HM HRR
  clear hx hl h0 hb hp hv hr0 hm hF hk hvk hvd hvp hc hvx
  by_cases hq : vk = 0
  · have t2 : (vk == 0) = true := by rw [beq_iff_eq]; exact hq
    by_cases h9 : b.fences + 1 = 1000
    · have HQ := Lib.hid (show 0 = F by rw [HFF.out, if_pos hq, h9]; rfl)
      have t3 : (b.fences + 1 == 1000) = true := by rw [beq_iff_eq]; exact h9
      have hss := fun (W : World) => set_set W (w.heap.size + 1) 7 (.int .i64 (b.fences + 1)) (.int .i64 0)
      clear hq h9
      go_enter Try.func49, Try.ntmps49
      go_wp2_with fail
      refine (ref_OrderOf _ _).mono ?_
      rw [HRR.out]
      rintro e w1 ⟨rfl, hb1⟩
      have hz1 := hb1.size
      (try simp only [World.size_alloc, World.size_setCell, World.size_drew] at hz1)
      have k1_0 := fun o => (bcell hb1).1 (w.heap.size + 1) o (by first | (simp; done) | (simp; omega) | omega)
      have l1_0 : (w.heap.size + 1) < w1.heap.size := (by omega)
      have q1_0 := fun o => (bcell hb1).2 (w.heap.size + 1) o (by first | (simp; done) | (simp; omega) | omega)
      have k1_1 := fun o => (bcell hb1).1 (w.heap.size + 1 + 1) o (by first | (simp; done) | (simp; omega) | omega)
      have l1_1 : (w.heap.size + 1 + 1) < w1.heap.size := (by omega)
      have q1_1 := fun o => (bcell hb1).2 (w.heap.size + 1 + 1) o (by first | (simp; done) | (simp; omega) | omega)
      simp (maxDischargeDepth := 6) [go_sem, *] at k1_0 q1_0 k1_1 q1_1
      have HB1 := Lib.hid hb1
      clear hb1
      go_wp2_with fail
      refine (ref_Dropped A n c b.cache ms vk vd vp 0 _ (lines_now HL.out (by (repeat (first | (with_reducible exact Below.refl _ _) | (with_reducible refine Below.drew ?_) | (with_reducible refine bdrewN ?_ _) | ((with_reducible refine Below.setCell ?_ ?_ _); rotate_left; exact (by first | (simp; done) | (simp; omega) | omega)) | ((with_reducible refine Below.alloc ?_ ?_ _); rotate_left; exact (by first | (simp; done) | (simp; omega) | omega)) | ((with_reducible refine Below.trans ?_ (HB1.out.mono ?_)); rotate_left; exact (by first | (simp; done) | (simp; omega) | omega)))))) HDE.out HM.out).mono ?_
      rintro e w2 ⟨A2, c2, rfl, hl2, hb2, hn2⟩
      have hz2 := hb2.size
      (try simp only [World.size_alloc, World.size_setCell, World.size_drew] at hz2)
      have k2_0 := fun o => (bcell hb2).1 (w.heap.size + 1) o (by first | (simp; done) | (simp; omega) | omega)
      have l2_0 : (w.heap.size + 1) < w2.heap.size := (by omega)
      have q2_0 := fun o => (bcell hb2).2 (w.heap.size + 1) o (by first | (simp; done) | (simp; omega) | omega)
      have k2_1 := fun o => (bcell hb2).1 (w.heap.size + 1 + 1) o (by first | (simp; done) | (simp; omega) | omega)
      have l2_1 : (w.heap.size + 1 + 1) < w2.heap.size := (by omega)
      have q2_1 := fun o => (bcell hb2).2 (w.heap.size + 1 + 1) o (by first | (simp; done) | (simp; omega) | omega)
      have k2_2 := fun o => (bcell hb2).1 (w1.heap.size) o (by first | (simp; done) | (simp; omega) | omega)
      have l2_2 : (w1.heap.size) < w2.heap.size := (by omega)
      have q2_2 := fun o => (bcell hb2).2 (w1.heap.size) o (by first | (simp; done) | (simp; omega) | omega)
      simp (maxDischargeDepth := 6) [go_sem, *] at k2_0 q2_0 k2_1 q2_1 k2_2 q2_2
      have HB2 := Lib.hid hb2
      clear hb2
      (try simp only [World.size_alloc, World.size_setCell, World.size_drew] at hn2)
      have HL2 := Lib.hid hl2
      have HN2 := Lib.hid (show ∀ ad, A2 = some ad → w.heap.size + 1 + 1 < ad.block from fun ad e => by have := hn2 ad e; omega)
      have u1 : ¬ w.heap.size + 1 = w1.heap.size := by omega
      have u2 : ¬ w1.heap.size = w.heap.size + 1 := by omega
      clear hl2 hn2 k1_0 q1_0 l1_0 k1_1 q1_1 l1_1
      go_wp2
      refine bodyPost_ret (v := .tuple #[.agg #[.int .i64 (obC b ms F).mode, .int .i64 (obC b ms F).base, .slice A2 ms.length c2, .int .i64 (obC b ms F).orders.page, .int .i64 (obC b ms F).orders.head, .int .i64 (obC b ms F).orders.tail, .bool (obC b ms F).stopped, .int .i64 (obC b ms F).fences, .int .i64 (obC b ms F).faults.page, .int .i64 (obC b ms F).faults.head, .int .i64 (obC b ms F).faults.tail, .bool (obC b ms F).lost], .int .i64 0]) ?_ rfl ⟨A2, ms.length, c2, rfl, ?_, ?_, ?_⟩
      · simp (maxDischargeDepth := 8) [results, Try.results49, go_sem, obC, ← HQ.out, *]
      · refine Lines.more (B := w2.heap.size) ?_ (by simp)
        show Lines _ _ _ _ _ ms
        (repeat (first | ((with_reducible refine lines_off ?_ ?_ _); rotate_left; exact (by intro ad e h; have := HN2.out ad e; dsimp only at h; omega)) | (with_reducible exact HL2.out)))
      · (repeat (first | (with_reducible exact Below.refl _ _) | (with_reducible refine Below.drew ?_) | (with_reducible refine bdrewN ?_ _) | ((with_reducible refine Below.setCell ?_ ?_ _); rotate_left; exact (by first | (simp; done) | (simp; omega) | omega)) | ((with_reducible refine Below.alloc ?_ ?_ _); rotate_left; exact (by first | (simp; done) | (simp; omega) | omega)) | ((with_reducible refine Below.trans ?_ (HB2.out.mono ?_)); rotate_left; exact (by first | (simp; done) | (simp; omega) | omega)) | ((with_reducible refine Below.trans ?_ (HB1.out.mono ?_)); rotate_left; exact (by first | (simp; done) | (simp; omega) | omega))))
      · intro ad e; have := HN2.out ad e; exact Or.inr (by omega)
    · have HQ := Lib.hid (show b.fences + 1 = F by rw [HFF.out, if_pos hq]; omega)
      have t3 : (b.fences + 1 == 1000) = false := beq_eq_false_iff_ne.2 h9
      clear hq h9
      go_enter Try.func49, Try.ntmps49
      go_wp2_with fail
      refine (ref_OrderOf _ _).mono ?_
      rw [HRR.out]
      rintro e w1 ⟨rfl, hb1⟩
      have hz1 := hb1.size
      (try simp only [World.size_alloc, World.size_setCell, World.size_drew] at hz1)
      have k1_0 := fun o => (bcell hb1).1 (w.heap.size + 1) o (by first | (simp; done) | (simp; omega) | omega)
      have l1_0 : (w.heap.size + 1) < w1.heap.size := (by omega)
      have q1_0 := fun o => (bcell hb1).2 (w.heap.size + 1) o (by first | (simp; done) | (simp; omega) | omega)
      have k1_1 := fun o => (bcell hb1).1 (w.heap.size + 1 + 1) o (by first | (simp; done) | (simp; omega) | omega)
      have l1_1 : (w.heap.size + 1 + 1) < w1.heap.size := (by omega)
      have q1_1 := fun o => (bcell hb1).2 (w.heap.size + 1 + 1) o (by first | (simp; done) | (simp; omega) | omega)
      simp (maxDischargeDepth := 6) [go_sem, *] at k1_0 q1_0 k1_1 q1_1
      have HB1 := Lib.hid hb1
      clear hb1
      go_wp2_with fail
      refine (ref_Dropped A n c b.cache ms vk vd vp 0 _ (lines_now HL.out (by (repeat (first | (with_reducible exact Below.refl _ _) | (with_reducible refine Below.drew ?_) | (with_reducible refine bdrewN ?_ _) | ((with_reducible refine Below.setCell ?_ ?_ _); rotate_left; exact (by first | (simp; done) | (simp; omega) | omega)) | ((with_reducible refine Below.alloc ?_ ?_ _); rotate_left; exact (by first | (simp; done) | (simp; omega) | omega)) | ((with_reducible refine Below.trans ?_ (HB1.out.mono ?_)); rotate_left; exact (by first | (simp; done) | (simp; omega) | omega)))))) HDE.out HM.out).mono ?_
      rintro e w2 ⟨A2, c2, rfl, hl2, hb2, hn2⟩
      have hz2 := hb2.size
      (try simp only [World.size_alloc, World.size_setCell, World.size_drew] at hz2)
      have k2_0 := fun o => (bcell hb2).1 (w.heap.size + 1) o (by first | (simp; done) | (simp; omega) | omega)
      have l2_0 : (w.heap.size + 1) < w2.heap.size := (by omega)
      have q2_0 := fun o => (bcell hb2).2 (w.heap.size + 1) o (by first | (simp; done) | (simp; omega) | omega)
      have k2_1 := fun o => (bcell hb2).1 (w.heap.size + 1 + 1) o (by first | (simp; done) | (simp; omega) | omega)
      have l2_1 : (w.heap.size + 1 + 1) < w2.heap.size := (by omega)
      have q2_1 := fun o => (bcell hb2).2 (w.heap.size + 1 + 1) o (by first | (simp; done) | (simp; omega) | omega)
      have k2_2 := fun o => (bcell hb2).1 (w1.heap.size) o (by first | (simp; done) | (simp; omega) | omega)
      have l2_2 : (w1.heap.size) < w2.heap.size := (by omega)
      have q2_2 := fun o => (bcell hb2).2 (w1.heap.size) o (by first | (simp; done) | (simp; omega) | omega)
      simp (maxDischargeDepth := 6) [go_sem, *] at k2_0 q2_0 k2_1 q2_1 k2_2 q2_2
      have HB2 := Lib.hid hb2
      clear hb2
      (try simp only [World.size_alloc, World.size_setCell, World.size_drew] at hn2)
      have HL2 := Lib.hid hl2
      have HN2 := Lib.hid (show ∀ ad, A2 = some ad → w.heap.size + 1 + 1 < ad.block from fun ad e => by have := hn2 ad e; omega)
      have u1 : ¬ w.heap.size + 1 = w1.heap.size := by omega
      have u2 : ¬ w1.heap.size = w.heap.size + 1 := by omega
      clear hl2 hn2 k1_0 q1_0 l1_0 k1_1 q1_1 l1_1
      go_wp2
      refine bodyPost_ret (v := .tuple #[.agg #[.int .i64 (obC b ms F).mode, .int .i64 (obC b ms F).base, .slice A2 ms.length c2, .int .i64 (obC b ms F).orders.page, .int .i64 (obC b ms F).orders.head, .int .i64 (obC b ms F).orders.tail, .bool (obC b ms F).stopped, .int .i64 (obC b ms F).fences, .int .i64 (obC b ms F).faults.page, .int .i64 (obC b ms F).faults.head, .int .i64 (obC b ms F).faults.tail, .bool (obC b ms F).lost], .int .i64 0]) ?_ rfl ⟨A2, ms.length, c2, rfl, ?_, ?_, ?_⟩
      · simp (maxDischargeDepth := 8) [results, Try.results49, go_sem, obC, ← HQ.out, *]
      · refine Lines.more (B := w2.heap.size) ?_ (by simp)
        show Lines _ _ _ _ _ ms
        (repeat (first | ((with_reducible refine lines_off ?_ ?_ _); rotate_left; exact (by intro ad e h; have := HN2.out ad e; dsimp only at h; omega)) | (with_reducible exact HL2.out)))
      · (repeat (first | (with_reducible exact Below.refl _ _) | (with_reducible refine Below.drew ?_) | (with_reducible refine bdrewN ?_ _) | ((with_reducible refine Below.setCell ?_ ?_ _); rotate_left; exact (by first | (simp; done) | (simp; omega) | omega)) | ((with_reducible refine Below.alloc ?_ ?_ _); rotate_left; exact (by first | (simp; done) | (simp; omega) | omega)) | ((with_reducible refine Below.trans ?_ (HB2.out.mono ?_)); rotate_left; exact (by first | (simp; done) | (simp; omega) | omega)) | ((with_reducible refine Below.trans ?_ (HB1.out.mono ?_)); rotate_left; exact (by first | (simp; done) | (simp; omega) | omega))))
      · intro ad e; have := HN2.out ad e; exact Or.inr (by omega)
  · have HQ := Lib.hid (show b.fences = F by rw [HFF.out, if_neg hq])
    have t2 : (vk == 0) = false := beq_eq_false_iff_ne.2 hq
    clear hq
    go_enter Try.func49, Try.ntmps49
    go_wp2_with fail
    refine (ref_OrderOf _ _).mono ?_
    rw [HRR.out]
    rintro e w1 ⟨rfl, hb1⟩
    have hz1 := hb1.size
    (try simp only [World.size_alloc, World.size_setCell, World.size_drew] at hz1)
    have k1_0 := fun o => (bcell hb1).1 (w.heap.size + 1) o (by first | (simp; done) | (simp; omega) | omega)
    have l1_0 : (w.heap.size + 1) < w1.heap.size := (by omega)
    have q1_0 := fun o => (bcell hb1).2 (w.heap.size + 1) o (by first | (simp; done) | (simp; omega) | omega)
    have k1_1 := fun o => (bcell hb1).1 (w.heap.size + 1 + 1) o (by first | (simp; done) | (simp; omega) | omega)
    have l1_1 : (w.heap.size + 1 + 1) < w1.heap.size := (by omega)
    have q1_1 := fun o => (bcell hb1).2 (w.heap.size + 1 + 1) o (by first | (simp; done) | (simp; omega) | omega)
    simp (maxDischargeDepth := 6) [go_sem, *] at k1_0 q1_0 k1_1 q1_1
    have HB1 := Lib.hid hb1
    clear hb1
    go_wp2_with fail
    refine (ref_Dropped A n c b.cache ms vk vd vp 0 _ (lines_now HL.out (by (repeat (first | (with_reducible exact Below.refl _ _) | (with_reducible refine Below.drew ?_) | (with_reducible refine bdrewN ?_ _) | ((with_reducible refine Below.setCell ?_ ?_ _); rotate_left; exact (by first | (simp; done) | (simp; omega) | omega)) | ((with_reducible refine Below.alloc ?_ ?_ _); rotate_left; exact (by first | (simp; done) | (simp; omega) | omega)) | ((with_reducible refine Below.trans ?_ (HB1.out.mono ?_)); rotate_left; exact (by first | (simp; done) | (simp; omega) | omega)))))) HDE.out HM.out).mono ?_
    rintro e w2 ⟨A2, c2, rfl, hl2, hb2, hn2⟩
    have hz2 := hb2.size
    (try simp only [World.size_alloc, World.size_setCell, World.size_drew] at hz2)
    have k2_0 := fun o => (bcell hb2).1 (w.heap.size + 1) o (by first | (simp; done) | (simp; omega) | omega)
    have l2_0 : (w.heap.size + 1) < w2.heap.size := (by omega)
    have q2_0 := fun o => (bcell hb2).2 (w.heap.size + 1) o (by first | (simp; done) | (simp; omega) | omega)
    have k2_1 := fun o => (bcell hb2).1 (w.heap.size + 1 + 1) o (by first | (simp; done) | (simp; omega) | omega)
    have l2_1 : (w.heap.size + 1 + 1) < w2.heap.size := (by omega)
    have q2_1 := fun o => (bcell hb2).2 (w.heap.size + 1 + 1) o (by first | (simp; done) | (simp; omega) | omega)
    have k2_2 := fun o => (bcell hb2).1 (w1.heap.size) o (by first | (simp; done) | (simp; omega) | omega)
    have l2_2 : (w1.heap.size) < w2.heap.size := (by omega)
    have q2_2 := fun o => (bcell hb2).2 (w1.heap.size) o (by first | (simp; done) | (simp; omega) | omega)
    simp (maxDischargeDepth := 6) [go_sem, *] at k2_0 q2_0 k2_1 q2_1 k2_2 q2_2
    have HB2 := Lib.hid hb2
    clear hb2
    (try simp only [World.size_alloc, World.size_setCell, World.size_drew] at hn2)
    have HL2 := Lib.hid hl2
    have HN2 := Lib.hid (show ∀ ad, A2 = some ad → w.heap.size + 1 + 1 < ad.block from fun ad e => by have := hn2 ad e; omega)
    have u1 : ¬ w.heap.size + 1 = w1.heap.size := by omega
    have u2 : ¬ w1.heap.size = w.heap.size + 1 := by omega
    clear hl2 hn2 k1_0 q1_0 l1_0 k1_1 q1_1 l1_1
    go_wp2
    refine bodyPost_ret (v := .tuple #[.agg #[.int .i64 (obC b ms F).mode, .int .i64 (obC b ms F).base, .slice A2 ms.length c2, .int .i64 (obC b ms F).orders.page, .int .i64 (obC b ms F).orders.head, .int .i64 (obC b ms F).orders.tail, .bool (obC b ms F).stopped, .int .i64 (obC b ms F).fences, .int .i64 (obC b ms F).faults.page, .int .i64 (obC b ms F).faults.head, .int .i64 (obC b ms F).faults.tail, .bool (obC b ms F).lost], .int .i64 0]) ?_ rfl ⟨A2, ms.length, c2, rfl, ?_, ?_, ?_⟩
    · simp (maxDischargeDepth := 8) [results, Try.results49, go_sem, obC, ← HQ.out, *]
    · refine Lines.more (B := w2.heap.size) ?_ (by simp)
      show Lines _ _ _ _ _ ms
      (repeat (first | ((with_reducible refine lines_off ?_ ?_ _); rotate_left; exact (by intro ad e h; have := HN2.out ad e; dsimp only at h; omega)) | (with_reducible exact HL2.out)))
    · (repeat (first | (with_reducible exact Below.refl _ _) | (with_reducible refine Below.drew ?_) | (with_reducible refine bdrewN ?_ _) | ((with_reducible refine Below.setCell ?_ ?_ _); rotate_left; exact (by first | (simp; done) | (simp; omega) | omega)) | ((with_reducible refine Below.alloc ?_ ?_ _); rotate_left; exact (by first | (simp; done) | (simp; omega) | omega)) | ((with_reducible refine Below.trans ?_ (HB2.out.mono ?_)); rotate_left; exact (by first | (simp; done) | (simp; omega) | omega)) | ((with_reducible refine Below.trans ?_ (HB1.out.mono ?_)); rotate_left; exact (by first | (simp; done) | (simp; omega) | omega))))
    · intro ad e; have := HN2.out ad e; exact Or.inr (by omega)
end
end

section
theorem lenR_0 {r : Ring} (h : ringR r) : lenR r = 0 ↔ r.head = r.tail := by
  unfold ringR at h
  unfold lenR
  omega
theorem ref_Obeyed (xs : List Int) (m : Option Addr) (cm' : Nat) (b : Brg) (A : Option Addr) (n c : Nat) (rb : Brg) (E : Int) (w : World) (hx : Ints w w.heap.size m 512 xs) (hl : Lines w w.heap.size A n c b.cache) (h0 : cm xs = 0) (hb : ckB b = 0) (hr : obeyA xs b = rb) (hE : obeyE xs b = E) :
    Calls Try.prog 49 #[.agg #[.slice m 512 cm'], .agg #[.int .i64 b.mode, .int .i64 b.base, .slice A n c, .int .i64 b.orders.page, .int .i64 b.orders.head, .int .i64 b.orders.tail, .bool b.stopped, .int .i64 b.fences, .int .i64 b.faults.page, .int .i64 b.faults.head, .int .i64 b.faults.tail, .bool b.lost]] w (ObdC w A rb E) := by
  subst hE
  subst hr
  have e := obeyE_0 h0 hb
  by_cases hs : b.stopped = true
  · rw [if_pos hs] at e
    have e2 : obeyA xs b = .no := by unfold obeyA; rw [if_neg (by rw [e]; decide)]
    rw [e, e2]
    exact obd_stopped m cm' b A n c w hs
  · have hs' : b.stopped = false := by simpa using hs
    rw [if_neg hs] at e
    have hor := ((ckB_iff b).1 hb).2.2.1
    by_cases hl0 : lenR b.orders = 0
    · rw [if_pos hl0] at e
      have e2 : obeyA xs b = .no := by unfold obeyA; rw [if_neg (by rw [e]; decide)]
      rw [e, e2]
      exact obd_empty m cm' b A n c w hs' ((lenR_0 hor).1 hl0)
    · rw [if_neg hl0] at e
      have e2 : obeyA xs b = obeyM xs b := by unfold obeyA; rw [if_pos e]
      have hne : b.orders.head ≠ b.orders.tail := fun h => hl0 ((lenR_0 hor).2 h)
      rw [e, e2]
      by_cases hrd : rdoE (popV xs b.orders) = 0
      · have e3 : obeyM xs b = obC b (dropL b.cache (popV xs b.orders % 4) (popV xs b.orders / 4 % 8) (popV xs b.orders / 32)) (if popV xs b.orders % 4 = 0 then (b.fences + 1) % 1000 else b.fences) := by
          unfold obeyM; rw [if_pos hrd]; rfl
        rw [e3]
        exact obd_good xs m cm' b A n c w hx hl h0 hb hs' hne _ rfl _ _ hrd rfl rfl
      · have e3 : obeyM xs b = b.stop := by unfold obeyM; rw [if_neg hrd]; rfl
        rw [e3]
        exact obd_bad xs m cm' b A n c w hx hl h0 hb hs' hne _ rfl hrd
end
end Go.Proofs.Ytbopdijnojaaiac
