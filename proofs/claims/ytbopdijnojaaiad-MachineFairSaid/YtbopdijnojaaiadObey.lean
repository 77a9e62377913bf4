/- Orders obeyed: the program's Obey, whatever comes. No statement of the seat is proved here. -/
import Derived.Test.YtbopdijnojaaiadBridgeS
import Derived.Test.YtbopdijnojaaiadRingR
import Derived.Test.YtbopdijnojaaiadWord
import Derived.Test.YtbopdijnojaaiadDrop
import Derived.IntWalk
namespace Go.Proofs.Ytbopdijnojaaiad
open Go.RowKit
set_option linter.unusedSimpArgs false
set_option linter.unusedVariables false

section
/-- what Obey answers. -/
def ObeyC (w : World) (rb : Brg) (E : Int) (e : Ending) (w' : World) : Prop :=
  ∃ L n c, e = .returned (.tuple #[.agg #[.int .i64 rb.mode, .int .i64 rb.base, .slice L n c, .int .i64 rb.orders.page, .int .i64 rb.orders.head, .int .i64 rb.orders.tail, .bool rb.stopped, .int .i64 rb.fences, .int .i64 rb.faults.page, .int .i64 rb.faults.head, .int .i64 rb.faults.tail, .bool rb.lost], .int .i64 E]) ∧ Lines w' w'.heap.size L n c rb.cache ∧ Below w.heap.size w w' ∧ ∀ ad, L = some ad → w.heap.size ≤ ad.block
theorem obey_no {w w' : World} {E : Int} (hb : Below w.heap.size w w') : ObeyC w .no E (.returned (.tuple #[.agg #[.int .i64 Brg.no.mode, .int .i64 Brg.no.base, .slice none 0 0, .int .i64 Brg.no.orders.page, .int .i64 Brg.no.orders.head, .int .i64 Brg.no.orders.tail, .bool Brg.no.stopped, .int .i64 Brg.no.fences, .int .i64 Brg.no.faults.page, .int .i64 Brg.no.faults.head, .int .i64 Brg.no.faults.tail, .bool Brg.no.lost], .int .i64 E])) w' :=
  ⟨none, 0, 0, rfl, lines_none _ _, hb, fun _ h => by cases h⟩
section
variable (xs : List Int) (m : Option Addr) (nm cm' : Nat) (b : Brg) (A : Option Addr) (n c : Nat) (w : World) (hx : Ints w w.heap.size m nm xs) (hl : Lines w w.heap.size A n c b.cache)
set_option maxRecDepth 100000 in
set_option maxHeartbeats 4000000 in
include hx hl in
theorem Obey_no1 (hE : allE xs b ≠ 0) :
    Calls Try.prog 21 #[.agg #[.slice m nm cm'], .agg #[.int .i64 b.mode, .int .i64 b.base, .slice A n c, .int .i64 b.orders.page, .int .i64 b.orders.head, .int .i64 b.orders.tail, .bool b.stopped, .int .i64 b.fences, .int .i64 b.faults.page, .int .i64 b.faults.head, .int .i64 b.faults.tail, .bool b.lost]] w (ObeyC w .no (allE xs b)) := by
  have HX := Lib.hid hx
  have HL := Lib.hid hl
  have t1 : (allE xs b != 0) = true := by rw [bne_iff_ne]; exact hE
  clear hx hl hE
  go_enter Try.func21, Try.ntmps21
  go_wp2_with fail
  refine (bridge_all xs _ _ _ b _ _ _ _ (ints_now HX.out (by (repeat (first | (with_reducible exact Below.refl _ _) | (with_reducible refine Below.drew ?_) | (with_reducible refine bdrewN ?_ _) | ((with_reducible refine Below.setCell ?_ ?_ _); rotate_left; exact (by first | (simp; done) | (simp; omega) | omega)) | ((with_reducible refine Below.alloc ?_ ?_ _); rotate_left; exact (by first | (simp; done) | (simp; omega) | omega)))))) (lines_now HL.out (by (repeat (first | (with_reducible exact Below.refl _ _) | (with_reducible refine Below.drew ?_) | (with_reducible refine bdrewN ?_ _) | ((with_reducible refine Below.setCell ?_ ?_ _); rotate_left; exact (by first | (simp; done) | (simp; omega) | omega)) | ((with_reducible refine Below.alloc ?_ ?_ _); rotate_left; exact (by first | (simp; done) | (simp; omega) | omega))))))).mono ?_
  rintro e w1 ⟨rfl, hb1⟩
  have hz1 := hb1.size
  (try simp only [World.size_alloc, World.size_setCell, World.size_drew] at hz1)
  have k1_0 := fun o => (bcell hb1).1 (w.heap.size + 1 + 1) o (by first | (simp; done) | (simp; omega) | omega)
  have l1_0 : (w.heap.size + 1 + 1) < w1.heap.size := (by omega)
  have q1_0 := fun o => (bcell hb1).2 (w.heap.size + 1 + 1) o (by first | (simp; done) | (simp; omega) | omega)
  simp (maxDischargeDepth := 6) [go_sem, *] at k1_0 q1_0
  have HB1 := Lib.hid hb1
  clear hb1
  go_wp2
  refine bodyPost_ret (v := .tuple #[.agg #[.int .i64 Brg.no.mode, .int .i64 Brg.no.base, .slice none 0 0, .int .i64 Brg.no.orders.page, .int .i64 Brg.no.orders.head, .int .i64 Brg.no.orders.tail, .bool Brg.no.stopped, .int .i64 Brg.no.fences, .int .i64 Brg.no.faults.page, .int .i64 Brg.no.faults.head, .int .i64 Brg.no.faults.tail, .bool Brg.no.lost], .int .i64 (allE xs b)]) ?_ rfl (obey_no ?_)
  · simp (maxDischargeDepth := 8) [results, Try.results21, go_sem, Brg.no, Ring.no, *]
  · (repeat (first | (with_reducible exact Below.refl _ _) | (with_reducible refine Below.drew ?_) | (with_reducible refine bdrewN ?_ _) | ((with_reducible refine Below.setCell ?_ ?_ _); rotate_left; exact (by first | (simp; done) | (simp; omega) | omega)) | ((with_reducible refine Below.alloc ?_ ?_ _); rotate_left; exact (by first | (simp; done) | (simp; omega) | omega)) | ((with_reducible refine Below.trans ?_ (HB1.out.mono ?_)); rotate_left; exact (by first | (simp; done) | (simp; omega) | omega))))
set_option maxRecDepth 100000 in
set_option maxHeartbeats 4000000 in
include hx hl in
theorem Obey_no2 (hE : allE xs b = 0) (hs : b.stopped = true) :
    Calls Try.prog 21 #[.agg #[.slice m nm cm'], .agg #[.int .i64 b.mode, .int .i64 b.base, .slice A n c, .int .i64 b.orders.page, .int .i64 b.orders.head, .int .i64 b.orders.tail, .bool b.stopped, .int .i64 b.fences, .int .i64 b.faults.page, .int .i64 b.faults.head, .int .i64 b.faults.tail, .bool b.lost]] w (ObeyC w .no 6) := by
  have HX := Lib.hid hx
  have HL := Lib.hid hl
  have HE := Lib.hid hE
  have HS := Lib.hid hs
  clear hx hl hE hs
  go_enter Try.func21, Try.ntmps21
  go_wp2_with fail
  refine (bridge_all xs _ _ _ b _ _ _ _ (ints_now HX.out (by (repeat (first | (with_reducible exact Below.refl _ _) | (with_reducible refine Below.drew ?_) | (with_reducible refine bdrewN ?_ _) | ((with_reducible refine Below.setCell ?_ ?_ _); rotate_left; exact (by first | (simp; done) | (simp; omega) | omega)) | ((with_reducible refine Below.alloc ?_ ?_ _); rotate_left; exact (by first | (simp; done) | (simp; omega) | omega)))))) (lines_now HL.out (by (repeat (first | (with_reducible exact Below.refl _ _) | (with_reducible refine Below.drew ?_) | (with_reducible refine bdrewN ?_ _) | ((with_reducible refine Below.setCell ?_ ?_ _); rotate_left; exact (by first | (simp; done) | (simp; omega) | omega)) | ((with_reducible refine Below.alloc ?_ ?_ _); rotate_left; exact (by first | (simp; done) | (simp; omega) | omega))))))).mono ?_
  rw [HE.out]
  rintro e w1 ⟨rfl, hb1⟩
  have hz1 := hb1.size
  (try simp only [World.size_alloc, World.size_setCell, World.size_drew] at hz1)
  have k1_0 := fun o => (bcell hb1).1 (w.heap.size + 1) o (by first | (simp; done) | (simp; omega) | omega)
  have l1_0 : (w.heap.size + 1) < w1.heap.size := (by omega)
  have q1_0 := fun o => (bcell hb1).2 (w.heap.size + 1) o (by first | (simp; done) | (simp; omega) | omega)
  have k1_1 := fun o => (bcell hb1).1 (w.heap.size + 1 + 1) o (by first | (simp; done) | (simp; omega) | omega)
  have l1_1 : (w.heap.size + 1 + 1) < w1.heap.size := (by omega)
  have q1_1 := fun o => (bcell hb1).2 (w.heap.size + 1 + 1) o (by first | (simp; done) | (simp; omega) | omega)
  simp (maxDischargeDepth := 6) [go_sem, *] at k1_0 q1_0 k1_1 q1_1
  have HB1 := Lib.hid hb1
  clear hb1
  have hs := HS.out
  go_wp2
  refine bodyPost_ret (v := .tuple #[.agg #[.int .i64 Brg.no.mode, .int .i64 Brg.no.base, .slice none 0 0, .int .i64 Brg.no.orders.page, .int .i64 Brg.no.orders.head, .int .i64 Brg.no.orders.tail, .bool Brg.no.stopped, .int .i64 Brg.no.fences, .int .i64 Brg.no.faults.page, .int .i64 Brg.no.faults.head, .int .i64 Brg.no.faults.tail, .bool Brg.no.lost], .int .i64 6]) ?_ rfl (obey_no ?_)
  · simp (maxDischargeDepth := 8) [results, Try.results21, go_sem, Brg.no, Ring.no, *]
  · (repeat (first | (with_reducible exact Below.refl _ _) | (with_reducible refine Below.drew ?_) | (with_reducible refine bdrewN ?_ _) | ((with_reducible refine Below.setCell ?_ ?_ _); rotate_left; exact (by first | (simp; done) | (simp; omega) | omega)) | ((with_reducible refine Below.alloc ?_ ?_ _); rotate_left; exact (by first | (simp; done) | (simp; omega) | omega)) | ((with_reducible refine Below.trans ?_ (HB1.out.mono ?_)); rotate_left; exact (by first | (simp; done) | (simp; omega) | omega))))
set_option maxRecDepth 100000 in
set_option maxHeartbeats 4000000 in
include hx hl in
theorem Obey_no3 (hE : allE xs b = 0) (hs : b.stopped = false) (hp : popE xs b.orders ≠ 0) :
    Calls Try.prog 21 #[.agg #[.slice m nm cm'], .agg #[.int .i64 b.mode, .int .i64 b.base, .slice A n c, .int .i64 b.orders.page, .int .i64 b.orders.head, .int .i64 b.orders.tail, .bool b.stopped, .int .i64 b.fences, .int .i64 b.faults.page, .int .i64 b.faults.head, .int .i64 b.faults.tail, .bool b.lost]] w (ObeyC w .no (popE xs b.orders)) := by
  have HX := Lib.hid hx
  have HL := Lib.hid hl
  have HE := Lib.hid hE
  have HS := Lib.hid hs
  have HP := Lib.hid (show popE xs ⟨b.orders.page, b.orders.head, b.orders.tail⟩ ≠ 0 from hp)
  have t1 : (popE xs ⟨b.orders.page, b.orders.head, b.orders.tail⟩ != 0) = true := by rw [bne_iff_ne]; exact hp
  clear hx hl hE hs hp
  go_enter Try.func21, Try.ntmps21
  go_wp2_with fail
  refine (bridge_all xs _ _ _ b _ _ _ _ (ints_now HX.out (by (repeat (first | (with_reducible exact Below.refl _ _) | (with_reducible refine Below.drew ?_) | (with_reducible refine bdrewN ?_ _) | ((with_reducible refine Below.setCell ?_ ?_ _); rotate_left; exact (by first | (simp; done) | (simp; omega) | omega)) | ((with_reducible refine Below.alloc ?_ ?_ _); rotate_left; exact (by first | (simp; done) | (simp; omega) | omega)))))) (lines_now HL.out (by (repeat (first | (with_reducible exact Below.refl _ _) | (with_reducible refine Below.drew ?_) | (with_reducible refine bdrewN ?_ _) | ((with_reducible refine Below.setCell ?_ ?_ _); rotate_left; exact (by first | (simp; done) | (simp; omega) | omega)) | ((with_reducible refine Below.alloc ?_ ?_ _); rotate_left; exact (by first | (simp; done) | (simp; omega) | omega))))))).mono ?_
  rw [HE.out]
  rintro e w1 ⟨rfl, hb1⟩
  have hz1 := hb1.size
  (try simp only [World.size_alloc, World.size_setCell, World.size_drew] at hz1)
  have k1_0 := fun o => (bcell hb1).1 (w.heap.size) o (by first | (simp; done) | (simp; omega) | omega)
  have l1_0 : (w.heap.size) < w1.heap.size := (by omega)
  have q1_0 := fun o => (bcell hb1).2 (w.heap.size) o (by first | (simp; done) | (simp; omega) | omega)
  have k1_1 := fun o => (bcell hb1).1 (w.heap.size + 1) o (by first | (simp; done) | (simp; omega) | omega)
  have l1_1 : (w.heap.size + 1) < w1.heap.size := (by omega)
  have q1_1 := fun o => (bcell hb1).2 (w.heap.size + 1) o (by first | (simp; done) | (simp; omega) | omega)
  have k1_2 := fun o => (bcell hb1).1 (w.heap.size + 1 + 1) o (by first | (simp; done) | (simp; omega) | omega)
  have l1_2 : (w.heap.size + 1 + 1) < w1.heap.size := (by omega)
  have q1_2 := fun o => (bcell hb1).2 (w.heap.size + 1 + 1) o (by first | (simp; done) | (simp; omega) | omega)
  simp (maxDischargeDepth := 6) [go_sem, *] at k1_0 q1_0 k1_1 q1_1 k1_2 q1_2
  have HB1 := Lib.hid hb1
  clear hb1
  have hs := HS.out
  go_wp2_with fail
  refine (ring_Pop_no _ _ _ xs _ _ _ _ (ints_now HX.out (by (repeat (first | (with_reducible exact Below.refl _ _) | (with_reducible refine Below.drew ?_) | (with_reducible refine bdrewN ?_ _) | ((with_reducible refine Below.setCell ?_ ?_ _); rotate_left; exact (by first | (simp; done) | (simp; omega) | omega)) | ((with_reducible refine Below.alloc ?_ ?_ _); rotate_left; exact (by first | (simp; done) | (simp; omega) | omega)) | ((with_reducible refine Below.trans ?_ (HB1.out.mono ?_)); rotate_left; exact (by first | (simp; done) | (simp; omega) | omega)))))) HP.out).mono ?_
  rintro e w2 ⟨rfl, hb2⟩
  have hz2 := hb2.size
  (try simp only [World.size_alloc, World.size_setCell, World.size_drew] at hz2)
  have k2_0 := fun o => (bcell hb2).1 (w.heap.size + 1 + 1) o (by first | (simp; done) | (simp; omega) | omega)
  have l2_0 : (w.heap.size + 1 + 1) < w2.heap.size := (by omega)
  have q2_0 := fun o => (bcell hb2).2 (w.heap.size + 1 + 1) o (by first | (simp; done) | (simp; omega) | omega)
  simp (maxDischargeDepth := 6) [go_sem, *] at k2_0 q2_0
  have HB2 := Lib.hid hb2
  clear hb2
  go_wp2
  refine bodyPost_ret (v := .tuple #[.agg #[.int .i64 Brg.no.mode, .int .i64 Brg.no.base, .slice none 0 0, .int .i64 Brg.no.orders.page, .int .i64 Brg.no.orders.head, .int .i64 Brg.no.orders.tail, .bool Brg.no.stopped, .int .i64 Brg.no.fences, .int .i64 Brg.no.faults.page, .int .i64 Brg.no.faults.head, .int .i64 Brg.no.faults.tail, .bool Brg.no.lost], .int .i64 (popE xs ⟨b.orders.page, b.orders.head, b.orders.tail⟩)]) ?_ rfl (obey_no ?_)
  · simp (maxDischargeDepth := 8) [results, Try.results21, go_sem, Brg.no, Ring.no, *]
  · (repeat (first | (with_reducible exact Below.refl _ _) | (with_reducible refine Below.drew ?_) | (with_reducible refine bdrewN ?_ _) | ((with_reducible refine Below.setCell ?_ ?_ _); rotate_left; exact (by first | (simp; done) | (simp; omega) | omega)) | ((with_reducible refine Below.alloc ?_ ?_ _); rotate_left; exact (by first | (simp; done) | (simp; omega) | omega)) | ((with_reducible refine Below.trans ?_ (HB2.out.mono ?_)); rotate_left; exact (by first | (simp; done) | (simp; omega) | omega)) | ((with_reducible refine Below.trans ?_ (HB1.out.mono ?_)); rotate_left; exact (by first | (simp; done) | (simp; omega) | omega))))
end
section
variable (xs : List Int) (m : Option Addr) (cm' : Nat) (b : Brg) (A : Option Addr) (n c : Nat) (w : World) (hx : Ints w w.heap.size m 512 xs) (hl : Lines w w.heap.size A n c b.cache) (h0 : cm xs = 0) (hb : ckB b = 0) (hs : b.stopped = false) (hp : popE xs b.orders = 0) (v : Int) (hv : popV xs b.orders = v)
set_option maxRecDepth 100000 in
set_option maxHeartbeats 2000000 in
include hx hl h0 hb hs hp hv in
theorem Obey_bad (hr : rdoE v ≠ 0) :
    Calls Try.prog 21 #[.agg #[.slice m 512 cm'], .agg #[.int .i64 b.mode, .int .i64 b.base, .slice A n c, .int .i64 b.orders.page, .int .i64 b.orders.head, .int .i64 b.orders.tail, .bool b.stopped, .int .i64 b.fences, .int .i64 b.faults.page, .int .i64 b.faults.head, .int .i64 b.faults.tail, .bool b.lost]] w (ObeyC w { b with stopped := true } 0) := by
  have HX := Lib.hid hx
  have HL := Lib.hid hl
  have HE := Lib.hid (allE_0 h0 hb)
  have HS := Lib.hid hs
  have HP := Lib.hid (show popE xs ⟨b.orders.page, b.orders.head, b.orders.tail⟩ = 0 from hp)
  have HV := Lib.hid (show popV xs ⟨b.orders.page, b.orders.head, b.orders.tail⟩ = v from hv)
  have HN := Lib.hid (show n ≤ 1000 by have := ((ckC_iff _).1 ((ckB_iff b).1 hb).2.1).1; have := hl.1; omega)
  have t1 : (rdoE v != 0) = true := by rw [bne_iff_ne]; exact hr
  clear hx hl hs hp h0 hb hv hr
  go_enter Try.func21, Try.ntmps21
  go_wp2_with fail
  refine (bridge_all xs _ _ _ b _ _ _ _ (ints_now HX.out (by (repeat (first | (with_reducible exact Below.refl _ _) | (with_reducible refine Below.drew ?_) | (with_reducible refine bdrewN ?_ _) | ((with_reducible refine Below.setCell ?_ ?_ _); rotate_left; exact (by first | (simp; done) | (simp; omega) | omega)) | ((with_reducible refine Below.alloc ?_ ?_ _); rotate_left; exact (by first | (simp; done) | (simp; omega) | omega)))))) (lines_now HL.out (by (repeat (first | (with_reducible exact Below.refl _ _) | (with_reducible refine Below.drew ?_) | (with_reducible refine bdrewN ?_ _) | ((with_reducible refine Below.setCell ?_ ?_ _); rotate_left; exact (by first | (simp; done) | (simp; omega) | omega)) | ((with_reducible refine Below.alloc ?_ ?_ _); rotate_left; exact (by first | (simp; done) | (simp; omega) | omega))))))).mono ?_
  rw [HE.out]
  rintro e w1 ⟨rfl, hb1⟩
  have hz1 := hb1.size
  (try simp only [World.size_alloc, World.size_setCell, World.size_drew] at hz1)
  have k1_0 := fun o => (bcell hb1).1 (w.heap.size) o (by first | (simp; done) | (simp; omega) | omega)
  have l1_0 : (w.heap.size) < w1.heap.size := (by omega)
  have q1_0 := fun o => (bcell hb1).2 (w.heap.size) o (by first | (simp; done) | (simp; omega) | omega)
  have k1_1 := fun o => (bcell hb1).1 (w.heap.size + 1) o (by first | (simp; done) | (simp; omega) | omega)
  have l1_1 : (w.heap.size + 1) < w1.heap.size := (by omega)
  have q1_1 := fun o => (bcell hb1).2 (w.heap.size + 1) o (by first | (simp; done) | (simp; omega) | omega)
  have k1_2 := fun o => (bcell hb1).1 (w.heap.size + 1 + 1) o (by first | (simp; done) | (simp; omega) | omega)
  have l1_2 : (w.heap.size + 1 + 1) < w1.heap.size := (by omega)
  have q1_2 := fun o => (bcell hb1).2 (w.heap.size + 1 + 1) o (by first | (simp; done) | (simp; omega) | omega)
  simp (maxDischargeDepth := 6) [go_sem, *] at k1_0 q1_0 k1_1 q1_1 k1_2 q1_2
  have HB1 := Lib.hid hb1
  clear hb1
  have hs := HS.out
  go_wp2_with fail
  refine (ring_Pop _ _ _ xs _ _ _ _ (ints_now HX.out (by (repeat (first | (with_reducible exact Below.refl _ _) | (with_reducible refine Below.drew ?_) | (with_reducible refine bdrewN ?_ _) | ((with_reducible refine Below.setCell ?_ ?_ _); rotate_left; exact (by first | (simp; done) | (simp; omega) | omega)) | ((with_reducible refine Below.alloc ?_ ?_ _); rotate_left; exact (by first | (simp; done) | (simp; omega) | omega)) | ((with_reducible refine Below.trans ?_ (HB1.out.mono ?_)); rotate_left; exact (by first | (simp; done) | (simp; omega) | omega)))))) HP.out).mono ?_
  rw [HV.out]
  rintro e w2 ⟨rfl, hb2⟩
  have hz2 := hb2.size
  (try simp only [World.size_alloc, World.size_setCell, World.size_drew] at hz2)
  have k2_0 := fun o => (bcell hb2).1 (w.heap.size + 1) o (by first | (simp; done) | (simp; omega) | omega)
  have l2_0 : (w.heap.size + 1) < w2.heap.size := (by omega)
  have q2_0 := fun o => (bcell hb2).2 (w.heap.size + 1) o (by first | (simp; done) | (simp; omega) | omega)
  have k2_1 := fun o => (bcell hb2).1 (w.heap.size + 1 + 1) o (by first | (simp; done) | (simp; omega) | omega)
  have l2_1 : (w.heap.size + 1 + 1) < w2.heap.size := (by omega)
  have q2_1 := fun o => (bcell hb2).2 (w.heap.size + 1 + 1) o (by first | (simp; done) | (simp; omega) | omega)
  simp (maxDischargeDepth := 6) [go_sem, *] at k2_0 q2_0 k2_1 q2_1
  have HB2 := Lib.hid hb2
  clear hb2
  clear k1_0 q1_0 l1_0 k1_1 q1_1 l1_1 k1_2 q1_2 l1_2
  go_wp2_with fail
  have hcp := fun W h => bridge_Copy b A n c W h HN.out
  simp only [HS.out] at hcp
  refine (hcp _ (lines_now HL.out (by (repeat (first | (with_reducible exact Below.refl _ _) | (with_reducible refine Below.drew ?_) | (with_reducible refine bdrewN ?_ _) | ((with_reducible refine Below.setCell ?_ ?_ _); rotate_left; exact (by first | (simp; done) | (simp; omega) | omega)) | ((with_reducible refine Below.alloc ?_ ?_ _); rotate_left; exact (by first | (simp; done) | (simp; omega) | omega)) | ((with_reducible refine Below.trans ?_ (HB2.out.mono ?_)); rotate_left; exact (by first | (simp; done) | (simp; omega) | omega)) | ((with_reducible refine Below.trans ?_ (HB1.out.mono ?_)); rotate_left; exact (by first | (simp; done) | (simp; omega) | omega))))))).mono ?_
  clear hcp
  rintro e w3 ⟨A3, c3, rfl, ho3, hb3⟩
  have hz3 := hb3.size
  (try simp only [World.size_alloc, World.size_setCell, World.size_drew] at hz3)
  have k3_0 := fun o => (bcell hb3).1 (w.heap.size + 1) o (by first | (simp; done) | (simp; omega) | omega)
  have l3_0 : (w.heap.size + 1) < w3.heap.size := (by omega)
  have q3_0 := fun o => (bcell hb3).2 (w.heap.size + 1) o (by first | (simp; done) | (simp; omega) | omega)
  have k3_1 := fun o => (bcell hb3).1 (w.heap.size + 1 + 1) o (by first | (simp; done) | (simp; omega) | omega)
  have l3_1 : (w.heap.size + 1 + 1) < w3.heap.size := (by omega)
  have q3_1 := fun o => (bcell hb3).2 (w.heap.size + 1 + 1) o (by first | (simp; done) | (simp; omega) | omega)
  simp (maxDischargeDepth := 6) [go_sem, *] at k3_0 q3_0 k3_1 q3_1
  have HB3 := Lib.hid hb3
  clear hb3
  have HO3 : Hid (OwnL (w.heap.size + 1 + 1 + 1) w3 A3 n c3 b.cache) := Lib.hid (ho3.low (by simp; omega))
  have HP3 := Lib.hid (own_blk ho3.2.2.2)
  clear ho3 k2_0 q2_0 l2_0 k2_1 q2_1 l2_1
  go_wp2_with fail
  refine (word_ReadOrder _ _).mono ?_
  rw [show rdoV v = .tuple #[.agg #[.int .i64 (rdoF v (v % 4)), .int .i64 (rdoF v (v / 4 % 8)), .int .i64 (rdoF v (v / 32))], .int .i64 (rdoE v)] from rfl]
  rintro e w4 ⟨rfl, hb4⟩
  have hz4 := hb4.size
  (try simp only [World.size_alloc, World.size_setCell, World.size_drew] at hz4)
  have k4_0_0 := (bcell hb4).1 (w.heap.size + 1) 0 (by first | (simp; done) | (simp; omega) | omega)
  have k4_0_1 := (bcell hb4).1 (w.heap.size + 1) 1 (by first | (simp; done) | (simp; omega) | omega)
  have k4_0_2 := (bcell hb4).1 (w.heap.size + 1) 2 (by first | (simp; done) | (simp; omega) | omega)
  have k4_0_3 := (bcell hb4).1 (w.heap.size + 1) 3 (by first | (simp; done) | (simp; omega) | omega)
  have k4_0_4 := (bcell hb4).1 (w.heap.size + 1) 4 (by first | (simp; done) | (simp; omega) | omega)
  have k4_0_5 := (bcell hb4).1 (w.heap.size + 1) 5 (by first | (simp; done) | (simp; omega) | omega)
  have k4_0_6 := (bcell hb4).1 (w.heap.size + 1) 6 (by first | (simp; done) | (simp; omega) | omega)
  have k4_0_7 := (bcell hb4).1 (w.heap.size + 1) 7 (by first | (simp; done) | (simp; omega) | omega)
  have k4_0_8 := (bcell hb4).1 (w.heap.size + 1) 8 (by first | (simp; done) | (simp; omega) | omega)
  have k4_0_9 := (bcell hb4).1 (w.heap.size + 1) 9 (by first | (simp; done) | (simp; omega) | omega)
  have k4_0_10 := (bcell hb4).1 (w.heap.size + 1) 10 (by first | (simp; done) | (simp; omega) | omega)
  have k4_0_11 := (bcell hb4).1 (w.heap.size + 1) 11 (by first | (simp; done) | (simp; omega) | omega)
  have l4_0 : (w.heap.size + 1) < w4.heap.size := (by omega)
  have q4_0 := fun o => (bcell hb4).2 (w.heap.size + 1) o (by first | (simp; done) | (simp; omega) | omega)
  have k4_1 := fun o => (bcell hb4).1 (w.heap.size + 1 + 1) o (by first | (simp; done) | (simp; omega) | omega)
  have l4_1 : (w.heap.size + 1 + 1) < w4.heap.size := (by omega)
  have q4_1 := fun o => (bcell hb4).2 (w.heap.size + 1 + 1) o (by first | (simp; done) | (simp; omega) | omega)
  simp (maxDischargeDepth := 6) [go_sem, *] at k4_0_0 k4_0_1 k4_0_2 k4_0_3 k4_0_4 k4_0_5 k4_0_6 k4_0_7 k4_0_8 k4_0_9 k4_0_10 k4_0_11 q4_0 k4_1 q4_1
  have HB4 := Lib.hid hb4
  clear hb4
  clear k3_0 q3_0 l3_0 k3_1 q3_1 l3_1
  go_wp2
  refine bodyPost_ret (v := .tuple #[.agg #[.int .i64 ({ b with stopped := true } : Brg).mode, .int .i64 ({ b with stopped := true } : Brg).base, .slice A3 n c3, .int .i64 ({ b with stopped := true } : Brg).orders.page, .int .i64 ({ b with stopped := true } : Brg).orders.head, .int .i64 ({ b with stopped := true } : Brg).orders.tail, .bool ({ b with stopped := true } : Brg).stopped, .int .i64 ({ b with stopped := true } : Brg).fences, .int .i64 ({ b with stopped := true } : Brg).faults.page, .int .i64 ({ b with stopped := true } : Brg).faults.head, .int .i64 ({ b with stopped := true } : Brg).faults.tail, .bool ({ b with stopped := true } : Brg).lost], .int .i64 0]) ?_ rfl ⟨A3, n, c3, rfl, ?_, ?_, ?_⟩
  · simp (maxDischargeDepth := 8) [results, Try.results21, go_sem, *]
  · refine OwnL.lines (B := w.heap.size + 1 + 1 + 1) ?_
    (repeat (first | ((with_reducible refine OwnL.set ?_ ?_ _); rotate_left; exact (by first | (simp; done) | (simp; omega) | omega)) | (with_reducible refine OwnL.alloc ?_ _) | (with_reducible exact HO3.out) | (with_reducible refine OwnL.below ?_ HB4.out)))
  · (repeat (first | (with_reducible exact Below.refl _ _) | (with_reducible refine Below.drew ?_) | (with_reducible refine bdrewN ?_ _) | ((with_reducible refine Below.setCell ?_ ?_ _); rotate_left; exact (by first | (simp; done) | (simp; omega) | omega)) | ((with_reducible refine Below.alloc ?_ ?_ _); rotate_left; exact (by first | (simp; done) | (simp; omega) | omega)) | ((with_reducible refine Below.trans ?_ (HB4.out.mono ?_)); rotate_left; exact (by first | (simp; done) | (simp; omega) | omega)) | ((with_reducible refine Below.trans ?_ (HB3.out.mono ?_)); rotate_left; exact (by first | (simp; done) | (simp; omega) | omega)) | ((with_reducible refine Below.trans ?_ (HB2.out.mono ?_)); rotate_left; exact (by first | (simp; done) | (simp; omega) | omega)) | ((with_reducible refine Below.trans ?_ (HB1.out.mono ?_)); rotate_left; exact (by first | (simp; done) | (simp; omega) | omega))))
  · intro ad e; have := (HP3.out ad e).1; simp at this; omega
end
end

section
def obB (b : Brg) (ms : List Line) (F : Int) : Brg := ⟨b.mode, b.base, ms, ⟨b.orders.page, (b.orders.head + 1) % 8, b.orders.tail⟩, b.stopped, F, b.faults, b.lost⟩
section
variable (xs : List Int) (m : Option Addr) (cm' : Nat) (b : Brg) (A : Option Addr) (n c : Nat) (w : World) (hx : Ints w w.heap.size m 512 xs) (hl : Lines w w.heap.size A n c b.cache) (h0 : cm xs = 0) (hb : ckB b = 0) (hs : b.stopped = false) (hp : popE xs b.orders = 0) (v : Int) (hv : popV xs b.orders = v)
set_option maxRecDepth 100000 in
set_option maxHeartbeats 2000000 in
include hx hl h0 hb hs hp hv in
theorem Obey_good (ms : List Line) (F : Int) (rb : Brg) (hr : rdoE v = 0) (hm : dropL b.cache (v % 4) (v / 4 % 8) (v / 32) = ms) (hF : F = if v % 4 = 0 then (b.fences + 1) % 1000 else b.fences) (hrb : rb = obB b ms F) :
    Calls Try.prog 21 #[.agg #[.slice m 512 cm'], .agg #[.int .i64 b.mode, .int .i64 b.base, .slice A n c, .int .i64 b.orders.page, .int .i64 b.orders.head, .int .i64 b.orders.tail, .bool b.stopped, .int .i64 b.fences, .int .i64 b.faults.page, .int .i64 b.faults.head, .int .i64 b.faults.tail, .bool b.lost]] w (ObeyC w rb 0) := by
  have HX := Lib.hid hx
  have HL := Lib.hid hl
  have HE := Lib.hid (allE_0 h0 hb)
  have HS := Lib.hid hs
  have HP := Lib.hid (show popE xs ⟨b.orders.page, b.orders.head, b.orders.tail⟩ = 0 from hp)
  have HV := Lib.hid (show popV xs ⟨b.orders.page, b.orders.head, b.orders.tail⟩ = v from hv)
  have HN := Lib.hid (show n ≤ 1000 by have := ((ckC_iff _).1 ((ckB_iff b).1 hb).2.1).1; have := hl.1; omega)
  have HM := Lib.hid hm
  have HRR := Lib.hid (show rdoV v = .tuple #[.agg #[.int .i64 (v % 4), .int .i64 (v / 4 % 8), .int .i64 (v / 32)], .int .i64 0] by simp [rdoV, rdoF, hr])
  have hk := (ord_rng hr).2
  unfold OrdR at hk
  have HWF := Lib.hid (show (Lit.int .i64 (v % 4)).wf = true by
    have : v % 4 = 0 ∨ v % 4 = 1 ∨ v % 4 = 2 ∨ v % 4 = 3 := by omega
    rcases this with e | e | e | e <;> rw [e] <;> rfl)
  have HDE := Lib.hid (show dropE b.cache (v % 4) = 0 from dropE_0 ((ckB_iff b).1 hb).2.1 (by omega))
  have hf := ((ckB_iff b).1 hb).1.2.2
  obtain ⟨hf1, hf2⟩ := hf
  have HRB := Lib.hid hrb
  have HFF := Lib.hid hF
  have HPR := Lib.hid (show popR b.orders = ⟨b.orders.page, (b.orders.head + 1) % 8, b.orders.tail⟩ from rfl)
  obtain ⟨vk, hvk⟩ : ∃ k, v % 4 = k := ⟨_, rfl⟩
  obtain ⟨vd, hvd⟩ : ∃ k, v / 4 % 8 = k := ⟨_, rfl⟩
  obtain ⟨vp, hvp⟩ : ∃ k, v / 32 = k := ⟨_, rfl⟩
  rw [hvk] at HM HRR HWF HDE HFF
  rw [hvd] at HM HRR
  rw [hvp] at HM HRR
  rw [HRB.out]
  clear hx hl hs hp h0 hb hv hr hm hF hrb hk hvk hvd hvp
  by_cases hq : vk = 0
  · have HQ := Lib.hid (show (b.fences + 1) % 1000 = F by rw [HFF.out, if_pos hq])
    have t2 : (vk == 0) = true := by rw [beq_iff_eq]; exact hq
    have e1 : IntKind.i64.wrap (b.fences + 1) = b.fences + 1 := IntWalk.i64_in _ (by omega)
    have e2 : (b.fences + 1).tmod 1000 = (b.fences + 1) % 1000 := Int.tmod_eq_emod_of_nonneg (by omega)
    clear hq
    go_enter Try.func21, Try.ntmps21
    go_wp2_with fail
    refine (bridge_all xs _ _ _ b _ _ _ _ (ints_now HX.out (by (repeat (first | (with_reducible exact Below.refl _ _) | (with_reducible refine Below.drew ?_) | (with_reducible refine bdrewN ?_ _) | ((with_reducible refine Below.setCell ?_ ?_ _); rotate_left; exact (by first | (simp; done) | (simp; omega) | omega)) | ((with_reducible refine Below.alloc ?_ ?_ _); rotate_left; exact (by first | (simp; done) | (simp; omega) | omega)))))) (lines_now HL.out (by (repeat (first | (with_reducible exact Below.refl _ _) | (with_reducible refine Below.drew ?_) | (with_reducible refine bdrewN ?_ _) | ((with_reducible refine Below.setCell ?_ ?_ _); rotate_left; exact (by first | (simp; done) | (simp; omega) | omega)) | ((with_reducible refine Below.alloc ?_ ?_ _); rotate_left; exact (by first | (simp; done) | (simp; omega) | omega))))))).mono ?_
    rw [HE.out]
    rintro e w1 ⟨rfl, hb1⟩
    have hz1 := hb1.size
    (try simp only [World.size_alloc, World.size_setCell, World.size_drew] at hz1)
    have k1_0 := fun o => (bcell hb1).1 (w.heap.size) o (by first | (simp; done) | (simp; omega) | omega)
    have l1_0 : (w.heap.size) < w1.heap.size := (by omega)
    have q1_0 := fun o => (bcell hb1).2 (w.heap.size) o (by first | (simp; done) | (simp; omega) | omega)
    have k1_1 := fun o => (bcell hb1).1 (w.heap.size + 1) o (by first | (simp; done) | (simp; omega) | omega)
    have l1_1 : (w.heap.size + 1) < w1.heap.size := (by omega)
    have q1_1 := fun o => (bcell hb1).2 (w.heap.size + 1) o (by first | (simp; done) | (simp; omega) | omega)
    have k1_2 := fun o => (bcell hb1).1 (w.heap.size + 1 + 1) o (by first | (simp; done) | (simp; omega) | omega)
    have l1_2 : (w.heap.size + 1 + 1) < w1.heap.size := (by omega)
    have q1_2 := fun o => (bcell hb1).2 (w.heap.size + 1 + 1) o (by first | (simp; done) | (simp; omega) | omega)
    simp (maxDischargeDepth := 6) [go_sem, *] at k1_0 q1_0 k1_1 q1_1 k1_2 q1_2
    have HB1 := Lib.hid hb1
    clear hb1
    have hs := HS.out
    go_wp2_with fail
    refine (ring_Pop _ _ _ xs _ _ _ _ (ints_now HX.out (by (repeat (first | (with_reducible exact Below.refl _ _) | (with_reducible refine Below.drew ?_) | (with_reducible refine bdrewN ?_ _) | ((with_reducible refine Below.setCell ?_ ?_ _); rotate_left; exact (by first | (simp; done) | (simp; omega) | omega)) | ((with_reducible refine Below.alloc ?_ ?_ _); rotate_left; exact (by first | (simp; done) | (simp; omega) | omega)) | ((with_reducible refine Below.trans ?_ (HB1.out.mono ?_)); rotate_left; exact (by first | (simp; done) | (simp; omega) | omega)))))) HP.out).mono ?_
    rw [HV.out]
    rintro e w2 ⟨rfl, hb2⟩
    have hz2 := hb2.size
    (try simp only [World.size_alloc, World.size_setCell, World.size_drew] at hz2)
    have k2_0 := fun o => (bcell hb2).1 (w.heap.size + 1) o (by first | (simp; done) | (simp; omega) | omega)
    have l2_0 : (w.heap.size + 1) < w2.heap.size := (by omega)
    have q2_0 := fun o => (bcell hb2).2 (w.heap.size + 1) o (by first | (simp; done) | (simp; omega) | omega)
    have k2_1 := fun o => (bcell hb2).1 (w.heap.size + 1 + 1) o (by first | (simp; done) | (simp; omega) | omega)
    have l2_1 : (w.heap.size + 1 + 1) < w2.heap.size := (by omega)
    have q2_1 := fun o => (bcell hb2).2 (w.heap.size + 1 + 1) o (by first | (simp; done) | (simp; omega) | omega)
    simp (maxDischargeDepth := 6) [go_sem, *] at k2_0 q2_0 k2_1 q2_1
    have HB2 := Lib.hid hb2
    clear hb2
    clear k1_0 q1_0 l1_0 k1_1 q1_1 l1_1 k1_2 q1_2 l1_2
    go_wp2_with fail
    have hcp := fun W h => bridge_Copy b A n c W h HN.out
    simp only [HS.out] at hcp
    refine (hcp _ (lines_now HL.out (by (repeat (first | (with_reducible exact Below.refl _ _) | (with_reducible refine Below.drew ?_) | (with_reducible refine bdrewN ?_ _) | ((with_reducible refine Below.setCell ?_ ?_ _); rotate_left; exact (by first | (simp; done) | (simp; omega) | omega)) | ((with_reducible refine Below.alloc ?_ ?_ _); rotate_left; exact (by first | (simp; done) | (simp; omega) | omega)) | ((with_reducible refine Below.trans ?_ (HB2.out.mono ?_)); rotate_left; exact (by first | (simp; done) | (simp; omega) | omega)) | ((with_reducible refine Below.trans ?_ (HB1.out.mono ?_)); rotate_left; exact (by first | (simp; done) | (simp; omega) | omega))))))).mono ?_
    clear hcp
    rintro e w3 ⟨A3, c3, rfl, ho3, hb3⟩
    have hz3 := hb3.size
    (try simp only [World.size_alloc, World.size_setCell, World.size_drew] at hz3)
    have k3_0 := fun o => (bcell hb3).1 (w.heap.size + 1) o (by first | (simp; done) | (simp; omega) | omega)
    have l3_0 : (w.heap.size + 1) < w3.heap.size := (by omega)
    have q3_0 := fun o => (bcell hb3).2 (w.heap.size + 1) o (by first | (simp; done) | (simp; omega) | omega)
    have k3_1 := fun o => (bcell hb3).1 (w.heap.size + 1 + 1) o (by first | (simp; done) | (simp; omega) | omega)
    have l3_1 : (w.heap.size + 1 + 1) < w3.heap.size := (by omega)
    have q3_1 := fun o => (bcell hb3).2 (w.heap.size + 1 + 1) o (by first | (simp; done) | (simp; omega) | omega)
    have k3_2 := fun o => (bcell hb3).1 (w2.heap.size) o (by first | (simp; done) | (simp; omega) | omega)
    have l3_2 : (w2.heap.size) < w3.heap.size := (by omega)
    have q3_2 := fun o => (bcell hb3).2 (w2.heap.size) o (by first | (simp; done) | (simp; omega) | omega)
    simp (maxDischargeDepth := 6) [go_sem, *] at k3_0 q3_0 k3_1 q3_1 k3_2 q3_2
    have HB3 := Lib.hid hb3
    clear hb3
    have HO3 : Hid (OwnL (w.heap.size + 1 + 1 + 1) w3 A3 n c3 b.cache) := Lib.hid (ho3.low (by simp; omega))
    clear ho3 k2_0 q2_0 l2_0 k2_1 q2_1 l2_1
    go_wp2_with fail
    refine (word_ReadOrder _ _).mono ?_
    rw [HRR.out]
    rintro e w4 ⟨rfl, hb4⟩
    have hz4 := hb4.size
    (try simp only [World.size_alloc, World.size_setCell, World.size_drew] at hz4)
    have k4_0_0 := (bcell hb4).1 (w.heap.size + 1) 0 (by first | (simp; done) | (simp; omega) | omega)
    have k4_0_1 := (bcell hb4).1 (w.heap.size + 1) 1 (by first | (simp; done) | (simp; omega) | omega)
    have k4_0_2 := (bcell hb4).1 (w.heap.size + 1) 2 (by first | (simp; done) | (simp; omega) | omega)
    have k4_0_3 := (bcell hb4).1 (w.heap.size + 1) 3 (by first | (simp; done) | (simp; omega) | omega)
    have k4_0_4 := (bcell hb4).1 (w.heap.size + 1) 4 (by first | (simp; done) | (simp; omega) | omega)
    have k4_0_5 := (bcell hb4).1 (w.heap.size + 1) 5 (by first | (simp; done) | (simp; omega) | omega)
    have k4_0_6 := (bcell hb4).1 (w.heap.size + 1) 6 (by first | (simp; done) | (simp; omega) | omega)
    have k4_0_7 := (bcell hb4).1 (w.heap.size + 1) 7 (by first | (simp; done) | (simp; omega) | omega)
    have k4_0_8 := (bcell hb4).1 (w.heap.size + 1) 8 (by first | (simp; done) | (simp; omega) | omega)
    have k4_0_9 := (bcell hb4).1 (w.heap.size + 1) 9 (by first | (simp; done) | (simp; omega) | omega)
    have k4_0_10 := (bcell hb4).1 (w.heap.size + 1) 10 (by first | (simp; done) | (simp; omega) | omega)
    have k4_0_11 := (bcell hb4).1 (w.heap.size + 1) 11 (by first | (simp; done) | (simp; omega) | omega)
    have l4_0 : (w.heap.size + 1) < w4.heap.size := (by omega)
    have q4_0 := fun o => (bcell hb4).2 (w.heap.size + 1) o (by first | (simp; done) | (simp; omega) | omega)
    have k4_1 := fun o => (bcell hb4).1 (w.heap.size + 1 + 1) o (by first | (simp; done) | (simp; omega) | omega)
    have l4_1 : (w.heap.size + 1 + 1) < w4.heap.size := (by omega)
    have q4_1 := fun o => (bcell hb4).2 (w.heap.size + 1 + 1) o (by first | (simp; done) | (simp; omega) | omega)
    have k4_2 := fun o => (bcell hb4).1 (w2.heap.size) o (by first | (simp; done) | (simp; omega) | omega)
    have l4_2 : (w2.heap.size) < w4.heap.size := (by omega)
    have q4_2 := fun o => (bcell hb4).2 (w2.heap.size) o (by first | (simp; done) | (simp; omega) | omega)
    simp (maxDischargeDepth := 6) [go_sem, *] at k4_0_0 k4_0_1 k4_0_2 k4_0_3 k4_0_4 k4_0_5 k4_0_6 k4_0_7 k4_0_8 k4_0_9 k4_0_10 k4_0_11 q4_0 k4_1 q4_1 k4_2 q4_2
    have HB4 := Lib.hid hb4
    clear hb4
    clear k3_0 q3_0 l3_0 k3_1 q3_1 l3_1 k3_2 q3_2 l3_2
    have HO4 : Hid (OwnL (w.heap.size + 1 + 1 + 1) w4 A3 n c3 b.cache) := Lib.hid (by
      (refine OwnL.below ?_ HB4.out); (repeat (first | ((with_reducible refine OwnL.set ?_ ?_ _); rotate_left; exact (by first | (simp; done) | (simp; omega) | omega)) | (with_reducible exact HO3.out))))
    go_wp2_with fail
    refine (drop_ans A3 n c3 b.cache ms vk vd vp 0 _ (by exact (OwnL.lines (OwnL.alloc HO4.out _))) HWF.out HDE.out HM.out).mono ?_
    rintro e w5 ⟨A5, c5, rfl, hl5, hb5, hn5⟩
    have hz5 := hb5.size
    (try simp only [World.size_alloc, World.size_setCell, World.size_drew] at hz5)
    have k5_0_0 := (bcell hb5).1 (w.heap.size + 1) 0 (by first | (simp; done) | (simp; omega) | omega)
    have k5_0_1 := (bcell hb5).1 (w.heap.size + 1) 1 (by first | (simp; done) | (simp; omega) | omega)
    have k5_0_2 := (bcell hb5).1 (w.heap.size + 1) 2 (by first | (simp; done) | (simp; omega) | omega)
    have k5_0_3 := (bcell hb5).1 (w.heap.size + 1) 3 (by first | (simp; done) | (simp; omega) | omega)
    have k5_0_4 := (bcell hb5).1 (w.heap.size + 1) 4 (by first | (simp; done) | (simp; omega) | omega)
    have k5_0_5 := (bcell hb5).1 (w.heap.size + 1) 5 (by first | (simp; done) | (simp; omega) | omega)
    have k5_0_6 := (bcell hb5).1 (w.heap.size + 1) 6 (by first | (simp; done) | (simp; omega) | omega)
    have k5_0_7 := (bcell hb5).1 (w.heap.size + 1) 7 (by first | (simp; done) | (simp; omega) | omega)
    have k5_0_8 := (bcell hb5).1 (w.heap.size + 1) 8 (by first | (simp; done) | (simp; omega) | omega)
    have k5_0_9 := (bcell hb5).1 (w.heap.size + 1) 9 (by first | (simp; done) | (simp; omega) | omega)
    have k5_0_10 := (bcell hb5).1 (w.heap.size + 1) 10 (by first | (simp; done) | (simp; omega) | omega)
    have k5_0_11 := (bcell hb5).1 (w.heap.size + 1) 11 (by first | (simp; done) | (simp; omega) | omega)
    have l5_0 : (w.heap.size + 1) < w5.heap.size := (by omega)
    have q5_0 := fun o => (bcell hb5).2 (w.heap.size + 1) o (by first | (simp; done) | (simp; omega) | omega)
    have k5_1 := fun o => (bcell hb5).1 (w.heap.size + 1 + 1) o (by first | (simp; done) | (simp; omega) | omega)
    have l5_1 : (w.heap.size + 1 + 1) < w5.heap.size := (by omega)
    have q5_1 := fun o => (bcell hb5).2 (w.heap.size + 1 + 1) o (by first | (simp; done) | (simp; omega) | omega)
    have k5_2 := fun o => (bcell hb5).1 (w2.heap.size) o (by first | (simp; done) | (simp; omega) | omega)
    have l5_2 : (w2.heap.size) < w5.heap.size := (by omega)
    have q5_2 := fun o => (bcell hb5).2 (w2.heap.size) o (by first | (simp; done) | (simp; omega) | omega)
    have k5_3 := fun o => (bcell hb5).1 (w4.heap.size) o (by first | (simp; done) | (simp; omega) | omega)
    have l5_3 : (w4.heap.size) < w5.heap.size := (by omega)
    have q5_3 := fun o => (bcell hb5).2 (w4.heap.size) o (by first | (simp; done) | (simp; omega) | omega)
    simp (maxDischargeDepth := 6) [go_sem, *] at k5_0_0 k5_0_1 k5_0_2 k5_0_3 k5_0_4 k5_0_5 k5_0_6 k5_0_7 k5_0_8 k5_0_9 k5_0_10 k5_0_11 q5_0 k5_1 q5_1 k5_2 q5_2 k5_3 q5_3
    have HB5 := Lib.hid hb5
    clear hb5
    (try simp only [World.size_alloc, World.size_setCell, World.size_drew] at hn5)
    have HL5 := Lib.hid hl5
    have HN5 := Lib.hid (show ∀ ad, A5 = some ad → w.heap.size + 1 + 1 < ad.block from fun ad e => by have := hn5 ad e; omega)
    have u1 : ¬ w.heap.size + 1 = w4.heap.size := by omega
    have u2 : ¬ w4.heap.size = w.heap.size + 1 := by omega
    have u3 : ¬ w.heap.size + 1 = w2.heap.size := by omega
    have u4 : ¬ w2.heap.size = w.heap.size + 1 := by omega
    clear hl5 hn5 k4_0_0 k4_0_1 k4_0_2 k4_0_3 k4_0_4 k4_0_5 k4_0_6 k4_0_7 k4_0_8 k4_0_9 k4_0_10 k4_0_11 q4_0 l4_0 k4_1 q4_1 l4_1 k4_2 q4_2 l4_2
    go_wp2
    refine bodyPost_ret (v := .tuple #[.agg #[.int .i64 (obB b ms F).mode, .int .i64 (obB b ms F).base, .slice A5 ms.length c5, .int .i64 (obB b ms F).orders.page, .int .i64 (obB b ms F).orders.head, .int .i64 (obB b ms F).orders.tail, .bool (obB b ms F).stopped, .int .i64 (obB b ms F).fences, .int .i64 (obB b ms F).faults.page, .int .i64 (obB b ms F).faults.head, .int .i64 (obB b ms F).faults.tail, .bool (obB b ms F).lost], .int .i64 0]) ?_ rfl ⟨A5, ms.length, c5, rfl, ?_, ?_, ?_⟩
    · simp (maxDischargeDepth := 8) [results, Try.results21, go_sem, obB, ← HQ.out, *]
    · refine Lines.more (B := w5.heap.size) ?_ (by simp)
      show Lines _ _ _ _ _ ms
      (repeat (first | ((with_reducible refine lines_off ?_ ?_ _); rotate_left; exact (by intro ad e h; have := HN5.out ad e; dsimp only at h; omega)) | (with_reducible exact HL5.out)))
    · (repeat (first | (with_reducible exact Below.refl _ _) | (with_reducible refine Below.drew ?_) | (with_reducible refine bdrewN ?_ _) | ((with_reducible refine Below.setCell ?_ ?_ _); rotate_left; exact (by first | (simp; done) | (simp; omega) | omega)) | ((with_reducible refine Below.alloc ?_ ?_ _); rotate_left; exact (by first | (simp; done) | (simp; omega) | omega)) | ((with_reducible refine Below.trans ?_ (HB5.out.mono ?_)); rotate_left; exact (by first | (simp; done) | (simp; omega) | omega)) | ((with_reducible refine Below.trans ?_ (HB4.out.mono ?_)); rotate_left; exact (by first | (simp; done) | (simp; omega) | omega)) | ((with_reducible refine Below.trans ?_ (HB3.out.mono ?_)); rotate_left; exact (by first | (simp; done) | (simp; omega) | omega)) | ((with_reducible refine Below.trans ?_ (HB2.out.mono ?_)); rotate_left; exact (by first | (simp; done) | (simp; omega) | omega)) | ((with_reducible refine Below.trans ?_ (HB1.out.mono ?_)); rotate_left; exact (by first | (simp; done) | (simp; omega) | omega))))
    · intro ad e; have := HN5.out ad e; omega
  · have HQ := Lib.hid (show b.fences = F by rw [HFF.out, if_neg hq])
    have t2 : (vk == 0) = false := by rw [beq_eq_false_iff_ne]; exact hq
    clear hq
    go_enter Try.func21, Try.ntmps21
    go_wp2_with fail
    refine (bridge_all xs _ _ _ b _ _ _ _ (ints_now HX.out (by (repeat (first | (with_reducible exact Below.refl _ _) | (with_reducible refine Below.drew ?_) | (with_reducible refine bdrewN ?_ _) | ((with_reducible refine Below.setCell ?_ ?_ _); rotate_left; exact (by first | (simp; done) | (simp; omega) | omega)) | ((with_reducible refine Below.alloc ?_ ?_ _); rotate_left; exact (by first | (simp; done) | (simp; omega) | omega)))))) (lines_now HL.out (by (repeat (first | (with_reducible exact Below.refl _ _) | (with_reducible refine Below.drew ?_) | (with_reducible refine bdrewN ?_ _) | ((with_reducible refine Below.setCell ?_ ?_ _); rotate_left; exact (by first | (simp; done) | (simp; omega) | omega)) | ((with_reducible refine Below.alloc ?_ ?_ _); rotate_left; exact (by first | (simp; done) | (simp; omega) | omega))))))).mono ?_
    rw [HE.out]
    rintro e w1 ⟨rfl, hb1⟩
    have hz1 := hb1.size
    (try simp only [World.size_alloc, World.size_setCell, World.size_drew] at hz1)
    have k1_0 := fun o => (bcell hb1).1 (w.heap.size) o (by first | (simp; done) | (simp; omega) | omega)
    have l1_0 : (w.heap.size) < w1.heap.size := (by omega)
    have q1_0 := fun o => (bcell hb1).2 (w.heap.size) o (by first | (simp; done) | (simp; omega) | omega)
    have k1_1 := fun o => (bcell hb1).1 (w.heap.size + 1) o (by first | (simp; done) | (simp; omega) | omega)
    have l1_1 : (w.heap.size + 1) < w1.heap.size := (by omega)
    have q1_1 := fun o => (bcell hb1).2 (w.heap.size + 1) o (by first | (simp; done) | (simp; omega) | omega)
    have k1_2 := fun o => (bcell hb1).1 (w.heap.size + 1 + 1) o (by first | (simp; done) | (simp; omega) | omega)
    have l1_2 : (w.heap.size + 1 + 1) < w1.heap.size := (by omega)
    have q1_2 := fun o => (bcell hb1).2 (w.heap.size + 1 + 1) o (by first | (simp; done) | (simp; omega) | omega)
    simp (maxDischargeDepth := 6) [go_sem, *] at k1_0 q1_0 k1_1 q1_1 k1_2 q1_2
    have HB1 := Lib.hid hb1
    clear hb1
    have hs := HS.out
    go_wp2_with fail
    refine (ring_Pop _ _ _ xs _ _ _ _ (ints_now HX.out (by (repeat (first | (with_reducible exact Below.refl _ _) | (with_reducible refine Below.drew ?_) | (with_reducible refine bdrewN ?_ _) | ((with_reducible refine Below.setCell ?_ ?_ _); rotate_left; exact (by first | (simp; done) | (simp; omega) | omega)) | ((with_reducible refine Below.alloc ?_ ?_ _); rotate_left; exact (by first | (simp; done) | (simp; omega) | omega)) | ((with_reducible refine Below.trans ?_ (HB1.out.mono ?_)); rotate_left; exact (by first | (simp; done) | (simp; omega) | omega)))))) HP.out).mono ?_
    rw [HV.out]
    rintro e w2 ⟨rfl, hb2⟩
    have hz2 := hb2.size
    (try simp only [World.size_alloc, World.size_setCell, World.size_drew] at hz2)
    have k2_0 := fun o => (bcell hb2).1 (w.heap.size + 1) o (by first | (simp; done) | (simp; omega) | omega)
    have l2_0 : (w.heap.size + 1) < w2.heap.size := (by omega)
    have q2_0 := fun o => (bcell hb2).2 (w.heap.size + 1) o (by first | (simp; done) | (simp; omega) | omega)
    have k2_1 := fun o => (bcell hb2).1 (w.heap.size + 1 + 1) o (by first | (simp; done) | (simp; omega) | omega)
    have l2_1 : (w.heap.size + 1 + 1) < w2.heap.size := (by omega)
    have q2_1 := fun o => (bcell hb2).2 (w.heap.size + 1 + 1) o (by first | (simp; done) | (simp; omega) | omega)
    simp (maxDischargeDepth := 6) [go_sem, *] at k2_0 q2_0 k2_1 q2_1
    have HB2 := Lib.hid hb2
    clear hb2
    clear k1_0 q1_0 l1_0 k1_1 q1_1 l1_1 k1_2 q1_2 l1_2
    go_wp2_with fail
    have hcp := fun W h => bridge_Copy b A n c W h HN.out
    simp only [HS.out] at hcp
    refine (hcp _ (lines_now HL.out (by (repeat (first | (with_reducible exact Below.refl _ _) | (with_reducible refine Below.drew ?_) | (with_reducible refine bdrewN ?_ _) | ((with_reducible refine Below.setCell ?_ ?_ _); rotate_left; exact (by first | (simp; done) | (simp; omega) | omega)) | ((with_reducible refine Below.alloc ?_ ?_ _); rotate_left; exact (by first | (simp; done) | (simp; omega) | omega)) | ((with_reducible refine Below.trans ?_ (HB2.out.mono ?_)); rotate_left; exact (by first | (simp; done) | (simp; omega) | omega)) | ((with_reducible refine Below.trans ?_ (HB1.out.mono ?_)); rotate_left; exact (by first | (simp; done) | (simp; omega) | omega))))))).mono ?_
    clear hcp
    rintro e w3 ⟨A3, c3, rfl, ho3, hb3⟩
    have hz3 := hb3.size
    (try simp only [World.size_alloc, World.size_setCell, World.size_drew] at hz3)
    have k3_0 := fun o => (bcell hb3).1 (w.heap.size + 1) o (by first | (simp; done) | (simp; omega) | omega)
    have l3_0 : (w.heap.size + 1) < w3.heap.size := (by omega)
    have q3_0 := fun o => (bcell hb3).2 (w.heap.size + 1) o (by first | (simp; done) | (simp; omega) | omega)
    have k3_1 := fun o => (bcell hb3).1 (w.heap.size + 1 + 1) o (by first | (simp; done) | (simp; omega) | omega)
    have l3_1 : (w.heap.size + 1 + 1) < w3.heap.size := (by omega)
    have q3_1 := fun o => (bcell hb3).2 (w.heap.size + 1 + 1) o (by first | (simp; done) | (simp; omega) | omega)
    have k3_2 := fun o => (bcell hb3).1 (w2.heap.size) o (by first | (simp; done) | (simp; omega) | omega)
    have l3_2 : (w2.heap.size) < w3.heap.size := (by omega)
    have q3_2 := fun o => (bcell hb3).2 (w2.heap.size) o (by first | (simp; done) | (simp; omega) | omega)
    simp (maxDischargeDepth := 6) [go_sem, *] at k3_0 q3_0 k3_1 q3_1 k3_2 q3_2
    have HB3 := Lib.hid hb3
    clear hb3
    have HO3 : Hid (OwnL (w.heap.size + 1 + 1 + 1) w3 A3 n c3 b.cache) := Lib.hid (ho3.low (by simp; omega))
    clear ho3 k2_0 q2_0 l2_0 k2_1 q2_1 l2_1
    go_wp2_with fail
    refine (word_ReadOrder _ _).mono ?_
    rw [HRR.out]
    rintro e w4 ⟨rfl, hb4⟩
    have hz4 := hb4.size
    (try simp only [World.size_alloc, World.size_setCell, World.size_drew] at hz4)
    have k4_0_0 := (bcell hb4).1 (w.heap.size + 1) 0 (by first | (simp; done) | (simp; omega) | omega)
    have k4_0_1 := (bcell hb4).1 (w.heap.size + 1) 1 (by first | (simp; done) | (simp; omega) | omega)
    have k4_0_2 := (bcell hb4).1 (w.heap.size + 1) 2 (by first | (simp; done) | (simp; omega) | omega)
    have k4_0_3 := (bcell hb4).1 (w.heap.size + 1) 3 (by first | (simp; done) | (simp; omega) | omega)
    have k4_0_4 := (bcell hb4).1 (w.heap.size + 1) 4 (by first | (simp; done) | (simp; omega) | omega)
    have k4_0_5 := (bcell hb4).1 (w.heap.size + 1) 5 (by first | (simp; done) | (simp; omega) | omega)
    have k4_0_6 := (bcell hb4).1 (w.heap.size + 1) 6 (by first | (simp; done) | (simp; omega) | omega)
    have k4_0_7 := (bcell hb4).1 (w.heap.size + 1) 7 (by first | (simp; done) | (simp; omega) | omega)
    have k4_0_8 := (bcell hb4).1 (w.heap.size + 1) 8 (by first | (simp; done) | (simp; omega) | omega)
    have k4_0_9 := (bcell hb4).1 (w.heap.size + 1) 9 (by first | (simp; done) | (simp; omega) | omega)
    have k4_0_10 := (bcell hb4).1 (w.heap.size + 1) 10 (by first | (simp; done) | (simp; omega) | omega)
    have k4_0_11 := (bcell hb4).1 (w.heap.size + 1) 11 (by first | (simp; done) | (simp; omega) | omega)
    have l4_0 : (w.heap.size + 1) < w4.heap.size := (by omega)
    have q4_0 := fun o => (bcell hb4).2 (w.heap.size + 1) o (by first | (simp; done) | (simp; omega) | omega)
    have k4_1 := fun o => (bcell hb4).1 (w.heap.size + 1 + 1) o (by first | (simp; done) | (simp; omega) | omega)
    have l4_1 : (w.heap.size + 1 + 1) < w4.heap.size := (by omega)
    have q4_1 := fun o => (bcell hb4).2 (w.heap.size + 1 + 1) o (by first | (simp; done) | (simp; omega) | omega)
    have k4_2 := fun o => (bcell hb4).1 (w2.heap.size) o (by first | (simp; done) | (simp; omega) | omega)
    have l4_2 : (w2.heap.size) < w4.heap.size := (by omega)
    have q4_2 := fun o => (bcell hb4).2 (w2.heap.size) o (by first | (simp; done) | (simp; omega) | omega)
    simp (maxDischargeDepth := 6) [go_sem, *] at k4_0_0 k4_0_1 k4_0_2 k4_0_3 k4_0_4 k4_0_5 k4_0_6 k4_0_7 k4_0_8 k4_0_9 k4_0_10 k4_0_11 q4_0 k4_1 q4_1 k4_2 q4_2
    have HB4 := Lib.hid hb4
    clear hb4
    clear k3_0 q3_0 l3_0 k3_1 q3_1 l3_1 k3_2 q3_2 l3_2
    have HO4 : Hid (OwnL (w.heap.size + 1 + 1 + 1) w4 A3 n c3 b.cache) := Lib.hid (by
      (refine OwnL.below ?_ HB4.out); (repeat (first | ((with_reducible refine OwnL.set ?_ ?_ _); rotate_left; exact (by first | (simp; done) | (simp; omega) | omega)) | (with_reducible exact HO3.out))))
    go_wp2_with fail
    refine (drop_ans A3 n c3 b.cache ms vk vd vp 0 _ (by exact (OwnL.lines (OwnL.alloc HO4.out _))) HWF.out HDE.out HM.out).mono ?_
    rintro e w5 ⟨A5, c5, rfl, hl5, hb5, hn5⟩
    have hz5 := hb5.size
    (try simp only [World.size_alloc, World.size_setCell, World.size_drew] at hz5)
    have k5_0_0 := (bcell hb5).1 (w.heap.size + 1) 0 (by first | (simp; done) | (simp; omega) | omega)
    have k5_0_1 := (bcell hb5).1 (w.heap.size + 1) 1 (by first | (simp; done) | (simp; omega) | omega)
    have k5_0_2 := (bcell hb5).1 (w.heap.size + 1) 2 (by first | (simp; done) | (simp; omega) | omega)
    have k5_0_3 := (bcell hb5).1 (w.heap.size + 1) 3 (by first | (simp; done) | (simp; omega) | omega)
    have k5_0_4 := (bcell hb5).1 (w.heap.size + 1) 4 (by first | (simp; done) | (simp; omega) | omega)
    have k5_0_5 := (bcell hb5).1 (w.heap.size + 1) 5 (by first | (simp; done) | (simp; omega) | omega)
    have k5_0_6 := (bcell hb5).1 (w.heap.size + 1) 6 (by first | (simp; done) | (simp; omega) | omega)
    have k5_0_7 := (bcell hb5).1 (w.heap.size + 1) 7 (by first | (simp; done) | (simp; omega) | omega)
    have k5_0_8 := (bcell hb5).1 (w.heap.size + 1) 8 (by first | (simp; done) | (simp; omega) | omega)
    have k5_0_9 := (bcell hb5).1 (w.heap.size + 1) 9 (by first | (simp; done) | (simp; omega) | omega)
    have k5_0_10 := (bcell hb5).1 (w.heap.size + 1) 10 (by first | (simp; done) | (simp; omega) | omega)
    have k5_0_11 := (bcell hb5).1 (w.heap.size + 1) 11 (by first | (simp; done) | (simp; omega) | omega)
    have l5_0 : (w.heap.size + 1) < w5.heap.size := (by omega)
    have q5_0 := fun o => (bcell hb5).2 (w.heap.size + 1) o (by first | (simp; done) | (simp; omega) | omega)
    have k5_1 := fun o => (bcell hb5).1 (w.heap.size + 1 + 1) o (by first | (simp; done) | (simp; omega) | omega)
    have l5_1 : (w.heap.size + 1 + 1) < w5.heap.size := (by omega)
    have q5_1 := fun o => (bcell hb5).2 (w.heap.size + 1 + 1) o (by first | (simp; done) | (simp; omega) | omega)
    have k5_2 := fun o => (bcell hb5).1 (w2.heap.size) o (by first | (simp; done) | (simp; omega) | omega)
    have l5_2 : (w2.heap.size) < w5.heap.size := (by omega)
    have q5_2 := fun o => (bcell hb5).2 (w2.heap.size) o (by first | (simp; done) | (simp; omega) | omega)
    have k5_3 := fun o => (bcell hb5).1 (w4.heap.size) o (by first | (simp; done) | (simp; omega) | omega)
    have l5_3 : (w4.heap.size) < w5.heap.size := (by omega)
    have q5_3 := fun o => (bcell hb5).2 (w4.heap.size) o (by first | (simp; done) | (simp; omega) | omega)
    simp (maxDischargeDepth := 6) [go_sem, *] at k5_0_0 k5_0_1 k5_0_2 k5_0_3 k5_0_4 k5_0_5 k5_0_6 k5_0_7 k5_0_8 k5_0_9 k5_0_10 k5_0_11 q5_0 k5_1 q5_1 k5_2 q5_2 k5_3 q5_3
    have HB5 := Lib.hid hb5
    clear hb5
    (try simp only [World.size_alloc, World.size_setCell, World.size_drew] at hn5)
    have HL5 := Lib.hid hl5
    have HN5 := Lib.hid (show ∀ ad, A5 = some ad → w.heap.size + 1 + 1 < ad.block from fun ad e => by have := hn5 ad e; omega)
    have u1 : ¬ w.heap.size + 1 = w4.heap.size := by omega
    have u2 : ¬ w4.heap.size = w.heap.size + 1 := by omega
    have u3 : ¬ w.heap.size + 1 = w2.heap.size := by omega
    have u4 : ¬ w2.heap.size = w.heap.size + 1 := by omega
    clear hl5 hn5 k4_0_0 k4_0_1 k4_0_2 k4_0_3 k4_0_4 k4_0_5 k4_0_6 k4_0_7 k4_0_8 k4_0_9 k4_0_10 k4_0_11 q4_0 l4_0 k4_1 q4_1 l4_1 k4_2 q4_2 l4_2
    go_wp2
    refine bodyPost_ret (v := .tuple #[.agg #[.int .i64 (obB b ms F).mode, .int .i64 (obB b ms F).base, .slice A5 ms.length c5, .int .i64 (obB b ms F).orders.page, .int .i64 (obB b ms F).orders.head, .int .i64 (obB b ms F).orders.tail, .bool (obB b ms F).stopped, .int .i64 (obB b ms F).fences, .int .i64 (obB b ms F).faults.page, .int .i64 (obB b ms F).faults.head, .int .i64 (obB b ms F).faults.tail, .bool (obB b ms F).lost], .int .i64 0]) ?_ rfl ⟨A5, ms.length, c5, rfl, ?_, ?_, ?_⟩
    · simp (maxDischargeDepth := 8) [results, Try.results21, go_sem, obB, ← HQ.out, *]
    · refine Lines.more (B := w5.heap.size) ?_ (by simp)
      show Lines _ _ _ _ _ ms
      (repeat (first | ((with_reducible refine lines_off ?_ ?_ _); rotate_left; exact (by intro ad e h; have := HN5.out ad e; dsimp only at h; omega)) | (with_reducible exact HL5.out)))
    · (repeat (first | (with_reducible exact Below.refl _ _) | (with_reducible refine Below.drew ?_) | (with_reducible refine bdrewN ?_ _) | ((with_reducible refine Below.setCell ?_ ?_ _); rotate_left; exact (by first | (simp; done) | (simp; omega) | omega)) | ((with_reducible refine Below.alloc ?_ ?_ _); rotate_left; exact (by first | (simp; done) | (simp; omega) | omega)) | ((with_reducible refine Below.trans ?_ (HB5.out.mono ?_)); rotate_left; exact (by first | (simp; done) | (simp; omega) | omega)) | ((with_reducible refine Below.trans ?_ (HB4.out.mono ?_)); rotate_left; exact (by first | (simp; done) | (simp; omega) | omega)) | ((with_reducible refine Below.trans ?_ (HB3.out.mono ?_)); rotate_left; exact (by first | (simp; done) | (simp; omega) | omega)) | ((with_reducible refine Below.trans ?_ (HB2.out.mono ?_)); rotate_left; exact (by first | (simp; done) | (simp; omega) | omega)) | ((with_reducible refine Below.trans ?_ (HB1.out.mono ?_)); rotate_left; exact (by first | (simp; done) | (simp; omega) | omega))))
    · intro ad e; have := HN5.out ad e; omega
end
end

section
theorem obeyM_bad {xs : List Int} {b : Brg} (h : rdoE (popV xs b.orders) ≠ 0) : obeyM xs b = { b with stopped := true } := by unfold obeyM; rw [if_neg h]
theorem obeyM_good {xs : List Int} {b : Brg} (h : rdoE (popV xs b.orders) = 0) : obeyM xs b = obB b (dropL b.cache (popV xs b.orders % 4) (popV xs b.orders / 4 % 8) (popV xs b.orders / 32)) (if popV xs b.orders % 4 = 0 then (b.fences + 1) % 1000 else b.fences) := by
  unfold obeyM; rw [if_pos h]; rfl
theorem obey_ans (xs : List Int) (m : Option Addr) (nm cm' : Nat) (b : Brg) (A : Option Addr) (n c : Nat) (rb : Brg) (E : Int) (w : World) (hx : Ints w w.heap.size m nm xs) (hl : Lines w w.heap.size A n c b.cache) (hr : obeyA xs b = rb) (hE : obeyE xs b = E) :
    Calls Try.prog 21 #[.agg #[.slice m nm cm'], .agg #[.int .i64 b.mode, .int .i64 b.base, .slice A n c, .int .i64 b.orders.page, .int .i64 b.orders.head, .int .i64 b.orders.tail, .bool b.stopped, .int .i64 b.fences, .int .i64 b.faults.page, .int .i64 b.faults.head, .int .i64 b.faults.tail, .bool b.lost]] w (ObeyC w rb E) := by
  subst hE
  subst hr
  by_cases hA : allE xs b = 0
  · obtain ⟨h0, hb⟩ := allE_inv hA
    have hn : nm = 512 := by rw [← hx.len]; exact (cm_inv h0).1
    subst hn
    by_cases hs : b.stopped = true
    · have e : obeyE xs b = 6 := by unfold obeyE; rw [if_pos hA, if_pos hs]
      have e2 : obeyA xs b = .no := by unfold obeyA; rw [if_neg (by rw [e]; decide)]
      rw [e, e2]
      exact Obey_no2 xs m 512 cm' b A n c w hx hl hA hs
    · have hs' : b.stopped = false := by simpa using hs
      have e : obeyE xs b = popE xs b.orders := by unfold obeyE; rw [if_pos hA, if_neg hs]
      by_cases hp : popE xs b.orders = 0
      · have e2 : obeyA xs b = obeyM xs b := by unfold obeyA; rw [if_pos (by rw [e]; exact hp)]
        rw [e, hp, e2]
        by_cases hr : rdoE (popV xs b.orders) = 0
        · exact Obey_good xs m cm' b A n c w hx hl h0 hb hs' hp _ rfl _ _ (obeyM xs b) hr rfl rfl (obeyM_good hr)
        · rw [obeyM_bad hr]
          exact Obey_bad xs m cm' b A n c w hx hl h0 hb hs' hp _ rfl hr
      · have e2 : obeyA xs b = .no := by unfold obeyA; rw [if_neg (by rw [e]; exact hp)]
        rw [e, e2]
        exact Obey_no3 xs m 512 cm' b A n c w hx hl hA hs' hp
  · have e : obeyE xs b = allE xs b := by unfold obeyE; rw [if_neg hA]
    have e2 : obeyA xs b = .no := by unfold obeyA; rw [if_neg (by rw [e]; exact hA)]
    rw [e, e2]
    exact Obey_no1 xs m nm cm' b A n c w hx hl hA
end
end Go.Proofs.Ytbopdijnojaaiad
