/- Faults told: the walk of the document's ToldOf. No statement of the seat is proved here. -/
import Derived.Test.YtbopdijnojaaiacBridgeS
import Derived.Test.YtbopdijnojaaiacRingR
import Derived.Test.YtbopdijnojaaiacWord
import Derived.Test.YtbopdijnojaaiacWordS
import Derived.RegionTactic
namespace Go.Proofs.Ytbopdijnojaaiac
open Go.RowKit
set_option linter.unusedSimpArgs false
set_option linter.unusedVariables false

/-- what ToldOf answers. -/
def TolC (w : World) (m A0 : Option Addr) (k : Nat) (r : List Int × Brg) (E : Int) (e : Ending) (w' : World) : Prop :=
  ∃ A d L n c, e = .returned (.tuple #[.agg #[.slice A k d], .agg #[.int .i64 r.2.mode, .int .i64 r.2.base, .slice L n c, .int .i64 r.2.orders.page, .int .i64 r.2.orders.head, .int .i64 r.2.orders.tail, .bool r.2.stopped, .int .i64 r.2.fences, .int .i64 r.2.faults.page, .int .i64 r.2.faults.head, .int .i64 r.2.faults.tail, .bool r.2.lost], .int .i64 E]) ∧ Ints w' w'.heap.size A k r.1 ∧ Lines w' w'.heap.size L n c r.2.cache ∧ Below w.heap.size w w' ∧ NewIn w m A ∧ NewIn w A0 L
theorem told_no {w w' : World} {m A0 : Option Addr} {E : Int} (hb : Below w.heap.size w w') : TolC w m A0 0 ([], .no) E (.returned (.tuple #[.agg #[.slice none 0 0], .agg #[.int .i64 Brg.no.mode, .int .i64 Brg.no.base, .slice none 0 0, .int .i64 Brg.no.orders.page, .int .i64 Brg.no.orders.head, .int .i64 Brg.no.orders.tail, .bool Brg.no.stopped, .int .i64 Brg.no.fences, .int .i64 Brg.no.faults.page, .int .i64 Brg.no.faults.head, .int .i64 Brg.no.faults.tail, .bool Brg.no.lost], .int .i64 E])) w' :=
  ⟨none, 0, none, 0, 0, rfl, ints_none _ _, lines_none _ _, hb, (fun _ h => by cases h), fun _ h => by cases h⟩
def Brg.lose (b : Brg) : Brg := ⟨b.mode, b.base, b.cache, b.orders, b.stopped, b.fences, b.faults, true⟩
def Brg.flt (b : Brg) : Brg := ⟨b.mode, b.base, b.cache, b.orders, b.stopped, b.fences, ⟨b.faults.page, b.faults.head, (b.faults.tail + 1) % 8⟩, b.lost⟩
section
variable (xs : List Int) (m : Option Addr) (nm cm' : Nat) (b : Brg) (A : Option Addr) (n c : Nat) (fc fd fp : Int) (fw : Bool) (w : World)
set_option maxRecDepth 100000 in
set_option maxHeartbeats 2000000 in
theorem told_bad (hf : fltE fc fd fp ≠ 0) : Calls Try.prog 48 #[.agg #[.slice m nm cm'], .agg #[.int .i64 b.mode, .int .i64 b.base, .slice A n c, .int .i64 b.orders.page, .int .i64 b.orders.head, .int .i64 b.orders.tail, .bool b.stopped, .int .i64 b.fences, .int .i64 b.faults.page, .int .i64 b.faults.head, .int .i64 b.faults.tail, .bool b.lost], .agg #[.int .i64 fc, .int .i64 fd, .int .i64 fp, .bool fw]] w (TolC w m A 0 ([], .no) (fltE fc fd fp)) := by
  have t1 : (fltE fc fd fp != 0) = true := by rw [bne_iff_ne]; exact hf
  clear hf
  go_enter Try.func48, Try.ntmps48
  go_wp2_with fail
  refine (ref_FaultWord _ _ _ _ _).mono ?_
  rintro e w1 ⟨rfl, hb1⟩
  have hz1 := hb1.size
  (try simp only [World.size_alloc, World.size_setCell, World.size_drew] at hz1)
  have k1_0 := fun o => (bcell hb1).1 (w.heap.size + 1 + 1 + 1) o (by first | (simp; done) | (simp; omega) | omega)
  have l1_0 : (w.heap.size + 1 + 1 + 1) < w1.heap.size := (by omega)
  have q1_0 := fun o => (bcell hb1).2 (w.heap.size + 1 + 1 + 1) o (by first | (simp; done) | (simp; omega) | omega)
  have k1_1 := fun o => (bcell hb1).1 (w.heap.size + 1 + 1 + 1 + 1) o (by first | (simp; done) | (simp; omega) | omega)
  have l1_1 : (w.heap.size + 1 + 1 + 1 + 1) < w1.heap.size := (by omega)
  have q1_1 := fun o => (bcell hb1).2 (w.heap.size + 1 + 1 + 1 + 1) o (by first | (simp; done) | (simp; omega) | omega)
  simp (maxDischargeDepth := 6) [go_sem, *] at k1_0 q1_0 k1_1 q1_1
  have HB1 := Lib.hid hb1
  clear hb1
  go_wp2
  refine bodyPost_ret (v := .tuple #[.agg #[.slice none 0 0], .agg #[.int .i64 Brg.no.mode, .int .i64 Brg.no.base, .slice none 0 0, .int .i64 Brg.no.orders.page, .int .i64 Brg.no.orders.head, .int .i64 Brg.no.orders.tail, .bool Brg.no.stopped, .int .i64 Brg.no.fences, .int .i64 Brg.no.faults.page, .int .i64 Brg.no.faults.head, .int .i64 Brg.no.faults.tail, .bool Brg.no.lost], .int .i64 (fltE fc fd fp)]) ?_ rfl (told_no ?_)
  · simp (maxDischargeDepth := 8) [results, Try.results48, go_sem, Brg.no, Ring.no, *]
  · (repeat (first | (with_reducible exact Below.refl _ _) | (with_reducible refine Below.drew ?_) | (with_reducible refine bdrewN ?_ _) | ((with_reducible refine Below.setCell ?_ ?_ _); rotate_left; exact (by first | (simp; done) | (simp; omega) | omega)) | ((with_reducible refine Below.alloc ?_ ?_ _); rotate_left; exact (by first | (simp; done) | (simp; omega) | omega)) | ((with_reducible refine Below.trans ?_ (HB1.out.mono ?_)); rotate_left; exact (by first | (simp; done) | (simp; omega) | omega))))
variable (hx : Ints w w.heap.size m 512 xs) (hl : Lines w w.heap.size A n c b.cache) (h0 : cm xs = 0) (hb : ckB b = 0) (hf : fltE fc fd fp = 0)
set_option maxRecDepth 100000 in
set_option maxHeartbeats 2000000 in
include hx hl hf in
theorem told_lost (ht : b.lost = true) : Calls Try.prog 48 #[.agg #[.slice m 512 cm'], .agg #[.int .i64 b.mode, .int .i64 b.base, .slice A n c, .int .i64 b.orders.page, .int .i64 b.orders.head, .int .i64 b.orders.tail, .bool b.stopped, .int .i64 b.fences, .int .i64 b.faults.page, .int .i64 b.faults.head, .int .i64 b.faults.tail, .bool b.lost], .agg #[.int .i64 fc, .int .i64 fd, .int .i64 fp, .bool fw]] w (TolC w m A 512 (xs, b) 0) := by
  have HX := Lib.hid hx
  have HL := Lib.hid hl
  have HF := Lib.hid hf
  have HT := Lib.hid ht
  clear hx hl hf ht
  go_enter Try.func48, Try.ntmps48
  go_wp2_with fail
  refine (ref_FaultWord _ _ _ _ _).mono ?_
  rw [HF.out]
  rintro e w1 ⟨rfl, hb1⟩
  have hz1 := hb1.size
  (try simp only [World.size_alloc, World.size_setCell, World.size_drew] at hz1)
  have k1_0 := fun o => (bcell hb1).1 (w.heap.size) o (by first | (simp; done) | (simp; omega) | omega)
  have l1_0 : (w.heap.size) < w1.heap.size := (by omega)
  have q1_0 := fun o => (bcell hb1).2 (w.heap.size) o (by first | (simp; done) | (simp; omega) | omega)
  have k1_1 := fun o => (bcell hb1).1 (w.heap.size + 1) o (by first | (simp; done) | (simp; omega) | omega)
  have l1_1 : (w.heap.size + 1) < w1.heap.size := (by omega)
  have q1_1 := fun o => (bcell hb1).2 (w.heap.size + 1) o (by first | (simp; done) | (simp; omega) | omega)
  have k1_2 := fun o => (bcell hb1).1 (w.heap.size + 1 + 1 + 1) o (by first | (simp; done) | (simp; omega) | omega)
  have l1_2 : (w.heap.size + 1 + 1 + 1) < w1.heap.size := (by omega)
  have q1_2 := fun o => (bcell hb1).2 (w.heap.size + 1 + 1 + 1) o (by first | (simp; done) | (simp; omega) | omega)
  have k1_3 := fun o => (bcell hb1).1 (w.heap.size + 1 + 1 + 1 + 1) o (by first | (simp; done) | (simp; omega) | omega)
  have l1_3 : (w.heap.size + 1 + 1 + 1 + 1) < w1.heap.size := (by omega)
  have q1_3 := fun o => (bcell hb1).2 (w.heap.size + 1 + 1 + 1 + 1) o (by first | (simp; done) | (simp; omega) | omega)
  simp (maxDischargeDepth := 6) [go_sem, *] at k1_0 q1_0 k1_1 q1_1 k1_2 q1_2 k1_3 q1_3
  have HB1 := Lib.hid hb1
  clear hb1
  have ht := HT.out
  go_wp2
  go_region
  all_goals
    go_wp2
    refine bodyPost_ret (v := .tuple #[.agg #[.slice m 512 cm'], .agg #[.int .i64 b.mode, .int .i64 b.base, .slice A n c, .int .i64 b.orders.page, .int .i64 b.orders.head, .int .i64 b.orders.tail, .bool b.stopped, .int .i64 b.fences, .int .i64 b.faults.page, .int .i64 b.faults.head, .int .i64 b.faults.tail, .bool b.lost], .int .i64 0]) ?_ rfl ⟨m, cm', A, n, c, rfl, ?_, ?_, ?_, ?_, new_same _ _⟩
    · simp (maxDischargeDepth := 8) [results, Try.results48, go_sem, Brg.lose, Brg.flt, *]
    · exact ints_now HX.out (by (repeat (first | (with_reducible exact Below.refl _ _) | (with_reducible refine Below.drew ?_) | (with_reducible refine bdrewN ?_ _) | ((with_reducible refine Below.setCell ?_ ?_ _); rotate_left; exact (by first | (simp; done) | (simp; omega) | omega)) | ((with_reducible refine Below.alloc ?_ ?_ _); rotate_left; exact (by first | (simp; done) | (simp; omega) | omega)) | ((with_reducible refine Below.trans ?_ (HB1.out.mono ?_)); rotate_left; exact (by first | (simp; done) | (simp; omega) | omega)))))
    · exact lines_now HL.out (by (repeat (first | (with_reducible exact Below.refl _ _) | (with_reducible refine Below.drew ?_) | (with_reducible refine bdrewN ?_ _) | ((with_reducible refine Below.setCell ?_ ?_ _); rotate_left; exact (by first | (simp; done) | (simp; omega) | omega)) | ((with_reducible refine Below.alloc ?_ ?_ _); rotate_left; exact (by first | (simp; done) | (simp; omega) | omega)) | ((with_reducible refine Below.trans ?_ (HB1.out.mono ?_)); rotate_left; exact (by first | (simp; done) | (simp; omega) | omega)))))
    · (repeat (first | (with_reducible exact Below.refl _ _) | (with_reducible refine Below.drew ?_) | (with_reducible refine bdrewN ?_ _) | ((with_reducible refine Below.setCell ?_ ?_ _); rotate_left; exact (by first | (simp; done) | (simp; omega) | omega)) | ((with_reducible refine Below.alloc ?_ ?_ _); rotate_left; exact (by first | (simp; done) | (simp; omega) | omega)) | ((with_reducible refine Below.trans ?_ (HB1.out.mono ?_)); rotate_left; exact (by first | (simp; done) | (simp; omega) | omega))))
    · exact new_same _ _
set_option maxRecDepth 100000 in
set_option maxHeartbeats 2000000 in
include hx hl hb hf in
theorem told_full (ht : b.lost = false) (h7 : lenR b.faults = 7) : Calls Try.prog 48 #[.agg #[.slice m 512 cm'], .agg #[.int .i64 b.mode, .int .i64 b.base, .slice A n c, .int .i64 b.orders.page, .int .i64 b.orders.head, .int .i64 b.orders.tail, .bool b.stopped, .int .i64 b.fences, .int .i64 b.faults.page, .int .i64 b.faults.head, .int .i64 b.faults.tail, .bool b.lost], .agg #[.int .i64 fc, .int .i64 fd, .int .i64 fp, .bool fw]] w (TolC w m A 512 (xs, b.lose) 0) := by
  have HX := Lib.hid hx
  have HL := Lib.hid hl
  have HF := Lib.hid hf
  have HT := Lib.hid ht
  have HR := Lib.hid (show ringR ⟨b.faults.page, b.faults.head, b.faults.tail⟩ from ((ckB_iff b).1 hb).2.2.2)
  have H7 := Lib.hid (show lenR ⟨b.faults.page, b.faults.head, b.faults.tail⟩ = 7 from h7)
  clear hx hl hb hf ht h7
  go_enter Try.func48, Try.ntmps48
  go_wp2_with fail
  refine (ref_FaultWord _ _ _ _ _).mono ?_
  rw [HF.out]
  rintro e w1 ⟨rfl, hb1⟩
  have hz1 := hb1.size
  (try simp only [World.size_alloc, World.size_setCell, World.size_drew] at hz1)
  have k1_0 := fun o => (bcell hb1).1 (w.heap.size) o (by first | (simp; done) | (simp; omega) | omega)
  have l1_0 : (w.heap.size) < w1.heap.size := (by omega)
  have q1_0 := fun o => (bcell hb1).2 (w.heap.size) o (by first | (simp; done) | (simp; omega) | omega)
  have k1_1 := fun o => (bcell hb1).1 (w.heap.size + 1) o (by first | (simp; done) | (simp; omega) | omega)
  have l1_1 : (w.heap.size + 1) < w1.heap.size := (by omega)
  have q1_1 := fun o => (bcell hb1).2 (w.heap.size + 1) o (by first | (simp; done) | (simp; omega) | omega)
  have k1_2 := fun o => (bcell hb1).1 (w.heap.size + 1 + 1 + 1) o (by first | (simp; done) | (simp; omega) | omega)
  have l1_2 : (w.heap.size + 1 + 1 + 1) < w1.heap.size := (by omega)
  have q1_2 := fun o => (bcell hb1).2 (w.heap.size + 1 + 1 + 1) o (by first | (simp; done) | (simp; omega) | omega)
  have k1_3 := fun o => (bcell hb1).1 (w.heap.size + 1 + 1 + 1 + 1) o (by first | (simp; done) | (simp; omega) | omega)
  have l1_3 : (w.heap.size + 1 + 1 + 1 + 1) < w1.heap.size := (by omega)
  have q1_3 := fun o => (bcell hb1).2 (w.heap.size + 1 + 1 + 1 + 1) o (by first | (simp; done) | (simp; omega) | omega)
  simp (maxDischargeDepth := 6) [go_sem, *] at k1_0 q1_0 k1_1 q1_1 k1_2 q1_2 k1_3 q1_3
  have HB1 := Lib.hid hb1
  clear hb1
  have ht := HT.out
  go_wp2_with fail
  refine (ref_LengthOf _ _ _ HR.out _).mono ?_
  rw [H7.out]
  rintro e w2 ⟨rfl, hb2⟩
  have hz2 := hb2.size
  (try simp only [World.size_alloc, World.size_setCell, World.size_drew] at hz2)
  have k2_0 := fun o => (bcell hb2).1 (w.heap.size) o (by first | (simp; done) | (simp; omega) | omega)
  have l2_0 : (w.heap.size) < w2.heap.size := (by omega)
  have q2_0 := fun o => (bcell hb2).2 (w.heap.size) o (by first | (simp; done) | (simp; omega) | omega)
  have k2_1 := fun o => (bcell hb2).1 (w.heap.size + 1) o (by first | (simp; done) | (simp; omega) | omega)
  have l2_1 : (w.heap.size + 1) < w2.heap.size := (by omega)
  have q2_1 := fun o => (bcell hb2).2 (w.heap.size + 1) o (by first | (simp; done) | (simp; omega) | omega)
  have k2_2 := fun o => (bcell hb2).1 (w.heap.size + 1 + 1 + 1) o (by first | (simp; done) | (simp; omega) | omega)
  have l2_2 : (w.heap.size + 1 + 1 + 1) < w2.heap.size := (by omega)
  have q2_2 := fun o => (bcell hb2).2 (w.heap.size + 1 + 1 + 1) o (by first | (simp; done) | (simp; omega) | omega)
  have k2_3 := fun o => (bcell hb2).1 (w.heap.size + 1 + 1 + 1 + 1) o (by first | (simp; done) | (simp; omega) | omega)
  have l2_3 : (w.heap.size + 1 + 1 + 1 + 1) < w2.heap.size := (by omega)
  have q2_3 := fun o => (bcell hb2).2 (w.heap.size + 1 + 1 + 1 + 1) o (by first | (simp; done) | (simp; omega) | omega)
  simp (maxDischargeDepth := 6) [go_sem, *] at k2_0 q2_0 k2_1 q2_1 k2_2 q2_2 k2_3 q2_3
  have HB2 := Lib.hid hb2
  clear hb2
  clear k1_0 q1_0 l1_0 k1_1 q1_1 l1_1 k1_2 q1_2 l1_2 k1_3 q1_3 l1_3
  go_wp2
  go_region
  all_goals
    go_wp2
    refine bodyPost_ret (v := .tuple #[.agg #[.slice m 512 cm'], .agg #[.int .i64 b.lose.mode, .int .i64 b.lose.base, .slice A n c, .int .i64 b.lose.orders.page, .int .i64 b.lose.orders.head, .int .i64 b.lose.orders.tail, .bool b.lose.stopped, .int .i64 b.lose.fences, .int .i64 b.lose.faults.page, .int .i64 b.lose.faults.head, .int .i64 b.lose.faults.tail, .bool b.lose.lost], .int .i64 0]) ?_ rfl ⟨m, cm', A, n, c, rfl, ?_, ?_, ?_, ?_, new_same _ _⟩
    · simp (maxDischargeDepth := 8) [results, Try.results48, go_sem, Brg.lose, Brg.flt, *]
    · exact ints_now HX.out (by (repeat (first | (with_reducible exact Below.refl _ _) | (with_reducible refine Below.drew ?_) | (with_reducible refine bdrewN ?_ _) | ((with_reducible refine Below.setCell ?_ ?_ _); rotate_left; exact (by first | (simp; done) | (simp; omega) | omega)) | ((with_reducible refine Below.alloc ?_ ?_ _); rotate_left; exact (by first | (simp; done) | (simp; omega) | omega)) | ((with_reducible refine Below.trans ?_ (HB2.out.mono ?_)); rotate_left; exact (by first | (simp; done) | (simp; omega) | omega)) | ((with_reducible refine Below.trans ?_ (HB1.out.mono ?_)); rotate_left; exact (by first | (simp; done) | (simp; omega) | omega)))))
    · exact lines_now HL.out (by (repeat (first | (with_reducible exact Below.refl _ _) | (with_reducible refine Below.drew ?_) | (with_reducible refine bdrewN ?_ _) | ((with_reducible refine Below.setCell ?_ ?_ _); rotate_left; exact (by first | (simp; done) | (simp; omega) | omega)) | ((with_reducible refine Below.alloc ?_ ?_ _); rotate_left; exact (by first | (simp; done) | (simp; omega) | omega)) | ((with_reducible refine Below.trans ?_ (HB2.out.mono ?_)); rotate_left; exact (by first | (simp; done) | (simp; omega) | omega)) | ((with_reducible refine Below.trans ?_ (HB1.out.mono ?_)); rotate_left; exact (by first | (simp; done) | (simp; omega) | omega)))))
    · (repeat (first | (with_reducible exact Below.refl _ _) | (with_reducible refine Below.drew ?_) | (with_reducible refine bdrewN ?_ _) | ((with_reducible refine Below.setCell ?_ ?_ _); rotate_left; exact (by first | (simp; done) | (simp; omega) | omega)) | ((with_reducible refine Below.alloc ?_ ?_ _); rotate_left; exact (by first | (simp; done) | (simp; omega) | omega)) | ((with_reducible refine Below.trans ?_ (HB2.out.mono ?_)); rotate_left; exact (by first | (simp; done) | (simp; omega) | omega)) | ((with_reducible refine Below.trans ?_ (HB1.out.mono ?_)); rotate_left; exact (by first | (simp; done) | (simp; omega) | omega))))
    · exact new_same _ _
set_option maxRecDepth 100000 in
set_option maxHeartbeats 2000000 in
include hx hl h0 hb hf in
theorem told_push (ht : b.lost = false) (h7 : lenR b.faults ≠ 7) : Calls Try.prog 48 #[.agg #[.slice m 512 cm'], .agg #[.int .i64 b.mode, .int .i64 b.base, .slice A n c, .int .i64 b.orders.page, .int .i64 b.orders.head, .int .i64 b.orders.tail, .bool b.stopped, .int .i64 b.fences, .int .i64 b.faults.page, .int .i64 b.faults.head, .int .i64 b.faults.tail, .bool b.lost], .agg #[.int .i64 fc, .int .i64 fd, .int .i64 fp, .bool fw]] w (TolC w m A 512 (pushX xs b.faults (fltW fc fd fp fw), b.flt) 0) := by
  have HX := Lib.hid hx
  have HL := Lib.hid hl
  have HF := Lib.hid hf
  have HT := Lib.hid ht
  have HR := Lib.hid (show ringR ⟨b.faults.page, b.faults.head, b.faults.tail⟩ from ((ckB_iff b).1 hb).2.2.2)
  have hv : 0 ≤ fltW fc fd fp fw ∧ fltW fc fd fp fw ≤ 65535 := by have := flt_rng (f := ⟨fc, fd, fp, fw⟩) hf; unfold Flt.w at this; simp only [] at this; omega
  have HP := Lib.hid (show pushE xs ⟨b.faults.page, b.faults.head, b.faults.tail⟩ (fltW fc fd fp fw) = 0 from pushE_0 (bothE_0 h0 ((ckB_iff b).1 hb).2.2.2) hv h7)
  have t7 : (lenR ⟨b.faults.page, b.faults.head, b.faults.tail⟩ == 7) = false := beq_eq_false_iff_ne.2 h7
  obtain ⟨v, hvv⟩ : ∃ v, fltW fc fd fp fw = v := ⟨_, rfl⟩
  rw [hvv] at HP ⊢
  have HV := Lib.hid hvv
  clear hx hl h0 hb hf ht h7 hv hvv
  go_enter Try.func48, Try.ntmps48
  go_wp2_with fail
  refine (ref_FaultWord _ _ _ _ _).mono ?_
  rw [HF.out, HV.out]
  rintro e w1 ⟨rfl, hb1⟩
  have hz1 := hb1.size
  (try simp only [World.size_alloc, World.size_setCell, World.size_drew] at hz1)
  have k1_0 := fun o => (bcell hb1).1 (w.heap.size) o (by first | (simp; done) | (simp; omega) | omega)
  have l1_0 : (w.heap.size) < w1.heap.size := (by omega)
  have q1_0 := fun o => (bcell hb1).2 (w.heap.size) o (by first | (simp; done) | (simp; omega) | omega)
  have k1_1 := fun o => (bcell hb1).1 (w.heap.size + 1) o (by first | (simp; done) | (simp; omega) | omega)
  have l1_1 : (w.heap.size + 1) < w1.heap.size := (by omega)
  have q1_1 := fun o => (bcell hb1).2 (w.heap.size + 1) o (by first | (simp; done) | (simp; omega) | omega)
  have k1_2 := fun o => (bcell hb1).1 (w.heap.size + 1 + 1 + 1) o (by first | (simp; done) | (simp; omega) | omega)
  have l1_2 : (w.heap.size + 1 + 1 + 1) < w1.heap.size := (by omega)
  have q1_2 := fun o => (bcell hb1).2 (w.heap.size + 1 + 1 + 1) o (by first | (simp; done) | (simp; omega) | omega)
  have k1_3 := fun o => (bcell hb1).1 (w.heap.size + 1 + 1 + 1 + 1) o (by first | (simp; done) | (simp; omega) | omega)
  have l1_3 : (w.heap.size + 1 + 1 + 1 + 1) < w1.heap.size := (by omega)
  have q1_3 := fun o => (bcell hb1).2 (w.heap.size + 1 + 1 + 1 + 1) o (by first | (simp; done) | (simp; omega) | omega)
  simp (maxDischargeDepth := 6) [go_sem, *] at k1_0 q1_0 k1_1 q1_1 k1_2 q1_2 k1_3 q1_3
  have HB1 := Lib.hid hb1
  clear hb1
  have ht := HT.out
  go_wp2_with fail
  refine (ref_LengthOf _ _ _ HR.out _).mono ?_
  rintro e w2 ⟨rfl, hb2⟩
  have hz2 := hb2.size
  (try simp only [World.size_alloc, World.size_setCell, World.size_drew] at hz2)
  have k2_0 := fun o => (bcell hb2).1 (w.heap.size) o (by first | (simp; done) | (simp; omega) | omega)
  have l2_0 : (w.heap.size) < w2.heap.size := (by omega)
  have q2_0 := fun o => (bcell hb2).2 (w.heap.size) o (by first | (simp; done) | (simp; omega) | omega)
  have k2_1 := fun o => (bcell hb2).1 (w.heap.size + 1) o (by first | (simp; done) | (simp; omega) | omega)
  have l2_1 : (w.heap.size + 1) < w2.heap.size := (by omega)
  have q2_1 := fun o => (bcell hb2).2 (w.heap.size + 1) o (by first | (simp; done) | (simp; omega) | omega)
  have k2_2 := fun o => (bcell hb2).1 (w.heap.size + 1 + 1 + 1) o (by first | (simp; done) | (simp; omega) | omega)
  have l2_2 : (w.heap.size + 1 + 1 + 1) < w2.heap.size := (by omega)
  have q2_2 := fun o => (bcell hb2).2 (w.heap.size + 1 + 1 + 1) o (by first | (simp; done) | (simp; omega) | omega)
  have k2_3 := fun o => (bcell hb2).1 (w.heap.size + 1 + 1 + 1 + 1) o (by first | (simp; done) | (simp; omega) | omega)
  have l2_3 : (w.heap.size + 1 + 1 + 1 + 1) < w2.heap.size := (by omega)
  have q2_3 := fun o => (bcell hb2).2 (w.heap.size + 1 + 1 + 1 + 1) o (by first | (simp; done) | (simp; omega) | omega)
  simp (maxDischargeDepth := 6) [go_sem, *] at k2_0 q2_0 k2_1 q2_1 k2_2 q2_2 k2_3 q2_3
  have HB2 := Lib.hid hb2
  clear hb2
  clear k1_0 q1_0 l1_0 k1_1 q1_1 l1_1 k1_2 q1_2 l1_2 k1_3 q1_3 l1_3
  go_wp2_with fail
  refine (ref_Pushed _ _ _ xs _ _ _ _ _ (ints_now HX.out (by (repeat (first | (with_reducible exact Below.refl _ _) | (with_reducible refine Below.drew ?_) | (with_reducible refine bdrewN ?_ _) | ((with_reducible refine Below.setCell ?_ ?_ _); rotate_left; exact (by first | (simp; done) | (simp; omega) | omega)) | ((with_reducible refine Below.alloc ?_ ?_ _); rotate_left; exact (by first | (simp; done) | (simp; omega) | omega)) | ((with_reducible refine Below.trans ?_ (HB2.out.mono ?_)); rotate_left; exact (by first | (simp; done) | (simp; omega) | omega)) | ((with_reducible refine Below.trans ?_ (HB1.out.mono ?_)); rotate_left; exact (by first | (simp; done) | (simp; omega) | omega)))))) HP.out).mono ?_
  rintro e w3 ⟨A3, c3, rfl, ho3, hb3⟩
  have hz3 := hb3.size
  (try simp only [World.size_alloc, World.size_setCell, World.size_drew] at hz3)
  have k3_0 := fun o => (bcell hb3).1 (w.heap.size) o (by first | (simp; done) | (simp; omega) | omega)
  have l3_0 : (w.heap.size) < w3.heap.size := (by omega)
  have q3_0 := fun o => (bcell hb3).2 (w.heap.size) o (by first | (simp; done) | (simp; omega) | omega)
  have k3_1 := fun o => (bcell hb3).1 (w.heap.size + 1) o (by first | (simp; done) | (simp; omega) | omega)
  have l3_1 : (w.heap.size + 1) < w3.heap.size := (by omega)
  have q3_1 := fun o => (bcell hb3).2 (w.heap.size + 1) o (by first | (simp; done) | (simp; omega) | omega)
  have k3_2 := fun o => (bcell hb3).1 (w.heap.size + 1 + 1 + 1) o (by first | (simp; done) | (simp; omega) | omega)
  have l3_2 : (w.heap.size + 1 + 1 + 1) < w3.heap.size := (by omega)
  have q3_2 := fun o => (bcell hb3).2 (w.heap.size + 1 + 1 + 1) o (by first | (simp; done) | (simp; omega) | omega)
  have k3_3 := fun o => (bcell hb3).1 (w.heap.size + 1 + 1 + 1 + 1) o (by first | (simp; done) | (simp; omega) | omega)
  have l3_3 : (w.heap.size + 1 + 1 + 1 + 1) < w3.heap.size := (by omega)
  have q3_3 := fun o => (bcell hb3).2 (w.heap.size + 1 + 1 + 1 + 1) o (by first | (simp; done) | (simp; omega) | omega)
  simp (maxDischargeDepth := 6) [go_sem, *] at k3_0 q3_0 k3_1 q3_1 k3_2 q3_2 k3_3 q3_3
  have HB3 := Lib.hid hb3
  clear hb3
  have HO3 : Hid (OwnI (w.heap.size + 1 + 1 + 1 + 1 + 1) w3 A3 512 c3 (pushX xs b.faults v)) := Lib.hid (ho3.low (by omega))
  have HP3 := Lib.hid (own_blk ho3.2)
  clear ho3 k2_0 q2_0 l2_0 k2_1 q2_1 l2_1 k2_2 q2_2 l2_2 k2_3 q2_3 l2_3
  go_wp2
  go_region
  all_goals
    go_wp2
    refine bodyPost_ret (v := .tuple #[.agg #[.slice A3 512 c3], .agg #[.int .i64 b.flt.mode, .int .i64 b.flt.base, .slice A n c, .int .i64 b.flt.orders.page, .int .i64 b.flt.orders.head, .int .i64 b.flt.orders.tail, .bool b.flt.stopped, .int .i64 b.flt.fences, .int .i64 b.flt.faults.page, .int .i64 b.flt.faults.head, .int .i64 b.flt.faults.tail, .bool b.flt.lost], .int .i64 0]) ?_ rfl ⟨A3, c3, A, n, c, rfl, ?_, ?_, ?_, ?_, new_same _ _⟩
    · simp (maxDischargeDepth := 8) [results, Try.results48, go_sem, Brg.lose, Brg.flt, *]
    · refine OwnI.ints (B := w.heap.size + 1 + 1 + 1 + 1 + 1) (c := c3) ?_ (by decide)
      show OwnI _ _ _ _ _ (pushX xs b.faults v)
      (repeat (first | ((with_reducible refine OwnI.set ?_ ?_ _); rotate_left; exact (by first | (simp; done) | (simp; omega) | omega)) | (with_reducible refine OwnI.drew_ ?_) | (with_reducible exact HO3.out)))
    · exact lines_now HL.out (by (repeat (first | (with_reducible exact Below.refl _ _) | (with_reducible refine Below.drew ?_) | (with_reducible refine bdrewN ?_ _) | ((with_reducible refine Below.setCell ?_ ?_ _); rotate_left; exact (by first | (simp; done) | (simp; omega) | omega)) | ((with_reducible refine Below.alloc ?_ ?_ _); rotate_left; exact (by first | (simp; done) | (simp; omega) | omega)) | ((with_reducible refine Below.trans ?_ (HB3.out.mono ?_)); rotate_left; exact (by first | (simp; done) | (simp; omega) | omega)) | ((with_reducible refine Below.trans ?_ (HB2.out.mono ?_)); rotate_left; exact (by first | (simp; done) | (simp; omega) | omega)) | ((with_reducible refine Below.trans ?_ (HB1.out.mono ?_)); rotate_left; exact (by first | (simp; done) | (simp; omega) | omega)))))
    · (repeat (first | (with_reducible exact Below.refl _ _) | (with_reducible refine Below.drew ?_) | (with_reducible refine bdrewN ?_ _) | ((with_reducible refine Below.setCell ?_ ?_ _); rotate_left; exact (by first | (simp; done) | (simp; omega) | omega)) | ((with_reducible refine Below.alloc ?_ ?_ _); rotate_left; exact (by first | (simp; done) | (simp; omega) | omega)) | ((with_reducible refine Below.trans ?_ (HB3.out.mono ?_)); rotate_left; exact (by first | (simp; done) | (simp; omega) | omega)) | ((with_reducible refine Below.trans ?_ (HB2.out.mono ?_)); rotate_left; exact (by first | (simp; done) | (simp; omega) | omega)) | ((with_reducible refine Below.trans ?_ (HB1.out.mono ?_)); rotate_left; exact (by first | (simp; done) | (simp; omega) | omega))))
    · intro ad e; have := (HP3.out ad e).1; exact Or.inr (by omega)
set_option maxRecDepth 100000 in
include hx hl h0 hb in
theorem ref_ToldOf (E : Int) (ys : List Int) (b' : Brg) (hE : fltE fc fd fp = E) (hr : (if E = 0 then tellM xs b (fltW fc fd fp fw) else ([], .no)) = (ys, b')) :
    Calls Try.prog 48 #[.agg #[.slice m 512 cm'], .agg #[.int .i64 b.mode, .int .i64 b.base, .slice A n c, .int .i64 b.orders.page, .int .i64 b.orders.head, .int .i64 b.orders.tail, .bool b.stopped, .int .i64 b.fences, .int .i64 b.faults.page, .int .i64 b.faults.head, .int .i64 b.faults.tail, .bool b.lost], .agg #[.int .i64 fc, .int .i64 fd, .int .i64 fp, .bool fw]] w (TolC w m A (if E = 0 then 512 else 0) (ys, b') E) := by
  subst hE
  by_cases hf : fltE fc fd fp = 0
  · rw [if_pos hf] at hr
    rw [if_pos hf, hf]
    unfold tellM at hr
    by_cases ht' : b.lost = true
    rotate_left
    · have ht : b.lost = false := by simpa using ht'
      rw [if_neg ht'] at hr
      by_cases h7 : lenR b.faults = 7
      · rw [if_pos h7] at hr
        injection hr with h1 h2
        have e2 : b' = b.lose := h2.symm
        rw [← h1, e2]
        exact told_full xs m cm' b A n c fc fd fp fw w hx hl hb hf ht h7
      · rw [if_neg h7] at hr
        injection hr with h1 h2
        have e2 : b' = b.flt := h2.symm
        rw [← h1, e2]
        exact told_push xs m cm' b A n c fc fd fp fw w hx hl h0 hb hf ht h7
    · rw [if_pos ht'] at hr
      injection hr with h1 h2
      rw [← h1, ← h2]
      exact told_lost xs m cm' b A n c fc fd fp fw w hx hl hf ht'
  · rw [if_neg hf] at hr
    rw [if_neg hf]
    injection hr with h1 h2
    subst h1 h2
    exact told_bad m 512 cm' b A n c fc fd fp fw w hf
end
end Go.Proofs.Ytbopdijnojaaiac
