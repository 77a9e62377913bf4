/- The walk of the law BridgeTells: any fault is told, any order obeyed, by any bridge, as the document says, errors too. -/
import Derived.Test.YtbopdijnojaaiacTell1
import Derived.Test.YtbopdijnojaaiacObey
import Derived.Test.YtbopdijnojaaiacRefO
import Derived.Test.YtbopdijnojaaiacRefP
import Derived.Test.YtbopdijnojaaiacRefB
import Derived.Test.YtbopdijnojaaiacCrossed
namespace Go.Proofs.Ytbopdijnojaaiac
open Go.RowKit
set_option linter.unusedSimpArgs false
set_option linter.unusedVariables false

theorem same_self (b : Brg) : sameB b b = true := by simp [sameB]
theorem eqI_self (ys : List Int) : eqI ys ys = true := by simp [eqI]
theorem tell_ans_k (xs ys : List Int) (m : Option Addr) (nm cm' : Nat) (b b' : Brg) (A : Option Addr) (n c : Nat) (fc fd fp : Int) (fw : Bool) (E : Int) (k : Nat) (w : World) (hx : Ints w w.heap.size m nm xs) (hl : Lines w w.heap.size A n c b.cache) (hr : tellA xs b ⟨fc, fd, fp, fw⟩ = (ys, b')) (hE : tellE xs b ⟨fc, fd, fp, fw⟩ = E) (hk : (if E = 0 then 512 else 0) = k) :
    Calls Try.prog 26 #[.agg #[.slice m nm cm'], .agg #[.int .i64 b.mode, .int .i64 b.base, .slice A n c, .int .i64 b.orders.page, .int .i64 b.orders.head, .int .i64 b.orders.tail, .bool b.stopped, .int .i64 b.fences, .int .i64 b.faults.page, .int .i64 b.faults.head, .int .i64 b.faults.tail, .bool b.lost], .agg #[.int .i64 fc, .int .i64 fd, .int .i64 fp, .bool fw]] w (TellC w k (ys, b') E) := by
  subst hk; exact tell_ans xs ys m nm cm' b b' A n c fc fd fp fw E w hx hl hr hE
theorem told_ans_k (xs ys : List Int) (m : Option Addr) (cm' : Nat) (b b' : Brg) (A : Option Addr) (n c : Nat) (fc fd fp : Int) (fw : Bool) (E : Int) (k : Nat) (w : World) (hx : Ints w w.heap.size m 512 xs) (hl : Lines w w.heap.size A n c b.cache) (h0 : cm xs = 0) (hb : ckB b = 0) (hE : fltE fc fd fp = E) (hr : (if E = 0 then tellM xs b (fltW fc fd fp fw) else ([], .no)) = (ys, b')) (hk : (if E = 0 then 512 else 0) = k) :
    Calls Try.prog 48 #[.agg #[.slice m 512 cm'], .agg #[.int .i64 b.mode, .int .i64 b.base, .slice A n c, .int .i64 b.orders.page, .int .i64 b.orders.head, .int .i64 b.orders.tail, .bool b.stopped, .int .i64 b.fences, .int .i64 b.faults.page, .int .i64 b.faults.head, .int .i64 b.faults.tail, .bool b.lost], .agg #[.int .i64 fc, .int .i64 fd, .int .i64 fp, .bool fw]] w (TolC w m A k (ys, b') E) := by
  subst hk; exact ref_ToldOf xs m cm' b A n c fc fd fp fw w hx hl h0 hb E ys b' hE hr
set_option maxRecDepth 100000 in
set_option maxHeartbeats 3000000 in
theorem tells_c (xs : List Int) (m : Option Addr) (nm : Nat) (cm' : Nat) (b : Brg) (A : Option Addr) (n c : Nat) (fc fd fp : Int) (fw : Bool) (w : World) (hx : Ints w w.heap.size m nm xs) (hl : Lines w w.heap.size A n c b.cache) (hcm : cm xs ≠ 0) (hr : tellA xs b ⟨fc, fd, fp, fw⟩ = ([], .no)) (hE : tellE xs b ⟨fc, fd, fp, fw⟩ = cm xs) (hk : (if cm xs = 0 then 512 else 0) = 0) (hr2 : obeyA xs b = .no) (hE2 : obeyE xs b = cm xs) :
    Calls Try.prog 11 #[.agg #[.slice m nm cm'], .agg #[.int .i64 b.mode, .int .i64 b.base, .slice A n c, .int .i64 b.orders.page, .int .i64 b.orders.head, .int .i64 b.orders.tail, .bool b.stopped, .int .i64 b.fences, .int .i64 b.faults.page, .int .i64 b.faults.head, .int .i64 b.faults.tail, .bool b.lost], .agg #[.int .i64 fc, .int .i64 fd, .int .i64 fp, .bool fw]] w fun e w' => e = .returned (.bool true) ∧ Below w.heap.size w w' := by
  have HX := Lib.hid hx
  have HL := Lib.hid hl
  have HCM := Lib.hid hcm
  have HR := Lib.hid hr
  have HER := Lib.hid hE
  have HK := Lib.hid hk
  have HR2 := Lib.hid hr2
  have HER2 := Lib.hid hE2
  have t1 : (cm xs == 0) = false := beq_eq_false_iff_ne.2 hcm
  have t2 : (cm xs != 0) = true := by rw [bne_iff_ne]; exact hcm
  clear hx hl hcm hr hE hk hr2 hE2
  go_enter Try.func11, Try.ntmps11
  go_wp2_with fail
  refine (tell_ans_k xs [] _ _ _ b .no _ _ _ fc fd fp fw (cm xs) 0 _ (ints_now HX.out (by (repeat (first | (with_reducible exact Below.refl _ _) | (with_reducible refine Below.drew ?_) | (with_reducible refine bdrewN ?_ _) | ((with_reducible refine Below.setCell ?_ ?_ _); rotate_left; exact (by first | (simp; done) | (simp; omega) | omega)) | ((with_reducible refine Below.alloc ?_ ?_ _); rotate_left; exact (by first | (simp; done) | (simp; omega) | omega)))))) (lines_now HL.out (by (repeat (first | (with_reducible exact Below.refl _ _) | (with_reducible refine Below.drew ?_) | (with_reducible refine bdrewN ?_ _) | ((with_reducible refine Below.setCell ?_ ?_ _); rotate_left; exact (by first | (simp; done) | (simp; omega) | omega)) | ((with_reducible refine Below.alloc ?_ ?_ _); rotate_left; exact (by first | (simp; done) | (simp; omega) | omega)))))) HR.out HER.out HK.out).mono ?_
  rintro e w1 ⟨A1, d1, L1, n1, c1, rfl, hi1, hl1, hb1, _, _⟩
  have hz1 := hb1.size
  (try simp only [World.size_alloc, World.size_setCell, World.size_drew] at hz1)
  have k1_0 := fun o => (bcell hb1).1 (w.heap.size) o (by first | (simp; done) | (simp; omega) | omega)
  have l1_0 : (w.heap.size) < w1.heap.size := (by omega)
  have q1_0 := fun o => (bcell hb1).2 (w.heap.size) o (by first | (simp; done) | (simp; omega) | omega)
  have k1_1 := fun o => (bcell hb1).1 (w.heap.size + 1) o (by first | (simp; done) | (simp; omega) | omega)
  have l1_1 : (w.heap.size + 1) < w1.heap.size := (by omega)
  have q1_1 := fun o => (bcell hb1).2 (w.heap.size + 1) o (by first | (simp; done) | (simp; omega) | omega)
  have k1_2 := fun o => (bcell hb1).1 (w.heap.size + 1 + 1) o (by first | (simp; done) | (simp; omega) | omega)
  have l1_2 : (w.heap.size + 1 + 1) < w1.heap.size := (by omega)
  have q1_2 := fun o => (bcell hb1).2 (w.heap.size + 1 + 1) o (by first | (simp; done) | (simp; omega) | omega)
  simp (maxDischargeDepth := 6) [go_sem, *] at k1_0 q1_0 k1_1 q1_1 k1_2 q1_2
  have HB1 := Lib.hid hb1
  clear hb1
  have HI1 := Lib.hid hi1
  have HL1 := Lib.hid hl1
  clear hi1 hl1
  go_wp2_with fail
  refine (obey_ans xs _ _ _ b _ _ _ .no (cm xs) _ (ints_now HX.out (by (repeat (first | (with_reducible exact Below.refl _ _) | (with_reducible refine Below.drew ?_) | (with_reducible refine bdrewN ?_ _) | ((with_reducible refine Below.setCell ?_ ?_ _); rotate_left; exact (by first | (simp; done) | (simp; omega) | omega)) | ((with_reducible refine Below.alloc ?_ ?_ _); rotate_left; exact (by first | (simp; done) | (simp; omega) | omega)) | ((with_reducible refine Below.trans ?_ (HB1.out.mono ?_)); rotate_left; exact (by first | (simp; done) | (simp; omega) | omega)))))) (lines_now HL.out (by (repeat (first | (with_reducible exact Below.refl _ _) | (with_reducible refine Below.drew ?_) | (with_reducible refine bdrewN ?_ _) | ((with_reducible refine Below.setCell ?_ ?_ _); rotate_left; exact (by first | (simp; done) | (simp; omega) | omega)) | ((with_reducible refine Below.alloc ?_ ?_ _); rotate_left; exact (by first | (simp; done) | (simp; omega) | omega)) | ((with_reducible refine Below.trans ?_ (HB1.out.mono ?_)); rotate_left; exact (by first | (simp; done) | (simp; omega) | omega)))))) HR2.out HER2.out).mono ?_
  rintro e w2 ⟨L2, n2, c2, rfl, hl2, hb2, _⟩
  have hz2 := hb2.size
  (try simp only [World.size_alloc, World.size_setCell, World.size_drew] at hz2)
  have k2_0 := fun o => (bcell hb2).1 (w.heap.size) o (by first | (simp; done) | (simp; omega) | omega)
  have l2_0 : (w.heap.size) < w2.heap.size := (by omega)
  have q2_0 := fun o => (bcell hb2).2 (w.heap.size) o (by first | (simp; done) | (simp; omega) | omega)
  have k2_1 := fun o => (bcell hb2).1 (w.heap.size + 1) o (by first | (simp; done) | (simp; omega) | omega)
  have l2_1 : (w.heap.size + 1) < w2.heap.size := (by omega)
  have q2_1 := fun o => (bcell hb2).2 (w.heap.size + 1) o (by first | (simp; done) | (simp; omega) | omega)
  have k2_2 := fun o => (bcell hb2).1 (w.heap.size + 1 + 1) o (by first | (simp; done) | (simp; omega) | omega)
  have l2_2 : (w.heap.size + 1 + 1) < w2.heap.size := (by omega)
  have q2_2 := fun o => (bcell hb2).2 (w.heap.size + 1 + 1) o (by first | (simp; done) | (simp; omega) | omega)
  have k2_3 := fun o => (bcell hb2).1 (w1.heap.size) o (by first | (simp; done) | (simp; omega) | omega)
  have l2_3 : (w1.heap.size) < w2.heap.size := (by omega)
  have q2_3 := fun o => (bcell hb2).2 (w1.heap.size) o (by first | (simp; done) | (simp; omega) | omega)
  have k2_4 := fun o => (bcell hb2).1 (w1.heap.size + 1) o (by first | (simp; done) | (simp; omega) | omega)
  have l2_4 : (w1.heap.size + 1) < w2.heap.size := (by omega)
  have q2_4 := fun o => (bcell hb2).2 (w1.heap.size + 1) o (by first | (simp; done) | (simp; omega) | omega)
  simp (maxDischargeDepth := 6) [go_sem, *] at k2_0 q2_0 k2_1 q2_1 k2_2 q2_2 k2_3 q2_3 k2_4 q2_4
  have HB2 := Lib.hid hb2
  clear hb2
  clear k1_0 q1_0 l1_0 k1_1 q1_1 l1_1 k1_2 q1_2 l1_2
  have HL2 := Lib.hid hl2
  clear hl2
  go_wp2_with fail
  refine (ref_CheckMem _ _ _ xs _ (ints_now HX.out (by (repeat (first | (with_reducible exact Below.refl _ _) | (with_reducible refine Below.drew ?_) | (with_reducible refine bdrewN ?_ _) | ((with_reducible refine Below.setCell ?_ ?_ _); rotate_left; exact (by first | (simp; done) | (simp; omega) | omega)) | ((with_reducible refine Below.alloc ?_ ?_ _); rotate_left; exact (by first | (simp; done) | (simp; omega) | omega)) | ((with_reducible refine Below.trans ?_ (HB2.out.mono ?_)); rotate_left; exact (by first | (simp; done) | (simp; omega) | omega)) | ((with_reducible refine Below.trans ?_ (HB1.out.mono ?_)); rotate_left; exact (by first | (simp; done) | (simp; omega) | omega))))))).mono ?_
  rintro e w3 ⟨rfl, hb3⟩
  have hz3 := hb3.size
  (try simp only [World.size_alloc, World.size_setCell, World.size_drew] at hz3)
  have k3_0 := fun o => (bcell hb3).1 (w.heap.size) o (by first | (simp; done) | (simp; omega) | omega)
  have l3_0 : (w.heap.size) < w3.heap.size := (by omega)
  have q3_0 := fun o => (bcell hb3).2 (w.heap.size) o (by first | (simp; done) | (simp; omega) | omega)
  have k3_1 := fun o => (bcell hb3).1 (w.heap.size + 1) o (by first | (simp; done) | (simp; omega) | omega)
  have l3_1 : (w.heap.size + 1) < w3.heap.size := (by omega)
  have q3_1 := fun o => (bcell hb3).2 (w.heap.size + 1) o (by first | (simp; done) | (simp; omega) | omega)
  have k3_2 := fun o => (bcell hb3).1 (w.heap.size + 1 + 1) o (by first | (simp; done) | (simp; omega) | omega)
  have l3_2 : (w.heap.size + 1 + 1) < w3.heap.size := (by omega)
  have q3_2 := fun o => (bcell hb3).2 (w.heap.size + 1 + 1) o (by first | (simp; done) | (simp; omega) | omega)
  have k3_3 := fun o => (bcell hb3).1 (w1.heap.size) o (by first | (simp; done) | (simp; omega) | omega)
  have l3_3 : (w1.heap.size) < w3.heap.size := (by omega)
  have q3_3 := fun o => (bcell hb3).2 (w1.heap.size) o (by first | (simp; done) | (simp; omega) | omega)
  have k3_4 := fun o => (bcell hb3).1 (w1.heap.size + 1) o (by first | (simp; done) | (simp; omega) | omega)
  have l3_4 : (w1.heap.size + 1) < w3.heap.size := (by omega)
  have q3_4 := fun o => (bcell hb3).2 (w1.heap.size + 1) o (by first | (simp; done) | (simp; omega) | omega)
  have k3_5 := fun o => (bcell hb3).1 (w2.heap.size) o (by first | (simp; done) | (simp; omega) | omega)
  have l3_5 : (w2.heap.size) < w3.heap.size := (by omega)
  have q3_5 := fun o => (bcell hb3).2 (w2.heap.size) o (by first | (simp; done) | (simp; omega) | omega)
  simp (maxDischargeDepth := 6) [go_sem, *] at k3_0 q3_0 k3_1 q3_1 k3_2 q3_2 k3_3 q3_3 k3_4 q3_4 k3_5 q3_5
  have HB3 := Lib.hid hb3
  clear hb3
  clear k2_0 q2_0 l2_0 k2_1 q2_1 l2_1 k2_2 q2_2 l2_2 k2_3 q2_3 l2_3 k2_4 q2_4 l2_4
  go_wp2_with fail
  refine (law_crossed _).mono ?_
  rintro e w5 ⟨rfl, hb5⟩
  have hz5 := hb5.size
  (try simp only [World.size_alloc, World.size_setCell, World.size_drew] at hz5)
  have k5_0 := fun o => (bcell hb5).1 (w.heap.size) o (by first | (simp; done) | (simp; omega) | omega)
  have l5_0 : (w.heap.size) < w5.heap.size := (by omega)
  have q5_0 := fun o => (bcell hb5).2 (w.heap.size) o (by first | (simp; done) | (simp; omega) | omega)
  have k5_1 := fun o => (bcell hb5).1 (w.heap.size + 1) o (by first | (simp; done) | (simp; omega) | omega)
  have l5_1 : (w.heap.size + 1) < w5.heap.size := (by omega)
  have q5_1 := fun o => (bcell hb5).2 (w.heap.size + 1) o (by first | (simp; done) | (simp; omega) | omega)
  have k5_2 := fun o => (bcell hb5).1 (w.heap.size + 1 + 1) o (by first | (simp; done) | (simp; omega) | omega)
  have l5_2 : (w.heap.size + 1 + 1) < w5.heap.size := (by omega)
  have q5_2 := fun o => (bcell hb5).2 (w.heap.size + 1 + 1) o (by first | (simp; done) | (simp; omega) | omega)
  have k5_3 := fun o => (bcell hb5).1 (w1.heap.size) o (by first | (simp; done) | (simp; omega) | omega)
  have l5_3 : (w1.heap.size) < w5.heap.size := (by omega)
  have q5_3 := fun o => (bcell hb5).2 (w1.heap.size) o (by first | (simp; done) | (simp; omega) | omega)
  have k5_4 := fun o => (bcell hb5).1 (w1.heap.size + 1) o (by first | (simp; done) | (simp; omega) | omega)
  have l5_4 : (w1.heap.size + 1) < w5.heap.size := (by omega)
  have q5_4 := fun o => (bcell hb5).2 (w1.heap.size + 1) o (by first | (simp; done) | (simp; omega) | omega)
  have k5_5 := fun o => (bcell hb5).1 (w2.heap.size) o (by first | (simp; done) | (simp; omega) | omega)
  have l5_5 : (w2.heap.size) < w5.heap.size := (by omega)
  have q5_5 := fun o => (bcell hb5).2 (w2.heap.size) o (by first | (simp; done) | (simp; omega) | omega)
  simp (maxDischargeDepth := 6) [go_sem, *] at k5_0 q5_0 k5_1 q5_1 k5_2 q5_2 k5_3 q5_3 k5_4 q5_4 k5_5 q5_5
  have HB5 := Lib.hid hb5
  clear hb5
  clear k3_0 q3_0 l3_0 k3_1 q3_1 l3_1 k3_2 q3_2 l3_2 k3_3 q3_3 l3_3 k3_4 q3_4 l3_4 k3_5 q3_5 l3_5
  go_wp2_with fail
  refine (law_crossed _).mono ?_
  rintro e w6 ⟨rfl, hb6⟩
  have hz6 := hb6.size
  (try simp only [World.size_alloc, World.size_setCell, World.size_drew] at hz6)
  have k6_0 := fun o => (bcell hb6).1 (w1.heap.size) o (by first | (simp; done) | (simp; omega) | omega)
  have l6_0 : (w1.heap.size) < w6.heap.size := (by omega)
  have q6_0 := fun o => (bcell hb6).2 (w1.heap.size) o (by first | (simp; done) | (simp; omega) | omega)
  have k6_1 := fun o => (bcell hb6).1 (w1.heap.size + 1) o (by first | (simp; done) | (simp; omega) | omega)
  have l6_1 : (w1.heap.size + 1) < w6.heap.size := (by omega)
  have q6_1 := fun o => (bcell hb6).2 (w1.heap.size + 1) o (by first | (simp; done) | (simp; omega) | omega)
  have k6_2 := fun o => (bcell hb6).1 (w2.heap.size) o (by first | (simp; done) | (simp; omega) | omega)
  have l6_2 : (w2.heap.size) < w6.heap.size := (by omega)
  have q6_2 := fun o => (bcell hb6).2 (w2.heap.size) o (by first | (simp; done) | (simp; omega) | omega)
  simp (maxDischargeDepth := 6) [go_sem, *] at k6_0 q6_0 k6_1 q6_1 k6_2 q6_2
  have HB6 := Lib.hid hb6
  clear hb6
  clear k5_0 q5_0 l5_0 k5_1 q5_1 l5_1 k5_2 q5_2 l5_2 k5_3 q5_3 l5_3 k5_4 q5_4 l5_4 k5_5 q5_5 l5_5
  go_wp2_with fail
  refine (ref_SameBridge .no .no L1 none n1 c1 0 0 _ (lines_now HL1.out (by (repeat (first | (with_reducible exact Below.refl _ _) | (with_reducible refine Below.drew ?_) | (with_reducible refine bdrewN ?_ _) | ((with_reducible refine Below.setCell ?_ ?_ _); rotate_left; exact (by first | (simp; done) | (simp; omega) | omega)) | ((with_reducible refine Below.alloc ?_ ?_ _); rotate_left; exact (by first | (simp; done) | (simp; omega) | omega)) | ((with_reducible refine Below.trans ?_ (HB6.out.mono ?_)); rotate_left; exact (by first | (simp; done) | (simp; omega) | omega)) | ((with_reducible refine Below.trans ?_ (HB5.out.mono ?_)); rotate_left; exact (by first | (simp; done) | (simp; omega) | omega)) | ((with_reducible refine Below.trans ?_ (HB3.out.mono ?_)); rotate_left; exact (by first | (simp; done) | (simp; omega) | omega)) | ((with_reducible refine Below.trans ?_ (HB2.out.mono ?_)); rotate_left; exact (by first | (simp; done) | (simp; omega) | omega)))))) (lines_none _ _)).mono ?_
  rw [same_self]
  rintro e w7 ⟨rfl, hb7⟩
  have hz7 := hb7.size
  (try simp only [World.size_alloc, World.size_setCell, World.size_drew] at hz7)
  have k7_0 := fun o => (bcell hb7).1 (w2.heap.size) o (by first | (simp; done) | (simp; omega) | omega)
  have l7_0 : (w2.heap.size) < w7.heap.size := (by omega)
  have q7_0 := fun o => (bcell hb7).2 (w2.heap.size) o (by first | (simp; done) | (simp; omega) | omega)
  simp (maxDischargeDepth := 6) [go_sem, *] at k7_0 q7_0
  have HB7 := Lib.hid hb7
  clear hb7
  clear k6_0 q6_0 l6_0 k6_1 q6_1 l6_1 k6_2 q6_2 l6_2
  go_wp2_with fail
  refine (ref_SameBridge .no .no L2 none n2 c2 0 0 _ (lines_now HL2.out (by (repeat (first | (with_reducible exact Below.refl _ _) | (with_reducible refine Below.drew ?_) | (with_reducible refine bdrewN ?_ _) | ((with_reducible refine Below.setCell ?_ ?_ _); rotate_left; exact (by first | (simp; done) | (simp; omega) | omega)) | ((with_reducible refine Below.alloc ?_ ?_ _); rotate_left; exact (by first | (simp; done) | (simp; omega) | omega)) | ((with_reducible refine Below.trans ?_ (HB7.out.mono ?_)); rotate_left; exact (by first | (simp; done) | (simp; omega) | omega)) | ((with_reducible refine Below.trans ?_ (HB6.out.mono ?_)); rotate_left; exact (by first | (simp; done) | (simp; omega) | omega)) | ((with_reducible refine Below.trans ?_ (HB5.out.mono ?_)); rotate_left; exact (by first | (simp; done) | (simp; omega) | omega)) | ((with_reducible refine Below.trans ?_ (HB3.out.mono ?_)); rotate_left; exact (by first | (simp; done) | (simp; omega) | omega)))))) (lines_none _ _)).mono ?_
  rw [same_self]
  rintro e w8 ⟨rfl, hb8⟩
  have hz8 := hb8.size
  (try simp only [World.size_alloc, World.size_setCell, World.size_drew] at hz8)
  have HB8 := Lib.hid hb8
  clear hb8
  go_wp2
  go_ret
  exact ⟨rfl, by (repeat (first | (with_reducible exact Below.refl _ _) | (with_reducible refine Below.drew ?_) | (with_reducible refine bdrewN ?_ _) | ((with_reducible refine Below.setCell ?_ ?_ _); rotate_left; exact (by first | (simp; done) | (simp; omega) | omega)) | ((with_reducible refine Below.alloc ?_ ?_ _); rotate_left; exact (by first | (simp; done) | (simp; omega) | omega)) | ((with_reducible refine Below.trans ?_ (HB8.out.mono ?_)); rotate_left; exact (by first | (simp; done) | (simp; omega) | omega)) | ((with_reducible refine Below.trans ?_ (HB7.out.mono ?_)); rotate_left; exact (by first | (simp; done) | (simp; omega) | omega)) | ((with_reducible refine Below.trans ?_ (HB6.out.mono ?_)); rotate_left; exact (by first | (simp; done) | (simp; omega) | omega)) | ((with_reducible refine Below.trans ?_ (HB5.out.mono ?_)); rotate_left; exact (by first | (simp; done) | (simp; omega) | omega)) | ((with_reducible refine Below.trans ?_ (HB3.out.mono ?_)); rotate_left; exact (by first | (simp; done) | (simp; omega) | omega)) | ((with_reducible refine Below.trans ?_ (HB2.out.mono ?_)); rotate_left; exact (by first | (simp; done) | (simp; omega) | omega)) | ((with_reducible refine Below.trans ?_ (HB1.out.mono ?_)); rotate_left; exact (by first | (simp; done) | (simp; omega) | omega))))⟩
set_option maxRecDepth 100000 in
set_option maxHeartbeats 3000000 in
theorem tells_b (xs : List Int) (m : Option Addr) (nm : Nat) (cm' : Nat) (b : Brg) (A : Option Addr) (n c : Nat) (fc fd fp : Int) (fw : Bool) (w : World) (hx : Ints w w.heap.size m nm xs) (hl : Lines w w.heap.size A n c b.cache) (hcm : cm xs = 0) (hb : ckB b ≠ 0) (hr : tellA xs b ⟨fc, fd, fp, fw⟩ = ([], .no)) (hE : tellE xs b ⟨fc, fd, fp, fw⟩ = ckB b) (hk : (if ckB b = 0 then 512 else 0) = 0) (hr2 : obeyA xs b = .no) (hE2 : obeyE xs b = ckB b) :
    Calls Try.prog 11 #[.agg #[.slice m nm cm'], .agg #[.int .i64 b.mode, .int .i64 b.base, .slice A n c, .int .i64 b.orders.page, .int .i64 b.orders.head, .int .i64 b.orders.tail, .bool b.stopped, .int .i64 b.fences, .int .i64 b.faults.page, .int .i64 b.faults.head, .int .i64 b.faults.tail, .bool b.lost], .agg #[.int .i64 fc, .int .i64 fd, .int .i64 fp, .bool fw]] w fun e w' => e = .returned (.bool true) ∧ Below w.heap.size w w' := by
  have HX := Lib.hid hx
  have HL := Lib.hid hl
  have HCM := Lib.hid hcm
  have HR := Lib.hid hr
  have HER := Lib.hid hE
  have HK := Lib.hid hk
  have HR2 := Lib.hid hr2
  have HER2 := Lib.hid hE2
  have HCK := Lib.hid hb
  have t1 : (ckB b == 0) = false := beq_eq_false_iff_ne.2 hb
  have t2 : (ckB b != 0) = true := by rw [bne_iff_ne]; exact hb
  clear hx hl hcm hr hE hk hr2 hE2 hb
  go_enter Try.func11, Try.ntmps11
  go_wp2_with fail
  refine (tell_ans_k xs [] _ _ _ b .no _ _ _ fc fd fp fw (ckB b) 0 _ (ints_now HX.out (by (repeat (first | (with_reducible exact Below.refl _ _) | (with_reducible refine Below.drew ?_) | (with_reducible refine bdrewN ?_ _) | ((with_reducible refine Below.setCell ?_ ?_ _); rotate_left; exact (by first | (simp; done) | (simp; omega) | omega)) | ((with_reducible refine Below.alloc ?_ ?_ _); rotate_left; exact (by first | (simp; done) | (simp; omega) | omega)))))) (lines_now HL.out (by (repeat (first | (with_reducible exact Below.refl _ _) | (with_reducible refine Below.drew ?_) | (with_reducible refine bdrewN ?_ _) | ((with_reducible refine Below.setCell ?_ ?_ _); rotate_left; exact (by first | (simp; done) | (simp; omega) | omega)) | ((with_reducible refine Below.alloc ?_ ?_ _); rotate_left; exact (by first | (simp; done) | (simp; omega) | omega)))))) HR.out HER.out HK.out).mono ?_
  rintro e w1 ⟨A1, d1, L1, n1, c1, rfl, hi1, hl1, hb1, _, _⟩
  have hz1 := hb1.size
  (try simp only [World.size_alloc, World.size_setCell, World.size_drew] at hz1)
  have k1_0 := fun o => (bcell hb1).1 (w.heap.size) o (by first | (simp; done) | (simp; omega) | omega)
  have l1_0 : (w.heap.size) < w1.heap.size := (by omega)
  have q1_0 := fun o => (bcell hb1).2 (w.heap.size) o (by first | (simp; done) | (simp; omega) | omega)
  have k1_1 := fun o => (bcell hb1).1 (w.heap.size + 1) o (by first | (simp; done) | (simp; omega) | omega)
  have l1_1 : (w.heap.size + 1) < w1.heap.size := (by omega)
  have q1_1 := fun o => (bcell hb1).2 (w.heap.size + 1) o (by first | (simp; done) | (simp; omega) | omega)
  have k1_2 := fun o => (bcell hb1).1 (w.heap.size + 1 + 1) o (by first | (simp; done) | (simp; omega) | omega)
  have l1_2 : (w.heap.size + 1 + 1) < w1.heap.size := (by omega)
  have q1_2 := fun o => (bcell hb1).2 (w.heap.size + 1 + 1) o (by first | (simp; done) | (simp; omega) | omega)
  simp (maxDischargeDepth := 6) [go_sem, *] at k1_0 q1_0 k1_1 q1_1 k1_2 q1_2
  have HB1 := Lib.hid hb1
  clear hb1
  have HI1 := Lib.hid hi1
  have HL1 := Lib.hid hl1
  clear hi1 hl1
  go_wp2_with fail
  refine (obey_ans xs _ _ _ b _ _ _ .no (ckB b) _ (ints_now HX.out (by (repeat (first | (with_reducible exact Below.refl _ _) | (with_reducible refine Below.drew ?_) | (with_reducible refine bdrewN ?_ _) | ((with_reducible refine Below.setCell ?_ ?_ _); rotate_left; exact (by first | (simp; done) | (simp; omega) | omega)) | ((with_reducible refine Below.alloc ?_ ?_ _); rotate_left; exact (by first | (simp; done) | (simp; omega) | omega)) | ((with_reducible refine Below.trans ?_ (HB1.out.mono ?_)); rotate_left; exact (by first | (simp; done) | (simp; omega) | omega)))))) (lines_now HL.out (by (repeat (first | (with_reducible exact Below.refl _ _) | (with_reducible refine Below.drew ?_) | (with_reducible refine bdrewN ?_ _) | ((with_reducible refine Below.setCell ?_ ?_ _); rotate_left; exact (by first | (simp; done) | (simp; omega) | omega)) | ((with_reducible refine Below.alloc ?_ ?_ _); rotate_left; exact (by first | (simp; done) | (simp; omega) | omega)) | ((with_reducible refine Below.trans ?_ (HB1.out.mono ?_)); rotate_left; exact (by first | (simp; done) | (simp; omega) | omega)))))) HR2.out HER2.out).mono ?_
  rintro e w2 ⟨L2, n2, c2, rfl, hl2, hb2, _⟩
  have hz2 := hb2.size
  (try simp only [World.size_alloc, World.size_setCell, World.size_drew] at hz2)
  have k2_0 := fun o => (bcell hb2).1 (w.heap.size) o (by first | (simp; done) | (simp; omega) | omega)
  have l2_0 : (w.heap.size) < w2.heap.size := (by omega)
  have q2_0 := fun o => (bcell hb2).2 (w.heap.size) o (by first | (simp; done) | (simp; omega) | omega)
  have k2_1 := fun o => (bcell hb2).1 (w.heap.size + 1) o (by first | (simp; done) | (simp; omega) | omega)
  have l2_1 : (w.heap.size + 1) < w2.heap.size := (by omega)
  have q2_1 := fun o => (bcell hb2).2 (w.heap.size + 1) o (by first | (simp; done) | (simp; omega) | omega)
  have k2_2 := fun o => (bcell hb2).1 (w.heap.size + 1 + 1) o (by first | (simp; done) | (simp; omega) | omega)
  have l2_2 : (w.heap.size + 1 + 1) < w2.heap.size := (by omega)
  have q2_2 := fun o => (bcell hb2).2 (w.heap.size + 1 + 1) o (by first | (simp; done) | (simp; omega) | omega)
  have k2_3 := fun o => (bcell hb2).1 (w1.heap.size) o (by first | (simp; done) | (simp; omega) | omega)
  have l2_3 : (w1.heap.size) < w2.heap.size := (by omega)
  have q2_3 := fun o => (bcell hb2).2 (w1.heap.size) o (by first | (simp; done) | (simp; omega) | omega)
  have k2_4 := fun o => (bcell hb2).1 (w1.heap.size + 1) o (by first | (simp; done) | (simp; omega) | omega)
  have l2_4 : (w1.heap.size + 1) < w2.heap.size := (by omega)
  have q2_4 := fun o => (bcell hb2).2 (w1.heap.size + 1) o (by first | (simp; done) | (simp; omega) | omega)
  simp (maxDischargeDepth := 6) [go_sem, *] at k2_0 q2_0 k2_1 q2_1 k2_2 q2_2 k2_3 q2_3 k2_4 q2_4
  have HB2 := Lib.hid hb2
  clear hb2
  clear k1_0 q1_0 l1_0 k1_1 q1_1 l1_1 k1_2 q1_2 l1_2
  have HL2 := Lib.hid hl2
  clear hl2
  go_wp2_with fail
  refine (ref_CheckMem _ _ _ xs _ (ints_now HX.out (by (repeat (first | (with_reducible exact Below.refl _ _) | (with_reducible refine Below.drew ?_) | (with_reducible refine bdrewN ?_ _) | ((with_reducible refine Below.setCell ?_ ?_ _); rotate_left; exact (by first | (simp; done) | (simp; omega) | omega)) | ((with_reducible refine Below.alloc ?_ ?_ _); rotate_left; exact (by first | (simp; done) | (simp; omega) | omega)) | ((with_reducible refine Below.trans ?_ (HB2.out.mono ?_)); rotate_left; exact (by first | (simp; done) | (simp; omega) | omega)) | ((with_reducible refine Below.trans ?_ (HB1.out.mono ?_)); rotate_left; exact (by first | (simp; done) | (simp; omega) | omega))))))).mono ?_
  rw [HCM.out]
  rintro e w3 ⟨rfl, hb3⟩
  have hz3 := hb3.size
  (try simp only [World.size_alloc, World.size_setCell, World.size_drew] at hz3)
  have k3_0 := fun o => (bcell hb3).1 (w.heap.size) o (by first | (simp; done) | (simp; omega) | omega)
  have l3_0 : (w.heap.size) < w3.heap.size := (by omega)
  have q3_0 := fun o => (bcell hb3).2 (w.heap.size) o (by first | (simp; done) | (simp; omega) | omega)
  have k3_1 := fun o => (bcell hb3).1 (w.heap.size + 1) o (by first | (simp; done) | (simp; omega) | omega)
  have l3_1 : (w.heap.size + 1) < w3.heap.size := (by omega)
  have q3_1 := fun o => (bcell hb3).2 (w.heap.size + 1) o (by first | (simp; done) | (simp; omega) | omega)
  have k3_2 := fun o => (bcell hb3).1 (w.heap.size + 1 + 1) o (by first | (simp; done) | (simp; omega) | omega)
  have l3_2 : (w.heap.size + 1 + 1) < w3.heap.size := (by omega)
  have q3_2 := fun o => (bcell hb3).2 (w.heap.size + 1 + 1) o (by first | (simp; done) | (simp; omega) | omega)
  have k3_3 := fun o => (bcell hb3).1 (w1.heap.size) o (by first | (simp; done) | (simp; omega) | omega)
  have l3_3 : (w1.heap.size) < w3.heap.size := (by omega)
  have q3_3 := fun o => (bcell hb3).2 (w1.heap.size) o (by first | (simp; done) | (simp; omega) | omega)
  have k3_4 := fun o => (bcell hb3).1 (w1.heap.size + 1) o (by first | (simp; done) | (simp; omega) | omega)
  have l3_4 : (w1.heap.size + 1) < w3.heap.size := (by omega)
  have q3_4 := fun o => (bcell hb3).2 (w1.heap.size + 1) o (by first | (simp; done) | (simp; omega) | omega)
  have k3_5 := fun o => (bcell hb3).1 (w2.heap.size) o (by first | (simp; done) | (simp; omega) | omega)
  have l3_5 : (w2.heap.size) < w3.heap.size := (by omega)
  have q3_5 := fun o => (bcell hb3).2 (w2.heap.size) o (by first | (simp; done) | (simp; omega) | omega)
  simp (maxDischargeDepth := 6) [go_sem, *] at k3_0 q3_0 k3_1 q3_1 k3_2 q3_2 k3_3 q3_3 k3_4 q3_4 k3_5 q3_5
  have HB3 := Lib.hid hb3
  clear hb3
  clear k2_0 q2_0 l2_0 k2_1 q2_1 l2_1 k2_2 q2_2 l2_2 k2_3 q2_3 l2_3 k2_4 q2_4 l2_4
  go_wp2_with fail
  refine (ref_CheckBridge b _ _ _ _ (lines_now HL.out (by (repeat (first | (with_reducible exact Below.refl _ _) | (with_reducible refine Below.drew ?_) | (with_reducible refine bdrewN ?_ _) | ((with_reducible refine Below.setCell ?_ ?_ _); rotate_left; exact (by first | (simp; done) | (simp; omega) | omega)) | ((with_reducible refine Below.alloc ?_ ?_ _); rotate_left; exact (by first | (simp; done) | (simp; omega) | omega)) | ((with_reducible refine Below.trans ?_ (HB3.out.mono ?_)); rotate_left; exact (by first | (simp; done) | (simp; omega) | omega)) | ((with_reducible refine Below.trans ?_ (HB2.out.mono ?_)); rotate_left; exact (by first | (simp; done) | (simp; omega) | omega)) | ((with_reducible refine Below.trans ?_ (HB1.out.mono ?_)); rotate_left; exact (by first | (simp; done) | (simp; omega) | omega))))))).mono ?_
  rintro e w4 ⟨rfl, hb4⟩
  have hz4 := hb4.size
  (try simp only [World.size_alloc, World.size_setCell, World.size_drew] at hz4)
  have k4_0 := fun o => (bcell hb4).1 (w.heap.size) o (by first | (simp; done) | (simp; omega) | omega)
  have l4_0 : (w.heap.size) < w4.heap.size := (by omega)
  have q4_0 := fun o => (bcell hb4).2 (w.heap.size) o (by first | (simp; done) | (simp; omega) | omega)
  have k4_1 := fun o => (bcell hb4).1 (w.heap.size + 1) o (by first | (simp; done) | (simp; omega) | omega)
  have l4_1 : (w.heap.size + 1) < w4.heap.size := (by omega)
  have q4_1 := fun o => (bcell hb4).2 (w.heap.size + 1) o (by first | (simp; done) | (simp; omega) | omega)
  have k4_2 := fun o => (bcell hb4).1 (w.heap.size + 1 + 1) o (by first | (simp; done) | (simp; omega) | omega)
  have l4_2 : (w.heap.size + 1 + 1) < w4.heap.size := (by omega)
  have q4_2 := fun o => (bcell hb4).2 (w.heap.size + 1 + 1) o (by first | (simp; done) | (simp; omega) | omega)
  have k4_3 := fun o => (bcell hb4).1 (w1.heap.size) o (by first | (simp; done) | (simp; omega) | omega)
  have l4_3 : (w1.heap.size) < w4.heap.size := (by omega)
  have q4_3 := fun o => (bcell hb4).2 (w1.heap.size) o (by first | (simp; done) | (simp; omega) | omega)
  have k4_4 := fun o => (bcell hb4).1 (w1.heap.size + 1) o (by first | (simp; done) | (simp; omega) | omega)
  have l4_4 : (w1.heap.size + 1) < w4.heap.size := (by omega)
  have q4_4 := fun o => (bcell hb4).2 (w1.heap.size + 1) o (by first | (simp; done) | (simp; omega) | omega)
  have k4_5 := fun o => (bcell hb4).1 (w2.heap.size) o (by first | (simp; done) | (simp; omega) | omega)
  have l4_5 : (w2.heap.size) < w4.heap.size := (by omega)
  have q4_5 := fun o => (bcell hb4).2 (w2.heap.size) o (by first | (simp; done) | (simp; omega) | omega)
  simp (maxDischargeDepth := 6) [go_sem, *] at k4_0 q4_0 k4_1 q4_1 k4_2 q4_2 k4_3 q4_3 k4_4 q4_4 k4_5 q4_5
  have HB4 := Lib.hid hb4
  clear hb4
  clear k3_0 q3_0 l3_0 k3_1 q3_1 l3_1 k3_2 q3_2 l3_2 k3_3 q3_3 l3_3 k3_4 q3_4 l3_4 k3_5 q3_5 l3_5
  go_wp2_with fail
  refine (law_crossed _).mono ?_
  rintro e w5 ⟨rfl, hb5⟩
  have hz5 := hb5.size
  (try simp only [World.size_alloc, World.size_setCell, World.size_drew] at hz5)
  have k5_0 := fun o => (bcell hb5).1 (w.heap.size) o (by first | (simp; done) | (simp; omega) | omega)
  have l5_0 : (w.heap.size) < w5.heap.size := (by omega)
  have q5_0 := fun o => (bcell hb5).2 (w.heap.size) o (by first | (simp; done) | (simp; omega) | omega)
  have k5_1 := fun o => (bcell hb5).1 (w.heap.size + 1) o (by first | (simp; done) | (simp; omega) | omega)
  have l5_1 : (w.heap.size + 1) < w5.heap.size := (by omega)
  have q5_1 := fun o => (bcell hb5).2 (w.heap.size + 1) o (by first | (simp; done) | (simp; omega) | omega)
  have k5_2 := fun o => (bcell hb5).1 (w.heap.size + 1 + 1) o (by first | (simp; done) | (simp; omega) | omega)
  have l5_2 : (w.heap.size + 1 + 1) < w5.heap.size := (by omega)
  have q5_2 := fun o => (bcell hb5).2 (w.heap.size + 1 + 1) o (by first | (simp; done) | (simp; omega) | omega)
  have k5_3 := fun o => (bcell hb5).1 (w1.heap.size) o (by first | (simp; done) | (simp; omega) | omega)
  have l5_3 : (w1.heap.size) < w5.heap.size := (by omega)
  have q5_3 := fun o => (bcell hb5).2 (w1.heap.size) o (by first | (simp; done) | (simp; omega) | omega)
  have k5_4 := fun o => (bcell hb5).1 (w1.heap.size + 1) o (by first | (simp; done) | (simp; omega) | omega)
  have l5_4 : (w1.heap.size + 1) < w5.heap.size := (by omega)
  have q5_4 := fun o => (bcell hb5).2 (w1.heap.size + 1) o (by first | (simp; done) | (simp; omega) | omega)
  have k5_5 := fun o => (bcell hb5).1 (w2.heap.size) o (by first | (simp; done) | (simp; omega) | omega)
  have l5_5 : (w2.heap.size) < w5.heap.size := (by omega)
  have q5_5 := fun o => (bcell hb5).2 (w2.heap.size) o (by first | (simp; done) | (simp; omega) | omega)
  simp (maxDischargeDepth := 6) [go_sem, *] at k5_0 q5_0 k5_1 q5_1 k5_2 q5_2 k5_3 q5_3 k5_4 q5_4 k5_5 q5_5
  have HB5 := Lib.hid hb5
  clear hb5
  clear k4_0 q4_0 l4_0 k4_1 q4_1 l4_1 k4_2 q4_2 l4_2 k4_3 q4_3 l4_3 k4_4 q4_4 l4_4 k4_5 q4_5 l4_5
  go_wp2_with fail
  refine (law_crossed _).mono ?_
  rintro e w6 ⟨rfl, hb6⟩
  have hz6 := hb6.size
  (try simp only [World.size_alloc, World.size_setCell, World.size_drew] at hz6)
  have k6_0 := fun o => (bcell hb6).1 (w1.heap.size) o (by first | (simp; done) | (simp; omega) | omega)
  have l6_0 : (w1.heap.size) < w6.heap.size := (by omega)
  have q6_0 := fun o => (bcell hb6).2 (w1.heap.size) o (by first | (simp; done) | (simp; omega) | omega)
  have k6_1 := fun o => (bcell hb6).1 (w1.heap.size + 1) o (by first | (simp; done) | (simp; omega) | omega)
  have l6_1 : (w1.heap.size + 1) < w6.heap.size := (by omega)
  have q6_1 := fun o => (bcell hb6).2 (w1.heap.size + 1) o (by first | (simp; done) | (simp; omega) | omega)
  have k6_2 := fun o => (bcell hb6).1 (w2.heap.size) o (by first | (simp; done) | (simp; omega) | omega)
  have l6_2 : (w2.heap.size) < w6.heap.size := (by omega)
  have q6_2 := fun o => (bcell hb6).2 (w2.heap.size) o (by first | (simp; done) | (simp; omega) | omega)
  simp (maxDischargeDepth := 6) [go_sem, *] at k6_0 q6_0 k6_1 q6_1 k6_2 q6_2
  have HB6 := Lib.hid hb6
  clear hb6
  clear k5_0 q5_0 l5_0 k5_1 q5_1 l5_1 k5_2 q5_2 l5_2 k5_3 q5_3 l5_3 k5_4 q5_4 l5_4 k5_5 q5_5 l5_5
  go_wp2_with fail
  refine (ref_SameBridge .no .no L1 none n1 c1 0 0 _ (lines_now HL1.out (by (repeat (first | (with_reducible exact Below.refl _ _) | (with_reducible refine Below.drew ?_) | (with_reducible refine bdrewN ?_ _) | ((with_reducible refine Below.setCell ?_ ?_ _); rotate_left; exact (by first | (simp; done) | (simp; omega) | omega)) | ((with_reducible refine Below.alloc ?_ ?_ _); rotate_left; exact (by first | (simp; done) | (simp; omega) | omega)) | ((with_reducible refine Below.trans ?_ (HB6.out.mono ?_)); rotate_left; exact (by first | (simp; done) | (simp; omega) | omega)) | ((with_reducible refine Below.trans ?_ (HB5.out.mono ?_)); rotate_left; exact (by first | (simp; done) | (simp; omega) | omega)) | ((with_reducible refine Below.trans ?_ (HB4.out.mono ?_)); rotate_left; exact (by first | (simp; done) | (simp; omega) | omega)) | ((with_reducible refine Below.trans ?_ (HB3.out.mono ?_)); rotate_left; exact (by first | (simp; done) | (simp; omega) | omega)) | ((with_reducible refine Below.trans ?_ (HB2.out.mono ?_)); rotate_left; exact (by first | (simp; done) | (simp; omega) | omega)))))) (lines_none _ _)).mono ?_
  rw [same_self]
  rintro e w7 ⟨rfl, hb7⟩
  have hz7 := hb7.size
  (try simp only [World.size_alloc, World.size_setCell, World.size_drew] at hz7)
  have k7_0 := fun o => (bcell hb7).1 (w2.heap.size) o (by first | (simp; done) | (simp; omega) | omega)
  have l7_0 : (w2.heap.size) < w7.heap.size := (by omega)
  have q7_0 := fun o => (bcell hb7).2 (w2.heap.size) o (by first | (simp; done) | (simp; omega) | omega)
  simp (maxDischargeDepth := 6) [go_sem, *] at k7_0 q7_0
  have HB7 := Lib.hid hb7
  clear hb7
  clear k6_0 q6_0 l6_0 k6_1 q6_1 l6_1 k6_2 q6_2 l6_2
  go_wp2_with fail
  refine (ref_SameBridge .no .no L2 none n2 c2 0 0 _ (lines_now HL2.out (by (repeat (first | (with_reducible exact Below.refl _ _) | (with_reducible refine Below.drew ?_) | (with_reducible refine bdrewN ?_ _) | ((with_reducible refine Below.setCell ?_ ?_ _); rotate_left; exact (by first | (simp; done) | (simp; omega) | omega)) | ((with_reducible refine Below.alloc ?_ ?_ _); rotate_left; exact (by first | (simp; done) | (simp; omega) | omega)) | ((with_reducible refine Below.trans ?_ (HB7.out.mono ?_)); rotate_left; exact (by first | (simp; done) | (simp; omega) | omega)) | ((with_reducible refine Below.trans ?_ (HB6.out.mono ?_)); rotate_left; exact (by first | (simp; done) | (simp; omega) | omega)) | ((with_reducible refine Below.trans ?_ (HB5.out.mono ?_)); rotate_left; exact (by first | (simp; done) | (simp; omega) | omega)) | ((with_reducible refine Below.trans ?_ (HB4.out.mono ?_)); rotate_left; exact (by first | (simp; done) | (simp; omega) | omega)) | ((with_reducible refine Below.trans ?_ (HB3.out.mono ?_)); rotate_left; exact (by first | (simp; done) | (simp; omega) | omega)))))) (lines_none _ _)).mono ?_
  rw [same_self]
  rintro e w8 ⟨rfl, hb8⟩
  have hz8 := hb8.size
  (try simp only [World.size_alloc, World.size_setCell, World.size_drew] at hz8)
  have HB8 := Lib.hid hb8
  clear hb8
  go_wp2
  go_ret
  exact ⟨rfl, by (repeat (first | (with_reducible exact Below.refl _ _) | (with_reducible refine Below.drew ?_) | (with_reducible refine bdrewN ?_ _) | ((with_reducible refine Below.setCell ?_ ?_ _); rotate_left; exact (by first | (simp; done) | (simp; omega) | omega)) | ((with_reducible refine Below.alloc ?_ ?_ _); rotate_left; exact (by first | (simp; done) | (simp; omega) | omega)) | ((with_reducible refine Below.trans ?_ (HB8.out.mono ?_)); rotate_left; exact (by first | (simp; done) | (simp; omega) | omega)) | ((with_reducible refine Below.trans ?_ (HB7.out.mono ?_)); rotate_left; exact (by first | (simp; done) | (simp; omega) | omega)) | ((with_reducible refine Below.trans ?_ (HB6.out.mono ?_)); rotate_left; exact (by first | (simp; done) | (simp; omega) | omega)) | ((with_reducible refine Below.trans ?_ (HB5.out.mono ?_)); rotate_left; exact (by first | (simp; done) | (simp; omega) | omega)) | ((with_reducible refine Below.trans ?_ (HB4.out.mono ?_)); rotate_left; exact (by first | (simp; done) | (simp; omega) | omega)) | ((with_reducible refine Below.trans ?_ (HB3.out.mono ?_)); rotate_left; exact (by first | (simp; done) | (simp; omega) | omega)) | ((with_reducible refine Below.trans ?_ (HB2.out.mono ?_)); rotate_left; exact (by first | (simp; done) | (simp; omega) | omega)) | ((with_reducible refine Below.trans ?_ (HB1.out.mono ?_)); rotate_left; exact (by first | (simp; done) | (simp; omega) | omega))))⟩
set_option maxRecDepth 100000 in
set_option maxHeartbeats 3000000 in
theorem tells_ok (xs : List Int) (m : Option Addr) (cm' : Nat) (b : Brg) (A : Option Addr) (n c : Nat) (fc fd fp : Int) (fw : Bool) (ys : List Int) (b' rb : Brg) (E E2 : Int) (k : Nat) (w : World) (hx : Ints w w.heap.size m 512 xs) (hl : Lines w w.heap.size A n c b.cache) (hcm : cm xs = 0) (hb : ckB b = 0) (hr : tellA xs b ⟨fc, fd, fp, fw⟩ = (ys, b')) (hE : tellE xs b ⟨fc, fd, fp, fw⟩ = E) (hf : fltE fc fd fp = E) (hr3 : (if E = 0 then tellM xs b (fltW fc fd fp fw) else ([], .no)) = (ys, b')) (hk : (if E = 0 then 512 else 0) = k) (hk5 : k ≤ 512) (hr2 : obeyA xs b = rb) (hE2 : obeyE xs b = E2) :
    Calls Try.prog 11 #[.agg #[.slice m 512 cm'], .agg #[.int .i64 b.mode, .int .i64 b.base, .slice A n c, .int .i64 b.orders.page, .int .i64 b.orders.head, .int .i64 b.orders.tail, .bool b.stopped, .int .i64 b.fences, .int .i64 b.faults.page, .int .i64 b.faults.head, .int .i64 b.faults.tail, .bool b.lost], .agg #[.int .i64 fc, .int .i64 fd, .int .i64 fp, .bool fw]] w fun e w' => e = .returned (.bool true) ∧ Below w.heap.size w w' := by
  have HX := Lib.hid hx
  have HL := Lib.hid hl
  have HCM := Lib.hid hcm
  have HR := Lib.hid hr
  have HER := Lib.hid hE
  have HK := Lib.hid hk
  have HR2 := Lib.hid hr2
  have HER2 := Lib.hid hE2
  have HCK := Lib.hid hb
  have HF := Lib.hid hf
  have HR3 := Lib.hid hr3
  clear hx hl hcm hr hE hk hr2 hE2 hb hf hr3
  go_enter Try.func11, Try.ntmps11
  go_wp2_with fail
  refine (tell_ans_k xs ys _ _ _ b b' _ _ _ fc fd fp fw (E) k _ (ints_now HX.out (by (repeat (first | (with_reducible exact Below.refl _ _) | (with_reducible refine Below.drew ?_) | (with_reducible refine bdrewN ?_ _) | ((with_reducible refine Below.setCell ?_ ?_ _); rotate_left; exact (by first | (simp; done) | (simp; omega) | omega)) | ((with_reducible refine Below.alloc ?_ ?_ _); rotate_left; exact (by first | (simp; done) | (simp; omega) | omega)))))) (lines_now HL.out (by (repeat (first | (with_reducible exact Below.refl _ _) | (with_reducible refine Below.drew ?_) | (with_reducible refine bdrewN ?_ _) | ((with_reducible refine Below.setCell ?_ ?_ _); rotate_left; exact (by first | (simp; done) | (simp; omega) | omega)) | ((with_reducible refine Below.alloc ?_ ?_ _); rotate_left; exact (by first | (simp; done) | (simp; omega) | omega)))))) HR.out HER.out HK.out).mono ?_
  rintro e w1 ⟨A1, d1, L1, n1, c1, rfl, hi1, hl1, hb1, _, _⟩
  have hz1 := hb1.size
  (try simp only [World.size_alloc, World.size_setCell, World.size_drew] at hz1)
  have k1_0 := fun o => (bcell hb1).1 (w.heap.size) o (by first | (simp; done) | (simp; omega) | omega)
  have l1_0 : (w.heap.size) < w1.heap.size := (by omega)
  have q1_0 := fun o => (bcell hb1).2 (w.heap.size) o (by first | (simp; done) | (simp; omega) | omega)
  have k1_1 := fun o => (bcell hb1).1 (w.heap.size + 1) o (by first | (simp; done) | (simp; omega) | omega)
  have l1_1 : (w.heap.size + 1) < w1.heap.size := (by omega)
  have q1_1 := fun o => (bcell hb1).2 (w.heap.size + 1) o (by first | (simp; done) | (simp; omega) | omega)
  have k1_2 := fun o => (bcell hb1).1 (w.heap.size + 1 + 1) o (by first | (simp; done) | (simp; omega) | omega)
  have l1_2 : (w.heap.size + 1 + 1) < w1.heap.size := (by omega)
  have q1_2 := fun o => (bcell hb1).2 (w.heap.size + 1 + 1) o (by first | (simp; done) | (simp; omega) | omega)
  simp (maxDischargeDepth := 6) [go_sem, *] at k1_0 q1_0 k1_1 q1_1 k1_2 q1_2
  have HB1 := Lib.hid hb1
  clear hb1
  have HI1 := Lib.hid hi1
  have HL1 := Lib.hid hl1
  clear hi1 hl1
  go_wp2_with fail
  refine (obey_ans xs _ _ _ b _ _ _ rb (E2) _ (ints_now HX.out (by (repeat (first | (with_reducible exact Below.refl _ _) | (with_reducible refine Below.drew ?_) | (with_reducible refine bdrewN ?_ _) | ((with_reducible refine Below.setCell ?_ ?_ _); rotate_left; exact (by first | (simp; done) | (simp; omega) | omega)) | ((with_reducible refine Below.alloc ?_ ?_ _); rotate_left; exact (by first | (simp; done) | (simp; omega) | omega)) | ((with_reducible refine Below.trans ?_ (HB1.out.mono ?_)); rotate_left; exact (by first | (simp; done) | (simp; omega) | omega)))))) (lines_now HL.out (by (repeat (first | (with_reducible exact Below.refl _ _) | (with_reducible refine Below.drew ?_) | (with_reducible refine bdrewN ?_ _) | ((with_reducible refine Below.setCell ?_ ?_ _); rotate_left; exact (by first | (simp; done) | (simp; omega) | omega)) | ((with_reducible refine Below.alloc ?_ ?_ _); rotate_left; exact (by first | (simp; done) | (simp; omega) | omega)) | ((with_reducible refine Below.trans ?_ (HB1.out.mono ?_)); rotate_left; exact (by first | (simp; done) | (simp; omega) | omega)))))) HR2.out HER2.out).mono ?_
  rintro e w2 ⟨L2, n2, c2, rfl, hl2, hb2, _⟩
  have hz2 := hb2.size
  (try simp only [World.size_alloc, World.size_setCell, World.size_drew] at hz2)
  have k2_0 := fun o => (bcell hb2).1 (w.heap.size) o (by first | (simp; done) | (simp; omega) | omega)
  have l2_0 : (w.heap.size) < w2.heap.size := (by omega)
  have q2_0 := fun o => (bcell hb2).2 (w.heap.size) o (by first | (simp; done) | (simp; omega) | omega)
  have k2_1 := fun o => (bcell hb2).1 (w.heap.size + 1) o (by first | (simp; done) | (simp; omega) | omega)
  have l2_1 : (w.heap.size + 1) < w2.heap.size := (by omega)
  have q2_1 := fun o => (bcell hb2).2 (w.heap.size + 1) o (by first | (simp; done) | (simp; omega) | omega)
  have k2_2 := fun o => (bcell hb2).1 (w.heap.size + 1 + 1) o (by first | (simp; done) | (simp; omega) | omega)
  have l2_2 : (w.heap.size + 1 + 1) < w2.heap.size := (by omega)
  have q2_2 := fun o => (bcell hb2).2 (w.heap.size + 1 + 1) o (by first | (simp; done) | (simp; omega) | omega)
  have k2_3 := fun o => (bcell hb2).1 (w1.heap.size) o (by first | (simp; done) | (simp; omega) | omega)
  have l2_3 : (w1.heap.size) < w2.heap.size := (by omega)
  have q2_3 := fun o => (bcell hb2).2 (w1.heap.size) o (by first | (simp; done) | (simp; omega) | omega)
  have k2_4 := fun o => (bcell hb2).1 (w1.heap.size + 1) o (by first | (simp; done) | (simp; omega) | omega)
  have l2_4 : (w1.heap.size + 1) < w2.heap.size := (by omega)
  have q2_4 := fun o => (bcell hb2).2 (w1.heap.size + 1) o (by first | (simp; done) | (simp; omega) | omega)
  simp (maxDischargeDepth := 6) [go_sem, *] at k2_0 q2_0 k2_1 q2_1 k2_2 q2_2 k2_3 q2_3 k2_4 q2_4
  have HB2 := Lib.hid hb2
  clear hb2
  clear k1_0 q1_0 l1_0 k1_1 q1_1 l1_1 k1_2 q1_2 l1_2
  have HL2 := Lib.hid hl2
  clear hl2
  go_wp2_with fail
  refine (ref_CheckMem _ _ _ xs _ (ints_now HX.out (by (repeat (first | (with_reducible exact Below.refl _ _) | (with_reducible refine Below.drew ?_) | (with_reducible refine bdrewN ?_ _) | ((with_reducible refine Below.setCell ?_ ?_ _); rotate_left; exact (by first | (simp; done) | (simp; omega) | omega)) | ((with_reducible refine Below.alloc ?_ ?_ _); rotate_left; exact (by first | (simp; done) | (simp; omega) | omega)) | ((with_reducible refine Below.trans ?_ (HB2.out.mono ?_)); rotate_left; exact (by first | (simp; done) | (simp; omega) | omega)) | ((with_reducible refine Below.trans ?_ (HB1.out.mono ?_)); rotate_left; exact (by first | (simp; done) | (simp; omega) | omega))))))).mono ?_
  rw [HCM.out]
  rintro e w3 ⟨rfl, hb3⟩
  have hz3 := hb3.size
  (try simp only [World.size_alloc, World.size_setCell, World.size_drew] at hz3)
  have k3_0 := fun o => (bcell hb3).1 (w.heap.size) o (by first | (simp; done) | (simp; omega) | omega)
  have l3_0 : (w.heap.size) < w3.heap.size := (by omega)
  have q3_0 := fun o => (bcell hb3).2 (w.heap.size) o (by first | (simp; done) | (simp; omega) | omega)
  have k3_1 := fun o => (bcell hb3).1 (w.heap.size + 1) o (by first | (simp; done) | (simp; omega) | omega)
  have l3_1 : (w.heap.size + 1) < w3.heap.size := (by omega)
  have q3_1 := fun o => (bcell hb3).2 (w.heap.size + 1) o (by first | (simp; done) | (simp; omega) | omega)
  have k3_2 := fun o => (bcell hb3).1 (w.heap.size + 1 + 1) o (by first | (simp; done) | (simp; omega) | omega)
  have l3_2 : (w.heap.size + 1 + 1) < w3.heap.size := (by omega)
  have q3_2 := fun o => (bcell hb3).2 (w.heap.size + 1 + 1) o (by first | (simp; done) | (simp; omega) | omega)
  have k3_3 := fun o => (bcell hb3).1 (w1.heap.size) o (by first | (simp; done) | (simp; omega) | omega)
  have l3_3 : (w1.heap.size) < w3.heap.size := (by omega)
  have q3_3 := fun o => (bcell hb3).2 (w1.heap.size) o (by first | (simp; done) | (simp; omega) | omega)
  have k3_4 := fun o => (bcell hb3).1 (w1.heap.size + 1) o (by first | (simp; done) | (simp; omega) | omega)
  have l3_4 : (w1.heap.size + 1) < w3.heap.size := (by omega)
  have q3_4 := fun o => (bcell hb3).2 (w1.heap.size + 1) o (by first | (simp; done) | (simp; omega) | omega)
  have k3_5 := fun o => (bcell hb3).1 (w2.heap.size) o (by first | (simp; done) | (simp; omega) | omega)
  have l3_5 : (w2.heap.size) < w3.heap.size := (by omega)
  have q3_5 := fun o => (bcell hb3).2 (w2.heap.size) o (by first | (simp; done) | (simp; omega) | omega)
  simp (maxDischargeDepth := 6) [go_sem, *] at k3_0 q3_0 k3_1 q3_1 k3_2 q3_2 k3_3 q3_3 k3_4 q3_4 k3_5 q3_5
  have HB3 := Lib.hid hb3
  clear hb3
  clear k2_0 q2_0 l2_0 k2_1 q2_1 l2_1 k2_2 q2_2 l2_2 k2_3 q2_3 l2_3 k2_4 q2_4 l2_4
  go_wp2_with fail
  refine (ref_CheckBridge b _ _ _ _ (lines_now HL.out (by (repeat (first | (with_reducible exact Below.refl _ _) | (with_reducible refine Below.drew ?_) | (with_reducible refine bdrewN ?_ _) | ((with_reducible refine Below.setCell ?_ ?_ _); rotate_left; exact (by first | (simp; done) | (simp; omega) | omega)) | ((with_reducible refine Below.alloc ?_ ?_ _); rotate_left; exact (by first | (simp; done) | (simp; omega) | omega)) | ((with_reducible refine Below.trans ?_ (HB3.out.mono ?_)); rotate_left; exact (by first | (simp; done) | (simp; omega) | omega)) | ((with_reducible refine Below.trans ?_ (HB2.out.mono ?_)); rotate_left; exact (by first | (simp; done) | (simp; omega) | omega)) | ((with_reducible refine Below.trans ?_ (HB1.out.mono ?_)); rotate_left; exact (by first | (simp; done) | (simp; omega) | omega))))))).mono ?_
  rw [HCK.out]
  rintro e w4 ⟨rfl, hb4⟩
  have hz4 := hb4.size
  (try simp only [World.size_alloc, World.size_setCell, World.size_drew] at hz4)
  have k4_0 := fun o => (bcell hb4).1 (w.heap.size) o (by first | (simp; done) | (simp; omega) | omega)
  have l4_0 : (w.heap.size) < w4.heap.size := (by omega)
  have q4_0 := fun o => (bcell hb4).2 (w.heap.size) o (by first | (simp; done) | (simp; omega) | omega)
  have k4_1 := fun o => (bcell hb4).1 (w.heap.size + 1) o (by first | (simp; done) | (simp; omega) | omega)
  have l4_1 : (w.heap.size + 1) < w4.heap.size := (by omega)
  have q4_1 := fun o => (bcell hb4).2 (w.heap.size + 1) o (by first | (simp; done) | (simp; omega) | omega)
  have k4_2 := fun o => (bcell hb4).1 (w.heap.size + 1 + 1) o (by first | (simp; done) | (simp; omega) | omega)
  have l4_2 : (w.heap.size + 1 + 1) < w4.heap.size := (by omega)
  have q4_2 := fun o => (bcell hb4).2 (w.heap.size + 1 + 1) o (by first | (simp; done) | (simp; omega) | omega)
  have k4_3 := fun o => (bcell hb4).1 (w1.heap.size) o (by first | (simp; done) | (simp; omega) | omega)
  have l4_3 : (w1.heap.size) < w4.heap.size := (by omega)
  have q4_3 := fun o => (bcell hb4).2 (w1.heap.size) o (by first | (simp; done) | (simp; omega) | omega)
  have k4_4 := fun o => (bcell hb4).1 (w1.heap.size + 1) o (by first | (simp; done) | (simp; omega) | omega)
  have l4_4 : (w1.heap.size + 1) < w4.heap.size := (by omega)
  have q4_4 := fun o => (bcell hb4).2 (w1.heap.size + 1) o (by first | (simp; done) | (simp; omega) | omega)
  have k4_5 := fun o => (bcell hb4).1 (w2.heap.size) o (by first | (simp; done) | (simp; omega) | omega)
  have l4_5 : (w2.heap.size) < w4.heap.size := (by omega)
  have q4_5 := fun o => (bcell hb4).2 (w2.heap.size) o (by first | (simp; done) | (simp; omega) | omega)
  simp (maxDischargeDepth := 6) [go_sem, *] at k4_0 q4_0 k4_1 q4_1 k4_2 q4_2 k4_3 q4_3 k4_4 q4_4 k4_5 q4_5
  have HB4 := Lib.hid hb4
  clear hb4
  clear k3_0 q3_0 l3_0 k3_1 q3_1 l3_1 k3_2 q3_2 l3_2 k3_3 q3_3 l3_3 k3_4 q3_4 l3_4 k3_5 q3_5 l3_5
  go_wp2_with fail
  refine (law_crossed _).mono ?_
  rintro e w5 ⟨rfl, hb5⟩
  have hz5 := hb5.size
  (try simp only [World.size_alloc, World.size_setCell, World.size_drew] at hz5)
  have k5_0 := fun o => (bcell hb5).1 (w.heap.size) o (by first | (simp; done) | (simp; omega) | omega)
  have l5_0 : (w.heap.size) < w5.heap.size := (by omega)
  have q5_0 := fun o => (bcell hb5).2 (w.heap.size) o (by first | (simp; done) | (simp; omega) | omega)
  have k5_1 := fun o => (bcell hb5).1 (w.heap.size + 1) o (by first | (simp; done) | (simp; omega) | omega)
  have l5_1 : (w.heap.size + 1) < w5.heap.size := (by omega)
  have q5_1 := fun o => (bcell hb5).2 (w.heap.size + 1) o (by first | (simp; done) | (simp; omega) | omega)
  have k5_2 := fun o => (bcell hb5).1 (w.heap.size + 1 + 1) o (by first | (simp; done) | (simp; omega) | omega)
  have l5_2 : (w.heap.size + 1 + 1) < w5.heap.size := (by omega)
  have q5_2 := fun o => (bcell hb5).2 (w.heap.size + 1 + 1) o (by first | (simp; done) | (simp; omega) | omega)
  have k5_3 := fun o => (bcell hb5).1 (w1.heap.size) o (by first | (simp; done) | (simp; omega) | omega)
  have l5_3 : (w1.heap.size) < w5.heap.size := (by omega)
  have q5_3 := fun o => (bcell hb5).2 (w1.heap.size) o (by first | (simp; done) | (simp; omega) | omega)
  have k5_4 := fun o => (bcell hb5).1 (w1.heap.size + 1) o (by first | (simp; done) | (simp; omega) | omega)
  have l5_4 : (w1.heap.size + 1) < w5.heap.size := (by omega)
  have q5_4 := fun o => (bcell hb5).2 (w1.heap.size + 1) o (by first | (simp; done) | (simp; omega) | omega)
  have k5_5 := fun o => (bcell hb5).1 (w2.heap.size) o (by first | (simp; done) | (simp; omega) | omega)
  have l5_5 : (w2.heap.size) < w5.heap.size := (by omega)
  have q5_5 := fun o => (bcell hb5).2 (w2.heap.size) o (by first | (simp; done) | (simp; omega) | omega)
  simp (maxDischargeDepth := 6) [go_sem, *] at k5_0 q5_0 k5_1 q5_1 k5_2 q5_2 k5_3 q5_3 k5_4 q5_4 k5_5 q5_5
  have HB5 := Lib.hid hb5
  clear hb5
  clear k4_0 q4_0 l4_0 k4_1 q4_1 l4_1 k4_2 q4_2 l4_2 k4_3 q4_3 l4_3 k4_4 q4_4 l4_4 k4_5 q4_5 l4_5
  go_wp2_with fail
  refine (told_ans_k xs ys _ _ b b' _ _ _ fc fd fp fw E k _ (ints_now HX.out (by (repeat (first | (with_reducible exact Below.refl _ _) | (with_reducible refine Below.drew ?_) | (with_reducible refine bdrewN ?_ _) | ((with_reducible refine Below.setCell ?_ ?_ _); rotate_left; exact (by first | (simp; done) | (simp; omega) | omega)) | ((with_reducible refine Below.alloc ?_ ?_ _); rotate_left; exact (by first | (simp; done) | (simp; omega) | omega)) | ((with_reducible refine Below.trans ?_ (HB5.out.mono ?_)); rotate_left; exact (by first | (simp; done) | (simp; omega) | omega)) | ((with_reducible refine Below.trans ?_ (HB4.out.mono ?_)); rotate_left; exact (by first | (simp; done) | (simp; omega) | omega)) | ((with_reducible refine Below.trans ?_ (HB3.out.mono ?_)); rotate_left; exact (by first | (simp; done) | (simp; omega) | omega)) | ((with_reducible refine Below.trans ?_ (HB2.out.mono ?_)); rotate_left; exact (by first | (simp; done) | (simp; omega) | omega)) | ((with_reducible refine Below.trans ?_ (HB1.out.mono ?_)); rotate_left; exact (by first | (simp; done) | (simp; omega) | omega)))))) (lines_now HL.out (by (repeat (first | (with_reducible exact Below.refl _ _) | (with_reducible refine Below.drew ?_) | (with_reducible refine bdrewN ?_ _) | ((with_reducible refine Below.setCell ?_ ?_ _); rotate_left; exact (by first | (simp; done) | (simp; omega) | omega)) | ((with_reducible refine Below.alloc ?_ ?_ _); rotate_left; exact (by first | (simp; done) | (simp; omega) | omega)) | ((with_reducible refine Below.trans ?_ (HB5.out.mono ?_)); rotate_left; exact (by first | (simp; done) | (simp; omega) | omega)) | ((with_reducible refine Below.trans ?_ (HB4.out.mono ?_)); rotate_left; exact (by first | (simp; done) | (simp; omega) | omega)) | ((with_reducible refine Below.trans ?_ (HB3.out.mono ?_)); rotate_left; exact (by first | (simp; done) | (simp; omega) | omega)) | ((with_reducible refine Below.trans ?_ (HB2.out.mono ?_)); rotate_left; exact (by first | (simp; done) | (simp; omega) | omega)) | ((with_reducible refine Below.trans ?_ (HB1.out.mono ?_)); rotate_left; exact (by first | (simp; done) | (simp; omega) | omega)))))) HCM.out HCK.out HF.out HR3.out HK.out).mono ?_
  rintro e w6 ⟨A6, d6, L6, n6, c6, rfl, hi6, hl6, hb6, _, _⟩
  have hz6 := hb6.size
  (try simp only [World.size_alloc, World.size_setCell, World.size_drew] at hz6)
  have k6_0 := fun o => (bcell hb6).1 (w.heap.size) o (by first | (simp; done) | (simp; omega) | omega)
  have l6_0 : (w.heap.size) < w6.heap.size := (by omega)
  have q6_0 := fun o => (bcell hb6).2 (w.heap.size) o (by first | (simp; done) | (simp; omega) | omega)
  have k6_1 := fun o => (bcell hb6).1 (w.heap.size + 1) o (by first | (simp; done) | (simp; omega) | omega)
  have l6_1 : (w.heap.size + 1) < w6.heap.size := (by omega)
  have q6_1 := fun o => (bcell hb6).2 (w.heap.size + 1) o (by first | (simp; done) | (simp; omega) | omega)
  have k6_2 := fun o => (bcell hb6).1 (w1.heap.size) o (by first | (simp; done) | (simp; omega) | omega)
  have l6_2 : (w1.heap.size) < w6.heap.size := (by omega)
  have q6_2 := fun o => (bcell hb6).2 (w1.heap.size) o (by first | (simp; done) | (simp; omega) | omega)
  have k6_3 := fun o => (bcell hb6).1 (w1.heap.size + 1) o (by first | (simp; done) | (simp; omega) | omega)
  have l6_3 : (w1.heap.size + 1) < w6.heap.size := (by omega)
  have q6_3 := fun o => (bcell hb6).2 (w1.heap.size + 1) o (by first | (simp; done) | (simp; omega) | omega)
  have k6_4 := fun o => (bcell hb6).1 (w2.heap.size) o (by first | (simp; done) | (simp; omega) | omega)
  have l6_4 : (w2.heap.size) < w6.heap.size := (by omega)
  have q6_4 := fun o => (bcell hb6).2 (w2.heap.size) o (by first | (simp; done) | (simp; omega) | omega)
  simp (maxDischargeDepth := 6) [go_sem, *] at k6_0 q6_0 k6_1 q6_1 k6_2 q6_2 k6_3 q6_3 k6_4 q6_4
  have HB6 := Lib.hid hb6
  clear hb6
  clear k5_0 q5_0 l5_0 k5_1 q5_1 l5_1 k5_2 q5_2 l5_2 k5_3 q5_3 l5_3 k5_4 q5_4 l5_4 k5_5 q5_5 l5_5
  have HI6 := Lib.hid hi6
  have HL6 := Lib.hid hl6
  clear hi6 hl6
  go_wp2_with fail
  refine (ref_Obeyed xs _ _ b _ _ _ rb E2 _ (ints_now HX.out (by (repeat (first | (with_reducible exact Below.refl _ _) | (with_reducible refine Below.drew ?_) | (with_reducible refine bdrewN ?_ _) | ((with_reducible refine Below.setCell ?_ ?_ _); rotate_left; exact (by first | (simp; done) | (simp; omega) | omega)) | ((with_reducible refine Below.alloc ?_ ?_ _); rotate_left; exact (by first | (simp; done) | (simp; omega) | omega)) | ((with_reducible refine Below.trans ?_ (HB6.out.mono ?_)); rotate_left; exact (by first | (simp; done) | (simp; omega) | omega)) | ((with_reducible refine Below.trans ?_ (HB5.out.mono ?_)); rotate_left; exact (by first | (simp; done) | (simp; omega) | omega)) | ((with_reducible refine Below.trans ?_ (HB4.out.mono ?_)); rotate_left; exact (by first | (simp; done) | (simp; omega) | omega)) | ((with_reducible refine Below.trans ?_ (HB3.out.mono ?_)); rotate_left; exact (by first | (simp; done) | (simp; omega) | omega)) | ((with_reducible refine Below.trans ?_ (HB2.out.mono ?_)); rotate_left; exact (by first | (simp; done) | (simp; omega) | omega)) | ((with_reducible refine Below.trans ?_ (HB1.out.mono ?_)); rotate_left; exact (by first | (simp; done) | (simp; omega) | omega)))))) (lines_now HL.out (by (repeat (first | (with_reducible exact Below.refl _ _) | (with_reducible refine Below.drew ?_) | (with_reducible refine bdrewN ?_ _) | ((with_reducible refine Below.setCell ?_ ?_ _); rotate_left; exact (by first | (simp; done) | (simp; omega) | omega)) | ((with_reducible refine Below.alloc ?_ ?_ _); rotate_left; exact (by first | (simp; done) | (simp; omega) | omega)) | ((with_reducible refine Below.trans ?_ (HB6.out.mono ?_)); rotate_left; exact (by first | (simp; done) | (simp; omega) | omega)) | ((with_reducible refine Below.trans ?_ (HB5.out.mono ?_)); rotate_left; exact (by first | (simp; done) | (simp; omega) | omega)) | ((with_reducible refine Below.trans ?_ (HB4.out.mono ?_)); rotate_left; exact (by first | (simp; done) | (simp; omega) | omega)) | ((with_reducible refine Below.trans ?_ (HB3.out.mono ?_)); rotate_left; exact (by first | (simp; done) | (simp; omega) | omega)) | ((with_reducible refine Below.trans ?_ (HB2.out.mono ?_)); rotate_left; exact (by first | (simp; done) | (simp; omega) | omega)) | ((with_reducible refine Below.trans ?_ (HB1.out.mono ?_)); rotate_left; exact (by first | (simp; done) | (simp; omega) | omega)))))) HCM.out HCK.out HR2.out HER2.out).mono ?_
  rintro e w7 ⟨L7, n7, c7, rfl, hl7, hb7, _⟩
  have hz7 := hb7.size
  (try simp only [World.size_alloc, World.size_setCell, World.size_drew] at hz7)
  have k7_0 := fun o => (bcell hb7).1 (w1.heap.size) o (by first | (simp; done) | (simp; omega) | omega)
  have l7_0 : (w1.heap.size) < w7.heap.size := (by omega)
  have q7_0 := fun o => (bcell hb7).2 (w1.heap.size) o (by first | (simp; done) | (simp; omega) | omega)
  have k7_1 := fun o => (bcell hb7).1 (w1.heap.size + 1) o (by first | (simp; done) | (simp; omega) | omega)
  have l7_1 : (w1.heap.size + 1) < w7.heap.size := (by omega)
  have q7_1 := fun o => (bcell hb7).2 (w1.heap.size + 1) o (by first | (simp; done) | (simp; omega) | omega)
  have k7_2 := fun o => (bcell hb7).1 (w2.heap.size) o (by first | (simp; done) | (simp; omega) | omega)
  have l7_2 : (w2.heap.size) < w7.heap.size := (by omega)
  have q7_2 := fun o => (bcell hb7).2 (w2.heap.size) o (by first | (simp; done) | (simp; omega) | omega)
  have k7_3 := fun o => (bcell hb7).1 (w6.heap.size) o (by first | (simp; done) | (simp; omega) | omega)
  have l7_3 : (w6.heap.size) < w7.heap.size := (by omega)
  have q7_3 := fun o => (bcell hb7).2 (w6.heap.size) o (by first | (simp; done) | (simp; omega) | omega)
  have k7_4 := fun o => (bcell hb7).1 (w6.heap.size + 1) o (by first | (simp; done) | (simp; omega) | omega)
  have l7_4 : (w6.heap.size + 1) < w7.heap.size := (by omega)
  have q7_4 := fun o => (bcell hb7).2 (w6.heap.size + 1) o (by first | (simp; done) | (simp; omega) | omega)
  simp (maxDischargeDepth := 6) [go_sem, *] at k7_0 q7_0 k7_1 q7_1 k7_2 q7_2 k7_3 q7_3 k7_4 q7_4
  have HB7 := Lib.hid hb7
  clear hb7
  clear k6_0 q6_0 l6_0 k6_1 q6_1 l6_1 k6_2 q6_2 l6_2 k6_3 q6_3 l6_3 k6_4 q6_4 l6_4
  have HL7 := Lib.hid hl7
  clear hl7
  go_wp2_with fail
  refine (sl_Equal A1 A6 k k d1 d6 ys ys _ (ints_now HI1.out (by (repeat (first | (with_reducible exact Below.refl _ _) | (with_reducible refine Below.drew ?_) | (with_reducible refine bdrewN ?_ _) | ((with_reducible refine Below.setCell ?_ ?_ _); rotate_left; exact (by first | (simp; done) | (simp; omega) | omega)) | ((with_reducible refine Below.alloc ?_ ?_ _); rotate_left; exact (by first | (simp; done) | (simp; omega) | omega)) | ((with_reducible refine Below.trans ?_ (HB7.out.mono ?_)); rotate_left; exact (by first | (simp; done) | (simp; omega) | omega)) | ((with_reducible refine Below.trans ?_ (HB6.out.mono ?_)); rotate_left; exact (by first | (simp; done) | (simp; omega) | omega)) | ((with_reducible refine Below.trans ?_ (HB5.out.mono ?_)); rotate_left; exact (by first | (simp; done) | (simp; omega) | omega)) | ((with_reducible refine Below.trans ?_ (HB4.out.mono ?_)); rotate_left; exact (by first | (simp; done) | (simp; omega) | omega)) | ((with_reducible refine Below.trans ?_ (HB3.out.mono ?_)); rotate_left; exact (by first | (simp; done) | (simp; omega) | omega)) | ((with_reducible refine Below.trans ?_ (HB2.out.mono ?_)); rotate_left; exact (by first | (simp; done) | (simp; omega) | omega)))))) (ints_now HI6.out (by (repeat (first | (with_reducible exact Below.refl _ _) | (with_reducible refine Below.drew ?_) | (with_reducible refine bdrewN ?_ _) | ((with_reducible refine Below.setCell ?_ ?_ _); rotate_left; exact (by first | (simp; done) | (simp; omega) | omega)) | ((with_reducible refine Below.alloc ?_ ?_ _); rotate_left; exact (by first | (simp; done) | (simp; omega) | omega)) | ((with_reducible refine Below.trans ?_ (HB7.out.mono ?_)); rotate_left; exact (by first | (simp; done) | (simp; omega) | omega))))))).mono ?_
  rw [eqI_self]
  rintro e w8 ⟨rfl, hb8⟩
  have hz8 := hb8.size
  (try simp only [World.size_alloc, World.size_setCell, World.size_drew] at hz8)
  have k8_0 := fun o => (bcell hb8).1 (w1.heap.size + 1) o (by first | (simp; done) | (simp; omega) | omega)
  have l8_0 : (w1.heap.size + 1) < w8.heap.size := (by omega)
  have q8_0 := fun o => (bcell hb8).2 (w1.heap.size + 1) o (by first | (simp; done) | (simp; omega) | omega)
  have k8_1 := fun o => (bcell hb8).1 (w2.heap.size) o (by first | (simp; done) | (simp; omega) | omega)
  have l8_1 : (w2.heap.size) < w8.heap.size := (by omega)
  have q8_1 := fun o => (bcell hb8).2 (w2.heap.size) o (by first | (simp; done) | (simp; omega) | omega)
  have k8_2 := fun o => (bcell hb8).1 (w6.heap.size + 1) o (by first | (simp; done) | (simp; omega) | omega)
  have l8_2 : (w6.heap.size + 1) < w8.heap.size := (by omega)
  have q8_2 := fun o => (bcell hb8).2 (w6.heap.size + 1) o (by first | (simp; done) | (simp; omega) | omega)
  have k8_3 := fun o => (bcell hb8).1 (w7.heap.size) o (by first | (simp; done) | (simp; omega) | omega)
  have l8_3 : (w7.heap.size) < w8.heap.size := (by omega)
  have q8_3 := fun o => (bcell hb8).2 (w7.heap.size) o (by first | (simp; done) | (simp; omega) | omega)
  simp (maxDischargeDepth := 6) [go_sem, *] at k8_0 q8_0 k8_1 q8_1 k8_2 q8_2 k8_3 q8_3
  have HB8 := Lib.hid hb8
  clear hb8
  clear k7_0 q7_0 l7_0 k7_1 q7_1 l7_1 k7_2 q7_2 l7_2 k7_3 q7_3 l7_3 k7_4 q7_4 l7_4
  go_wp2_with fail
  refine (ref_SameBridge b' b' L1 L6 n1 c1 n6 c6 _ (lines_now HL1.out (by (repeat (first | (with_reducible exact Below.refl _ _) | (with_reducible refine Below.drew ?_) | (with_reducible refine bdrewN ?_ _) | ((with_reducible refine Below.setCell ?_ ?_ _); rotate_left; exact (by first | (simp; done) | (simp; omega) | omega)) | ((with_reducible refine Below.alloc ?_ ?_ _); rotate_left; exact (by first | (simp; done) | (simp; omega) | omega)) | ((with_reducible refine Below.trans ?_ (HB8.out.mono ?_)); rotate_left; exact (by first | (simp; done) | (simp; omega) | omega)) | ((with_reducible refine Below.trans ?_ (HB7.out.mono ?_)); rotate_left; exact (by first | (simp; done) | (simp; omega) | omega)) | ((with_reducible refine Below.trans ?_ (HB6.out.mono ?_)); rotate_left; exact (by first | (simp; done) | (simp; omega) | omega)) | ((with_reducible refine Below.trans ?_ (HB5.out.mono ?_)); rotate_left; exact (by first | (simp; done) | (simp; omega) | omega)) | ((with_reducible refine Below.trans ?_ (HB4.out.mono ?_)); rotate_left; exact (by first | (simp; done) | (simp; omega) | omega)) | ((with_reducible refine Below.trans ?_ (HB3.out.mono ?_)); rotate_left; exact (by first | (simp; done) | (simp; omega) | omega)) | ((with_reducible refine Below.trans ?_ (HB2.out.mono ?_)); rotate_left; exact (by first | (simp; done) | (simp; omega) | omega)))))) (lines_now HL6.out (by (repeat (first | (with_reducible exact Below.refl _ _) | (with_reducible refine Below.drew ?_) | (with_reducible refine bdrewN ?_ _) | ((with_reducible refine Below.setCell ?_ ?_ _); rotate_left; exact (by first | (simp; done) | (simp; omega) | omega)) | ((with_reducible refine Below.alloc ?_ ?_ _); rotate_left; exact (by first | (simp; done) | (simp; omega) | omega)) | ((with_reducible refine Below.trans ?_ (HB8.out.mono ?_)); rotate_left; exact (by first | (simp; done) | (simp; omega) | omega)) | ((with_reducible refine Below.trans ?_ (HB7.out.mono ?_)); rotate_left; exact (by first | (simp; done) | (simp; omega) | omega))))))).mono ?_
  rw [same_self]
  rintro e w9 ⟨rfl, hb9⟩
  have hz9 := hb9.size
  (try simp only [World.size_alloc, World.size_setCell, World.size_drew] at hz9)
  have k9_0 := fun o => (bcell hb9).1 (w2.heap.size) o (by first | (simp; done) | (simp; omega) | omega)
  have l9_0 : (w2.heap.size) < w9.heap.size := (by omega)
  have q9_0 := fun o => (bcell hb9).2 (w2.heap.size) o (by first | (simp; done) | (simp; omega) | omega)
  have k9_1 := fun o => (bcell hb9).1 (w7.heap.size) o (by first | (simp; done) | (simp; omega) | omega)
  have l9_1 : (w7.heap.size) < w9.heap.size := (by omega)
  have q9_1 := fun o => (bcell hb9).2 (w7.heap.size) o (by first | (simp; done) | (simp; omega) | omega)
  simp (maxDischargeDepth := 6) [go_sem, *] at k9_0 q9_0 k9_1 q9_1
  have HB9 := Lib.hid hb9
  clear hb9
  clear k8_0 q8_0 l8_0 k8_1 q8_1 l8_1 k8_2 q8_2 l8_2 k8_3 q8_3 l8_3
  go_wp2_with fail
  refine (ref_SameBridge rb rb L2 L7 n2 c2 n7 c7 _ (lines_now HL2.out (by (repeat (first | (with_reducible exact Below.refl _ _) | (with_reducible refine Below.drew ?_) | (with_reducible refine bdrewN ?_ _) | ((with_reducible refine Below.setCell ?_ ?_ _); rotate_left; exact (by first | (simp; done) | (simp; omega) | omega)) | ((with_reducible refine Below.alloc ?_ ?_ _); rotate_left; exact (by first | (simp; done) | (simp; omega) | omega)) | ((with_reducible refine Below.trans ?_ (HB9.out.mono ?_)); rotate_left; exact (by first | (simp; done) | (simp; omega) | omega)) | ((with_reducible refine Below.trans ?_ (HB8.out.mono ?_)); rotate_left; exact (by first | (simp; done) | (simp; omega) | omega)) | ((with_reducible refine Below.trans ?_ (HB7.out.mono ?_)); rotate_left; exact (by first | (simp; done) | (simp; omega) | omega)) | ((with_reducible refine Below.trans ?_ (HB6.out.mono ?_)); rotate_left; exact (by first | (simp; done) | (simp; omega) | omega)) | ((with_reducible refine Below.trans ?_ (HB5.out.mono ?_)); rotate_left; exact (by first | (simp; done) | (simp; omega) | omega)) | ((with_reducible refine Below.trans ?_ (HB4.out.mono ?_)); rotate_left; exact (by first | (simp; done) | (simp; omega) | omega)) | ((with_reducible refine Below.trans ?_ (HB3.out.mono ?_)); rotate_left; exact (by first | (simp; done) | (simp; omega) | omega)))))) (lines_now HL7.out (by (repeat (first | (with_reducible exact Below.refl _ _) | (with_reducible refine Below.drew ?_) | (with_reducible refine bdrewN ?_ _) | ((with_reducible refine Below.setCell ?_ ?_ _); rotate_left; exact (by first | (simp; done) | (simp; omega) | omega)) | ((with_reducible refine Below.alloc ?_ ?_ _); rotate_left; exact (by first | (simp; done) | (simp; omega) | omega)) | ((with_reducible refine Below.trans ?_ (HB9.out.mono ?_)); rotate_left; exact (by first | (simp; done) | (simp; omega) | omega)) | ((with_reducible refine Below.trans ?_ (HB8.out.mono ?_)); rotate_left; exact (by first | (simp; done) | (simp; omega) | omega))))))).mono ?_
  rw [same_self]
  rintro e w10 ⟨rfl, hb10⟩
  have hz10 := hb10.size
  (try simp only [World.size_alloc, World.size_setCell, World.size_drew] at hz10)
  have HB10 := Lib.hid hb10
  clear hb10
  go_wp2
  go_ret
  exact ⟨rfl, by (repeat (first | (with_reducible exact Below.refl _ _) | (with_reducible refine Below.drew ?_) | (with_reducible refine bdrewN ?_ _) | ((with_reducible refine Below.setCell ?_ ?_ _); rotate_left; exact (by first | (simp; done) | (simp; omega) | omega)) | ((with_reducible refine Below.alloc ?_ ?_ _); rotate_left; exact (by first | (simp; done) | (simp; omega) | omega)) | ((with_reducible refine Below.trans ?_ (HB10.out.mono ?_)); rotate_left; exact (by first | (simp; done) | (simp; omega) | omega)) | ((with_reducible refine Below.trans ?_ (HB9.out.mono ?_)); rotate_left; exact (by first | (simp; done) | (simp; omega) | omega)) | ((with_reducible refine Below.trans ?_ (HB8.out.mono ?_)); rotate_left; exact (by first | (simp; done) | (simp; omega) | omega)) | ((with_reducible refine Below.trans ?_ (HB7.out.mono ?_)); rotate_left; exact (by first | (simp; done) | (simp; omega) | omega)) | ((with_reducible refine Below.trans ?_ (HB6.out.mono ?_)); rotate_left; exact (by first | (simp; done) | (simp; omega) | omega)) | ((with_reducible refine Below.trans ?_ (HB5.out.mono ?_)); rotate_left; exact (by first | (simp; done) | (simp; omega) | omega)) | ((with_reducible refine Below.trans ?_ (HB4.out.mono ?_)); rotate_left; exact (by first | (simp; done) | (simp; omega) | omega)) | ((with_reducible refine Below.trans ?_ (HB3.out.mono ?_)); rotate_left; exact (by first | (simp; done) | (simp; omega) | omega)) | ((with_reducible refine Below.trans ?_ (HB2.out.mono ?_)); rotate_left; exact (by first | (simp; done) | (simp; omega) | omega)) | ((with_reducible refine Below.trans ?_ (HB1.out.mono ?_)); rotate_left; exact (by first | (simp; done) | (simp; omega) | omega))))⟩
theorem law_BridgeTells (xs : List Int) (m : Option Addr) (nm cm' : Nat) (b : Brg) (A : Option Addr) (n c : Nat) (fc fd fp : Int) (fw : Bool) (w : World) (hx : Ints w w.heap.size m nm xs) (hl : Lines w w.heap.size A n c b.cache) :
    Calls Try.prog 11 #[.agg #[.slice m nm cm'], .agg #[.int .i64 b.mode, .int .i64 b.base, .slice A n c, .int .i64 b.orders.page, .int .i64 b.orders.head, .int .i64 b.orders.tail, .bool b.stopped, .int .i64 b.fences, .int .i64 b.faults.page, .int .i64 b.faults.head, .int .i64 b.faults.tail, .bool b.lost], .agg #[.int .i64 fc, .int .i64 fd, .int .i64 fp, .bool fw]] w fun e w' => e = .returned (.bool true) ∧ Below w.heap.size w w' := by
  by_cases hcm : cm xs = 0
  · by_cases hb : ckB b = 0
    · have hn : nm = 512 := by rw [← hx.len]; exact (cm_inv hcm).1
      subst hn
      have e1 : tellE xs b ⟨fc, fd, fp, fw⟩ = fltE fc fd fp := tellE_0 hcm hb
      generalize hr : tellA xs b ⟨fc, fd, fp, fw⟩ = r
      obtain ⟨ys, b'⟩ := r
      refine tells_ok xs m cm' b A n c fc fd fp fw ys b' _ (fltE fc fd fp) _ _ w hx hl hcm hb hr e1 rfl ?_ rfl (by split <;> omega) rfl rfl
      unfold tellA at hr
      rw [e1] at hr
      exact hr
    · have ha : allE xs b = ckB b := by unfold allE; rw [if_pos hcm]
      have e1 : tellE xs b ⟨fc, fd, fp, fw⟩ = ckB b := by unfold tellE; rw [ha, if_neg hb]
      have e2 : obeyE xs b = ckB b := by unfold obeyE; rw [ha, if_neg hb]
      exact tells_b xs m nm cm' b A n c fc fd fp fw w hx hl hcm hb (by unfold tellA; rw [e1, if_neg hb]) e1 (if_neg hb) (by unfold obeyA; rw [e2, if_neg hb]) e2
  · have ha : allE xs b = cm xs := by unfold allE; rw [if_neg hcm]
    have e1 : tellE xs b ⟨fc, fd, fp, fw⟩ = cm xs := by unfold tellE; rw [ha, if_neg hcm]
    have e2 : obeyE xs b = cm xs := by unfold obeyE; rw [ha, if_neg hcm]
    exact tells_c xs m nm cm' b A n c fc fd fp fw w hx hl hcm (by unfold tellA; rw [e1, if_neg hcm]) e1 (if_neg hcm) (by unfold obeyA; rw [e2, if_neg hcm]) e2
end Go.Proofs.Ytbopdijnojaaiac
