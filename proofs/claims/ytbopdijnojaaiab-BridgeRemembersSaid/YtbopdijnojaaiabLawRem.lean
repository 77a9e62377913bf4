/- The walk of the law BridgeRemembers, whole. -/
import Derived.Test.YtbopdijnojaaiabLawShut
import Derived.Test.YtbopdijnojaaiabDrop
import Derived.Test.YtbopdijnojaaiabRemP
namespace Go.Proofs.Ytbopdijnojaaiab
open Go.RowKit
set_option linter.unusedSimpArgs false
set_option linter.unusedVariables false

section
set_option maxRecDepth 100000 in
set_option maxHeartbeats 8000000 in
theorem rem_fg (xs ns : List Int) (m N : Option Addr) (nm cm' nn nc : Nat) (b rb rb2 rb3 : Brg) (A : Option Addr) (n c : Nat) (d p d' p' : Int) (wr : Bool) (ra rf ra2 rf2 : Int) (ms : List Line) (w : World) (hx : Ints w w.heap.size m nm xs) (hn : Ints w w.heap.size N nn ns) (hl : Lines w w.heap.size A n c b.cache) (hd : d % 8 = d') (hp : p % 64 = p')
    (h1 : thruA xs b d' p' wr = (rb, ra, rf)) (h1e : thruE xs b d' p' = 0) (hns : cm ns = 0) (hck : ckB rb = 0) (hf : rf ≠ 0) (hs : sameB b rb = true) (hg : 0 ≤ findL rb.cache d' p')
    (hde : dropE rb.cache 3 = 0) (hdl : dropL rb.cache 3 d' p' = ms) (ht : thruA ns { rb with cache := ms } d' p' wr = (rb2, ra2, rf2)) (hte : thruE ns { rb with cache := ms } d' p' = 0) (hpl : thruA ns { b with cache := [] } d' p' wr = (rb3, ra2, rf2)) (hple : thruE ns { b with cache := [] } d' p' = 0) :
    Calls Try.prog 14 #[.agg #[.slice m nm cm'], .agg #[.int .i64 b.mode, .int .i64 b.base, .slice A n c, .int .i64 b.orders.page, .int .i64 b.orders.head, .int .i64 b.orders.tail, .bool b.stopped, .int .i64 b.fences, .int .i64 b.faults.page, .int .i64 b.faults.head, .int .i64 b.faults.tail, .bool b.lost], .int .i64 d, .int .i64 p, .bool wr, .agg #[.slice N nn nc]] w fun e w' => e = .returned (.bool true) ∧ Below w.heap.size w w' := by
  have HX := Lib.hid hx
  have HN := Lib.hid hn
  have HL := Lib.hid hl
  have HD := Lib.hid hd
  have HP := Lib.hid hp
  have H1 := Lib.hid h1
  have H1E := Lib.hid h1e
  have HNS := Lib.hid hns
  have HCK := Lib.hid hck
  have HDE := Lib.hid hde
  have HDL := Lib.hid hdl
  have HT := Lib.hid ht
  have HTE := Lib.hid hte
  have HPL := Lib.hid hpl
  have HPLE := Lib.hid hple
  have HS := Lib.hid hs
  have tf1 : (rf != 0) = true := by rw [bne_iff_ne]; exact hf
  have tf2 : (rf == 0) = false := beq_eq_false_iff_ne.2 hf
  clear hs
  have tg : decide (0 ≤ findL rb.cache d' p') = true := by simpa using hg
  clear hx hn hl hd hp h1 h1e hns hck hde hdl ht hte hpl hple hg hf
  go_enter Try.func14, Try.ntmps14
  go_wp2_with fail
  refine (law_at _ _ (by decide) _).mono ?_
  rw [HD.out]
  rintro e w' ⟨rfl, rfl⟩
  go_wp2_with fail
  refine (law_at _ _ (by decide) _).mono ?_
  rw [HP.out]
  rintro e w' ⟨rfl, rfl⟩
  go_wp2_with fail
  refine (through_ans xs _ _ _ b _ _ _ _ _ _ _ _ _ _ _ (ints_now HX.out (by (repeat (first | (with_reducible exact Below.refl _ _) | (with_reducible refine Below.drew ?_) | (with_reducible refine bdrewN ?_ _) | ((with_reducible refine Below.setCell ?_ ?_ _); rotate_left; exact (by first | (simp; done) | (simp; omega) | omega)) | ((with_reducible refine Below.alloc ?_ ?_ _); rotate_left; exact (by first | (simp; done) | (simp; omega) | omega)))))) (lines_now HL.out (by (repeat (first | (with_reducible exact Below.refl _ _) | (with_reducible refine Below.drew ?_) | (with_reducible refine bdrewN ?_ _) | ((with_reducible refine Below.setCell ?_ ?_ _); rotate_left; exact (by first | (simp; done) | (simp; omega) | omega)) | ((with_reducible refine Below.alloc ?_ ?_ _); rotate_left; exact (by first | (simp; done) | (simp; omega) | omega)))))) H1.out H1E.out).mono ?_
  rintro e w1 ⟨A1, n1, c1, rfl, hl1, hb1, _⟩
  have HL1 := Lib.hid hl1
  clear hl1
  have hz1 := hb1.size
  (try simp only [World.size_alloc, World.size_setCell, World.size_drew] at hz1)
  have k1_0 := fun o => (bcell hb1).1 (w.heap.size + 1) o (by first | (simp; done) | (simp; omega) | omega)
  have l1_0 : (w.heap.size + 1) < w1.heap.size := (by omega)
  have q1_0 := fun o => (bcell hb1).2 (w.heap.size + 1) o (by first | (simp; done) | (simp; omega) | omega)
  have k1_1 := fun o => (bcell hb1).1 (w.heap.size + 1 + 1) o (by first | (simp; done) | (simp; omega) | omega)
  have l1_1 : (w.heap.size + 1 + 1) < w1.heap.size := (by omega)
  have q1_1 := fun o => (bcell hb1).2 (w.heap.size + 1 + 1) o (by first | (simp; done) | (simp; omega) | omega)
  simp (maxDischargeDepth := 6) [go_sem, *] at k1_0 q1_0 k1_1 q1_1
  have HB1 := Lib.hid hb1
  clear hb1
  go_wp2_with fail
  refine (law_crossed _).mono ?_
  rintro e w2 ⟨rfl, hb2⟩
  have hz2 := hb2.size
  (try simp only [World.size_alloc, World.size_setCell, World.size_drew] at hz2)
  have k2_0 := fun o => (bcell hb2).1 (w.heap.size + 1) o (by first | (simp; done) | (simp; omega) | omega)
  have l2_0 : (w.heap.size + 1) < w2.heap.size := (by omega)
  have q2_0 := fun o => (bcell hb2).2 (w.heap.size + 1) o (by first | (simp; done) | (simp; omega) | omega)
  have k2_1 := fun o => (bcell hb2).1 (w.heap.size + 1 + 1) o (by first | (simp; done) | (simp; omega) | omega)
  have l2_1 : (w.heap.size + 1 + 1) < w2.heap.size := (by omega)
  have q2_1 := fun o => (bcell hb2).2 (w.heap.size + 1 + 1) o (by first | (simp; done) | (simp; omega) | omega)
  have k2_2 := fun o => (bcell hb2).1 (w1.heap.size) o (by first | (simp; done) | (simp; omega) | omega)
  have l2_2 : (w1.heap.size) < w2.heap.size := (by omega)
  have q2_2 := fun o => (bcell hb2).2 (w1.heap.size) o (by first | (simp; done) | (simp; omega) | omega)
  simp (maxDischargeDepth := 6) [go_sem, *] at k2_0 q2_0 k2_1 q2_1 k2_2 q2_2
  have HB2 := Lib.hid hb2
  clear hb2
  go_wp2_with fail
  refine (mem_Check _ _ _ ns _ (ints_now HN.out (by (repeat (first | (with_reducible exact Below.refl _ _) | (with_reducible refine Below.drew ?_) | (with_reducible refine bdrewN ?_ _) | ((with_reducible refine Below.setCell ?_ ?_ _); rotate_left; exact (by first | (simp; done) | (simp; omega) | omega)) | ((with_reducible refine Below.alloc ?_ ?_ _); rotate_left; exact (by first | (simp; done) | (simp; omega) | omega)) | ((with_reducible refine Below.trans ?_ (HB2.out.mono ?_)); rotate_left; exact (by first | (simp; done) | (simp; omega) | omega)) | ((with_reducible refine Below.trans ?_ (HB1.out.mono ?_)); rotate_left; exact (by first | (simp; done) | (simp; omega) | omega))))))).mono ?_
  rw [HNS.out]
  rintro e w3 ⟨rfl, hb3⟩
  have hz3 := hb3.size
  (try simp only [World.size_alloc, World.size_setCell, World.size_drew] at hz3)
  have k3_0 := fun o => (bcell hb3).1 (w.heap.size + 1) o (by first | (simp; done) | (simp; omega) | omega)
  have l3_0 : (w.heap.size + 1) < w3.heap.size := (by omega)
  have q3_0 := fun o => (bcell hb3).2 (w.heap.size + 1) o (by first | (simp; done) | (simp; omega) | omega)
  have k3_1 := fun o => (bcell hb3).1 (w.heap.size + 1 + 1) o (by first | (simp; done) | (simp; omega) | omega)
  have l3_1 : (w.heap.size + 1 + 1) < w3.heap.size := (by omega)
  have q3_1 := fun o => (bcell hb3).2 (w.heap.size + 1 + 1) o (by first | (simp; done) | (simp; omega) | omega)
  have k3_2 := fun o => (bcell hb3).1 (w1.heap.size) o (by first | (simp; done) | (simp; omega) | omega)
  have l3_2 : (w1.heap.size) < w3.heap.size := (by omega)
  have q3_2 := fun o => (bcell hb3).2 (w1.heap.size) o (by first | (simp; done) | (simp; omega) | omega)
  simp (maxDischargeDepth := 6) [go_sem, *] at k3_0 q3_0 k3_1 q3_1 k3_2 q3_2
  have HB3 := Lib.hid hb3
  clear hb3
  go_wp2_with fail
  refine (bridge_Check rb _ _ _ _ (lines_now HL1.out (by (repeat (first | (with_reducible exact Below.refl _ _) | (with_reducible refine Below.drew ?_) | (with_reducible refine bdrewN ?_ _) | ((with_reducible refine Below.setCell ?_ ?_ _); rotate_left; exact (by first | (simp; done) | (simp; omega) | omega)) | ((with_reducible refine Below.alloc ?_ ?_ _); rotate_left; exact (by first | (simp; done) | (simp; omega) | omega)) | ((with_reducible refine Below.trans ?_ (HB3.out.mono ?_)); rotate_left; exact (by first | (simp; done) | (simp; omega) | omega)) | ((with_reducible refine Below.trans ?_ (HB2.out.mono ?_)); rotate_left; exact (by first | (simp; done) | (simp; omega) | omega))))))).mono ?_
  rw [HCK.out]
  rintro e w4 ⟨rfl, hb4⟩
  have hz4 := hb4.size
  (try simp only [World.size_alloc, World.size_setCell, World.size_drew] at hz4)
  have k4_0 := fun o => (bcell hb4).1 (w.heap.size + 1) o (by first | (simp; done) | (simp; omega) | omega)
  have l4_0 : (w.heap.size + 1) < w4.heap.size := (by omega)
  have q4_0 := fun o => (bcell hb4).2 (w.heap.size + 1) o (by first | (simp; done) | (simp; omega) | omega)
  have k4_1 := fun o => (bcell hb4).1 (w.heap.size + 1 + 1) o (by first | (simp; done) | (simp; omega) | omega)
  have l4_1 : (w.heap.size + 1 + 1) < w4.heap.size := (by omega)
  have q4_1 := fun o => (bcell hb4).2 (w.heap.size + 1 + 1) o (by first | (simp; done) | (simp; omega) | omega)
  have k4_2 := fun o => (bcell hb4).1 (w1.heap.size) o (by first | (simp; done) | (simp; omega) | omega)
  have l4_2 : (w1.heap.size) < w4.heap.size := (by omega)
  have q4_2 := fun o => (bcell hb4).2 (w1.heap.size) o (by first | (simp; done) | (simp; omega) | omega)
  simp (maxDischargeDepth := 6) [go_sem, *] at k4_0 q4_0 k4_1 q4_1 k4_2 q4_2
  have HB4 := Lib.hid hb4
  clear hb4
  go_wp2_with fail
  refine (bridge_Same b rb _ _ _ _ _ _ _ (lines_now HL.out (by (repeat (first | (with_reducible exact Below.refl _ _) | (with_reducible refine Below.drew ?_) | (with_reducible refine bdrewN ?_ _) | ((with_reducible refine Below.setCell ?_ ?_ _); rotate_left; exact (by first | (simp; done) | (simp; omega) | omega)) | ((with_reducible refine Below.alloc ?_ ?_ _); rotate_left; exact (by first | (simp; done) | (simp; omega) | omega)) | ((with_reducible refine Below.trans ?_ (HB4.out.mono ?_)); rotate_left; exact (by first | (simp; done) | (simp; omega) | omega)) | ((with_reducible refine Below.trans ?_ (HB3.out.mono ?_)); rotate_left; exact (by first | (simp; done) | (simp; omega) | omega)) | ((with_reducible refine Below.trans ?_ (HB2.out.mono ?_)); rotate_left; exact (by first | (simp; done) | (simp; omega) | omega)) | ((with_reducible refine Below.trans ?_ (HB1.out.mono ?_)); rotate_left; exact (by first | (simp; done) | (simp; omega) | omega)))))) (lines_now HL1.out (by (repeat (first | (with_reducible exact Below.refl _ _) | (with_reducible refine Below.drew ?_) | (with_reducible refine bdrewN ?_ _) | ((with_reducible refine Below.setCell ?_ ?_ _); rotate_left; exact (by first | (simp; done) | (simp; omega) | omega)) | ((with_reducible refine Below.alloc ?_ ?_ _); rotate_left; exact (by first | (simp; done) | (simp; omega) | omega)) | ((with_reducible refine Below.trans ?_ (HB4.out.mono ?_)); rotate_left; exact (by first | (simp; done) | (simp; omega) | omega)) | ((with_reducible refine Below.trans ?_ (HB3.out.mono ?_)); rotate_left; exact (by first | (simp; done) | (simp; omega) | omega)) | ((with_reducible refine Below.trans ?_ (HB2.out.mono ?_)); rotate_left; exact (by first | (simp; done) | (simp; omega) | omega))))))).mono ?_
  rw [HS.out]
  rintro e w5 ⟨rfl, hb5⟩
  have hz5 := hb5.size
  (try simp only [World.size_alloc, World.size_setCell, World.size_drew] at hz5)
  have k5_0 := fun o => (bcell hb5).1 (w.heap.size + 1) o (by first | (simp; done) | (simp; omega) | omega)
  have l5_0 : (w.heap.size + 1) < w5.heap.size := (by omega)
  have q5_0 := fun o => (bcell hb5).2 (w.heap.size + 1) o (by first | (simp; done) | (simp; omega) | omega)
  have k5_1 := fun o => (bcell hb5).1 (w.heap.size + 1 + 1) o (by first | (simp; done) | (simp; omega) | omega)
  have l5_1 : (w.heap.size + 1 + 1) < w5.heap.size := (by omega)
  have q5_1 := fun o => (bcell hb5).2 (w.heap.size + 1 + 1) o (by first | (simp; done) | (simp; omega) | omega)
  have k5_2 := fun o => (bcell hb5).1 (w1.heap.size) o (by first | (simp; done) | (simp; omega) | omega)
  have l5_2 : (w1.heap.size) < w5.heap.size := (by omega)
  have q5_2 := fun o => (bcell hb5).2 (w1.heap.size) o (by first | (simp; done) | (simp; omega) | omega)
  simp (maxDischargeDepth := 6) [go_sem, *] at k5_0 q5_0 k5_1 q5_1 k5_2 q5_2
  have HB5 := Lib.hid hb5
  clear hb5
  go_wp2_with fail
  refine (cache_Find _ _ _ rb.cache _ _ _ (lines_now HL1.out (by (repeat (first | (with_reducible exact Below.refl _ _) | (with_reducible refine Below.drew ?_) | (with_reducible refine bdrewN ?_ _) | ((with_reducible refine Below.setCell ?_ ?_ _); rotate_left; exact (by first | (simp; done) | (simp; omega) | omega)) | ((with_reducible refine Below.alloc ?_ ?_ _); rotate_left; exact (by first | (simp; done) | (simp; omega) | omega)) | ((with_reducible refine Below.trans ?_ (HB5.out.mono ?_)); rotate_left; exact (by first | (simp; done) | (simp; omega) | omega)) | ((with_reducible refine Below.trans ?_ (HB4.out.mono ?_)); rotate_left; exact (by first | (simp; done) | (simp; omega) | omega)) | ((with_reducible refine Below.trans ?_ (HB3.out.mono ?_)); rotate_left; exact (by first | (simp; done) | (simp; omega) | omega)) | ((with_reducible refine Below.trans ?_ (HB2.out.mono ?_)); rotate_left; exact (by first | (simp; done) | (simp; omega) | omega))))))).mono ?_
  rintro e w6 ⟨rfl, hb6⟩
  have hz6 := hb6.size
  (try simp only [World.size_alloc, World.size_setCell, World.size_drew] at hz6)
  have k6_0 := fun o => (bcell hb6).1 (w.heap.size + 1) o (by first | (simp; done) | (simp; omega) | omega)
  have l6_0 : (w.heap.size + 1) < w6.heap.size := (by omega)
  have q6_0 := fun o => (bcell hb6).2 (w.heap.size + 1) o (by first | (simp; done) | (simp; omega) | omega)
  have k6_1 := fun o => (bcell hb6).1 (w.heap.size + 1 + 1) o (by first | (simp; done) | (simp; omega) | omega)
  have l6_1 : (w.heap.size + 1 + 1) < w6.heap.size := (by omega)
  have q6_1 := fun o => (bcell hb6).2 (w.heap.size + 1 + 1) o (by first | (simp; done) | (simp; omega) | omega)
  have k6_2 := fun o => (bcell hb6).1 (w1.heap.size) o (by first | (simp; done) | (simp; omega) | omega)
  have l6_2 : (w1.heap.size) < w6.heap.size := (by omega)
  have q6_2 := fun o => (bcell hb6).2 (w1.heap.size) o (by first | (simp; done) | (simp; omega) | omega)
  simp (maxDischargeDepth := 6) [go_sem, *] at k6_0 q6_0 k6_1 q6_1 k6_2 q6_2
  have HB6 := Lib.hid hb6
  clear hb6
  go_wp2_with fail
  refine (drop_ans _ _ _ rb.cache ms 3 d' p' 0 _ (lines_now HL1.out (by (repeat (first | (with_reducible exact Below.refl _ _) | (with_reducible refine Below.drew ?_) | (with_reducible refine bdrewN ?_ _) | ((with_reducible refine Below.setCell ?_ ?_ _); rotate_left; exact (by first | (simp; done) | (simp; omega) | omega)) | ((with_reducible refine Below.alloc ?_ ?_ _); rotate_left; exact (by first | (simp; done) | (simp; omega) | omega)) | ((with_reducible refine Below.trans ?_ (HB6.out.mono ?_)); rotate_left; exact (by first | (simp; done) | (simp; omega) | omega)) | ((with_reducible refine Below.trans ?_ (HB5.out.mono ?_)); rotate_left; exact (by first | (simp; done) | (simp; omega) | omega)) | ((with_reducible refine Below.trans ?_ (HB4.out.mono ?_)); rotate_left; exact (by first | (simp; done) | (simp; omega) | omega)) | ((with_reducible refine Below.trans ?_ (HB3.out.mono ?_)); rotate_left; exact (by first | (simp; done) | (simp; omega) | omega)) | ((with_reducible refine Below.trans ?_ (HB2.out.mono ?_)); rotate_left; exact (by first | (simp; done) | (simp; omega) | omega)))))) (by decide) HDE.out HDL.out).mono ?_
  rintro e w7 ⟨A9, c9, rfl, hl9, hb7, hn9⟩
  have hz9 := hb7.size
  (try simp only [World.size_alloc, World.size_setCell, World.size_drew] at hz9 hn9)
  have HL9 : Hid (Lines (w7.setCell ⟨w1.heap.size, 2, none⟩ (.slice A9 ms.length c9)) (w7.setCell ⟨w1.heap.size, 2, none⟩ (.slice A9 ms.length c9)).heap.size A9 ms.length c9 ms) := Lib.hid ((lines_off hl9 (fun ad h => by have := hn9 ad h; simp; omega) _).more (by simp))
  clear hl9 hn9
  have hz7 := hb7.size
  (try simp only [World.size_alloc, World.size_setCell, World.size_drew] at hz7)
  have k7_0 := fun o => (bcell hb7).1 (w.heap.size + 1) o (by first | (simp; done) | (simp; omega) | omega)
  have l7_0 : (w.heap.size + 1) < w7.heap.size := (by omega)
  have q7_0 := fun o => (bcell hb7).2 (w.heap.size + 1) o (by first | (simp; done) | (simp; omega) | omega)
  have k7_1 := fun o => (bcell hb7).1 (w.heap.size + 1 + 1) o (by first | (simp; done) | (simp; omega) | omega)
  have l7_1 : (w.heap.size + 1 + 1) < w7.heap.size := (by omega)
  have q7_1 := fun o => (bcell hb7).2 (w.heap.size + 1 + 1) o (by first | (simp; done) | (simp; omega) | omega)
  have k7_2 := fun o => (bcell hb7).1 (w1.heap.size) o (by first | (simp; done) | (simp; omega) | omega)
  have l7_2 : (w1.heap.size) < w7.heap.size := (by omega)
  have q7_2 := fun o => (bcell hb7).2 (w1.heap.size) o (by first | (simp; done) | (simp; omega) | omega)
  simp (maxDischargeDepth := 6) [go_sem, *] at k7_0 q7_0 k7_1 q7_1 k7_2 q7_2
  have HB7 := Lib.hid hb7
  clear hb7
  go_wp2_with fail
  refine (through_ans ns _ _ _ { rb with cache := ms } _ _ _ _ _ _ _ _ _ _ _ (ints_now HN.out (by (repeat (first | (with_reducible exact Below.refl _ _) | (with_reducible refine Below.drew ?_) | (with_reducible refine bdrewN ?_ _) | ((with_reducible refine Below.setCell ?_ ?_ _); rotate_left; exact (by first | (simp; done) | (simp; omega) | omega)) | ((with_reducible refine Below.alloc ?_ ?_ _); rotate_left; exact (by first | (simp; done) | (simp; omega) | omega)) | ((with_reducible refine Below.trans ?_ (HB7.out.mono ?_)); rotate_left; exact (by first | (simp; done) | (simp; omega) | omega)) | ((with_reducible refine Below.trans ?_ (HB6.out.mono ?_)); rotate_left; exact (by first | (simp; done) | (simp; omega) | omega)) | ((with_reducible refine Below.trans ?_ (HB5.out.mono ?_)); rotate_left; exact (by first | (simp; done) | (simp; omega) | omega)) | ((with_reducible refine Below.trans ?_ (HB4.out.mono ?_)); rotate_left; exact (by first | (simp; done) | (simp; omega) | omega)) | ((with_reducible refine Below.trans ?_ (HB3.out.mono ?_)); rotate_left; exact (by first | (simp; done) | (simp; omega) | omega)) | ((with_reducible refine Below.trans ?_ (HB2.out.mono ?_)); rotate_left; exact (by first | (simp; done) | (simp; omega) | omega)) | ((with_reducible refine Below.trans ?_ (HB1.out.mono ?_)); rotate_left; exact (by first | (simp; done) | (simp; omega) | omega)))))) HL9.out HT.out HTE.out).mono ?_
  rintro e w8 ⟨A10, n10, c10, rfl, hl10, hb8, _⟩
  clear hl10
  have hz8 := hb8.size
  (try simp only [World.size_alloc, World.size_setCell, World.size_drew] at hz8)
  have k8_0 := fun o => (bcell hb8).1 (w.heap.size + 1) o (by first | (simp; done) | (simp; omega) | omega)
  have l8_0 : (w.heap.size + 1) < w8.heap.size := (by omega)
  have q8_0 := fun o => (bcell hb8).2 (w.heap.size + 1) o (by first | (simp; done) | (simp; omega) | omega)
  have k8_1 := fun o => (bcell hb8).1 (w.heap.size + 1 + 1) o (by first | (simp; done) | (simp; omega) | omega)
  have l8_1 : (w.heap.size + 1 + 1) < w8.heap.size := (by omega)
  have q8_1 := fun o => (bcell hb8).2 (w.heap.size + 1 + 1) o (by first | (simp; done) | (simp; omega) | omega)
  simp (maxDischargeDepth := 6) [go_sem, *] at k8_0 q8_0 k8_1 q8_1
  have HB8 := Lib.hid hb8
  clear hb8
  go_wp2_with fail
  refine (bridge_Plain ns _ _ _ b _ _ _ _ _ _ _ _ _ _ _ (ints_now HN.out (by (repeat (first | (with_reducible exact Below.refl _ _) | (with_reducible refine Below.drew ?_) | (with_reducible refine bdrewN ?_ _) | ((with_reducible refine Below.setCell ?_ ?_ _); rotate_left; exact (by first | (simp; done) | (simp; omega) | omega)) | ((with_reducible refine Below.alloc ?_ ?_ _); rotate_left; exact (by first | (simp; done) | (simp; omega) | omega)) | ((with_reducible refine Below.trans ?_ (HB8.out.mono ?_)); rotate_left; exact (by first | (simp; done) | (simp; omega) | omega)) | ((with_reducible refine Below.trans ?_ (HB7.out.mono ?_)); rotate_left; exact (by first | (simp; done) | (simp; omega) | omega)) | ((with_reducible refine Below.trans ?_ (HB6.out.mono ?_)); rotate_left; exact (by first | (simp; done) | (simp; omega) | omega)) | ((with_reducible refine Below.trans ?_ (HB5.out.mono ?_)); rotate_left; exact (by first | (simp; done) | (simp; omega) | omega)) | ((with_reducible refine Below.trans ?_ (HB4.out.mono ?_)); rotate_left; exact (by first | (simp; done) | (simp; omega) | omega)) | ((with_reducible refine Below.trans ?_ (HB3.out.mono ?_)); rotate_left; exact (by first | (simp; done) | (simp; omega) | omega)) | ((with_reducible refine Below.trans ?_ (HB2.out.mono ?_)); rotate_left; exact (by first | (simp; done) | (simp; omega) | omega)) | ((with_reducible refine Below.trans ?_ (HB1.out.mono ?_)); rotate_left; exact (by first | (simp; done) | (simp; omega) | omega)))))) HPL.out HPLE.out).mono ?_
  rintro e w9 ⟨rfl, hb9⟩
  have hz9 := hb9.size
  (try simp only [World.size_alloc, World.size_setCell, World.size_drew] at hz9)
  have HB9 := Lib.hid hb9
  clear hb9
  go_wp2
  go_ret
  exact ⟨rfl, by (repeat (first | (with_reducible exact Below.refl _ _) | (with_reducible refine Below.drew ?_) | (with_reducible refine bdrewN ?_ _) | ((with_reducible refine Below.setCell ?_ ?_ _); rotate_left; exact (by first | (simp; done) | (simp; omega) | omega)) | ((with_reducible refine Below.alloc ?_ ?_ _); rotate_left; exact (by first | (simp; done) | (simp; omega) | omega)) | ((with_reducible refine Below.trans ?_ (HB9.out.mono ?_)); rotate_left; exact (by first | (simp; done) | (simp; omega) | omega)) | ((with_reducible refine Below.trans ?_ (HB8.out.mono ?_)); rotate_left; exact (by first | (simp; done) | (simp; omega) | omega)) | ((with_reducible refine Below.trans ?_ (HB7.out.mono ?_)); rotate_left; exact (by first | (simp; done) | (simp; omega) | omega)) | ((with_reducible refine Below.trans ?_ (HB6.out.mono ?_)); rotate_left; exact (by first | (simp; done) | (simp; omega) | omega)) | ((with_reducible refine Below.trans ?_ (HB5.out.mono ?_)); rotate_left; exact (by first | (simp; done) | (simp; omega) | omega)) | ((with_reducible refine Below.trans ?_ (HB4.out.mono ?_)); rotate_left; exact (by first | (simp; done) | (simp; omega) | omega)) | ((with_reducible refine Below.trans ?_ (HB3.out.mono ?_)); rotate_left; exact (by first | (simp; done) | (simp; omega) | omega)) | ((with_reducible refine Below.trans ?_ (HB2.out.mono ?_)); rotate_left; exact (by first | (simp; done) | (simp; omega) | omega)) | ((with_reducible refine Below.trans ?_ (HB1.out.mono ?_)); rotate_left; exact (by first | (simp; done) | (simp; omega) | omega))))⟩

set_option maxRecDepth 100000 in
set_option maxHeartbeats 8000000 in
theorem rem_fn (xs ns : List Int) (m N : Option Addr) (nm cm' nn nc : Nat) (b rb rb2 rb3 : Brg) (A : Option Addr) (n c : Nat) (d p d' p' : Int) (wr : Bool) (ra rf ra2 rf2 : Int) (ms : List Line) (w : World) (hx : Ints w w.heap.size m nm xs) (hn : Ints w w.heap.size N nn ns) (hl : Lines w w.heap.size A n c b.cache) (hd : d % 8 = d') (hp : p % 64 = p')
    (h1 : thruA xs b d' p' wr = (rb, ra, rf)) (h1e : thruE xs b d' p' = 0) (hns : cm ns = 0) (hck : ckB rb = 0) (hf : rf ≠ 0) (hs : sameB b rb = true) (hg : findL rb.cache d' p' < 0)
    (hde : dropE rb.cache 3 = 0) (hdl : dropL rb.cache 3 d' p' = ms) (ht : thruA ns { rb with cache := ms } d' p' wr = (rb2, ra2, rf2)) (hte : thruE ns { rb with cache := ms } d' p' = 0) (hpl : thruA ns { b with cache := [] } d' p' wr = (rb3, ra2, rf2)) (hple : thruE ns { b with cache := [] } d' p' = 0) :
    Calls Try.prog 14 #[.agg #[.slice m nm cm'], .agg #[.int .i64 b.mode, .int .i64 b.base, .slice A n c, .int .i64 b.orders.page, .int .i64 b.orders.head, .int .i64 b.orders.tail, .bool b.stopped, .int .i64 b.fences, .int .i64 b.faults.page, .int .i64 b.faults.head, .int .i64 b.faults.tail, .bool b.lost], .int .i64 d, .int .i64 p, .bool wr, .agg #[.slice N nn nc]] w fun e w' => e = .returned (.bool true) ∧ Below w.heap.size w w' := by
  have HX := Lib.hid hx
  have HN := Lib.hid hn
  have HL := Lib.hid hl
  have HD := Lib.hid hd
  have HP := Lib.hid hp
  have H1 := Lib.hid h1
  have H1E := Lib.hid h1e
  have HNS := Lib.hid hns
  have HCK := Lib.hid hck
  have HDE := Lib.hid hde
  have HDL := Lib.hid hdl
  have HT := Lib.hid ht
  have HTE := Lib.hid hte
  have HPL := Lib.hid hpl
  have HPLE := Lib.hid hple
  have HS := Lib.hid hs
  have tf1 : (rf != 0) = true := by rw [bne_iff_ne]; exact hf
  have tf2 : (rf == 0) = false := beq_eq_false_iff_ne.2 hf
  clear hs
  have tg : decide (0 ≤ findL rb.cache d' p') = false := by simp; omega
  clear hx hn hl hd hp h1 h1e hns hck hde hdl ht hte hpl hple hg hf
  go_enter Try.func14, Try.ntmps14
  go_wp2_with fail
  refine (law_at _ _ (by decide) _).mono ?_
  rw [HD.out]
  rintro e w' ⟨rfl, rfl⟩
  go_wp2_with fail
  refine (law_at _ _ (by decide) _).mono ?_
  rw [HP.out]
  rintro e w' ⟨rfl, rfl⟩
  go_wp2_with fail
  refine (through_ans xs _ _ _ b _ _ _ _ _ _ _ _ _ _ _ (ints_now HX.out (by (repeat (first | (with_reducible exact Below.refl _ _) | (with_reducible refine Below.drew ?_) | (with_reducible refine bdrewN ?_ _) | ((with_reducible refine Below.setCell ?_ ?_ _); rotate_left; exact (by first | (simp; done) | (simp; omega) | omega)) | ((with_reducible refine Below.alloc ?_ ?_ _); rotate_left; exact (by first | (simp; done) | (simp; omega) | omega)))))) (lines_now HL.out (by (repeat (first | (with_reducible exact Below.refl _ _) | (with_reducible refine Below.drew ?_) | (with_reducible refine bdrewN ?_ _) | ((with_reducible refine Below.setCell ?_ ?_ _); rotate_left; exact (by first | (simp; done) | (simp; omega) | omega)) | ((with_reducible refine Below.alloc ?_ ?_ _); rotate_left; exact (by first | (simp; done) | (simp; omega) | omega)))))) H1.out H1E.out).mono ?_
  rintro e w1 ⟨A1, n1, c1, rfl, hl1, hb1, _⟩
  have HL1 := Lib.hid hl1
  clear hl1
  have hz1 := hb1.size
  (try simp only [World.size_alloc, World.size_setCell, World.size_drew] at hz1)
  have k1_0 := fun o => (bcell hb1).1 (w.heap.size + 1) o (by first | (simp; done) | (simp; omega) | omega)
  have l1_0 : (w.heap.size + 1) < w1.heap.size := (by omega)
  have q1_0 := fun o => (bcell hb1).2 (w.heap.size + 1) o (by first | (simp; done) | (simp; omega) | omega)
  have k1_1 := fun o => (bcell hb1).1 (w.heap.size + 1 + 1) o (by first | (simp; done) | (simp; omega) | omega)
  have l1_1 : (w.heap.size + 1 + 1) < w1.heap.size := (by omega)
  have q1_1 := fun o => (bcell hb1).2 (w.heap.size + 1 + 1) o (by first | (simp; done) | (simp; omega) | omega)
  simp (maxDischargeDepth := 6) [go_sem, *] at k1_0 q1_0 k1_1 q1_1
  have HB1 := Lib.hid hb1
  clear hb1
  go_wp2_with fail
  refine (law_crossed _).mono ?_
  rintro e w2 ⟨rfl, hb2⟩
  have hz2 := hb2.size
  (try simp only [World.size_alloc, World.size_setCell, World.size_drew] at hz2)
  have k2_0 := fun o => (bcell hb2).1 (w.heap.size + 1) o (by first | (simp; done) | (simp; omega) | omega)
  have l2_0 : (w.heap.size + 1) < w2.heap.size := (by omega)
  have q2_0 := fun o => (bcell hb2).2 (w.heap.size + 1) o (by first | (simp; done) | (simp; omega) | omega)
  have k2_1 := fun o => (bcell hb2).1 (w.heap.size + 1 + 1) o (by first | (simp; done) | (simp; omega) | omega)
  have l2_1 : (w.heap.size + 1 + 1) < w2.heap.size := (by omega)
  have q2_1 := fun o => (bcell hb2).2 (w.heap.size + 1 + 1) o (by first | (simp; done) | (simp; omega) | omega)
  have k2_2 := fun o => (bcell hb2).1 (w1.heap.size) o (by first | (simp; done) | (simp; omega) | omega)
  have l2_2 : (w1.heap.size) < w2.heap.size := (by omega)
  have q2_2 := fun o => (bcell hb2).2 (w1.heap.size) o (by first | (simp; done) | (simp; omega) | omega)
  simp (maxDischargeDepth := 6) [go_sem, *] at k2_0 q2_0 k2_1 q2_1 k2_2 q2_2
  have HB2 := Lib.hid hb2
  clear hb2
  go_wp2_with fail
  refine (mem_Check _ _ _ ns _ (ints_now HN.out (by (repeat (first | (with_reducible exact Below.refl _ _) | (with_reducible refine Below.drew ?_) | (with_reducible refine bdrewN ?_ _) | ((with_reducible refine Below.setCell ?_ ?_ _); rotate_left; exact (by first | (simp; done) | (simp; omega) | omega)) | ((with_reducible refine Below.alloc ?_ ?_ _); rotate_left; exact (by first | (simp; done) | (simp; omega) | omega)) | ((with_reducible refine Below.trans ?_ (HB2.out.mono ?_)); rotate_left; exact (by first | (simp; done) | (simp; omega) | omega)) | ((with_reducible refine Below.trans ?_ (HB1.out.mono ?_)); rotate_left; exact (by first | (simp; done) | (simp; omega) | omega))))))).mono ?_
  rw [HNS.out]
  rintro e w3 ⟨rfl, hb3⟩
  have hz3 := hb3.size
  (try simp only [World.size_alloc, World.size_setCell, World.size_drew] at hz3)
  have k3_0 := fun o => (bcell hb3).1 (w.heap.size + 1) o (by first | (simp; done) | (simp; omega) | omega)
  have l3_0 : (w.heap.size + 1) < w3.heap.size := (by omega)
  have q3_0 := fun o => (bcell hb3).2 (w.heap.size + 1) o (by first | (simp; done) | (simp; omega) | omega)
  have k3_1 := fun o => (bcell hb3).1 (w.heap.size + 1 + 1) o (by first | (simp; done) | (simp; omega) | omega)
  have l3_1 : (w.heap.size + 1 + 1) < w3.heap.size := (by omega)
  have q3_1 := fun o => (bcell hb3).2 (w.heap.size + 1 + 1) o (by first | (simp; done) | (simp; omega) | omega)
  have k3_2 := fun o => (bcell hb3).1 (w1.heap.size) o (by first | (simp; done) | (simp; omega) | omega)
  have l3_2 : (w1.heap.size) < w3.heap.size := (by omega)
  have q3_2 := fun o => (bcell hb3).2 (w1.heap.size) o (by first | (simp; done) | (simp; omega) | omega)
  simp (maxDischargeDepth := 6) [go_sem, *] at k3_0 q3_0 k3_1 q3_1 k3_2 q3_2
  have HB3 := Lib.hid hb3
  clear hb3
  go_wp2_with fail
  refine (bridge_Check rb _ _ _ _ (lines_now HL1.out (by (repeat (first | (with_reducible exact Below.refl _ _) | (with_reducible refine Below.drew ?_) | (with_reducible refine bdrewN ?_ _) | ((with_reducible refine Below.setCell ?_ ?_ _); rotate_left; exact (by first | (simp; done) | (simp; omega) | omega)) | ((with_reducible refine Below.alloc ?_ ?_ _); rotate_left; exact (by first | (simp; done) | (simp; omega) | omega)) | ((with_reducible refine Below.trans ?_ (HB3.out.mono ?_)); rotate_left; exact (by first | (simp; done) | (simp; omega) | omega)) | ((with_reducible refine Below.trans ?_ (HB2.out.mono ?_)); rotate_left; exact (by first | (simp; done) | (simp; omega) | omega))))))).mono ?_
  rw [HCK.out]
  rintro e w4 ⟨rfl, hb4⟩
  have hz4 := hb4.size
  (try simp only [World.size_alloc, World.size_setCell, World.size_drew] at hz4)
  have k4_0 := fun o => (bcell hb4).1 (w.heap.size + 1) o (by first | (simp; done) | (simp; omega) | omega)
  have l4_0 : (w.heap.size + 1) < w4.heap.size := (by omega)
  have q4_0 := fun o => (bcell hb4).2 (w.heap.size + 1) o (by first | (simp; done) | (simp; omega) | omega)
  have k4_1 := fun o => (bcell hb4).1 (w.heap.size + 1 + 1) o (by first | (simp; done) | (simp; omega) | omega)
  have l4_1 : (w.heap.size + 1 + 1) < w4.heap.size := (by omega)
  have q4_1 := fun o => (bcell hb4).2 (w.heap.size + 1 + 1) o (by first | (simp; done) | (simp; omega) | omega)
  have k4_2 := fun o => (bcell hb4).1 (w1.heap.size) o (by first | (simp; done) | (simp; omega) | omega)
  have l4_2 : (w1.heap.size) < w4.heap.size := (by omega)
  have q4_2 := fun o => (bcell hb4).2 (w1.heap.size) o (by first | (simp; done) | (simp; omega) | omega)
  simp (maxDischargeDepth := 6) [go_sem, *] at k4_0 q4_0 k4_1 q4_1 k4_2 q4_2
  have HB4 := Lib.hid hb4
  clear hb4
  go_wp2_with fail
  refine (bridge_Same b rb _ _ _ _ _ _ _ (lines_now HL.out (by (repeat (first | (with_reducible exact Below.refl _ _) | (with_reducible refine Below.drew ?_) | (with_reducible refine bdrewN ?_ _) | ((with_reducible refine Below.setCell ?_ ?_ _); rotate_left; exact (by first | (simp; done) | (simp; omega) | omega)) | ((with_reducible refine Below.alloc ?_ ?_ _); rotate_left; exact (by first | (simp; done) | (simp; omega) | omega)) | ((with_reducible refine Below.trans ?_ (HB4.out.mono ?_)); rotate_left; exact (by first | (simp; done) | (simp; omega) | omega)) | ((with_reducible refine Below.trans ?_ (HB3.out.mono ?_)); rotate_left; exact (by first | (simp; done) | (simp; omega) | omega)) | ((with_reducible refine Below.trans ?_ (HB2.out.mono ?_)); rotate_left; exact (by first | (simp; done) | (simp; omega) | omega)) | ((with_reducible refine Below.trans ?_ (HB1.out.mono ?_)); rotate_left; exact (by first | (simp; done) | (simp; omega) | omega)))))) (lines_now HL1.out (by (repeat (first | (with_reducible exact Below.refl _ _) | (with_reducible refine Below.drew ?_) | (with_reducible refine bdrewN ?_ _) | ((with_reducible refine Below.setCell ?_ ?_ _); rotate_left; exact (by first | (simp; done) | (simp; omega) | omega)) | ((with_reducible refine Below.alloc ?_ ?_ _); rotate_left; exact (by first | (simp; done) | (simp; omega) | omega)) | ((with_reducible refine Below.trans ?_ (HB4.out.mono ?_)); rotate_left; exact (by first | (simp; done) | (simp; omega) | omega)) | ((with_reducible refine Below.trans ?_ (HB3.out.mono ?_)); rotate_left; exact (by first | (simp; done) | (simp; omega) | omega)) | ((with_reducible refine Below.trans ?_ (HB2.out.mono ?_)); rotate_left; exact (by first | (simp; done) | (simp; omega) | omega))))))).mono ?_
  rw [HS.out]
  rintro e w5 ⟨rfl, hb5⟩
  have hz5 := hb5.size
  (try simp only [World.size_alloc, World.size_setCell, World.size_drew] at hz5)
  have k5_0 := fun o => (bcell hb5).1 (w.heap.size + 1) o (by first | (simp; done) | (simp; omega) | omega)
  have l5_0 : (w.heap.size + 1) < w5.heap.size := (by omega)
  have q5_0 := fun o => (bcell hb5).2 (w.heap.size + 1) o (by first | (simp; done) | (simp; omega) | omega)
  have k5_1 := fun o => (bcell hb5).1 (w.heap.size + 1 + 1) o (by first | (simp; done) | (simp; omega) | omega)
  have l5_1 : (w.heap.size + 1 + 1) < w5.heap.size := (by omega)
  have q5_1 := fun o => (bcell hb5).2 (w.heap.size + 1 + 1) o (by first | (simp; done) | (simp; omega) | omega)
  have k5_2 := fun o => (bcell hb5).1 (w1.heap.size) o (by first | (simp; done) | (simp; omega) | omega)
  have l5_2 : (w1.heap.size) < w5.heap.size := (by omega)
  have q5_2 := fun o => (bcell hb5).2 (w1.heap.size) o (by first | (simp; done) | (simp; omega) | omega)
  simp (maxDischargeDepth := 6) [go_sem, *] at k5_0 q5_0 k5_1 q5_1 k5_2 q5_2
  have HB5 := Lib.hid hb5
  clear hb5
  go_wp2_with fail
  refine (cache_Find _ _ _ rb.cache _ _ _ (lines_now HL1.out (by (repeat (first | (with_reducible exact Below.refl _ _) | (with_reducible refine Below.drew ?_) | (with_reducible refine bdrewN ?_ _) | ((with_reducible refine Below.setCell ?_ ?_ _); rotate_left; exact (by first | (simp; done) | (simp; omega) | omega)) | ((with_reducible refine Below.alloc ?_ ?_ _); rotate_left; exact (by first | (simp; done) | (simp; omega) | omega)) | ((with_reducible refine Below.trans ?_ (HB5.out.mono ?_)); rotate_left; exact (by first | (simp; done) | (simp; omega) | omega)) | ((with_reducible refine Below.trans ?_ (HB4.out.mono ?_)); rotate_left; exact (by first | (simp; done) | (simp; omega) | omega)) | ((with_reducible refine Below.trans ?_ (HB3.out.mono ?_)); rotate_left; exact (by first | (simp; done) | (simp; omega) | omega)) | ((with_reducible refine Below.trans ?_ (HB2.out.mono ?_)); rotate_left; exact (by first | (simp; done) | (simp; omega) | omega))))))).mono ?_
  rintro e w6 ⟨rfl, hb6⟩
  have hz6 := hb6.size
  (try simp only [World.size_alloc, World.size_setCell, World.size_drew] at hz6)
  have k6_0 := fun o => (bcell hb6).1 (w.heap.size + 1) o (by first | (simp; done) | (simp; omega) | omega)
  have l6_0 : (w.heap.size + 1) < w6.heap.size := (by omega)
  have q6_0 := fun o => (bcell hb6).2 (w.heap.size + 1) o (by first | (simp; done) | (simp; omega) | omega)
  have k6_1 := fun o => (bcell hb6).1 (w.heap.size + 1 + 1) o (by first | (simp; done) | (simp; omega) | omega)
  have l6_1 : (w.heap.size + 1 + 1) < w6.heap.size := (by omega)
  have q6_1 := fun o => (bcell hb6).2 (w.heap.size + 1 + 1) o (by first | (simp; done) | (simp; omega) | omega)
  have k6_2 := fun o => (bcell hb6).1 (w1.heap.size) o (by first | (simp; done) | (simp; omega) | omega)
  have l6_2 : (w1.heap.size) < w6.heap.size := (by omega)
  have q6_2 := fun o => (bcell hb6).2 (w1.heap.size) o (by first | (simp; done) | (simp; omega) | omega)
  simp (maxDischargeDepth := 6) [go_sem, *] at k6_0 q6_0 k6_1 q6_1 k6_2 q6_2
  have HB6 := Lib.hid hb6
  clear hb6
  go_wp2_with fail
  refine (drop_ans _ _ _ rb.cache ms 3 d' p' 0 _ (lines_now HL1.out (by (repeat (first | (with_reducible exact Below.refl _ _) | (with_reducible refine Below.drew ?_) | (with_reducible refine bdrewN ?_ _) | ((with_reducible refine Below.setCell ?_ ?_ _); rotate_left; exact (by first | (simp; done) | (simp; omega) | omega)) | ((with_reducible refine Below.alloc ?_ ?_ _); rotate_left; exact (by first | (simp; done) | (simp; omega) | omega)) | ((with_reducible refine Below.trans ?_ (HB6.out.mono ?_)); rotate_left; exact (by first | (simp; done) | (simp; omega) | omega)) | ((with_reducible refine Below.trans ?_ (HB5.out.mono ?_)); rotate_left; exact (by first | (simp; done) | (simp; omega) | omega)) | ((with_reducible refine Below.trans ?_ (HB4.out.mono ?_)); rotate_left; exact (by first | (simp; done) | (simp; omega) | omega)) | ((with_reducible refine Below.trans ?_ (HB3.out.mono ?_)); rotate_left; exact (by first | (simp; done) | (simp; omega) | omega)) | ((with_reducible refine Below.trans ?_ (HB2.out.mono ?_)); rotate_left; exact (by first | (simp; done) | (simp; omega) | omega)))))) (by decide) HDE.out HDL.out).mono ?_
  rintro e w7 ⟨A9, c9, rfl, hl9, hb7, hn9⟩
  have hz9 := hb7.size
  (try simp only [World.size_alloc, World.size_setCell, World.size_drew] at hz9 hn9)
  have HL9 : Hid (Lines (w7.setCell ⟨w1.heap.size, 2, none⟩ (.slice A9 ms.length c9)) (w7.setCell ⟨w1.heap.size, 2, none⟩ (.slice A9 ms.length c9)).heap.size A9 ms.length c9 ms) := Lib.hid ((lines_off hl9 (fun ad h => by have := hn9 ad h; simp; omega) _).more (by simp))
  clear hl9 hn9
  have hz7 := hb7.size
  (try simp only [World.size_alloc, World.size_setCell, World.size_drew] at hz7)
  have k7_0 := fun o => (bcell hb7).1 (w.heap.size + 1) o (by first | (simp; done) | (simp; omega) | omega)
  have l7_0 : (w.heap.size + 1) < w7.heap.size := (by omega)
  have q7_0 := fun o => (bcell hb7).2 (w.heap.size + 1) o (by first | (simp; done) | (simp; omega) | omega)
  have k7_1 := fun o => (bcell hb7).1 (w.heap.size + 1 + 1) o (by first | (simp; done) | (simp; omega) | omega)
  have l7_1 : (w.heap.size + 1 + 1) < w7.heap.size := (by omega)
  have q7_1 := fun o => (bcell hb7).2 (w.heap.size + 1 + 1) o (by first | (simp; done) | (simp; omega) | omega)
  have k7_2 := fun o => (bcell hb7).1 (w1.heap.size) o (by first | (simp; done) | (simp; omega) | omega)
  have l7_2 : (w1.heap.size) < w7.heap.size := (by omega)
  have q7_2 := fun o => (bcell hb7).2 (w1.heap.size) o (by first | (simp; done) | (simp; omega) | omega)
  simp (maxDischargeDepth := 6) [go_sem, *] at k7_0 q7_0 k7_1 q7_1 k7_2 q7_2
  have HB7 := Lib.hid hb7
  clear hb7
  go_wp2_with fail
  refine (through_ans ns _ _ _ { rb with cache := ms } _ _ _ _ _ _ _ _ _ _ _ (ints_now HN.out (by (repeat (first | (with_reducible exact Below.refl _ _) | (with_reducible refine Below.drew ?_) | (with_reducible refine bdrewN ?_ _) | ((with_reducible refine Below.setCell ?_ ?_ _); rotate_left; exact (by first | (simp; done) | (simp; omega) | omega)) | ((with_reducible refine Below.alloc ?_ ?_ _); rotate_left; exact (by first | (simp; done) | (simp; omega) | omega)) | ((with_reducible refine Below.trans ?_ (HB7.out.mono ?_)); rotate_left; exact (by first | (simp; done) | (simp; omega) | omega)) | ((with_reducible refine Below.trans ?_ (HB6.out.mono ?_)); rotate_left; exact (by first | (simp; done) | (simp; omega) | omega)) | ((with_reducible refine Below.trans ?_ (HB5.out.mono ?_)); rotate_left; exact (by first | (simp; done) | (simp; omega) | omega)) | ((with_reducible refine Below.trans ?_ (HB4.out.mono ?_)); rotate_left; exact (by first | (simp; done) | (simp; omega) | omega)) | ((with_reducible refine Below.trans ?_ (HB3.out.mono ?_)); rotate_left; exact (by first | (simp; done) | (simp; omega) | omega)) | ((with_reducible refine Below.trans ?_ (HB2.out.mono ?_)); rotate_left; exact (by first | (simp; done) | (simp; omega) | omega)) | ((with_reducible refine Below.trans ?_ (HB1.out.mono ?_)); rotate_left; exact (by first | (simp; done) | (simp; omega) | omega)))))) HL9.out HT.out HTE.out).mono ?_
  rintro e w8 ⟨A10, n10, c10, rfl, hl10, hb8, _⟩
  clear hl10
  have hz8 := hb8.size
  (try simp only [World.size_alloc, World.size_setCell, World.size_drew] at hz8)
  have k8_0 := fun o => (bcell hb8).1 (w.heap.size + 1) o (by first | (simp; done) | (simp; omega) | omega)
  have l8_0 : (w.heap.size + 1) < w8.heap.size := (by omega)
  have q8_0 := fun o => (bcell hb8).2 (w.heap.size + 1) o (by first | (simp; done) | (simp; omega) | omega)
  have k8_1 := fun o => (bcell hb8).1 (w.heap.size + 1 + 1) o (by first | (simp; done) | (simp; omega) | omega)
  have l8_1 : (w.heap.size + 1 + 1) < w8.heap.size := (by omega)
  have q8_1 := fun o => (bcell hb8).2 (w.heap.size + 1 + 1) o (by first | (simp; done) | (simp; omega) | omega)
  simp (maxDischargeDepth := 6) [go_sem, *] at k8_0 q8_0 k8_1 q8_1
  have HB8 := Lib.hid hb8
  clear hb8
  go_wp2_with fail
  refine (bridge_Plain ns _ _ _ b _ _ _ _ _ _ _ _ _ _ _ (ints_now HN.out (by (repeat (first | (with_reducible exact Below.refl _ _) | (with_reducible refine Below.drew ?_) | (with_reducible refine bdrewN ?_ _) | ((with_reducible refine Below.setCell ?_ ?_ _); rotate_left; exact (by first | (simp; done) | (simp; omega) | omega)) | ((with_reducible refine Below.alloc ?_ ?_ _); rotate_left; exact (by first | (simp; done) | (simp; omega) | omega)) | ((with_reducible refine Below.trans ?_ (HB8.out.mono ?_)); rotate_left; exact (by first | (simp; done) | (simp; omega) | omega)) | ((with_reducible refine Below.trans ?_ (HB7.out.mono ?_)); rotate_left; exact (by first | (simp; done) | (simp; omega) | omega)) | ((with_reducible refine Below.trans ?_ (HB6.out.mono ?_)); rotate_left; exact (by first | (simp; done) | (simp; omega) | omega)) | ((with_reducible refine Below.trans ?_ (HB5.out.mono ?_)); rotate_left; exact (by first | (simp; done) | (simp; omega) | omega)) | ((with_reducible refine Below.trans ?_ (HB4.out.mono ?_)); rotate_left; exact (by first | (simp; done) | (simp; omega) | omega)) | ((with_reducible refine Below.trans ?_ (HB3.out.mono ?_)); rotate_left; exact (by first | (simp; done) | (simp; omega) | omega)) | ((with_reducible refine Below.trans ?_ (HB2.out.mono ?_)); rotate_left; exact (by first | (simp; done) | (simp; omega) | omega)) | ((with_reducible refine Below.trans ?_ (HB1.out.mono ?_)); rotate_left; exact (by first | (simp; done) | (simp; omega) | omega)))))) HPL.out HPLE.out).mono ?_
  rintro e w9 ⟨rfl, hb9⟩
  have hz9 := hb9.size
  (try simp only [World.size_alloc, World.size_setCell, World.size_drew] at hz9)
  have HB9 := Lib.hid hb9
  clear hb9
  go_wp2
  go_ret
  exact ⟨rfl, by (repeat (first | (with_reducible exact Below.refl _ _) | (with_reducible refine Below.drew ?_) | (with_reducible refine bdrewN ?_ _) | ((with_reducible refine Below.setCell ?_ ?_ _); rotate_left; exact (by first | (simp; done) | (simp; omega) | omega)) | ((with_reducible refine Below.alloc ?_ ?_ _); rotate_left; exact (by first | (simp; done) | (simp; omega) | omega)) | ((with_reducible refine Below.trans ?_ (HB9.out.mono ?_)); rotate_left; exact (by first | (simp; done) | (simp; omega) | omega)) | ((with_reducible refine Below.trans ?_ (HB8.out.mono ?_)); rotate_left; exact (by first | (simp; done) | (simp; omega) | omega)) | ((with_reducible refine Below.trans ?_ (HB7.out.mono ?_)); rotate_left; exact (by first | (simp; done) | (simp; omega) | omega)) | ((with_reducible refine Below.trans ?_ (HB6.out.mono ?_)); rotate_left; exact (by first | (simp; done) | (simp; omega) | omega)) | ((with_reducible refine Below.trans ?_ (HB5.out.mono ?_)); rotate_left; exact (by first | (simp; done) | (simp; omega) | omega)) | ((with_reducible refine Below.trans ?_ (HB4.out.mono ?_)); rotate_left; exact (by first | (simp; done) | (simp; omega) | omega)) | ((with_reducible refine Below.trans ?_ (HB3.out.mono ?_)); rotate_left; exact (by first | (simp; done) | (simp; omega) | omega)) | ((with_reducible refine Below.trans ?_ (HB2.out.mono ?_)); rotate_left; exact (by first | (simp; done) | (simp; omega) | omega)) | ((with_reducible refine Below.trans ?_ (HB1.out.mono ?_)); rotate_left; exact (by first | (simp; done) | (simp; omega) | omega))))⟩

set_option maxRecDepth 100000 in
set_option maxHeartbeats 8000000 in
theorem rem_n (xs ns : List Int) (m N : Option Addr) (nm cm' nn nc : Nat) (b rb rb2 rb3 : Brg) (A : Option Addr) (n c : Nat) (d p d' p' : Int) (wr : Bool) (ra rf ra2 rf2 : Int) (ms : List Line) (w : World) (hx : Ints w w.heap.size m nm xs) (hn : Ints w w.heap.size N nn ns) (hl : Lines w w.heap.size A n c b.cache) (hd : d % 8 = d') (hp : p % 64 = p')
    (h1 : thruA xs b d' p' wr = (rb, ra, rf)) (h1e : thruE xs b d' p' = 0) (hns : cm ns = 0) (hck : ckB rb = 0) (hf : rf = 0) (hg : findL rb.cache d' p' < 0)
    (hde : dropE rb.cache 3 = 0) (hdl : dropL rb.cache 3 d' p' = ms) (ht : thruA ns { rb with cache := ms } d' p' wr = (rb2, ra2, rf2)) (hte : thruE ns { rb with cache := ms } d' p' = 0) (hpl : thruA ns { b with cache := [] } d' p' wr = (rb3, ra2, rf2)) (hple : thruE ns { b with cache := [] } d' p' = 0) :
    Calls Try.prog 14 #[.agg #[.slice m nm cm'], .agg #[.int .i64 b.mode, .int .i64 b.base, .slice A n c, .int .i64 b.orders.page, .int .i64 b.orders.head, .int .i64 b.orders.tail, .bool b.stopped, .int .i64 b.fences, .int .i64 b.faults.page, .int .i64 b.faults.head, .int .i64 b.faults.tail, .bool b.lost], .int .i64 d, .int .i64 p, .bool wr, .agg #[.slice N nn nc]] w fun e w' => e = .returned (.bool true) ∧ Below w.heap.size w w' := by
  have HX := Lib.hid hx
  have HN := Lib.hid hn
  have HL := Lib.hid hl
  have HD := Lib.hid hd
  have HP := Lib.hid hp
  have H1 := Lib.hid h1
  have H1E := Lib.hid h1e
  have HNS := Lib.hid hns
  have HCK := Lib.hid hck
  have HDE := Lib.hid hde
  have HDL := Lib.hid hdl
  have HT := Lib.hid ht
  have HTE := Lib.hid hte
  have HPL := Lib.hid hpl
  have HPLE := Lib.hid hple
  subst hf
  have tg : decide (0 ≤ findL rb.cache d' p') = false := by simp; omega
  clear hx hn hl hd hp h1 h1e hns hck hde hdl ht hte hpl hple hg
  go_enter Try.func14, Try.ntmps14
  go_wp2_with fail
  refine (law_at _ _ (by decide) _).mono ?_
  rw [HD.out]
  rintro e w' ⟨rfl, rfl⟩
  go_wp2_with fail
  refine (law_at _ _ (by decide) _).mono ?_
  rw [HP.out]
  rintro e w' ⟨rfl, rfl⟩
  go_wp2_with fail
  refine (through_ans xs _ _ _ b _ _ _ _ _ _ _ _ _ _ _ (ints_now HX.out (by (repeat (first | (with_reducible exact Below.refl _ _) | (with_reducible refine Below.drew ?_) | (with_reducible refine bdrewN ?_ _) | ((with_reducible refine Below.setCell ?_ ?_ _); rotate_left; exact (by first | (simp; done) | (simp; omega) | omega)) | ((with_reducible refine Below.alloc ?_ ?_ _); rotate_left; exact (by first | (simp; done) | (simp; omega) | omega)))))) (lines_now HL.out (by (repeat (first | (with_reducible exact Below.refl _ _) | (with_reducible refine Below.drew ?_) | (with_reducible refine bdrewN ?_ _) | ((with_reducible refine Below.setCell ?_ ?_ _); rotate_left; exact (by first | (simp; done) | (simp; omega) | omega)) | ((with_reducible refine Below.alloc ?_ ?_ _); rotate_left; exact (by first | (simp; done) | (simp; omega) | omega)))))) H1.out H1E.out).mono ?_
  rintro e w1 ⟨A1, n1, c1, rfl, hl1, hb1, _⟩
  have HL1 := Lib.hid hl1
  clear hl1
  have hz1 := hb1.size
  (try simp only [World.size_alloc, World.size_setCell, World.size_drew] at hz1)
  have k1_0 := fun o => (bcell hb1).1 (w.heap.size + 1) o (by first | (simp; done) | (simp; omega) | omega)
  have l1_0 : (w.heap.size + 1) < w1.heap.size := (by omega)
  have q1_0 := fun o => (bcell hb1).2 (w.heap.size + 1) o (by first | (simp; done) | (simp; omega) | omega)
  have k1_1 := fun o => (bcell hb1).1 (w.heap.size + 1 + 1) o (by first | (simp; done) | (simp; omega) | omega)
  have l1_1 : (w.heap.size + 1 + 1) < w1.heap.size := (by omega)
  have q1_1 := fun o => (bcell hb1).2 (w.heap.size + 1 + 1) o (by first | (simp; done) | (simp; omega) | omega)
  simp (maxDischargeDepth := 6) [go_sem, *] at k1_0 q1_0 k1_1 q1_1
  have HB1 := Lib.hid hb1
  clear hb1
  go_wp2_with fail
  refine (law_crossed _).mono ?_
  rintro e w2 ⟨rfl, hb2⟩
  have hz2 := hb2.size
  (try simp only [World.size_alloc, World.size_setCell, World.size_drew] at hz2)
  have k2_0 := fun o => (bcell hb2).1 (w.heap.size + 1) o (by first | (simp; done) | (simp; omega) | omega)
  have l2_0 : (w.heap.size + 1) < w2.heap.size := (by omega)
  have q2_0 := fun o => (bcell hb2).2 (w.heap.size + 1) o (by first | (simp; done) | (simp; omega) | omega)
  have k2_1 := fun o => (bcell hb2).1 (w.heap.size + 1 + 1) o (by first | (simp; done) | (simp; omega) | omega)
  have l2_1 : (w.heap.size + 1 + 1) < w2.heap.size := (by omega)
  have q2_1 := fun o => (bcell hb2).2 (w.heap.size + 1 + 1) o (by first | (simp; done) | (simp; omega) | omega)
  have k2_2 := fun o => (bcell hb2).1 (w1.heap.size) o (by first | (simp; done) | (simp; omega) | omega)
  have l2_2 : (w1.heap.size) < w2.heap.size := (by omega)
  have q2_2 := fun o => (bcell hb2).2 (w1.heap.size) o (by first | (simp; done) | (simp; omega) | omega)
  simp (maxDischargeDepth := 6) [go_sem, *] at k2_0 q2_0 k2_1 q2_1 k2_2 q2_2
  have HB2 := Lib.hid hb2
  clear hb2
  go_wp2_with fail
  refine (mem_Check _ _ _ ns _ (ints_now HN.out (by (repeat (first | (with_reducible exact Below.refl _ _) | (with_reducible refine Below.drew ?_) | (with_reducible refine bdrewN ?_ _) | ((with_reducible refine Below.setCell ?_ ?_ _); rotate_left; exact (by first | (simp; done) | (simp; omega) | omega)) | ((with_reducible refine Below.alloc ?_ ?_ _); rotate_left; exact (by first | (simp; done) | (simp; omega) | omega)) | ((with_reducible refine Below.trans ?_ (HB2.out.mono ?_)); rotate_left; exact (by first | (simp; done) | (simp; omega) | omega)) | ((with_reducible refine Below.trans ?_ (HB1.out.mono ?_)); rotate_left; exact (by first | (simp; done) | (simp; omega) | omega))))))).mono ?_
  rw [HNS.out]
  rintro e w3 ⟨rfl, hb3⟩
  have hz3 := hb3.size
  (try simp only [World.size_alloc, World.size_setCell, World.size_drew] at hz3)
  have k3_0 := fun o => (bcell hb3).1 (w.heap.size + 1) o (by first | (simp; done) | (simp; omega) | omega)
  have l3_0 : (w.heap.size + 1) < w3.heap.size := (by omega)
  have q3_0 := fun o => (bcell hb3).2 (w.heap.size + 1) o (by first | (simp; done) | (simp; omega) | omega)
  have k3_1 := fun o => (bcell hb3).1 (w.heap.size + 1 + 1) o (by first | (simp; done) | (simp; omega) | omega)
  have l3_1 : (w.heap.size + 1 + 1) < w3.heap.size := (by omega)
  have q3_1 := fun o => (bcell hb3).2 (w.heap.size + 1 + 1) o (by first | (simp; done) | (simp; omega) | omega)
  have k3_2 := fun o => (bcell hb3).1 (w1.heap.size) o (by first | (simp; done) | (simp; omega) | omega)
  have l3_2 : (w1.heap.size) < w3.heap.size := (by omega)
  have q3_2 := fun o => (bcell hb3).2 (w1.heap.size) o (by first | (simp; done) | (simp; omega) | omega)
  simp (maxDischargeDepth := 6) [go_sem, *] at k3_0 q3_0 k3_1 q3_1 k3_2 q3_2
  have HB3 := Lib.hid hb3
  clear hb3
  go_wp2_with fail
  refine (bridge_Check rb _ _ _ _ (lines_now HL1.out (by (repeat (first | (with_reducible exact Below.refl _ _) | (with_reducible refine Below.drew ?_) | (with_reducible refine bdrewN ?_ _) | ((with_reducible refine Below.setCell ?_ ?_ _); rotate_left; exact (by first | (simp; done) | (simp; omega) | omega)) | ((with_reducible refine Below.alloc ?_ ?_ _); rotate_left; exact (by first | (simp; done) | (simp; omega) | omega)) | ((with_reducible refine Below.trans ?_ (HB3.out.mono ?_)); rotate_left; exact (by first | (simp; done) | (simp; omega) | omega)) | ((with_reducible refine Below.trans ?_ (HB2.out.mono ?_)); rotate_left; exact (by first | (simp; done) | (simp; omega) | omega))))))).mono ?_
  rw [HCK.out]
  rintro e w4 ⟨rfl, hb4⟩
  have hz4 := hb4.size
  (try simp only [World.size_alloc, World.size_setCell, World.size_drew] at hz4)
  have k4_0 := fun o => (bcell hb4).1 (w.heap.size + 1) o (by first | (simp; done) | (simp; omega) | omega)
  have l4_0 : (w.heap.size + 1) < w4.heap.size := (by omega)
  have q4_0 := fun o => (bcell hb4).2 (w.heap.size + 1) o (by first | (simp; done) | (simp; omega) | omega)
  have k4_1 := fun o => (bcell hb4).1 (w.heap.size + 1 + 1) o (by first | (simp; done) | (simp; omega) | omega)
  have l4_1 : (w.heap.size + 1 + 1) < w4.heap.size := (by omega)
  have q4_1 := fun o => (bcell hb4).2 (w.heap.size + 1 + 1) o (by first | (simp; done) | (simp; omega) | omega)
  have k4_2 := fun o => (bcell hb4).1 (w1.heap.size) o (by first | (simp; done) | (simp; omega) | omega)
  have l4_2 : (w1.heap.size) < w4.heap.size := (by omega)
  have q4_2 := fun o => (bcell hb4).2 (w1.heap.size) o (by first | (simp; done) | (simp; omega) | omega)
  simp (maxDischargeDepth := 6) [go_sem, *] at k4_0 q4_0 k4_1 q4_1 k4_2 q4_2
  have HB4 := Lib.hid hb4
  clear hb4
  go_wp2_with fail
  refine (cache_Find _ _ _ rb.cache _ _ _ (lines_now HL1.out (by (repeat (first | (with_reducible exact Below.refl _ _) | (with_reducible refine Below.drew ?_) | (with_reducible refine bdrewN ?_ _) | ((with_reducible refine Below.setCell ?_ ?_ _); rotate_left; exact (by first | (simp; done) | (simp; omega) | omega)) | ((with_reducible refine Below.alloc ?_ ?_ _); rotate_left; exact (by first | (simp; done) | (simp; omega) | omega)) | ((with_reducible refine Below.trans ?_ (HB4.out.mono ?_)); rotate_left; exact (by first | (simp; done) | (simp; omega) | omega)) | ((with_reducible refine Below.trans ?_ (HB3.out.mono ?_)); rotate_left; exact (by first | (simp; done) | (simp; omega) | omega)) | ((with_reducible refine Below.trans ?_ (HB2.out.mono ?_)); rotate_left; exact (by first | (simp; done) | (simp; omega) | omega))))))).mono ?_
  rintro e w5 ⟨rfl, hb5⟩
  have hz5 := hb5.size
  (try simp only [World.size_alloc, World.size_setCell, World.size_drew] at hz5)
  have k5_0 := fun o => (bcell hb5).1 (w.heap.size + 1) o (by first | (simp; done) | (simp; omega) | omega)
  have l5_0 : (w.heap.size + 1) < w5.heap.size := (by omega)
  have q5_0 := fun o => (bcell hb5).2 (w.heap.size + 1) o (by first | (simp; done) | (simp; omega) | omega)
  have k5_1 := fun o => (bcell hb5).1 (w.heap.size + 1 + 1) o (by first | (simp; done) | (simp; omega) | omega)
  have l5_1 : (w.heap.size + 1 + 1) < w5.heap.size := (by omega)
  have q5_1 := fun o => (bcell hb5).2 (w.heap.size + 1 + 1) o (by first | (simp; done) | (simp; omega) | omega)
  have k5_2 := fun o => (bcell hb5).1 (w1.heap.size) o (by first | (simp; done) | (simp; omega) | omega)
  have l5_2 : (w1.heap.size) < w5.heap.size := (by omega)
  have q5_2 := fun o => (bcell hb5).2 (w1.heap.size) o (by first | (simp; done) | (simp; omega) | omega)
  simp (maxDischargeDepth := 6) [go_sem, *] at k5_0 q5_0 k5_1 q5_1 k5_2 q5_2
  have HB5 := Lib.hid hb5
  clear hb5
  go_wp2_with fail
  refine (drop_ans _ _ _ rb.cache ms 3 d' p' 0 _ (lines_now HL1.out (by (repeat (first | (with_reducible exact Below.refl _ _) | (with_reducible refine Below.drew ?_) | (with_reducible refine bdrewN ?_ _) | ((with_reducible refine Below.setCell ?_ ?_ _); rotate_left; exact (by first | (simp; done) | (simp; omega) | omega)) | ((with_reducible refine Below.alloc ?_ ?_ _); rotate_left; exact (by first | (simp; done) | (simp; omega) | omega)) | ((with_reducible refine Below.trans ?_ (HB5.out.mono ?_)); rotate_left; exact (by first | (simp; done) | (simp; omega) | omega)) | ((with_reducible refine Below.trans ?_ (HB4.out.mono ?_)); rotate_left; exact (by first | (simp; done) | (simp; omega) | omega)) | ((with_reducible refine Below.trans ?_ (HB3.out.mono ?_)); rotate_left; exact (by first | (simp; done) | (simp; omega) | omega)) | ((with_reducible refine Below.trans ?_ (HB2.out.mono ?_)); rotate_left; exact (by first | (simp; done) | (simp; omega) | omega)))))) (by decide) HDE.out HDL.out).mono ?_
  rintro e w6 ⟨A9, c9, rfl, hl9, hb6, hn9⟩
  have hz9 := hb6.size
  (try simp only [World.size_alloc, World.size_setCell, World.size_drew] at hz9 hn9)
  have HL9 : Hid (Lines (w6.setCell ⟨w1.heap.size, 2, none⟩ (.slice A9 ms.length c9)) (w6.setCell ⟨w1.heap.size, 2, none⟩ (.slice A9 ms.length c9)).heap.size A9 ms.length c9 ms) := Lib.hid ((lines_off hl9 (fun ad h => by have := hn9 ad h; simp; omega) _).more (by simp))
  clear hl9 hn9
  have hz6 := hb6.size
  (try simp only [World.size_alloc, World.size_setCell, World.size_drew] at hz6)
  have k6_0 := fun o => (bcell hb6).1 (w.heap.size + 1) o (by first | (simp; done) | (simp; omega) | omega)
  have l6_0 : (w.heap.size + 1) < w6.heap.size := (by omega)
  have q6_0 := fun o => (bcell hb6).2 (w.heap.size + 1) o (by first | (simp; done) | (simp; omega) | omega)
  have k6_1 := fun o => (bcell hb6).1 (w.heap.size + 1 + 1) o (by first | (simp; done) | (simp; omega) | omega)
  have l6_1 : (w.heap.size + 1 + 1) < w6.heap.size := (by omega)
  have q6_1 := fun o => (bcell hb6).2 (w.heap.size + 1 + 1) o (by first | (simp; done) | (simp; omega) | omega)
  have k6_2 := fun o => (bcell hb6).1 (w1.heap.size) o (by first | (simp; done) | (simp; omega) | omega)
  have l6_2 : (w1.heap.size) < w6.heap.size := (by omega)
  have q6_2 := fun o => (bcell hb6).2 (w1.heap.size) o (by first | (simp; done) | (simp; omega) | omega)
  simp (maxDischargeDepth := 6) [go_sem, *] at k6_0 q6_0 k6_1 q6_1 k6_2 q6_2
  have HB6 := Lib.hid hb6
  clear hb6
  go_wp2_with fail
  refine (through_ans ns _ _ _ { rb with cache := ms } _ _ _ _ _ _ _ _ _ _ _ (ints_now HN.out (by (repeat (first | (with_reducible exact Below.refl _ _) | (with_reducible refine Below.drew ?_) | (with_reducible refine bdrewN ?_ _) | ((with_reducible refine Below.setCell ?_ ?_ _); rotate_left; exact (by first | (simp; done) | (simp; omega) | omega)) | ((with_reducible refine Below.alloc ?_ ?_ _); rotate_left; exact (by first | (simp; done) | (simp; omega) | omega)) | ((with_reducible refine Below.trans ?_ (HB6.out.mono ?_)); rotate_left; exact (by first | (simp; done) | (simp; omega) | omega)) | ((with_reducible refine Below.trans ?_ (HB5.out.mono ?_)); rotate_left; exact (by first | (simp; done) | (simp; omega) | omega)) | ((with_reducible refine Below.trans ?_ (HB4.out.mono ?_)); rotate_left; exact (by first | (simp; done) | (simp; omega) | omega)) | ((with_reducible refine Below.trans ?_ (HB3.out.mono ?_)); rotate_left; exact (by first | (simp; done) | (simp; omega) | omega)) | ((with_reducible refine Below.trans ?_ (HB2.out.mono ?_)); rotate_left; exact (by first | (simp; done) | (simp; omega) | omega)) | ((with_reducible refine Below.trans ?_ (HB1.out.mono ?_)); rotate_left; exact (by first | (simp; done) | (simp; omega) | omega)))))) HL9.out HT.out HTE.out).mono ?_
  rintro e w7 ⟨A10, n10, c10, rfl, hl10, hb7, _⟩
  clear hl10
  have hz7 := hb7.size
  (try simp only [World.size_alloc, World.size_setCell, World.size_drew] at hz7)
  have k7_0 := fun o => (bcell hb7).1 (w.heap.size + 1) o (by first | (simp; done) | (simp; omega) | omega)
  have l7_0 : (w.heap.size + 1) < w7.heap.size := (by omega)
  have q7_0 := fun o => (bcell hb7).2 (w.heap.size + 1) o (by first | (simp; done) | (simp; omega) | omega)
  have k7_1 := fun o => (bcell hb7).1 (w.heap.size + 1 + 1) o (by first | (simp; done) | (simp; omega) | omega)
  have l7_1 : (w.heap.size + 1 + 1) < w7.heap.size := (by omega)
  have q7_1 := fun o => (bcell hb7).2 (w.heap.size + 1 + 1) o (by first | (simp; done) | (simp; omega) | omega)
  simp (maxDischargeDepth := 6) [go_sem, *] at k7_0 q7_0 k7_1 q7_1
  have HB7 := Lib.hid hb7
  clear hb7
  go_wp2_with fail
  refine (bridge_Plain ns _ _ _ b _ _ _ _ _ _ _ _ _ _ _ (ints_now HN.out (by (repeat (first | (with_reducible exact Below.refl _ _) | (with_reducible refine Below.drew ?_) | (with_reducible refine bdrewN ?_ _) | ((with_reducible refine Below.setCell ?_ ?_ _); rotate_left; exact (by first | (simp; done) | (simp; omega) | omega)) | ((with_reducible refine Below.alloc ?_ ?_ _); rotate_left; exact (by first | (simp; done) | (simp; omega) | omega)) | ((with_reducible refine Below.trans ?_ (HB7.out.mono ?_)); rotate_left; exact (by first | (simp; done) | (simp; omega) | omega)) | ((with_reducible refine Below.trans ?_ (HB6.out.mono ?_)); rotate_left; exact (by first | (simp; done) | (simp; omega) | omega)) | ((with_reducible refine Below.trans ?_ (HB5.out.mono ?_)); rotate_left; exact (by first | (simp; done) | (simp; omega) | omega)) | ((with_reducible refine Below.trans ?_ (HB4.out.mono ?_)); rotate_left; exact (by first | (simp; done) | (simp; omega) | omega)) | ((with_reducible refine Below.trans ?_ (HB3.out.mono ?_)); rotate_left; exact (by first | (simp; done) | (simp; omega) | omega)) | ((with_reducible refine Below.trans ?_ (HB2.out.mono ?_)); rotate_left; exact (by first | (simp; done) | (simp; omega) | omega)) | ((with_reducible refine Below.trans ?_ (HB1.out.mono ?_)); rotate_left; exact (by first | (simp; done) | (simp; omega) | omega)))))) HPL.out HPLE.out).mono ?_
  rintro e w8 ⟨rfl, hb8⟩
  have hz8 := hb8.size
  (try simp only [World.size_alloc, World.size_setCell, World.size_drew] at hz8)
  have HB8 := Lib.hid hb8
  clear hb8
  go_wp2
  go_ret
  exact ⟨rfl, by (repeat (first | (with_reducible exact Below.refl _ _) | (with_reducible refine Below.drew ?_) | (with_reducible refine bdrewN ?_ _) | ((with_reducible refine Below.setCell ?_ ?_ _); rotate_left; exact (by first | (simp; done) | (simp; omega) | omega)) | ((with_reducible refine Below.alloc ?_ ?_ _); rotate_left; exact (by first | (simp; done) | (simp; omega) | omega)) | ((with_reducible refine Below.trans ?_ (HB8.out.mono ?_)); rotate_left; exact (by first | (simp; done) | (simp; omega) | omega)) | ((with_reducible refine Below.trans ?_ (HB7.out.mono ?_)); rotate_left; exact (by first | (simp; done) | (simp; omega) | omega)) | ((with_reducible refine Below.trans ?_ (HB6.out.mono ?_)); rotate_left; exact (by first | (simp; done) | (simp; omega) | omega)) | ((with_reducible refine Below.trans ?_ (HB5.out.mono ?_)); rotate_left; exact (by first | (simp; done) | (simp; omega) | omega)) | ((with_reducible refine Below.trans ?_ (HB4.out.mono ?_)); rotate_left; exact (by first | (simp; done) | (simp; omega) | omega)) | ((with_reducible refine Below.trans ?_ (HB3.out.mono ?_)); rotate_left; exact (by first | (simp; done) | (simp; omega) | omega)) | ((with_reducible refine Below.trans ?_ (HB2.out.mono ?_)); rotate_left; exact (by first | (simp; done) | (simp; omega) | omega)) | ((with_reducible refine Below.trans ?_ (HB1.out.mono ?_)); rotate_left; exact (by first | (simp; done) | (simp; omega) | omega))))⟩
end

section
set_option maxRecDepth 100000 in
set_option maxHeartbeats 8000000 in
theorem rem_off (xs ns : List Int) (m N : Option Addr) (nm cm' nn nc : Nat) (b rb rb2 rb3 : Brg) (A : Option Addr) (n c : Nat) (d p d' p' : Int) (wr : Bool) (ra rf ra2 rf2 : Int) (ms : List Line) (w : World) (hx : Ints w w.heap.size m nm xs) (hn : Ints w w.heap.size N nn ns) (hl : Lines w w.heap.size A n c b.cache) (hd : d % 8 = d') (hp : p % 64 = p')
    (h1 : thruA xs b d' p' wr = (rb, ra, rf)) (h1e : thruE xs b d' p' = 0) (hns : cm ns = 0) (hck : ckB rb = 0) (hf : rf = 0) (hg : 0 ≤ findL rb.cache d' p') (hm : b.mode ≠ 2)
    (hde : dropE rb.cache 3 = 0) (hdl : dropL rb.cache 3 d' p' = ms) (ht : thruA ns { rb with cache := ms } d' p' wr = (rb2, ra2, rf2)) (hte : thruE ns { rb with cache := ms } d' p' = 0) (hpl : thruA ns { b with cache := [] } d' p' wr = (rb3, ra2, rf2)) (hple : thruE ns { b with cache := [] } d' p' = 0) :
    Calls Try.prog 14 #[.agg #[.slice m nm cm'], .agg #[.int .i64 b.mode, .int .i64 b.base, .slice A n c, .int .i64 b.orders.page, .int .i64 b.orders.head, .int .i64 b.orders.tail, .bool b.stopped, .int .i64 b.fences, .int .i64 b.faults.page, .int .i64 b.faults.head, .int .i64 b.faults.tail, .bool b.lost], .int .i64 d, .int .i64 p, .bool wr, .agg #[.slice N nn nc]] w fun e w' => e = .returned (.bool true) ∧ Below w.heap.size w w' := by
  have HX := Lib.hid hx
  have HN := Lib.hid hn
  have HL := Lib.hid hl
  have HD := Lib.hid hd
  have HP := Lib.hid hp
  have H1 := Lib.hid h1
  have H1E := Lib.hid h1e
  have HNS := Lib.hid hns
  have HCK := Lib.hid hck
  have HDE := Lib.hid hde
  have HDL := Lib.hid hdl
  have HT := Lib.hid ht
  have HTE := Lib.hid hte
  have HPL := Lib.hid hpl
  have HPLE := Lib.hid hple
  subst hf
  have tg : decide (0 ≤ findL rb.cache d' p') = true := by simpa using hg
  have tm : (b.mode == 2) = false := beq_eq_false_iff_ne.2 hm
  clear hm
  clear hx hn hl hd hp h1 h1e hns hck hde hdl ht hte hpl hple hg
  go_enter Try.func14, Try.ntmps14
  go_wp2_with fail
  refine (law_at _ _ (by decide) _).mono ?_
  rw [HD.out]
  rintro e w' ⟨rfl, rfl⟩
  go_wp2_with fail
  refine (law_at _ _ (by decide) _).mono ?_
  rw [HP.out]
  rintro e w' ⟨rfl, rfl⟩
  go_wp2_with fail
  refine (through_ans xs _ _ _ b _ _ _ _ _ _ _ _ _ _ _ (ints_now HX.out (by (repeat (first | (with_reducible exact Below.refl _ _) | (with_reducible refine Below.drew ?_) | (with_reducible refine bdrewN ?_ _) | ((with_reducible refine Below.setCell ?_ ?_ _); rotate_left; exact (by first | (simp; done) | (simp; omega) | omega)) | ((with_reducible refine Below.alloc ?_ ?_ _); rotate_left; exact (by first | (simp; done) | (simp; omega) | omega)))))) (lines_now HL.out (by (repeat (first | (with_reducible exact Below.refl _ _) | (with_reducible refine Below.drew ?_) | (with_reducible refine bdrewN ?_ _) | ((with_reducible refine Below.setCell ?_ ?_ _); rotate_left; exact (by first | (simp; done) | (simp; omega) | omega)) | ((with_reducible refine Below.alloc ?_ ?_ _); rotate_left; exact (by first | (simp; done) | (simp; omega) | omega)))))) H1.out H1E.out).mono ?_
  rintro e w1 ⟨A1, n1, c1, rfl, hl1, hb1, _⟩
  have HL1 := Lib.hid hl1
  clear hl1
  have hz1 := hb1.size
  (try simp only [World.size_alloc, World.size_setCell, World.size_drew] at hz1)
  have k1_0 := fun o => (bcell hb1).1 (w.heap.size + 1) o (by first | (simp; done) | (simp; omega) | omega)
  have l1_0 : (w.heap.size + 1) < w1.heap.size := (by omega)
  have q1_0 := fun o => (bcell hb1).2 (w.heap.size + 1) o (by first | (simp; done) | (simp; omega) | omega)
  have k1_1 := fun o => (bcell hb1).1 (w.heap.size + 1 + 1) o (by first | (simp; done) | (simp; omega) | omega)
  have l1_1 : (w.heap.size + 1 + 1) < w1.heap.size := (by omega)
  have q1_1 := fun o => (bcell hb1).2 (w.heap.size + 1 + 1) o (by first | (simp; done) | (simp; omega) | omega)
  simp (maxDischargeDepth := 6) [go_sem, *] at k1_0 q1_0 k1_1 q1_1
  have HB1 := Lib.hid hb1
  clear hb1
  go_wp2_with fail
  refine (law_crossed _).mono ?_
  rintro e w2 ⟨rfl, hb2⟩
  have hz2 := hb2.size
  (try simp only [World.size_alloc, World.size_setCell, World.size_drew] at hz2)
  have k2_0 := fun o => (bcell hb2).1 (w.heap.size + 1) o (by first | (simp; done) | (simp; omega) | omega)
  have l2_0 : (w.heap.size + 1) < w2.heap.size := (by omega)
  have q2_0 := fun o => (bcell hb2).2 (w.heap.size + 1) o (by first | (simp; done) | (simp; omega) | omega)
  have k2_1 := fun o => (bcell hb2).1 (w.heap.size + 1 + 1) o (by first | (simp; done) | (simp; omega) | omega)
  have l2_1 : (w.heap.size + 1 + 1) < w2.heap.size := (by omega)
  have q2_1 := fun o => (bcell hb2).2 (w.heap.size + 1 + 1) o (by first | (simp; done) | (simp; omega) | omega)
  have k2_2 := fun o => (bcell hb2).1 (w1.heap.size) o (by first | (simp; done) | (simp; omega) | omega)
  have l2_2 : (w1.heap.size) < w2.heap.size := (by omega)
  have q2_2 := fun o => (bcell hb2).2 (w1.heap.size) o (by first | (simp; done) | (simp; omega) | omega)
  simp (maxDischargeDepth := 6) [go_sem, *] at k2_0 q2_0 k2_1 q2_1 k2_2 q2_2
  have HB2 := Lib.hid hb2
  clear hb2
  go_wp2_with fail
  refine (mem_Check _ _ _ ns _ (ints_now HN.out (by (repeat (first | (with_reducible exact Below.refl _ _) | (with_reducible refine Below.drew ?_) | (with_reducible refine bdrewN ?_ _) | ((with_reducible refine Below.setCell ?_ ?_ _); rotate_left; exact (by first | (simp; done) | (simp; omega) | omega)) | ((with_reducible refine Below.alloc ?_ ?_ _); rotate_left; exact (by first | (simp; done) | (simp; omega) | omega)) | ((with_reducible refine Below.trans ?_ (HB2.out.mono ?_)); rotate_left; exact (by first | (simp; done) | (simp; omega) | omega)) | ((with_reducible refine Below.trans ?_ (HB1.out.mono ?_)); rotate_left; exact (by first | (simp; done) | (simp; omega) | omega))))))).mono ?_
  rw [HNS.out]
  rintro e w3 ⟨rfl, hb3⟩
  have hz3 := hb3.size
  (try simp only [World.size_alloc, World.size_setCell, World.size_drew] at hz3)
  have k3_0 := fun o => (bcell hb3).1 (w.heap.size + 1) o (by first | (simp; done) | (simp; omega) | omega)
  have l3_0 : (w.heap.size + 1) < w3.heap.size := (by omega)
  have q3_0 := fun o => (bcell hb3).2 (w.heap.size + 1) o (by first | (simp; done) | (simp; omega) | omega)
  have k3_1 := fun o => (bcell hb3).1 (w.heap.size + 1 + 1) o (by first | (simp; done) | (simp; omega) | omega)
  have l3_1 : (w.heap.size + 1 + 1) < w3.heap.size := (by omega)
  have q3_1 := fun o => (bcell hb3).2 (w.heap.size + 1 + 1) o (by first | (simp; done) | (simp; omega) | omega)
  have k3_2 := fun o => (bcell hb3).1 (w1.heap.size) o (by first | (simp; done) | (simp; omega) | omega)
  have l3_2 : (w1.heap.size) < w3.heap.size := (by omega)
  have q3_2 := fun o => (bcell hb3).2 (w1.heap.size) o (by first | (simp; done) | (simp; omega) | omega)
  simp (maxDischargeDepth := 6) [go_sem, *] at k3_0 q3_0 k3_1 q3_1 k3_2 q3_2
  have HB3 := Lib.hid hb3
  clear hb3
  go_wp2_with fail
  refine (bridge_Check rb _ _ _ _ (lines_now HL1.out (by (repeat (first | (with_reducible exact Below.refl _ _) | (with_reducible refine Below.drew ?_) | (with_reducible refine bdrewN ?_ _) | ((with_reducible refine Below.setCell ?_ ?_ _); rotate_left; exact (by first | (simp; done) | (simp; omega) | omega)) | ((with_reducible refine Below.alloc ?_ ?_ _); rotate_left; exact (by first | (simp; done) | (simp; omega) | omega)) | ((with_reducible refine Below.trans ?_ (HB3.out.mono ?_)); rotate_left; exact (by first | (simp; done) | (simp; omega) | omega)) | ((with_reducible refine Below.trans ?_ (HB2.out.mono ?_)); rotate_left; exact (by first | (simp; done) | (simp; omega) | omega))))))).mono ?_
  rw [HCK.out]
  rintro e w4 ⟨rfl, hb4⟩
  have hz4 := hb4.size
  (try simp only [World.size_alloc, World.size_setCell, World.size_drew] at hz4)
  have k4_0 := fun o => (bcell hb4).1 (w.heap.size + 1) o (by first | (simp; done) | (simp; omega) | omega)
  have l4_0 : (w.heap.size + 1) < w4.heap.size := (by omega)
  have q4_0 := fun o => (bcell hb4).2 (w.heap.size + 1) o (by first | (simp; done) | (simp; omega) | omega)
  have k4_1 := fun o => (bcell hb4).1 (w.heap.size + 1 + 1) o (by first | (simp; done) | (simp; omega) | omega)
  have l4_1 : (w.heap.size + 1 + 1) < w4.heap.size := (by omega)
  have q4_1 := fun o => (bcell hb4).2 (w.heap.size + 1 + 1) o (by first | (simp; done) | (simp; omega) | omega)
  have k4_2 := fun o => (bcell hb4).1 (w1.heap.size) o (by first | (simp; done) | (simp; omega) | omega)
  have l4_2 : (w1.heap.size) < w4.heap.size := (by omega)
  have q4_2 := fun o => (bcell hb4).2 (w1.heap.size) o (by first | (simp; done) | (simp; omega) | omega)
  simp (maxDischargeDepth := 6) [go_sem, *] at k4_0 q4_0 k4_1 q4_1 k4_2 q4_2
  have HB4 := Lib.hid hb4
  clear hb4
  go_wp2_with fail
  refine (cache_Find _ _ _ rb.cache _ _ _ (lines_now HL1.out (by (repeat (first | (with_reducible exact Below.refl _ _) | (with_reducible refine Below.drew ?_) | (with_reducible refine bdrewN ?_ _) | ((with_reducible refine Below.setCell ?_ ?_ _); rotate_left; exact (by first | (simp; done) | (simp; omega) | omega)) | ((with_reducible refine Below.alloc ?_ ?_ _); rotate_left; exact (by first | (simp; done) | (simp; omega) | omega)) | ((with_reducible refine Below.trans ?_ (HB4.out.mono ?_)); rotate_left; exact (by first | (simp; done) | (simp; omega) | omega)) | ((with_reducible refine Below.trans ?_ (HB3.out.mono ?_)); rotate_left; exact (by first | (simp; done) | (simp; omega) | omega)) | ((with_reducible refine Below.trans ?_ (HB2.out.mono ?_)); rotate_left; exact (by first | (simp; done) | (simp; omega) | omega))))))).mono ?_
  rintro e w5 ⟨rfl, hb5⟩
  have hz5 := hb5.size
  (try simp only [World.size_alloc, World.size_setCell, World.size_drew] at hz5)
  have k5_0 := fun o => (bcell hb5).1 (w.heap.size + 1) o (by first | (simp; done) | (simp; omega) | omega)
  have l5_0 : (w.heap.size + 1) < w5.heap.size := (by omega)
  have q5_0 := fun o => (bcell hb5).2 (w.heap.size + 1) o (by first | (simp; done) | (simp; omega) | omega)
  have k5_1 := fun o => (bcell hb5).1 (w.heap.size + 1 + 1) o (by first | (simp; done) | (simp; omega) | omega)
  have l5_1 : (w.heap.size + 1 + 1) < w5.heap.size := (by omega)
  have q5_1 := fun o => (bcell hb5).2 (w.heap.size + 1 + 1) o (by first | (simp; done) | (simp; omega) | omega)
  have k5_2 := fun o => (bcell hb5).1 (w1.heap.size) o (by first | (simp; done) | (simp; omega) | omega)
  have l5_2 : (w1.heap.size) < w5.heap.size := (by omega)
  have q5_2 := fun o => (bcell hb5).2 (w1.heap.size) o (by first | (simp; done) | (simp; omega) | omega)
  simp (maxDischargeDepth := 6) [go_sem, *] at k5_0 q5_0 k5_1 q5_1 k5_2 q5_2
  have HB5 := Lib.hid hb5
  clear hb5
  go_wp2_with fail
  refine (drop_ans _ _ _ rb.cache ms 3 d' p' 0 _ (lines_now HL1.out (by (repeat (first | (with_reducible exact Below.refl _ _) | (with_reducible refine Below.drew ?_) | (with_reducible refine bdrewN ?_ _) | ((with_reducible refine Below.setCell ?_ ?_ _); rotate_left; exact (by first | (simp; done) | (simp; omega) | omega)) | ((with_reducible refine Below.alloc ?_ ?_ _); rotate_left; exact (by first | (simp; done) | (simp; omega) | omega)) | ((with_reducible refine Below.trans ?_ (HB5.out.mono ?_)); rotate_left; exact (by first | (simp; done) | (simp; omega) | omega)) | ((with_reducible refine Below.trans ?_ (HB4.out.mono ?_)); rotate_left; exact (by first | (simp; done) | (simp; omega) | omega)) | ((with_reducible refine Below.trans ?_ (HB3.out.mono ?_)); rotate_left; exact (by first | (simp; done) | (simp; omega) | omega)) | ((with_reducible refine Below.trans ?_ (HB2.out.mono ?_)); rotate_left; exact (by first | (simp; done) | (simp; omega) | omega)))))) (by decide) HDE.out HDL.out).mono ?_
  rintro e w6 ⟨A9, c9, rfl, hl9, hb6, hn9⟩
  have hz9 := hb6.size
  (try simp only [World.size_alloc, World.size_setCell, World.size_drew] at hz9 hn9)
  have HL9 : Hid (Lines (w6.setCell ⟨w1.heap.size, 2, none⟩ (.slice A9 ms.length c9)) (w6.setCell ⟨w1.heap.size, 2, none⟩ (.slice A9 ms.length c9)).heap.size A9 ms.length c9 ms) := Lib.hid ((lines_off hl9 (fun ad h => by have := hn9 ad h; simp; omega) _).more (by simp))
  clear hl9 hn9
  have hz6 := hb6.size
  (try simp only [World.size_alloc, World.size_setCell, World.size_drew] at hz6)
  have k6_0 := fun o => (bcell hb6).1 (w.heap.size + 1) o (by first | (simp; done) | (simp; omega) | omega)
  have l6_0 : (w.heap.size + 1) < w6.heap.size := (by omega)
  have q6_0 := fun o => (bcell hb6).2 (w.heap.size + 1) o (by first | (simp; done) | (simp; omega) | omega)
  have k6_1 := fun o => (bcell hb6).1 (w.heap.size + 1 + 1) o (by first | (simp; done) | (simp; omega) | omega)
  have l6_1 : (w.heap.size + 1 + 1) < w6.heap.size := (by omega)
  have q6_1 := fun o => (bcell hb6).2 (w.heap.size + 1 + 1) o (by first | (simp; done) | (simp; omega) | omega)
  have k6_2 := fun o => (bcell hb6).1 (w1.heap.size) o (by first | (simp; done) | (simp; omega) | omega)
  have l6_2 : (w1.heap.size) < w6.heap.size := (by omega)
  have q6_2 := fun o => (bcell hb6).2 (w1.heap.size) o (by first | (simp; done) | (simp; omega) | omega)
  simp (maxDischargeDepth := 6) [go_sem, *] at k6_0 q6_0 k6_1 q6_1 k6_2 q6_2
  have HB6 := Lib.hid hb6
  clear hb6
  go_wp2_with fail
  refine (through_ans ns _ _ _ { rb with cache := ms } _ _ _ _ _ _ _ _ _ _ _ (ints_now HN.out (by (repeat (first | (with_reducible exact Below.refl _ _) | (with_reducible refine Below.drew ?_) | (with_reducible refine bdrewN ?_ _) | ((with_reducible refine Below.setCell ?_ ?_ _); rotate_left; exact (by first | (simp; done) | (simp; omega) | omega)) | ((with_reducible refine Below.alloc ?_ ?_ _); rotate_left; exact (by first | (simp; done) | (simp; omega) | omega)) | ((with_reducible refine Below.trans ?_ (HB6.out.mono ?_)); rotate_left; exact (by first | (simp; done) | (simp; omega) | omega)) | ((with_reducible refine Below.trans ?_ (HB5.out.mono ?_)); rotate_left; exact (by first | (simp; done) | (simp; omega) | omega)) | ((with_reducible refine Below.trans ?_ (HB4.out.mono ?_)); rotate_left; exact (by first | (simp; done) | (simp; omega) | omega)) | ((with_reducible refine Below.trans ?_ (HB3.out.mono ?_)); rotate_left; exact (by first | (simp; done) | (simp; omega) | omega)) | ((with_reducible refine Below.trans ?_ (HB2.out.mono ?_)); rotate_left; exact (by first | (simp; done) | (simp; omega) | omega)) | ((with_reducible refine Below.trans ?_ (HB1.out.mono ?_)); rotate_left; exact (by first | (simp; done) | (simp; omega) | omega)))))) HL9.out HT.out HTE.out).mono ?_
  rintro e w7 ⟨A10, n10, c10, rfl, hl10, hb7, _⟩
  clear hl10
  have hz7 := hb7.size
  (try simp only [World.size_alloc, World.size_setCell, World.size_drew] at hz7)
  have k7_0 := fun o => (bcell hb7).1 (w.heap.size + 1) o (by first | (simp; done) | (simp; omega) | omega)
  have l7_0 : (w.heap.size + 1) < w7.heap.size := (by omega)
  have q7_0 := fun o => (bcell hb7).2 (w.heap.size + 1) o (by first | (simp; done) | (simp; omega) | omega)
  have k7_1 := fun o => (bcell hb7).1 (w.heap.size + 1 + 1) o (by first | (simp; done) | (simp; omega) | omega)
  have l7_1 : (w.heap.size + 1 + 1) < w7.heap.size := (by omega)
  have q7_1 := fun o => (bcell hb7).2 (w.heap.size + 1 + 1) o (by first | (simp; done) | (simp; omega) | omega)
  simp (maxDischargeDepth := 6) [go_sem, *] at k7_0 q7_0 k7_1 q7_1
  have HB7 := Lib.hid hb7
  clear hb7
  go_wp2_with fail
  refine (bridge_Plain ns _ _ _ b _ _ _ _ _ _ _ _ _ _ _ (ints_now HN.out (by (repeat (first | (with_reducible exact Below.refl _ _) | (with_reducible refine Below.drew ?_) | (with_reducible refine bdrewN ?_ _) | ((with_reducible refine Below.setCell ?_ ?_ _); rotate_left; exact (by first | (simp; done) | (simp; omega) | omega)) | ((with_reducible refine Below.alloc ?_ ?_ _); rotate_left; exact (by first | (simp; done) | (simp; omega) | omega)) | ((with_reducible refine Below.trans ?_ (HB7.out.mono ?_)); rotate_left; exact (by first | (simp; done) | (simp; omega) | omega)) | ((with_reducible refine Below.trans ?_ (HB6.out.mono ?_)); rotate_left; exact (by first | (simp; done) | (simp; omega) | omega)) | ((with_reducible refine Below.trans ?_ (HB5.out.mono ?_)); rotate_left; exact (by first | (simp; done) | (simp; omega) | omega)) | ((with_reducible refine Below.trans ?_ (HB4.out.mono ?_)); rotate_left; exact (by first | (simp; done) | (simp; omega) | omega)) | ((with_reducible refine Below.trans ?_ (HB3.out.mono ?_)); rotate_left; exact (by first | (simp; done) | (simp; omega) | omega)) | ((with_reducible refine Below.trans ?_ (HB2.out.mono ?_)); rotate_left; exact (by first | (simp; done) | (simp; omega) | omega)) | ((with_reducible refine Below.trans ?_ (HB1.out.mono ?_)); rotate_left; exact (by first | (simp; done) | (simp; omega) | omega)))))) HPL.out HPLE.out).mono ?_
  rintro e w8 ⟨rfl, hb8⟩
  have hz8 := hb8.size
  (try simp only [World.size_alloc, World.size_setCell, World.size_drew] at hz8)
  have HB8 := Lib.hid hb8
  clear hb8
  go_wp2
  go_ret
  exact ⟨rfl, by (repeat (first | (with_reducible exact Below.refl _ _) | (with_reducible refine Below.drew ?_) | (with_reducible refine bdrewN ?_ _) | ((with_reducible refine Below.setCell ?_ ?_ _); rotate_left; exact (by first | (simp; done) | (simp; omega) | omega)) | ((with_reducible refine Below.alloc ?_ ?_ _); rotate_left; exact (by first | (simp; done) | (simp; omega) | omega)) | ((with_reducible refine Below.trans ?_ (HB8.out.mono ?_)); rotate_left; exact (by first | (simp; done) | (simp; omega) | omega)) | ((with_reducible refine Below.trans ?_ (HB7.out.mono ?_)); rotate_left; exact (by first | (simp; done) | (simp; omega) | omega)) | ((with_reducible refine Below.trans ?_ (HB6.out.mono ?_)); rotate_left; exact (by first | (simp; done) | (simp; omega) | omega)) | ((with_reducible refine Below.trans ?_ (HB5.out.mono ?_)); rotate_left; exact (by first | (simp; done) | (simp; omega) | omega)) | ((with_reducible refine Below.trans ?_ (HB4.out.mono ?_)); rotate_left; exact (by first | (simp; done) | (simp; omega) | omega)) | ((with_reducible refine Below.trans ?_ (HB3.out.mono ?_)); rotate_left; exact (by first | (simp; done) | (simp; omega) | omega)) | ((with_reducible refine Below.trans ?_ (HB2.out.mono ?_)); rotate_left; exact (by first | (simp; done) | (simp; omega) | omega)) | ((with_reducible refine Below.trans ?_ (HB1.out.mono ?_)); rotate_left; exact (by first | (simp; done) | (simp; omega) | omega))))⟩

set_option maxRecDepth 100000 in
set_option maxHeartbeats 8000000 in
theorem rem_on (xs ns : List Int) (m N : Option Addr) (nm cm' nn nc : Nat) (b rb rb2 rb3 : Brg) (A : Option Addr) (n c : Nat) (d p d' p' : Int) (wr : Bool) (ra rf ra2 rf2 : Int) (ms : List Line) (w : World) (hx : Ints w w.heap.size m nm xs) (hn : Ints w w.heap.size N nn ns) (hl : Lines w w.heap.size A n c b.cache) (hd : d % 8 = d') (hp : p % 64 = p')
    (h1 : thruA xs b d' p' wr = (rb, ra, rf)) (h1e : thruE xs b d' p' = 0) (hns : cm ns = 0) (hck : ckB rb = 0) (hf : rf = 0) (hg : 0 ≤ findL rb.cache d' p') (hm : b.mode = 2) (hag : thruA ns rb d' p' wr = (rb, ra, 0)) (hage : thruE ns rb d' p' = 0)
    (hde : dropE rb.cache 3 = 0) (hdl : dropL rb.cache 3 d' p' = ms) (ht : thruA ns { rb with cache := ms } d' p' wr = (rb2, ra2, rf2)) (hte : thruE ns { rb with cache := ms } d' p' = 0) (hpl : thruA ns { b with cache := [] } d' p' wr = (rb3, ra2, rf2)) (hple : thruE ns { b with cache := [] } d' p' = 0) :
    Calls Try.prog 14 #[.agg #[.slice m nm cm'], .agg #[.int .i64 b.mode, .int .i64 b.base, .slice A n c, .int .i64 b.orders.page, .int .i64 b.orders.head, .int .i64 b.orders.tail, .bool b.stopped, .int .i64 b.fences, .int .i64 b.faults.page, .int .i64 b.faults.head, .int .i64 b.faults.tail, .bool b.lost], .int .i64 d, .int .i64 p, .bool wr, .agg #[.slice N nn nc]] w fun e w' => e = .returned (.bool true) ∧ Below w.heap.size w w' := by
  have HX := Lib.hid hx
  have HN := Lib.hid hn
  have HL := Lib.hid hl
  have HD := Lib.hid hd
  have HP := Lib.hid hp
  have H1 := Lib.hid h1
  have H1E := Lib.hid h1e
  have HNS := Lib.hid hns
  have HCK := Lib.hid hck
  have HDE := Lib.hid hde
  have HDL := Lib.hid hdl
  have HT := Lib.hid ht
  have HTE := Lib.hid hte
  have HPL := Lib.hid hpl
  have HPLE := Lib.hid hple
  subst hf
  have tg : decide (0 ≤ findL rb.cache d' p') = true := by simpa using hg
  have tm : (b.mode == 2) = true := by rw [hm]; rfl
  clear hm
  have HAG := Lib.hid hag
  have HAGE := Lib.hid hage
  clear hag hage
  clear hx hn hl hd hp h1 h1e hns hck hde hdl ht hte hpl hple hg
  go_enter Try.func14, Try.ntmps14
  go_wp2_with fail
  refine (law_at _ _ (by decide) _).mono ?_
  rw [HD.out]
  rintro e w' ⟨rfl, rfl⟩
  go_wp2_with fail
  refine (law_at _ _ (by decide) _).mono ?_
  rw [HP.out]
  rintro e w' ⟨rfl, rfl⟩
  go_wp2_with fail
  refine (through_ans xs _ _ _ b _ _ _ _ _ _ _ _ _ _ _ (ints_now HX.out (by (repeat (first | (with_reducible exact Below.refl _ _) | (with_reducible refine Below.drew ?_) | (with_reducible refine bdrewN ?_ _) | ((with_reducible refine Below.setCell ?_ ?_ _); rotate_left; exact (by first | (simp; done) | (simp; omega) | omega)) | ((with_reducible refine Below.alloc ?_ ?_ _); rotate_left; exact (by first | (simp; done) | (simp; omega) | omega)))))) (lines_now HL.out (by (repeat (first | (with_reducible exact Below.refl _ _) | (with_reducible refine Below.drew ?_) | (with_reducible refine bdrewN ?_ _) | ((with_reducible refine Below.setCell ?_ ?_ _); rotate_left; exact (by first | (simp; done) | (simp; omega) | omega)) | ((with_reducible refine Below.alloc ?_ ?_ _); rotate_left; exact (by first | (simp; done) | (simp; omega) | omega)))))) H1.out H1E.out).mono ?_
  rintro e w1 ⟨A1, n1, c1, rfl, hl1, hb1, _⟩
  have HL1 := Lib.hid hl1
  clear hl1
  have hz1 := hb1.size
  (try simp only [World.size_alloc, World.size_setCell, World.size_drew] at hz1)
  have k1_0 := fun o => (bcell hb1).1 (w.heap.size + 1) o (by first | (simp; done) | (simp; omega) | omega)
  have l1_0 : (w.heap.size + 1) < w1.heap.size := (by omega)
  have q1_0 := fun o => (bcell hb1).2 (w.heap.size + 1) o (by first | (simp; done) | (simp; omega) | omega)
  have k1_1 := fun o => (bcell hb1).1 (w.heap.size + 1 + 1) o (by first | (simp; done) | (simp; omega) | omega)
  have l1_1 : (w.heap.size + 1 + 1) < w1.heap.size := (by omega)
  have q1_1 := fun o => (bcell hb1).2 (w.heap.size + 1 + 1) o (by first | (simp; done) | (simp; omega) | omega)
  simp (maxDischargeDepth := 6) [go_sem, *] at k1_0 q1_0 k1_1 q1_1
  have HB1 := Lib.hid hb1
  clear hb1
  go_wp2_with fail
  refine (law_crossed _).mono ?_
  rintro e w2 ⟨rfl, hb2⟩
  have hz2 := hb2.size
  (try simp only [World.size_alloc, World.size_setCell, World.size_drew] at hz2)
  have k2_0 := fun o => (bcell hb2).1 (w.heap.size + 1) o (by first | (simp; done) | (simp; omega) | omega)
  have l2_0 : (w.heap.size + 1) < w2.heap.size := (by omega)
  have q2_0 := fun o => (bcell hb2).2 (w.heap.size + 1) o (by first | (simp; done) | (simp; omega) | omega)
  have k2_1 := fun o => (bcell hb2).1 (w.heap.size + 1 + 1) o (by first | (simp; done) | (simp; omega) | omega)
  have l2_1 : (w.heap.size + 1 + 1) < w2.heap.size := (by omega)
  have q2_1 := fun o => (bcell hb2).2 (w.heap.size + 1 + 1) o (by first | (simp; done) | (simp; omega) | omega)
  have k2_2 := fun o => (bcell hb2).1 (w1.heap.size) o (by first | (simp; done) | (simp; omega) | omega)
  have l2_2 : (w1.heap.size) < w2.heap.size := (by omega)
  have q2_2 := fun o => (bcell hb2).2 (w1.heap.size) o (by first | (simp; done) | (simp; omega) | omega)
  simp (maxDischargeDepth := 6) [go_sem, *] at k2_0 q2_0 k2_1 q2_1 k2_2 q2_2
  have HB2 := Lib.hid hb2
  clear hb2
  go_wp2_with fail
  refine (mem_Check _ _ _ ns _ (ints_now HN.out (by (repeat (first | (with_reducible exact Below.refl _ _) | (with_reducible refine Below.drew ?_) | (with_reducible refine bdrewN ?_ _) | ((with_reducible refine Below.setCell ?_ ?_ _); rotate_left; exact (by first | (simp; done) | (simp; omega) | omega)) | ((with_reducible refine Below.alloc ?_ ?_ _); rotate_left; exact (by first | (simp; done) | (simp; omega) | omega)) | ((with_reducible refine Below.trans ?_ (HB2.out.mono ?_)); rotate_left; exact (by first | (simp; done) | (simp; omega) | omega)) | ((with_reducible refine Below.trans ?_ (HB1.out.mono ?_)); rotate_left; exact (by first | (simp; done) | (simp; omega) | omega))))))).mono ?_
  rw [HNS.out]
  rintro e w3 ⟨rfl, hb3⟩
  have hz3 := hb3.size
  (try simp only [World.size_alloc, World.size_setCell, World.size_drew] at hz3)
  have k3_0 := fun o => (bcell hb3).1 (w.heap.size + 1) o (by first | (simp; done) | (simp; omega) | omega)
  have l3_0 : (w.heap.size + 1) < w3.heap.size := (by omega)
  have q3_0 := fun o => (bcell hb3).2 (w.heap.size + 1) o (by first | (simp; done) | (simp; omega) | omega)
  have k3_1 := fun o => (bcell hb3).1 (w.heap.size + 1 + 1) o (by first | (simp; done) | (simp; omega) | omega)
  have l3_1 : (w.heap.size + 1 + 1) < w3.heap.size := (by omega)
  have q3_1 := fun o => (bcell hb3).2 (w.heap.size + 1 + 1) o (by first | (simp; done) | (simp; omega) | omega)
  have k3_2 := fun o => (bcell hb3).1 (w1.heap.size) o (by first | (simp; done) | (simp; omega) | omega)
  have l3_2 : (w1.heap.size) < w3.heap.size := (by omega)
  have q3_2 := fun o => (bcell hb3).2 (w1.heap.size) o (by first | (simp; done) | (simp; omega) | omega)
  simp (maxDischargeDepth := 6) [go_sem, *] at k3_0 q3_0 k3_1 q3_1 k3_2 q3_2
  have HB3 := Lib.hid hb3
  clear hb3
  go_wp2_with fail
  refine (bridge_Check rb _ _ _ _ (lines_now HL1.out (by (repeat (first | (with_reducible exact Below.refl _ _) | (with_reducible refine Below.drew ?_) | (with_reducible refine bdrewN ?_ _) | ((with_reducible refine Below.setCell ?_ ?_ _); rotate_left; exact (by first | (simp; done) | (simp; omega) | omega)) | ((with_reducible refine Below.alloc ?_ ?_ _); rotate_left; exact (by first | (simp; done) | (simp; omega) | omega)) | ((with_reducible refine Below.trans ?_ (HB3.out.mono ?_)); rotate_left; exact (by first | (simp; done) | (simp; omega) | omega)) | ((with_reducible refine Below.trans ?_ (HB2.out.mono ?_)); rotate_left; exact (by first | (simp; done) | (simp; omega) | omega))))))).mono ?_
  rw [HCK.out]
  rintro e w4 ⟨rfl, hb4⟩
  have hz4 := hb4.size
  (try simp only [World.size_alloc, World.size_setCell, World.size_drew] at hz4)
  have k4_0 := fun o => (bcell hb4).1 (w.heap.size + 1) o (by first | (simp; done) | (simp; omega) | omega)
  have l4_0 : (w.heap.size + 1) < w4.heap.size := (by omega)
  have q4_0 := fun o => (bcell hb4).2 (w.heap.size + 1) o (by first | (simp; done) | (simp; omega) | omega)
  have k4_1 := fun o => (bcell hb4).1 (w.heap.size + 1 + 1) o (by first | (simp; done) | (simp; omega) | omega)
  have l4_1 : (w.heap.size + 1 + 1) < w4.heap.size := (by omega)
  have q4_1 := fun o => (bcell hb4).2 (w.heap.size + 1 + 1) o (by first | (simp; done) | (simp; omega) | omega)
  have k4_2 := fun o => (bcell hb4).1 (w1.heap.size) o (by first | (simp; done) | (simp; omega) | omega)
  have l4_2 : (w1.heap.size) < w4.heap.size := (by omega)
  have q4_2 := fun o => (bcell hb4).2 (w1.heap.size) o (by first | (simp; done) | (simp; omega) | omega)
  simp (maxDischargeDepth := 6) [go_sem, *] at k4_0 q4_0 k4_1 q4_1 k4_2 q4_2
  have HB4 := Lib.hid hb4
  clear hb4
  go_wp2_with fail
  refine (cache_Find _ _ _ rb.cache _ _ _ (lines_now HL1.out (by (repeat (first | (with_reducible exact Below.refl _ _) | (with_reducible refine Below.drew ?_) | (with_reducible refine bdrewN ?_ _) | ((with_reducible refine Below.setCell ?_ ?_ _); rotate_left; exact (by first | (simp; done) | (simp; omega) | omega)) | ((with_reducible refine Below.alloc ?_ ?_ _); rotate_left; exact (by first | (simp; done) | (simp; omega) | omega)) | ((with_reducible refine Below.trans ?_ (HB4.out.mono ?_)); rotate_left; exact (by first | (simp; done) | (simp; omega) | omega)) | ((with_reducible refine Below.trans ?_ (HB3.out.mono ?_)); rotate_left; exact (by first | (simp; done) | (simp; omega) | omega)) | ((with_reducible refine Below.trans ?_ (HB2.out.mono ?_)); rotate_left; exact (by first | (simp; done) | (simp; omega) | omega))))))).mono ?_
  rintro e w5 ⟨rfl, hb5⟩
  have hz5 := hb5.size
  (try simp only [World.size_alloc, World.size_setCell, World.size_drew] at hz5)
  have k5_0 := fun o => (bcell hb5).1 (w.heap.size + 1) o (by first | (simp; done) | (simp; omega) | omega)
  have l5_0 : (w.heap.size + 1) < w5.heap.size := (by omega)
  have q5_0 := fun o => (bcell hb5).2 (w.heap.size + 1) o (by first | (simp; done) | (simp; omega) | omega)
  have k5_1 := fun o => (bcell hb5).1 (w.heap.size + 1 + 1) o (by first | (simp; done) | (simp; omega) | omega)
  have l5_1 : (w.heap.size + 1 + 1) < w5.heap.size := (by omega)
  have q5_1 := fun o => (bcell hb5).2 (w.heap.size + 1 + 1) o (by first | (simp; done) | (simp; omega) | omega)
  have k5_2 := fun o => (bcell hb5).1 (w1.heap.size) o (by first | (simp; done) | (simp; omega) | omega)
  have l5_2 : (w1.heap.size) < w5.heap.size := (by omega)
  have q5_2 := fun o => (bcell hb5).2 (w1.heap.size) o (by first | (simp; done) | (simp; omega) | omega)
  simp (maxDischargeDepth := 6) [go_sem, *] at k5_0 q5_0 k5_1 q5_1 k5_2 q5_2
  have HB5 := Lib.hid hb5
  clear hb5
  go_wp2_with fail
  refine (through_ans ns _ _ _ rb _ _ _ _ _ _ _ _ _ _ _ (ints_now HN.out (by (repeat (first | (with_reducible exact Below.refl _ _) | (with_reducible refine Below.drew ?_) | (with_reducible refine bdrewN ?_ _) | ((with_reducible refine Below.setCell ?_ ?_ _); rotate_left; exact (by first | (simp; done) | (simp; omega) | omega)) | ((with_reducible refine Below.alloc ?_ ?_ _); rotate_left; exact (by first | (simp; done) | (simp; omega) | omega)) | ((with_reducible refine Below.trans ?_ (HB5.out.mono ?_)); rotate_left; exact (by first | (simp; done) | (simp; omega) | omega)) | ((with_reducible refine Below.trans ?_ (HB4.out.mono ?_)); rotate_left; exact (by first | (simp; done) | (simp; omega) | omega)) | ((with_reducible refine Below.trans ?_ (HB3.out.mono ?_)); rotate_left; exact (by first | (simp; done) | (simp; omega) | omega)) | ((with_reducible refine Below.trans ?_ (HB2.out.mono ?_)); rotate_left; exact (by first | (simp; done) | (simp; omega) | omega)) | ((with_reducible refine Below.trans ?_ (HB1.out.mono ?_)); rotate_left; exact (by first | (simp; done) | (simp; omega) | omega)))))) (lines_now HL1.out (by (repeat (first | (with_reducible exact Below.refl _ _) | (with_reducible refine Below.drew ?_) | (with_reducible refine bdrewN ?_ _) | ((with_reducible refine Below.setCell ?_ ?_ _); rotate_left; exact (by first | (simp; done) | (simp; omega) | omega)) | ((with_reducible refine Below.alloc ?_ ?_ _); rotate_left; exact (by first | (simp; done) | (simp; omega) | omega)) | ((with_reducible refine Below.trans ?_ (HB5.out.mono ?_)); rotate_left; exact (by first | (simp; done) | (simp; omega) | omega)) | ((with_reducible refine Below.trans ?_ (HB4.out.mono ?_)); rotate_left; exact (by first | (simp; done) | (simp; omega) | omega)) | ((with_reducible refine Below.trans ?_ (HB3.out.mono ?_)); rotate_left; exact (by first | (simp; done) | (simp; omega) | omega)) | ((with_reducible refine Below.trans ?_ (HB2.out.mono ?_)); rotate_left; exact (by first | (simp; done) | (simp; omega) | omega)))))) HAG.out HAGE.out).mono ?_
  rintro e w6 ⟨A7, n7, c7, rfl, hl7, hb6, _⟩
  have HL7 := Lib.hid hl7
  clear hl7
  have hz6 := hb6.size
  (try simp only [World.size_alloc, World.size_setCell, World.size_drew] at hz6)
  have k6_0 := fun o => (bcell hb6).1 (w.heap.size + 1) o (by first | (simp; done) | (simp; omega) | omega)
  have l6_0 : (w.heap.size + 1) < w6.heap.size := (by omega)
  have q6_0 := fun o => (bcell hb6).2 (w.heap.size + 1) o (by first | (simp; done) | (simp; omega) | omega)
  have k6_1 := fun o => (bcell hb6).1 (w.heap.size + 1 + 1) o (by first | (simp; done) | (simp; omega) | omega)
  have l6_1 : (w.heap.size + 1 + 1) < w6.heap.size := (by omega)
  have q6_1 := fun o => (bcell hb6).2 (w.heap.size + 1 + 1) o (by first | (simp; done) | (simp; omega) | omega)
  have k6_2 := fun o => (bcell hb6).1 (w1.heap.size) o (by first | (simp; done) | (simp; omega) | omega)
  have l6_2 : (w1.heap.size) < w6.heap.size := (by omega)
  have q6_2 := fun o => (bcell hb6).2 (w1.heap.size) o (by first | (simp; done) | (simp; omega) | omega)
  simp (maxDischargeDepth := 6) [go_sem, *] at k6_0 q6_0 k6_1 q6_1 k6_2 q6_2
  have HB6 := Lib.hid hb6
  clear hb6
  go_wp2_with fail
  refine (bridge_Same rb rb _ _ _ _ _ _ _ (lines_now HL1.out (by (repeat (first | (with_reducible exact Below.refl _ _) | (with_reducible refine Below.drew ?_) | (with_reducible refine bdrewN ?_ _) | ((with_reducible refine Below.setCell ?_ ?_ _); rotate_left; exact (by first | (simp; done) | (simp; omega) | omega)) | ((with_reducible refine Below.alloc ?_ ?_ _); rotate_left; exact (by first | (simp; done) | (simp; omega) | omega)) | ((with_reducible refine Below.trans ?_ (HB6.out.mono ?_)); rotate_left; exact (by first | (simp; done) | (simp; omega) | omega)) | ((with_reducible refine Below.trans ?_ (HB5.out.mono ?_)); rotate_left; exact (by first | (simp; done) | (simp; omega) | omega)) | ((with_reducible refine Below.trans ?_ (HB4.out.mono ?_)); rotate_left; exact (by first | (simp; done) | (simp; omega) | omega)) | ((with_reducible refine Below.trans ?_ (HB3.out.mono ?_)); rotate_left; exact (by first | (simp; done) | (simp; omega) | omega)) | ((with_reducible refine Below.trans ?_ (HB2.out.mono ?_)); rotate_left; exact (by first | (simp; done) | (simp; omega) | omega)))))) (lines_now HL7.out (by (repeat (first | (with_reducible exact Below.refl _ _) | (with_reducible refine Below.drew ?_) | (with_reducible refine bdrewN ?_ _) | ((with_reducible refine Below.setCell ?_ ?_ _); rotate_left; exact (by first | (simp; done) | (simp; omega) | omega)) | ((with_reducible refine Below.alloc ?_ ?_ _); rotate_left; exact (by first | (simp; done) | (simp; omega) | omega))))))).mono ?_
  rw [same_self]
  rintro e w7 ⟨rfl, hb7⟩
  have hz7 := hb7.size
  (try simp only [World.size_alloc, World.size_setCell, World.size_drew] at hz7)
  have k7_0 := fun o => (bcell hb7).1 (w.heap.size + 1) o (by first | (simp; done) | (simp; omega) | omega)
  have l7_0 : (w.heap.size + 1) < w7.heap.size := (by omega)
  have q7_0 := fun o => (bcell hb7).2 (w.heap.size + 1) o (by first | (simp; done) | (simp; omega) | omega)
  have k7_1 := fun o => (bcell hb7).1 (w.heap.size + 1 + 1) o (by first | (simp; done) | (simp; omega) | omega)
  have l7_1 : (w.heap.size + 1 + 1) < w7.heap.size := (by omega)
  have q7_1 := fun o => (bcell hb7).2 (w.heap.size + 1 + 1) o (by first | (simp; done) | (simp; omega) | omega)
  have k7_2 := fun o => (bcell hb7).1 (w1.heap.size) o (by first | (simp; done) | (simp; omega) | omega)
  have l7_2 : (w1.heap.size) < w7.heap.size := (by omega)
  have q7_2 := fun o => (bcell hb7).2 (w1.heap.size) o (by first | (simp; done) | (simp; omega) | omega)
  simp (maxDischargeDepth := 6) [go_sem, *] at k7_0 q7_0 k7_1 q7_1 k7_2 q7_2
  have HB7 := Lib.hid hb7
  clear hb7
  go_wp2_with fail
  refine (drop_ans _ _ _ rb.cache ms 3 d' p' 0 _ (lines_now HL1.out (by (repeat (first | (with_reducible exact Below.refl _ _) | (with_reducible refine Below.drew ?_) | (with_reducible refine bdrewN ?_ _) | ((with_reducible refine Below.setCell ?_ ?_ _); rotate_left; exact (by first | (simp; done) | (simp; omega) | omega)) | ((with_reducible refine Below.alloc ?_ ?_ _); rotate_left; exact (by first | (simp; done) | (simp; omega) | omega)) | ((with_reducible refine Below.trans ?_ (HB7.out.mono ?_)); rotate_left; exact (by first | (simp; done) | (simp; omega) | omega)) | ((with_reducible refine Below.trans ?_ (HB6.out.mono ?_)); rotate_left; exact (by first | (simp; done) | (simp; omega) | omega)) | ((with_reducible refine Below.trans ?_ (HB5.out.mono ?_)); rotate_left; exact (by first | (simp; done) | (simp; omega) | omega)) | ((with_reducible refine Below.trans ?_ (HB4.out.mono ?_)); rotate_left; exact (by first | (simp; done) | (simp; omega) | omega)) | ((with_reducible refine Below.trans ?_ (HB3.out.mono ?_)); rotate_left; exact (by first | (simp; done) | (simp; omega) | omega)) | ((with_reducible refine Below.trans ?_ (HB2.out.mono ?_)); rotate_left; exact (by first | (simp; done) | (simp; omega) | omega)))))) (by decide) HDE.out HDL.out).mono ?_
  rintro e w8 ⟨A9, c9, rfl, hl9, hb8, hn9⟩
  have hz9 := hb8.size
  (try simp only [World.size_alloc, World.size_setCell, World.size_drew] at hz9 hn9)
  have HL9 : Hid (Lines (w8.setCell ⟨w1.heap.size, 2, none⟩ (.slice A9 ms.length c9)) (w8.setCell ⟨w1.heap.size, 2, none⟩ (.slice A9 ms.length c9)).heap.size A9 ms.length c9 ms) := Lib.hid ((lines_off hl9 (fun ad h => by have := hn9 ad h; simp; omega) _).more (by simp))
  clear hl9 hn9
  have hz8 := hb8.size
  (try simp only [World.size_alloc, World.size_setCell, World.size_drew] at hz8)
  have k8_0 := fun o => (bcell hb8).1 (w.heap.size + 1) o (by first | (simp; done) | (simp; omega) | omega)
  have l8_0 : (w.heap.size + 1) < w8.heap.size := (by omega)
  have q8_0 := fun o => (bcell hb8).2 (w.heap.size + 1) o (by first | (simp; done) | (simp; omega) | omega)
  have k8_1 := fun o => (bcell hb8).1 (w.heap.size + 1 + 1) o (by first | (simp; done) | (simp; omega) | omega)
  have l8_1 : (w.heap.size + 1 + 1) < w8.heap.size := (by omega)
  have q8_1 := fun o => (bcell hb8).2 (w.heap.size + 1 + 1) o (by first | (simp; done) | (simp; omega) | omega)
  have k8_2 := fun o => (bcell hb8).1 (w1.heap.size) o (by first | (simp; done) | (simp; omega) | omega)
  have l8_2 : (w1.heap.size) < w8.heap.size := (by omega)
  have q8_2 := fun o => (bcell hb8).2 (w1.heap.size) o (by first | (simp; done) | (simp; omega) | omega)
  simp (maxDischargeDepth := 6) [go_sem, *] at k8_0 q8_0 k8_1 q8_1 k8_2 q8_2
  have HB8 := Lib.hid hb8
  clear hb8
  go_wp2_with fail
  refine (through_ans ns _ _ _ { rb with cache := ms } _ _ _ _ _ _ _ _ _ _ _ (ints_now HN.out (by (repeat (first | (with_reducible exact Below.refl _ _) | (with_reducible refine Below.drew ?_) | (with_reducible refine bdrewN ?_ _) | ((with_reducible refine Below.setCell ?_ ?_ _); rotate_left; exact (by first | (simp; done) | (simp; omega) | omega)) | ((with_reducible refine Below.alloc ?_ ?_ _); rotate_left; exact (by first | (simp; done) | (simp; omega) | omega)) | ((with_reducible refine Below.trans ?_ (HB8.out.mono ?_)); rotate_left; exact (by first | (simp; done) | (simp; omega) | omega)) | ((with_reducible refine Below.trans ?_ (HB7.out.mono ?_)); rotate_left; exact (by first | (simp; done) | (simp; omega) | omega)) | ((with_reducible refine Below.trans ?_ (HB6.out.mono ?_)); rotate_left; exact (by first | (simp; done) | (simp; omega) | omega)) | ((with_reducible refine Below.trans ?_ (HB5.out.mono ?_)); rotate_left; exact (by first | (simp; done) | (simp; omega) | omega)) | ((with_reducible refine Below.trans ?_ (HB4.out.mono ?_)); rotate_left; exact (by first | (simp; done) | (simp; omega) | omega)) | ((with_reducible refine Below.trans ?_ (HB3.out.mono ?_)); rotate_left; exact (by first | (simp; done) | (simp; omega) | omega)) | ((with_reducible refine Below.trans ?_ (HB2.out.mono ?_)); rotate_left; exact (by first | (simp; done) | (simp; omega) | omega)) | ((with_reducible refine Below.trans ?_ (HB1.out.mono ?_)); rotate_left; exact (by first | (simp; done) | (simp; omega) | omega)))))) HL9.out HT.out HTE.out).mono ?_
  rintro e w9 ⟨A10, n10, c10, rfl, hl10, hb9, _⟩
  clear hl10
  have hz9 := hb9.size
  (try simp only [World.size_alloc, World.size_setCell, World.size_drew] at hz9)
  have k9_0 := fun o => (bcell hb9).1 (w.heap.size + 1) o (by first | (simp; done) | (simp; omega) | omega)
  have l9_0 : (w.heap.size + 1) < w9.heap.size := (by omega)
  have q9_0 := fun o => (bcell hb9).2 (w.heap.size + 1) o (by first | (simp; done) | (simp; omega) | omega)
  have k9_1 := fun o => (bcell hb9).1 (w.heap.size + 1 + 1) o (by first | (simp; done) | (simp; omega) | omega)
  have l9_1 : (w.heap.size + 1 + 1) < w9.heap.size := (by omega)
  have q9_1 := fun o => (bcell hb9).2 (w.heap.size + 1 + 1) o (by first | (simp; done) | (simp; omega) | omega)
  simp (maxDischargeDepth := 6) [go_sem, *] at k9_0 q9_0 k9_1 q9_1
  have HB9 := Lib.hid hb9
  clear hb9
  go_wp2_with fail
  refine (bridge_Plain ns _ _ _ b _ _ _ _ _ _ _ _ _ _ _ (ints_now HN.out (by (repeat (first | (with_reducible exact Below.refl _ _) | (with_reducible refine Below.drew ?_) | (with_reducible refine bdrewN ?_ _) | ((with_reducible refine Below.setCell ?_ ?_ _); rotate_left; exact (by first | (simp; done) | (simp; omega) | omega)) | ((with_reducible refine Below.alloc ?_ ?_ _); rotate_left; exact (by first | (simp; done) | (simp; omega) | omega)) | ((with_reducible refine Below.trans ?_ (HB9.out.mono ?_)); rotate_left; exact (by first | (simp; done) | (simp; omega) | omega)) | ((with_reducible refine Below.trans ?_ (HB8.out.mono ?_)); rotate_left; exact (by first | (simp; done) | (simp; omega) | omega)) | ((with_reducible refine Below.trans ?_ (HB7.out.mono ?_)); rotate_left; exact (by first | (simp; done) | (simp; omega) | omega)) | ((with_reducible refine Below.trans ?_ (HB6.out.mono ?_)); rotate_left; exact (by first | (simp; done) | (simp; omega) | omega)) | ((with_reducible refine Below.trans ?_ (HB5.out.mono ?_)); rotate_left; exact (by first | (simp; done) | (simp; omega) | omega)) | ((with_reducible refine Below.trans ?_ (HB4.out.mono ?_)); rotate_left; exact (by first | (simp; done) | (simp; omega) | omega)) | ((with_reducible refine Below.trans ?_ (HB3.out.mono ?_)); rotate_left; exact (by first | (simp; done) | (simp; omega) | omega)) | ((with_reducible refine Below.trans ?_ (HB2.out.mono ?_)); rotate_left; exact (by first | (simp; done) | (simp; omega) | omega)) | ((with_reducible refine Below.trans ?_ (HB1.out.mono ?_)); rotate_left; exact (by first | (simp; done) | (simp; omega) | omega)))))) HPL.out HPLE.out).mono ?_
  rintro e w10 ⟨rfl, hb10⟩
  have hz10 := hb10.size
  (try simp only [World.size_alloc, World.size_setCell, World.size_drew] at hz10)
  have HB10 := Lib.hid hb10
  clear hb10
  go_wp2
  go_ret
  exact ⟨rfl, by (repeat (first | (with_reducible exact Below.refl _ _) | (with_reducible refine Below.drew ?_) | (with_reducible refine bdrewN ?_ _) | ((with_reducible refine Below.setCell ?_ ?_ _); rotate_left; exact (by first | (simp; done) | (simp; omega) | omega)) | ((with_reducible refine Below.alloc ?_ ?_ _); rotate_left; exact (by first | (simp; done) | (simp; omega) | omega)) | ((with_reducible refine Below.trans ?_ (HB10.out.mono ?_)); rotate_left; exact (by first | (simp; done) | (simp; omega) | omega)) | ((with_reducible refine Below.trans ?_ (HB9.out.mono ?_)); rotate_left; exact (by first | (simp; done) | (simp; omega) | omega)) | ((with_reducible refine Below.trans ?_ (HB8.out.mono ?_)); rotate_left; exact (by first | (simp; done) | (simp; omega) | omega)) | ((with_reducible refine Below.trans ?_ (HB7.out.mono ?_)); rotate_left; exact (by first | (simp; done) | (simp; omega) | omega)) | ((with_reducible refine Below.trans ?_ (HB6.out.mono ?_)); rotate_left; exact (by first | (simp; done) | (simp; omega) | omega)) | ((with_reducible refine Below.trans ?_ (HB5.out.mono ?_)); rotate_left; exact (by first | (simp; done) | (simp; omega) | omega)) | ((with_reducible refine Below.trans ?_ (HB4.out.mono ?_)); rotate_left; exact (by first | (simp; done) | (simp; omega) | omega)) | ((with_reducible refine Below.trans ?_ (HB3.out.mono ?_)); rotate_left; exact (by first | (simp; done) | (simp; omega) | omega)) | ((with_reducible refine Below.trans ?_ (HB2.out.mono ?_)); rotate_left; exact (by first | (simp; done) | (simp; omega) | omega)) | ((with_reducible refine Below.trans ?_ (HB1.out.mono ?_)); rotate_left; exact (by first | (simp; done) | (simp; omega) | omega))))⟩
end

section
set_option maxRecDepth 100000 in
set_option maxHeartbeats 8000000 in
theorem rem_bad (xs ns : List Int) (m N : Option Addr) (nm cm' nn nc : Nat) (b rb : Brg) (A : Option Addr) (n c : Nat) (d p : Int) (wr : Bool) (ra rf E : Int) (w : World) (hx : Ints w w.heap.size m nm xs) (hl : Lines w w.heap.size A n c b.cache)
    (h1 : thruA xs b (d % 8) (p % 64) wr = (rb, ra, rf)) (h1e : thruE xs b (d % 8) (p % 64) = E) (h0 : E ≠ 0) :
    Calls Try.prog 14 #[.agg #[.slice m nm cm'], .agg #[.int .i64 b.mode, .int .i64 b.base, .slice A n c, .int .i64 b.orders.page, .int .i64 b.orders.head, .int .i64 b.orders.tail, .bool b.stopped, .int .i64 b.fences, .int .i64 b.faults.page, .int .i64 b.faults.head, .int .i64 b.faults.tail, .bool b.lost], .int .i64 d, .int .i64 p, .bool wr, .agg #[.slice N nn nc]] w fun e w' => e = .returned (.bool true) ∧ Below w.heap.size w w' := by
  have HX := Lib.hid hx
  have HL := Lib.hid hl
  have H1 := Lib.hid h1
  have H1E := Lib.hid h1e
  have t0 : (E != 0) = true := by rw [bne_iff_ne]; exact h0
  clear hx hl h1 h1e h0
  go_enter Try.func14, Try.ntmps14
  go_wp2_with fail
  refine (law_at _ _ (by decide) _).mono ?_
  rintro e w' ⟨rfl, rfl⟩
  go_wp2_with fail
  refine (law_at _ _ (by decide) _).mono ?_
  rintro e w' ⟨rfl, rfl⟩
  go_wp2_with fail
  refine (through_ans xs _ _ _ b _ _ _ _ _ _ _ _ _ _ _ (ints_now HX.out (by (repeat (first | (with_reducible exact Below.refl _ _) | (with_reducible refine Below.drew ?_) | (with_reducible refine bdrewN ?_ _) | ((with_reducible refine Below.setCell ?_ ?_ _); rotate_left; exact (by first | (simp; done) | (simp; omega) | omega)) | ((with_reducible refine Below.alloc ?_ ?_ _); rotate_left; exact (by first | (simp; done) | (simp; omega) | omega)))))) (lines_now HL.out (by (repeat (first | (with_reducible exact Below.refl _ _) | (with_reducible refine Below.drew ?_) | (with_reducible refine bdrewN ?_ _) | ((with_reducible refine Below.setCell ?_ ?_ _); rotate_left; exact (by first | (simp; done) | (simp; omega) | omega)) | ((with_reducible refine Below.alloc ?_ ?_ _); rotate_left; exact (by first | (simp; done) | (simp; omega) | omega)))))) H1.out H1E.out).mono ?_
  rintro e w1 ⟨A1, n1, c1, rfl, hl1, hb1, _⟩
  clear hl1
  have hz1 := hb1.size
  (try simp only [World.size_alloc, World.size_setCell, World.size_drew] at hz1)
  have HB1 := Lib.hid hb1
  clear hb1
  go_wp2_with fail
  refine (law_crossed _).mono ?_
  rintro e w2 ⟨rfl, hb2⟩
  have hz2 := hb2.size
  (try simp only [World.size_alloc, World.size_setCell, World.size_drew] at hz2)
  have HB2 := Lib.hid hb2
  clear hb2
  go_wp2_with fail
  refine (law_crossed _).mono ?_
  rintro e w3 ⟨rfl, hb3⟩
  have hz3 := hb3.size
  (try simp only [World.size_alloc, World.size_setCell, World.size_drew] at hz3)
  have HB3 := Lib.hid hb3
  clear hb3
  go_wp2
  go_ret
  exact ⟨rfl, by (repeat (first | (with_reducible exact Below.refl _ _) | (with_reducible refine Below.drew ?_) | (with_reducible refine bdrewN ?_ _) | ((with_reducible refine Below.setCell ?_ ?_ _); rotate_left; exact (by first | (simp; done) | (simp; omega) | omega)) | ((with_reducible refine Below.alloc ?_ ?_ _); rotate_left; exact (by first | (simp; done) | (simp; omega) | omega)) | ((with_reducible refine Below.trans ?_ (HB3.out.mono ?_)); rotate_left; exact (by first | (simp; done) | (simp; omega) | omega)) | ((with_reducible refine Below.trans ?_ (HB2.out.mono ?_)); rotate_left; exact (by first | (simp; done) | (simp; omega) | omega)) | ((with_reducible refine Below.trans ?_ (HB1.out.mono ?_)); rotate_left; exact (by first | (simp; done) | (simp; omega) | omega))))⟩

set_option maxRecDepth 100000 in
set_option maxHeartbeats 8000000 in
theorem rem_bad2 (xs ns : List Int) (m N : Option Addr) (nm cm' nn nc : Nat) (b rb : Brg) (A : Option Addr) (n c : Nat) (d p : Int) (wr : Bool) (ra rf : Int) (w : World) (hx : Ints w w.heap.size m nm xs) (hn : Ints w w.heap.size N nn ns) (hl : Lines w w.heap.size A n c b.cache)
    (h1 : thruA xs b (d % 8) (p % 64) wr = (rb, ra, rf)) (h1e : thruE xs b (d % 8) (p % 64) = 0) (h0 : cm ns ≠ 0) :
    Calls Try.prog 14 #[.agg #[.slice m nm cm'], .agg #[.int .i64 b.mode, .int .i64 b.base, .slice A n c, .int .i64 b.orders.page, .int .i64 b.orders.head, .int .i64 b.orders.tail, .bool b.stopped, .int .i64 b.fences, .int .i64 b.faults.page, .int .i64 b.faults.head, .int .i64 b.faults.tail, .bool b.lost], .int .i64 d, .int .i64 p, .bool wr, .agg #[.slice N nn nc]] w fun e w' => e = .returned (.bool true) ∧ Below w.heap.size w w' := by
  have HX := Lib.hid hx
  have HN := Lib.hid hn
  have HL := Lib.hid hl
  have H1 := Lib.hid h1
  have H1E := Lib.hid h1e
  have t0 : (cm ns != 0) = true := by rw [bne_iff_ne]; exact h0
  clear hx hn hl h1 h1e h0
  go_enter Try.func14, Try.ntmps14
  go_wp2_with fail
  refine (law_at _ _ (by decide) _).mono ?_
  rintro e w' ⟨rfl, rfl⟩
  go_wp2_with fail
  refine (law_at _ _ (by decide) _).mono ?_
  rintro e w' ⟨rfl, rfl⟩
  go_wp2_with fail
  refine (through_ans xs _ _ _ b _ _ _ _ _ _ _ _ _ _ _ (ints_now HX.out (by (repeat (first | (with_reducible exact Below.refl _ _) | (with_reducible refine Below.drew ?_) | (with_reducible refine bdrewN ?_ _) | ((with_reducible refine Below.setCell ?_ ?_ _); rotate_left; exact (by first | (simp; done) | (simp; omega) | omega)) | ((with_reducible refine Below.alloc ?_ ?_ _); rotate_left; exact (by first | (simp; done) | (simp; omega) | omega)))))) (lines_now HL.out (by (repeat (first | (with_reducible exact Below.refl _ _) | (with_reducible refine Below.drew ?_) | (with_reducible refine bdrewN ?_ _) | ((with_reducible refine Below.setCell ?_ ?_ _); rotate_left; exact (by first | (simp; done) | (simp; omega) | omega)) | ((with_reducible refine Below.alloc ?_ ?_ _); rotate_left; exact (by first | (simp; done) | (simp; omega) | omega)))))) H1.out H1E.out).mono ?_
  rintro e w1 ⟨A1, n1, c1, rfl, hl1, hb1, _⟩
  clear hl1
  have hz1 := hb1.size
  (try simp only [World.size_alloc, World.size_setCell, World.size_drew] at hz1)
  have k1_0 := fun o => (bcell hb1).1 (w.heap.size + 1 + 1) o (by first | (simp; done) | (simp; omega) | omega)
  have l1_0 : (w.heap.size + 1 + 1) < w1.heap.size := (by omega)
  have q1_0 := fun o => (bcell hb1).2 (w.heap.size + 1 + 1) o (by first | (simp; done) | (simp; omega) | omega)
  simp (maxDischargeDepth := 6) [go_sem, *] at k1_0 q1_0
  have HB1 := Lib.hid hb1
  clear hb1
  go_wp2_with fail
  refine (law_crossed _).mono ?_
  rintro e w2 ⟨rfl, hb2⟩
  have hz2 := hb2.size
  (try simp only [World.size_alloc, World.size_setCell, World.size_drew] at hz2)
  have k2_0 := fun o => (bcell hb2).1 (w.heap.size + 1 + 1) o (by first | (simp; done) | (simp; omega) | omega)
  have l2_0 : (w.heap.size + 1 + 1) < w2.heap.size := (by omega)
  have q2_0 := fun o => (bcell hb2).2 (w.heap.size + 1 + 1) o (by first | (simp; done) | (simp; omega) | omega)
  simp (maxDischargeDepth := 6) [go_sem, *] at k2_0 q2_0
  have HB2 := Lib.hid hb2
  clear hb2
  go_wp2_with fail
  refine (mem_Check _ _ _ ns _ (ints_now HN.out (by (repeat (first | (with_reducible exact Below.refl _ _) | (with_reducible refine Below.drew ?_) | (with_reducible refine bdrewN ?_ _) | ((with_reducible refine Below.setCell ?_ ?_ _); rotate_left; exact (by first | (simp; done) | (simp; omega) | omega)) | ((with_reducible refine Below.alloc ?_ ?_ _); rotate_left; exact (by first | (simp; done) | (simp; omega) | omega)) | ((with_reducible refine Below.trans ?_ (HB2.out.mono ?_)); rotate_left; exact (by first | (simp; done) | (simp; omega) | omega)) | ((with_reducible refine Below.trans ?_ (HB1.out.mono ?_)); rotate_left; exact (by first | (simp; done) | (simp; omega) | omega))))))).mono ?_
  rintro e w3 ⟨rfl, hb3⟩
  have hz3 := hb3.size
  (try simp only [World.size_alloc, World.size_setCell, World.size_drew] at hz3)
  have HB3 := Lib.hid hb3
  clear hb3
  go_wp2_with fail
  refine (law_crossed _).mono ?_
  rintro e w4 ⟨rfl, hb4⟩
  have hz4 := hb4.size
  (try simp only [World.size_alloc, World.size_setCell, World.size_drew] at hz4)
  have HB4 := Lib.hid hb4
  clear hb4
  go_wp2
  go_ret
  exact ⟨rfl, by (repeat (first | (with_reducible exact Below.refl _ _) | (with_reducible refine Below.drew ?_) | (with_reducible refine bdrewN ?_ _) | ((with_reducible refine Below.setCell ?_ ?_ _); rotate_left; exact (by first | (simp; done) | (simp; omega) | omega)) | ((with_reducible refine Below.alloc ?_ ?_ _); rotate_left; exact (by first | (simp; done) | (simp; omega) | omega)) | ((with_reducible refine Below.trans ?_ (HB4.out.mono ?_)); rotate_left; exact (by first | (simp; done) | (simp; omega) | omega)) | ((with_reducible refine Below.trans ?_ (HB3.out.mono ?_)); rotate_left; exact (by first | (simp; done) | (simp; omega) | omega)) | ((with_reducible refine Below.trans ?_ (HB2.out.mono ?_)); rotate_left; exact (by first | (simp; done) | (simp; omega) | omega)) | ((with_reducible refine Below.trans ?_ (HB1.out.mono ?_)); rotate_left; exact (by first | (simp; done) | (simp; omega) | omega))))⟩

theorem cache_ck {b : Brg} {ls : List Line} (h : ckB b = 0) (hc : ckC ls = 0) : ckB { b with cache := ls } = 0 := by
  rw [ckB_iff] at h ⊢
  exact ⟨h.1, hc, h.2.2⟩
theorem law_BridgeRemembers (xs ns : List Int) (m N : Option Addr) (nm cm' nn nc : Nat) (b : Brg) (A : Option Addr) (n c : Nat) (d p : Int) (wr : Bool) (w : World) (hx : Ints w w.heap.size m nm xs) (hl : Lines w w.heap.size A n c b.cache) (hn : Ints w w.heap.size N nn ns) :
    Calls Try.prog 14 #[.agg #[.slice m nm cm'], .agg #[.int .i64 b.mode, .int .i64 b.base, .slice A n c, .int .i64 b.orders.page, .int .i64 b.orders.head, .int .i64 b.orders.tail, .bool b.stopped, .int .i64 b.fences, .int .i64 b.faults.page, .int .i64 b.faults.head, .int .i64 b.faults.tail, .bool b.lost], .int .i64 d, .int .i64 p, .bool wr, .agg #[.slice N nn nc]] w fun e w' => e = .returned (.bool true) ∧ Below w.heap.size w w' := by
  by_cases hE : thruE xs b (d % 8) (p % 64) = 0
  · have hA : thruA xs b (d % 8) (p % 64) wr = thruM xs b (d % 8) (p % 64) wr := by unfold thruA; rw [if_pos hE]
    by_cases hns : cm ns = 0
    · obtain ⟨hxs, hb, hin⟩ := thruE_inv hE
      have hck := thru_ck (wr := wr) hE
      have hsame := rem_same (xs := xs) (b := b) (d := d % 8) (p := p % 64) (wr := wr) hin
      have hag := fun hm hf h0 => rem_again (xs := xs) (ns := ns) (b := b) (d := d % 8) (p := p % 64) (wr := wr) ((ckB_iff b).1 hb).2.1 hin hm hf h0
      have hbut := thru_but xs b (d % 8) (p % 64) wr
      have he : ∀ y : Brg, ckB y = 0 → thruE ns y (d % 8) (p % 64) = 0 := fun y hy => by
        unfold thruE allE; rw [if_pos hns, if_pos hy, if_pos hin]
      have ha : ∀ y : Brg, ckB y = 0 → thruA ns y (d % 8) (p % 64) wr = thruM ns y (d % 8) (p % 64) wr := fun y hy => by
        unfold thruA; rw [if_pos (he y hy)]
      generalize hr : thruM xs b (d % 8) (p % 64) wr = r at *
      obtain ⟨rb, ra, rf⟩ := r
      dsimp only at hck hsame hag hbut
      have hcc := ((ckB_iff rb).1 hck).2.1
      have hde : dropE rb.cache 3 = 0 := dropE_0 hcc (by decide)
      have hck2 := cache_ck hck (drop_ck rb.cache 3 (d % 8) (p % 64) hde)
      have hck3 := cache_ck hb ckC_nil
      have hrd := rem_drop (ns := ns) (b := rb) (ls := rb.cache) (d := d % 8) (p := p % 64) (wr := wr) hcc
      have hbb : ({ rb with cache := [] } : Brg) = { b with cache := [] } := by rw [hbut]
      rw [hbb] at hrd
      have ht := ha _ hck2
      have hpl := ha _ hck3
      generalize hq2 : thruM ns { rb with cache := dropL rb.cache 3 (d % 8) (p % 64) } (d % 8) (p % 64) wr = r2 at *
      generalize hq3 : thruM ns { b with cache := [] } (d % 8) (p % 64) wr = r3 at *
      obtain ⟨rb2, ra2, rf2⟩ := r2
      obtain ⟨rb3, ra3, rf3⟩ := r3
      simp only [Prod.mk.injEq] at hrd
      obtain ⟨rfl, rfl⟩ := hrd
      by_cases hf : rf = 0
      · by_cases hg : 0 ≤ findL rb.cache (d % 8) (p % 64)
        · by_cases hm : b.mode = 2
          · have h2 := hag hm hg hf
            exact rem_on xs ns m N nm cm' nn nc b rb rb2 rb3 A n c d p _ _ wr ra rf ra2 rf2 _ w hx hn hl rfl rfl hA hE hns hck hf hg hm ((ha rb hck).trans h2) (he rb hck) hde rfl ht (he _ hck2) hpl (he _ hck3)
          · exact rem_off xs ns m N nm cm' nn nc b rb rb2 rb3 A n c d p _ _ wr ra rf ra2 rf2 _ w hx hn hl rfl rfl hA hE hns hck hf hg hm hde rfl ht (he _ hck2) hpl (he _ hck3)
        · exact rem_n xs ns m N nm cm' nn nc b rb rb2 rb3 A n c d p _ _ wr ra rf ra2 rf2 _ w hx hn hl rfl rfl hA hE hns hck hf (by omega) hde rfl ht (he _ hck2) hpl (he _ hck3)
      · have hs : sameB b rb = true := by rw [hsame hf]; exact same_self b
        by_cases hg : 0 ≤ findL rb.cache (d % 8) (p % 64)
        · exact rem_fg xs ns m N nm cm' nn nc b rb rb2 rb3 A n c d p _ _ wr ra rf ra2 rf2 _ w hx hn hl rfl rfl hA hE hns hck hf hs hg hde rfl ht (he _ hck2) hpl (he _ hck3)
        · exact rem_fn xs ns m N nm cm' nn nc b rb rb2 rb3 A n c d p _ _ wr ra rf ra2 rf2 _ w hx hn hl rfl rfl hA hE hns hck hf hs (by omega) hde rfl ht (he _ hck2) hpl (he _ hck3)
    · generalize hr : thruM xs b (d % 8) (p % 64) wr = r at *
      obtain ⟨rb, ra, rf⟩ := r
      exact rem_bad2 xs ns m N nm cm' nn nc b rb A n c d p wr ra rf w hx hn hl hA hE hns
  · generalize hr : thruA xs b (d % 8) (p % 64) wr = r
    obtain ⟨rb, ra, rf⟩ := r
    exact rem_bad xs ns m N nm cm' nn nc b rb A n c d p wr ra rf _ w hx hl hr rfl hE
end
end Go.Proofs.Ytbopdijnojaaiab
