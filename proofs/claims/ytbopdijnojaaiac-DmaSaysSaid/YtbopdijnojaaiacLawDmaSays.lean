/- The devices: the walk of the law DmaSays. The row is in another text. -/
import Derived.Test.YtbopdijnojaaiacCarried
import Derived.Test.YtbopdijnojaaiacRefA
import Derived.Test.YtbopdijnojaaiacRefB
import Derived.Test.YtbopdijnojaaiacSameT
import Derived.Deep.RegionHeld3
import Derived.Deep.DrawnRows
import Derived.Deep.DeepCutAuto
namespace Go.Proofs.Ytbopdijnojaaiac
open Go.RowKit
set_option linter.unusedSimpArgs false
set_option linter.unusedVariables false
attribute [local go_sem ↓] Go.wp_at_zero Go.wp_at_succ
theorem same_selfD (b : Brg) : sameB b b = true := by simp [sameB]
theorem same_selfT (t : Tld) : sameT t t = true := by simp [sameT]
theorem eqI_selfD (ys : List Int) : eqI ys ys = true := by simp [eqI]
theorem tchs_snc {w W : World} {A : Option Addr} {n c : Nat} {xs : List Tch} (hx : Tchs w w.heap.size A n c xs) (h : Since w W) : Tchs W W.heap.size A n c xs := tchs_now hx h
theorem ask_since {w W : World} {g : Nat} {a : Ask} {D : Option Addr} {nd cd : Nat} (h : AskAt w g a D nd cd) (hs : Since w W) : AskAt W g a D nd cd := by
  obtain ⟨h0, h1, h2, h3, h4⟩ := h
  exact ⟨since_cell hs h0, since_cell hs h1, since_cell hs h2, since_cell hs h3, since_cell hs h4⟩
theorem tld_since {w W : World} {g : Nat} {t : Tld} {D T : Option Addr} {dn dc tn tc : Nat} (h : TldAt w g t D dn dc T tn tc) (hs : Since w W) : TldAt W g t D dn dc T tn tc := by
  obtain ⟨h0, h1, h2, h3⟩ := h
  exact ⟨since_cell hs h0, since_cell hs h1, since_cell hs h2, since_cell hs h3⟩
theorem dma_ans_k (xs : List Int) (m : Option Addr) (nm mc : Nat) (b : Brg) (A0 : Option Addr) (n0 c0 : Nat) (AD : Option Addr) (nd cd : Nat) (w : World) (hx : Ints w w.heap.size m nm xs) (hl : Lines w w.heap.size A0 n0 c0 b.cache) (a : Ask) (hd : Ints w w.heap.size AD nd a.data) (R : List Int × Brg × Tld) (E : Int) (k : Nat) (hR : dmaA xs b a = R) (hE : dmaE xs b a = E) (hk : (if E = 0 then 512 else 0) = k) :
    Calls Try.prog 30 #[.agg #[.slice m nm mc], .agg #[.int .i64 b.mode, .int .i64 b.base, .slice A0 n0 c0, .int .i64 b.orders.page, .int .i64 b.orders.head, .int .i64 b.orders.tail, .bool b.stopped, .int .i64 b.fences, .int .i64 b.faults.page, .int .i64 b.faults.head, .int .i64 b.faults.tail, .bool b.lost], .agg #[.int .i64 a.dev, .int .i64 a.at_, .int .i64 a.count, .bool a.wr, .slice AD nd cd]] w (DoC w k R E) := by
  subst hk; exact dma_ans xs m nm mc b A0 n0 c0 AD nd cd w hx hl a hd R E hR hE
theorem keepA {w0 W : World} {g : Nat} {a : Ask} {AD : Option Addr} {nd cd : Nat} (h : Since w0 W) (hA : AskAt w0 g a AD nd cd) : W.cell? ⟨g, 0, none⟩ = some (.int .i64 a.dev) ∧ W.cell? ⟨g, 1, none⟩ = some (.int .i64 a.at_) ∧ W.cell? ⟨g, 2, none⟩ = some (.int .i64 a.count) ∧ W.cell? ⟨g, 3, none⟩ = some (.bool a.wr) ∧ W.cell? ⟨g, 4, none⟩ = some (.slice AD nd cd) ∧ Hid (Since w0 W) := by
  obtain ⟨h0, h1, h2, h3, h4⟩ := ask_since hA h
  exact ⟨h0, h1, h2, h3, h4, h⟩
theorem since_5a {w0 W : World} {a b c d e : Prop} (h : a ∧ b ∧ c ∧ d ∧ e ∧ Hid (Since w0 W)) : Since w0 W := h.2.2.2.2.2
theorem keepF {w0 W : World} {g g7 g8 g9 : Nat} {a : Ask} {AD M1 L1 D1 T1 : Option Addr} {nd cd mc1 n1 c1 dn1 dc1 tn1 tc1 : Nat} (h : Since w0 W) (hA : AskAt w0 g a AD nd cd) (h7 : w0.cell? ⟨g7, 0, none⟩ = some (.slice M1 0 mc1)) (h8 : BrgAt w0 g8 .no L1 n1 c1) (h9 : TldAt w0 g9 .no D1 dn1 dc1 T1 tn1 tc1) : W.cell? ⟨g, 0, none⟩ = some (.int .i64 a.dev) ∧ W.cell? ⟨g, 1, none⟩ = some (.int .i64 a.at_) ∧ W.cell? ⟨g, 2, none⟩ = some (.int .i64 a.count) ∧ W.cell? ⟨g, 3, none⟩ = some (.bool a.wr) ∧ W.cell? ⟨g, 4, none⟩ = some (.slice AD nd cd) ∧ W.cell? ⟨g7, 0, none⟩ = some (.slice M1 0 mc1) ∧ W.cell? ⟨g8, 0, none⟩ = some (.int .i64 0) ∧ W.cell? ⟨g8, 1, none⟩ = some (.int .i64 0) ∧ W.cell? ⟨g8, 2, none⟩ = some (.slice L1 n1 c1) ∧ W.cell? ⟨g8, 3, none⟩ = some (.int .i64 0) ∧ W.cell? ⟨g8, 4, none⟩ = some (.int .i64 0) ∧ W.cell? ⟨g8, 5, none⟩ = some (.int .i64 0) ∧ W.cell? ⟨g8, 6, none⟩ = some (.bool false) ∧ W.cell? ⟨g8, 7, none⟩ = some (.int .i64 0) ∧ W.cell? ⟨g8, 8, none⟩ = some (.int .i64 0) ∧ W.cell? ⟨g8, 9, none⟩ = some (.int .i64 0) ∧ W.cell? ⟨g8, 10, none⟩ = some (.int .i64 0) ∧ W.cell? ⟨g8, 11, none⟩ = some (.bool false) ∧ W.cell? ⟨g9, 0, none⟩ = some (.bool false) ∧ W.cell? ⟨g9, 1, none⟩ = some (.slice D1 dn1 dc1) ∧ W.cell? ⟨g9, 2, none⟩ = some (.int .i64 0) ∧ W.cell? ⟨g9, 3, none⟩ = some (.slice T1 tn1 tc1) ∧ Hid (Since w0 W) := by
  obtain ⟨h0, h1, h2, h3, h4⟩ := ask_since hA h
  obtain ⟨b0, b1, b2, b3, b4, b5, b6, b7, b8, b9, b10, b11⟩ := brg_since h8 h
  obtain ⟨t0, t1, t2, t3⟩ := tld_since h9 h
  exact ⟨h0, h1, h2, h3, h4, since_cell h h7, b0, b1, b2, b3, b4, b5, b6, b7, b8, b9, b10, b11, t0, t1, t2, t3, h⟩
theorem since_22 {w0 W : World} {p0 p1 p2 p3 p4 p5 p6 p7 p8 p9 p10 p11 p12 p13 p14 p15 p16 p17 p18 p19 p20 p21 : Prop} (h : p0 ∧ p1 ∧ p2 ∧ p3 ∧ p4 ∧ p5 ∧ p6 ∧ p7 ∧ p8 ∧ p9 ∧ p10 ∧ p11 ∧ p12 ∧ p13 ∧ p14 ∧ p15 ∧ p16 ∧ p17 ∧ p18 ∧ p19 ∧ p20 ∧ p21 ∧ Hid (Since w0 W)) : Since w0 W := h.2.2.2.2.2.2.2.2.2.2.2.2.2.2.2.2.2.2.2.2.2.2
set_option maxRecDepth 100000 in
set_option maxHeartbeats 8000000 in
theorem dms_c (xs : List Int) (m : Option Addr) (nm mc : Nat) (b : Brg) (A0 : Option Addr) (n0 c0 : Nat) (a : Ask) (AD : Option Addr) (nd cd : Nat) (w : World) (hx : Ints w w.heap.size m nm xs) (hl : Lines w w.heap.size A0 n0 c0 b.cache) (hd : Ints w w.heap.size AD nd a.data) (hcm : cm xs ≠ 0) (hR : dmaA xs b a = ([], .no, .no)) (hE : dmaE xs b a = cm xs) :
    Calls Try.prog 6 #[.agg #[.slice m nm mc], .agg #[.int .i64 b.mode, .int .i64 b.base, .slice A0 n0 c0, .int .i64 b.orders.page, .int .i64 b.orders.head, .int .i64 b.orders.tail, .bool b.stopped, .int .i64 b.fences, .int .i64 b.faults.page, .int .i64 b.faults.head, .int .i64 b.faults.tail, .bool b.lost], .agg #[.int .i64 a.dev, .int .i64 a.at_, .int .i64 a.count, .bool a.wr, .slice AD nd cd]] w fun e w' => e = .returned (.bool true) ∧ Below w.heap.size w w' := by
  have HX := Lib.hid hx
  have HL := Lib.hid hl
  have HD := Lib.hid hd
  have HR := Lib.hid hR
  have HER := Lib.hid hE
  have HKK : (if cm xs = 0 then 512 else 0) = 0 := if_neg hcm
  have t1 : (cm xs == 0) = false := beq_eq_false_iff_ne.2 hcm
  have t2 : (cm xs != 0) = true := by rw [bne_iff_ne]; exact hcm
  clear hcm
  have HK1 := Lib.hid HKK
  clear HKK
  clear hx hl hd hR hE
  go_enter Try.func6, Try.ntmps6
  go_wp2_with fail
  refine (dma_ans_k xs m nm mc b A0 n0 c0 AD nd cd _ (ints_now HX.out (by (repeat (first | (with_reducible exact Below.refl _ _) | (with_reducible refine Below.drew ?_) | (with_reducible refine bdrewN ?_ _) | ((with_reducible refine Below.setCell ?_ ?_ _); rotate_left; exact (by first | (simp; done) | (simp; omega) | omega)) | ((with_reducible refine Below.alloc ?_ ?_ _); rotate_left; exact (by first | (simp; done) | (simp; omega) | omega)))))) (lines_now HL.out (by (repeat (first | (with_reducible exact Below.refl _ _) | (with_reducible refine Below.drew ?_) | (with_reducible refine bdrewN ?_ _) | ((with_reducible refine Below.setCell ?_ ?_ _); rotate_left; exact (by first | (simp; done) | (simp; omega) | omega)) | ((with_reducible refine Below.alloc ?_ ?_ _); rotate_left; exact (by first | (simp; done) | (simp; omega) | omega)))))) a (ints_now HD.out (by (repeat (first | (with_reducible exact Below.refl _ _) | (with_reducible refine Below.drew ?_) | (with_reducible refine bdrewN ?_ _) | ((with_reducible refine Below.setCell ?_ ?_ _); rotate_left; exact (by first | (simp; done) | (simp; omega) | omega)) | ((with_reducible refine Below.alloc ?_ ?_ _); rotate_left; exact (by first | (simp; done) | (simp; omega) | omega)))))) ([], .no, .no) (cm xs) 0 HR.out HER.out HK1.out).mono ?_
  rintro e w1 ⟨M1, mc1, L1, n1, c1, D1, dn1, dc1, T1, tn1, tc1, rfl, hM1, hL1, hD1, hT1, hb1, _, _, _, _⟩
  have HM1 := Lib.hid hM1
  have HL1 := Lib.hid hL1
  have HD1 := Lib.hid hD1
  have HT1 := Lib.hid hT1
  clear hM1 hL1 hD1 hT1
  have hz1 := hb1.size
  (try simp only [World.size_alloc, World.size_setCell, World.size_drew] at hz1)
  have k1_0 := fun o => (bcell hb1).1 (w.heap.size) o (by first | (simp; done) | (simp; omega) | omega)
  have l1_0 : (w.heap.size) < w1.heap.size := (by omega)
  have q1_0 := fun o => (bcell hb1).2 (w.heap.size) o (by first | (simp; done) | (simp; omega) | omega)
  have k1_1 := fun o => (bcell hb1).1 (w.heap.size + 1) o (by first | (simp; done) | (simp; omega) | omega)
  have l1_1 : (w.heap.size + 1) < w1.heap.size := (by omega)
  have q1_1 := fun o => (bcell hb1).2 (w.heap.size + 1) o (by first | (simp; done) | (simp; omega) | omega)
  have k1_2 := fun o => (bcell hb1).1 (w.heap.size + 1 + 1) o (by first | (simp; done) | (simp; omega) | omega)
  have l1_2 : (w.heap.size + 1 + 1) < w1.heap.size := (by omega)
  have q1_2 := fun o => (bcell hb1).2 (w.heap.size + 1 + 1) o (by first | (simp; done) | (simp; omega) | omega)
  simp (maxDischargeDepth := 6) [go_sem, *] at k1_0 q1_0 k1_1 q1_1 k1_2 q1_2
  have HB1 := Lib.hid hb1
  clear hb1
  have rw10 : w.heap.size < w1.heap.size + 1 := by omega
  have rw11 : w.heap.size < w1.heap.size + 1 + 1 := by omega
  have rw12 : w.heap.size < w1.heap.size + 2 := by omega
  have rw13 : w.heap.size < w1.heap.size + 1 + 1 + 1 := by omega
  have rw14 : w.heap.size < w1.heap.size + 3 := by omega
  have rw15 : w.heap.size ≤ w1.heap.size := by omega
  have rw16 : w.heap.size + 1 < w1.heap.size + 1 := by omega
  have rw17 : w.heap.size + 1 < w1.heap.size + 1 + 1 := by omega
  have rw18 : w.heap.size + 1 < w1.heap.size + 2 := by omega
  have rw19 : w.heap.size + 1 < w1.heap.size + 1 + 1 + 1 := by omega
  have rw110 : w.heap.size + 1 < w1.heap.size + 3 := by omega
  have rw111 : w.heap.size + 1 ≤ w1.heap.size := by omega
  have rw112 : w.heap.size + 1 + 1 < w1.heap.size + 1 := by omega
  have rw113 : w.heap.size + 1 + 1 < w1.heap.size + 1 + 1 := by omega
  have rw114 : w.heap.size + 1 + 1 < w1.heap.size + 2 := by omega
  have rw115 : w.heap.size + 1 + 1 < w1.heap.size + 1 + 1 + 1 := by omega
  have rw116 : w.heap.size + 1 + 1 < w1.heap.size + 3 := by omega
  have rw117 : w.heap.size + 1 + 1 ≤ w1.heap.size := by omega
  go_wp2_with fail
  refine (ref_CheckMem _ _ _ xs _ (ints_now HX.out (by (repeat (first | (with_reducible exact Below.refl _ _) | (with_reducible refine Below.drew ?_) | (with_reducible refine bdrewN ?_ _) | ((with_reducible refine Below.setCell ?_ ?_ _); rotate_left; exact (by first | (simp; done) | (simp; omega) | omega)) | ((with_reducible refine Below.alloc ?_ ?_ _); rotate_left; exact (by first | (simp; done) | (simp; omega) | omega)) | ((with_reducible refine Below.trans ?_ (HB1.out.mono ?_)); rotate_left; exact (by first | (simp; done) | (simp; omega) | omega))))))).mono ?_
  rintro e w2 ⟨rfl, hb2⟩
  have hz2 := hb2.size
  (try simp only [World.size_alloc, World.size_setCell, World.size_drew] at hz2)
  have k2_0 := fun o => (bcell hb2).1 (w.heap.size) o (by first | (simp; done) | (simp; omega) | omega)
  have l2_0 : (w.heap.size) < w2.heap.size := (by omega)
  have q2_0 := fun o => (bcell hb2).2 (w.heap.size) o (by first | (simp; done) | (simp; omega) | omega)
  have k2_1 := fun o => (bcell hb2).1 (w.heap.size + 1) o (by first | (simp; done) | (simp; omega) | omega)
  have l2_1 : (w.heap.size + 1) < w2.heap.size := (by omega)
  have q2_1 := fun o => (bcell hb2).2 (w.heap.size + 1) o (by first | (simp; done) | (simp; omega) | omega)
  have k2_2 := fun o => (bcell hb2).1 (w.heap.size + 1 + 1) o (by first | (simp; done) | (simp; omega) | omega)
  have l2_2 : (w.heap.size + 1 + 1) < w2.heap.size := (by omega)
  have q2_2 := fun o => (bcell hb2).2 (w.heap.size + 1 + 1) o (by first | (simp; done) | (simp; omega) | omega)
  have k2_3 := fun o => (bcell hb2).1 (w1.heap.size) o (by first | (simp; done) | (simp; omega) | omega)
  have l2_3 : (w1.heap.size) < w2.heap.size := (by omega)
  have q2_3 := fun o => (bcell hb2).2 (w1.heap.size) o (by first | (simp; done) | (simp; omega) | omega)
  have k2_4 := fun o => (bcell hb2).1 (w1.heap.size + 1) o (by first | (simp; done) | (simp; omega) | omega)
  have l2_4 : (w1.heap.size + 1) < w2.heap.size := (by omega)
  have q2_4 := fun o => (bcell hb2).2 (w1.heap.size + 1) o (by first | (simp; done) | (simp; omega) | omega)
  have k2_5 := fun o => (bcell hb2).1 (w1.heap.size + 1 + 1) o (by first | (simp; done) | (simp; omega) | omega)
  have l2_5 : (w1.heap.size + 1 + 1) < w2.heap.size := (by omega)
  have q2_5 := fun o => (bcell hb2).2 (w1.heap.size + 1 + 1) o (by first | (simp; done) | (simp; omega) | omega)
  simp (maxDischargeDepth := 6) [go_sem, *] at k2_0 q2_0 k2_1 q2_1 k2_2 q2_2 k2_3 q2_3 k2_4 q2_4 k2_5 q2_5
  have HB2 := Lib.hid hb2
  clear hb2
  clear k1_0 q1_0 l1_0 k1_1 q1_1 l1_1 k1_2 q1_2 l1_2
  have hzz : w.heap.size + 1 + 1 + 1 ≤ w2.heap.size := by omega
  have G5 : Hid (AskAt w2 (w.heap.size + 1 + 1) a AD nd cd) := by show AskAt _ _ _ _ _ _; unfold AskAt; simp (maxDischargeDepth := 8) [go_sem, *]
  have G7 : Hid (w2.cell? ⟨w1.heap.size, 0, none⟩ = some (.slice M1 0 mc1)) := by show _ = _; simp (maxDischargeDepth := 8) [go_sem, *]
  have G8 : Hid (BrgAt w2 (w1.heap.size + 1) .no L1 n1 c1) := by show BrgAt _ _ _ _ _ _; unfold BrgAt; simp (maxDischargeDepth := 8) [go_sem, *]
  have G9 : Hid (TldAt w2 (w1.heap.size + 1 + 1) .no D1 dn1 dc1 T1 tn1 tc1) := by show TldAt _ _ _ _ _ _ _ _ _; unfold TldAt; simp (maxDischargeDepth := 8) [go_sem, *]
  have HW := Lib.hid (show Below w.heap.size w w2 by (repeat (first | (with_reducible exact Below.refl _ _) | (with_reducible refine Below.drew ?_) | (with_reducible refine bdrewN ?_ _) | ((with_reducible refine Below.setCell ?_ ?_ _); rotate_left; exact (by first | (simp; done) | (simp; omega) | omega)) | ((with_reducible refine Below.alloc ?_ ?_ _); rotate_left; exact (by first | (simp; done) | (simp; omega) | omega)) | ((with_reducible refine Below.trans ?_ (HB2.out.mono ?_)); rotate_left; exact (by first | (simp; done) | (simp; omega) | omega)) | ((with_reducible refine Below.trans ?_ (HB1.out.mono ?_)); rotate_left; exact (by first | (simp; done) | (simp; omega) | omega)))))
  have HDA := Lib.hid (ints_now HD.out HW.out)
  have HLA := Lib.hid (lines_now HL1.out (show Below w1.heap.size w1 w2 by (repeat (first | (with_reducible exact Below.refl _ _) | (with_reducible refine Below.drew ?_) | (with_reducible refine bdrewN ?_ _) | ((with_reducible refine Below.setCell ?_ ?_ _); rotate_left; exact (by first | (simp; done) | (simp; omega) | omega)) | ((with_reducible refine Below.alloc ?_ ?_ _); rotate_left; exact (by first | (simp; done) | (simp; omega) | omega)) | ((with_reducible refine Below.trans ?_ (HB2.out.mono ?_)); rotate_left; exact (by first | (simp; done) | (simp; omega) | omega))))))
  have HDA1 := Lib.hid (ints_now HD1.out (show Below w1.heap.size w1 w2 by (repeat (first | (with_reducible exact Below.refl _ _) | (with_reducible refine Below.drew ?_) | (with_reducible refine bdrewN ?_ _) | ((with_reducible refine Below.setCell ?_ ?_ _); rotate_left; exact (by first | (simp; done) | (simp; omega) | omega)) | ((with_reducible refine Below.alloc ?_ ?_ _); rotate_left; exact (by first | (simp; done) | (simp; omega) | omega)) | ((with_reducible refine Below.trans ?_ (HB2.out.mono ?_)); rotate_left; exact (by first | (simp; done) | (simp; omega) | omega))))))
  have HTA1 := Lib.hid (tchs_now HT1.out (show Below w1.heap.size w1 w2 by (repeat (first | (with_reducible exact Below.refl _ _) | (with_reducible refine Below.drew ?_) | (with_reducible refine bdrewN ?_ _) | ((with_reducible refine Below.setCell ?_ ?_ _); rotate_left; exact (by first | (simp; done) | (simp; omega) | omega)) | ((with_reducible refine Below.alloc ?_ ?_ _); rotate_left; exact (by first | (simp; done) | (simp; omega) | omega)) | ((with_reducible refine Below.trans ?_ (HB2.out.mono ?_)); rotate_left; exact (by first | (simp; done) | (simp; omega) | omega))))))
  obtain ⟨wd, hwd⟩ : ∃ wd, wd = w2 := ⟨_, rfl⟩
  go_upto_region 7 with (fail)
  go_cut [46] (fun s we => s = .bool true ∧ Hid (Since w2 we))
  case first =>
    clear k2_0 q2_0 l2_0 k2_1 q2_1 l2_1 k2_2 q2_2 l2_2 k2_3 q2_3 l2_3 k2_4 q2_4 l2_4 k2_5 q2_5 l2_5
    go_region_held3 (fun W => W.cell? ⟨w.heap.size + 1 + 1, 0, none⟩ = some (.int .i64 a.dev) ∧ W.cell? ⟨w.heap.size + 1 + 1, 1, none⟩ = some (.int .i64 a.at_) ∧ W.cell? ⟨w.heap.size + 1 + 1, 2, none⟩ = some (.int .i64 a.count) ∧ W.cell? ⟨w.heap.size + 1 + 1, 3, none⟩ = some (.bool a.wr) ∧ W.cell? ⟨w.heap.size + 1 + 1, 4, none⟩ = some (.slice AD nd cd) ∧ Hid (Since w2 W)) (((with_reducible refine keepA ?_ G5.out); (repeat (first | (with_reducible assumption) | (with_reducible exact since_refl _) | (with_reducible exact since_5a (by assumption)) | (with_reducible exact since_step (by assumption) (since_5a (by assumption))) | (with_reducible refine since_drew ?_) | (with_reducible refine since_alloc ?_ _) | ((with_reducible refine since_set ?_ ?_ _); rotate_left; exact (by first | (simp; done) | (simp; omega) | omega)))); done))
      (first
        | (go_at_call 34; refine (law_carried _).mono ?_; rintro e w' ⟨rfl, hb'⟩)
        | (go_at_call 35; refine (dma_Check a AD nd cd _ ?_).mono ?_; (with_reducible exact ints_snc HDA.out (since_5a (by assumption))); rintro e w' ⟨rfl, hb'⟩)
        | (go_at_call 33; refine (ref_CheckAsk a AD nd cd _ ?_).mono ?_; (with_reducible exact ints_snc HDA.out (since_5a (by assumption))); rintro e w' ⟨rfl, hb'⟩))
    all_goals
      rename_i hHeld
      have HS := Lib.hid (since_5a hHeld)
      clear hHeld
      go_wp2
      go_meet
      exact ⟨rfl, HS.out⟩
  case rest =>
    obtain ⟨rfl, hS⟩ := hcut
    clear k2_0 q2_0 l2_0 k2_1 q2_1 l2_1 k2_2 q2_2 l2_2 k2_3 q2_3 l2_3 k2_4 q2_4 l2_4 k2_5 q2_5 l2_5
    have HSS := Lib.hid hS.out
    have G5 := Lib.hid (ask_since G5.out hS.out)
    have G7 := Lib.hid (since_cell hS.out G7.out)
    have G8 := Lib.hid (brg_since G8.out hS.out)
    have G9 := Lib.hid (tld_since G9.out hS.out)
    have HDA := Lib.hid (ints_snc HDA.out hS.out)
    have HLA := Lib.hid (lines_snc HLA.out hS.out)
    have HDA1 := Lib.hid (ints_snc HDA1.out hS.out)
    have HTA1 := Lib.hid (tchs_snc HTA1.out hS.out)
    clear hS
    go_upto_region 8 with (fail)
    go_region_held3 (fun W => W.cell? ⟨w.heap.size + 1 + 1, 0, none⟩ = some (.int .i64 a.dev) ∧ W.cell? ⟨w.heap.size + 1 + 1, 1, none⟩ = some (.int .i64 a.at_) ∧ W.cell? ⟨w.heap.size + 1 + 1, 2, none⟩ = some (.int .i64 a.count) ∧ W.cell? ⟨w.heap.size + 1 + 1, 3, none⟩ = some (.bool a.wr) ∧ W.cell? ⟨w.heap.size + 1 + 1, 4, none⟩ = some (.slice AD nd cd) ∧ W.cell? ⟨w1.heap.size, 0, none⟩ = some (.slice M1 0 mc1) ∧ W.cell? ⟨w1.heap.size + 1, 0, none⟩ = some (.int .i64 0) ∧ W.cell? ⟨w1.heap.size + 1, 1, none⟩ = some (.int .i64 0) ∧ W.cell? ⟨w1.heap.size + 1, 2, none⟩ = some (.slice L1 n1 c1) ∧ W.cell? ⟨w1.heap.size + 1, 3, none⟩ = some (.int .i64 0) ∧ W.cell? ⟨w1.heap.size + 1, 4, none⟩ = some (.int .i64 0) ∧ W.cell? ⟨w1.heap.size + 1, 5, none⟩ = some (.int .i64 0) ∧ W.cell? ⟨w1.heap.size + 1, 6, none⟩ = some (.bool false) ∧ W.cell? ⟨w1.heap.size + 1, 7, none⟩ = some (.int .i64 0) ∧ W.cell? ⟨w1.heap.size + 1, 8, none⟩ = some (.int .i64 0) ∧ W.cell? ⟨w1.heap.size + 1, 9, none⟩ = some (.int .i64 0) ∧ W.cell? ⟨w1.heap.size + 1, 10, none⟩ = some (.int .i64 0) ∧ W.cell? ⟨w1.heap.size + 1, 11, none⟩ = some (.bool false) ∧ W.cell? ⟨w1.heap.size + 1 + 1, 0, none⟩ = some (.bool false) ∧ W.cell? ⟨w1.heap.size + 1 + 1, 1, none⟩ = some (.slice D1 dn1 dc1) ∧ W.cell? ⟨w1.heap.size + 1 + 1, 2, none⟩ = some (.int .i64 0) ∧ W.cell? ⟨w1.heap.size + 1 + 1, 3, none⟩ = some (.slice T1 tn1 tc1) ∧ Hid (Since wc W)) (((with_reducible refine keepF ?_ G5.out G7.out G8.out G9.out); (repeat (first | (with_reducible assumption) | (with_reducible exact since_refl _) | (with_reducible exact since_22 (by assumption)) | (with_reducible exact since_step (by assumption) (since_22 (by assumption))) | (with_reducible refine since_drew ?_) | (with_reducible refine since_alloc ?_ _) | ((with_reducible refine since_set ?_ ?_ _); rotate_left; exact (by first | (simp; done) | (simp; omega) | omega)))); done))
      (first
        | (go_at_call 34; refine (law_carried _).mono ?_; rintro e w' ⟨rfl, hb'⟩)
        | (go_at_call 35; refine (dma_Check a AD nd cd _ ?_).mono ?_; (with_reducible exact ints_snc HDA.out (since_22 (by assumption))); rintro e w' ⟨rfl, hb'⟩)
        | (go_at_call 33; refine (ref_CheckAsk a AD nd cd _ ?_).mono ?_; (with_reducible exact ints_snc HDA.out (since_22 (by assumption))); rintro e w' ⟨rfl, hb'⟩)
        | (go_at_call 36; refine (ref_SameBridge .no .no L1 none n1 c1 0 0 _ ?_ (lines_none _ _)).mono ?_; (with_reducible exact lines_snc HLA.out (since_22 (by assumption))); rw [same_selfD]; rintro e w' ⟨rfl, hb'⟩)
        | (go_at_call 37; refine (ref_SameTold .no .no D1 none T1 none dn1 dc1 0 0 tn1 tc1 0 0 _ ?_ (ints_none _ _) ?_ (tchs_none _ _)).mono ?_; (with_reducible exact ints_snc HDA1.out (since_22 (by assumption))); (with_reducible exact tchs_snc HTA1.out (since_22 (by assumption))); rw [same_selfT]; rintro e w' ⟨rfl, hb'⟩))
    all_goals
      rename_i hHeld
      have HS := Lib.hid (since_22 hHeld)
      clear hHeld
      go_wp2
      go_ret
      exact ⟨rfl, (Below.trans HW.out (Below.mono HSS.out (Below.size HW.out))).trans (Below.mono HS.out (Nat.le_trans (Below.size HW.out) (Below.size HSS.out)))⟩
set_option maxRecDepth 100000 in
set_option maxHeartbeats 8000000 in
theorem dms_b (xs : List Int) (m : Option Addr) (nm mc : Nat) (b : Brg) (A0 : Option Addr) (n0 c0 : Nat) (a : Ask) (AD : Option Addr) (nd cd : Nat) (w : World) (hx : Ints w w.heap.size m nm xs) (hl : Lines w w.heap.size A0 n0 c0 b.cache) (hd : Ints w w.heap.size AD nd a.data) (hcm : cm xs = 0) (hb : ckB b ≠ 0) (hR : dmaA xs b a = ([], .no, .no)) (hE : dmaE xs b a = ckB b) :
    Calls Try.prog 6 #[.agg #[.slice m nm mc], .agg #[.int .i64 b.mode, .int .i64 b.base, .slice A0 n0 c0, .int .i64 b.orders.page, .int .i64 b.orders.head, .int .i64 b.orders.tail, .bool b.stopped, .int .i64 b.fences, .int .i64 b.faults.page, .int .i64 b.faults.head, .int .i64 b.faults.tail, .bool b.lost], .agg #[.int .i64 a.dev, .int .i64 a.at_, .int .i64 a.count, .bool a.wr, .slice AD nd cd]] w fun e w' => e = .returned (.bool true) ∧ Below w.heap.size w w' := by
  have HX := Lib.hid hx
  have HL := Lib.hid hl
  have HD := Lib.hid hd
  have HR := Lib.hid hR
  have HER := Lib.hid hE
  have HCM := Lib.hid hcm
  have HK1 := Lib.hid (show (if ckB b = 0 then 512 else 0) = 0 from if_neg hb)
  have t1 : (ckB b == 0) = false := beq_eq_false_iff_ne.2 hb
  have t2 : (ckB b != 0) = true := by rw [bne_iff_ne]; exact hb
  clear hcm hb
  clear hx hl hd hR hE
  go_enter Try.func6, Try.ntmps6
  go_wp2_with fail
  refine (dma_ans_k xs m nm mc b A0 n0 c0 AD nd cd _ (ints_now HX.out (by (repeat (first | (with_reducible exact Below.refl _ _) | (with_reducible refine Below.drew ?_) | (with_reducible refine bdrewN ?_ _) | ((with_reducible refine Below.setCell ?_ ?_ _); rotate_left; exact (by first | (simp; done) | (simp; omega) | omega)) | ((with_reducible refine Below.alloc ?_ ?_ _); rotate_left; exact (by first | (simp; done) | (simp; omega) | omega)))))) (lines_now HL.out (by (repeat (first | (with_reducible exact Below.refl _ _) | (with_reducible refine Below.drew ?_) | (with_reducible refine bdrewN ?_ _) | ((with_reducible refine Below.setCell ?_ ?_ _); rotate_left; exact (by first | (simp; done) | (simp; omega) | omega)) | ((with_reducible refine Below.alloc ?_ ?_ _); rotate_left; exact (by first | (simp; done) | (simp; omega) | omega)))))) a (ints_now HD.out (by (repeat (first | (with_reducible exact Below.refl _ _) | (with_reducible refine Below.drew ?_) | (with_reducible refine bdrewN ?_ _) | ((with_reducible refine Below.setCell ?_ ?_ _); rotate_left; exact (by first | (simp; done) | (simp; omega) | omega)) | ((with_reducible refine Below.alloc ?_ ?_ _); rotate_left; exact (by first | (simp; done) | (simp; omega) | omega)))))) ([], .no, .no) (ckB b) 0 HR.out HER.out HK1.out).mono ?_
  rintro e w1 ⟨M1, mc1, L1, n1, c1, D1, dn1, dc1, T1, tn1, tc1, rfl, hM1, hL1, hD1, hT1, hb1, _, _, _, _⟩
  have HM1 := Lib.hid hM1
  have HL1 := Lib.hid hL1
  have HD1 := Lib.hid hD1
  have HT1 := Lib.hid hT1
  clear hM1 hL1 hD1 hT1
  have hz1 := hb1.size
  (try simp only [World.size_alloc, World.size_setCell, World.size_drew] at hz1)
  have k1_0 := fun o => (bcell hb1).1 (w.heap.size) o (by first | (simp; done) | (simp; omega) | omega)
  have l1_0 : (w.heap.size) < w1.heap.size := (by omega)
  have q1_0 := fun o => (bcell hb1).2 (w.heap.size) o (by first | (simp; done) | (simp; omega) | omega)
  have k1_1 := fun o => (bcell hb1).1 (w.heap.size + 1) o (by first | (simp; done) | (simp; omega) | omega)
  have l1_1 : (w.heap.size + 1) < w1.heap.size := (by omega)
  have q1_1 := fun o => (bcell hb1).2 (w.heap.size + 1) o (by first | (simp; done) | (simp; omega) | omega)
  have k1_2 := fun o => (bcell hb1).1 (w.heap.size + 1 + 1) o (by first | (simp; done) | (simp; omega) | omega)
  have l1_2 : (w.heap.size + 1 + 1) < w1.heap.size := (by omega)
  have q1_2 := fun o => (bcell hb1).2 (w.heap.size + 1 + 1) o (by first | (simp; done) | (simp; omega) | omega)
  simp (maxDischargeDepth := 6) [go_sem, *] at k1_0 q1_0 k1_1 q1_1 k1_2 q1_2
  have HB1 := Lib.hid hb1
  clear hb1
  have rw10 : w.heap.size < w1.heap.size + 1 := by omega
  have rw11 : w.heap.size < w1.heap.size + 1 + 1 := by omega
  have rw12 : w.heap.size < w1.heap.size + 2 := by omega
  have rw13 : w.heap.size < w1.heap.size + 1 + 1 + 1 := by omega
  have rw14 : w.heap.size < w1.heap.size + 3 := by omega
  have rw15 : w.heap.size ≤ w1.heap.size := by omega
  have rw16 : w.heap.size + 1 < w1.heap.size + 1 := by omega
  have rw17 : w.heap.size + 1 < w1.heap.size + 1 + 1 := by omega
  have rw18 : w.heap.size + 1 < w1.heap.size + 2 := by omega
  have rw19 : w.heap.size + 1 < w1.heap.size + 1 + 1 + 1 := by omega
  have rw110 : w.heap.size + 1 < w1.heap.size + 3 := by omega
  have rw111 : w.heap.size + 1 ≤ w1.heap.size := by omega
  have rw112 : w.heap.size + 1 + 1 < w1.heap.size + 1 := by omega
  have rw113 : w.heap.size + 1 + 1 < w1.heap.size + 1 + 1 := by omega
  have rw114 : w.heap.size + 1 + 1 < w1.heap.size + 2 := by omega
  have rw115 : w.heap.size + 1 + 1 < w1.heap.size + 1 + 1 + 1 := by omega
  have rw116 : w.heap.size + 1 + 1 < w1.heap.size + 3 := by omega
  have rw117 : w.heap.size + 1 + 1 ≤ w1.heap.size := by omega
  go_wp2_with fail
  refine (ref_CheckMem _ _ _ xs _ (ints_now HX.out (by (repeat (first | (with_reducible exact Below.refl _ _) | (with_reducible refine Below.drew ?_) | (with_reducible refine bdrewN ?_ _) | ((with_reducible refine Below.setCell ?_ ?_ _); rotate_left; exact (by first | (simp; done) | (simp; omega) | omega)) | ((with_reducible refine Below.alloc ?_ ?_ _); rotate_left; exact (by first | (simp; done) | (simp; omega) | omega)) | ((with_reducible refine Below.trans ?_ (HB1.out.mono ?_)); rotate_left; exact (by first | (simp; done) | (simp; omega) | omega))))))).mono ?_
  rw [HCM.out]
  rintro e w2 ⟨rfl, hb2⟩
  have hz2 := hb2.size
  (try simp only [World.size_alloc, World.size_setCell, World.size_drew] at hz2)
  have k2_0 := fun o => (bcell hb2).1 (w.heap.size) o (by first | (simp; done) | (simp; omega) | omega)
  have l2_0 : (w.heap.size) < w2.heap.size := (by omega)
  have q2_0 := fun o => (bcell hb2).2 (w.heap.size) o (by first | (simp; done) | (simp; omega) | omega)
  have k2_1 := fun o => (bcell hb2).1 (w.heap.size + 1) o (by first | (simp; done) | (simp; omega) | omega)
  have l2_1 : (w.heap.size + 1) < w2.heap.size := (by omega)
  have q2_1 := fun o => (bcell hb2).2 (w.heap.size + 1) o (by first | (simp; done) | (simp; omega) | omega)
  have k2_2 := fun o => (bcell hb2).1 (w.heap.size + 1 + 1) o (by first | (simp; done) | (simp; omega) | omega)
  have l2_2 : (w.heap.size + 1 + 1) < w2.heap.size := (by omega)
  have q2_2 := fun o => (bcell hb2).2 (w.heap.size + 1 + 1) o (by first | (simp; done) | (simp; omega) | omega)
  have k2_3 := fun o => (bcell hb2).1 (w1.heap.size) o (by first | (simp; done) | (simp; omega) | omega)
  have l2_3 : (w1.heap.size) < w2.heap.size := (by omega)
  have q2_3 := fun o => (bcell hb2).2 (w1.heap.size) o (by first | (simp; done) | (simp; omega) | omega)
  have k2_4 := fun o => (bcell hb2).1 (w1.heap.size + 1) o (by first | (simp; done) | (simp; omega) | omega)
  have l2_4 : (w1.heap.size + 1) < w2.heap.size := (by omega)
  have q2_4 := fun o => (bcell hb2).2 (w1.heap.size + 1) o (by first | (simp; done) | (simp; omega) | omega)
  have k2_5 := fun o => (bcell hb2).1 (w1.heap.size + 1 + 1) o (by first | (simp; done) | (simp; omega) | omega)
  have l2_5 : (w1.heap.size + 1 + 1) < w2.heap.size := (by omega)
  have q2_5 := fun o => (bcell hb2).2 (w1.heap.size + 1 + 1) o (by first | (simp; done) | (simp; omega) | omega)
  simp (maxDischargeDepth := 6) [go_sem, *] at k2_0 q2_0 k2_1 q2_1 k2_2 q2_2 k2_3 q2_3 k2_4 q2_4 k2_5 q2_5
  have HB2 := Lib.hid hb2
  clear hb2
  clear k1_0 q1_0 l1_0 k1_1 q1_1 l1_1 k1_2 q1_2 l1_2
  go_wp2_with fail
  refine (ref_CheckBridge b _ _ _ _ (lines_now HL.out (by (repeat (first | (with_reducible exact Below.refl _ _) | (with_reducible refine Below.drew ?_) | (with_reducible refine bdrewN ?_ _) | ((with_reducible refine Below.setCell ?_ ?_ _); rotate_left; exact (by first | (simp; done) | (simp; omega) | omega)) | ((with_reducible refine Below.alloc ?_ ?_ _); rotate_left; exact (by first | (simp; done) | (simp; omega) | omega)) | ((with_reducible refine Below.trans ?_ (HB2.out.mono ?_)); rotate_left; exact (by first | (simp; done) | (simp; omega) | omega)) | ((with_reducible refine Below.trans ?_ (HB1.out.mono ?_)); rotate_left; exact (by first | (simp; done) | (simp; omega) | omega))))))).mono ?_
  rintro e w3 ⟨rfl, hb3⟩
  have hz3 := hb3.size
  (try simp only [World.size_alloc, World.size_setCell, World.size_drew] at hz3)
  have k3_0 := fun o => (bcell hb3).1 (w.heap.size) o (by first | (simp; done) | (simp; omega) | omega)
  have l3_0 : (w.heap.size) < w3.heap.size := (by omega)
  have q3_0 := fun o => (bcell hb3).2 (w.heap.size) o (by first | (simp; done) | (simp; omega) | omega)
  have k3_1 := fun o => (bcell hb3).1 (w.heap.size + 1) o (by first | (simp; done) | (simp; omega) | omega)
  have l3_1 : (w.heap.size + 1) < w3.heap.size := (by omega)
  have q3_1 := fun o => (bcell hb3).2 (w.heap.size + 1) o (by first | (simp; done) | (simp; omega) | omega)
  have k3_2 := fun o => (bcell hb3).1 (w.heap.size + 1 + 1) o (by first | (simp; done) | (simp; omega) | omega)
  have l3_2 : (w.heap.size + 1 + 1) < w3.heap.size := (by omega)
  have q3_2 := fun o => (bcell hb3).2 (w.heap.size + 1 + 1) o (by first | (simp; done) | (simp; omega) | omega)
  have k3_3 := fun o => (bcell hb3).1 (w1.heap.size) o (by first | (simp; done) | (simp; omega) | omega)
  have l3_3 : (w1.heap.size) < w3.heap.size := (by omega)
  have q3_3 := fun o => (bcell hb3).2 (w1.heap.size) o (by first | (simp; done) | (simp; omega) | omega)
  have k3_4 := fun o => (bcell hb3).1 (w1.heap.size + 1) o (by first | (simp; done) | (simp; omega) | omega)
  have l3_4 : (w1.heap.size + 1) < w3.heap.size := (by omega)
  have q3_4 := fun o => (bcell hb3).2 (w1.heap.size + 1) o (by first | (simp; done) | (simp; omega) | omega)
  have k3_5 := fun o => (bcell hb3).1 (w1.heap.size + 1 + 1) o (by first | (simp; done) | (simp; omega) | omega)
  have l3_5 : (w1.heap.size + 1 + 1) < w3.heap.size := (by omega)
  have q3_5 := fun o => (bcell hb3).2 (w1.heap.size + 1 + 1) o (by first | (simp; done) | (simp; omega) | omega)
  simp (maxDischargeDepth := 6) [go_sem, *] at k3_0 q3_0 k3_1 q3_1 k3_2 q3_2 k3_3 q3_3 k3_4 q3_4 k3_5 q3_5
  have HB3 := Lib.hid hb3
  clear hb3
  clear k2_0 q2_0 l2_0 k2_1 q2_1 l2_1 k2_2 q2_2 l2_2 k2_3 q2_3 l2_3 k2_4 q2_4 l2_4 k2_5 q2_5 l2_5
  have hzz : w.heap.size + 1 + 1 + 1 ≤ w3.heap.size := by omega
  have G5 : Hid (AskAt w3 (w.heap.size + 1 + 1) a AD nd cd) := by show AskAt _ _ _ _ _ _; unfold AskAt; simp (maxDischargeDepth := 8) [go_sem, *]
  have G7 : Hid (w3.cell? ⟨w1.heap.size, 0, none⟩ = some (.slice M1 0 mc1)) := by show _ = _; simp (maxDischargeDepth := 8) [go_sem, *]
  have G8 : Hid (BrgAt w3 (w1.heap.size + 1) .no L1 n1 c1) := by show BrgAt _ _ _ _ _ _; unfold BrgAt; simp (maxDischargeDepth := 8) [go_sem, *]
  have G9 : Hid (TldAt w3 (w1.heap.size + 1 + 1) .no D1 dn1 dc1 T1 tn1 tc1) := by show TldAt _ _ _ _ _ _ _ _ _; unfold TldAt; simp (maxDischargeDepth := 8) [go_sem, *]
  have HW := Lib.hid (show Below w.heap.size w w3 by (repeat (first | (with_reducible exact Below.refl _ _) | (with_reducible refine Below.drew ?_) | (with_reducible refine bdrewN ?_ _) | ((with_reducible refine Below.setCell ?_ ?_ _); rotate_left; exact (by first | (simp; done) | (simp; omega) | omega)) | ((with_reducible refine Below.alloc ?_ ?_ _); rotate_left; exact (by first | (simp; done) | (simp; omega) | omega)) | ((with_reducible refine Below.trans ?_ (HB3.out.mono ?_)); rotate_left; exact (by first | (simp; done) | (simp; omega) | omega)) | ((with_reducible refine Below.trans ?_ (HB2.out.mono ?_)); rotate_left; exact (by first | (simp; done) | (simp; omega) | omega)) | ((with_reducible refine Below.trans ?_ (HB1.out.mono ?_)); rotate_left; exact (by first | (simp; done) | (simp; omega) | omega)))))
  have HDA := Lib.hid (ints_now HD.out HW.out)
  have HLA := Lib.hid (lines_now HL1.out (show Below w1.heap.size w1 w3 by (repeat (first | (with_reducible exact Below.refl _ _) | (with_reducible refine Below.drew ?_) | (with_reducible refine bdrewN ?_ _) | ((with_reducible refine Below.setCell ?_ ?_ _); rotate_left; exact (by first | (simp; done) | (simp; omega) | omega)) | ((with_reducible refine Below.alloc ?_ ?_ _); rotate_left; exact (by first | (simp; done) | (simp; omega) | omega)) | ((with_reducible refine Below.trans ?_ (HB3.out.mono ?_)); rotate_left; exact (by first | (simp; done) | (simp; omega) | omega)) | ((with_reducible refine Below.trans ?_ (HB2.out.mono ?_)); rotate_left; exact (by first | (simp; done) | (simp; omega) | omega))))))
  have HDA1 := Lib.hid (ints_now HD1.out (show Below w1.heap.size w1 w3 by (repeat (first | (with_reducible exact Below.refl _ _) | (with_reducible refine Below.drew ?_) | (with_reducible refine bdrewN ?_ _) | ((with_reducible refine Below.setCell ?_ ?_ _); rotate_left; exact (by first | (simp; done) | (simp; omega) | omega)) | ((with_reducible refine Below.alloc ?_ ?_ _); rotate_left; exact (by first | (simp; done) | (simp; omega) | omega)) | ((with_reducible refine Below.trans ?_ (HB3.out.mono ?_)); rotate_left; exact (by first | (simp; done) | (simp; omega) | omega)) | ((with_reducible refine Below.trans ?_ (HB2.out.mono ?_)); rotate_left; exact (by first | (simp; done) | (simp; omega) | omega))))))
  have HTA1 := Lib.hid (tchs_now HT1.out (show Below w1.heap.size w1 w3 by (repeat (first | (with_reducible exact Below.refl _ _) | (with_reducible refine Below.drew ?_) | (with_reducible refine bdrewN ?_ _) | ((with_reducible refine Below.setCell ?_ ?_ _); rotate_left; exact (by first | (simp; done) | (simp; omega) | omega)) | ((with_reducible refine Below.alloc ?_ ?_ _); rotate_left; exact (by first | (simp; done) | (simp; omega) | omega)) | ((with_reducible refine Below.trans ?_ (HB3.out.mono ?_)); rotate_left; exact (by first | (simp; done) | (simp; omega) | omega)) | ((with_reducible refine Below.trans ?_ (HB2.out.mono ?_)); rotate_left; exact (by first | (simp; done) | (simp; omega) | omega))))))
  obtain ⟨wd, hwd⟩ : ∃ wd, wd = w3 := ⟨_, rfl⟩
  go_upto_region 7 with (fail)
  go_cut [46] (fun s we => s = .bool true ∧ Hid (Since w3 we))
  case first =>
    clear k3_0 q3_0 l3_0 k3_1 q3_1 l3_1 k3_2 q3_2 l3_2 k3_3 q3_3 l3_3 k3_4 q3_4 l3_4 k3_5 q3_5 l3_5
    go_region_held3 (fun W => W.cell? ⟨w.heap.size + 1 + 1, 0, none⟩ = some (.int .i64 a.dev) ∧ W.cell? ⟨w.heap.size + 1 + 1, 1, none⟩ = some (.int .i64 a.at_) ∧ W.cell? ⟨w.heap.size + 1 + 1, 2, none⟩ = some (.int .i64 a.count) ∧ W.cell? ⟨w.heap.size + 1 + 1, 3, none⟩ = some (.bool a.wr) ∧ W.cell? ⟨w.heap.size + 1 + 1, 4, none⟩ = some (.slice AD nd cd) ∧ Hid (Since w3 W)) (((with_reducible refine keepA ?_ G5.out); (repeat (first | (with_reducible assumption) | (with_reducible exact since_refl _) | (with_reducible exact since_5a (by assumption)) | (with_reducible exact since_step (by assumption) (since_5a (by assumption))) | (with_reducible refine since_drew ?_) | (with_reducible refine since_alloc ?_ _) | ((with_reducible refine since_set ?_ ?_ _); rotate_left; exact (by first | (simp; done) | (simp; omega) | omega)))); done))
      (first
        | (go_at_call 34; refine (law_carried _).mono ?_; rintro e w' ⟨rfl, hb'⟩)
        | (go_at_call 35; refine (dma_Check a AD nd cd _ ?_).mono ?_; (with_reducible exact ints_snc HDA.out (since_5a (by assumption))); rintro e w' ⟨rfl, hb'⟩)
        | (go_at_call 33; refine (ref_CheckAsk a AD nd cd _ ?_).mono ?_; (with_reducible exact ints_snc HDA.out (since_5a (by assumption))); rintro e w' ⟨rfl, hb'⟩))
    all_goals
      rename_i hHeld
      have HS := Lib.hid (since_5a hHeld)
      clear hHeld
      go_wp2
      go_meet
      exact ⟨rfl, HS.out⟩
  case rest =>
    obtain ⟨rfl, hS⟩ := hcut
    clear k3_0 q3_0 l3_0 k3_1 q3_1 l3_1 k3_2 q3_2 l3_2 k3_3 q3_3 l3_3 k3_4 q3_4 l3_4 k3_5 q3_5 l3_5
    have HSS := Lib.hid hS.out
    have G5 := Lib.hid (ask_since G5.out hS.out)
    have G7 := Lib.hid (since_cell hS.out G7.out)
    have G8 := Lib.hid (brg_since G8.out hS.out)
    have G9 := Lib.hid (tld_since G9.out hS.out)
    have HDA := Lib.hid (ints_snc HDA.out hS.out)
    have HLA := Lib.hid (lines_snc HLA.out hS.out)
    have HDA1 := Lib.hid (ints_snc HDA1.out hS.out)
    have HTA1 := Lib.hid (tchs_snc HTA1.out hS.out)
    clear hS
    go_upto_region 8 with (fail)
    go_region_held3 (fun W => W.cell? ⟨w.heap.size + 1 + 1, 0, none⟩ = some (.int .i64 a.dev) ∧ W.cell? ⟨w.heap.size + 1 + 1, 1, none⟩ = some (.int .i64 a.at_) ∧ W.cell? ⟨w.heap.size + 1 + 1, 2, none⟩ = some (.int .i64 a.count) ∧ W.cell? ⟨w.heap.size + 1 + 1, 3, none⟩ = some (.bool a.wr) ∧ W.cell? ⟨w.heap.size + 1 + 1, 4, none⟩ = some (.slice AD nd cd) ∧ W.cell? ⟨w1.heap.size, 0, none⟩ = some (.slice M1 0 mc1) ∧ W.cell? ⟨w1.heap.size + 1, 0, none⟩ = some (.int .i64 0) ∧ W.cell? ⟨w1.heap.size + 1, 1, none⟩ = some (.int .i64 0) ∧ W.cell? ⟨w1.heap.size + 1, 2, none⟩ = some (.slice L1 n1 c1) ∧ W.cell? ⟨w1.heap.size + 1, 3, none⟩ = some (.int .i64 0) ∧ W.cell? ⟨w1.heap.size + 1, 4, none⟩ = some (.int .i64 0) ∧ W.cell? ⟨w1.heap.size + 1, 5, none⟩ = some (.int .i64 0) ∧ W.cell? ⟨w1.heap.size + 1, 6, none⟩ = some (.bool false) ∧ W.cell? ⟨w1.heap.size + 1, 7, none⟩ = some (.int .i64 0) ∧ W.cell? ⟨w1.heap.size + 1, 8, none⟩ = some (.int .i64 0) ∧ W.cell? ⟨w1.heap.size + 1, 9, none⟩ = some (.int .i64 0) ∧ W.cell? ⟨w1.heap.size + 1, 10, none⟩ = some (.int .i64 0) ∧ W.cell? ⟨w1.heap.size + 1, 11, none⟩ = some (.bool false) ∧ W.cell? ⟨w1.heap.size + 1 + 1, 0, none⟩ = some (.bool false) ∧ W.cell? ⟨w1.heap.size + 1 + 1, 1, none⟩ = some (.slice D1 dn1 dc1) ∧ W.cell? ⟨w1.heap.size + 1 + 1, 2, none⟩ = some (.int .i64 0) ∧ W.cell? ⟨w1.heap.size + 1 + 1, 3, none⟩ = some (.slice T1 tn1 tc1) ∧ Hid (Since wc W)) (((with_reducible refine keepF ?_ G5.out G7.out G8.out G9.out); (repeat (first | (with_reducible assumption) | (with_reducible exact since_refl _) | (with_reducible exact since_22 (by assumption)) | (with_reducible exact since_step (by assumption) (since_22 (by assumption))) | (with_reducible refine since_drew ?_) | (with_reducible refine since_alloc ?_ _) | ((with_reducible refine since_set ?_ ?_ _); rotate_left; exact (by first | (simp; done) | (simp; omega) | omega)))); done))
      (first
        | (go_at_call 34; refine (law_carried _).mono ?_; rintro e w' ⟨rfl, hb'⟩)
        | (go_at_call 35; refine (dma_Check a AD nd cd _ ?_).mono ?_; (with_reducible exact ints_snc HDA.out (since_22 (by assumption))); rintro e w' ⟨rfl, hb'⟩)
        | (go_at_call 33; refine (ref_CheckAsk a AD nd cd _ ?_).mono ?_; (with_reducible exact ints_snc HDA.out (since_22 (by assumption))); rintro e w' ⟨rfl, hb'⟩)
        | (go_at_call 36; refine (ref_SameBridge .no .no L1 none n1 c1 0 0 _ ?_ (lines_none _ _)).mono ?_; (with_reducible exact lines_snc HLA.out (since_22 (by assumption))); rw [same_selfD]; rintro e w' ⟨rfl, hb'⟩)
        | (go_at_call 37; refine (ref_SameTold .no .no D1 none T1 none dn1 dc1 0 0 tn1 tc1 0 0 _ ?_ (ints_none _ _) ?_ (tchs_none _ _)).mono ?_; (with_reducible exact ints_snc HDA1.out (since_22 (by assumption))); (with_reducible exact tchs_snc HTA1.out (since_22 (by assumption))); rw [same_selfT]; rintro e w' ⟨rfl, hb'⟩))
    all_goals
      rename_i hHeld
      have HS := Lib.hid (since_22 hHeld)
      clear hHeld
      go_wp2
      go_ret
      exact ⟨rfl, (Below.trans HW.out (Below.mono HSS.out (Below.size HW.out))).trans (Below.mono HS.out (Nat.le_trans (Below.size HW.out) (Below.size HSS.out)))⟩
set_option maxRecDepth 100000 in
set_option maxHeartbeats 8000000 in
theorem dms_q (xs : List Int) (m : Option Addr) (nm mc : Nat) (b : Brg) (A0 : Option Addr) (n0 c0 : Nat) (a : Ask) (AD : Option Addr) (nd cd : Nat) (w : World) (hx : Ints w w.heap.size m nm xs) (hl : Lines w w.heap.size A0 n0 c0 b.cache) (hd : Ints w w.heap.size AD nd a.data) (hcm : cm xs = 0) (hb : ckB b = 0) (hq : reqE a ≠ 0) (hR : dmaA xs b a = ([], .no, .no)) (hE : dmaE xs b a = reqE a) :
    Calls Try.prog 6 #[.agg #[.slice m nm mc], .agg #[.int .i64 b.mode, .int .i64 b.base, .slice A0 n0 c0, .int .i64 b.orders.page, .int .i64 b.orders.head, .int .i64 b.orders.tail, .bool b.stopped, .int .i64 b.fences, .int .i64 b.faults.page, .int .i64 b.faults.head, .int .i64 b.faults.tail, .bool b.lost], .agg #[.int .i64 a.dev, .int .i64 a.at_, .int .i64 a.count, .bool a.wr, .slice AD nd cd]] w fun e w' => e = .returned (.bool true) ∧ Below w.heap.size w w' := by
  have HX := Lib.hid hx
  have HL := Lib.hid hl
  have HD := Lib.hid hd
  have HR := Lib.hid hR
  have HER := Lib.hid hE
  have HCM := Lib.hid hcm
  have HCB := Lib.hid hb
  have HK1 := Lib.hid (show (if reqE a = 0 then 512 else 0) = 0 from if_neg hq)
  have t1 : (reqE a == 0) = false := beq_eq_false_iff_ne.2 hq
  have t2 : (reqE a != 0) = true := by rw [bne_iff_ne]; exact hq
  clear hcm hb hq
  clear hx hl hd hR hE
  go_enter Try.func6, Try.ntmps6
  go_wp2_with fail
  refine (dma_ans_k xs m nm mc b A0 n0 c0 AD nd cd _ (ints_now HX.out (by (repeat (first | (with_reducible exact Below.refl _ _) | (with_reducible refine Below.drew ?_) | (with_reducible refine bdrewN ?_ _) | ((with_reducible refine Below.setCell ?_ ?_ _); rotate_left; exact (by first | (simp; done) | (simp; omega) | omega)) | ((with_reducible refine Below.alloc ?_ ?_ _); rotate_left; exact (by first | (simp; done) | (simp; omega) | omega)))))) (lines_now HL.out (by (repeat (first | (with_reducible exact Below.refl _ _) | (with_reducible refine Below.drew ?_) | (with_reducible refine bdrewN ?_ _) | ((with_reducible refine Below.setCell ?_ ?_ _); rotate_left; exact (by first | (simp; done) | (simp; omega) | omega)) | ((with_reducible refine Below.alloc ?_ ?_ _); rotate_left; exact (by first | (simp; done) | (simp; omega) | omega)))))) a (ints_now HD.out (by (repeat (first | (with_reducible exact Below.refl _ _) | (with_reducible refine Below.drew ?_) | (with_reducible refine bdrewN ?_ _) | ((with_reducible refine Below.setCell ?_ ?_ _); rotate_left; exact (by first | (simp; done) | (simp; omega) | omega)) | ((with_reducible refine Below.alloc ?_ ?_ _); rotate_left; exact (by first | (simp; done) | (simp; omega) | omega)))))) ([], .no, .no) (reqE a) 0 HR.out HER.out HK1.out).mono ?_
  rintro e w1 ⟨M1, mc1, L1, n1, c1, D1, dn1, dc1, T1, tn1, tc1, rfl, hM1, hL1, hD1, hT1, hb1, _, _, _, _⟩
  have HM1 := Lib.hid hM1
  have HL1 := Lib.hid hL1
  have HD1 := Lib.hid hD1
  have HT1 := Lib.hid hT1
  clear hM1 hL1 hD1 hT1
  have hz1 := hb1.size
  (try simp only [World.size_alloc, World.size_setCell, World.size_drew] at hz1)
  have k1_0 := fun o => (bcell hb1).1 (w.heap.size) o (by first | (simp; done) | (simp; omega) | omega)
  have l1_0 : (w.heap.size) < w1.heap.size := (by omega)
  have q1_0 := fun o => (bcell hb1).2 (w.heap.size) o (by first | (simp; done) | (simp; omega) | omega)
  have k1_1 := fun o => (bcell hb1).1 (w.heap.size + 1) o (by first | (simp; done) | (simp; omega) | omega)
  have l1_1 : (w.heap.size + 1) < w1.heap.size := (by omega)
  have q1_1 := fun o => (bcell hb1).2 (w.heap.size + 1) o (by first | (simp; done) | (simp; omega) | omega)
  have k1_2 := fun o => (bcell hb1).1 (w.heap.size + 1 + 1) o (by first | (simp; done) | (simp; omega) | omega)
  have l1_2 : (w.heap.size + 1 + 1) < w1.heap.size := (by omega)
  have q1_2 := fun o => (bcell hb1).2 (w.heap.size + 1 + 1) o (by first | (simp; done) | (simp; omega) | omega)
  simp (maxDischargeDepth := 6) [go_sem, *] at k1_0 q1_0 k1_1 q1_1 k1_2 q1_2
  have HB1 := Lib.hid hb1
  clear hb1
  have rw10 : w.heap.size < w1.heap.size + 1 := by omega
  have rw11 : w.heap.size < w1.heap.size + 1 + 1 := by omega
  have rw12 : w.heap.size < w1.heap.size + 2 := by omega
  have rw13 : w.heap.size < w1.heap.size + 1 + 1 + 1 := by omega
  have rw14 : w.heap.size < w1.heap.size + 3 := by omega
  have rw15 : w.heap.size ≤ w1.heap.size := by omega
  have rw16 : w.heap.size + 1 < w1.heap.size + 1 := by omega
  have rw17 : w.heap.size + 1 < w1.heap.size + 1 + 1 := by omega
  have rw18 : w.heap.size + 1 < w1.heap.size + 2 := by omega
  have rw19 : w.heap.size + 1 < w1.heap.size + 1 + 1 + 1 := by omega
  have rw110 : w.heap.size + 1 < w1.heap.size + 3 := by omega
  have rw111 : w.heap.size + 1 ≤ w1.heap.size := by omega
  have rw112 : w.heap.size + 1 + 1 < w1.heap.size + 1 := by omega
  have rw113 : w.heap.size + 1 + 1 < w1.heap.size + 1 + 1 := by omega
  have rw114 : w.heap.size + 1 + 1 < w1.heap.size + 2 := by omega
  have rw115 : w.heap.size + 1 + 1 < w1.heap.size + 1 + 1 + 1 := by omega
  have rw116 : w.heap.size + 1 + 1 < w1.heap.size + 3 := by omega
  have rw117 : w.heap.size + 1 + 1 ≤ w1.heap.size := by omega
  go_wp2_with fail
  refine (ref_CheckMem _ _ _ xs _ (ints_now HX.out (by (repeat (first | (with_reducible exact Below.refl _ _) | (with_reducible refine Below.drew ?_) | (with_reducible refine bdrewN ?_ _) | ((with_reducible refine Below.setCell ?_ ?_ _); rotate_left; exact (by first | (simp; done) | (simp; omega) | omega)) | ((with_reducible refine Below.alloc ?_ ?_ _); rotate_left; exact (by first | (simp; done) | (simp; omega) | omega)) | ((with_reducible refine Below.trans ?_ (HB1.out.mono ?_)); rotate_left; exact (by first | (simp; done) | (simp; omega) | omega))))))).mono ?_
  rw [HCM.out]
  rintro e w2 ⟨rfl, hb2⟩
  have hz2 := hb2.size
  (try simp only [World.size_alloc, World.size_setCell, World.size_drew] at hz2)
  have k2_0 := fun o => (bcell hb2).1 (w.heap.size) o (by first | (simp; done) | (simp; omega) | omega)
  have l2_0 : (w.heap.size) < w2.heap.size := (by omega)
  have q2_0 := fun o => (bcell hb2).2 (w.heap.size) o (by first | (simp; done) | (simp; omega) | omega)
  have k2_1 := fun o => (bcell hb2).1 (w.heap.size + 1) o (by first | (simp; done) | (simp; omega) | omega)
  have l2_1 : (w.heap.size + 1) < w2.heap.size := (by omega)
  have q2_1 := fun o => (bcell hb2).2 (w.heap.size + 1) o (by first | (simp; done) | (simp; omega) | omega)
  have k2_2 := fun o => (bcell hb2).1 (w.heap.size + 1 + 1) o (by first | (simp; done) | (simp; omega) | omega)
  have l2_2 : (w.heap.size + 1 + 1) < w2.heap.size := (by omega)
  have q2_2 := fun o => (bcell hb2).2 (w.heap.size + 1 + 1) o (by first | (simp; done) | (simp; omega) | omega)
  have k2_3 := fun o => (bcell hb2).1 (w1.heap.size) o (by first | (simp; done) | (simp; omega) | omega)
  have l2_3 : (w1.heap.size) < w2.heap.size := (by omega)
  have q2_3 := fun o => (bcell hb2).2 (w1.heap.size) o (by first | (simp; done) | (simp; omega) | omega)
  have k2_4 := fun o => (bcell hb2).1 (w1.heap.size + 1) o (by first | (simp; done) | (simp; omega) | omega)
  have l2_4 : (w1.heap.size + 1) < w2.heap.size := (by omega)
  have q2_4 := fun o => (bcell hb2).2 (w1.heap.size + 1) o (by first | (simp; done) | (simp; omega) | omega)
  have k2_5 := fun o => (bcell hb2).1 (w1.heap.size + 1 + 1) o (by first | (simp; done) | (simp; omega) | omega)
  have l2_5 : (w1.heap.size + 1 + 1) < w2.heap.size := (by omega)
  have q2_5 := fun o => (bcell hb2).2 (w1.heap.size + 1 + 1) o (by first | (simp; done) | (simp; omega) | omega)
  simp (maxDischargeDepth := 6) [go_sem, *] at k2_0 q2_0 k2_1 q2_1 k2_2 q2_2 k2_3 q2_3 k2_4 q2_4 k2_5 q2_5
  have HB2 := Lib.hid hb2
  clear hb2
  clear k1_0 q1_0 l1_0 k1_1 q1_1 l1_1 k1_2 q1_2 l1_2
  go_wp2_with fail
  refine (ref_CheckBridge b _ _ _ _ (lines_now HL.out (by (repeat (first | (with_reducible exact Below.refl _ _) | (with_reducible refine Below.drew ?_) | (with_reducible refine bdrewN ?_ _) | ((with_reducible refine Below.setCell ?_ ?_ _); rotate_left; exact (by first | (simp; done) | (simp; omega) | omega)) | ((with_reducible refine Below.alloc ?_ ?_ _); rotate_left; exact (by first | (simp; done) | (simp; omega) | omega)) | ((with_reducible refine Below.trans ?_ (HB2.out.mono ?_)); rotate_left; exact (by first | (simp; done) | (simp; omega) | omega)) | ((with_reducible refine Below.trans ?_ (HB1.out.mono ?_)); rotate_left; exact (by first | (simp; done) | (simp; omega) | omega))))))).mono ?_
  rw [HCB.out]
  rintro e w3 ⟨rfl, hb3⟩
  have hz3 := hb3.size
  (try simp only [World.size_alloc, World.size_setCell, World.size_drew] at hz3)
  have k3_0 := fun o => (bcell hb3).1 (w.heap.size) o (by first | (simp; done) | (simp; omega) | omega)
  have l3_0 : (w.heap.size) < w3.heap.size := (by omega)
  have q3_0 := fun o => (bcell hb3).2 (w.heap.size) o (by first | (simp; done) | (simp; omega) | omega)
  have k3_1 := fun o => (bcell hb3).1 (w.heap.size + 1) o (by first | (simp; done) | (simp; omega) | omega)
  have l3_1 : (w.heap.size + 1) < w3.heap.size := (by omega)
  have q3_1 := fun o => (bcell hb3).2 (w.heap.size + 1) o (by first | (simp; done) | (simp; omega) | omega)
  have k3_2 := fun o => (bcell hb3).1 (w.heap.size + 1 + 1) o (by first | (simp; done) | (simp; omega) | omega)
  have l3_2 : (w.heap.size + 1 + 1) < w3.heap.size := (by omega)
  have q3_2 := fun o => (bcell hb3).2 (w.heap.size + 1 + 1) o (by first | (simp; done) | (simp; omega) | omega)
  have k3_3 := fun o => (bcell hb3).1 (w1.heap.size) o (by first | (simp; done) | (simp; omega) | omega)
  have l3_3 : (w1.heap.size) < w3.heap.size := (by omega)
  have q3_3 := fun o => (bcell hb3).2 (w1.heap.size) o (by first | (simp; done) | (simp; omega) | omega)
  have k3_4 := fun o => (bcell hb3).1 (w1.heap.size + 1) o (by first | (simp; done) | (simp; omega) | omega)
  have l3_4 : (w1.heap.size + 1) < w3.heap.size := (by omega)
  have q3_4 := fun o => (bcell hb3).2 (w1.heap.size + 1) o (by first | (simp; done) | (simp; omega) | omega)
  have k3_5 := fun o => (bcell hb3).1 (w1.heap.size + 1 + 1) o (by first | (simp; done) | (simp; omega) | omega)
  have l3_5 : (w1.heap.size + 1 + 1) < w3.heap.size := (by omega)
  have q3_5 := fun o => (bcell hb3).2 (w1.heap.size + 1 + 1) o (by first | (simp; done) | (simp; omega) | omega)
  simp (maxDischargeDepth := 6) [go_sem, *] at k3_0 q3_0 k3_1 q3_1 k3_2 q3_2 k3_3 q3_3 k3_4 q3_4 k3_5 q3_5
  have HB3 := Lib.hid hb3
  clear hb3
  clear k2_0 q2_0 l2_0 k2_1 q2_1 l2_1 k2_2 q2_2 l2_2 k2_3 q2_3 l2_3 k2_4 q2_4 l2_4 k2_5 q2_5 l2_5
  go_wp2_with fail
  refine (ref_CheckAsk a AD nd cd _ (ints_now HD.out (by (repeat (first | (with_reducible exact Below.refl _ _) | (with_reducible refine Below.drew ?_) | (with_reducible refine bdrewN ?_ _) | ((with_reducible refine Below.setCell ?_ ?_ _); rotate_left; exact (by first | (simp; done) | (simp; omega) | omega)) | ((with_reducible refine Below.alloc ?_ ?_ _); rotate_left; exact (by first | (simp; done) | (simp; omega) | omega)) | ((with_reducible refine Below.trans ?_ (HB3.out.mono ?_)); rotate_left; exact (by first | (simp; done) | (simp; omega) | omega)) | ((with_reducible refine Below.trans ?_ (HB2.out.mono ?_)); rotate_left; exact (by first | (simp; done) | (simp; omega) | omega)) | ((with_reducible refine Below.trans ?_ (HB1.out.mono ?_)); rotate_left; exact (by first | (simp; done) | (simp; omega) | omega))))))).mono ?_
  rintro e w4 ⟨rfl, hb4⟩
  have hz4 := hb4.size
  (try simp only [World.size_alloc, World.size_setCell, World.size_drew] at hz4)
  have k4_0 := fun o => (bcell hb4).1 (w.heap.size) o (by first | (simp; done) | (simp; omega) | omega)
  have l4_0 : (w.heap.size) < w4.heap.size := (by omega)
  have q4_0 := fun o => (bcell hb4).2 (w.heap.size) o (by first | (simp; done) | (simp; omega) | omega)
  have k4_1 := fun o => (bcell hb4).1 (w.heap.size + 1) o (by first | (simp; done) | (simp; omega) | omega)
  have l4_1 : (w.heap.size + 1) < w4.heap.size := (by omega)
  have q4_1 := fun o => (bcell hb4).2 (w.heap.size + 1) o (by first | (simp; done) | (simp; omega) | omega)
  have k4_2 := fun o => (bcell hb4).1 (w.heap.size + 1 + 1) o (by first | (simp; done) | (simp; omega) | omega)
  have l4_2 : (w.heap.size + 1 + 1) < w4.heap.size := (by omega)
  have q4_2 := fun o => (bcell hb4).2 (w.heap.size + 1 + 1) o (by first | (simp; done) | (simp; omega) | omega)
  have k4_3 := fun o => (bcell hb4).1 (w1.heap.size) o (by first | (simp; done) | (simp; omega) | omega)
  have l4_3 : (w1.heap.size) < w4.heap.size := (by omega)
  have q4_3 := fun o => (bcell hb4).2 (w1.heap.size) o (by first | (simp; done) | (simp; omega) | omega)
  have k4_4 := fun o => (bcell hb4).1 (w1.heap.size + 1) o (by first | (simp; done) | (simp; omega) | omega)
  have l4_4 : (w1.heap.size + 1) < w4.heap.size := (by omega)
  have q4_4 := fun o => (bcell hb4).2 (w1.heap.size + 1) o (by first | (simp; done) | (simp; omega) | omega)
  have k4_5 := fun o => (bcell hb4).1 (w1.heap.size + 1 + 1) o (by first | (simp; done) | (simp; omega) | omega)
  have l4_5 : (w1.heap.size + 1 + 1) < w4.heap.size := (by omega)
  have q4_5 := fun o => (bcell hb4).2 (w1.heap.size + 1 + 1) o (by first | (simp; done) | (simp; omega) | omega)
  simp (maxDischargeDepth := 6) [go_sem, *] at k4_0 q4_0 k4_1 q4_1 k4_2 q4_2 k4_3 q4_3 k4_4 q4_4 k4_5 q4_5
  have HB4 := Lib.hid hb4
  clear hb4
  clear k3_0 q3_0 l3_0 k3_1 q3_1 l3_1 k3_2 q3_2 l3_2 k3_3 q3_3 l3_3 k3_4 q3_4 l3_4 k3_5 q3_5 l3_5
  have hzz : w.heap.size + 1 + 1 + 1 ≤ w4.heap.size := by omega
  have G5 : Hid (AskAt w4 (w.heap.size + 1 + 1) a AD nd cd) := by show AskAt _ _ _ _ _ _; unfold AskAt; simp (maxDischargeDepth := 8) [go_sem, *]
  have G7 : Hid (w4.cell? ⟨w1.heap.size, 0, none⟩ = some (.slice M1 0 mc1)) := by show _ = _; simp (maxDischargeDepth := 8) [go_sem, *]
  have G8 : Hid (BrgAt w4 (w1.heap.size + 1) .no L1 n1 c1) := by show BrgAt _ _ _ _ _ _; unfold BrgAt; simp (maxDischargeDepth := 8) [go_sem, *]
  have G9 : Hid (TldAt w4 (w1.heap.size + 1 + 1) .no D1 dn1 dc1 T1 tn1 tc1) := by show TldAt _ _ _ _ _ _ _ _ _; unfold TldAt; simp (maxDischargeDepth := 8) [go_sem, *]
  have HW := Lib.hid (show Below w.heap.size w w4 by (repeat (first | (with_reducible exact Below.refl _ _) | (with_reducible refine Below.drew ?_) | (with_reducible refine bdrewN ?_ _) | ((with_reducible refine Below.setCell ?_ ?_ _); rotate_left; exact (by first | (simp; done) | (simp; omega) | omega)) | ((with_reducible refine Below.alloc ?_ ?_ _); rotate_left; exact (by first | (simp; done) | (simp; omega) | omega)) | ((with_reducible refine Below.trans ?_ (HB4.out.mono ?_)); rotate_left; exact (by first | (simp; done) | (simp; omega) | omega)) | ((with_reducible refine Below.trans ?_ (HB3.out.mono ?_)); rotate_left; exact (by first | (simp; done) | (simp; omega) | omega)) | ((with_reducible refine Below.trans ?_ (HB2.out.mono ?_)); rotate_left; exact (by first | (simp; done) | (simp; omega) | omega)) | ((with_reducible refine Below.trans ?_ (HB1.out.mono ?_)); rotate_left; exact (by first | (simp; done) | (simp; omega) | omega)))))
  have HDA := Lib.hid (ints_now HD.out HW.out)
  have HLA := Lib.hid (lines_now HL1.out (show Below w1.heap.size w1 w4 by (repeat (first | (with_reducible exact Below.refl _ _) | (with_reducible refine Below.drew ?_) | (with_reducible refine bdrewN ?_ _) | ((with_reducible refine Below.setCell ?_ ?_ _); rotate_left; exact (by first | (simp; done) | (simp; omega) | omega)) | ((with_reducible refine Below.alloc ?_ ?_ _); rotate_left; exact (by first | (simp; done) | (simp; omega) | omega)) | ((with_reducible refine Below.trans ?_ (HB4.out.mono ?_)); rotate_left; exact (by first | (simp; done) | (simp; omega) | omega)) | ((with_reducible refine Below.trans ?_ (HB3.out.mono ?_)); rotate_left; exact (by first | (simp; done) | (simp; omega) | omega)) | ((with_reducible refine Below.trans ?_ (HB2.out.mono ?_)); rotate_left; exact (by first | (simp; done) | (simp; omega) | omega))))))
  have HDA1 := Lib.hid (ints_now HD1.out (show Below w1.heap.size w1 w4 by (repeat (first | (with_reducible exact Below.refl _ _) | (with_reducible refine Below.drew ?_) | (with_reducible refine bdrewN ?_ _) | ((with_reducible refine Below.setCell ?_ ?_ _); rotate_left; exact (by first | (simp; done) | (simp; omega) | omega)) | ((with_reducible refine Below.alloc ?_ ?_ _); rotate_left; exact (by first | (simp; done) | (simp; omega) | omega)) | ((with_reducible refine Below.trans ?_ (HB4.out.mono ?_)); rotate_left; exact (by first | (simp; done) | (simp; omega) | omega)) | ((with_reducible refine Below.trans ?_ (HB3.out.mono ?_)); rotate_left; exact (by first | (simp; done) | (simp; omega) | omega)) | ((with_reducible refine Below.trans ?_ (HB2.out.mono ?_)); rotate_left; exact (by first | (simp; done) | (simp; omega) | omega))))))
  have HTA1 := Lib.hid (tchs_now HT1.out (show Below w1.heap.size w1 w4 by (repeat (first | (with_reducible exact Below.refl _ _) | (with_reducible refine Below.drew ?_) | (with_reducible refine bdrewN ?_ _) | ((with_reducible refine Below.setCell ?_ ?_ _); rotate_left; exact (by first | (simp; done) | (simp; omega) | omega)) | ((with_reducible refine Below.alloc ?_ ?_ _); rotate_left; exact (by first | (simp; done) | (simp; omega) | omega)) | ((with_reducible refine Below.trans ?_ (HB4.out.mono ?_)); rotate_left; exact (by first | (simp; done) | (simp; omega) | omega)) | ((with_reducible refine Below.trans ?_ (HB3.out.mono ?_)); rotate_left; exact (by first | (simp; done) | (simp; omega) | omega)) | ((with_reducible refine Below.trans ?_ (HB2.out.mono ?_)); rotate_left; exact (by first | (simp; done) | (simp; omega) | omega))))))
  obtain ⟨wd, hwd⟩ : ∃ wd, wd = w4 := ⟨_, rfl⟩
  go_upto_region 7 with (fail)
  go_cut [46] (fun s we => s = .bool true ∧ Hid (Since w4 we))
  case first =>
    clear k4_0 q4_0 l4_0 k4_1 q4_1 l4_1 k4_2 q4_2 l4_2 k4_3 q4_3 l4_3 k4_4 q4_4 l4_4 k4_5 q4_5 l4_5
    go_region_held3 (fun W => W.cell? ⟨w.heap.size + 1 + 1, 0, none⟩ = some (.int .i64 a.dev) ∧ W.cell? ⟨w.heap.size + 1 + 1, 1, none⟩ = some (.int .i64 a.at_) ∧ W.cell? ⟨w.heap.size + 1 + 1, 2, none⟩ = some (.int .i64 a.count) ∧ W.cell? ⟨w.heap.size + 1 + 1, 3, none⟩ = some (.bool a.wr) ∧ W.cell? ⟨w.heap.size + 1 + 1, 4, none⟩ = some (.slice AD nd cd) ∧ Hid (Since w4 W)) (((with_reducible refine keepA ?_ G5.out); (repeat (first | (with_reducible assumption) | (with_reducible exact since_refl _) | (with_reducible exact since_5a (by assumption)) | (with_reducible exact since_step (by assumption) (since_5a (by assumption))) | (with_reducible refine since_drew ?_) | (with_reducible refine since_alloc ?_ _) | ((with_reducible refine since_set ?_ ?_ _); rotate_left; exact (by first | (simp; done) | (simp; omega) | omega)))); done))
      (first
        | (go_at_call 34; refine (law_carried _).mono ?_; rintro e w' ⟨rfl, hb'⟩)
        | (go_at_call 35; refine (dma_Check a AD nd cd _ ?_).mono ?_; (with_reducible exact ints_snc HDA.out (since_5a (by assumption))); rintro e w' ⟨rfl, hb'⟩)
        | (go_at_call 33; refine (ref_CheckAsk a AD nd cd _ ?_).mono ?_; (with_reducible exact ints_snc HDA.out (since_5a (by assumption))); rintro e w' ⟨rfl, hb'⟩))
    all_goals
      rename_i hHeld
      have HS := Lib.hid (since_5a hHeld)
      clear hHeld
      go_wp2
      go_meet
      exact ⟨rfl, HS.out⟩
  case rest =>
    obtain ⟨rfl, hS⟩ := hcut
    clear k4_0 q4_0 l4_0 k4_1 q4_1 l4_1 k4_2 q4_2 l4_2 k4_3 q4_3 l4_3 k4_4 q4_4 l4_4 k4_5 q4_5 l4_5
    have HSS := Lib.hid hS.out
    have G5 := Lib.hid (ask_since G5.out hS.out)
    have G7 := Lib.hid (since_cell hS.out G7.out)
    have G8 := Lib.hid (brg_since G8.out hS.out)
    have G9 := Lib.hid (tld_since G9.out hS.out)
    have HDA := Lib.hid (ints_snc HDA.out hS.out)
    have HLA := Lib.hid (lines_snc HLA.out hS.out)
    have HDA1 := Lib.hid (ints_snc HDA1.out hS.out)
    have HTA1 := Lib.hid (tchs_snc HTA1.out hS.out)
    clear hS
    go_upto_region 8 with (fail)
    go_region_held3 (fun W => W.cell? ⟨w.heap.size + 1 + 1, 0, none⟩ = some (.int .i64 a.dev) ∧ W.cell? ⟨w.heap.size + 1 + 1, 1, none⟩ = some (.int .i64 a.at_) ∧ W.cell? ⟨w.heap.size + 1 + 1, 2, none⟩ = some (.int .i64 a.count) ∧ W.cell? ⟨w.heap.size + 1 + 1, 3, none⟩ = some (.bool a.wr) ∧ W.cell? ⟨w.heap.size + 1 + 1, 4, none⟩ = some (.slice AD nd cd) ∧ W.cell? ⟨w1.heap.size, 0, none⟩ = some (.slice M1 0 mc1) ∧ W.cell? ⟨w1.heap.size + 1, 0, none⟩ = some (.int .i64 0) ∧ W.cell? ⟨w1.heap.size + 1, 1, none⟩ = some (.int .i64 0) ∧ W.cell? ⟨w1.heap.size + 1, 2, none⟩ = some (.slice L1 n1 c1) ∧ W.cell? ⟨w1.heap.size + 1, 3, none⟩ = some (.int .i64 0) ∧ W.cell? ⟨w1.heap.size + 1, 4, none⟩ = some (.int .i64 0) ∧ W.cell? ⟨w1.heap.size + 1, 5, none⟩ = some (.int .i64 0) ∧ W.cell? ⟨w1.heap.size + 1, 6, none⟩ = some (.bool false) ∧ W.cell? ⟨w1.heap.size + 1, 7, none⟩ = some (.int .i64 0) ∧ W.cell? ⟨w1.heap.size + 1, 8, none⟩ = some (.int .i64 0) ∧ W.cell? ⟨w1.heap.size + 1, 9, none⟩ = some (.int .i64 0) ∧ W.cell? ⟨w1.heap.size + 1, 10, none⟩ = some (.int .i64 0) ∧ W.cell? ⟨w1.heap.size + 1, 11, none⟩ = some (.bool false) ∧ W.cell? ⟨w1.heap.size + 1 + 1, 0, none⟩ = some (.bool false) ∧ W.cell? ⟨w1.heap.size + 1 + 1, 1, none⟩ = some (.slice D1 dn1 dc1) ∧ W.cell? ⟨w1.heap.size + 1 + 1, 2, none⟩ = some (.int .i64 0) ∧ W.cell? ⟨w1.heap.size + 1 + 1, 3, none⟩ = some (.slice T1 tn1 tc1) ∧ Hid (Since wc W)) (((with_reducible refine keepF ?_ G5.out G7.out G8.out G9.out); (repeat (first | (with_reducible assumption) | (with_reducible exact since_refl _) | (with_reducible exact since_22 (by assumption)) | (with_reducible exact since_step (by assumption) (since_22 (by assumption))) | (with_reducible refine since_drew ?_) | (with_reducible refine since_alloc ?_ _) | ((with_reducible refine since_set ?_ ?_ _); rotate_left; exact (by first | (simp; done) | (simp; omega) | omega)))); done))
      (first
        | (go_at_call 34; refine (law_carried _).mono ?_; rintro e w' ⟨rfl, hb'⟩)
        | (go_at_call 35; refine (dma_Check a AD nd cd _ ?_).mono ?_; (with_reducible exact ints_snc HDA.out (since_22 (by assumption))); rintro e w' ⟨rfl, hb'⟩)
        | (go_at_call 33; refine (ref_CheckAsk a AD nd cd _ ?_).mono ?_; (with_reducible exact ints_snc HDA.out (since_22 (by assumption))); rintro e w' ⟨rfl, hb'⟩)
        | (go_at_call 36; refine (ref_SameBridge .no .no L1 none n1 c1 0 0 _ ?_ (lines_none _ _)).mono ?_; (with_reducible exact lines_snc HLA.out (since_22 (by assumption))); rw [same_selfD]; rintro e w' ⟨rfl, hb'⟩)
        | (go_at_call 37; refine (ref_SameTold .no .no D1 none T1 none dn1 dc1 0 0 tn1 tc1 0 0 _ ?_ (ints_none _ _) ?_ (tchs_none _ _)).mono ?_; (with_reducible exact ints_snc HDA1.out (since_22 (by assumption))); (with_reducible exact tchs_snc HTA1.out (since_22 (by assumption))); rw [same_selfT]; rintro e w' ⟨rfl, hb'⟩))
    all_goals
      rename_i hHeld
      have HS := Lib.hid (since_22 hHeld)
      clear hHeld
      go_wp2
      go_ret
      exact ⟨rfl, (Below.trans HW.out (Below.mono HSS.out (Below.size HW.out))).trans (Below.mono HS.out (Nat.le_trans (Below.size HW.out) (Below.size HSS.out)))⟩
set_option maxRecDepth 100000 in
set_option maxHeartbeats 8000000 in
theorem dms_ok (xs : List Int) (m : Option Addr) (mc : Nat) (b : Brg) (A0 : Option Addr) (n0 c0 : Nat) (a : Ask) (AD : Option Addr) (nd cd : Nat) (w : World) (hx : Ints w w.heap.size m 512 xs) (hl : Lines w w.heap.size A0 n0 c0 b.cache) (hd : Ints w w.heap.size AD nd a.data) (hcm : cm xs = 0) (hb : ckB b = 0) (hq : reqE a = 0) (ys : List Int) (bb : Brg) (tt : Tld) (hRM : dmaM xs b a = (ys, bb, tt)) (hR : dmaA xs b a = (ys, bb, tt)) (hE : dmaE xs b a = 0) :
    Calls Try.prog 6 #[.agg #[.slice m 512 mc], .agg #[.int .i64 b.mode, .int .i64 b.base, .slice A0 n0 c0, .int .i64 b.orders.page, .int .i64 b.orders.head, .int .i64 b.orders.tail, .bool b.stopped, .int .i64 b.fences, .int .i64 b.faults.page, .int .i64 b.faults.head, .int .i64 b.faults.tail, .bool b.lost], .agg #[.int .i64 a.dev, .int .i64 a.at_, .int .i64 a.count, .bool a.wr, .slice AD nd cd]] w fun e w' => e = .returned (.bool true) ∧ Below w.heap.size w w' := by
  have HX := Lib.hid hx
  have HL := Lib.hid hl
  have HD := Lib.hid hd
  have HR := Lib.hid hR
  have HER := Lib.hid hE
  have HCM := Lib.hid hcm
  have HCB := Lib.hid hb
  have HQ := Lib.hid hq
  have HRM := Lib.hid hRM
  clear hcm hb hq hRM
  clear hx hl hd hR hE
  go_enter Try.func6, Try.ntmps6
  go_wp2_with fail
  refine (dma_ans_k xs m 512 mc b A0 n0 c0 AD nd cd _ (ints_now HX.out (by (repeat (first | (with_reducible exact Below.refl _ _) | (with_reducible refine Below.drew ?_) | (with_reducible refine bdrewN ?_ _) | ((with_reducible refine Below.setCell ?_ ?_ _); rotate_left; exact (by first | (simp; done) | (simp; omega) | omega)) | ((with_reducible refine Below.alloc ?_ ?_ _); rotate_left; exact (by first | (simp; done) | (simp; omega) | omega)))))) (lines_now HL.out (by (repeat (first | (with_reducible exact Below.refl _ _) | (with_reducible refine Below.drew ?_) | (with_reducible refine bdrewN ?_ _) | ((with_reducible refine Below.setCell ?_ ?_ _); rotate_left; exact (by first | (simp; done) | (simp; omega) | omega)) | ((with_reducible refine Below.alloc ?_ ?_ _); rotate_left; exact (by first | (simp; done) | (simp; omega) | omega)))))) a (ints_now HD.out (by (repeat (first | (with_reducible exact Below.refl _ _) | (with_reducible refine Below.drew ?_) | (with_reducible refine bdrewN ?_ _) | ((with_reducible refine Below.setCell ?_ ?_ _); rotate_left; exact (by first | (simp; done) | (simp; omega) | omega)) | ((with_reducible refine Below.alloc ?_ ?_ _); rotate_left; exact (by first | (simp; done) | (simp; omega) | omega)))))) (ys, bb, tt) 0 512 HR.out HER.out rfl).mono ?_
  rintro e w1 ⟨M1, mc1, L1, n1, c1, D1, dn1, dc1, T1, tn1, tc1, rfl, hM1, hL1, hD1, hT1, hb1, _, _, _, _⟩
  have HM1 := Lib.hid hM1
  have HL1 := Lib.hid hL1
  have HD1 := Lib.hid hD1
  have HT1 := Lib.hid hT1
  clear hM1 hL1 hD1 hT1
  have hz1 := hb1.size
  (try simp only [World.size_alloc, World.size_setCell, World.size_drew] at hz1)
  have k1_0 := fun o => (bcell hb1).1 (w.heap.size) o (by first | (simp; done) | (simp; omega) | omega)
  have l1_0 : (w.heap.size) < w1.heap.size := (by omega)
  have q1_0 := fun o => (bcell hb1).2 (w.heap.size) o (by first | (simp; done) | (simp; omega) | omega)
  have k1_1 := fun o => (bcell hb1).1 (w.heap.size + 1) o (by first | (simp; done) | (simp; omega) | omega)
  have l1_1 : (w.heap.size + 1) < w1.heap.size := (by omega)
  have q1_1 := fun o => (bcell hb1).2 (w.heap.size + 1) o (by first | (simp; done) | (simp; omega) | omega)
  have k1_2 := fun o => (bcell hb1).1 (w.heap.size + 1 + 1) o (by first | (simp; done) | (simp; omega) | omega)
  have l1_2 : (w.heap.size + 1 + 1) < w1.heap.size := (by omega)
  have q1_2 := fun o => (bcell hb1).2 (w.heap.size + 1 + 1) o (by first | (simp; done) | (simp; omega) | omega)
  simp (maxDischargeDepth := 6) [go_sem, *] at k1_0 q1_0 k1_1 q1_1 k1_2 q1_2
  have HB1 := Lib.hid hb1
  clear hb1
  have rw10 : w.heap.size < w1.heap.size + 1 := by omega
  have rw11 : w.heap.size < w1.heap.size + 1 + 1 := by omega
  have rw12 : w.heap.size < w1.heap.size + 2 := by omega
  have rw13 : w.heap.size < w1.heap.size + 1 + 1 + 1 := by omega
  have rw14 : w.heap.size < w1.heap.size + 3 := by omega
  have rw15 : w.heap.size ≤ w1.heap.size := by omega
  have rw16 : w.heap.size + 1 < w1.heap.size + 1 := by omega
  have rw17 : w.heap.size + 1 < w1.heap.size + 1 + 1 := by omega
  have rw18 : w.heap.size + 1 < w1.heap.size + 2 := by omega
  have rw19 : w.heap.size + 1 < w1.heap.size + 1 + 1 + 1 := by omega
  have rw110 : w.heap.size + 1 < w1.heap.size + 3 := by omega
  have rw111 : w.heap.size + 1 ≤ w1.heap.size := by omega
  have rw112 : w.heap.size + 1 + 1 < w1.heap.size + 1 := by omega
  have rw113 : w.heap.size + 1 + 1 < w1.heap.size + 1 + 1 := by omega
  have rw114 : w.heap.size + 1 + 1 < w1.heap.size + 2 := by omega
  have rw115 : w.heap.size + 1 + 1 < w1.heap.size + 1 + 1 + 1 := by omega
  have rw116 : w.heap.size + 1 + 1 < w1.heap.size + 3 := by omega
  have rw117 : w.heap.size + 1 + 1 ≤ w1.heap.size := by omega
  go_wp2_with fail
  refine (ref_CheckMem _ _ _ xs _ (ints_now HX.out (by (repeat (first | (with_reducible exact Below.refl _ _) | (with_reducible refine Below.drew ?_) | (with_reducible refine bdrewN ?_ _) | ((with_reducible refine Below.setCell ?_ ?_ _); rotate_left; exact (by first | (simp; done) | (simp; omega) | omega)) | ((with_reducible refine Below.alloc ?_ ?_ _); rotate_left; exact (by first | (simp; done) | (simp; omega) | omega)) | ((with_reducible refine Below.trans ?_ (HB1.out.mono ?_)); rotate_left; exact (by first | (simp; done) | (simp; omega) | omega))))))).mono ?_
  rw [HCM.out]
  rintro e w2 ⟨rfl, hb2⟩
  have hz2 := hb2.size
  (try simp only [World.size_alloc, World.size_setCell, World.size_drew] at hz2)
  have k2_0 := fun o => (bcell hb2).1 (w.heap.size) o (by first | (simp; done) | (simp; omega) | omega)
  have l2_0 : (w.heap.size) < w2.heap.size := (by omega)
  have q2_0 := fun o => (bcell hb2).2 (w.heap.size) o (by first | (simp; done) | (simp; omega) | omega)
  have k2_1 := fun o => (bcell hb2).1 (w.heap.size + 1) o (by first | (simp; done) | (simp; omega) | omega)
  have l2_1 : (w.heap.size + 1) < w2.heap.size := (by omega)
  have q2_1 := fun o => (bcell hb2).2 (w.heap.size + 1) o (by first | (simp; done) | (simp; omega) | omega)
  have k2_2 := fun o => (bcell hb2).1 (w.heap.size + 1 + 1) o (by first | (simp; done) | (simp; omega) | omega)
  have l2_2 : (w.heap.size + 1 + 1) < w2.heap.size := (by omega)
  have q2_2 := fun o => (bcell hb2).2 (w.heap.size + 1 + 1) o (by first | (simp; done) | (simp; omega) | omega)
  have k2_3 := fun o => (bcell hb2).1 (w1.heap.size) o (by first | (simp; done) | (simp; omega) | omega)
  have l2_3 : (w1.heap.size) < w2.heap.size := (by omega)
  have q2_3 := fun o => (bcell hb2).2 (w1.heap.size) o (by first | (simp; done) | (simp; omega) | omega)
  have k2_4 := fun o => (bcell hb2).1 (w1.heap.size + 1) o (by first | (simp; done) | (simp; omega) | omega)
  have l2_4 : (w1.heap.size + 1) < w2.heap.size := (by omega)
  have q2_4 := fun o => (bcell hb2).2 (w1.heap.size + 1) o (by first | (simp; done) | (simp; omega) | omega)
  have k2_5 := fun o => (bcell hb2).1 (w1.heap.size + 1 + 1) o (by first | (simp; done) | (simp; omega) | omega)
  have l2_5 : (w1.heap.size + 1 + 1) < w2.heap.size := (by omega)
  have q2_5 := fun o => (bcell hb2).2 (w1.heap.size + 1 + 1) o (by first | (simp; done) | (simp; omega) | omega)
  simp (maxDischargeDepth := 6) [go_sem, *] at k2_0 q2_0 k2_1 q2_1 k2_2 q2_2 k2_3 q2_3 k2_4 q2_4 k2_5 q2_5
  have HB2 := Lib.hid hb2
  clear hb2
  clear k1_0 q1_0 l1_0 k1_1 q1_1 l1_1 k1_2 q1_2 l1_2
  go_wp2_with fail
  refine (ref_CheckBridge b _ _ _ _ (lines_now HL.out (by (repeat (first | (with_reducible exact Below.refl _ _) | (with_reducible refine Below.drew ?_) | (with_reducible refine bdrewN ?_ _) | ((with_reducible refine Below.setCell ?_ ?_ _); rotate_left; exact (by first | (simp; done) | (simp; omega) | omega)) | ((with_reducible refine Below.alloc ?_ ?_ _); rotate_left; exact (by first | (simp; done) | (simp; omega) | omega)) | ((with_reducible refine Below.trans ?_ (HB2.out.mono ?_)); rotate_left; exact (by first | (simp; done) | (simp; omega) | omega)) | ((with_reducible refine Below.trans ?_ (HB1.out.mono ?_)); rotate_left; exact (by first | (simp; done) | (simp; omega) | omega))))))).mono ?_
  rw [HCB.out]
  rintro e w3 ⟨rfl, hb3⟩
  have hz3 := hb3.size
  (try simp only [World.size_alloc, World.size_setCell, World.size_drew] at hz3)
  have k3_0 := fun o => (bcell hb3).1 (w.heap.size) o (by first | (simp; done) | (simp; omega) | omega)
  have l3_0 : (w.heap.size) < w3.heap.size := (by omega)
  have q3_0 := fun o => (bcell hb3).2 (w.heap.size) o (by first | (simp; done) | (simp; omega) | omega)
  have k3_1 := fun o => (bcell hb3).1 (w.heap.size + 1) o (by first | (simp; done) | (simp; omega) | omega)
  have l3_1 : (w.heap.size + 1) < w3.heap.size := (by omega)
  have q3_1 := fun o => (bcell hb3).2 (w.heap.size + 1) o (by first | (simp; done) | (simp; omega) | omega)
  have k3_2 := fun o => (bcell hb3).1 (w.heap.size + 1 + 1) o (by first | (simp; done) | (simp; omega) | omega)
  have l3_2 : (w.heap.size + 1 + 1) < w3.heap.size := (by omega)
  have q3_2 := fun o => (bcell hb3).2 (w.heap.size + 1 + 1) o (by first | (simp; done) | (simp; omega) | omega)
  have k3_3 := fun o => (bcell hb3).1 (w1.heap.size) o (by first | (simp; done) | (simp; omega) | omega)
  have l3_3 : (w1.heap.size) < w3.heap.size := (by omega)
  have q3_3 := fun o => (bcell hb3).2 (w1.heap.size) o (by first | (simp; done) | (simp; omega) | omega)
  have k3_4 := fun o => (bcell hb3).1 (w1.heap.size + 1) o (by first | (simp; done) | (simp; omega) | omega)
  have l3_4 : (w1.heap.size + 1) < w3.heap.size := (by omega)
  have q3_4 := fun o => (bcell hb3).2 (w1.heap.size + 1) o (by first | (simp; done) | (simp; omega) | omega)
  have k3_5 := fun o => (bcell hb3).1 (w1.heap.size + 1 + 1) o (by first | (simp; done) | (simp; omega) | omega)
  have l3_5 : (w1.heap.size + 1 + 1) < w3.heap.size := (by omega)
  have q3_5 := fun o => (bcell hb3).2 (w1.heap.size + 1 + 1) o (by first | (simp; done) | (simp; omega) | omega)
  simp (maxDischargeDepth := 6) [go_sem, *] at k3_0 q3_0 k3_1 q3_1 k3_2 q3_2 k3_3 q3_3 k3_4 q3_4 k3_5 q3_5
  have HB3 := Lib.hid hb3
  clear hb3
  clear k2_0 q2_0 l2_0 k2_1 q2_1 l2_1 k2_2 q2_2 l2_2 k2_3 q2_3 l2_3 k2_4 q2_4 l2_4 k2_5 q2_5 l2_5
  go_wp2_with fail
  refine (ref_CheckAsk a AD nd cd _ (ints_now HD.out (by (repeat (first | (with_reducible exact Below.refl _ _) | (with_reducible refine Below.drew ?_) | (with_reducible refine bdrewN ?_ _) | ((with_reducible refine Below.setCell ?_ ?_ _); rotate_left; exact (by first | (simp; done) | (simp; omega) | omega)) | ((with_reducible refine Below.alloc ?_ ?_ _); rotate_left; exact (by first | (simp; done) | (simp; omega) | omega)) | ((with_reducible refine Below.trans ?_ (HB3.out.mono ?_)); rotate_left; exact (by first | (simp; done) | (simp; omega) | omega)) | ((with_reducible refine Below.trans ?_ (HB2.out.mono ?_)); rotate_left; exact (by first | (simp; done) | (simp; omega) | omega)) | ((with_reducible refine Below.trans ?_ (HB1.out.mono ?_)); rotate_left; exact (by first | (simp; done) | (simp; omega) | omega))))))).mono ?_
  rw [HQ.out]
  rintro e w4 ⟨rfl, hb4⟩
  have hz4 := hb4.size
  (try simp only [World.size_alloc, World.size_setCell, World.size_drew] at hz4)
  have k4_0 := fun o => (bcell hb4).1 (w.heap.size) o (by first | (simp; done) | (simp; omega) | omega)
  have l4_0 : (w.heap.size) < w4.heap.size := (by omega)
  have q4_0 := fun o => (bcell hb4).2 (w.heap.size) o (by first | (simp; done) | (simp; omega) | omega)
  have k4_1 := fun o => (bcell hb4).1 (w.heap.size + 1) o (by first | (simp; done) | (simp; omega) | omega)
  have l4_1 : (w.heap.size + 1) < w4.heap.size := (by omega)
  have q4_1 := fun o => (bcell hb4).2 (w.heap.size + 1) o (by first | (simp; done) | (simp; omega) | omega)
  have k4_2 := fun o => (bcell hb4).1 (w.heap.size + 1 + 1) o (by first | (simp; done) | (simp; omega) | omega)
  have l4_2 : (w.heap.size + 1 + 1) < w4.heap.size := (by omega)
  have q4_2 := fun o => (bcell hb4).2 (w.heap.size + 1 + 1) o (by first | (simp; done) | (simp; omega) | omega)
  have k4_3 := fun o => (bcell hb4).1 (w1.heap.size) o (by first | (simp; done) | (simp; omega) | omega)
  have l4_3 : (w1.heap.size) < w4.heap.size := (by omega)
  have q4_3 := fun o => (bcell hb4).2 (w1.heap.size) o (by first | (simp; done) | (simp; omega) | omega)
  have k4_4 := fun o => (bcell hb4).1 (w1.heap.size + 1) o (by first | (simp; done) | (simp; omega) | omega)
  have l4_4 : (w1.heap.size + 1) < w4.heap.size := (by omega)
  have q4_4 := fun o => (bcell hb4).2 (w1.heap.size + 1) o (by first | (simp; done) | (simp; omega) | omega)
  have k4_5 := fun o => (bcell hb4).1 (w1.heap.size + 1 + 1) o (by first | (simp; done) | (simp; omega) | omega)
  have l4_5 : (w1.heap.size + 1 + 1) < w4.heap.size := (by omega)
  have q4_5 := fun o => (bcell hb4).2 (w1.heap.size + 1 + 1) o (by first | (simp; done) | (simp; omega) | omega)
  simp (maxDischargeDepth := 6) [go_sem, *] at k4_0 q4_0 k4_1 q4_1 k4_2 q4_2 k4_3 q4_3 k4_4 q4_4 k4_5 q4_5
  have HB4 := Lib.hid hb4
  clear hb4
  clear k3_0 q3_0 l3_0 k3_1 q3_1 l3_1 k3_2 q3_2 l3_2 k3_3 q3_3 l3_3 k3_4 q3_4 l3_4 k3_5 q3_5 l3_5
  have hzz : w.heap.size + 1 + 1 + 1 ≤ w4.heap.size := by omega
  have G5 : Hid (AskAt w4 (w.heap.size + 1 + 1) a AD nd cd) := by show AskAt _ _ _ _ _ _; unfold AskAt; simp (maxDischargeDepth := 8) [go_sem, *]
  have HW := Lib.hid (show Below w.heap.size w w4 by (repeat (first | (with_reducible exact Below.refl _ _) | (with_reducible refine Below.drew ?_) | (with_reducible refine bdrewN ?_ _) | ((with_reducible refine Below.setCell ?_ ?_ _); rotate_left; exact (by first | (simp; done) | (simp; omega) | omega)) | ((with_reducible refine Below.alloc ?_ ?_ _); rotate_left; exact (by first | (simp; done) | (simp; omega) | omega)) | ((with_reducible refine Below.trans ?_ (HB4.out.mono ?_)); rotate_left; exact (by first | (simp; done) | (simp; omega) | omega)) | ((with_reducible refine Below.trans ?_ (HB3.out.mono ?_)); rotate_left; exact (by first | (simp; done) | (simp; omega) | omega)) | ((with_reducible refine Below.trans ?_ (HB2.out.mono ?_)); rotate_left; exact (by first | (simp; done) | (simp; omega) | omega)) | ((with_reducible refine Below.trans ?_ (HB1.out.mono ?_)); rotate_left; exact (by first | (simp; done) | (simp; omega) | omega)))))
  have HDA := Lib.hid (ints_now HD.out HW.out)
  have HW1 := Lib.hid (show Below w1.heap.size w1 w4 by (repeat (first | (with_reducible exact Below.refl _ _) | (with_reducible refine Below.drew ?_) | (with_reducible refine bdrewN ?_ _) | ((with_reducible refine Below.setCell ?_ ?_ _); rotate_left; exact (by first | (simp; done) | (simp; omega) | omega)) | ((with_reducible refine Below.alloc ?_ ?_ _); rotate_left; exact (by first | (simp; done) | (simp; omega) | omega)) | ((with_reducible refine Below.trans ?_ (HB4.out.mono ?_)); rotate_left; exact (by first | (simp; done) | (simp; omega) | omega)) | ((with_reducible refine Below.trans ?_ (HB3.out.mono ?_)); rotate_left; exact (by first | (simp; done) | (simp; omega) | omega)) | ((with_reducible refine Below.trans ?_ (HB2.out.mono ?_)); rotate_left; exact (by first | (simp; done) | (simp; omega) | omega)))))
  go_upto_region 7 with (fail)
  go_cut [46] (fun s we => s = .bool false ∧ Hid (Since w4 we))
  case first =>
    clear k4_0 q4_0 l4_0 k4_1 q4_1 l4_1 k4_2 q4_2 l4_2 k4_3 q4_3 l4_3 k4_4 q4_4 l4_4 k4_5 q4_5 l4_5
    go_region_held3 (fun W => W.cell? ⟨w.heap.size + 1 + 1, 0, none⟩ = some (.int .i64 a.dev) ∧ W.cell? ⟨w.heap.size + 1 + 1, 1, none⟩ = some (.int .i64 a.at_) ∧ W.cell? ⟨w.heap.size + 1 + 1, 2, none⟩ = some (.int .i64 a.count) ∧ W.cell? ⟨w.heap.size + 1 + 1, 3, none⟩ = some (.bool a.wr) ∧ W.cell? ⟨w.heap.size + 1 + 1, 4, none⟩ = some (.slice AD nd cd) ∧ Hid (Since w4 W)) (((with_reducible refine keepA ?_ G5.out); (repeat (first | (with_reducible assumption) | (with_reducible exact since_refl _) | (with_reducible exact since_5a (by assumption)) | (with_reducible exact since_step (by assumption) (since_5a (by assumption))) | (with_reducible refine since_drew ?_) | (with_reducible refine since_alloc ?_ _) | ((with_reducible refine since_set ?_ ?_ _); rotate_left; exact (by first | (simp; done) | (simp; omega) | omega)))); done))
      (first
        | (go_at_call 34; refine (law_carried _).mono ?_; rintro e w' ⟨rfl, hb'⟩)
        | (go_at_call 35; refine (dma_Check a AD nd cd _ ?_).mono ?_; (with_reducible exact ints_snc HDA.out (since_5a (by assumption))); rintro e w' ⟨rfl, hb'⟩)
        | (go_at_call 33; refine (ref_CheckAsk a AD nd cd _ ?_).mono ?_; (with_reducible exact ints_snc HDA.out (since_5a (by assumption))); rintro e w' ⟨rfl, hb'⟩))
    all_goals
      rename_i hHeld
      have HS := Lib.hid (since_5a hHeld)
      clear hHeld
      go_wp2
      go_meet
      exact ⟨rfl, HS.out⟩
  case rest =>
    obtain ⟨rfl, hS⟩ := hcut
    have HSS := Lib.hid hS.out
    have HWc := Lib.hid (show Below w.heap.size w wc from Below.trans HW.out (Below.mono hS.out (Below.size HW.out)))
    have HWc1 := Lib.hid (show Below w1.heap.size w1 wc from Below.trans HW1.out (Below.mono hS.out (Below.size HW1.out)))
    have hzc := Below.size hS.out
    have kc_0 := fun o => (hS.out.cell (p := ⟨w.heap.size, o, none⟩) l4_0).trans (k4_0 o)
    have lc_0 : (w.heap.size) < wc.heap.size := by omega
    have kc_1 := fun o => (hS.out.cell (p := ⟨w.heap.size + 1, o, none⟩) l4_1).trans (k4_1 o)
    have lc_1 : (w.heap.size + 1) < wc.heap.size := by omega
    have kc_2 := fun o => (hS.out.cell (p := ⟨w.heap.size + 1 + 1, o, none⟩) l4_2).trans (k4_2 o)
    have lc_2 : (w.heap.size + 1 + 1) < wc.heap.size := by omega
    have kc_3 := fun o => (hS.out.cell (p := ⟨w1.heap.size, o, none⟩) l4_3).trans (k4_3 o)
    have lc_3 : (w1.heap.size) < wc.heap.size := by omega
    have kc_4 := fun o => (hS.out.cell (p := ⟨w1.heap.size + 1, o, none⟩) l4_4).trans (k4_4 o)
    have lc_4 : (w1.heap.size + 1) < wc.heap.size := by omega
    have kc_5 := fun o => (hS.out.cell (p := ⟨w1.heap.size + 1 + 1, o, none⟩) l4_5).trans (k4_5 o)
    have lc_5 : (w1.heap.size + 1 + 1) < wc.heap.size := by omega
    clear hS k4_0 q4_0 l4_0 k4_1 q4_1 l4_1 k4_2 q4_2 l4_2 k4_3 q4_3 l4_3 k4_4 q4_4 l4_4 k4_5 q4_5 l4_5
    go_wp2_with fail
    refine (ref_Asked xs m mc b A0 n0 c0 a AD nd cd _ (ints_now HX.out HWc.out) (lines_now HL.out HWc.out) (ints_now HD.out HWc.out) HCM.out HCB.out HQ.out (ys, bb, tt) HRM.out).mono ?_
    rintro e w6 ⟨M6, mc6, L6, n6, c6, D6, dn6, dc6, T6, tn6, tc6, rfl, hM6, hL6, hD6, hT6, hb6, _, _, _, _⟩
    have HM6 := Lib.hid hM6
    have HL6 := Lib.hid hL6
    have HD6 := Lib.hid hD6
    have HT6 := Lib.hid hT6
    clear hM6 hL6 hD6 hT6
    have hz6 := hb6.size
    (try simp only [World.size_alloc, World.size_setCell, World.size_drew] at hz6)
    have k6_0 := fun o => (bcell hb6).1 (w1.heap.size) o (by first | (simp; done) | (simp; omega) | omega)
    have l6_0 : (w1.heap.size) < w6.heap.size := (by omega)
    have q6_0 := fun o => (bcell hb6).2 (w1.heap.size) o (by first | (simp; done) | (simp; omega) | omega)
    have k6_1 := fun o => (bcell hb6).1 (w1.heap.size + 1) o (by first | (simp; done) | (simp; omega) | omega)
    have l6_1 : (w1.heap.size + 1) < w6.heap.size := (by omega)
    have q6_1 := fun o => (bcell hb6).2 (w1.heap.size + 1) o (by first | (simp; done) | (simp; omega) | omega)
    have k6_2 := fun o => (bcell hb6).1 (w1.heap.size + 1 + 1) o (by first | (simp; done) | (simp; omega) | omega)
    have l6_2 : (w1.heap.size + 1 + 1) < w6.heap.size := (by omega)
    have q6_2 := fun o => (bcell hb6).2 (w1.heap.size + 1 + 1) o (by first | (simp; done) | (simp; omega) | omega)
    simp (maxDischargeDepth := 6) [go_sem, *] at k6_0 q6_0 k6_1 q6_1 k6_2 q6_2
    have HB6 := Lib.hid hb6
    clear hb6
    clear kc_0 lc_0 kc_1 lc_1 kc_2 lc_2 kc_3 lc_3 kc_4 lc_4 kc_5 lc_5
    have rw60 : w1.heap.size < w6.heap.size + 1 := by omega
    have rw61 : w1.heap.size < w6.heap.size + 1 + 1 := by omega
    have rw62 : w1.heap.size < w6.heap.size + 2 := by omega
    have rw63 : w1.heap.size < w6.heap.size + 1 + 1 + 1 := by omega
    have rw64 : w1.heap.size < w6.heap.size + 3 := by omega
    have rw65 : w1.heap.size ≤ w6.heap.size := by omega
    have rw66 : w1.heap.size + 1 < w6.heap.size + 1 := by omega
    have rw67 : w1.heap.size + 1 < w6.heap.size + 1 + 1 := by omega
    have rw68 : w1.heap.size + 1 < w6.heap.size + 2 := by omega
    have rw69 : w1.heap.size + 1 < w6.heap.size + 1 + 1 + 1 := by omega
    have rw610 : w1.heap.size + 1 < w6.heap.size + 3 := by omega
    have rw611 : w1.heap.size + 1 ≤ w6.heap.size := by omega
    have rw612 : w1.heap.size + 1 + 1 < w6.heap.size + 1 := by omega
    have rw613 : w1.heap.size + 1 + 1 < w6.heap.size + 1 + 1 := by omega
    have rw614 : w1.heap.size + 1 + 1 < w6.heap.size + 2 := by omega
    have rw615 : w1.heap.size + 1 + 1 < w6.heap.size + 1 + 1 + 1 := by omega
    have rw616 : w1.heap.size + 1 + 1 < w6.heap.size + 3 := by omega
    have rw617 : w1.heap.size + 1 + 1 ≤ w6.heap.size := by omega
    go_wp2_with fail
    refine (sl_Equal M1 M6 512 512 mc1 mc6 ys ys _ (ints_now HM1.out (by (repeat (first | (with_reducible exact Below.refl _ _) | (with_reducible refine Below.drew ?_) | (with_reducible refine bdrewN ?_ _) | ((with_reducible refine Below.setCell ?_ ?_ _); rotate_left; exact (by first | (simp; done) | (simp; omega) | omega)) | ((with_reducible refine Below.alloc ?_ ?_ _); rotate_left; exact (by first | (simp; done) | (simp; omega) | omega)) | ((with_reducible refine Below.trans ?_ (HB6.out.mono ?_)); rotate_left; exact (by first | (simp; done) | (simp; omega) | omega)))); exact HWc1.out)) (ints_now HM6.out (by (repeat (first | (with_reducible exact Below.refl _ _) | (with_reducible refine Below.drew ?_) | (with_reducible refine bdrewN ?_ _) | ((with_reducible refine Below.setCell ?_ ?_ _); rotate_left; exact (by first | (simp; done) | (simp; omega) | omega)) | ((with_reducible refine Below.alloc ?_ ?_ _); rotate_left; exact (by first | (simp; done) | (simp; omega) | omega))))))).mono ?_
    rw [eqI_selfD]
    rintro e w7 ⟨rfl, hb7⟩
    have hz7 := hb7.size
    (try simp only [World.size_alloc, World.size_setCell, World.size_drew] at hz7)
    have k7_0 := fun o => (bcell hb7).1 (w1.heap.size + 1) o (by first | (simp; done) | (simp; omega) | omega)
    have l7_0 : (w1.heap.size + 1) < w7.heap.size := (by omega)
    have q7_0 := fun o => (bcell hb7).2 (w1.heap.size + 1) o (by first | (simp; done) | (simp; omega) | omega)
    have k7_1 := fun o => (bcell hb7).1 (w1.heap.size + 1 + 1) o (by first | (simp; done) | (simp; omega) | omega)
    have l7_1 : (w1.heap.size + 1 + 1) < w7.heap.size := (by omega)
    have q7_1 := fun o => (bcell hb7).2 (w1.heap.size + 1 + 1) o (by first | (simp; done) | (simp; omega) | omega)
    have k7_2 := fun o => (bcell hb7).1 (w6.heap.size + 1) o (by first | (simp; done) | (simp; omega) | omega)
    have l7_2 : (w6.heap.size + 1) < w7.heap.size := (by omega)
    have q7_2 := fun o => (bcell hb7).2 (w6.heap.size + 1) o (by first | (simp; done) | (simp; omega) | omega)
    have k7_3 := fun o => (bcell hb7).1 (w6.heap.size + 1 + 1) o (by first | (simp; done) | (simp; omega) | omega)
    have l7_3 : (w6.heap.size + 1 + 1) < w7.heap.size := (by omega)
    have q7_3 := fun o => (bcell hb7).2 (w6.heap.size + 1 + 1) o (by first | (simp; done) | (simp; omega) | omega)
    simp (maxDischargeDepth := 6) [go_sem, *] at k7_0 q7_0 k7_1 q7_1 k7_2 q7_2 k7_3 q7_3
    have HB7 := Lib.hid hb7
    clear hb7
    clear k6_0 q6_0 l6_0 k6_1 q6_1 l6_1 k6_2 q6_2 l6_2
    go_wp2_with fail
    refine (ref_SameBridge bb bb L1 L6 n1 c1 n6 c6 _ (lines_now HL1.out (by (repeat (first | (with_reducible exact Below.refl _ _) | (with_reducible refine Below.drew ?_) | (with_reducible refine bdrewN ?_ _) | ((with_reducible refine Below.setCell ?_ ?_ _); rotate_left; exact (by first | (simp; done) | (simp; omega) | omega)) | ((with_reducible refine Below.alloc ?_ ?_ _); rotate_left; exact (by first | (simp; done) | (simp; omega) | omega)) | ((with_reducible refine Below.trans ?_ (HB7.out.mono ?_)); rotate_left; exact (by first | (simp; done) | (simp; omega) | omega)) | ((with_reducible refine Below.trans ?_ (HB6.out.mono ?_)); rotate_left; exact (by first | (simp; done) | (simp; omega) | omega)))); exact HWc1.out)) (lines_now HL6.out (by (repeat (first | (with_reducible exact Below.refl _ _) | (with_reducible refine Below.drew ?_) | (with_reducible refine bdrewN ?_ _) | ((with_reducible refine Below.setCell ?_ ?_ _); rotate_left; exact (by first | (simp; done) | (simp; omega) | omega)) | ((with_reducible refine Below.alloc ?_ ?_ _); rotate_left; exact (by first | (simp; done) | (simp; omega) | omega)) | ((with_reducible refine Below.trans ?_ (HB7.out.mono ?_)); rotate_left; exact (by first | (simp; done) | (simp; omega) | omega))))))).mono ?_
    rw [same_selfD]
    rintro e w8 ⟨rfl, hb8⟩
    have hz8 := hb8.size
    (try simp only [World.size_alloc, World.size_setCell, World.size_drew] at hz8)
    have k8_0 := fun o => (bcell hb8).1 (w1.heap.size + 1 + 1) o (by first | (simp; done) | (simp; omega) | omega)
    have l8_0 : (w1.heap.size + 1 + 1) < w8.heap.size := (by omega)
    have q8_0 := fun o => (bcell hb8).2 (w1.heap.size + 1 + 1) o (by first | (simp; done) | (simp; omega) | omega)
    have k8_1 := fun o => (bcell hb8).1 (w6.heap.size + 1 + 1) o (by first | (simp; done) | (simp; omega) | omega)
    have l8_1 : (w6.heap.size + 1 + 1) < w8.heap.size := (by omega)
    have q8_1 := fun o => (bcell hb8).2 (w6.heap.size + 1 + 1) o (by first | (simp; done) | (simp; omega) | omega)
    simp (maxDischargeDepth := 6) [go_sem, *] at k8_0 q8_0 k8_1 q8_1
    have HB8 := Lib.hid hb8
    clear hb8
    clear k7_0 q7_0 l7_0 k7_1 q7_1 l7_1 k7_2 q7_2 l7_2 k7_3 q7_3 l7_3
    go_wp2_with fail
    refine (ref_SameTold tt tt D1 D6 T1 T6 dn1 dc1 dn6 dc6 tn1 tc1 tn6 tc6 _ (ints_now HD1.out (by (repeat (first | (with_reducible exact Below.refl _ _) | (with_reducible refine Below.drew ?_) | (with_reducible refine bdrewN ?_ _) | ((with_reducible refine Below.setCell ?_ ?_ _); rotate_left; exact (by first | (simp; done) | (simp; omega) | omega)) | ((with_reducible refine Below.alloc ?_ ?_ _); rotate_left; exact (by first | (simp; done) | (simp; omega) | omega)) | ((with_reducible refine Below.trans ?_ (HB8.out.mono ?_)); rotate_left; exact (by first | (simp; done) | (simp; omega) | omega)) | ((with_reducible refine Below.trans ?_ (HB7.out.mono ?_)); rotate_left; exact (by first | (simp; done) | (simp; omega) | omega)) | ((with_reducible refine Below.trans ?_ (HB6.out.mono ?_)); rotate_left; exact (by first | (simp; done) | (simp; omega) | omega)))); exact HWc1.out)) (ints_now HD6.out (by (repeat (first | (with_reducible exact Below.refl _ _) | (with_reducible refine Below.drew ?_) | (with_reducible refine bdrewN ?_ _) | ((with_reducible refine Below.setCell ?_ ?_ _); rotate_left; exact (by first | (simp; done) | (simp; omega) | omega)) | ((with_reducible refine Below.alloc ?_ ?_ _); rotate_left; exact (by first | (simp; done) | (simp; omega) | omega)) | ((with_reducible refine Below.trans ?_ (HB8.out.mono ?_)); rotate_left; exact (by first | (simp; done) | (simp; omega) | omega)) | ((with_reducible refine Below.trans ?_ (HB7.out.mono ?_)); rotate_left; exact (by first | (simp; done) | (simp; omega) | omega)))))) (tchs_now HT1.out (by (repeat (first | (with_reducible exact Below.refl _ _) | (with_reducible refine Below.drew ?_) | (with_reducible refine bdrewN ?_ _) | ((with_reducible refine Below.setCell ?_ ?_ _); rotate_left; exact (by first | (simp; done) | (simp; omega) | omega)) | ((with_reducible refine Below.alloc ?_ ?_ _); rotate_left; exact (by first | (simp; done) | (simp; omega) | omega)) | ((with_reducible refine Below.trans ?_ (HB8.out.mono ?_)); rotate_left; exact (by first | (simp; done) | (simp; omega) | omega)) | ((with_reducible refine Below.trans ?_ (HB7.out.mono ?_)); rotate_left; exact (by first | (simp; done) | (simp; omega) | omega)) | ((with_reducible refine Below.trans ?_ (HB6.out.mono ?_)); rotate_left; exact (by first | (simp; done) | (simp; omega) | omega)))); exact HWc1.out)) (tchs_now HT6.out (by (repeat (first | (with_reducible exact Below.refl _ _) | (with_reducible refine Below.drew ?_) | (with_reducible refine bdrewN ?_ _) | ((with_reducible refine Below.setCell ?_ ?_ _); rotate_left; exact (by first | (simp; done) | (simp; omega) | omega)) | ((with_reducible refine Below.alloc ?_ ?_ _); rotate_left; exact (by first | (simp; done) | (simp; omega) | omega)) | ((with_reducible refine Below.trans ?_ (HB8.out.mono ?_)); rotate_left; exact (by first | (simp; done) | (simp; omega) | omega)) | ((with_reducible refine Below.trans ?_ (HB7.out.mono ?_)); rotate_left; exact (by first | (simp; done) | (simp; omega) | omega))))))).mono ?_
    rw [same_selfT]
    rintro e w9 ⟨rfl, hb9⟩
    have hz9 := hb9.size
    (try simp only [World.size_alloc, World.size_setCell, World.size_drew] at hz9)
    have HB9 := Lib.hid hb9
    clear hb9
    go_wp2
    go_ret
    refine ⟨rfl, ?_⟩
    have hwe := Below.size HWc.out
    (repeat (first | (with_reducible exact Below.refl _ _) | (with_reducible refine Below.drew ?_) | (with_reducible refine bdrewN ?_ _) | ((with_reducible refine Below.setCell ?_ ?_ _); rotate_left; exact (by first | (simp; done) | (simp; omega) | omega)) | ((with_reducible refine Below.alloc ?_ ?_ _); rotate_left; exact (by first | (simp; done) | (simp; omega) | omega)) | ((with_reducible refine Below.trans ?_ (HB9.out.mono ?_)); rotate_left; exact (by first | (simp; done) | (simp; omega) | omega)) | ((with_reducible refine Below.trans ?_ (HB8.out.mono ?_)); rotate_left; exact (by first | (simp; done) | (simp; omega) | omega)) | ((with_reducible refine Below.trans ?_ (HB7.out.mono ?_)); rotate_left; exact (by first | (simp; done) | (simp; omega) | omega)) | ((with_reducible refine Below.trans ?_ (HB6.out.mono ?_)); rotate_left; exact (by first | (simp; done) | (simp; omega) | omega))))
    exact HWc.out
theorem law_DmaSays (xs : List Int) (m : Option Addr) (nm mc : Nat) (b : Brg) (A0 : Option Addr) (n0 c0 : Nat) (a : Ask) (AD : Option Addr) (nd cd : Nat) (w : World) (hx : Ints w w.heap.size m nm xs) (hl : Lines w w.heap.size A0 n0 c0 b.cache) (hd : Ints w w.heap.size AD nd a.data) :
    Calls Try.prog 6 #[.agg #[.slice m nm mc], .agg #[.int .i64 b.mode, .int .i64 b.base, .slice A0 n0 c0, .int .i64 b.orders.page, .int .i64 b.orders.head, .int .i64 b.orders.tail, .bool b.stopped, .int .i64 b.fences, .int .i64 b.faults.page, .int .i64 b.faults.head, .int .i64 b.faults.tail, .bool b.lost], .agg #[.int .i64 a.dev, .int .i64 a.at_, .int .i64 a.count, .bool a.wr, .slice AD nd cd]] w fun e w' => e = .returned (.bool true) ∧ Below w.heap.size w w' := by
  by_cases hcm : cm xs = 0
  · by_cases hb : ckB b = 0
    · have e : dmaE xs b a = reqE a := by unfold dmaE; rw [if_pos hcm, if_pos hb]
      by_cases hq : reqE a = 0
      · have hn : nm = 512 := by rw [← hx.len]; exact (cm_inv hcm).1
        subst hn
        have e2 : dmaA xs b a = dmaM xs b a := by unfold dmaA; rw [e, if_pos hq]
        generalize hr : dmaM xs b a = r
        obtain ⟨ys, bb, tt⟩ := r
        exact dms_ok xs m mc b A0 n0 c0 a AD nd cd w hx hl hd hcm hb hq ys bb tt hr (by rw [e2]; exact hr) (by rw [e]; exact hq)
      · exact dms_q xs m nm mc b A0 n0 c0 a AD nd cd w hx hl hd hcm hb hq (by unfold dmaA; rw [e, if_neg hq]) e
    · have e : dmaE xs b a = ckB b := by unfold dmaE; rw [if_pos hcm, if_neg hb]
      exact dms_b xs m nm mc b A0 n0 c0 a AD nd cd w hx hl hd hcm hb (by unfold dmaA; rw [e, if_neg hb]) e
  · have e : dmaE xs b a = cm xs := by unfold dmaE; rw [if_neg hcm]
    exact dms_c xs m nm mc b A0 n0 c0 a AD nd cd w hx hl hd hcm (by unfold dmaA; rw [e, if_neg hcm]) e
end Go.Proofs.Ytbopdijnojaaiac
