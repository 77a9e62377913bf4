/- The devices: the walk of the laws' closed fact 'carried'. No statement of the seat is proved here. -/
import Derived.Test.YtbopdijnojaaiacDmaO
import Derived.Test.YtbopdijnojaaiacCarP
namespace Go.Proofs.Ytbopdijnojaaiac
open Go.RowKit
set_option linter.unusedSimpArgs false
set_option linter.unusedVariables false
theorem dma_okC (xs : List Int) (m : Option Addr) (nm mc : Nat) (b : Brg) (A0 : Option Addr) (n0 c0 : Nat) (AD : Option Addr) (nd cd : Nat) (w : World) (hx : Ints w w.heap.size m nm xs) (hl : Lines w w.heap.size A0 n0 c0 b.cache) (a : Ask) (hd : Ints w w.heap.size AD nd a.data) (R : List Int × Brg × Tld) (hR : dmaA xs b a = R) (hE : dmaE xs b a = 0) :
    Calls Try.prog 30 #[.agg #[.slice m nm mc], .agg #[.int .i64 b.mode, .int .i64 b.base, .slice A0 n0 c0, .int .i64 b.orders.page, .int .i64 b.orders.head, .int .i64 b.orders.tail, .bool b.stopped, .int .i64 b.fences, .int .i64 b.faults.page, .int .i64 b.faults.head, .int .i64 b.faults.tail, .bool b.lost], .agg #[.int .i64 a.dev, .int .i64 a.at_, .int .i64 a.count, .bool a.wr, .slice AD nd cd]] w (DoC w 512 R 0) := by
  have h := dma_ans xs m nm mc b A0 n0 c0 AD nd cd w hx hl a hd R 0 hR hE
  rw [if_pos rfl] at h
  exact h
set_option maxRecDepth 100000 in
set_option maxHeartbeats 4000000 in
theorem law_carried (w : World) : Calls Try.prog 34 #[] w fun e w' => e = .returned (.bool true) ∧ Below w.heap.size w w' := by
  go_enter Try.func34, Try.ntmps34
  go_wp2_with fail
  refine (law_tables _).mono ?_
  rintro e w1 ⟨A1, d1, rfl, ho1, hb1⟩
  have HI := Lib.hid (ho1.ints (by decide))
  clear ho1
  have hz1 := hb1.size
  (try simp only [World.size_alloc, World.size_setCell, World.size_drew] at hz1)
  have HB1 := Lib.hid hb1
  clear hb1
  go_wp2_with fail
  refine (dma_okC tabM A1 512 d1 tabB none 0 0 (some ⟨w1.heap.size + 1 + 1, 0, none⟩) 3 3 _ (ints_now HI.out (by (repeat (first | (with_reducible exact Below.refl _ _) | (with_reducible refine Below.drew ?_) | (with_reducible refine bdrewN ?_ _) | ((with_reducible refine Below.setCell ?_ ?_ _); rotate_left; exact (by first | (simp; done) | (simp; omega) | omega)) | ((with_reducible refine Below.alloc ?_ ?_ _); rotate_left; exact (by first | (simp; done) | (simp; omega) | omega)))))) (lines_none _ _) carA1 (Ints.of_cells rfl (by decide) (by simp) (fun k => by simp [go_sem, carA1])) (carM, ⟨2, 1, [⟨1, 0, 9, true, true⟩], ⟨40, 0, 0⟩, false, 0, ⟨41, 0, 1⟩, false⟩, ⟨false, [], 5, [⟨1, 6, 78, true, 4⟩, ⟨1, 7, 79, true, 5⟩]⟩) car1 car1e).mono ?_
  rintro e w2 ⟨M2, mc2, L2, n2, c2, D2, dn2, dc2, T2, tn2, tc2, rfl, hM2, hL2, hD2, hT2, hb2, _, _, _, _⟩
  obtain rfl : n2 = 1 := hL2.len.symm
  obtain rfl : dn2 = 0 := hD2.len.symm
  obtain rfl : tn2 = 2 := hT2.len.symm
  have HM2 := Lib.hid hM2
  have HL2 := Lib.hid hL2
  clear hM2 hL2 hD2 hT2
  have hz2 := hb2.size
  (try simp only [World.size_alloc, World.size_setCell, World.size_drew] at hz2)
  have HB2 := Lib.hid hb2
  clear hb2
  go_wp2_with fail
  refine (dma_okC carM M2 512 mc2 carB L2 1 c2 none 0 0 _ (ints_now HM2.out (by (repeat (first | (with_reducible exact Below.refl _ _) | (with_reducible refine Below.drew ?_) | (with_reducible refine bdrewN ?_ _) | ((with_reducible refine Below.setCell ?_ ?_ _); rotate_left; exact (by first | (simp; done) | (simp; omega) | omega)) | ((with_reducible refine Below.alloc ?_ ?_ _); rotate_left; exact (by first | (simp; done) | (simp; omega) | omega)))))) (lines_now HL2.out (by (repeat (first | (with_reducible exact Below.refl _ _) | (with_reducible refine Below.drew ?_) | (with_reducible refine bdrewN ?_ _) | ((with_reducible refine Below.setCell ?_ ?_ _); rotate_left; exact (by first | (simp; done) | (simp; omega) | omega)) | ((with_reducible refine Below.alloc ?_ ?_ _); rotate_left; exact (by first | (simp; done) | (simp; omega) | omega)))))) carA2 ⟨rfl, by unfold maxLen; omega, Row.nil_⟩ (carM, carC, ⟨true, [4, 5, 0], 0, [⟨1, 6, 78, false, 4⟩, ⟨1, 7, 79, false, 5⟩, ⟨1, 8, 64, false, 0⟩]⟩) car2 car2e).mono ?_
  rintro e w3 ⟨M3, mc3, L3, n3, c3, D3, dn3, dc3, T3, tn3, tc3, rfl, hM3, hL3, hD3, hT3, hb3, _, _, _, _⟩
  obtain rfl : n3 = 2 := hL3.len.symm
  obtain rfl : dn3 = 3 := hD3.len.symm
  obtain rfl : tn3 = 3 := hT3.len.symm
  have HM3 := Lib.hid hM3
  have HD3 := Lib.hid hD3
  clear hM3 hL3 hD3 hT3
  have hz3 := hb3.size
  (try simp only [World.size_alloc, World.size_setCell, World.size_drew] at hz3)
  have k3_0 := fun o => (bcell hb3).1 (w2.heap.size) o (by first | (simp; done) | (simp; omega) | omega)
  have l3_0 : (w2.heap.size) < w3.heap.size := (by omega)
  have q3_0 := fun o => (bcell hb3).2 (w2.heap.size) o (by first | (simp; done) | (simp; omega) | omega)
  have k3_1 := fun o => (bcell hb3).1 (w2.heap.size + 1 + 1) o (by first | (simp; done) | (simp; omega) | omega)
  have l3_1 : (w2.heap.size + 1 + 1) < w3.heap.size := (by omega)
  have q3_1 := fun o => (bcell hb3).2 (w2.heap.size + 1 + 1) o (by first | (simp; done) | (simp; omega) | omega)
  simp (maxDischargeDepth := 6) [go_sem, *] at k3_0 q3_0 k3_1 q3_1
  have HB3 := Lib.hid hb3
  clear hb3
  obtain ⟨b2, o2, rfl, hbb, hcc⟩ := (ints_now HM2.out (show Below w2.heap.size w2 w3 by (repeat (first | (with_reducible exact Below.refl _ _) | (with_reducible refine Below.drew ?_) | (with_reducible refine bdrewN ?_ _) | ((with_reducible refine Below.setCell ?_ ?_ _); rotate_left; exact (by first | (simp; done) | (simp; omega) | omega)) | ((with_reducible refine Below.alloc ?_ ?_ _); rotate_left; exact (by first | (simp; done) | (simp; omega) | omega)) | ((with_reducible refine Below.trans ?_ (HB3.out.mono ?_)); rotate_left; exact (by first | (simp; done) | (simp; omega) | omega)))))).at_ (by decide)
  have c78 := hcc 78 4 (by kernel_rfl)
  have c79 := hcc 79 5 (by kernel_rfl)
  have c328 := hcc 328 4173 (by kernel_rfl)
  clear hcc
  have r1 : w2.heap.size + 1 < w3.heap.size := by omega
  have r2 : w2.heap.size + 1 ≤ w3.heap.size := by omega
  have r3 : w2.heap.size ≤ w3.heap.size := by omega
  have r4 : w2.heap.size + 1 + 1 < w3.heap.size + 1 + 1 := by omega
  have r5 : w2.heap.size + 1 + 1 < w3.heap.size + 1 := by omega
  have r6 : w2.heap.size < w3.heap.size + 1 + 1 := by omega
  have r7 : w2.heap.size < w3.heap.size + 1 := by omega
  have r8 : w2.heap.size < w3.heap.size + 2 := by omega
  have r9 : b2 < w3.heap.size + 1 := by omega
  have r10 : b2 < w3.heap.size + 1 + 1 := by omega
  have r11 : b2 < w3.heap.size + 2 := by omega
  have r12 : b2 ≤ w3.heap.size := by omega
  have r13 : b2 ≤ w3.heap.size + 1 := by omega
  go_wp2_with fail
  refine (sl_Equal D3 (some ⟨w3.heap.size + 1 + 1 + 1, 0, none⟩) 3 3 dc3 3 [4, 5, 0] [4, 5, 0] _ (ints_now HD3.out (by (repeat (first | (with_reducible exact Below.refl _ _) | (with_reducible refine Below.drew ?_) | (with_reducible refine bdrewN ?_ _) | ((with_reducible refine Below.setCell ?_ ?_ _); rotate_left; exact (by first | (simp; done) | (simp; omega) | omega)) | ((with_reducible refine Below.alloc ?_ ?_ _); rotate_left; exact (by first | (simp; done) | (simp; omega) | omega)))))) (Ints.of_cells rfl (by decide) (by simp) (fun k => by simp [go_sem]))).mono ?_
  rw [show eqI [4, 5, 0] [4, 5, 0] = true by decide]
  rintro e w4 ⟨rfl, hb4⟩
  have hz4 := hb4.size
  (try simp only [World.size_alloc, World.size_setCell, World.size_drew] at hz4)
  have k4_0 := fun o => (bcell hb4).1 (w2.heap.size) o (by first | (simp; done) | (simp; omega) | omega)
  have l4_0 : (w2.heap.size) < w4.heap.size := (by omega)
  have q4_0 := fun o => (bcell hb4).2 (w2.heap.size) o (by first | (simp; done) | (simp; omega) | omega)
  have k4_1 := fun o => (bcell hb4).1 (w3.heap.size) o (by first | (simp; done) | (simp; omega) | omega)
  have l4_1 : (w3.heap.size) < w4.heap.size := (by omega)
  have q4_1 := fun o => (bcell hb4).2 (w3.heap.size) o (by first | (simp; done) | (simp; omega) | omega)
  simp (maxDischargeDepth := 6) [go_sem, *] at k4_0 q4_0 k4_1 q4_1
  have HB4 := Lib.hid hb4
  clear hb4
  go_wp2_with fail
  refine (mem_Same (some ⟨b2, o2, none⟩) M3 512 512 mc2 mc3 carM carM _ (ints_now HM2.out (by (repeat (first | (with_reducible exact Below.refl _ _) | (with_reducible refine Below.drew ?_) | (with_reducible refine bdrewN ?_ _) | ((with_reducible refine Below.setCell ?_ ?_ _); rotate_left; exact (by first | (simp; done) | (simp; omega) | omega)) | ((with_reducible refine Below.alloc ?_ ?_ _); rotate_left; exact (by first | (simp; done) | (simp; omega) | omega)) | ((with_reducible refine Below.trans ?_ (HB4.out.mono ?_)); rotate_left; exact (by first | (simp; done) | (simp; omega) | omega)) | ((with_reducible refine Below.trans ?_ (HB3.out.mono ?_)); rotate_left; exact (by first | (simp; done) | (simp; omega) | omega)))))) (ints_now HM3.out (by (repeat (first | (with_reducible exact Below.refl _ _) | (with_reducible refine Below.drew ?_) | (with_reducible refine bdrewN ?_ _) | ((with_reducible refine Below.setCell ?_ ?_ _); rotate_left; exact (by first | (simp; done) | (simp; omega) | omega)) | ((with_reducible refine Below.alloc ?_ ?_ _); rotate_left; exact (by first | (simp; done) | (simp; omega) | omega)) | ((with_reducible refine Below.trans ?_ (HB4.out.mono ?_)); rotate_left; exact (by first | (simp; done) | (simp; omega) | omega))))))).mono ?_
  rw [show eqI carM carM = true by simp [eqI]]
  rintro e w5 ⟨rfl, hb5⟩
  have hz5 := hb5.size
  (try simp only [World.size_alloc, World.size_setCell, World.size_drew] at hz5)
  have HB5 := Lib.hid hb5
  clear hb5
  go_wp2
  go_ret
  exact ⟨rfl, by (repeat (first | (with_reducible exact Below.refl _ _) | (with_reducible refine Below.drew ?_) | (with_reducible refine bdrewN ?_ _) | ((with_reducible refine Below.setCell ?_ ?_ _); rotate_left; exact (by first | (simp; done) | (simp; omega) | omega)) | ((with_reducible refine Below.alloc ?_ ?_ _); rotate_left; exact (by first | (simp; done) | (simp; omega) | omega)) | ((with_reducible refine Below.trans ?_ (HB5.out.mono ?_)); rotate_left; exact (by first | (simp; done) | (simp; omega) | omega)) | ((with_reducible refine Below.trans ?_ (HB4.out.mono ?_)); rotate_left; exact (by first | (simp; done) | (simp; omega) | omega)) | ((with_reducible refine Below.trans ?_ (HB3.out.mono ?_)); rotate_left; exact (by first | (simp; done) | (simp; omega) | omega)) | ((with_reducible refine Below.trans ?_ (HB2.out.mono ?_)); rotate_left; exact (by first | (simp; done) | (simp; omega) | omega)) | ((with_reducible refine Below.trans ?_ (HB1.out.mono ?_)); rotate_left; exact (by first | (simp; done) | (simp; omega) | omega))))⟩
end Go.Proofs.Ytbopdijnojaaiac
