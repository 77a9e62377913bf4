/- Tables: the walks of the program's functions of chapter 3. No statement of the seat is proved here. -/
import Derived.Test.YtbopdijnojaaiadBase
import Derived.Test.YtbopdijnojaaiadMem
import Derived.Test.YtbopdijnojaaiadEntryX
namespace Go.Proofs.Ytbopdijnojaaiad
open Go.RowKit
set_option linter.unusedSimpArgs false
set_option linter.unusedVariables false

theorem read_bad (x : Int) (w : World) (h : enK x = false) : Calls Try.prog 70 #[.int .i64 x] w fun e w' => e = .returned (.tuple #[.agg #[.bool false, .bool false, .bool false, .bool false, .int .i64 0], .bool false]) ∧ Below w.heap.size w w' :=
  (entry_Read x w).mono fun e w' ⟨he, hb⟩ => ⟨by rw [he, enV_bad h], hb⟩
theorem read_off (x : Int) (w : World) (h : enK x = true) (h' : enG x = false) : Calls Try.prog 70 #[.int .i64 x] w fun e w' => e = .returned (.tuple #[.agg #[.bool false, .bool false, .bool false, .bool false, .int .i64 0], .bool true]) ∧ Below w.heap.size w w' :=
  (entry_Read x w).mono fun e w' ⟨he, hb⟩ => ⟨by rw [he, enV_off h h'], hb⟩
theorem read_on (x : Int) (b1 b2 b3 : Bool) (p : Int) (w : World) (h : enG x = true) (h1 : bitI x 1 = b1) (h2 : bitI x 2 = b2) (h3 : bitI x 3 = b3) (hp : enP x = p) : Calls Try.prog 70 #[.int .i64 x] w fun e w' => e = .returned (.tuple #[.agg #[.bool true, .bool b1, .bool b2, .bool b3, .int .i64 p], .bool true]) ∧ Below w.heap.size w w' :=
  (entry_Read x w).mono fun e w' ⟨he, hb⟩ => ⟨by rw [he, enV_on h, h1, h2, h3, hp], hb⟩
theorem pair0 : ∀ (a b : Int) (w : World), (Instr.index 60 (.agg #[.int .i64 a, .int .i64 b]) (.int .i64 0)).run Try.prog w = .ok (.int .i64 a) w := fun _ _ _ => by kernel_rfl
theorem pair1 : ∀ (a b : Int) (w : World), (Instr.index 60 (.agg #[.int .i64 a, .int .i64 b]) (.int .i64 1)).run Try.prog w = .ok (.int .i64 b) w := fun _ _ _ => by kernel_rfl

set_option maxRecDepth 100000 in
set_option maxHeartbeats 4000000 in
theorem leaf_bad (A : Option Addr) (c : Nat) (xs : List Int) (root page : Int) (w : World) (h : Ints w w.heap.size A 512 xs) (h0 : cm xs = 0) (hin : inP root page) (x : Int) (hx : rd xs (root * 8 + page / 8) = x) (hK : enK x = false) :
    Calls Try.prog 68 #[.agg #[.slice A 512 c], .int .i64 root, .int .i64 page] w fun e w' => e = .returned (.tuple #[.agg #[.bool false, .bool false, .bool false, .bool false, .int .i64 0], .int .i64 4]) ∧ Below w.heap.size w w' := by
  have HK := Lib.hid hK
  unfold inP at hin
  obtain ⟨⟨h1, h2⟩, h3, h4⟩ := hin
  obtain ⟨b, off, rfl, hb, hc⟩ := h.at_ (by omega)
  have hcx := hc _ _ (rd_at (i := root * 8 + page / 8) (cm_inv h0).1 (by omega))
  rw [hx] at hcx
  have a7 := and7 page (by omega) (by omega)
  have p0 := pair0
  have p1 := pair1
  clear hc hx h h0 hK
  go_enter Try.func68, Try.ntmps68
  go_wp2
  refine wp_loop_rounds 1 ?_
  rw [rounds_succ]
  go_wp2_with fail
  refine (read_bad _ _ HK.out).mono ?_
  rintro e w1 ⟨rfl, hb1⟩
  have hz1 := hb1.size
  (try simp only [World.size_alloc, World.size_setCell, World.size_drew] at hz1)
  have k1_0 := fun o => (bcell hb1).1 (w.heap.size) o (by first | (simp; done) | (simp; omega) | omega)
  have l1_0 : (w.heap.size) < w1.heap.size := (by omega)
  have q1_0 := fun o => (bcell hb1).2 (w.heap.size) o (by first | (simp; done) | (simp; omega) | omega)
  have k1_1 := fun o => (bcell hb1).1 (w.heap.size + 1) o (by first | (simp; done) | (simp; omega) | omega)
  have l1_1 : (w.heap.size + 1) < w1.heap.size := (by omega)
  have q1_1 := fun o => (bcell hb1).2 (w.heap.size + 1) o (by first | (simp; done) | (simp; omega) | omega)
  simp (maxDischargeDepth := 6) [go_sem, *] at k1_0 q1_0 k1_1 q1_1
  have HB1 := Lib.hid hb1
  clear hb1
  go_wp2
  refine bodyPost_ret (v := .tuple #[.agg #[.bool false, .bool false, .bool false, .bool false, .int .i64 0], .int .i64 4]) ?_ rfl ⟨rfl, ?_⟩
  · simp (maxDischargeDepth := 8) [results, Try.results68, go_sem, *]
  · (repeat (first | (with_reducible exact Below.refl _ _) | (with_reducible refine Below.drew ?_) | (with_reducible refine bdrewN ?_ _) | ((with_reducible refine Below.setCell ?_ ?_ _); rotate_left; exact (by first | (simp; done) | (simp; omega) | omega)) | ((with_reducible refine Below.alloc ?_ ?_ _); rotate_left; exact (by first | (simp; done) | (simp; omega) | omega)) | ((with_reducible refine Below.trans ?_ (HB1.out.mono ?_)); rotate_left; exact (by first | (simp; done) | (simp; omega) | omega))))


set_option maxRecDepth 100000 in
set_option maxHeartbeats 4000000 in
theorem leaf_off (A : Option Addr) (c : Nat) (xs : List Int) (root page : Int) (w : World) (h : Ints w w.heap.size A 512 xs) (h0 : cm xs = 0) (hin : inP root page) (x : Int) (hx : rd xs (root * 8 + page / 8) = x) (hK : enK x = true) (hG : enG x = false) :
    Calls Try.prog 68 #[.agg #[.slice A 512 c], .int .i64 root, .int .i64 page] w fun e w' => e = .returned (.tuple #[.agg #[.bool false, .bool false, .bool false, .bool false, .int .i64 0], .int .i64 3]) ∧ Below w.heap.size w w' := by
  have HK := Lib.hid hK
  have HG := Lib.hid hG
  unfold inP at hin
  obtain ⟨⟨h1, h2⟩, h3, h4⟩ := hin
  obtain ⟨b, off, rfl, hb, hc⟩ := h.at_ (by omega)
  have hcx := hc _ _ (rd_at (i := root * 8 + page / 8) (cm_inv h0).1 (by omega))
  rw [hx] at hcx
  have a7 := and7 page (by omega) (by omega)
  have p0 := pair0
  have p1 := pair1
  clear hc hx h h0 hK hG
  go_enter Try.func68, Try.ntmps68
  go_wp2
  refine wp_loop_rounds 1 ?_
  rw [rounds_succ]
  go_wp2_with fail
  refine (read_off _ _ HK.out HG.out).mono ?_
  rintro e w1 ⟨rfl, hb1⟩
  have hz1 := hb1.size
  (try simp only [World.size_alloc, World.size_setCell, World.size_drew] at hz1)
  have k1_0 := fun o => (bcell hb1).1 (w.heap.size) o (by first | (simp; done) | (simp; omega) | omega)
  have l1_0 : (w.heap.size) < w1.heap.size := (by omega)
  have q1_0 := fun o => (bcell hb1).2 (w.heap.size) o (by first | (simp; done) | (simp; omega) | omega)
  have k1_1 := fun o => (bcell hb1).1 (w.heap.size + 1) o (by first | (simp; done) | (simp; omega) | omega)
  have l1_1 : (w.heap.size + 1) < w1.heap.size := (by omega)
  have q1_1 := fun o => (bcell hb1).2 (w.heap.size + 1) o (by first | (simp; done) | (simp; omega) | omega)
  simp (maxDischargeDepth := 6) [go_sem, *] at k1_0 q1_0 k1_1 q1_1
  have HB1 := Lib.hid hb1
  clear hb1
  go_wp2
  refine bodyPost_ret (v := .tuple #[.agg #[.bool false, .bool false, .bool false, .bool false, .int .i64 0], .int .i64 3]) ?_ rfl ⟨rfl, ?_⟩
  · simp (maxDischargeDepth := 8) [results, Try.results68, go_sem, *]
  · (repeat (first | (with_reducible exact Below.refl _ _) | (with_reducible refine Below.drew ?_) | (with_reducible refine bdrewN ?_ _) | ((with_reducible refine Below.setCell ?_ ?_ _); rotate_left; exact (by first | (simp; done) | (simp; omega) | omega)) | ((with_reducible refine Below.alloc ?_ ?_ _); rotate_left; exact (by first | (simp; done) | (simp; omega) | omega)) | ((with_reducible refine Below.trans ?_ (HB1.out.mono ?_)); rotate_left; exact (by first | (simp; done) | (simp; omega) | omega))))


set_option maxRecDepth 100000 in
set_option maxHeartbeats 4000000 in
theorem leaf_odd (A : Option Addr) (c : Nat) (xs : List Int) (root page : Int) (w : World) (h : Ints w w.heap.size A 512 xs) (h0 : cm xs = 0) (hin : inP root page) (x : Int) (hx : rd xs (root * 8 + page / 8) = x) (b1 b2 : Bool) (p : Int) (hG : enG x = true) (e1 : bitI x 1 = b1) (e2 : bitI x 2 = b2) (e3 : bitI x 3 = true) (ep : enP x = p) (hm : p % 8 ≠ 0) :
    Calls Try.prog 68 #[.agg #[.slice A 512 c], .int .i64 root, .int .i64 page] w fun e w' => e = .returned (.tuple #[.agg #[.bool false, .bool false, .bool false, .bool false, .int .i64 0], .int .i64 4]) ∧ Below w.heap.size w w' := by
  have HG := Lib.hid hG
  have H1 := Lib.hid e1
  have H2 := Lib.hid e2
  have H3 := Lib.hid e3
  have HP := Lib.hid ep
  have hpb := enP_bd x
  rw [ep] at hpb
  obtain ⟨hp1, hp2⟩ := hpb
  have a8 := and7 p (by omega) (by omega)
  have hm1 : (p % 8 != 0) = true := by rw [bne_iff_ne]; exact hm
  unfold inP at hin
  obtain ⟨⟨h1, h2⟩, h3, h4⟩ := hin
  obtain ⟨b, off, rfl, hb, hc⟩ := h.at_ (by omega)
  have hcx := hc _ _ (rd_at (i := root * 8 + page / 8) (cm_inv h0).1 (by omega))
  rw [hx] at hcx
  have a7 := and7 page (by omega) (by omega)
  have p0 := pair0
  have p1 := pair1
  clear hc hx h h0 hG e1 e2 e3 ep hm
  go_enter Try.func68, Try.ntmps68
  go_wp2
  refine wp_loop_rounds 1 ?_
  rw [rounds_succ]
  go_wp2_with fail
  refine (read_on _ _ _ _ _ _ HG.out H1.out H2.out H3.out HP.out).mono ?_
  rintro e w1 ⟨rfl, hb1⟩
  have hz1 := hb1.size
  (try simp only [World.size_alloc, World.size_setCell, World.size_drew] at hz1)
  have k1_0 := fun o => (bcell hb1).1 (w.heap.size) o (by first | (simp; done) | (simp; omega) | omega)
  have l1_0 : (w.heap.size) < w1.heap.size := (by omega)
  have q1_0 := fun o => (bcell hb1).2 (w.heap.size) o (by first | (simp; done) | (simp; omega) | omega)
  have k1_1 := fun o => (bcell hb1).1 (w.heap.size + 1) o (by first | (simp; done) | (simp; omega) | omega)
  have l1_1 : (w.heap.size + 1) < w1.heap.size := (by omega)
  have q1_1 := fun o => (bcell hb1).2 (w.heap.size + 1) o (by first | (simp; done) | (simp; omega) | omega)
  simp (maxDischargeDepth := 6) [go_sem, *] at k1_0 q1_0 k1_1 q1_1
  have HB1 := Lib.hid hb1
  clear hb1
  go_wp2
  refine bodyPost_ret (v := .tuple #[.agg #[.bool false, .bool false, .bool false, .bool false, .int .i64 0], .int .i64 4]) ?_ rfl ⟨rfl, ?_⟩
  · simp (maxDischargeDepth := 8) [results, Try.results68, go_sem, *]
  · (repeat (first | (with_reducible exact Below.refl _ _) | (with_reducible refine Below.drew ?_) | (with_reducible refine bdrewN ?_ _) | ((with_reducible refine Below.setCell ?_ ?_ _); rotate_left; exact (by first | (simp; done) | (simp; omega) | omega)) | ((with_reducible refine Below.alloc ?_ ?_ _); rotate_left; exact (by first | (simp; done) | (simp; omega) | omega)) | ((with_reducible refine Below.trans ?_ (HB1.out.mono ?_)); rotate_left; exact (by first | (simp; done) | (simp; omega) | omega))))


set_option maxRecDepth 100000 in
set_option maxHeartbeats 4000000 in
theorem leaf_great (A : Option Addr) (c : Nat) (xs : List Int) (root page : Int) (w : World) (h : Ints w w.heap.size A 512 xs) (h0 : cm xs = 0) (hin : inP root page) (x : Int) (hx : rd xs (root * 8 + page / 8) = x) (b1 b2 : Bool) (p : Int) (hG : enG x = true) (e1 : bitI x 1 = b1) (e2 : bitI x 2 = b2) (e3 : bitI x 3 = true) (ep : enP x = p) (hm : p % 8 = 0) :
    Calls Try.prog 68 #[.agg #[.slice A 512 c], .int .i64 root, .int .i64 page] w fun e w' => e = .returned (.tuple #[.agg #[.bool true, .bool b1, .bool b2, .bool true, .int .i64 (p + page % 8)], .int .i64 0]) ∧ Below w.heap.size w w' := by
  have HG := Lib.hid hG
  have H1 := Lib.hid e1
  have H2 := Lib.hid e2
  have H3 := Lib.hid e3
  have HP := Lib.hid ep
  have hpb := enP_bd x
  rw [ep] at hpb
  obtain ⟨hp1, hp2⟩ := hpb
  have a8 := and7 p (by omega) (by omega)
  have hm1 : (p % 8 != 0) = false := by rw [bne_eq_false_iff_eq]; exact hm
  have a9 := or8 p (page % 8) hm (by omega) (by omega) (by omega) (by omega)
  unfold inP at hin
  obtain ⟨⟨h1, h2⟩, h3, h4⟩ := hin
  obtain ⟨b, off, rfl, hb, hc⟩ := h.at_ (by omega)
  have hcx := hc _ _ (rd_at (i := root * 8 + page / 8) (cm_inv h0).1 (by omega))
  rw [hx] at hcx
  have a7 := and7 page (by omega) (by omega)
  have p0 := pair0
  have p1 := pair1
  clear hc hx h h0 hG e1 e2 e3 ep hm
  go_enter Try.func68, Try.ntmps68
  go_wp2
  refine wp_loop_rounds 1 ?_
  rw [rounds_succ]
  go_wp2_with fail
  refine (read_on _ _ _ _ _ _ HG.out H1.out H2.out H3.out HP.out).mono ?_
  rintro e w1 ⟨rfl, hb1⟩
  have hz1 := hb1.size
  (try simp only [World.size_alloc, World.size_setCell, World.size_drew] at hz1)
  have k1_0 := fun o => (bcell hb1).1 (w.heap.size) o (by first | (simp; done) | (simp; omega) | omega)
  have l1_0 : (w.heap.size) < w1.heap.size := (by omega)
  have q1_0 := fun o => (bcell hb1).2 (w.heap.size) o (by first | (simp; done) | (simp; omega) | omega)
  have k1_1 := fun o => (bcell hb1).1 (w.heap.size + 1) o (by first | (simp; done) | (simp; omega) | omega)
  have l1_1 : (w.heap.size + 1) < w1.heap.size := (by omega)
  have q1_1 := fun o => (bcell hb1).2 (w.heap.size + 1) o (by first | (simp; done) | (simp; omega) | omega)
  simp (maxDischargeDepth := 6) [go_sem, *] at k1_0 q1_0 k1_1 q1_1
  have HB1 := Lib.hid hb1
  clear hb1
  go_wp2
  refine bodyPost_ret (v := .tuple #[.agg #[.bool true, .bool b1, .bool b2, .bool true, .int .i64 (p + page % 8)], .int .i64 0]) ?_ rfl ⟨rfl, ?_⟩
  · simp (maxDischargeDepth := 8) [results, Try.results68, go_sem, *]
  · (repeat (first | (with_reducible exact Below.refl _ _) | (with_reducible refine Below.drew ?_) | (with_reducible refine bdrewN ?_ _) | ((with_reducible refine Below.setCell ?_ ?_ _); rotate_left; exact (by first | (simp; done) | (simp; omega) | omega)) | ((with_reducible refine Below.alloc ?_ ?_ _); rotate_left; exact (by first | (simp; done) | (simp; omega) | omega)) | ((with_reducible refine Below.trans ?_ (HB1.out.mono ?_)); rotate_left; exact (by first | (simp; done) | (simp; omega) | omega))))


set_option maxRecDepth 100000 in
set_option maxHeartbeats 4000000 in
theorem leaf_bad2 (A : Option Addr) (c : Nat) (xs : List Int) (root page : Int) (w : World) (h : Ints w w.heap.size A 512 xs) (h0 : cm xs = 0) (hin : inP root page) (x : Int) (hx : rd xs (root * 8 + page / 8) = x) (b1 b2 : Bool) (p : Int) (hG : enG x = true) (e1 : bitI x 1 = b1) (e2 : bitI x 2 = b2) (e3 : bitI x 3 = false) (ep : enP x = p) (y : Int) (hy : rd xs (p * 8 + page % 8) = y) (gK : enK y = false) :
    Calls Try.prog 68 #[.agg #[.slice A 512 c], .int .i64 root, .int .i64 page] w fun e w' => e = .returned (.tuple #[.agg #[.bool false, .bool false, .bool false, .bool false, .int .i64 0], .int .i64 4]) ∧ Below w.heap.size w w' := by
  have HG := Lib.hid hG
  have H1 := Lib.hid e1
  have H2 := Lib.hid e2
  have H3 := Lib.hid e3
  have HP := Lib.hid ep
  have hpb := enP_bd x
  rw [ep] at hpb
  obtain ⟨hp1, hp2⟩ := hpb
  have GK := Lib.hid gK
  unfold inP at hin
  obtain ⟨⟨h1, h2⟩, h3, h4⟩ := hin
  obtain ⟨b, off, rfl, hb, hc⟩ := h.at_ (by omega)
  have hcx := hc _ _ (rd_at (i := root * 8 + page / 8) (cm_inv h0).1 (by omega))
  rw [hx] at hcx
  have a7 := and7 page (by omega) (by omega)
  have p0 := pair0
  have p1 := pair1
  have hcy := hc _ _ (rd_at (i := p * 8 + page % 8) (cm_inv h0).1 (by omega))
  rw [hy] at hcy
  clear hc hx h h0 hG e1 e2 e3 ep hy gK
  go_enter Try.func68, Try.ntmps68
  go_wp2
  refine wp_loop_rounds 2 ?_
  rw [rounds_succ]
  go_wp2_with fail
  refine (read_on _ _ _ _ _ _ HG.out H1.out H2.out H3.out HP.out).mono ?_
  rintro e w1 ⟨rfl, hb1⟩
  have hz1 := hb1.size
  (try simp only [World.size_alloc, World.size_setCell, World.size_drew] at hz1)
  have k1_0 := fun o => (bcell hb1).1 (w.heap.size) o (by first | (simp; done) | (simp; omega) | omega)
  have l1_0 : (w.heap.size) < w1.heap.size := (by omega)
  have q1_0 := fun o => (bcell hb1).2 (w.heap.size) o (by first | (simp; done) | (simp; omega) | omega)
  have k1_1 := fun o => (bcell hb1).1 (w.heap.size + 1) o (by first | (simp; done) | (simp; omega) | omega)
  have l1_1 : (w.heap.size + 1) < w1.heap.size := (by omega)
  have q1_1 := fun o => (bcell hb1).2 (w.heap.size + 1) o (by first | (simp; done) | (simp; omega) | omega)
  have k1_2 := fun o => (bcell hb1).1 (b) o (by first | (simp; done) | (simp; omega) | omega)
  have l1_2 : (b) < w1.heap.size := (by omega)
  have q1_2 := fun o => (bcell hb1).2 (b) o (by first | (simp; done) | (simp; omega) | omega)
  simp (maxDischargeDepth := 6) [go_sem, *] at k1_0 q1_0 k1_1 q1_1 k1_2 q1_2
  have HB1 := Lib.hid hb1
  clear hb1
  go_wp2_with fail
  rw [rounds_succ]
  go_wp2_with fail
  refine (read_bad _ _ GK.out).mono ?_
  rintro e w2 ⟨rfl, hb2⟩
  have hz2 := hb2.size
  (try simp only [World.size_alloc, World.size_setCell, World.size_drew] at hz2)
  have k2_0 := fun o => (bcell hb2).1 (w.heap.size) o (by first | (simp; done) | (simp; omega) | omega)
  have l2_0 : (w.heap.size) < w2.heap.size := (by omega)
  have q2_0 := fun o => (bcell hb2).2 (w.heap.size) o (by first | (simp; done) | (simp; omega) | omega)
  have k2_1 := fun o => (bcell hb2).1 (w.heap.size + 1) o (by first | (simp; done) | (simp; omega) | omega)
  have l2_1 : (w.heap.size + 1) < w2.heap.size := (by omega)
  have q2_1 := fun o => (bcell hb2).2 (w.heap.size + 1) o (by first | (simp; done) | (simp; omega) | omega)
  simp (maxDischargeDepth := 6) [go_sem, *] at k2_0 q2_0 k2_1 q2_1
  have HB2 := Lib.hid hb2
  clear hb2
  go_wp2
  refine bodyPost_ret (v := .tuple #[.agg #[.bool false, .bool false, .bool false, .bool false, .int .i64 0], .int .i64 4]) ?_ rfl ⟨rfl, ?_⟩
  · simp (maxDischargeDepth := 8) [results, Try.results68, go_sem, *]
  · (repeat (first | (with_reducible exact Below.refl _ _) | (with_reducible refine Below.drew ?_) | (with_reducible refine bdrewN ?_ _) | ((with_reducible refine Below.setCell ?_ ?_ _); rotate_left; exact (by first | (simp; done) | (simp; omega) | omega)) | ((with_reducible refine Below.alloc ?_ ?_ _); rotate_left; exact (by first | (simp; done) | (simp; omega) | omega)) | ((with_reducible refine Below.trans ?_ (HB2.out.mono ?_)); rotate_left; exact (by first | (simp; done) | (simp; omega) | omega)) | ((with_reducible refine Below.trans ?_ (HB1.out.mono ?_)); rotate_left; exact (by first | (simp; done) | (simp; omega) | omega))))


set_option maxRecDepth 100000 in
set_option maxHeartbeats 4000000 in
theorem leaf_off2 (A : Option Addr) (c : Nat) (xs : List Int) (root page : Int) (w : World) (h : Ints w w.heap.size A 512 xs) (h0 : cm xs = 0) (hin : inP root page) (x : Int) (hx : rd xs (root * 8 + page / 8) = x) (b1 b2 : Bool) (p : Int) (hG : enG x = true) (e1 : bitI x 1 = b1) (e2 : bitI x 2 = b2) (e3 : bitI x 3 = false) (ep : enP x = p) (y : Int) (hy : rd xs (p * 8 + page % 8) = y) (gK : enK y = true) (gG : enG y = false) :
    Calls Try.prog 68 #[.agg #[.slice A 512 c], .int .i64 root, .int .i64 page] w fun e w' => e = .returned (.tuple #[.agg #[.bool false, .bool false, .bool false, .bool false, .int .i64 0], .int .i64 3]) ∧ Below w.heap.size w w' := by
  have HG := Lib.hid hG
  have H1 := Lib.hid e1
  have H2 := Lib.hid e2
  have H3 := Lib.hid e3
  have HP := Lib.hid ep
  have hpb := enP_bd x
  rw [ep] at hpb
  obtain ⟨hp1, hp2⟩ := hpb
  have GK := Lib.hid gK
  have GG := Lib.hid gG
  unfold inP at hin
  obtain ⟨⟨h1, h2⟩, h3, h4⟩ := hin
  obtain ⟨b, off, rfl, hb, hc⟩ := h.at_ (by omega)
  have hcx := hc _ _ (rd_at (i := root * 8 + page / 8) (cm_inv h0).1 (by omega))
  rw [hx] at hcx
  have a7 := and7 page (by omega) (by omega)
  have p0 := pair0
  have p1 := pair1
  have hcy := hc _ _ (rd_at (i := p * 8 + page % 8) (cm_inv h0).1 (by omega))
  rw [hy] at hcy
  clear hc hx h h0 hG e1 e2 e3 ep hy gK gG
  go_enter Try.func68, Try.ntmps68
  go_wp2
  refine wp_loop_rounds 2 ?_
  rw [rounds_succ]
  go_wp2_with fail
  refine (read_on _ _ _ _ _ _ HG.out H1.out H2.out H3.out HP.out).mono ?_
  rintro e w1 ⟨rfl, hb1⟩
  have hz1 := hb1.size
  (try simp only [World.size_alloc, World.size_setCell, World.size_drew] at hz1)
  have k1_0 := fun o => (bcell hb1).1 (w.heap.size) o (by first | (simp; done) | (simp; omega) | omega)
  have l1_0 : (w.heap.size) < w1.heap.size := (by omega)
  have q1_0 := fun o => (bcell hb1).2 (w.heap.size) o (by first | (simp; done) | (simp; omega) | omega)
  have k1_1 := fun o => (bcell hb1).1 (w.heap.size + 1) o (by first | (simp; done) | (simp; omega) | omega)
  have l1_1 : (w.heap.size + 1) < w1.heap.size := (by omega)
  have q1_1 := fun o => (bcell hb1).2 (w.heap.size + 1) o (by first | (simp; done) | (simp; omega) | omega)
  have k1_2 := fun o => (bcell hb1).1 (b) o (by first | (simp; done) | (simp; omega) | omega)
  have l1_2 : (b) < w1.heap.size := (by omega)
  have q1_2 := fun o => (bcell hb1).2 (b) o (by first | (simp; done) | (simp; omega) | omega)
  simp (maxDischargeDepth := 6) [go_sem, *] at k1_0 q1_0 k1_1 q1_1 k1_2 q1_2
  have HB1 := Lib.hid hb1
  clear hb1
  go_wp2_with fail
  rw [rounds_succ]
  go_wp2_with fail
  refine (read_off _ _ GK.out GG.out).mono ?_
  rintro e w2 ⟨rfl, hb2⟩
  have hz2 := hb2.size
  (try simp only [World.size_alloc, World.size_setCell, World.size_drew] at hz2)
  have k2_0 := fun o => (bcell hb2).1 (w.heap.size) o (by first | (simp; done) | (simp; omega) | omega)
  have l2_0 : (w.heap.size) < w2.heap.size := (by omega)
  have q2_0 := fun o => (bcell hb2).2 (w.heap.size) o (by first | (simp; done) | (simp; omega) | omega)
  have k2_1 := fun o => (bcell hb2).1 (w.heap.size + 1) o (by first | (simp; done) | (simp; omega) | omega)
  have l2_1 : (w.heap.size + 1) < w2.heap.size := (by omega)
  have q2_1 := fun o => (bcell hb2).2 (w.heap.size + 1) o (by first | (simp; done) | (simp; omega) | omega)
  simp (maxDischargeDepth := 6) [go_sem, *] at k2_0 q2_0 k2_1 q2_1
  have HB2 := Lib.hid hb2
  clear hb2
  go_wp2
  refine bodyPost_ret (v := .tuple #[.agg #[.bool false, .bool false, .bool false, .bool false, .int .i64 0], .int .i64 3]) ?_ rfl ⟨rfl, ?_⟩
  · simp (maxDischargeDepth := 8) [results, Try.results68, go_sem, *]
  · (repeat (first | (with_reducible exact Below.refl _ _) | (with_reducible refine Below.drew ?_) | (with_reducible refine bdrewN ?_ _) | ((with_reducible refine Below.setCell ?_ ?_ _); rotate_left; exact (by first | (simp; done) | (simp; omega) | omega)) | ((with_reducible refine Below.alloc ?_ ?_ _); rotate_left; exact (by first | (simp; done) | (simp; omega) | omega)) | ((with_reducible refine Below.trans ?_ (HB2.out.mono ?_)); rotate_left; exact (by first | (simp; done) | (simp; omega) | omega)) | ((with_reducible refine Below.trans ?_ (HB1.out.mono ?_)); rotate_left; exact (by first | (simp; done) | (simp; omega) | omega))))


set_option maxRecDepth 100000 in
set_option maxHeartbeats 4000000 in
theorem leaf_yes2 (A : Option Addr) (c : Nat) (xs : List Int) (root page : Int) (w : World) (h : Ints w w.heap.size A 512 xs) (h0 : cm xs = 0) (hin : inP root page) (x : Int) (hx : rd xs (root * 8 + page / 8) = x) (b1 b2 : Bool) (p : Int) (hG : enG x = true) (e1 : bitI x 1 = b1) (e2 : bitI x 2 = b2) (e3 : bitI x 3 = false) (ep : enP x = p) (y : Int) (hy : rd xs (p * 8 + page % 8) = y) (c1 c2 : Bool) (q : Int) (gG : enG y = true) (f1 : bitI y 1 = c1) (f2 : bitI y 2 = c2) (f3 : bitI y 3 = true) (fp : enP y = q) :
    Calls Try.prog 68 #[.agg #[.slice A 512 c], .int .i64 root, .int .i64 page] w fun e w' => e = .returned (.tuple #[.agg #[.bool true, .bool c1, .bool c2, .bool true, .int .i64 q], .int .i64 0]) ∧ Below w.heap.size w w' := by
  have HG := Lib.hid hG
  have H1 := Lib.hid e1
  have H2 := Lib.hid e2
  have H3 := Lib.hid e3
  have HP := Lib.hid ep
  have hpb := enP_bd x
  rw [ep] at hpb
  obtain ⟨hp1, hp2⟩ := hpb
  have GG := Lib.hid gG
  have F1 := Lib.hid f1
  have F2 := Lib.hid f2
  have F3 := Lib.hid f3
  have FP := Lib.hid fp
  unfold inP at hin
  obtain ⟨⟨h1, h2⟩, h3, h4⟩ := hin
  obtain ⟨b, off, rfl, hb, hc⟩ := h.at_ (by omega)
  have hcx := hc _ _ (rd_at (i := root * 8 + page / 8) (cm_inv h0).1 (by omega))
  rw [hx] at hcx
  have a7 := and7 page (by omega) (by omega)
  have p0 := pair0
  have p1 := pair1
  have hcy := hc _ _ (rd_at (i := p * 8 + page % 8) (cm_inv h0).1 (by omega))
  rw [hy] at hcy
  clear hc hx h h0 hG e1 e2 e3 ep hy gG f1 f2 f3 fp
  go_enter Try.func68, Try.ntmps68
  go_wp2
  refine wp_loop_rounds 2 ?_
  rw [rounds_succ]
  go_wp2_with fail
  refine (read_on _ _ _ _ _ _ HG.out H1.out H2.out H3.out HP.out).mono ?_
  rintro e w1 ⟨rfl, hb1⟩
  have hz1 := hb1.size
  (try simp only [World.size_alloc, World.size_setCell, World.size_drew] at hz1)
  have k1_0 := fun o => (bcell hb1).1 (w.heap.size) o (by first | (simp; done) | (simp; omega) | omega)
  have l1_0 : (w.heap.size) < w1.heap.size := (by omega)
  have q1_0 := fun o => (bcell hb1).2 (w.heap.size) o (by first | (simp; done) | (simp; omega) | omega)
  have k1_1 := fun o => (bcell hb1).1 (w.heap.size + 1) o (by first | (simp; done) | (simp; omega) | omega)
  have l1_1 : (w.heap.size + 1) < w1.heap.size := (by omega)
  have q1_1 := fun o => (bcell hb1).2 (w.heap.size + 1) o (by first | (simp; done) | (simp; omega) | omega)
  have k1_2 := fun o => (bcell hb1).1 (b) o (by first | (simp; done) | (simp; omega) | omega)
  have l1_2 : (b) < w1.heap.size := (by omega)
  have q1_2 := fun o => (bcell hb1).2 (b) o (by first | (simp; done) | (simp; omega) | omega)
  simp (maxDischargeDepth := 6) [go_sem, *] at k1_0 q1_0 k1_1 q1_1 k1_2 q1_2
  have HB1 := Lib.hid hb1
  clear hb1
  go_wp2_with fail
  rw [rounds_succ]
  go_wp2_with fail
  refine (read_on _ _ _ _ _ _ GG.out F1.out F2.out F3.out FP.out).mono ?_
  rintro e w2 ⟨rfl, hb2⟩
  have hz2 := hb2.size
  (try simp only [World.size_alloc, World.size_setCell, World.size_drew] at hz2)
  have k2_0 := fun o => (bcell hb2).1 (w.heap.size) o (by first | (simp; done) | (simp; omega) | omega)
  have l2_0 : (w.heap.size) < w2.heap.size := (by omega)
  have q2_0 := fun o => (bcell hb2).2 (w.heap.size) o (by first | (simp; done) | (simp; omega) | omega)
  have k2_1 := fun o => (bcell hb2).1 (w.heap.size + 1) o (by first | (simp; done) | (simp; omega) | omega)
  have l2_1 : (w.heap.size + 1) < w2.heap.size := (by omega)
  have q2_1 := fun o => (bcell hb2).2 (w.heap.size + 1) o (by first | (simp; done) | (simp; omega) | omega)
  simp (maxDischargeDepth := 6) [go_sem, *] at k2_0 q2_0 k2_1 q2_1
  have HB2 := Lib.hid hb2
  clear hb2
  go_wp2
  refine bodyPost_ret (v := .tuple #[.agg #[.bool true, .bool c1, .bool c2, .bool true, .int .i64 q], .int .i64 0]) ?_ rfl ⟨rfl, ?_⟩
  · simp (maxDischargeDepth := 8) [results, Try.results68, go_sem, *]
  · (repeat (first | (with_reducible exact Below.refl _ _) | (with_reducible refine Below.drew ?_) | (with_reducible refine bdrewN ?_ _) | ((with_reducible refine Below.setCell ?_ ?_ _); rotate_left; exact (by first | (simp; done) | (simp; omega) | omega)) | ((with_reducible refine Below.alloc ?_ ?_ _); rotate_left; exact (by first | (simp; done) | (simp; omega) | omega)) | ((with_reducible refine Below.trans ?_ (HB2.out.mono ?_)); rotate_left; exact (by first | (simp; done) | (simp; omega) | omega)) | ((with_reducible refine Below.trans ?_ (HB1.out.mono ?_)); rotate_left; exact (by first | (simp; done) | (simp; omega) | omega))))


set_option maxRecDepth 100000 in
set_option maxHeartbeats 4000000 in
theorem leaf_none2 (A : Option Addr) (c : Nat) (xs : List Int) (root page : Int) (w : World) (h : Ints w w.heap.size A 512 xs) (h0 : cm xs = 0) (hin : inP root page) (x : Int) (hx : rd xs (root * 8 + page / 8) = x) (b1 b2 : Bool) (p : Int) (hG : enG x = true) (e1 : bitI x 1 = b1) (e2 : bitI x 2 = b2) (e3 : bitI x 3 = false) (ep : enP x = p) (y : Int) (hy : rd xs (p * 8 + page % 8) = y) (c1 c2 : Bool) (q : Int) (gG : enG y = true) (f1 : bitI y 1 = c1) (f2 : bitI y 2 = c2) (f3 : bitI y 3 = false) (fp : enP y = q) :
    Calls Try.prog 68 #[.agg #[.slice A 512 c], .int .i64 root, .int .i64 page] w fun e w' => e = .returned (.tuple #[.agg #[.bool false, .bool false, .bool false, .bool false, .int .i64 0], .int .i64 4]) ∧ Below w.heap.size w w' := by
  have HG := Lib.hid hG
  have H1 := Lib.hid e1
  have H2 := Lib.hid e2
  have H3 := Lib.hid e3
  have HP := Lib.hid ep
  have hpb := enP_bd x
  rw [ep] at hpb
  obtain ⟨hp1, hp2⟩ := hpb
  have GG := Lib.hid gG
  have F1 := Lib.hid f1
  have F2 := Lib.hid f2
  have F3 := Lib.hid f3
  have FP := Lib.hid fp
  unfold inP at hin
  obtain ⟨⟨h1, h2⟩, h3, h4⟩ := hin
  obtain ⟨b, off, rfl, hb, hc⟩ := h.at_ (by omega)
  have hcx := hc _ _ (rd_at (i := root * 8 + page / 8) (cm_inv h0).1 (by omega))
  rw [hx] at hcx
  have a7 := and7 page (by omega) (by omega)
  have p0 := pair0
  have p1 := pair1
  have hcy := hc _ _ (rd_at (i := p * 8 + page % 8) (cm_inv h0).1 (by omega))
  rw [hy] at hcy
  clear hc hx h h0 hG e1 e2 e3 ep hy gG f1 f2 f3 fp
  go_enter Try.func68, Try.ntmps68
  go_wp2
  refine wp_loop_rounds 3 ?_
  rw [rounds_succ]
  go_wp2_with fail
  refine (read_on _ _ _ _ _ _ HG.out H1.out H2.out H3.out HP.out).mono ?_
  rintro e w1 ⟨rfl, hb1⟩
  have hz1 := hb1.size
  (try simp only [World.size_alloc, World.size_setCell, World.size_drew] at hz1)
  have k1_0 := fun o => (bcell hb1).1 (w.heap.size) o (by first | (simp; done) | (simp; omega) | omega)
  have l1_0 : (w.heap.size) < w1.heap.size := (by omega)
  have q1_0 := fun o => (bcell hb1).2 (w.heap.size) o (by first | (simp; done) | (simp; omega) | omega)
  have k1_1 := fun o => (bcell hb1).1 (w.heap.size + 1) o (by first | (simp; done) | (simp; omega) | omega)
  have l1_1 : (w.heap.size + 1) < w1.heap.size := (by omega)
  have q1_1 := fun o => (bcell hb1).2 (w.heap.size + 1) o (by first | (simp; done) | (simp; omega) | omega)
  have k1_2 := fun o => (bcell hb1).1 (b) o (by first | (simp; done) | (simp; omega) | omega)
  have l1_2 : (b) < w1.heap.size := (by omega)
  have q1_2 := fun o => (bcell hb1).2 (b) o (by first | (simp; done) | (simp; omega) | omega)
  simp (maxDischargeDepth := 6) [go_sem, *] at k1_0 q1_0 k1_1 q1_1 k1_2 q1_2
  have HB1 := Lib.hid hb1
  clear hb1
  go_wp2_with fail
  rw [rounds_succ]
  go_wp2_with fail
  refine (read_on _ _ _ _ _ _ GG.out F1.out F2.out F3.out FP.out).mono ?_
  rintro e w2 ⟨rfl, hb2⟩
  have hz2 := hb2.size
  (try simp only [World.size_alloc, World.size_setCell, World.size_drew] at hz2)
  have k2_0 := fun o => (bcell hb2).1 (w.heap.size) o (by first | (simp; done) | (simp; omega) | omega)
  have l2_0 : (w.heap.size) < w2.heap.size := (by omega)
  have q2_0 := fun o => (bcell hb2).2 (w.heap.size) o (by first | (simp; done) | (simp; omega) | omega)
  have k2_1 := fun o => (bcell hb2).1 (w.heap.size + 1) o (by first | (simp; done) | (simp; omega) | omega)
  have l2_1 : (w.heap.size + 1) < w2.heap.size := (by omega)
  have q2_1 := fun o => (bcell hb2).2 (w.heap.size + 1) o (by first | (simp; done) | (simp; omega) | omega)
  simp (maxDischargeDepth := 6) [go_sem, *] at k2_0 q2_0 k2_1 q2_1
  have HB2 := Lib.hid hb2
  clear hb2
  go_wp2
  rw [rounds_succ]
  go_wp2
  refine bodyPost_ret (v := .tuple #[.agg #[.bool false, .bool false, .bool false, .bool false, .int .i64 0], .int .i64 4]) ?_ rfl ⟨rfl, ?_⟩
  · simp (maxDischargeDepth := 8) [results, Try.results68, go_sem, *]
  · (repeat (first | (with_reducible exact Below.refl _ _) | (with_reducible refine Below.drew ?_) | (with_reducible refine bdrewN ?_ _) | ((with_reducible refine Below.setCell ?_ ?_ _); rotate_left; exact (by first | (simp; done) | (simp; omega) | omega)) | ((with_reducible refine Below.alloc ?_ ?_ _); rotate_left; exact (by first | (simp; done) | (simp; omega) | omega)) | ((with_reducible refine Below.trans ?_ (HB2.out.mono ?_)); rotate_left; exact (by first | (simp; done) | (simp; omega) | omega)) | ((with_reducible refine Below.trans ?_ (HB1.out.mono ?_)); rotate_left; exact (by first | (simp; done) | (simp; omega) | omega))))


set_option maxRecDepth 100000 in
set_option maxHeartbeats 1000000 in
theorem walk_leaf (A : Option Addr) (c : Nat) (xs : List Int) (root page : Int) (w : World) (h : Ints w w.heap.size A 512 xs) (h0 : cm xs = 0) (hin : inP root page) :
    Calls Try.prog 68 #[.agg #[.slice A 512 c], .int .i64 root, .int .i64 page] w fun e w' => e = .returned (.tuple #[(leafM xs root page).1.val, .int .i64 (leafM xs root page).2]) ∧ Below w.heap.size w w' := by
  by_cases hK : enK (rd xs (root * 8 + page / 8)) = true
  · by_cases hG : enG (rd xs (root * 8 + page / 8)) = true
    · cases h3 : bitI (rd xs (root * 8 + page / 8)) 3
      · have e : leafM xs root page = leaf2 xs (enP (rd xs (root * 8 + page / 8))) page := by simp [leafM, hK, hG, h3]
        rw [e]
        generalize hp : enP (rd xs (root * 8 + page / 8)) = p
        by_cases gK : enK (rd xs (p * 8 + page % 8)) = true
        · by_cases gG : enG (rd xs (p * 8 + page % 8)) = true
          · cases g3 : bitI (rd xs (p * 8 + page % 8)) 3
            · have e : leaf2 xs p page = (.no, 4) := by simp [leaf2, gK, gG, g3]
              rw [e]
              exact leaf_none2 A c xs root page w h h0 hin _ rfl _ _ p hG rfl rfl h3 hp _ rfl _ _ _ gG rfl rfl g3 rfl
            · have e : leaf2 xs p page = (entAt (rd xs (p * 8 + page % 8)), 0) := by simp [leaf2, gK, gG, g3]
              rw [e]
              refine (leaf_yes2 A c xs root page w h h0 hin _ rfl _ _ p hG rfl rfl h3 hp _ rfl _ _ _ gG rfl rfl g3 rfl).mono fun e w' ⟨he, hb⟩ => ⟨?_, hb⟩
              rw [he]; simp only [Ent.val, entAt, g3]
          · have e : leaf2 xs p page = (.no, 3) := by simp [leaf2, gK, gG]
            rw [e]
            exact leaf_off2 A c xs root page w h h0 hin _ rfl _ _ p hG rfl rfl h3 hp _ rfl gK (by simpa using gG)
        · have e : leaf2 xs p page = (.no, 4) := by simp [leaf2, gK]
          rw [e]
          exact leaf_bad2 A c xs root page w h h0 hin _ rfl _ _ p hG rfl rfl h3 hp _ rfl (by simpa using gK)
      · generalize hp : enP (rd xs (root * 8 + page / 8)) = p
        by_cases hm : p % 8 = 0
        · have e : leafM xs root page = ({ entAt (rd xs (root * 8 + page / 8)) with p := p + page % 8 }, 0) := by simp [leafM, hK, hG, h3, hp, hm]
          rw [e]
          refine (leaf_great A c xs root page w h h0 hin _ rfl _ _ p hG rfl rfl h3 hp hm).mono fun e w' ⟨he, hb⟩ => ⟨?_, hb⟩
          rw [he]; simp only [Ent.val, entAt, h3]
        · have e : leafM xs root page = (.no, 4) := by simp [leafM, hK, hG, h3, hp, hm]
          rw [e]
          exact leaf_odd A c xs root page w h h0 hin _ rfl _ _ p hG rfl rfl h3 hp hm
    · have e : leafM xs root page = (.no, 3) := by simp [leafM, hK, hG]
      rw [e]
      exact leaf_off A c xs root page w h h0 hin _ rfl hK (by simpa using hG)
  · have e : leafM xs root page = (.no, 4) := by simp [leafM, hK]
    rw [e]
    exact leaf_bad A c xs root page w h h0 hin _ rfl (by simpa using hK)
end Go.Proofs.Ytbopdijnojaaiad
