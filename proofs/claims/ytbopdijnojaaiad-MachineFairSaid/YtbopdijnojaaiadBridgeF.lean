/- The bridge: the walk of the program's fresh. No statement of the seat is proved here. -/
import Derived.Test.YtbopdijnojaaiadBridgeC
import Derived.Test.YtbopdijnojaaiadWalkW
import Derived.Test.YtbopdijnojaaiadEntryX
namespace Go.Proofs.Ytbopdijnojaaiad
open Go.RowKit
set_option linter.unusedSimpArgs false
set_option linter.unusedVariables false

def LineV (x : Line) : Value := .agg #[.int .i64 x.dev, .int .i64 x.page, .int .i64 x.at_, .bool x.rd, .bool x.wr]
theorem ctx_bad (x : Int) (w : World) (h : cxK x = false) : Calls Try.prog 65 #[.int .i64 x] w fun e w' => e = .returned (.tuple #[.agg #[.bool false, .bool false, .int .i64 0], .bool false]) ∧ Below w.heap.size w w' :=
  (entry_ReadContext x w).mono fun e w' ⟨he, hb⟩ => ⟨by
    have hg : cxG x = false := by
      cases h' : cxG x with
      | false => rfl
      | true => rw [cxG_K h'] at h; cases h
    rw [he, cxV_eq, hg, h]; simp [cxR, hg], hb⟩
theorem ctx_off (x : Int) (w : World) (h : cxK x = true) (hg : cxG x = false) : Calls Try.prog 65 #[.int .i64 x] w fun e w' => e = .returned (.tuple #[.agg #[.bool false, .bool false, .int .i64 0], .bool true]) ∧ Below w.heap.size w w' :=
  (entry_ReadContext x w).mono fun e w' ⟨he, hb⟩ => ⟨by rw [he, cxV_eq, hg, h]; simp [cxR, hg], hb⟩
theorem ctx_on (x : Int) (s : Bool) (r : Int) (w : World) (hg : cxG x = true) (hs : bitI x 1 = s) (hr : cxR x = r) : Calls Try.prog 65 #[.int .i64 x] w fun e w' => e = .returned (.tuple #[.agg #[.bool true, .bool s, .int .i64 r], .bool true]) ∧ Below w.heap.size w w' :=
  (entry_ReadContext x w).mono fun e w' ⟨he, hb⟩ => ⟨by rw [he, cxV_eq, hg, cxG_K hg, hs, hr]; simp, hb⟩

set_option maxRecDepth 100000 in
set_option maxHeartbeats 4000000 in
theorem fresh_bad (xs : List Int) (m : Option Addr) (cm' : Nat) (b : Brg) (A : Option Addr) (n c : Nat) (d p : Int) (wr : Bool) (w : World) (hm : Ints w w.heap.size m 512 xs) (h0 : cm xs = 0) (hbase : 0 ≤ b.base ∧ b.base < 64) (hin : inD d p) (x : Int) (hx : rd xs (b.base * 8 + d) = x) (hK : cxK x = false) :
    Calls Try.prog 62 #[.agg #[.slice m 512 cm'], .agg #[.int .i64 b.mode, .int .i64 b.base, .slice A n c, .int .i64 b.orders.page, .int .i64 b.orders.head, .int .i64 b.orders.tail, .bool b.stopped, .int .i64 b.fences, .int .i64 b.faults.page, .int .i64 b.faults.head, .int .i64 b.faults.tail, .bool b.lost], .int .i64 d, .int .i64 p, .bool wr] w fun e w' => e = .returned (.tuple #[.agg #[.int .i64 0, .int .i64 0, .int .i64 0, .bool false, .bool false], .bool false, .int .i64 2]) ∧ Below w.heap.size w w' := by
  have HM := Lib.hid hm
  have H0 := Lib.hid h0
  have HK := Lib.hid hK
  unfold inD at hin
  obtain ⟨⟨d1, d2⟩, d3, d4⟩ := hin
  obtain ⟨g1, g2⟩ := hbase
  obtain ⟨mb, moff, rfl, hmb, hmc⟩ := hm.at_ (by omega)
  have hcx := hmc _ _ (rd_at (i := b.base * 8 + d) (cm_inv h0).1 (by omega))
  rw [hx] at hcx
  have hb2 : mb < w.heap.size + 1 := by omega
  have hb3 : mb < w.heap.size + 1 + 1 := by omega
  clear hm h0 hmc hx hK
  go_enter Try.func62, Try.ntmps62
  go_wp2_with fail
  refine (ctx_bad _ _ HK.out).mono ?_
  rintro e w1 ⟨rfl, hb1⟩
  have hz1 := hb1.size
  (try simp only [World.size_alloc, World.size_setCell, World.size_drew] at hz1)
  have k1_0 := fun o => (bcell hb1).1 (w.heap.size) o (by first | (simp; done) | (simp; omega) | omega)
  have l1_0 : (w.heap.size) < w1.heap.size := (by omega)
  have q1_0 := fun o => (bcell hb1).2 (w.heap.size) o (by first | (simp; done) | (simp; omega) | omega)
  have k1_1 := fun o => (bcell hb1).1 (w.heap.size + 1 + 1) o (by first | (simp; done) | (simp; omega) | omega)
  have l1_1 : (w.heap.size + 1 + 1) < w1.heap.size := (by omega)
  have q1_1 := fun o => (bcell hb1).2 (w.heap.size + 1 + 1) o (by first | (simp; done) | (simp; omega) | omega)
  simp (maxDischargeDepth := 6) [go_sem, *] at k1_0 q1_0 k1_1 q1_1
  have HB1 := Lib.hid hb1
  clear hb1
  go_wp2
  refine bodyPost_ret (v := .tuple #[.agg #[.int .i64 0, .int .i64 0, .int .i64 0, .bool false, .bool false], .bool false, .int .i64 2]) ?_ rfl ⟨rfl, ?_⟩
  · simp (maxDischargeDepth := 8) [results, Try.results62, go_sem, *]
  · (repeat (first | (with_reducible exact Below.refl _ _) | (with_reducible refine Below.drew ?_) | (with_reducible refine bdrewN ?_ _) | ((with_reducible refine Below.setCell ?_ ?_ _); rotate_left; exact (by first | (simp; done) | (simp; omega) | omega)) | ((with_reducible refine Below.alloc ?_ ?_ _); rotate_left; exact (by first | (simp; done) | (simp; omega) | omega)) | ((with_reducible refine Below.trans ?_ (HB1.out.mono ?_)); rotate_left; exact (by first | (simp; done) | (simp; omega) | omega))))

set_option maxRecDepth 100000 in
set_option maxHeartbeats 4000000 in
theorem fresh_off (xs : List Int) (m : Option Addr) (cm' : Nat) (b : Brg) (A : Option Addr) (n c : Nat) (d p : Int) (wr : Bool) (w : World) (hm : Ints w w.heap.size m 512 xs) (h0 : cm xs = 0) (hbase : 0 ≤ b.base ∧ b.base < 64) (hin : inD d p) (x : Int) (hx : rd xs (b.base * 8 + d) = x) (hK : cxK x = true) (hG : cxG x = false) :
    Calls Try.prog 62 #[.agg #[.slice m 512 cm'], .agg #[.int .i64 b.mode, .int .i64 b.base, .slice A n c, .int .i64 b.orders.page, .int .i64 b.orders.head, .int .i64 b.orders.tail, .bool b.stopped, .int .i64 b.fences, .int .i64 b.faults.page, .int .i64 b.faults.head, .int .i64 b.faults.tail, .bool b.lost], .int .i64 d, .int .i64 p, .bool wr] w fun e w' => e = .returned (.tuple #[.agg #[.int .i64 0, .int .i64 0, .int .i64 0, .bool false, .bool false], .bool false, .int .i64 2]) ∧ Below w.heap.size w w' := by
  have HM := Lib.hid hm
  have H0 := Lib.hid h0
  have HK := Lib.hid hK
  have HG := Lib.hid hG
  unfold inD at hin
  obtain ⟨⟨d1, d2⟩, d3, d4⟩ := hin
  obtain ⟨g1, g2⟩ := hbase
  obtain ⟨mb, moff, rfl, hmb, hmc⟩ := hm.at_ (by omega)
  have hcx := hmc _ _ (rd_at (i := b.base * 8 + d) (cm_inv h0).1 (by omega))
  rw [hx] at hcx
  have hb2 : mb < w.heap.size + 1 := by omega
  have hb3 : mb < w.heap.size + 1 + 1 := by omega
  clear hm h0 hmc hx hK hG
  go_enter Try.func62, Try.ntmps62
  go_wp2_with fail
  refine (ctx_off _ _ HK.out HG.out).mono ?_
  rintro e w1 ⟨rfl, hb1⟩
  have hz1 := hb1.size
  (try simp only [World.size_alloc, World.size_setCell, World.size_drew] at hz1)
  have k1_0 := fun o => (bcell hb1).1 (w.heap.size) o (by first | (simp; done) | (simp; omega) | omega)
  have l1_0 : (w.heap.size) < w1.heap.size := (by omega)
  have q1_0 := fun o => (bcell hb1).2 (w.heap.size) o (by first | (simp; done) | (simp; omega) | omega)
  have k1_1 := fun o => (bcell hb1).1 (w.heap.size + 1 + 1) o (by first | (simp; done) | (simp; omega) | omega)
  have l1_1 : (w.heap.size + 1 + 1) < w1.heap.size := (by omega)
  have q1_1 := fun o => (bcell hb1).2 (w.heap.size + 1 + 1) o (by first | (simp; done) | (simp; omega) | omega)
  simp (maxDischargeDepth := 6) [go_sem, *] at k1_0 q1_0 k1_1 q1_1
  have HB1 := Lib.hid hb1
  clear hb1
  go_wp2
  refine bodyPost_ret (v := .tuple #[.agg #[.int .i64 0, .int .i64 0, .int .i64 0, .bool false, .bool false], .bool false, .int .i64 2]) ?_ rfl ⟨rfl, ?_⟩
  · simp (maxDischargeDepth := 8) [results, Try.results62, go_sem, *]
  · (repeat (first | (with_reducible exact Below.refl _ _) | (with_reducible refine Below.drew ?_) | (with_reducible refine bdrewN ?_ _) | ((with_reducible refine Below.setCell ?_ ?_ _); rotate_left; exact (by first | (simp; done) | (simp; omega) | omega)) | ((with_reducible refine Below.alloc ?_ ?_ _); rotate_left; exact (by first | (simp; done) | (simp; omega) | omega)) | ((with_reducible refine Below.trans ?_ (HB1.out.mono ?_)); rotate_left; exact (by first | (simp; done) | (simp; omega) | omega))))

set_option maxRecDepth 100000 in
set_option maxHeartbeats 4000000 in
theorem fresh_pass (xs : List Int) (m : Option Addr) (cm' : Nat) (b : Brg) (A : Option Addr) (n c : Nat) (d p : Int) (wr : Bool) (w : World) (hm : Ints w w.heap.size m 512 xs) (h0 : cm xs = 0) (hbase : 0 ≤ b.base ∧ b.base < 64) (hin : inD d p) (x : Int) (hx : rd xs (b.base * 8 + d) = x) (r : Int) (hG : cxG x = true) (hs : bitI x 1 = true) (hr : cxR x = r) :
    Calls Try.prog 62 #[.agg #[.slice m 512 cm'], .agg #[.int .i64 b.mode, .int .i64 b.base, .slice A n c, .int .i64 b.orders.page, .int .i64 b.orders.head, .int .i64 b.orders.tail, .bool b.stopped, .int .i64 b.fences, .int .i64 b.faults.page, .int .i64 b.faults.head, .int .i64 b.faults.tail, .bool b.lost], .int .i64 d, .int .i64 p, .bool wr] w fun e w' => e = .returned (.tuple #[.agg #[.int .i64 d, .int .i64 p, .int .i64 p, .bool true, .bool true], .bool false, .int .i64 0]) ∧ Below w.heap.size w w' := by
  have HM := Lib.hid hm
  have H0 := Lib.hid h0
  have HG := Lib.hid hG
  have HS := Lib.hid hs
  have HR := Lib.hid hr
  unfold inD at hin
  obtain ⟨⟨d1, d2⟩, d3, d4⟩ := hin
  obtain ⟨g1, g2⟩ := hbase
  obtain ⟨mb, moff, rfl, hmb, hmc⟩ := hm.at_ (by omega)
  have hcx := hmc _ _ (rd_at (i := b.base * 8 + d) (cm_inv h0).1 (by omega))
  rw [hx] at hcx
  have hb2 : mb < w.heap.size + 1 := by omega
  have hb3 : mb < w.heap.size + 1 + 1 := by omega
  clear hm h0 hmc hx hG hs hr
  go_enter Try.func62, Try.ntmps62
  go_wp2_with fail
  refine (ctx_on _ _ _ _ HG.out HS.out HR.out).mono ?_
  rintro e w1 ⟨rfl, hb1⟩
  have hz1 := hb1.size
  (try simp only [World.size_alloc, World.size_setCell, World.size_drew] at hz1)
  have k1_0 := fun o => (bcell hb1).1 (w.heap.size) o (by first | (simp; done) | (simp; omega) | omega)
  have l1_0 : (w.heap.size) < w1.heap.size := (by omega)
  have q1_0 := fun o => (bcell hb1).2 (w.heap.size) o (by first | (simp; done) | (simp; omega) | omega)
  have k1_1 := fun o => (bcell hb1).1 (w.heap.size + 1 + 1) o (by first | (simp; done) | (simp; omega) | omega)
  have l1_1 : (w.heap.size + 1 + 1) < w1.heap.size := (by omega)
  have q1_1 := fun o => (bcell hb1).2 (w.heap.size + 1 + 1) o (by first | (simp; done) | (simp; omega) | omega)
  simp (maxDischargeDepth := 6) [go_sem, *] at k1_0 q1_0 k1_1 q1_1
  have HB1 := Lib.hid hb1
  clear hb1
  go_wp2
  refine bodyPost_ret (v := .tuple #[.agg #[.int .i64 d, .int .i64 p, .int .i64 p, .bool true, .bool true], .bool false, .int .i64 0]) ?_ rfl ⟨rfl, ?_⟩
  · simp (maxDischargeDepth := 8) [results, Try.results62, go_sem, *]
  · (repeat (first | (with_reducible exact Below.refl _ _) | (with_reducible refine Below.drew ?_) | (with_reducible refine bdrewN ?_ _) | ((with_reducible refine Below.setCell ?_ ?_ _); rotate_left; exact (by first | (simp; done) | (simp; omega) | omega)) | ((with_reducible refine Below.alloc ?_ ?_ _); rotate_left; exact (by first | (simp; done) | (simp; omega) | omega)) | ((with_reducible refine Below.trans ?_ (HB1.out.mono ?_)); rotate_left; exact (by first | (simp; done) | (simp; omega) | omega))))

set_option maxRecDepth 100000 in
set_option maxHeartbeats 4000000 in
theorem fresh_fault (xs : List Int) (m : Option Addr) (cm' : Nat) (b : Brg) (A : Option Addr) (n c : Nat) (d p : Int) (wr : Bool) (w : World) (hm : Ints w w.heap.size m 512 xs) (h0 : cm xs = 0) (hbase : 0 ≤ b.base ∧ b.base < 64) (hin : inD d p) (x : Int) (hx : rd xs (b.base * 8 + d) = x) (r : Int) (hG : cxG x = true) (hs : bitI x 1 = false) (hr : cxR x = r) (v r' u l : Bool) (q f : Int) (hq : walkA xs r p wr = (⟨v, r', u, l, q⟩, f, 0)) (hf : f ≠ 0) :
    Calls Try.prog 62 #[.agg #[.slice m 512 cm'], .agg #[.int .i64 b.mode, .int .i64 b.base, .slice A n c, .int .i64 b.orders.page, .int .i64 b.orders.head, .int .i64 b.orders.tail, .bool b.stopped, .int .i64 b.fences, .int .i64 b.faults.page, .int .i64 b.faults.head, .int .i64 b.faults.tail, .bool b.lost], .int .i64 d, .int .i64 p, .bool wr] w fun e w' => e = .returned (.tuple #[.agg #[.int .i64 0, .int .i64 0, .int .i64 0, .bool false, .bool false], .bool false, .int .i64 f]) ∧ Below w.heap.size w w' := by
  have HM := Lib.hid hm
  have H0 := Lib.hid h0
  have HG := Lib.hid hG
  have HS := Lib.hid hs
  have HR := Lib.hid hr
  have HQ := Lib.hid hq
  have tf : (f != 0) = true := by rw [bne_iff_ne]; exact hf
  unfold inD at hin
  obtain ⟨⟨d1, d2⟩, d3, d4⟩ := hin
  obtain ⟨g1, g2⟩ := hbase
  obtain ⟨mb, moff, rfl, hmb, hmc⟩ := hm.at_ (by omega)
  have hcx := hmc _ _ (rd_at (i := b.base * 8 + d) (cm_inv h0).1 (by omega))
  rw [hx] at hcx
  have hb2 : mb < w.heap.size + 1 := by omega
  have hb3 : mb < w.heap.size + 1 + 1 := by omega
  clear hm h0 hmc hx hG hs hr hq hf
  go_enter Try.func62, Try.ntmps62
  go_wp2_with fail
  refine (ctx_on _ _ _ _ HG.out HS.out HR.out).mono ?_
  rintro e w1 ⟨rfl, hb1⟩
  have hz1 := hb1.size
  (try simp only [World.size_alloc, World.size_setCell, World.size_drew] at hz1)
  have k1_0 := fun o => (bcell hb1).1 (w.heap.size) o (by first | (simp; done) | (simp; omega) | omega)
  have l1_0 : (w.heap.size) < w1.heap.size := (by omega)
  have q1_0 := fun o => (bcell hb1).2 (w.heap.size) o (by first | (simp; done) | (simp; omega) | omega)
  have k1_1 := fun o => (bcell hb1).1 (w.heap.size + 1 + 1) o (by first | (simp; done) | (simp; omega) | omega)
  have l1_1 : (w.heap.size + 1 + 1) < w1.heap.size := (by omega)
  have q1_1 := fun o => (bcell hb1).2 (w.heap.size + 1 + 1) o (by first | (simp; done) | (simp; omega) | omega)
  simp (maxDischargeDepth := 6) [go_sem, *] at k1_0 q1_0 k1_1 q1_1
  have HB1 := Lib.hid hb1
  clear hb1
  have M1 := Lib.hid (((HM.out.alloc (Nat.le_refl _) (.cells #[.slice (some ⟨mb, moff, none⟩) 512 cm'] 24) |>.alloc (by simp) (.cells #[.int .i64 b.mode, .int .i64 b.base, .slice A n c, .int .i64 b.orders.page, .int .i64 b.orders.head, .int .i64 b.orders.tail, .bool b.stopped, .int .i64 b.fences, .int .i64 b.faults.page, .int .i64 b.faults.head, .int .i64 b.faults.tail, .bool b.lost] 31) |>.alloc (by simp; omega) (.cells #[.int .i64 0, .int .i64 0, .int .i64 0, .bool false, .bool false] 77)).below (HB1.out.mono (by simp; omega))).more (B' := w1.heap.size) (by omega))
  go_wp2_with fail
  refine (walk_at _ _ _ xs _ _ _ _ _ _ _ _ _ _ _ ((M1.out.alloc (Nat.le_refl _) _).more (by simp)) HQ.out).mono ?_
  rintro e w2 ⟨rfl, hb2⟩
  have hz2 := hb2.size
  (try simp only [World.size_alloc, World.size_setCell, World.size_drew] at hz2)
  have k2_0 := fun o => (bcell hb2).1 (w.heap.size + 1 + 1) o (by first | (simp; done) | (simp; omega) | omega)
  have l2_0 : (w.heap.size + 1 + 1) < w2.heap.size := (by omega)
  have q2_0 := fun o => (bcell hb2).2 (w.heap.size + 1 + 1) o (by first | (simp; done) | (simp; omega) | omega)
  have k2_1 := fun o => (bcell hb2).1 (w1.heap.size) o (by first | (simp; done) | (simp; omega) | omega)
  have l2_1 : (w1.heap.size) < w2.heap.size := (by omega)
  have q2_1 := fun o => (bcell hb2).2 (w1.heap.size) o (by first | (simp; done) | (simp; omega) | omega)
  simp (maxDischargeDepth := 6) [go_sem, *] at k2_0 q2_0 k2_1 q2_1
  have HB2 := Lib.hid hb2
  clear hb2
  go_wp2
  refine bodyPost_ret (v := .tuple #[.agg #[.int .i64 0, .int .i64 0, .int .i64 0, .bool false, .bool false], .bool false, .int .i64 f]) ?_ rfl ⟨rfl, ?_⟩
  · simp (maxDischargeDepth := 8) [results, Try.results62, go_sem, *]
  · (repeat (first | (with_reducible exact Below.refl _ _) | (with_reducible refine Below.drew ?_) | (with_reducible refine bdrewN ?_ _) | ((with_reducible refine Below.setCell ?_ ?_ _); rotate_left; exact (by first | (simp; done) | (simp; omega) | omega)) | ((with_reducible refine Below.alloc ?_ ?_ _); rotate_left; exact (by first | (simp; done) | (simp; omega) | omega)) | ((with_reducible refine Below.trans ?_ (HB2.out.mono ?_)); rotate_left; exact (by first | (simp; done) | (simp; omega) | omega)) | ((with_reducible refine Below.trans ?_ (HB1.out.mono ?_)); rotate_left; exact (by first | (simp; done) | (simp; omega) | omega))))

set_option maxRecDepth 100000 in
set_option maxHeartbeats 4000000 in
theorem fresh_keep (xs : List Int) (m : Option Addr) (cm' : Nat) (b : Brg) (A : Option Addr) (n c : Nat) (d p : Int) (wr : Bool) (w : World) (hm : Ints w w.heap.size m 512 xs) (h0 : cm xs = 0) (hbase : 0 ≤ b.base ∧ b.base < 64) (hin : inD d p) (x : Int) (hx : rd xs (b.base * 8 + d) = x) (r : Int) (hG : cxG x = true) (hs : bitI x 1 = false) (hr : cxR x = r) (v r' u l : Bool) (q f : Int) (hq : walkA xs r p wr = (⟨v, r', u, l, q⟩, f, 0)) (hf : f = 0) :
    Calls Try.prog 62 #[.agg #[.slice m 512 cm'], .agg #[.int .i64 b.mode, .int .i64 b.base, .slice A n c, .int .i64 b.orders.page, .int .i64 b.orders.head, .int .i64 b.orders.tail, .bool b.stopped, .int .i64 b.fences, .int .i64 b.faults.page, .int .i64 b.faults.head, .int .i64 b.faults.tail, .bool b.lost], .int .i64 d, .int .i64 p, .bool wr] w fun e w' => e = .returned (.tuple #[.agg #[.int .i64 d, .int .i64 p, .int .i64 q, .bool true, .bool u], .bool true, .int .i64 0]) ∧ Below w.heap.size w w' := by
  have HM := Lib.hid hm
  have H0 := Lib.hid h0
  have HG := Lib.hid hG
  have HS := Lib.hid hs
  have HR := Lib.hid hr
  subst hf
  have HQ := Lib.hid hq
  unfold inD at hin
  obtain ⟨⟨d1, d2⟩, d3, d4⟩ := hin
  obtain ⟨g1, g2⟩ := hbase
  obtain ⟨mb, moff, rfl, hmb, hmc⟩ := hm.at_ (by omega)
  have hcx := hmc _ _ (rd_at (i := b.base * 8 + d) (cm_inv h0).1 (by omega))
  rw [hx] at hcx
  have hb2 : mb < w.heap.size + 1 := by omega
  have hb3 : mb < w.heap.size + 1 + 1 := by omega
  clear hm h0 hmc hx hG hs hr hq
  go_enter Try.func62, Try.ntmps62
  go_wp2_with fail
  refine (ctx_on _ _ _ _ HG.out HS.out HR.out).mono ?_
  rintro e w1 ⟨rfl, hb1⟩
  have hz1 := hb1.size
  (try simp only [World.size_alloc, World.size_setCell, World.size_drew] at hz1)
  have k1_0 := fun o => (bcell hb1).1 (w.heap.size) o (by first | (simp; done) | (simp; omega) | omega)
  have l1_0 : (w.heap.size) < w1.heap.size := (by omega)
  have q1_0 := fun o => (bcell hb1).2 (w.heap.size) o (by first | (simp; done) | (simp; omega) | omega)
  have k1_1 := fun o => (bcell hb1).1 (w.heap.size + 1 + 1) o (by first | (simp; done) | (simp; omega) | omega)
  have l1_1 : (w.heap.size + 1 + 1) < w1.heap.size := (by omega)
  have q1_1 := fun o => (bcell hb1).2 (w.heap.size + 1 + 1) o (by first | (simp; done) | (simp; omega) | omega)
  simp (maxDischargeDepth := 6) [go_sem, *] at k1_0 q1_0 k1_1 q1_1
  have HB1 := Lib.hid hb1
  clear hb1
  have M1 := Lib.hid (((HM.out.alloc (Nat.le_refl _) (.cells #[.slice (some ⟨mb, moff, none⟩) 512 cm'] 24) |>.alloc (by simp) (.cells #[.int .i64 b.mode, .int .i64 b.base, .slice A n c, .int .i64 b.orders.page, .int .i64 b.orders.head, .int .i64 b.orders.tail, .bool b.stopped, .int .i64 b.fences, .int .i64 b.faults.page, .int .i64 b.faults.head, .int .i64 b.faults.tail, .bool b.lost] 31) |>.alloc (by simp; omega) (.cells #[.int .i64 0, .int .i64 0, .int .i64 0, .bool false, .bool false] 77)).below (HB1.out.mono (by simp; omega))).more (B' := w1.heap.size) (by omega))
  go_wp2_with fail
  refine (walk_at _ _ _ xs _ _ _ _ _ _ _ _ _ _ _ ((M1.out.alloc (Nat.le_refl _) _).more (by simp)) HQ.out).mono ?_
  rintro e w2 ⟨rfl, hb2⟩
  have hz2 := hb2.size
  (try simp only [World.size_alloc, World.size_setCell, World.size_drew] at hz2)
  have k2_0 := fun o => (bcell hb2).1 (w.heap.size + 1 + 1) o (by first | (simp; done) | (simp; omega) | omega)
  have l2_0 : (w.heap.size + 1 + 1) < w2.heap.size := (by omega)
  have q2_0 := fun o => (bcell hb2).2 (w.heap.size + 1 + 1) o (by first | (simp; done) | (simp; omega) | omega)
  have k2_1 := fun o => (bcell hb2).1 (w1.heap.size) o (by first | (simp; done) | (simp; omega) | omega)
  have l2_1 : (w1.heap.size) < w2.heap.size := (by omega)
  have q2_1 := fun o => (bcell hb2).2 (w1.heap.size) o (by first | (simp; done) | (simp; omega) | omega)
  simp (maxDischargeDepth := 6) [go_sem, *] at k2_0 q2_0 k2_1 q2_1
  have HB2 := Lib.hid hb2
  clear hb2
  go_wp2
  refine bodyPost_ret (v := .tuple #[.agg #[.int .i64 d, .int .i64 p, .int .i64 q, .bool true, .bool u], .bool true, .int .i64 0]) ?_ rfl ⟨rfl, ?_⟩
  · simp (maxDischargeDepth := 8) [results, Try.results62, go_sem, *]
  · (repeat (first | (with_reducible exact Below.refl _ _) | (with_reducible refine Below.drew ?_) | (with_reducible refine bdrewN ?_ _) | ((with_reducible refine Below.setCell ?_ ?_ _); rotate_left; exact (by first | (simp; done) | (simp; omega) | omega)) | ((with_reducible refine Below.alloc ?_ ?_ _); rotate_left; exact (by first | (simp; done) | (simp; omega) | omega)) | ((with_reducible refine Below.trans ?_ (HB2.out.mono ?_)); rotate_left; exact (by first | (simp; done) | (simp; omega) | omega)) | ((with_reducible refine Below.trans ?_ (HB1.out.mono ?_)); rotate_left; exact (by first | (simp; done) | (simp; omega) | omega))))


theorem bridge_fresh (xs : List Int) (m : Option Addr) (cm' : Nat) (b : Brg) (A : Option Addr) (n c : Nat) (d p : Int) (wr : Bool) (w : World) (hm : Ints w w.heap.size m 512 xs) (h0 : cm xs = 0) (hbase : 0 ≤ b.base ∧ b.base < 64) (hin : inD d p) :
    Calls Try.prog 62 #[.agg #[.slice m 512 cm'], .agg #[.int .i64 b.mode, .int .i64 b.base, .slice A n c, .int .i64 b.orders.page, .int .i64 b.orders.head, .int .i64 b.orders.tail, .bool b.stopped, .int .i64 b.fences, .int .i64 b.faults.page, .int .i64 b.faults.head, .int .i64 b.faults.tail, .bool b.lost], .int .i64 d, .int .i64 p, .bool wr] w fun e w' => e = .returned (.tuple #[LineV (freshM xs b d p wr).1, .bool (freshM xs b d p wr).2.1, .int .i64 (freshM xs b d p wr).2.2]) ∧ Below w.heap.size w w' := by
  by_cases hG : cxG (rd xs (b.base * 8 + d)) = true
  · cases hs : bitI (rd xs (b.base * 8 + d)) 1
    · have hin' : inP (cxR (rd xs (b.base * 8 + d))) p := by have := cxR_bd (rd xs (b.base * 8 + d)); unfold inP; unfold inD at hin; omega
      have ea : walkA xs (cxR (rd xs (b.base * 8 + d))) p wr = ((walkM xs (cxR (rd xs (b.base * 8 + d))) p wr).1, (walkM xs (cxR (rd xs (b.base * 8 + d))) p wr).2, 0) := by unfold walkA; rw [if_pos h0, if_pos hin']
      have ef : freshM xs b d p wr = if (walkM xs (cxR (rd xs (b.base * 8 + d))) p wr).2 = 0 then (⟨d, p, (walkM xs (cxR (rd xs (b.base * 8 + d))) p wr).1.p, true, (walkM xs (cxR (rd xs (b.base * 8 + d))) p wr).1.u⟩, true, 0) else (.no, false, (walkM xs (cxR (rd xs (b.base * 8 + d))) p wr).2) := by
        unfold freshM; simp only [hG, hs, if_true]; rfl
      generalize walkM xs (cxR (rd xs (b.base * 8 + d))) p wr = q at *
      obtain ⟨⟨v, r, u, l, pp⟩, f⟩ := q
      dsimp only at ea ef
      by_cases hf : f = 0
      · rw [ef, if_pos hf]
        exact fresh_keep xs m cm' b A n c d p wr w hm h0 hbase hin _ rfl _ hG hs rfl v r u l pp f ea hf
      · rw [ef, if_neg hf]
        exact fresh_fault xs m cm' b A n c d p wr w hm h0 hbase hin _ rfl _ hG hs rfl v r u l pp f ea hf
    · have ef : freshM xs b d p wr = (⟨d, p, p, true, true⟩, false, 0) := by unfold freshM; simp only [hG, hs, if_true]
      rw [ef]
      exact fresh_pass xs m cm' b A n c d p wr w hm h0 hbase hin _ rfl _ hG hs rfl
  · have ef : freshM xs b d p wr = (.no, false, 2) := by unfold freshM; simp only [hG]; rfl
    rw [ef]
    by_cases hK : cxK (rd xs (b.base * 8 + d)) = true
    · exact fresh_off xs m cm' b A n c d p wr w hm h0 hbase hin _ rfl hK (by simpa using hG)
    · exact fresh_bad xs m cm' b A n c d p wr w hm h0 hbase hin _ rfl (by simpa using hK)
end Go.Proofs.Ytbopdijnojaaiad
