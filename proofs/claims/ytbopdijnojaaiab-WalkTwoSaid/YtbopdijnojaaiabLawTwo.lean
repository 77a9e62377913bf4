/- Tables: the walk of the law WalkTwo. -/
import Derived.Test.YtbopdijnojaaiabWalked
import Derived.Test.YtbopdijnojaaiabWalkT
import Derived.Test.YtbopdijnojaaiabAt
namespace Go.Proofs.Ytbopdijnojaaiab
open Go.RowKit
set_option linter.unusedSimpArgs false
set_option linter.unusedVariables false

set_option maxRecDepth 100000 in
set_option maxHeartbeats 8000000 in
theorem Two_c (A : Option Addr) (n c : Nat) (xs : List Int) (root page : Int) (wr : Bool) (k v0 : Int) (root' page' k' v' : Int) (hr : root % 64 = root') (hp : page % 64 = page') (hk : k % 512 = k') (hv : v0 % 65536 = v') (w : World) (h : Ints w w.heap.size A n xs) (h0 : cm xs ≠ 0) (hq : walkA xs root' page' wr = (⟨false, false, false, false, 0⟩, 0, cm xs)) :
    Calls Try.prog 8 #[.agg #[.slice A n c], .int .i64 root, .int .i64 page, .bool wr, .int .i64 k, .int .i64 v0] w fun e w' => e = .returned (.bool true) ∧ Below w.heap.size w w' := by
  have HX := Lib.hid h
  have HQ := Lib.hid hq
  have t1 : (cm xs != 0) = true := by rw [bne_iff_ne]; exact h0
  clear h hq h0
  go_enter Try.func8, Try.ntmps8
  go_wp2_with (first | (go_at_call 20; refine (law_at _ _ (by simp) _).mono ?_; rintro e w' ⟨rfl, rfl⟩; simp only [hr, hp, hk, hv]))
  refine (walk_at _ _ _ xs _ _ _ _ _ _ _ _ _ _ _ ((HX.out.alloc (Nat.le_refl _) _).more (by simp)) HQ.out).mono ?_
  rintro e w1 ⟨rfl, hb1⟩
  have hz1 := hb1.size
  (try simp only [World.size_alloc, World.size_setCell, World.size_drew] at hz1)
  have k1_0 := fun o => (bcell hb1).1 (w.heap.size) o (by first | (simp; done) | (simp; omega) | omega)
  have l1_0 : (w.heap.size) < w1.heap.size := (by omega)
  have q1_0 := fun o => (bcell hb1).2 (w.heap.size) o (by first | (simp; done) | (simp; omega) | omega)
  simp (maxDischargeDepth := 6) [go_sem, *] at k1_0 q1_0
  have HB1 := Lib.hid hb1
  clear hb1
  have X1 := Lib.hid (((HX.out.alloc (Nat.le_refl _) (.cells #[.slice A n c] 24)).below (HB1.out.mono (by simp))).more (B' := w1.heap.size) (by omega) |>.alloc (Nat.le_refl _) (.cells #[.bool false, .bool false, .bool false, .bool false, .int .i64 0] 75) |>.more (B' := w1.heap.size + 1) (by omega))
  go_wp2_with fail
  refine (law_walked _).mono ?_
  rintro e w2 ⟨rfl, hb2⟩
  have hz2 := hb2.size
  (try simp only [World.size_alloc, World.size_setCell, World.size_drew] at hz2)
  have k2_0 := fun o => (bcell hb2).1 (w.heap.size) o (by first | (simp; done) | (simp; omega) | omega)
  have l2_0 : (w.heap.size) < w2.heap.size := (by omega)
  have q2_0 := fun o => (bcell hb2).2 (w.heap.size) o (by first | (simp; done) | (simp; omega) | omega)
  have k2_1 := fun o => (bcell hb2).1 (w1.heap.size) o (by first | (simp; done) | (simp; omega) | omega)
  have l2_1 : (w1.heap.size) < w2.heap.size := (by omega)
  have q2_1 := fun o => (bcell hb2).2 (w1.heap.size) o (by first | (simp; done) | (simp; omega) | omega)
  simp (maxDischargeDepth := 6) [go_sem, *] at k2_0 q2_0 k2_1 q2_1
  have HB2 := Lib.hid hb2
  clear hb2
  have X2 := Lib.hid ((X1.out.below (HB2.out.mono (by simp))).more (B' := w2.heap.size) (by omega))
  go_wp2_with fail
  refine (law_walked _).mono ?_
  rintro e w3 ⟨rfl, hb3⟩
  have hz3 := hb3.size
  (try simp only [World.size_alloc, World.size_setCell, World.size_drew] at hz3)
  have HB3 := Lib.hid hb3
  clear hb3
  go_wp2
  go_ret
  exact ⟨rfl, by (repeat (first | (with_reducible exact Below.refl _ _) | (with_reducible refine Below.drew ?_) | (with_reducible refine bdrewN ?_ _) | ((with_reducible refine Below.setCell ?_ ?_ _); rotate_left; exact (by first | (simp; done) | (simp; omega) | omega)) | ((with_reducible refine Below.alloc ?_ ?_ _); rotate_left; exact (by first | (simp; done) | (simp; omega) | omega)) | ((with_reducible refine Below.trans ?_ (HB3.out.mono ?_)); rotate_left; exact (by first | (simp; done) | (simp; omega) | omega)) | ((with_reducible refine Below.trans ?_ (HB2.out.mono ?_)); rotate_left; exact (by first | (simp; done) | (simp; omega) | omega)) | ((with_reducible refine Below.trans ?_ (HB1.out.mono ?_)); rotate_left; exact (by first | (simp; done) | (simp; omega) | omega))))⟩

set_option maxRecDepth 100000 in
set_option maxHeartbeats 8000000 in
theorem Two_bad_first (A : Option Addr) (n c : Nat) (xs : List Int) (root page : Int) (wr : Bool) (k v0 : Int) (root' page' k' v' : Int) (hr : root % 64 = root') (hp : page % 64 = page') (hk : k % 512 = k') (hv : v0 % 65536 = v') (w : World) (h : Ints w w.heap.size A n xs) (h0 : cm xs = 0) (hin : inP root' page') (v r u l : Bool) (p f : Int) (hq : walkA xs root' page' wr = (⟨v, r, u, l, p⟩, f, 0)) (hf : (f == 0) = v) (x : Int) (hx : rd xs (root' * 8 + page' / 8) = x) (hK : enK x = false) (hkf : k' = root' * 8 + page' / 8) :
    Calls Try.prog 8 #[.agg #[.slice A n c], .int .i64 root, .int .i64 page, .bool wr, .int .i64 k, .int .i64 v0] w fun e w' => e = .returned (.bool true) ∧ Below w.heap.size w w' := by
  have HX := Lib.hid h
  have HQ := Lib.hid hq
  have hn : n = 512 := by rw [← HX.out.len]; exact (cm_inv h0).1
  subst hn
  have H0 := Lib.hid h0
  have HK := Lib.hid (show 0 ≤ k' ∧ k' < 512 by omega)
  have HV := Lib.hid (show 0 ≤ v' ∧ v' ≤ 65535 by omega)
  unfold inP at hin
  obtain ⟨⟨a1, a2⟩, a3, a4⟩ := hin
  have M1 := Lib.hid ((rd_mrV h0 (show 0 ≤ root' * 8 + page' / 8 ∧ root' * 8 + page' / 8 < 512 by omega)).trans hx)
  have M2 := Lib.hid (mrE_0 h0 (show 0 ≤ root' * 8 + page' / 8 ∧ root' * 8 + page' / 8 < 512 by omega))
  have b1 : 0 ≤ k' := HK.out.1
  have tm1 : (k' == -1) = false := by rw [beq_eq_false_iff_ne]; omega
  have HE := Lib.hid hK
  have tf : (k' == root' * 8 + page' / 8) = true := by rw [beq_iff_eq]; exact hkf
  clear h hq h0 hf hx hkf hK
  go_enter Try.func8, Try.ntmps8
  go_wp2_with (first | (go_at_call 20; refine (law_at _ _ (by simp) _).mono ?_; rintro e w' ⟨rfl, rfl⟩; simp only [hr, hp, hk, hv]))
  refine (walk_at _ _ _ xs _ _ _ _ _ _ _ _ _ _ _ ((HX.out.alloc (Nat.le_refl _) _).more (by simp)) HQ.out).mono ?_
  rintro e w1 ⟨rfl, hb1⟩
  have hz1 := hb1.size
  (try simp only [World.size_alloc, World.size_setCell, World.size_drew] at hz1)
  have k1_0 := fun o => (bcell hb1).1 (w.heap.size) o (by first | (simp; done) | (simp; omega) | omega)
  have l1_0 : (w.heap.size) < w1.heap.size := (by omega)
  have q1_0 := fun o => (bcell hb1).2 (w.heap.size) o (by first | (simp; done) | (simp; omega) | omega)
  simp (maxDischargeDepth := 6) [go_sem, *] at k1_0 q1_0
  have HB1 := Lib.hid hb1
  clear hb1
  have X1 := Lib.hid (((HX.out.alloc (Nat.le_refl _) (.cells #[.slice A 512 c] 24)).below (HB1.out.mono (by simp))).more (B' := w1.heap.size) (by omega) |>.alloc (Nat.le_refl _) (.cells #[.bool v, .bool r, .bool u, .bool l, .int .i64 p] 75) |>.more (B' := w1.heap.size + 1) (by omega))
  go_wp2_with fail
  refine (law_walked _).mono ?_
  rintro e w2 ⟨rfl, hb2⟩
  have hz2 := hb2.size
  (try simp only [World.size_alloc, World.size_setCell, World.size_drew] at hz2)
  have k2_0 := fun o => (bcell hb2).1 (w.heap.size) o (by first | (simp; done) | (simp; omega) | omega)
  have l2_0 : (w.heap.size) < w2.heap.size := (by omega)
  have q2_0 := fun o => (bcell hb2).2 (w.heap.size) o (by first | (simp; done) | (simp; omega) | omega)
  have k2_1 := fun o => (bcell hb2).1 (w1.heap.size) o (by first | (simp; done) | (simp; omega) | omega)
  have l2_1 : (w1.heap.size) < w2.heap.size := (by omega)
  have q2_1 := fun o => (bcell hb2).2 (w1.heap.size) o (by first | (simp; done) | (simp; omega) | omega)
  simp (maxDischargeDepth := 6) [go_sem, *] at k2_0 q2_0 k2_1 q2_1
  have HB2 := Lib.hid hb2
  clear hb2
  have X2 := Lib.hid ((X1.out.below (HB2.out.mono (by simp))).more (B' := w2.heap.size) (by omega))
  go_wp2_with fail
  refine (mem_Read _ _ _ xs _ _ X2.out).mono ?_
  rw [M1.out, M2.out]
  rintro e w3 ⟨rfl, hb3⟩
  have hz3 := hb3.size
  (try simp only [World.size_alloc, World.size_setCell, World.size_drew] at hz3)
  have k3_0 := fun o => (bcell hb3).1 (w.heap.size) o (by first | (simp; done) | (simp; omega) | omega)
  have l3_0 : (w.heap.size) < w3.heap.size := (by omega)
  have q3_0 := fun o => (bcell hb3).2 (w.heap.size) o (by first | (simp; done) | (simp; omega) | omega)
  have k3_1 := fun o => (bcell hb3).1 (w1.heap.size) o (by first | (simp; done) | (simp; omega) | omega)
  have l3_1 : (w1.heap.size) < w3.heap.size := (by omega)
  have q3_1 := fun o => (bcell hb3).2 (w1.heap.size) o (by first | (simp; done) | (simp; omega) | omega)
  simp (maxDischargeDepth := 6) [go_sem, *] at k3_0 q3_0 k3_1 q3_1
  have HB3 := Lib.hid hb3
  clear hb3
  have X3 := Lib.hid ((X2.out.below HB3.out).more (B' := w3.heap.size) (by omega))
  go_wp2_with fail
  refine (mem_Write _ _ _ xs _ _ _ X3.out H0.out HK.out HV.out).mono ?_
  rintro e w4 ⟨A4, c4, rfl, ho4, hb4⟩
  have hz4 := hb4.size
  (try simp only [World.size_alloc, World.size_setCell, World.size_drew] at hz4)
  have k4_0 := fun o => (bcell hb4).1 (w.heap.size) o (by first | (simp; done) | (simp; omega) | omega)
  have l4_0 : (w.heap.size) < w4.heap.size := (by omega)
  have q4_0 := fun o => (bcell hb4).2 (w.heap.size) o (by first | (simp; done) | (simp; omega) | omega)
  have k4_1 := fun o => (bcell hb4).1 (w1.heap.size) o (by first | (simp; done) | (simp; omega) | omega)
  have l4_1 : (w1.heap.size) < w4.heap.size := (by omega)
  have q4_1 := fun o => (bcell hb4).2 (w1.heap.size) o (by first | (simp; done) | (simp; omega) | omega)
  simp (maxDischargeDepth := 6) [go_sem, *] at k4_0 q4_0 k4_1 q4_1
  have HB4 := Lib.hid hb4
  clear hb4
  have Y4 := Lib.hid ((ho4.ints (by decide)).alloc (Nat.le_refl _) (.cells #[.slice A4 512 c4] 24) |>.more (B' := w4.heap.size + 1) (by omega))
  clear ho4
  go_wp2_with fail
  refine (read_bad _ _ HE.out).mono ?_
  rintro e w5 ⟨rfl, hb5⟩
  have hz5 := hb5.size
  (try simp only [World.size_alloc, World.size_setCell, World.size_drew] at hz5)
  have k5_0 := fun o => (bcell hb5).1 (w.heap.size) o (by first | (simp; done) | (simp; omega) | omega)
  have l5_0 : (w.heap.size) < w5.heap.size := (by omega)
  have q5_0 := fun o => (bcell hb5).2 (w.heap.size) o (by first | (simp; done) | (simp; omega) | omega)
  have k5_1 := fun o => (bcell hb5).1 (w1.heap.size) o (by first | (simp; done) | (simp; omega) | omega)
  have l5_1 : (w1.heap.size) < w5.heap.size := (by omega)
  have q5_1 := fun o => (bcell hb5).2 (w1.heap.size) o (by first | (simp; done) | (simp; omega) | omega)
  have k5_2 := fun o => (bcell hb5).1 (w4.heap.size) o (by first | (simp; done) | (simp; omega) | omega)
  have l5_2 : (w4.heap.size) < w5.heap.size := (by omega)
  have q5_2 := fun o => (bcell hb5).2 (w4.heap.size) o (by first | (simp; done) | (simp; omega) | omega)
  simp (maxDischargeDepth := 6) [go_sem, *] at k5_0 q5_0 k5_1 q5_1 k5_2 q5_2
  have HB5 := Lib.hid hb5
  clear hb5
  have Y5 := Lib.hid ((Y4.out.below (HB5.out.mono (by simp))).more (B' := w5.heap.size) (by omega))
  go_wp2
  go_ret
  exact ⟨rfl, by (repeat (first | (with_reducible exact Below.refl _ _) | (with_reducible refine Below.drew ?_) | (with_reducible refine bdrewN ?_ _) | ((with_reducible refine Below.setCell ?_ ?_ _); rotate_left; exact (by first | (simp; done) | (simp; omega) | omega)) | ((with_reducible refine Below.alloc ?_ ?_ _); rotate_left; exact (by first | (simp; done) | (simp; omega) | omega)) | ((with_reducible refine Below.trans ?_ (HB5.out.mono ?_)); rotate_left; exact (by first | (simp; done) | (simp; omega) | omega)) | ((with_reducible refine Below.trans ?_ (HB4.out.mono ?_)); rotate_left; exact (by first | (simp; done) | (simp; omega) | omega)) | ((with_reducible refine Below.trans ?_ (HB3.out.mono ?_)); rotate_left; exact (by first | (simp; done) | (simp; omega) | omega)) | ((with_reducible refine Below.trans ?_ (HB2.out.mono ?_)); rotate_left; exact (by first | (simp; done) | (simp; omega) | omega)) | ((with_reducible refine Below.trans ?_ (HB1.out.mono ?_)); rotate_left; exact (by first | (simp; done) | (simp; omega) | omega))))⟩

set_option maxRecDepth 100000 in
set_option maxHeartbeats 8000000 in
theorem Two_bad (A : Option Addr) (n c : Nat) (xs : List Int) (root page : Int) (wr : Bool) (k v0 : Int) (root' page' k' v' : Int) (hr : root % 64 = root') (hp : page % 64 = page') (hk : k % 512 = k') (hv : v0 % 65536 = v') (w : World) (h : Ints w w.heap.size A n xs) (h0 : cm xs = 0) (hin : inP root' page') (v r u l : Bool) (p f : Int) (hq : walkA xs root' page' wr = (⟨v, r, u, l, p⟩, f, 0)) (hf : (f == 0) = v) (x : Int) (hx : rd xs (root' * 8 + page' / 8) = x) (hK : enK x = false) (hkf : k' ≠ root' * 8 + page' / 8) (hq2 : walkA (xs.set k'.toNat v') root' page' wr = (⟨v, r, u, l, p⟩, f, 0)) :
    Calls Try.prog 8 #[.agg #[.slice A n c], .int .i64 root, .int .i64 page, .bool wr, .int .i64 k, .int .i64 v0] w fun e w' => e = .returned (.bool true) ∧ Below w.heap.size w w' := by
  have HX := Lib.hid h
  have HQ := Lib.hid hq
  have hn : n = 512 := by rw [← HX.out.len]; exact (cm_inv h0).1
  subst hn
  have H0 := Lib.hid h0
  have HK := Lib.hid (show 0 ≤ k' ∧ k' < 512 by omega)
  have HV := Lib.hid (show 0 ≤ v' ∧ v' ≤ 65535 by omega)
  unfold inP at hin
  obtain ⟨⟨a1, a2⟩, a3, a4⟩ := hin
  have M1 := Lib.hid ((rd_mrV h0 (show 0 ≤ root' * 8 + page' / 8 ∧ root' * 8 + page' / 8 < 512 by omega)).trans hx)
  have M2 := Lib.hid (mrE_0 h0 (show 0 ≤ root' * 8 + page' / 8 ∧ root' * 8 + page' / 8 < 512 by omega))
  have b1 : 0 ≤ k' := HK.out.1
  have tm1 : (k' == -1) = false := by rw [beq_eq_false_iff_ne]; omega
  have HE := Lib.hid hK
  have HQ2 := Lib.hid hq2
  have tf : (k' == root' * 8 + page' / 8) = false := by rw [beq_eq_false_iff_ne]; exact hkf
  clear h hq h0 hx hkf hq2 hK
  go_enter Try.func8, Try.ntmps8
  go_wp2_with (first | (go_at_call 20; refine (law_at _ _ (by simp) _).mono ?_; rintro e w' ⟨rfl, rfl⟩; simp only [hr, hp, hk, hv]))
  refine (walk_at _ _ _ xs _ _ _ _ _ _ _ _ _ _ _ ((HX.out.alloc (Nat.le_refl _) _).more (by simp)) HQ.out).mono ?_
  rintro e w1 ⟨rfl, hb1⟩
  have hz1 := hb1.size
  (try simp only [World.size_alloc, World.size_setCell, World.size_drew] at hz1)
  have k1_0 := fun o => (bcell hb1).1 (w.heap.size) o (by first | (simp; done) | (simp; omega) | omega)
  have l1_0 : (w.heap.size) < w1.heap.size := (by omega)
  have q1_0 := fun o => (bcell hb1).2 (w.heap.size) o (by first | (simp; done) | (simp; omega) | omega)
  simp (maxDischargeDepth := 6) [go_sem, *] at k1_0 q1_0
  have HB1 := Lib.hid hb1
  clear hb1
  have X1 := Lib.hid (((HX.out.alloc (Nat.le_refl _) (.cells #[.slice A 512 c] 24)).below (HB1.out.mono (by simp))).more (B' := w1.heap.size) (by omega) |>.alloc (Nat.le_refl _) (.cells #[.bool v, .bool r, .bool u, .bool l, .int .i64 p] 75) |>.more (B' := w1.heap.size + 1) (by omega))
  go_wp2_with fail
  refine (law_walked _).mono ?_
  rintro e w2 ⟨rfl, hb2⟩
  have hz2 := hb2.size
  (try simp only [World.size_alloc, World.size_setCell, World.size_drew] at hz2)
  have k2_0 := fun o => (bcell hb2).1 (w.heap.size) o (by first | (simp; done) | (simp; omega) | omega)
  have l2_0 : (w.heap.size) < w2.heap.size := (by omega)
  have q2_0 := fun o => (bcell hb2).2 (w.heap.size) o (by first | (simp; done) | (simp; omega) | omega)
  have k2_1 := fun o => (bcell hb2).1 (w1.heap.size) o (by first | (simp; done) | (simp; omega) | omega)
  have l2_1 : (w1.heap.size) < w2.heap.size := (by omega)
  have q2_1 := fun o => (bcell hb2).2 (w1.heap.size) o (by first | (simp; done) | (simp; omega) | omega)
  simp (maxDischargeDepth := 6) [go_sem, *] at k2_0 q2_0 k2_1 q2_1
  have HB2 := Lib.hid hb2
  clear hb2
  have X2 := Lib.hid ((X1.out.below (HB2.out.mono (by simp))).more (B' := w2.heap.size) (by omega))
  go_wp2_with fail
  refine (mem_Read _ _ _ xs _ _ X2.out).mono ?_
  rw [M1.out, M2.out]
  rintro e w3 ⟨rfl, hb3⟩
  have hz3 := hb3.size
  (try simp only [World.size_alloc, World.size_setCell, World.size_drew] at hz3)
  have k3_0 := fun o => (bcell hb3).1 (w.heap.size) o (by first | (simp; done) | (simp; omega) | omega)
  have l3_0 : (w.heap.size) < w3.heap.size := (by omega)
  have q3_0 := fun o => (bcell hb3).2 (w.heap.size) o (by first | (simp; done) | (simp; omega) | omega)
  have k3_1 := fun o => (bcell hb3).1 (w1.heap.size) o (by first | (simp; done) | (simp; omega) | omega)
  have l3_1 : (w1.heap.size) < w3.heap.size := (by omega)
  have q3_1 := fun o => (bcell hb3).2 (w1.heap.size) o (by first | (simp; done) | (simp; omega) | omega)
  simp (maxDischargeDepth := 6) [go_sem, *] at k3_0 q3_0 k3_1 q3_1
  have HB3 := Lib.hid hb3
  clear hb3
  have X3 := Lib.hid ((X2.out.below HB3.out).more (B' := w3.heap.size) (by omega))
  go_wp2_with fail
  refine (mem_Write _ _ _ xs _ _ _ X3.out H0.out HK.out HV.out).mono ?_
  rintro e w4 ⟨A4, c4, rfl, ho4, hb4⟩
  have hz4 := hb4.size
  (try simp only [World.size_alloc, World.size_setCell, World.size_drew] at hz4)
  have k4_0 := fun o => (bcell hb4).1 (w.heap.size) o (by first | (simp; done) | (simp; omega) | omega)
  have l4_0 : (w.heap.size) < w4.heap.size := (by omega)
  have q4_0 := fun o => (bcell hb4).2 (w.heap.size) o (by first | (simp; done) | (simp; omega) | omega)
  have k4_1 := fun o => (bcell hb4).1 (w1.heap.size) o (by first | (simp; done) | (simp; omega) | omega)
  have l4_1 : (w1.heap.size) < w4.heap.size := (by omega)
  have q4_1 := fun o => (bcell hb4).2 (w1.heap.size) o (by first | (simp; done) | (simp; omega) | omega)
  simp (maxDischargeDepth := 6) [go_sem, *] at k4_0 q4_0 k4_1 q4_1
  have HB4 := Lib.hid hb4
  clear hb4
  have Y4 := Lib.hid ((ho4.ints (by decide)).alloc (Nat.le_refl _) (.cells #[.slice A4 512 c4] 24) |>.more (B' := w4.heap.size + 1) (by omega))
  clear ho4
  go_wp2_with fail
  refine (read_bad _ _ HE.out).mono ?_
  rintro e w5 ⟨rfl, hb5⟩
  have hz5 := hb5.size
  (try simp only [World.size_alloc, World.size_setCell, World.size_drew] at hz5)
  have k5_0 := fun o => (bcell hb5).1 (w.heap.size) o (by first | (simp; done) | (simp; omega) | omega)
  have l5_0 : (w.heap.size) < w5.heap.size := (by omega)
  have q5_0 := fun o => (bcell hb5).2 (w.heap.size) o (by first | (simp; done) | (simp; omega) | omega)
  have k5_1 := fun o => (bcell hb5).1 (w1.heap.size) o (by first | (simp; done) | (simp; omega) | omega)
  have l5_1 : (w1.heap.size) < w5.heap.size := (by omega)
  have q5_1 := fun o => (bcell hb5).2 (w1.heap.size) o (by first | (simp; done) | (simp; omega) | omega)
  have k5_2 := fun o => (bcell hb5).1 (w4.heap.size) o (by first | (simp; done) | (simp; omega) | omega)
  have l5_2 : (w4.heap.size) < w5.heap.size := (by omega)
  have q5_2 := fun o => (bcell hb5).2 (w4.heap.size) o (by first | (simp; done) | (simp; omega) | omega)
  simp (maxDischargeDepth := 6) [go_sem, *] at k5_0 q5_0 k5_1 q5_1 k5_2 q5_2
  have HB5 := Lib.hid hb5
  clear hb5
  have Y5 := Lib.hid ((Y4.out.below (HB5.out.mono (by simp))).more (B' := w5.heap.size) (by omega))
  go_wp2_with fail
  refine (walk_at _ _ _ (xs.set k'.toNat v') _ _ _ _ _ _ _ _ _ _ _ ((Y5.out.alloc (Nat.le_refl _) _).more (by simp)) HQ2.out).mono ?_
  rintro e w6 ⟨rfl, hb6⟩
  have hz6 := hb6.size
  (try simp only [World.size_alloc, World.size_setCell, World.size_drew] at hz6)
  have k6_0 := fun o => (bcell hb6).1 (w1.heap.size) o (by first | (simp; done) | (simp; omega) | omega)
  have l6_0 : (w1.heap.size) < w6.heap.size := (by omega)
  have q6_0 := fun o => (bcell hb6).2 (w1.heap.size) o (by first | (simp; done) | (simp; omega) | omega)
  simp (maxDischargeDepth := 6) [go_sem, *] at k6_0 q6_0
  have HB6 := Lib.hid hb6
  clear hb6
  go_wp2
  go_ret
  exact ⟨rfl, by (repeat (first | (with_reducible exact Below.refl _ _) | (with_reducible refine Below.drew ?_) | (with_reducible refine bdrewN ?_ _) | ((with_reducible refine Below.setCell ?_ ?_ _); rotate_left; exact (by first | (simp; done) | (simp; omega) | omega)) | ((with_reducible refine Below.alloc ?_ ?_ _); rotate_left; exact (by first | (simp; done) | (simp; omega) | omega)) | ((with_reducible refine Below.trans ?_ (HB6.out.mono ?_)); rotate_left; exact (by first | (simp; done) | (simp; omega) | omega)) | ((with_reducible refine Below.trans ?_ (HB5.out.mono ?_)); rotate_left; exact (by first | (simp; done) | (simp; omega) | omega)) | ((with_reducible refine Below.trans ?_ (HB4.out.mono ?_)); rotate_left; exact (by first | (simp; done) | (simp; omega) | omega)) | ((with_reducible refine Below.trans ?_ (HB3.out.mono ?_)); rotate_left; exact (by first | (simp; done) | (simp; omega) | omega)) | ((with_reducible refine Below.trans ?_ (HB2.out.mono ?_)); rotate_left; exact (by first | (simp; done) | (simp; omega) | omega)) | ((with_reducible refine Below.trans ?_ (HB1.out.mono ?_)); rotate_left; exact (by first | (simp; done) | (simp; omega) | omega))))⟩

set_option maxRecDepth 100000 in
set_option maxHeartbeats 8000000 in
theorem Two_off_first (A : Option Addr) (n c : Nat) (xs : List Int) (root page : Int) (wr : Bool) (k v0 : Int) (root' page' k' v' : Int) (hr : root % 64 = root') (hp : page % 64 = page') (hk : k % 512 = k') (hv : v0 % 65536 = v') (w : World) (h : Ints w w.heap.size A n xs) (h0 : cm xs = 0) (hin : inP root' page') (v r u l : Bool) (p f : Int) (hq : walkA xs root' page' wr = (⟨v, r, u, l, p⟩, f, 0)) (hf : (f == 0) = v) (x : Int) (hx : rd xs (root' * 8 + page' / 8) = x) (hK : enK x = true) (hG : enG x = false) (hkf : k' = root' * 8 + page' / 8) :
    Calls Try.prog 8 #[.agg #[.slice A n c], .int .i64 root, .int .i64 page, .bool wr, .int .i64 k, .int .i64 v0] w fun e w' => e = .returned (.bool true) ∧ Below w.heap.size w w' := by
  have HX := Lib.hid h
  have HQ := Lib.hid hq
  have hn : n = 512 := by rw [← HX.out.len]; exact (cm_inv h0).1
  subst hn
  have H0 := Lib.hid h0
  have HK := Lib.hid (show 0 ≤ k' ∧ k' < 512 by omega)
  have HV := Lib.hid (show 0 ≤ v' ∧ v' ≤ 65535 by omega)
  unfold inP at hin
  obtain ⟨⟨a1, a2⟩, a3, a4⟩ := hin
  have M1 := Lib.hid ((rd_mrV h0 (show 0 ≤ root' * 8 + page' / 8 ∧ root' * 8 + page' / 8 < 512 by omega)).trans hx)
  have M2 := Lib.hid (mrE_0 h0 (show 0 ≤ root' * 8 + page' / 8 ∧ root' * 8 + page' / 8 < 512 by omega))
  have b1 : 0 ≤ k' := HK.out.1
  have tm1 : (k' == -1) = false := by rw [beq_eq_false_iff_ne]; omega
  have HE := Lib.hid hK
  have HG := Lib.hid hG
  have tf : (k' == root' * 8 + page' / 8) = true := by rw [beq_iff_eq]; exact hkf
  clear h hq h0 hf hx hkf hK hG
  go_enter Try.func8, Try.ntmps8
  go_wp2_with (first | (go_at_call 20; refine (law_at _ _ (by simp) _).mono ?_; rintro e w' ⟨rfl, rfl⟩; simp only [hr, hp, hk, hv]))
  refine (walk_at _ _ _ xs _ _ _ _ _ _ _ _ _ _ _ ((HX.out.alloc (Nat.le_refl _) _).more (by simp)) HQ.out).mono ?_
  rintro e w1 ⟨rfl, hb1⟩
  have hz1 := hb1.size
  (try simp only [World.size_alloc, World.size_setCell, World.size_drew] at hz1)
  have k1_0 := fun o => (bcell hb1).1 (w.heap.size) o (by first | (simp; done) | (simp; omega) | omega)
  have l1_0 : (w.heap.size) < w1.heap.size := (by omega)
  have q1_0 := fun o => (bcell hb1).2 (w.heap.size) o (by first | (simp; done) | (simp; omega) | omega)
  simp (maxDischargeDepth := 6) [go_sem, *] at k1_0 q1_0
  have HB1 := Lib.hid hb1
  clear hb1
  have X1 := Lib.hid (((HX.out.alloc (Nat.le_refl _) (.cells #[.slice A 512 c] 24)).below (HB1.out.mono (by simp))).more (B' := w1.heap.size) (by omega) |>.alloc (Nat.le_refl _) (.cells #[.bool v, .bool r, .bool u, .bool l, .int .i64 p] 75) |>.more (B' := w1.heap.size + 1) (by omega))
  go_wp2_with fail
  refine (law_walked _).mono ?_
  rintro e w2 ⟨rfl, hb2⟩
  have hz2 := hb2.size
  (try simp only [World.size_alloc, World.size_setCell, World.size_drew] at hz2)
  have k2_0 := fun o => (bcell hb2).1 (w.heap.size) o (by first | (simp; done) | (simp; omega) | omega)
  have l2_0 : (w.heap.size) < w2.heap.size := (by omega)
  have q2_0 := fun o => (bcell hb2).2 (w.heap.size) o (by first | (simp; done) | (simp; omega) | omega)
  have k2_1 := fun o => (bcell hb2).1 (w1.heap.size) o (by first | (simp; done) | (simp; omega) | omega)
  have l2_1 : (w1.heap.size) < w2.heap.size := (by omega)
  have q2_1 := fun o => (bcell hb2).2 (w1.heap.size) o (by first | (simp; done) | (simp; omega) | omega)
  simp (maxDischargeDepth := 6) [go_sem, *] at k2_0 q2_0 k2_1 q2_1
  have HB2 := Lib.hid hb2
  clear hb2
  have X2 := Lib.hid ((X1.out.below (HB2.out.mono (by simp))).more (B' := w2.heap.size) (by omega))
  go_wp2_with fail
  refine (mem_Read _ _ _ xs _ _ X2.out).mono ?_
  rw [M1.out, M2.out]
  rintro e w3 ⟨rfl, hb3⟩
  have hz3 := hb3.size
  (try simp only [World.size_alloc, World.size_setCell, World.size_drew] at hz3)
  have k3_0 := fun o => (bcell hb3).1 (w.heap.size) o (by first | (simp; done) | (simp; omega) | omega)
  have l3_0 : (w.heap.size) < w3.heap.size := (by omega)
  have q3_0 := fun o => (bcell hb3).2 (w.heap.size) o (by first | (simp; done) | (simp; omega) | omega)
  have k3_1 := fun o => (bcell hb3).1 (w1.heap.size) o (by first | (simp; done) | (simp; omega) | omega)
  have l3_1 : (w1.heap.size) < w3.heap.size := (by omega)
  have q3_1 := fun o => (bcell hb3).2 (w1.heap.size) o (by first | (simp; done) | (simp; omega) | omega)
  simp (maxDischargeDepth := 6) [go_sem, *] at k3_0 q3_0 k3_1 q3_1
  have HB3 := Lib.hid hb3
  clear hb3
  have X3 := Lib.hid ((X2.out.below HB3.out).more (B' := w3.heap.size) (by omega))
  go_wp2_with fail
  refine (mem_Write _ _ _ xs _ _ _ X3.out H0.out HK.out HV.out).mono ?_
  rintro e w4 ⟨A4, c4, rfl, ho4, hb4⟩
  have hz4 := hb4.size
  (try simp only [World.size_alloc, World.size_setCell, World.size_drew] at hz4)
  have k4_0 := fun o => (bcell hb4).1 (w.heap.size) o (by first | (simp; done) | (simp; omega) | omega)
  have l4_0 : (w.heap.size) < w4.heap.size := (by omega)
  have q4_0 := fun o => (bcell hb4).2 (w.heap.size) o (by first | (simp; done) | (simp; omega) | omega)
  have k4_1 := fun o => (bcell hb4).1 (w1.heap.size) o (by first | (simp; done) | (simp; omega) | omega)
  have l4_1 : (w1.heap.size) < w4.heap.size := (by omega)
  have q4_1 := fun o => (bcell hb4).2 (w1.heap.size) o (by first | (simp; done) | (simp; omega) | omega)
  simp (maxDischargeDepth := 6) [go_sem, *] at k4_0 q4_0 k4_1 q4_1
  have HB4 := Lib.hid hb4
  clear hb4
  have Y4 := Lib.hid ((ho4.ints (by decide)).alloc (Nat.le_refl _) (.cells #[.slice A4 512 c4] 24) |>.more (B' := w4.heap.size + 1) (by omega))
  clear ho4
  go_wp2_with fail
  refine (read_off _ _ HE.out HG.out).mono ?_
  rintro e w5 ⟨rfl, hb5⟩
  have hz5 := hb5.size
  (try simp only [World.size_alloc, World.size_setCell, World.size_drew] at hz5)
  have k5_0 := fun o => (bcell hb5).1 (w.heap.size) o (by first | (simp; done) | (simp; omega) | omega)
  have l5_0 : (w.heap.size) < w5.heap.size := (by omega)
  have q5_0 := fun o => (bcell hb5).2 (w.heap.size) o (by first | (simp; done) | (simp; omega) | omega)
  have k5_1 := fun o => (bcell hb5).1 (w1.heap.size) o (by first | (simp; done) | (simp; omega) | omega)
  have l5_1 : (w1.heap.size) < w5.heap.size := (by omega)
  have q5_1 := fun o => (bcell hb5).2 (w1.heap.size) o (by first | (simp; done) | (simp; omega) | omega)
  have k5_2 := fun o => (bcell hb5).1 (w4.heap.size) o (by first | (simp; done) | (simp; omega) | omega)
  have l5_2 : (w4.heap.size) < w5.heap.size := (by omega)
  have q5_2 := fun o => (bcell hb5).2 (w4.heap.size) o (by first | (simp; done) | (simp; omega) | omega)
  simp (maxDischargeDepth := 6) [go_sem, *] at k5_0 q5_0 k5_1 q5_1 k5_2 q5_2
  have HB5 := Lib.hid hb5
  clear hb5
  have Y5 := Lib.hid ((Y4.out.below (HB5.out.mono (by simp))).more (B' := w5.heap.size) (by omega))
  go_wp2
  go_ret
  exact ⟨rfl, by (repeat (first | (with_reducible exact Below.refl _ _) | (with_reducible refine Below.drew ?_) | (with_reducible refine bdrewN ?_ _) | ((with_reducible refine Below.setCell ?_ ?_ _); rotate_left; exact (by first | (simp; done) | (simp; omega) | omega)) | ((with_reducible refine Below.alloc ?_ ?_ _); rotate_left; exact (by first | (simp; done) | (simp; omega) | omega)) | ((with_reducible refine Below.trans ?_ (HB5.out.mono ?_)); rotate_left; exact (by first | (simp; done) | (simp; omega) | omega)) | ((with_reducible refine Below.trans ?_ (HB4.out.mono ?_)); rotate_left; exact (by first | (simp; done) | (simp; omega) | omega)) | ((with_reducible refine Below.trans ?_ (HB3.out.mono ?_)); rotate_left; exact (by first | (simp; done) | (simp; omega) | omega)) | ((with_reducible refine Below.trans ?_ (HB2.out.mono ?_)); rotate_left; exact (by first | (simp; done) | (simp; omega) | omega)) | ((with_reducible refine Below.trans ?_ (HB1.out.mono ?_)); rotate_left; exact (by first | (simp; done) | (simp; omega) | omega))))⟩

set_option maxRecDepth 100000 in
set_option maxHeartbeats 8000000 in
theorem Two_off (A : Option Addr) (n c : Nat) (xs : List Int) (root page : Int) (wr : Bool) (k v0 : Int) (root' page' k' v' : Int) (hr : root % 64 = root') (hp : page % 64 = page') (hk : k % 512 = k') (hv : v0 % 65536 = v') (w : World) (h : Ints w w.heap.size A n xs) (h0 : cm xs = 0) (hin : inP root' page') (v r u l : Bool) (p f : Int) (hq : walkA xs root' page' wr = (⟨v, r, u, l, p⟩, f, 0)) (hf : (f == 0) = v) (x : Int) (hx : rd xs (root' * 8 + page' / 8) = x) (hK : enK x = true) (hG : enG x = false) (hkf : k' ≠ root' * 8 + page' / 8) (hq2 : walkA (xs.set k'.toNat v') root' page' wr = (⟨v, r, u, l, p⟩, f, 0)) :
    Calls Try.prog 8 #[.agg #[.slice A n c], .int .i64 root, .int .i64 page, .bool wr, .int .i64 k, .int .i64 v0] w fun e w' => e = .returned (.bool true) ∧ Below w.heap.size w w' := by
  have HX := Lib.hid h
  have HQ := Lib.hid hq
  have hn : n = 512 := by rw [← HX.out.len]; exact (cm_inv h0).1
  subst hn
  have H0 := Lib.hid h0
  have HK := Lib.hid (show 0 ≤ k' ∧ k' < 512 by omega)
  have HV := Lib.hid (show 0 ≤ v' ∧ v' ≤ 65535 by omega)
  unfold inP at hin
  obtain ⟨⟨a1, a2⟩, a3, a4⟩ := hin
  have M1 := Lib.hid ((rd_mrV h0 (show 0 ≤ root' * 8 + page' / 8 ∧ root' * 8 + page' / 8 < 512 by omega)).trans hx)
  have M2 := Lib.hid (mrE_0 h0 (show 0 ≤ root' * 8 + page' / 8 ∧ root' * 8 + page' / 8 < 512 by omega))
  have b1 : 0 ≤ k' := HK.out.1
  have tm1 : (k' == -1) = false := by rw [beq_eq_false_iff_ne]; omega
  have HE := Lib.hid hK
  have HG := Lib.hid hG
  have HQ2 := Lib.hid hq2
  have tf : (k' == root' * 8 + page' / 8) = false := by rw [beq_eq_false_iff_ne]; exact hkf
  clear h hq h0 hx hkf hq2 hK hG
  go_enter Try.func8, Try.ntmps8
  go_wp2_with (first | (go_at_call 20; refine (law_at _ _ (by simp) _).mono ?_; rintro e w' ⟨rfl, rfl⟩; simp only [hr, hp, hk, hv]))
  refine (walk_at _ _ _ xs _ _ _ _ _ _ _ _ _ _ _ ((HX.out.alloc (Nat.le_refl _) _).more (by simp)) HQ.out).mono ?_
  rintro e w1 ⟨rfl, hb1⟩
  have hz1 := hb1.size
  (try simp only [World.size_alloc, World.size_setCell, World.size_drew] at hz1)
  have k1_0 := fun o => (bcell hb1).1 (w.heap.size) o (by first | (simp; done) | (simp; omega) | omega)
  have l1_0 : (w.heap.size) < w1.heap.size := (by omega)
  have q1_0 := fun o => (bcell hb1).2 (w.heap.size) o (by first | (simp; done) | (simp; omega) | omega)
  simp (maxDischargeDepth := 6) [go_sem, *] at k1_0 q1_0
  have HB1 := Lib.hid hb1
  clear hb1
  have X1 := Lib.hid (((HX.out.alloc (Nat.le_refl _) (.cells #[.slice A 512 c] 24)).below (HB1.out.mono (by simp))).more (B' := w1.heap.size) (by omega) |>.alloc (Nat.le_refl _) (.cells #[.bool v, .bool r, .bool u, .bool l, .int .i64 p] 75) |>.more (B' := w1.heap.size + 1) (by omega))
  go_wp2_with fail
  refine (law_walked _).mono ?_
  rintro e w2 ⟨rfl, hb2⟩
  have hz2 := hb2.size
  (try simp only [World.size_alloc, World.size_setCell, World.size_drew] at hz2)
  have k2_0 := fun o => (bcell hb2).1 (w.heap.size) o (by first | (simp; done) | (simp; omega) | omega)
  have l2_0 : (w.heap.size) < w2.heap.size := (by omega)
  have q2_0 := fun o => (bcell hb2).2 (w.heap.size) o (by first | (simp; done) | (simp; omega) | omega)
  have k2_1 := fun o => (bcell hb2).1 (w1.heap.size) o (by first | (simp; done) | (simp; omega) | omega)
  have l2_1 : (w1.heap.size) < w2.heap.size := (by omega)
  have q2_1 := fun o => (bcell hb2).2 (w1.heap.size) o (by first | (simp; done) | (simp; omega) | omega)
  simp (maxDischargeDepth := 6) [go_sem, *] at k2_0 q2_0 k2_1 q2_1
  have HB2 := Lib.hid hb2
  clear hb2
  have X2 := Lib.hid ((X1.out.below (HB2.out.mono (by simp))).more (B' := w2.heap.size) (by omega))
  go_wp2_with fail
  refine (mem_Read _ _ _ xs _ _ X2.out).mono ?_
  rw [M1.out, M2.out]
  rintro e w3 ⟨rfl, hb3⟩
  have hz3 := hb3.size
  (try simp only [World.size_alloc, World.size_setCell, World.size_drew] at hz3)
  have k3_0 := fun o => (bcell hb3).1 (w.heap.size) o (by first | (simp; done) | (simp; omega) | omega)
  have l3_0 : (w.heap.size) < w3.heap.size := (by omega)
  have q3_0 := fun o => (bcell hb3).2 (w.heap.size) o (by first | (simp; done) | (simp; omega) | omega)
  have k3_1 := fun o => (bcell hb3).1 (w1.heap.size) o (by first | (simp; done) | (simp; omega) | omega)
  have l3_1 : (w1.heap.size) < w3.heap.size := (by omega)
  have q3_1 := fun o => (bcell hb3).2 (w1.heap.size) o (by first | (simp; done) | (simp; omega) | omega)
  simp (maxDischargeDepth := 6) [go_sem, *] at k3_0 q3_0 k3_1 q3_1
  have HB3 := Lib.hid hb3
  clear hb3
  have X3 := Lib.hid ((X2.out.below HB3.out).more (B' := w3.heap.size) (by omega))
  go_wp2_with fail
  refine (mem_Write _ _ _ xs _ _ _ X3.out H0.out HK.out HV.out).mono ?_
  rintro e w4 ⟨A4, c4, rfl, ho4, hb4⟩
  have hz4 := hb4.size
  (try simp only [World.size_alloc, World.size_setCell, World.size_drew] at hz4)
  have k4_0 := fun o => (bcell hb4).1 (w.heap.size) o (by first | (simp; done) | (simp; omega) | omega)
  have l4_0 : (w.heap.size) < w4.heap.size := (by omega)
  have q4_0 := fun o => (bcell hb4).2 (w.heap.size) o (by first | (simp; done) | (simp; omega) | omega)
  have k4_1 := fun o => (bcell hb4).1 (w1.heap.size) o (by first | (simp; done) | (simp; omega) | omega)
  have l4_1 : (w1.heap.size) < w4.heap.size := (by omega)
  have q4_1 := fun o => (bcell hb4).2 (w1.heap.size) o (by first | (simp; done) | (simp; omega) | omega)
  simp (maxDischargeDepth := 6) [go_sem, *] at k4_0 q4_0 k4_1 q4_1
  have HB4 := Lib.hid hb4
  clear hb4
  have Y4 := Lib.hid ((ho4.ints (by decide)).alloc (Nat.le_refl _) (.cells #[.slice A4 512 c4] 24) |>.more (B' := w4.heap.size + 1) (by omega))
  clear ho4
  go_wp2_with fail
  refine (read_off _ _ HE.out HG.out).mono ?_
  rintro e w5 ⟨rfl, hb5⟩
  have hz5 := hb5.size
  (try simp only [World.size_alloc, World.size_setCell, World.size_drew] at hz5)
  have k5_0 := fun o => (bcell hb5).1 (w.heap.size) o (by first | (simp; done) | (simp; omega) | omega)
  have l5_0 : (w.heap.size) < w5.heap.size := (by omega)
  have q5_0 := fun o => (bcell hb5).2 (w.heap.size) o (by first | (simp; done) | (simp; omega) | omega)
  have k5_1 := fun o => (bcell hb5).1 (w1.heap.size) o (by first | (simp; done) | (simp; omega) | omega)
  have l5_1 : (w1.heap.size) < w5.heap.size := (by omega)
  have q5_1 := fun o => (bcell hb5).2 (w1.heap.size) o (by first | (simp; done) | (simp; omega) | omega)
  have k5_2 := fun o => (bcell hb5).1 (w4.heap.size) o (by first | (simp; done) | (simp; omega) | omega)
  have l5_2 : (w4.heap.size) < w5.heap.size := (by omega)
  have q5_2 := fun o => (bcell hb5).2 (w4.heap.size) o (by first | (simp; done) | (simp; omega) | omega)
  simp (maxDischargeDepth := 6) [go_sem, *] at k5_0 q5_0 k5_1 q5_1 k5_2 q5_2
  have HB5 := Lib.hid hb5
  clear hb5
  have Y5 := Lib.hid ((Y4.out.below (HB5.out.mono (by simp))).more (B' := w5.heap.size) (by omega))
  go_wp2_with fail
  refine (walk_at _ _ _ (xs.set k'.toNat v') _ _ _ _ _ _ _ _ _ _ _ ((Y5.out.alloc (Nat.le_refl _) _).more (by simp)) HQ2.out).mono ?_
  rintro e w6 ⟨rfl, hb6⟩
  have hz6 := hb6.size
  (try simp only [World.size_alloc, World.size_setCell, World.size_drew] at hz6)
  have k6_0 := fun o => (bcell hb6).1 (w1.heap.size) o (by first | (simp; done) | (simp; omega) | omega)
  have l6_0 : (w1.heap.size) < w6.heap.size := (by omega)
  have q6_0 := fun o => (bcell hb6).2 (w1.heap.size) o (by first | (simp; done) | (simp; omega) | omega)
  simp (maxDischargeDepth := 6) [go_sem, *] at k6_0 q6_0
  have HB6 := Lib.hid hb6
  clear hb6
  go_wp2
  go_ret
  exact ⟨rfl, by (repeat (first | (with_reducible exact Below.refl _ _) | (with_reducible refine Below.drew ?_) | (with_reducible refine bdrewN ?_ _) | ((with_reducible refine Below.setCell ?_ ?_ _); rotate_left; exact (by first | (simp; done) | (simp; omega) | omega)) | ((with_reducible refine Below.alloc ?_ ?_ _); rotate_left; exact (by first | (simp; done) | (simp; omega) | omega)) | ((with_reducible refine Below.trans ?_ (HB6.out.mono ?_)); rotate_left; exact (by first | (simp; done) | (simp; omega) | omega)) | ((with_reducible refine Below.trans ?_ (HB5.out.mono ?_)); rotate_left; exact (by first | (simp; done) | (simp; omega) | omega)) | ((with_reducible refine Below.trans ?_ (HB4.out.mono ?_)); rotate_left; exact (by first | (simp; done) | (simp; omega) | omega)) | ((with_reducible refine Below.trans ?_ (HB3.out.mono ?_)); rotate_left; exact (by first | (simp; done) | (simp; omega) | omega)) | ((with_reducible refine Below.trans ?_ (HB2.out.mono ?_)); rotate_left; exact (by first | (simp; done) | (simp; omega) | omega)) | ((with_reducible refine Below.trans ?_ (HB1.out.mono ?_)); rotate_left; exact (by first | (simp; done) | (simp; omega) | omega))))⟩

set_option maxRecDepth 100000 in
set_option maxHeartbeats 8000000 in
theorem Two_leaf_first (A : Option Addr) (n c : Nat) (xs : List Int) (root page : Int) (wr : Bool) (k v0 : Int) (root' page' k' v' : Int) (hr : root % 64 = root') (hp : page % 64 = page') (hk : k % 512 = k') (hv : v0 % 65536 = v') (w : World) (h : Ints w w.heap.size A n xs) (h0 : cm xs = 0) (hin : inP root' page') (v r u l : Bool) (p f : Int) (hq : walkA xs root' page' wr = (⟨v, r, u, l, p⟩, f, 0)) (hf : (f == 0) = v) (x : Int) (hx : rd xs (root' * 8 + page' / 8) = x) (b1' b2' : Bool) (q : Int) (hG : enG x = true) (e1 : bitI x 1 = b1') (e2 : bitI x 2 = b2') (e3 : bitI x 3 = true) (ep : enP x = q) (hkf : k' = root' * 8 + page' / 8) :
    Calls Try.prog 8 #[.agg #[.slice A n c], .int .i64 root, .int .i64 page, .bool wr, .int .i64 k, .int .i64 v0] w fun e w' => e = .returned (.bool true) ∧ Below w.heap.size w w' := by
  have HX := Lib.hid h
  have HQ := Lib.hid hq
  have hn : n = 512 := by rw [← HX.out.len]; exact (cm_inv h0).1
  subst hn
  have H0 := Lib.hid h0
  have HK := Lib.hid (show 0 ≤ k' ∧ k' < 512 by omega)
  have HV := Lib.hid (show 0 ≤ v' ∧ v' ≤ 65535 by omega)
  unfold inP at hin
  obtain ⟨⟨a1, a2⟩, a3, a4⟩ := hin
  have M1 := Lib.hid ((rd_mrV h0 (show 0 ≤ root' * 8 + page' / 8 ∧ root' * 8 + page' / 8 < 512 by omega)).trans hx)
  have M2 := Lib.hid (mrE_0 h0 (show 0 ≤ root' * 8 + page' / 8 ∧ root' * 8 + page' / 8 < 512 by omega))
  have b1 : 0 ≤ k' := HK.out.1
  have tm1 : (k' == -1) = false := by rw [beq_eq_false_iff_ne]; omega
  have HG := Lib.hid hG
  have E1 := Lib.hid e1
  have E2 := Lib.hid e2
  have E3 := Lib.hid e3
  have EP := Lib.hid ep
  have tf : (k' == root' * 8 + page' / 8) = true := by rw [beq_iff_eq]; exact hkf
  clear h hq h0 hf hx hkf hG e1 e2 e3 ep
  go_enter Try.func8, Try.ntmps8
  go_wp2_with (first | (go_at_call 20; refine (law_at _ _ (by simp) _).mono ?_; rintro e w' ⟨rfl, rfl⟩; simp only [hr, hp, hk, hv]))
  refine (walk_at _ _ _ xs _ _ _ _ _ _ _ _ _ _ _ ((HX.out.alloc (Nat.le_refl _) _).more (by simp)) HQ.out).mono ?_
  rintro e w1 ⟨rfl, hb1⟩
  have hz1 := hb1.size
  (try simp only [World.size_alloc, World.size_setCell, World.size_drew] at hz1)
  have k1_0 := fun o => (bcell hb1).1 (w.heap.size) o (by first | (simp; done) | (simp; omega) | omega)
  have l1_0 : (w.heap.size) < w1.heap.size := (by omega)
  have q1_0 := fun o => (bcell hb1).2 (w.heap.size) o (by first | (simp; done) | (simp; omega) | omega)
  simp (maxDischargeDepth := 6) [go_sem, *] at k1_0 q1_0
  have HB1 := Lib.hid hb1
  clear hb1
  have X1 := Lib.hid (((HX.out.alloc (Nat.le_refl _) (.cells #[.slice A 512 c] 24)).below (HB1.out.mono (by simp))).more (B' := w1.heap.size) (by omega) |>.alloc (Nat.le_refl _) (.cells #[.bool v, .bool r, .bool u, .bool l, .int .i64 p] 75) |>.more (B' := w1.heap.size + 1) (by omega))
  go_wp2_with fail
  refine (law_walked _).mono ?_
  rintro e w2 ⟨rfl, hb2⟩
  have hz2 := hb2.size
  (try simp only [World.size_alloc, World.size_setCell, World.size_drew] at hz2)
  have k2_0 := fun o => (bcell hb2).1 (w.heap.size) o (by first | (simp; done) | (simp; omega) | omega)
  have l2_0 : (w.heap.size) < w2.heap.size := (by omega)
  have q2_0 := fun o => (bcell hb2).2 (w.heap.size) o (by first | (simp; done) | (simp; omega) | omega)
  have k2_1 := fun o => (bcell hb2).1 (w1.heap.size) o (by first | (simp; done) | (simp; omega) | omega)
  have l2_1 : (w1.heap.size) < w2.heap.size := (by omega)
  have q2_1 := fun o => (bcell hb2).2 (w1.heap.size) o (by first | (simp; done) | (simp; omega) | omega)
  simp (maxDischargeDepth := 6) [go_sem, *] at k2_0 q2_0 k2_1 q2_1
  have HB2 := Lib.hid hb2
  clear hb2
  have X2 := Lib.hid ((X1.out.below (HB2.out.mono (by simp))).more (B' := w2.heap.size) (by omega))
  go_wp2_with fail
  refine (mem_Read _ _ _ xs _ _ X2.out).mono ?_
  rw [M1.out, M2.out]
  rintro e w3 ⟨rfl, hb3⟩
  have hz3 := hb3.size
  (try simp only [World.size_alloc, World.size_setCell, World.size_drew] at hz3)
  have k3_0 := fun o => (bcell hb3).1 (w.heap.size) o (by first | (simp; done) | (simp; omega) | omega)
  have l3_0 : (w.heap.size) < w3.heap.size := (by omega)
  have q3_0 := fun o => (bcell hb3).2 (w.heap.size) o (by first | (simp; done) | (simp; omega) | omega)
  have k3_1 := fun o => (bcell hb3).1 (w1.heap.size) o (by first | (simp; done) | (simp; omega) | omega)
  have l3_1 : (w1.heap.size) < w3.heap.size := (by omega)
  have q3_1 := fun o => (bcell hb3).2 (w1.heap.size) o (by first | (simp; done) | (simp; omega) | omega)
  simp (maxDischargeDepth := 6) [go_sem, *] at k3_0 q3_0 k3_1 q3_1
  have HB3 := Lib.hid hb3
  clear hb3
  have X3 := Lib.hid ((X2.out.below HB3.out).more (B' := w3.heap.size) (by omega))
  go_wp2_with fail
  refine (mem_Write _ _ _ xs _ _ _ X3.out H0.out HK.out HV.out).mono ?_
  rintro e w4 ⟨A4, c4, rfl, ho4, hb4⟩
  have hz4 := hb4.size
  (try simp only [World.size_alloc, World.size_setCell, World.size_drew] at hz4)
  have k4_0 := fun o => (bcell hb4).1 (w.heap.size) o (by first | (simp; done) | (simp; omega) | omega)
  have l4_0 : (w.heap.size) < w4.heap.size := (by omega)
  have q4_0 := fun o => (bcell hb4).2 (w.heap.size) o (by first | (simp; done) | (simp; omega) | omega)
  have k4_1 := fun o => (bcell hb4).1 (w1.heap.size) o (by first | (simp; done) | (simp; omega) | omega)
  have l4_1 : (w1.heap.size) < w4.heap.size := (by omega)
  have q4_1 := fun o => (bcell hb4).2 (w1.heap.size) o (by first | (simp; done) | (simp; omega) | omega)
  simp (maxDischargeDepth := 6) [go_sem, *] at k4_0 q4_0 k4_1 q4_1
  have HB4 := Lib.hid hb4
  clear hb4
  have Y4 := Lib.hid ((ho4.ints (by decide)).alloc (Nat.le_refl _) (.cells #[.slice A4 512 c4] 24) |>.more (B' := w4.heap.size + 1) (by omega))
  clear ho4
  go_wp2_with fail
  refine (read_on _ _ _ _ _ _ HG.out E1.out E2.out E3.out EP.out).mono ?_
  rintro e w5 ⟨rfl, hb5⟩
  have hz5 := hb5.size
  (try simp only [World.size_alloc, World.size_setCell, World.size_drew] at hz5)
  have k5_0 := fun o => (bcell hb5).1 (w.heap.size) o (by first | (simp; done) | (simp; omega) | omega)
  have l5_0 : (w.heap.size) < w5.heap.size := (by omega)
  have q5_0 := fun o => (bcell hb5).2 (w.heap.size) o (by first | (simp; done) | (simp; omega) | omega)
  have k5_1 := fun o => (bcell hb5).1 (w1.heap.size) o (by first | (simp; done) | (simp; omega) | omega)
  have l5_1 : (w1.heap.size) < w5.heap.size := (by omega)
  have q5_1 := fun o => (bcell hb5).2 (w1.heap.size) o (by first | (simp; done) | (simp; omega) | omega)
  have k5_2 := fun o => (bcell hb5).1 (w4.heap.size) o (by first | (simp; done) | (simp; omega) | omega)
  have l5_2 : (w4.heap.size) < w5.heap.size := (by omega)
  have q5_2 := fun o => (bcell hb5).2 (w4.heap.size) o (by first | (simp; done) | (simp; omega) | omega)
  simp (maxDischargeDepth := 6) [go_sem, *] at k5_0 q5_0 k5_1 q5_1 k5_2 q5_2
  have HB5 := Lib.hid hb5
  clear hb5
  have Y5 := Lib.hid ((Y4.out.below (HB5.out.mono (by simp))).more (B' := w5.heap.size) (by omega))
  go_wp2
  go_ret
  exact ⟨rfl, by (repeat (first | (with_reducible exact Below.refl _ _) | (with_reducible refine Below.drew ?_) | (with_reducible refine bdrewN ?_ _) | ((with_reducible refine Below.setCell ?_ ?_ _); rotate_left; exact (by first | (simp; done) | (simp; omega) | omega)) | ((with_reducible refine Below.alloc ?_ ?_ _); rotate_left; exact (by first | (simp; done) | (simp; omega) | omega)) | ((with_reducible refine Below.trans ?_ (HB5.out.mono ?_)); rotate_left; exact (by first | (simp; done) | (simp; omega) | omega)) | ((with_reducible refine Below.trans ?_ (HB4.out.mono ?_)); rotate_left; exact (by first | (simp; done) | (simp; omega) | omega)) | ((with_reducible refine Below.trans ?_ (HB3.out.mono ?_)); rotate_left; exact (by first | (simp; done) | (simp; omega) | omega)) | ((with_reducible refine Below.trans ?_ (HB2.out.mono ?_)); rotate_left; exact (by first | (simp; done) | (simp; omega) | omega)) | ((with_reducible refine Below.trans ?_ (HB1.out.mono ?_)); rotate_left; exact (by first | (simp; done) | (simp; omega) | omega))))⟩

set_option maxRecDepth 100000 in
set_option maxHeartbeats 8000000 in
theorem Two_leaf (A : Option Addr) (n c : Nat) (xs : List Int) (root page : Int) (wr : Bool) (k v0 : Int) (root' page' k' v' : Int) (hr : root % 64 = root') (hp : page % 64 = page') (hk : k % 512 = k') (hv : v0 % 65536 = v') (w : World) (h : Ints w w.heap.size A n xs) (h0 : cm xs = 0) (hin : inP root' page') (v r u l : Bool) (p f : Int) (hq : walkA xs root' page' wr = (⟨v, r, u, l, p⟩, f, 0)) (hf : (f == 0) = v) (x : Int) (hx : rd xs (root' * 8 + page' / 8) = x) (b1' b2' : Bool) (q : Int) (hG : enG x = true) (e1 : bitI x 1 = b1') (e2 : bitI x 2 = b2') (e3 : bitI x 3 = true) (ep : enP x = q) (hkf : k' ≠ root' * 8 + page' / 8) (hq2 : walkA (xs.set k'.toNat v') root' page' wr = (⟨v, r, u, l, p⟩, f, 0)) :
    Calls Try.prog 8 #[.agg #[.slice A n c], .int .i64 root, .int .i64 page, .bool wr, .int .i64 k, .int .i64 v0] w fun e w' => e = .returned (.bool true) ∧ Below w.heap.size w w' := by
  have HX := Lib.hid h
  have HQ := Lib.hid hq
  have hn : n = 512 := by rw [← HX.out.len]; exact (cm_inv h0).1
  subst hn
  have H0 := Lib.hid h0
  have HK := Lib.hid (show 0 ≤ k' ∧ k' < 512 by omega)
  have HV := Lib.hid (show 0 ≤ v' ∧ v' ≤ 65535 by omega)
  unfold inP at hin
  obtain ⟨⟨a1, a2⟩, a3, a4⟩ := hin
  have M1 := Lib.hid ((rd_mrV h0 (show 0 ≤ root' * 8 + page' / 8 ∧ root' * 8 + page' / 8 < 512 by omega)).trans hx)
  have M2 := Lib.hid (mrE_0 h0 (show 0 ≤ root' * 8 + page' / 8 ∧ root' * 8 + page' / 8 < 512 by omega))
  have b1 : 0 ≤ k' := HK.out.1
  have tm1 : (k' == -1) = false := by rw [beq_eq_false_iff_ne]; omega
  have HG := Lib.hid hG
  have E1 := Lib.hid e1
  have E2 := Lib.hid e2
  have E3 := Lib.hid e3
  have EP := Lib.hid ep
  have HQ2 := Lib.hid hq2
  have tf : (k' == root' * 8 + page' / 8) = false := by rw [beq_eq_false_iff_ne]; exact hkf
  clear h hq h0 hx hkf hq2 hG e1 e2 e3 ep
  go_enter Try.func8, Try.ntmps8
  go_wp2_with (first | (go_at_call 20; refine (law_at _ _ (by simp) _).mono ?_; rintro e w' ⟨rfl, rfl⟩; simp only [hr, hp, hk, hv]))
  refine (walk_at _ _ _ xs _ _ _ _ _ _ _ _ _ _ _ ((HX.out.alloc (Nat.le_refl _) _).more (by simp)) HQ.out).mono ?_
  rintro e w1 ⟨rfl, hb1⟩
  have hz1 := hb1.size
  (try simp only [World.size_alloc, World.size_setCell, World.size_drew] at hz1)
  have k1_0 := fun o => (bcell hb1).1 (w.heap.size) o (by first | (simp; done) | (simp; omega) | omega)
  have l1_0 : (w.heap.size) < w1.heap.size := (by omega)
  have q1_0 := fun o => (bcell hb1).2 (w.heap.size) o (by first | (simp; done) | (simp; omega) | omega)
  simp (maxDischargeDepth := 6) [go_sem, *] at k1_0 q1_0
  have HB1 := Lib.hid hb1
  clear hb1
  have X1 := Lib.hid (((HX.out.alloc (Nat.le_refl _) (.cells #[.slice A 512 c] 24)).below (HB1.out.mono (by simp))).more (B' := w1.heap.size) (by omega) |>.alloc (Nat.le_refl _) (.cells #[.bool v, .bool r, .bool u, .bool l, .int .i64 p] 75) |>.more (B' := w1.heap.size + 1) (by omega))
  go_wp2_with fail
  refine (law_walked _).mono ?_
  rintro e w2 ⟨rfl, hb2⟩
  have hz2 := hb2.size
  (try simp only [World.size_alloc, World.size_setCell, World.size_drew] at hz2)
  have k2_0 := fun o => (bcell hb2).1 (w.heap.size) o (by first | (simp; done) | (simp; omega) | omega)
  have l2_0 : (w.heap.size) < w2.heap.size := (by omega)
  have q2_0 := fun o => (bcell hb2).2 (w.heap.size) o (by first | (simp; done) | (simp; omega) | omega)
  have k2_1 := fun o => (bcell hb2).1 (w1.heap.size) o (by first | (simp; done) | (simp; omega) | omega)
  have l2_1 : (w1.heap.size) < w2.heap.size := (by omega)
  have q2_1 := fun o => (bcell hb2).2 (w1.heap.size) o (by first | (simp; done) | (simp; omega) | omega)
  simp (maxDischargeDepth := 6) [go_sem, *] at k2_0 q2_0 k2_1 q2_1
  have HB2 := Lib.hid hb2
  clear hb2
  have X2 := Lib.hid ((X1.out.below (HB2.out.mono (by simp))).more (B' := w2.heap.size) (by omega))
  go_wp2_with fail
  refine (mem_Read _ _ _ xs _ _ X2.out).mono ?_
  rw [M1.out, M2.out]
  rintro e w3 ⟨rfl, hb3⟩
  have hz3 := hb3.size
  (try simp only [World.size_alloc, World.size_setCell, World.size_drew] at hz3)
  have k3_0 := fun o => (bcell hb3).1 (w.heap.size) o (by first | (simp; done) | (simp; omega) | omega)
  have l3_0 : (w.heap.size) < w3.heap.size := (by omega)
  have q3_0 := fun o => (bcell hb3).2 (w.heap.size) o (by first | (simp; done) | (simp; omega) | omega)
  have k3_1 := fun o => (bcell hb3).1 (w1.heap.size) o (by first | (simp; done) | (simp; omega) | omega)
  have l3_1 : (w1.heap.size) < w3.heap.size := (by omega)
  have q3_1 := fun o => (bcell hb3).2 (w1.heap.size) o (by first | (simp; done) | (simp; omega) | omega)
  simp (maxDischargeDepth := 6) [go_sem, *] at k3_0 q3_0 k3_1 q3_1
  have HB3 := Lib.hid hb3
  clear hb3
  have X3 := Lib.hid ((X2.out.below HB3.out).more (B' := w3.heap.size) (by omega))
  go_wp2_with fail
  refine (mem_Write _ _ _ xs _ _ _ X3.out H0.out HK.out HV.out).mono ?_
  rintro e w4 ⟨A4, c4, rfl, ho4, hb4⟩
  have hz4 := hb4.size
  (try simp only [World.size_alloc, World.size_setCell, World.size_drew] at hz4)
  have k4_0 := fun o => (bcell hb4).1 (w.heap.size) o (by first | (simp; done) | (simp; omega) | omega)
  have l4_0 : (w.heap.size) < w4.heap.size := (by omega)
  have q4_0 := fun o => (bcell hb4).2 (w.heap.size) o (by first | (simp; done) | (simp; omega) | omega)
  have k4_1 := fun o => (bcell hb4).1 (w1.heap.size) o (by first | (simp; done) | (simp; omega) | omega)
  have l4_1 : (w1.heap.size) < w4.heap.size := (by omega)
  have q4_1 := fun o => (bcell hb4).2 (w1.heap.size) o (by first | (simp; done) | (simp; omega) | omega)
  simp (maxDischargeDepth := 6) [go_sem, *] at k4_0 q4_0 k4_1 q4_1
  have HB4 := Lib.hid hb4
  clear hb4
  have Y4 := Lib.hid ((ho4.ints (by decide)).alloc (Nat.le_refl _) (.cells #[.slice A4 512 c4] 24) |>.more (B' := w4.heap.size + 1) (by omega))
  clear ho4
  go_wp2_with fail
  refine (read_on _ _ _ _ _ _ HG.out E1.out E2.out E3.out EP.out).mono ?_
  rintro e w5 ⟨rfl, hb5⟩
  have hz5 := hb5.size
  (try simp only [World.size_alloc, World.size_setCell, World.size_drew] at hz5)
  have k5_0 := fun o => (bcell hb5).1 (w.heap.size) o (by first | (simp; done) | (simp; omega) | omega)
  have l5_0 : (w.heap.size) < w5.heap.size := (by omega)
  have q5_0 := fun o => (bcell hb5).2 (w.heap.size) o (by first | (simp; done) | (simp; omega) | omega)
  have k5_1 := fun o => (bcell hb5).1 (w1.heap.size) o (by first | (simp; done) | (simp; omega) | omega)
  have l5_1 : (w1.heap.size) < w5.heap.size := (by omega)
  have q5_1 := fun o => (bcell hb5).2 (w1.heap.size) o (by first | (simp; done) | (simp; omega) | omega)
  have k5_2 := fun o => (bcell hb5).1 (w4.heap.size) o (by first | (simp; done) | (simp; omega) | omega)
  have l5_2 : (w4.heap.size) < w5.heap.size := (by omega)
  have q5_2 := fun o => (bcell hb5).2 (w4.heap.size) o (by first | (simp; done) | (simp; omega) | omega)
  simp (maxDischargeDepth := 6) [go_sem, *] at k5_0 q5_0 k5_1 q5_1 k5_2 q5_2
  have HB5 := Lib.hid hb5
  clear hb5
  have Y5 := Lib.hid ((Y4.out.below (HB5.out.mono (by simp))).more (B' := w5.heap.size) (by omega))
  go_wp2_with fail
  refine (walk_at _ _ _ (xs.set k'.toNat v') _ _ _ _ _ _ _ _ _ _ _ ((Y5.out.alloc (Nat.le_refl _) _).more (by simp)) HQ2.out).mono ?_
  rintro e w6 ⟨rfl, hb6⟩
  have hz6 := hb6.size
  (try simp only [World.size_alloc, World.size_setCell, World.size_drew] at hz6)
  have k6_0 := fun o => (bcell hb6).1 (w1.heap.size) o (by first | (simp; done) | (simp; omega) | omega)
  have l6_0 : (w1.heap.size) < w6.heap.size := (by omega)
  have q6_0 := fun o => (bcell hb6).2 (w1.heap.size) o (by first | (simp; done) | (simp; omega) | omega)
  simp (maxDischargeDepth := 6) [go_sem, *] at k6_0 q6_0
  have HB6 := Lib.hid hb6
  clear hb6
  go_wp2
  go_ret
  exact ⟨rfl, by (repeat (first | (with_reducible exact Below.refl _ _) | (with_reducible refine Below.drew ?_) | (with_reducible refine bdrewN ?_ _) | ((with_reducible refine Below.setCell ?_ ?_ _); rotate_left; exact (by first | (simp; done) | (simp; omega) | omega)) | ((with_reducible refine Below.alloc ?_ ?_ _); rotate_left; exact (by first | (simp; done) | (simp; omega) | omega)) | ((with_reducible refine Below.trans ?_ (HB6.out.mono ?_)); rotate_left; exact (by first | (simp; done) | (simp; omega) | omega)) | ((with_reducible refine Below.trans ?_ (HB5.out.mono ?_)); rotate_left; exact (by first | (simp; done) | (simp; omega) | omega)) | ((with_reducible refine Below.trans ?_ (HB4.out.mono ?_)); rotate_left; exact (by first | (simp; done) | (simp; omega) | omega)) | ((with_reducible refine Below.trans ?_ (HB3.out.mono ?_)); rotate_left; exact (by first | (simp; done) | (simp; omega) | omega)) | ((with_reducible refine Below.trans ?_ (HB2.out.mono ?_)); rotate_left; exact (by first | (simp; done) | (simp; omega) | omega)) | ((with_reducible refine Below.trans ?_ (HB1.out.mono ?_)); rotate_left; exact (by first | (simp; done) | (simp; omega) | omega))))⟩

set_option maxRecDepth 100000 in
set_option maxHeartbeats 8000000 in
theorem Two_node_first (A : Option Addr) (n c : Nat) (xs : List Int) (root page : Int) (wr : Bool) (k v0 : Int) (root' page' k' v' : Int) (hr : root % 64 = root') (hp : page % 64 = page') (hk : k % 512 = k') (hv : v0 % 65536 = v') (w : World) (h : Ints w w.heap.size A n xs) (h0 : cm xs = 0) (hin : inP root' page') (v r u l : Bool) (p f : Int) (hq : walkA xs root' page' wr = (⟨v, r, u, l, p⟩, f, 0)) (hf : (f == 0) = v) (x : Int) (hx : rd xs (root' * 8 + page' / 8) = x) (b1' b2' : Bool) (q : Int) (hG : enG x = true) (e1 : bitI x 1 = b1') (e2 : bitI x 2 = b2') (e3 : bitI x 3 = false) (ep : enP x = q) (hkf : k' = root' * 8 + page' / 8) :
    Calls Try.prog 8 #[.agg #[.slice A n c], .int .i64 root, .int .i64 page, .bool wr, .int .i64 k, .int .i64 v0] w fun e w' => e = .returned (.bool true) ∧ Below w.heap.size w w' := by
  have HX := Lib.hid h
  have HQ := Lib.hid hq
  have hn : n = 512 := by rw [← HX.out.len]; exact (cm_inv h0).1
  subst hn
  have H0 := Lib.hid h0
  have HK := Lib.hid (show 0 ≤ k' ∧ k' < 512 by omega)
  have HV := Lib.hid (show 0 ≤ v' ∧ v' ≤ 65535 by omega)
  unfold inP at hin
  obtain ⟨⟨a1, a2⟩, a3, a4⟩ := hin
  have M1 := Lib.hid ((rd_mrV h0 (show 0 ≤ root' * 8 + page' / 8 ∧ root' * 8 + page' / 8 < 512 by omega)).trans hx)
  have M2 := Lib.hid (mrE_0 h0 (show 0 ≤ root' * 8 + page' / 8 ∧ root' * 8 + page' / 8 < 512 by omega))
  have b1 : 0 ≤ k' := HK.out.1
  have tm1 : (k' == -1) = false := by rw [beq_eq_false_iff_ne]; omega
  have HG := Lib.hid hG
  have E1 := Lib.hid e1
  have E2 := Lib.hid e2
  have E3 := Lib.hid e3
  have EP := Lib.hid ep
  have hqb := enP_bd x
  rw [ep] at hqb
  obtain ⟨q1, q2⟩ := hqb
  have tf : (k' == root' * 8 + page' / 8) = true := by rw [beq_iff_eq]; exact hkf
  clear h hq h0 hf hx hkf hG e1 e2 e3 ep
  go_enter Try.func8, Try.ntmps8
  go_wp2_with (first | (go_at_call 20; refine (law_at _ _ (by simp) _).mono ?_; rintro e w' ⟨rfl, rfl⟩; simp only [hr, hp, hk, hv]))
  refine (walk_at _ _ _ xs _ _ _ _ _ _ _ _ _ _ _ ((HX.out.alloc (Nat.le_refl _) _).more (by simp)) HQ.out).mono ?_
  rintro e w1 ⟨rfl, hb1⟩
  have hz1 := hb1.size
  (try simp only [World.size_alloc, World.size_setCell, World.size_drew] at hz1)
  have k1_0 := fun o => (bcell hb1).1 (w.heap.size) o (by first | (simp; done) | (simp; omega) | omega)
  have l1_0 : (w.heap.size) < w1.heap.size := (by omega)
  have q1_0 := fun o => (bcell hb1).2 (w.heap.size) o (by first | (simp; done) | (simp; omega) | omega)
  simp (maxDischargeDepth := 6) [go_sem, *] at k1_0 q1_0
  have HB1 := Lib.hid hb1
  clear hb1
  have X1 := Lib.hid (((HX.out.alloc (Nat.le_refl _) (.cells #[.slice A 512 c] 24)).below (HB1.out.mono (by simp))).more (B' := w1.heap.size) (by omega) |>.alloc (Nat.le_refl _) (.cells #[.bool v, .bool r, .bool u, .bool l, .int .i64 p] 75) |>.more (B' := w1.heap.size + 1) (by omega))
  go_wp2_with fail
  refine (law_walked _).mono ?_
  rintro e w2 ⟨rfl, hb2⟩
  have hz2 := hb2.size
  (try simp only [World.size_alloc, World.size_setCell, World.size_drew] at hz2)
  have k2_0 := fun o => (bcell hb2).1 (w.heap.size) o (by first | (simp; done) | (simp; omega) | omega)
  have l2_0 : (w.heap.size) < w2.heap.size := (by omega)
  have q2_0 := fun o => (bcell hb2).2 (w.heap.size) o (by first | (simp; done) | (simp; omega) | omega)
  have k2_1 := fun o => (bcell hb2).1 (w1.heap.size) o (by first | (simp; done) | (simp; omega) | omega)
  have l2_1 : (w1.heap.size) < w2.heap.size := (by omega)
  have q2_1 := fun o => (bcell hb2).2 (w1.heap.size) o (by first | (simp; done) | (simp; omega) | omega)
  simp (maxDischargeDepth := 6) [go_sem, *] at k2_0 q2_0 k2_1 q2_1
  have HB2 := Lib.hid hb2
  clear hb2
  have X2 := Lib.hid ((X1.out.below (HB2.out.mono (by simp))).more (B' := w2.heap.size) (by omega))
  go_wp2_with fail
  refine (mem_Read _ _ _ xs _ _ X2.out).mono ?_
  rw [M1.out, M2.out]
  rintro e w3 ⟨rfl, hb3⟩
  have hz3 := hb3.size
  (try simp only [World.size_alloc, World.size_setCell, World.size_drew] at hz3)
  have k3_0 := fun o => (bcell hb3).1 (w.heap.size) o (by first | (simp; done) | (simp; omega) | omega)
  have l3_0 : (w.heap.size) < w3.heap.size := (by omega)
  have q3_0 := fun o => (bcell hb3).2 (w.heap.size) o (by first | (simp; done) | (simp; omega) | omega)
  have k3_1 := fun o => (bcell hb3).1 (w1.heap.size) o (by first | (simp; done) | (simp; omega) | omega)
  have l3_1 : (w1.heap.size) < w3.heap.size := (by omega)
  have q3_1 := fun o => (bcell hb3).2 (w1.heap.size) o (by first | (simp; done) | (simp; omega) | omega)
  simp (maxDischargeDepth := 6) [go_sem, *] at k3_0 q3_0 k3_1 q3_1
  have HB3 := Lib.hid hb3
  clear hb3
  have X3 := Lib.hid ((X2.out.below HB3.out).more (B' := w3.heap.size) (by omega))
  go_wp2_with fail
  refine (mem_Write _ _ _ xs _ _ _ X3.out H0.out HK.out HV.out).mono ?_
  rintro e w4 ⟨A4, c4, rfl, ho4, hb4⟩
  have hz4 := hb4.size
  (try simp only [World.size_alloc, World.size_setCell, World.size_drew] at hz4)
  have k4_0 := fun o => (bcell hb4).1 (w.heap.size) o (by first | (simp; done) | (simp; omega) | omega)
  have l4_0 : (w.heap.size) < w4.heap.size := (by omega)
  have q4_0 := fun o => (bcell hb4).2 (w.heap.size) o (by first | (simp; done) | (simp; omega) | omega)
  have k4_1 := fun o => (bcell hb4).1 (w1.heap.size) o (by first | (simp; done) | (simp; omega) | omega)
  have l4_1 : (w1.heap.size) < w4.heap.size := (by omega)
  have q4_1 := fun o => (bcell hb4).2 (w1.heap.size) o (by first | (simp; done) | (simp; omega) | omega)
  simp (maxDischargeDepth := 6) [go_sem, *] at k4_0 q4_0 k4_1 q4_1
  have HB4 := Lib.hid hb4
  clear hb4
  have Y4 := Lib.hid ((ho4.ints (by decide)).alloc (Nat.le_refl _) (.cells #[.slice A4 512 c4] 24) |>.more (B' := w4.heap.size + 1) (by omega))
  clear ho4
  go_wp2_with fail
  refine (read_on _ _ _ _ _ _ HG.out E1.out E2.out E3.out EP.out).mono ?_
  rintro e w5 ⟨rfl, hb5⟩
  have hz5 := hb5.size
  (try simp only [World.size_alloc, World.size_setCell, World.size_drew] at hz5)
  have k5_0 := fun o => (bcell hb5).1 (w.heap.size) o (by first | (simp; done) | (simp; omega) | omega)
  have l5_0 : (w.heap.size) < w5.heap.size := (by omega)
  have q5_0 := fun o => (bcell hb5).2 (w.heap.size) o (by first | (simp; done) | (simp; omega) | omega)
  have k5_1 := fun o => (bcell hb5).1 (w1.heap.size) o (by first | (simp; done) | (simp; omega) | omega)
  have l5_1 : (w1.heap.size) < w5.heap.size := (by omega)
  have q5_1 := fun o => (bcell hb5).2 (w1.heap.size) o (by first | (simp; done) | (simp; omega) | omega)
  have k5_2 := fun o => (bcell hb5).1 (w4.heap.size) o (by first | (simp; done) | (simp; omega) | omega)
  have l5_2 : (w4.heap.size) < w5.heap.size := (by omega)
  have q5_2 := fun o => (bcell hb5).2 (w4.heap.size) o (by first | (simp; done) | (simp; omega) | omega)
  simp (maxDischargeDepth := 6) [go_sem, *] at k5_0 q5_0 k5_1 q5_1 k5_2 q5_2
  have HB5 := Lib.hid hb5
  clear hb5
  have Y5 := Lib.hid ((Y4.out.below (HB5.out.mono (by simp))).more (B' := w5.heap.size) (by omega))
  go_wp2
  go_ret
  exact ⟨rfl, by (repeat (first | (with_reducible exact Below.refl _ _) | (with_reducible refine Below.drew ?_) | (with_reducible refine bdrewN ?_ _) | ((with_reducible refine Below.setCell ?_ ?_ _); rotate_left; exact (by first | (simp; done) | (simp; omega) | omega)) | ((with_reducible refine Below.alloc ?_ ?_ _); rotate_left; exact (by first | (simp; done) | (simp; omega) | omega)) | ((with_reducible refine Below.trans ?_ (HB5.out.mono ?_)); rotate_left; exact (by first | (simp; done) | (simp; omega) | omega)) | ((with_reducible refine Below.trans ?_ (HB4.out.mono ?_)); rotate_left; exact (by first | (simp; done) | (simp; omega) | omega)) | ((with_reducible refine Below.trans ?_ (HB3.out.mono ?_)); rotate_left; exact (by first | (simp; done) | (simp; omega) | omega)) | ((with_reducible refine Below.trans ?_ (HB2.out.mono ?_)); rotate_left; exact (by first | (simp; done) | (simp; omega) | omega)) | ((with_reducible refine Below.trans ?_ (HB1.out.mono ?_)); rotate_left; exact (by first | (simp; done) | (simp; omega) | omega))))⟩

set_option maxRecDepth 100000 in
set_option maxHeartbeats 8000000 in
theorem Two_node_second (A : Option Addr) (n c : Nat) (xs : List Int) (root page : Int) (wr : Bool) (k v0 : Int) (root' page' k' v' : Int) (hr : root % 64 = root') (hp : page % 64 = page') (hk : k % 512 = k') (hv : v0 % 65536 = v') (w : World) (h : Ints w w.heap.size A n xs) (h0 : cm xs = 0) (hin : inP root' page') (v r u l : Bool) (p f : Int) (hq : walkA xs root' page' wr = (⟨v, r, u, l, p⟩, f, 0)) (hf : (f == 0) = v) (x : Int) (hx : rd xs (root' * 8 + page' / 8) = x) (b1' b2' : Bool) (q : Int) (hG : enG x = true) (e1 : bitI x 1 = b1') (e2 : bitI x 2 = b2') (e3 : bitI x 3 = false) (ep : enP x = q) (hkf : k' ≠ root' * 8 + page' / 8) (hks : k' = q * 8 + page' % 8) :
    Calls Try.prog 8 #[.agg #[.slice A n c], .int .i64 root, .int .i64 page, .bool wr, .int .i64 k, .int .i64 v0] w fun e w' => e = .returned (.bool true) ∧ Below w.heap.size w w' := by
  have HX := Lib.hid h
  have HQ := Lib.hid hq
  have hn : n = 512 := by rw [← HX.out.len]; exact (cm_inv h0).1
  subst hn
  have H0 := Lib.hid h0
  have HK := Lib.hid (show 0 ≤ k' ∧ k' < 512 by omega)
  have HV := Lib.hid (show 0 ≤ v' ∧ v' ≤ 65535 by omega)
  unfold inP at hin
  obtain ⟨⟨a1, a2⟩, a3, a4⟩ := hin
  have M1 := Lib.hid ((rd_mrV h0 (show 0 ≤ root' * 8 + page' / 8 ∧ root' * 8 + page' / 8 < 512 by omega)).trans hx)
  have M2 := Lib.hid (mrE_0 h0 (show 0 ≤ root' * 8 + page' / 8 ∧ root' * 8 + page' / 8 < 512 by omega))
  have b1 : 0 ≤ k' := HK.out.1
  have tm1 : (k' == -1) = false := by rw [beq_eq_false_iff_ne]; omega
  have HG := Lib.hid hG
  have E1 := Lib.hid e1
  have E2 := Lib.hid e2
  have E3 := Lib.hid e3
  have EP := Lib.hid ep
  have hqb := enP_bd x
  rw [ep] at hqb
  obtain ⟨q1, q2⟩ := hqb
  have tf : (k' == root' * 8 + page' / 8) = false := by rw [beq_eq_false_iff_ne]; exact hkf
  have ts : (k' == q * 8 + page' % 8) = true := by rw [beq_iff_eq]; exact hks
  clear h hq h0 hf hx hkf hks hG e1 e2 e3 ep
  go_enter Try.func8, Try.ntmps8
  go_wp2_with (first | (go_at_call 20; refine (law_at _ _ (by simp) _).mono ?_; rintro e w' ⟨rfl, rfl⟩; simp only [hr, hp, hk, hv]))
  refine (walk_at _ _ _ xs _ _ _ _ _ _ _ _ _ _ _ ((HX.out.alloc (Nat.le_refl _) _).more (by simp)) HQ.out).mono ?_
  rintro e w1 ⟨rfl, hb1⟩
  have hz1 := hb1.size
  (try simp only [World.size_alloc, World.size_setCell, World.size_drew] at hz1)
  have k1_0 := fun o => (bcell hb1).1 (w.heap.size) o (by first | (simp; done) | (simp; omega) | omega)
  have l1_0 : (w.heap.size) < w1.heap.size := (by omega)
  have q1_0 := fun o => (bcell hb1).2 (w.heap.size) o (by first | (simp; done) | (simp; omega) | omega)
  simp (maxDischargeDepth := 6) [go_sem, *] at k1_0 q1_0
  have HB1 := Lib.hid hb1
  clear hb1
  have X1 := Lib.hid (((HX.out.alloc (Nat.le_refl _) (.cells #[.slice A 512 c] 24)).below (HB1.out.mono (by simp))).more (B' := w1.heap.size) (by omega) |>.alloc (Nat.le_refl _) (.cells #[.bool v, .bool r, .bool u, .bool l, .int .i64 p] 75) |>.more (B' := w1.heap.size + 1) (by omega))
  go_wp2_with fail
  refine (law_walked _).mono ?_
  rintro e w2 ⟨rfl, hb2⟩
  have hz2 := hb2.size
  (try simp only [World.size_alloc, World.size_setCell, World.size_drew] at hz2)
  have k2_0 := fun o => (bcell hb2).1 (w.heap.size) o (by first | (simp; done) | (simp; omega) | omega)
  have l2_0 : (w.heap.size) < w2.heap.size := (by omega)
  have q2_0 := fun o => (bcell hb2).2 (w.heap.size) o (by first | (simp; done) | (simp; omega) | omega)
  have k2_1 := fun o => (bcell hb2).1 (w1.heap.size) o (by first | (simp; done) | (simp; omega) | omega)
  have l2_1 : (w1.heap.size) < w2.heap.size := (by omega)
  have q2_1 := fun o => (bcell hb2).2 (w1.heap.size) o (by first | (simp; done) | (simp; omega) | omega)
  simp (maxDischargeDepth := 6) [go_sem, *] at k2_0 q2_0 k2_1 q2_1
  have HB2 := Lib.hid hb2
  clear hb2
  have X2 := Lib.hid ((X1.out.below (HB2.out.mono (by simp))).more (B' := w2.heap.size) (by omega))
  go_wp2_with fail
  refine (mem_Read _ _ _ xs _ _ X2.out).mono ?_
  rw [M1.out, M2.out]
  rintro e w3 ⟨rfl, hb3⟩
  have hz3 := hb3.size
  (try simp only [World.size_alloc, World.size_setCell, World.size_drew] at hz3)
  have k3_0 := fun o => (bcell hb3).1 (w.heap.size) o (by first | (simp; done) | (simp; omega) | omega)
  have l3_0 : (w.heap.size) < w3.heap.size := (by omega)
  have q3_0 := fun o => (bcell hb3).2 (w.heap.size) o (by first | (simp; done) | (simp; omega) | omega)
  have k3_1 := fun o => (bcell hb3).1 (w1.heap.size) o (by first | (simp; done) | (simp; omega) | omega)
  have l3_1 : (w1.heap.size) < w3.heap.size := (by omega)
  have q3_1 := fun o => (bcell hb3).2 (w1.heap.size) o (by first | (simp; done) | (simp; omega) | omega)
  simp (maxDischargeDepth := 6) [go_sem, *] at k3_0 q3_0 k3_1 q3_1
  have HB3 := Lib.hid hb3
  clear hb3
  have X3 := Lib.hid ((X2.out.below HB3.out).more (B' := w3.heap.size) (by omega))
  go_wp2_with fail
  refine (mem_Write _ _ _ xs _ _ _ X3.out H0.out HK.out HV.out).mono ?_
  rintro e w4 ⟨A4, c4, rfl, ho4, hb4⟩
  have hz4 := hb4.size
  (try simp only [World.size_alloc, World.size_setCell, World.size_drew] at hz4)
  have k4_0 := fun o => (bcell hb4).1 (w.heap.size) o (by first | (simp; done) | (simp; omega) | omega)
  have l4_0 : (w.heap.size) < w4.heap.size := (by omega)
  have q4_0 := fun o => (bcell hb4).2 (w.heap.size) o (by first | (simp; done) | (simp; omega) | omega)
  have k4_1 := fun o => (bcell hb4).1 (w1.heap.size) o (by first | (simp; done) | (simp; omega) | omega)
  have l4_1 : (w1.heap.size) < w4.heap.size := (by omega)
  have q4_1 := fun o => (bcell hb4).2 (w1.heap.size) o (by first | (simp; done) | (simp; omega) | omega)
  simp (maxDischargeDepth := 6) [go_sem, *] at k4_0 q4_0 k4_1 q4_1
  have HB4 := Lib.hid hb4
  clear hb4
  have Y4 := Lib.hid ((ho4.ints (by decide)).alloc (Nat.le_refl _) (.cells #[.slice A4 512 c4] 24) |>.more (B' := w4.heap.size + 1) (by omega))
  clear ho4
  go_wp2_with fail
  refine (read_on _ _ _ _ _ _ HG.out E1.out E2.out E3.out EP.out).mono ?_
  rintro e w5 ⟨rfl, hb5⟩
  have hz5 := hb5.size
  (try simp only [World.size_alloc, World.size_setCell, World.size_drew] at hz5)
  have k5_0 := fun o => (bcell hb5).1 (w.heap.size) o (by first | (simp; done) | (simp; omega) | omega)
  have l5_0 : (w.heap.size) < w5.heap.size := (by omega)
  have q5_0 := fun o => (bcell hb5).2 (w.heap.size) o (by first | (simp; done) | (simp; omega) | omega)
  have k5_1 := fun o => (bcell hb5).1 (w1.heap.size) o (by first | (simp; done) | (simp; omega) | omega)
  have l5_1 : (w1.heap.size) < w5.heap.size := (by omega)
  have q5_1 := fun o => (bcell hb5).2 (w1.heap.size) o (by first | (simp; done) | (simp; omega) | omega)
  have k5_2 := fun o => (bcell hb5).1 (w4.heap.size) o (by first | (simp; done) | (simp; omega) | omega)
  have l5_2 : (w4.heap.size) < w5.heap.size := (by omega)
  have q5_2 := fun o => (bcell hb5).2 (w4.heap.size) o (by first | (simp; done) | (simp; omega) | omega)
  simp (maxDischargeDepth := 6) [go_sem, *] at k5_0 q5_0 k5_1 q5_1 k5_2 q5_2
  have HB5 := Lib.hid hb5
  clear hb5
  have Y5 := Lib.hid ((Y4.out.below (HB5.out.mono (by simp))).more (B' := w5.heap.size) (by omega))
  go_wp2
  go_ret
  exact ⟨rfl, by (repeat (first | (with_reducible exact Below.refl _ _) | (with_reducible refine Below.drew ?_) | (with_reducible refine bdrewN ?_ _) | ((with_reducible refine Below.setCell ?_ ?_ _); rotate_left; exact (by first | (simp; done) | (simp; omega) | omega)) | ((with_reducible refine Below.alloc ?_ ?_ _); rotate_left; exact (by first | (simp; done) | (simp; omega) | omega)) | ((with_reducible refine Below.trans ?_ (HB5.out.mono ?_)); rotate_left; exact (by first | (simp; done) | (simp; omega) | omega)) | ((with_reducible refine Below.trans ?_ (HB4.out.mono ?_)); rotate_left; exact (by first | (simp; done) | (simp; omega) | omega)) | ((with_reducible refine Below.trans ?_ (HB3.out.mono ?_)); rotate_left; exact (by first | (simp; done) | (simp; omega) | omega)) | ((with_reducible refine Below.trans ?_ (HB2.out.mono ?_)); rotate_left; exact (by first | (simp; done) | (simp; omega) | omega)) | ((with_reducible refine Below.trans ?_ (HB1.out.mono ?_)); rotate_left; exact (by first | (simp; done) | (simp; omega) | omega))))⟩

set_option maxRecDepth 100000 in
set_option maxHeartbeats 8000000 in
theorem Two_node (A : Option Addr) (n c : Nat) (xs : List Int) (root page : Int) (wr : Bool) (k v0 : Int) (root' page' k' v' : Int) (hr : root % 64 = root') (hp : page % 64 = page') (hk : k % 512 = k') (hv : v0 % 65536 = v') (w : World) (h : Ints w w.heap.size A n xs) (h0 : cm xs = 0) (hin : inP root' page') (v r u l : Bool) (p f : Int) (hq : walkA xs root' page' wr = (⟨v, r, u, l, p⟩, f, 0)) (hf : (f == 0) = v) (x : Int) (hx : rd xs (root' * 8 + page' / 8) = x) (b1' b2' : Bool) (q : Int) (hG : enG x = true) (e1 : bitI x 1 = b1') (e2 : bitI x 2 = b2') (e3 : bitI x 3 = false) (ep : enP x = q) (hkf : k' ≠ root' * 8 + page' / 8) (hks : k' ≠ q * 8 + page' % 8) (hq2 : walkA (xs.set k'.toNat v') root' page' wr = (⟨v, r, u, l, p⟩, f, 0)) :
    Calls Try.prog 8 #[.agg #[.slice A n c], .int .i64 root, .int .i64 page, .bool wr, .int .i64 k, .int .i64 v0] w fun e w' => e = .returned (.bool true) ∧ Below w.heap.size w w' := by
  have HX := Lib.hid h
  have HQ := Lib.hid hq
  have hn : n = 512 := by rw [← HX.out.len]; exact (cm_inv h0).1
  subst hn
  have H0 := Lib.hid h0
  have HK := Lib.hid (show 0 ≤ k' ∧ k' < 512 by omega)
  have HV := Lib.hid (show 0 ≤ v' ∧ v' ≤ 65535 by omega)
  unfold inP at hin
  obtain ⟨⟨a1, a2⟩, a3, a4⟩ := hin
  have M1 := Lib.hid ((rd_mrV h0 (show 0 ≤ root' * 8 + page' / 8 ∧ root' * 8 + page' / 8 < 512 by omega)).trans hx)
  have M2 := Lib.hid (mrE_0 h0 (show 0 ≤ root' * 8 + page' / 8 ∧ root' * 8 + page' / 8 < 512 by omega))
  have b1 : 0 ≤ k' := HK.out.1
  have tm1 : (k' == -1) = false := by rw [beq_eq_false_iff_ne]; omega
  have HG := Lib.hid hG
  have E1 := Lib.hid e1
  have E2 := Lib.hid e2
  have E3 := Lib.hid e3
  have EP := Lib.hid ep
  have hqb := enP_bd x
  rw [ep] at hqb
  obtain ⟨q1, q2⟩ := hqb
  have HQ2 := Lib.hid hq2
  have tf : (k' == root' * 8 + page' / 8) = false := by rw [beq_eq_false_iff_ne]; exact hkf
  have ts : (k' == q * 8 + page' % 8) = false := by rw [beq_eq_false_iff_ne]; exact hks
  clear h hq h0 hx hkf hq2 hG e1 e2 e3 ep hks
  go_enter Try.func8, Try.ntmps8
  go_wp2_with (first | (go_at_call 20; refine (law_at _ _ (by simp) _).mono ?_; rintro e w' ⟨rfl, rfl⟩; simp only [hr, hp, hk, hv]))
  refine (walk_at _ _ _ xs _ _ _ _ _ _ _ _ _ _ _ ((HX.out.alloc (Nat.le_refl _) _).more (by simp)) HQ.out).mono ?_
  rintro e w1 ⟨rfl, hb1⟩
  have hz1 := hb1.size
  (try simp only [World.size_alloc, World.size_setCell, World.size_drew] at hz1)
  have k1_0 := fun o => (bcell hb1).1 (w.heap.size) o (by first | (simp; done) | (simp; omega) | omega)
  have l1_0 : (w.heap.size) < w1.heap.size := (by omega)
  have q1_0 := fun o => (bcell hb1).2 (w.heap.size) o (by first | (simp; done) | (simp; omega) | omega)
  simp (maxDischargeDepth := 6) [go_sem, *] at k1_0 q1_0
  have HB1 := Lib.hid hb1
  clear hb1
  have X1 := Lib.hid (((HX.out.alloc (Nat.le_refl _) (.cells #[.slice A 512 c] 24)).below (HB1.out.mono (by simp))).more (B' := w1.heap.size) (by omega) |>.alloc (Nat.le_refl _) (.cells #[.bool v, .bool r, .bool u, .bool l, .int .i64 p] 75) |>.more (B' := w1.heap.size + 1) (by omega))
  go_wp2_with fail
  refine (law_walked _).mono ?_
  rintro e w2 ⟨rfl, hb2⟩
  have hz2 := hb2.size
  (try simp only [World.size_alloc, World.size_setCell, World.size_drew] at hz2)
  have k2_0 := fun o => (bcell hb2).1 (w.heap.size) o (by first | (simp; done) | (simp; omega) | omega)
  have l2_0 : (w.heap.size) < w2.heap.size := (by omega)
  have q2_0 := fun o => (bcell hb2).2 (w.heap.size) o (by first | (simp; done) | (simp; omega) | omega)
  have k2_1 := fun o => (bcell hb2).1 (w1.heap.size) o (by first | (simp; done) | (simp; omega) | omega)
  have l2_1 : (w1.heap.size) < w2.heap.size := (by omega)
  have q2_1 := fun o => (bcell hb2).2 (w1.heap.size) o (by first | (simp; done) | (simp; omega) | omega)
  simp (maxDischargeDepth := 6) [go_sem, *] at k2_0 q2_0 k2_1 q2_1
  have HB2 := Lib.hid hb2
  clear hb2
  have X2 := Lib.hid ((X1.out.below (HB2.out.mono (by simp))).more (B' := w2.heap.size) (by omega))
  go_wp2_with fail
  refine (mem_Read _ _ _ xs _ _ X2.out).mono ?_
  rw [M1.out, M2.out]
  rintro e w3 ⟨rfl, hb3⟩
  have hz3 := hb3.size
  (try simp only [World.size_alloc, World.size_setCell, World.size_drew] at hz3)
  have k3_0 := fun o => (bcell hb3).1 (w.heap.size) o (by first | (simp; done) | (simp; omega) | omega)
  have l3_0 : (w.heap.size) < w3.heap.size := (by omega)
  have q3_0 := fun o => (bcell hb3).2 (w.heap.size) o (by first | (simp; done) | (simp; omega) | omega)
  have k3_1 := fun o => (bcell hb3).1 (w1.heap.size) o (by first | (simp; done) | (simp; omega) | omega)
  have l3_1 : (w1.heap.size) < w3.heap.size := (by omega)
  have q3_1 := fun o => (bcell hb3).2 (w1.heap.size) o (by first | (simp; done) | (simp; omega) | omega)
  simp (maxDischargeDepth := 6) [go_sem, *] at k3_0 q3_0 k3_1 q3_1
  have HB3 := Lib.hid hb3
  clear hb3
  have X3 := Lib.hid ((X2.out.below HB3.out).more (B' := w3.heap.size) (by omega))
  go_wp2_with fail
  refine (mem_Write _ _ _ xs _ _ _ X3.out H0.out HK.out HV.out).mono ?_
  rintro e w4 ⟨A4, c4, rfl, ho4, hb4⟩
  have hz4 := hb4.size
  (try simp only [World.size_alloc, World.size_setCell, World.size_drew] at hz4)
  have k4_0 := fun o => (bcell hb4).1 (w.heap.size) o (by first | (simp; done) | (simp; omega) | omega)
  have l4_0 : (w.heap.size) < w4.heap.size := (by omega)
  have q4_0 := fun o => (bcell hb4).2 (w.heap.size) o (by first | (simp; done) | (simp; omega) | omega)
  have k4_1 := fun o => (bcell hb4).1 (w1.heap.size) o (by first | (simp; done) | (simp; omega) | omega)
  have l4_1 : (w1.heap.size) < w4.heap.size := (by omega)
  have q4_1 := fun o => (bcell hb4).2 (w1.heap.size) o (by first | (simp; done) | (simp; omega) | omega)
  simp (maxDischargeDepth := 6) [go_sem, *] at k4_0 q4_0 k4_1 q4_1
  have HB4 := Lib.hid hb4
  clear hb4
  have Y4 := Lib.hid ((ho4.ints (by decide)).alloc (Nat.le_refl _) (.cells #[.slice A4 512 c4] 24) |>.more (B' := w4.heap.size + 1) (by omega))
  clear ho4
  go_wp2_with fail
  refine (read_on _ _ _ _ _ _ HG.out E1.out E2.out E3.out EP.out).mono ?_
  rintro e w5 ⟨rfl, hb5⟩
  have hz5 := hb5.size
  (try simp only [World.size_alloc, World.size_setCell, World.size_drew] at hz5)
  have k5_0 := fun o => (bcell hb5).1 (w.heap.size) o (by first | (simp; done) | (simp; omega) | omega)
  have l5_0 : (w.heap.size) < w5.heap.size := (by omega)
  have q5_0 := fun o => (bcell hb5).2 (w.heap.size) o (by first | (simp; done) | (simp; omega) | omega)
  have k5_1 := fun o => (bcell hb5).1 (w1.heap.size) o (by first | (simp; done) | (simp; omega) | omega)
  have l5_1 : (w1.heap.size) < w5.heap.size := (by omega)
  have q5_1 := fun o => (bcell hb5).2 (w1.heap.size) o (by first | (simp; done) | (simp; omega) | omega)
  have k5_2 := fun o => (bcell hb5).1 (w4.heap.size) o (by first | (simp; done) | (simp; omega) | omega)
  have l5_2 : (w4.heap.size) < w5.heap.size := (by omega)
  have q5_2 := fun o => (bcell hb5).2 (w4.heap.size) o (by first | (simp; done) | (simp; omega) | omega)
  simp (maxDischargeDepth := 6) [go_sem, *] at k5_0 q5_0 k5_1 q5_1 k5_2 q5_2
  have HB5 := Lib.hid hb5
  clear hb5
  have Y5 := Lib.hid ((Y4.out.below (HB5.out.mono (by simp))).more (B' := w5.heap.size) (by omega))
  go_wp2_with fail
  refine (walk_at _ _ _ (xs.set k'.toNat v') _ _ _ _ _ _ _ _ _ _ _ ((Y5.out.alloc (Nat.le_refl _) _).more (by simp)) HQ2.out).mono ?_
  rintro e w6 ⟨rfl, hb6⟩
  have hz6 := hb6.size
  (try simp only [World.size_alloc, World.size_setCell, World.size_drew] at hz6)
  have k6_0 := fun o => (bcell hb6).1 (w1.heap.size) o (by first | (simp; done) | (simp; omega) | omega)
  have l6_0 : (w1.heap.size) < w6.heap.size := (by omega)
  have q6_0 := fun o => (bcell hb6).2 (w1.heap.size) o (by first | (simp; done) | (simp; omega) | omega)
  simp (maxDischargeDepth := 6) [go_sem, *] at k6_0 q6_0
  have HB6 := Lib.hid hb6
  clear hb6
  go_wp2
  go_ret
  exact ⟨rfl, by (repeat (first | (with_reducible exact Below.refl _ _) | (with_reducible refine Below.drew ?_) | (with_reducible refine bdrewN ?_ _) | ((with_reducible refine Below.setCell ?_ ?_ _); rotate_left; exact (by first | (simp; done) | (simp; omega) | omega)) | ((with_reducible refine Below.alloc ?_ ?_ _); rotate_left; exact (by first | (simp; done) | (simp; omega) | omega)) | ((with_reducible refine Below.trans ?_ (HB6.out.mono ?_)); rotate_left; exact (by first | (simp; done) | (simp; omega) | omega)) | ((with_reducible refine Below.trans ?_ (HB5.out.mono ?_)); rotate_left; exact (by first | (simp; done) | (simp; omega) | omega)) | ((with_reducible refine Below.trans ?_ (HB4.out.mono ?_)); rotate_left; exact (by first | (simp; done) | (simp; omega) | omega)) | ((with_reducible refine Below.trans ?_ (HB3.out.mono ?_)); rotate_left; exact (by first | (simp; done) | (simp; omega) | omega)) | ((with_reducible refine Below.trans ?_ (HB2.out.mono ?_)); rotate_left; exact (by first | (simp; done) | (simp; omega) | omega)) | ((with_reducible refine Below.trans ?_ (HB1.out.mono ?_)); rotate_left; exact (by first | (simp; done) | (simp; omega) | omega))))⟩

theorem law_WalkTwo (A : Option Addr) (n c : Nat) (xs : List Int) (root page : Int) (wr : Bool) (k v0 : Int) (w : World) (h : Ints w w.heap.size A n xs) :
    Calls Try.prog 8 #[.agg #[.slice A n c], .int .i64 root, .int .i64 page, .bool wr, .int .i64 k, .int .i64 v0] w fun e w' => e = .returned (.bool true) ∧ Below w.heap.size w w' := by
  by_cases h0 : cm xs = 0
  · have hin : inP (root % 64) (page % 64) := by unfold inP; omega
    have hval := walkA_valid (wr := wr) h0 hin
    have hset := fun h1 h2 => walkA_set (wr := wr) (k := k % 512) (v := v0 % 65536) h0 (by omega) (by omega) hin h1 h2
    generalize hq : walkA xs (root % 64) (page % 64) wr = q at *
    obtain ⟨⟨v, r, u, l, p⟩, f, e⟩ := q
    dsimp only at hval
    obtain ⟨he, hval⟩ := hval
    subst he
    by_cases hkf : k % 512 = root % 64 * 8 + page % 64 / 8
    · by_cases hG : enG (rd xs (root % 64 * 8 + page % 64 / 8)) = true
      · cases h3 : bitI (rd xs (root % 64 * 8 + page % 64 / 8)) 3
        · exact Two_node_first A n c xs root page wr k v0 _ _ _ _ rfl rfl rfl rfl w h h0 hin v r u l p f hq hval _ rfl _ _ _ hG rfl rfl h3 rfl hkf
        · exact Two_leaf_first A n c xs root page wr k v0 _ _ _ _ rfl rfl rfl rfl w h h0 hin v r u l p f hq hval _ rfl _ _ _ hG rfl rfl h3 rfl hkf
      · by_cases hK : enK (rd xs (root % 64 * 8 + page % 64 / 8)) = true
        · exact Two_off_first A n c xs root page wr k v0 _ _ _ _ rfl rfl rfl rfl w h h0 hin v r u l p f hq hval _ rfl hK (by simpa using hG) hkf
        · exact Two_bad_first A n c xs root page wr k v0 _ _ _ _ rfl rfl rfl rfl w h h0 hin v r u l p f hq hval _ rfl (by simpa using hK) hkf
    · by_cases hG : enG (rd xs (root % 64 * 8 + page % 64 / 8)) = true
      · cases h3 : bitI (rd xs (root % 64 * 8 + page % 64 / 8)) 3
        · by_cases hks : k % 512 = enP (rd xs (root % 64 * 8 + page % 64 / 8)) * 8 + page % 64 % 8
          · exact Two_node_second A n c xs root page wr k v0 _ _ _ _ rfl rfl rfl rfl w h h0 hin v r u l p f hq hval _ rfl _ _ _ hG rfl rfl h3 rfl hkf hks
          · exact Two_node A n c xs root page wr k v0 _ _ _ _ rfl rfl rfl rfl w h h0 hin v r u l p f hq hval _ rfl _ _ _ hG rfl rfl h3 rfl hkf hks (hset hkf (fun _ _ => hks))
        · exact Two_leaf A n c xs root page wr k v0 _ _ _ _ rfl rfl rfl rfl w h h0 hin v r u l p f hq hval _ rfl _ _ _ hG rfl rfl h3 rfl hkf (hset hkf (fun _ h => by rw [h3] at h; cases h))
      · by_cases hK : enK (rd xs (root % 64 * 8 + page % 64 / 8)) = true
        · exact Two_off A n c xs root page wr k v0 _ _ _ _ rfl rfl rfl rfl w h h0 hin v r u l p f hq hval _ rfl hK (by simpa using hG) hkf (hset hkf (fun h => absurd h hG))
        · exact Two_bad A n c xs root page wr k v0 _ _ _ _ rfl rfl rfl rfl w h h0 hin v r u l p f hq hval _ rfl (by simpa using hK) hkf (hset hkf (fun h => absurd h hG))
  · have e : walkA xs (root % 64) (page % 64) wr = (⟨false, false, false, false, 0⟩, 0, cm xs) := by unfold walkA; rw [if_neg h0]; rfl
    exact Two_c A n c xs root page wr k v0 _ _ _ _ rfl rfl rfl rfl w h h0 e
end Go.Proofs.Ytbopdijnojaaiab
