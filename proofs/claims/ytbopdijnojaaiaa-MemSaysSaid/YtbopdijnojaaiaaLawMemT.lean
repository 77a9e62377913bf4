/- Memory: the walk of the law MemSays where all is right. -/
import Derived.Test.YtbopdijnojaaiaaLawMemS
namespace Go.Proofs.Ytbopdijnojaaiaa
open Go.RowKit
set_option linter.unusedSimpArgs false
set_option linter.unusedVariables false
attribute [local go_sem ↓] Go.wp_at_zero Go.wp_at_succ

set_option maxRecDepth 100000 in
set_option maxHeartbeats 8000000 in
theorem law_MemSays_d (A A2 : Option Addr) (n c n2 c2 : Nat) (xs ys : List Int) (k v : Int) (w : World) (h : Ints w w.heap.size A n xs) (h2 : Ints w w.heap.size A2 n2 ys) (h0 : cm xs = 0) (hk : 0 ≤ k ∧ k < 512) (hv : 0 ≤ v ∧ v ≤ 65535) :
    Calls Try.prog 10 #[.agg #[.slice A n c], .int .i64 k, .int .i64 v, .agg #[.slice A2 n2 c2]] w fun e w' => e = .returned (.bool true) ∧ Below w.heap.size w w' := by
  have HX := Lib.hid h
  have HY := Lib.hid h2
  have hfl := fieldMem
  have hmk := make512
  have hzz : eqI zs zs = true := by simp [eqI]
  have H0 := Lib.hid h0
  have HK := Lib.hid hk
  have HV := Lib.hid hv
  have hee : eqI (xs.set k.toNat v) (xs.set k.toNat v) = true := by simp [eqI]
  have r0 : cm xs = 0 := h0
  have hl := (cm_inv h0).1
  have hn : n = 512 := by rw [← HX.out.len]; exact hl
  subst hn
  obtain ⟨x, hx⟩ := some_of_lt xs (k := k.toNat) (by rw [hl]; omega)
  have r1 := mrE_0 h0 hk
  have r2 := mrV_0 (mrE_0 h0 hk) hx
  obtain ⟨b, off, rfl, hbb, hc⟩ := h.at_ (by omega)
  have HCX := Lib.hid (hc _ _ hx)
  obtain ⟨hv2, hv3⟩ := hv
  obtain ⟨hk1, hk2⟩ := hk
  clear h h2 h0 hl hx hc
  go_enter Try.func10, Try.ntmps10
  go_wp2_with fail
  refine (mem_Read _ _ _ xs k _ (((HX.out.alloc (Nat.le_refl _) _).alloc (by simp) _).more (by simp; omega))).mono ?_
  rintro e w1 ⟨rfl, hb1⟩
  have hz1 := hb1.size
  (try simp only [World.size_alloc, World.size_setCell, World.size_drew] at hz1)
  have k1_0 := fun o => (bcell hb1).1 (w.heap.size) o (by first | (simp; done) | (simp; omega) | omega)
  have l1_0 : (w.heap.size) < w1.heap.size := (by omega)
  have q1_0 := fun o => (bcell hb1).2 (w.heap.size) o (by first | (simp; done) | (simp; omega) | omega)
  have k1_1 := fun o => (bcell hb1).1 (w.heap.size + 1) o (by first | (simp; done) | (simp; omega) | omega)
  have l1_1 : (w.heap.size + 1) < w1.heap.size := (by omega)
  have q1_1 := fun o => (bcell hb1).2 (w.heap.size + 1) o (by first | (simp; done) | (simp; omega) | omega)
  simp (maxDischargeDepth := 6) [go_sem, *] at k1_0 q1_0 k1_1 q1_1
  have HB1 := Lib.hid hb1
  clear hb1
  have X1 := Lib.hid ((((HX.out.alloc (Nat.le_refl _) (.cells #[.slice (some ⟨b, off, none⟩) 512 c] 59)).alloc (by simp) (.cells #[.slice A2 n2 c2] 59)).below (HB1.out.mono (by simp; omega))).more (B' := w1.heap.size) (by omega))
  have Y1 := Lib.hid ((((HY.out.alloc (Nat.le_refl _) (.cells #[.slice (some ⟨b, off, none⟩) 512 c] 59)).alloc (by simp) (.cells #[.slice A2 n2 c2] 59)).below (HB1.out.mono (by simp; omega))).more (B' := w1.heap.size) (by omega))
  go_wp2_with fail
  refine (mem_Write _ _ _ xs k v _ X1.out H0.out HK.out HV.out).mono ?_
  rintro e w2 ⟨A9, c9, rfl, ho2, hb2⟩
  have hz2 := hb2.size
  (try simp only [World.size_alloc, World.size_setCell, World.size_drew] at hz2)
  have k2_0 := fun o => (bcell hb2).1 (w.heap.size) o (by first | (simp; done) | (simp; omega) | omega)
  have l2_0 : (w.heap.size) < w2.heap.size := (by omega)
  have q2_0 := fun o => (bcell hb2).2 (w.heap.size) o (by first | (simp; done) | (simp; omega) | omega)
  have k2_1 := fun o => (bcell hb2).1 (w.heap.size + 1) o (by first | (simp; done) | (simp; omega) | omega)
  have l2_1 : (w.heap.size + 1) < w2.heap.size := (by omega)
  have q2_1 := fun o => (bcell hb2).2 (w.heap.size + 1) o (by first | (simp; done) | (simp; omega) | omega)
  simp (maxDischargeDepth := 6) [go_sem, *] at k2_0 q2_0 k2_1 q2_1
  have HB2 := Lib.hid hb2
  clear hb2
  have Z2 := Lib.hid ((ho2.ints (by decide)).alloc (Nat.le_refl _) (.cells #[.slice A9 512 c9] 59) |>.more (B' := w2.heap.size + 1) (by omega))
  clear ho2
  have X2 := Lib.hid (((X1.out.below HB2.out).more (B' := w2.heap.size) (by omega)).alloc (Nat.le_refl _) (.cells #[.slice A9 512 c9] 59) |>.more (B' := w2.heap.size + 1) (by omega))
  have Y2 := Lib.hid (((Y1.out.below HB2.out).more (B' := w2.heap.size) (by omega)).alloc (Nat.le_refl _) (.cells #[.slice A9 512 c9] 59) |>.more (B' := w2.heap.size + 1) (by omega))
  go_wp2_with fail
  refine (ref_CheckMem _ _ _ xs _ (X2.out.more (by simp))).mono ?_
  rintro e w3 ⟨rfl, hb3⟩
  have hz3 := hb3.size
  (try simp only [World.size_alloc, World.size_setCell, World.size_drew] at hz3)
  have k3_0 := fun o => (bcell hb3).1 (w.heap.size) o (by first | (simp; done) | (simp; omega) | omega)
  have l3_0 : (w.heap.size) < w3.heap.size := (by omega)
  have q3_0 := fun o => (bcell hb3).2 (w.heap.size) o (by first | (simp; done) | (simp; omega) | omega)
  have k3_1 := fun o => (bcell hb3).1 (w.heap.size + 1) o (by first | (simp; done) | (simp; omega) | omega)
  have l3_1 : (w.heap.size + 1) < w3.heap.size := (by omega)
  have q3_1 := fun o => (bcell hb3).2 (w.heap.size + 1) o (by first | (simp; done) | (simp; omega) | omega)
  have k3_2 := fun o => (bcell hb3).1 (w2.heap.size) o (by first | (simp; done) | (simp; omega) | omega)
  have l3_2 : (w2.heap.size) < w3.heap.size := (by omega)
  have q3_2 := fun o => (bcell hb3).2 (w2.heap.size) o (by first | (simp; done) | (simp; omega) | omega)
  simp (maxDischargeDepth := 6) [go_sem, *] at k3_0 q3_0 k3_1 q3_1 k3_2 q3_2
  have HB3 := Lib.hid hb3
  clear hb3
  have X3 := Lib.hid ((X2.out.below (HB3.out.mono (by simp))).more (B' := w3.heap.size) (by omega))
  have Y3 := Lib.hid ((Y2.out.below (HB3.out.mono (by simp))).more (B' := w3.heap.size) (by omega))
  have Z3 := Lib.hid ((Z2.out.below (HB3.out.mono (by simp))).more (B' := w3.heap.size) (by omega))
  have C0 : w3.cell? ⟨w.heap.size, 0, none⟩ = some (.slice (some ⟨b, off, none⟩) 512 c) := by simp [k3_0]
  have C1 : w3.cell? ⟨w.heap.size + 1, 0, none⟩ = some (.slice A2 n2 c2) := by simp [k3_1]
  have C2 : w3.cell? ⟨w2.heap.size, 0, none⟩ = some (.slice A9 512 c9) := by simp [k3_2]
  have HC2 := Lib.hid C2
  have HC0 := Lib.hid C0
  have HC1 := Lib.hid C1
  have S0 := Lib.hid (since_refl w3)
  go_wp2_with fail
  go_region_held3 (fun W => W.cell? ⟨w.heap.size, 0, none⟩ = some (.slice (some ⟨b, off, none⟩) 512 c) ∧ W.cell? ⟨w.heap.size + 1, 0, none⟩ = some (.slice A2 n2 c2) ∧ W.cell? ⟨w2.heap.size, 0, none⟩ = some (.slice A9 512 c9) ∧ Hid (Since w3 W))
    (first
      | exact keep3 (since_drew S0.out) HC0.out HC1.out HC2.out
      | exact keep3 (since_step (by assumption) (Hid.out (by assumption))) HC0.out HC1.out HC2.out
      | exact keep3 (since_step (by assumption) (since_of (by assumption))) HC0.out HC1.out HC2.out
      | exact keep3 (since_alloc (Hid.out (by assumption)) _) HC0.out HC1.out HC2.out
      | exact keep3 (since_alloc (since_of (by assumption)) _) HC0.out HC1.out HC2.out
      | fail)
    (first
      | (go_at_call 41; refine (law_stored _).mono ?_; rintro e w' ⟨rfl, hb⟩)
      | (go_at_call 42; refine (mem_Check _ _ _ xs _ ?_).mono ?_; (first | exact since_ints (Hid.out (by assumption)) X3.out (Nat.le_refl _) | exact since_ints (since_of (by assumption)) X3.out (Nat.le_refl _)); rintro e w' ⟨rfl, hb⟩)
      | (go_at_call 43; refine (mem_Same _ _ _ _ _ _ xs ys _ ?_ ?_).mono ?_; (first | exact since_ints (Hid.out (by assumption)) X3.out (Nat.le_refl _) | exact since_ints (since_of (by assumption)) X3.out (Nat.le_refl _)); (first | exact since_ints (Hid.out (by assumption)) Y3.out (Nat.le_refl _) | exact since_ints (since_of (by assumption)) Y3.out (Nat.le_refl _)); rintro e w' ⟨rfl, hb⟩)
      | (go_at_call 14; refine (sl_Equal _ _ _ _ _ _ xs ys _ ?_ ?_).mono ?_; (first | exact since_ints (Hid.out (by assumption)) X3.out (Nat.le_refl _) | exact since_ints (since_of (by assumption)) X3.out (Nat.le_refl _)); (first | exact since_ints (Hid.out (by assumption)) Y3.out (Nat.le_refl _) | exact since_ints (since_of (by assumption)) Y3.out (Nat.le_refl _)); rintro e w' ⟨rfl, hb⟩)
      | (go_at_call 44; refine (mem_New _).mono ?_; rintro e w' ⟨An, dn, rfl, hon, hb⟩; rw [zs_eq] at hon)
      | (go_at_call 14; refine (sl_Equal _ _ _ _ _ _ zs zs _ ?_ ?_).mono ?_; (first | exact (hon.alloc _).ints (by decide) | exact hon.ints (by decide)); (first | exact (own_zs _).ints (by decide) | exact ((own_zs _).below hb).ints (by decide)); rintro e w' ⟨rfl, hb⟩))
  all_goals
    rename_i hHeld
    have SS := Lib.hid (since_of hHeld)
    obtain ⟨d0, d1, d2, _⟩ := hHeld
    have hq := since_cell SS.out (show w3.cell? ⟨b, off + k.toNat, none⟩ = some (.int .i64 x) from Eq.trans (Below.cell (p := ⟨b, off + k.toNat, none⟩) (w := w) (B := w.heap.size) (by (repeat (first | (with_reducible exact Below.refl _ _) | (with_reducible refine Below.drew ?_) | (with_reducible refine bdrewN ?_ _) | ((with_reducible refine Below.setCell ?_ ?_ _); rotate_left; exact (by first | (simp; done) | (simp; omega) | omega)) | ((with_reducible refine Below.alloc ?_ ?_ _); rotate_left; exact (by first | (simp; done) | (simp; omega) | omega)) | ((with_reducible refine Below.trans ?_ (HB3.out.mono ?_)); rotate_left; exact (by first | (simp; done) | (simp; omega) | omega)) | ((with_reducible refine Below.trans ?_ (HB2.out.mono ?_)); rotate_left; exact (by first | (simp; done) | (simp; omega) | omega)) | ((with_reducible refine Below.trans ?_ (HB1.out.mono ?_)); rotate_left; exact (by first | (simp; done) | (simp; omega) | omega))))) hbb) HCX.out)
    clear hq d0 d1 d2
    have D1 := since_cell SS.out HC0.out
    have D2 := since_cell SS.out HC2.out
    have hq := since_cell SS.out (show w3.cell? ⟨b, off + k.toNat, none⟩ = some (.int .i64 x) from Eq.trans (Below.cell (p := ⟨b, off + k.toNat, none⟩) (w := w) (B := w.heap.size) (by (repeat (first | (with_reducible exact Below.refl _ _) | (with_reducible refine Below.drew ?_) | (with_reducible refine bdrewN ?_ _) | ((with_reducible refine Below.setCell ?_ ?_ _); rotate_left; exact (by first | (simp; done) | (simp; omega) | omega)) | ((with_reducible refine Below.alloc ?_ ?_ _); rotate_left; exact (by first | (simp; done) | (simp; omega) | omega)) | ((with_reducible refine Below.trans ?_ (HB3.out.mono ?_)); rotate_left; exact (by first | (simp; done) | (simp; omega) | omega)) | ((with_reducible refine Below.trans ?_ (HB2.out.mono ?_)); rotate_left; exact (by first | (simp; done) | (simp; omega) | omega)) | ((with_reducible refine Below.trans ?_ (HB1.out.mono ?_)); rotate_left; exact (by first | (simp; done) | (simp; omega) | omega))))) hbb) HCX.out)
    go_wp2
    clear hq
    go_region_held3 (fun W => W.cell? ⟨w.heap.size, 0, none⟩ = some (.slice (some ⟨b, off, none⟩) 512 c) ∧ W.cell? ⟨w.heap.size + 1, 0, none⟩ = some (.slice A2 n2 c2) ∧ W.cell? ⟨w2.heap.size, 0, none⟩ = some (.slice A9 512 c9) ∧ Hid (Since w3 W))
      (first
        | exact keep3 (since_drew SS.out) HC0.out HC1.out HC2.out
        | exact keep3 (since_step (by assumption) (Hid.out (by assumption))) HC0.out HC1.out HC2.out
        | exact keep3 (since_step (by assumption) (since_of (by assumption))) HC0.out HC1.out HC2.out
        | exact keep3 (since_alloc (Hid.out (by assumption)) _) HC0.out HC1.out HC2.out
        | exact keep3 (since_alloc (since_of (by assumption)) _) HC0.out HC1.out HC2.out
        | fail)
      (first
        | (go_at_call 45; refine (ref_Put _ _ xs k v _ ?_ HK.out).mono ?_; (exact since_ints (since_drew SS.out) X3.out (Nat.le_refl _)); rintro e w5 ⟨A5, c5, rfl, ho5, hb⟩)
        | (go_at_call 14; refine (sl_Equal _ _ _ _ _ _ (xs.set k.toNat v) (xs.set k.toNat v) _ ?_ ?_).mono ?_; (exact since_ints (since_of (by assumption)) Z3.out (Nat.le_refl _)); (exact ho5.ints (by decide)); rintro e w' ⟨rfl, hb⟩))
    all_goals
      rename_i hHeld2
      have SS2 := Lib.hid (since_of hHeld2)
      go_wp2
      go_ret
      refine ⟨rfl, Below.trans (b := w3) ?_ (Below.mono SS2.out (by omega))⟩
      (repeat (first | (with_reducible exact Below.refl _ _) | (with_reducible refine Below.drew ?_) | (with_reducible refine bdrewN ?_ _) | ((with_reducible refine Below.setCell ?_ ?_ _); rotate_left; exact (by first | (simp; done) | (simp; omega) | omega)) | ((with_reducible refine Below.alloc ?_ ?_ _); rotate_left; exact (by first | (simp; done) | (simp; omega) | omega)) | ((with_reducible refine Below.trans ?_ (HB3.out.mono ?_)); rotate_left; exact (by first | (simp; done) | (simp; omega) | omega)) | ((with_reducible refine Below.trans ?_ (HB2.out.mono ?_)); rotate_left; exact (by first | (simp; done) | (simp; omega) | omega)) | ((with_reducible refine Below.trans ?_ (HB1.out.mono ?_)); rotate_left; exact (by first | (simp; done) | (simp; omega) | omega))))

theorem law_MemSays (A A2 : Option Addr) (n c n2 c2 : Nat) (xs ys : List Int) (k v : Int) (w : World) (h : Ints w w.heap.size A n xs) (h2 : Ints w w.heap.size A2 n2 ys) :
    Calls Try.prog 10 #[.agg #[.slice A n c], .int .i64 k, .int .i64 v, .agg #[.slice A2 n2 c2]] w fun e w' => e = .returned (.bool true) ∧ Below w.heap.size w w' := by
  by_cases h0 : cm xs = 0
  · by_cases hk : 0 ≤ k ∧ k < 512
    · by_cases hv : 0 ≤ v ∧ v ≤ 65535
      · exact law_MemSays_d A A2 n c n2 c2 xs ys k v w h h2 h0 hk hv
      · exact law_MemSays_v A A2 n c n2 c2 xs ys k v w h h2 h0 hk hv
    · exact law_MemSays_k A A2 n c n2 c2 xs ys k v w h h2 h0 hk
  · exact law_MemSays_c A A2 n c n2 c2 xs ys k v w h h2 h0
end Go.Proofs.Ytbopdijnojaaiaa
