/- The cache: the walk of the program's Fill where nothing has to go. No statement of the seat is proved here. -/
import Derived.Test.YtbopdijnojaaiabSlices
import Derived.Deep.RegionHeld3
import Derived.Deep.DrawnRows
import Derived.Deep.AppendLies
namespace Go.Proofs.Ytbopdijnojaaiab
open Go.RowKit
set_option linter.unusedSimpArgs false
set_option linter.unusedVariables false

section
attribute [local go_sem ↓] Go.wp_at_zero Go.wp_at_succ

set_option maxRecDepth 100000 in
set_option maxHeartbeats 8000000 in
theorem cache_Check (A : Option Addr) (n c : Nat) (ls : List Line) (w : World) (hl : Lines w w.heap.size A n c ls) :
    Calls Try.prog 32 #[.slice A n c] w fun e w' => e = .returned (.int .i64 (ckC ls)) ∧ Below w.heap.size w w' := by
  have HL := Lib.hid hl
  obtain ⟨hn1, hn2⟩ := hl.cap
  have hlen := hl.len
  clear hl
  by_cases h6 : n ≤ 6
  · have H6 := Lib.hid (ckC_few (show ls.length ≤ 6 by omega))
    have HN := Lib.hid hlen
    clear hlen
    rw [H6.out]
    have h6' : (n : Int) ≤ 6 := by omega
    have n3 : (n : Int) ≤ (c : Int) := by omega
    go_enter Try.func32, Try.ntmps32
    go_wp2
    go_loopw [10] (fun i wr => ∃ k : Nat, k ≤ n ∧ i = .int .i64 k ∧ Hid (ckL [] ls = ckL (ls.take k) (ls.drop k)) ∧ Hid (Since w wr)) (fun i _ => n - (intOf i).toNat)
    case atStart => exact ⟨0, by omega, rfl, by simp [Hid], since_refl w⟩
    case round =>
      obtain ⟨k, hk, rfl, hck, hs⟩ := hrel
      by_cases hlt : k < n
      · obtain ⟨x, hx⟩ := some_of_lt ls (k := k) (by rw [HL.out.len]; exact hlt)
        have HX := Lib.hid hx
        have HT := Lib.hid ((HL.out.take (Nat.le_of_lt hlt)).below hs.out)
        obtain ⟨b, off, hA, hb, hc⟩ := (HL.out.below hs.out).at_ (by omega)
        subst hA
        obtain ⟨e0, e1, e2, e3, e4⟩ := hc k x hx
        have HS := Lib.hid hs.out
        have hzr := hs.out.size
        clear hc hx hs
        have n1 : (0 : Int) ≤ (k : Int) := by omega
        have n2 : (k : Int) ≤ (c : Int) := by omega
        by_cases hR : lineR x
        · have HR := Lib.hid hR
          unfold lineR at hR
          obtain ⟨⟨r1, r2⟩, ⟨r3, r4⟩, r5, r6⟩ := hR
          cases hrd : x.rd
          · have HRD := Lib.hid hrd
            clear hrd
            rw [HRD.out] at e3
            go_wp2
            go_ret
            exact ⟨ret_int (hck.out.trans ((ckL_bad HX.out (by rw [lineE_f HR.out HRD.out]; decide)).trans (lineE_f HR.out HRD.out))).symm, by (repeat (first | (with_reducible exact Below.refl _ _) | (with_reducible refine Below.drew ?_) | (with_reducible refine bdrewN ?_ _) | ((with_reducible refine Below.setCell ?_ ?_ _); rotate_left; exact (by first | (simp; done) | (simp; omega) | omega)) | ((with_reducible refine Below.alloc ?_ ?_ _); rotate_left; exact (by first | (simp; done) | (simp; omega) | omega)))); exact HS.out⟩
          · have HRD := Lib.hid hrd
            clear hrd
            rw [HRD.out] at e3
            by_cases hf : 0 ≤ findL (ls.take k) x.dev x.page
            · have HF := Lib.hid hf
              have hf1 : decide (0 ≤ findL (ls.take k) x.dev x.page) = true := by simpa using hf
              clear hf
              go_wp2
              go_region_held3 (fun W => W.cell? ⟨wr.heap.size, 0, none⟩ = some (.int .i64 x.dev) ∧ W.cell? ⟨wr.heap.size, 1, none⟩ = some (.int .i64 x.page))
                (first | (refine ⟨?_, ?_⟩ <;> (simp (maxDischargeDepth := 8) [go_sem]; done)) | (refine ⟨?_, ?_⟩ <;> (simp (maxDischargeDepth := 8) [go_sem, k1_0]; done)) | go_keep)
                (first
                  | (go_at_call 34; refine (cache_Find _ _ _ (ls.take k) _ _ _ ?_).mono ?_; (exact ((HT.out.more hzr).alloc (Nat.le_refl _) _).more (by simp)); (rintro e w1 ⟨rfl, hb1⟩; have hz1 := hb1.size; (try simp only [World.size_alloc, World.size_setCell, World.size_drew] at hz1); have k1_0 := fun o => (bcell hb1).1 (wr.heap.size) o (by first | (simp; done) | (simp; omega) | omega); have l1_0 : (wr.heap.size) < w1.heap.size := (by omega); have q1_0 := fun o => (bcell hb1).2 (wr.heap.size) o (by first | (simp; done) | (simp; omega) | omega); simp (maxDischargeDepth := 6) [go_sem, *] at k1_0 q1_0; have HB1 := Lib.hid hb1; clear hb1)))
              go_wp2
              go_ret
              exact ⟨ret_int (hck.out.trans (ckL_twice HX.out (lineE_0 HR.out HRD.out) HF.out)).symm, by (repeat (first | (with_reducible exact Below.refl _ _) | (with_reducible refine Below.drew ?_) | (with_reducible refine bdrewN ?_ _) | ((with_reducible refine Below.setCell ?_ ?_ _); rotate_left; exact (by first | (simp; done) | (simp; omega) | omega)) | ((with_reducible refine Below.alloc ?_ ?_ _); rotate_left; exact (by first | (simp; done) | (simp; omega) | omega)) | ((with_reducible refine Below.trans ?_ (HB1.out.mono ?_)); rotate_left; exact (by first | (simp; done) | (simp; omega) | omega)))); exact HS.out⟩
            · have HF := Lib.hid (show findL (ls.take k) x.dev x.page < 0 by omega)
              have hf1 : decide (0 ≤ findL (ls.take k) x.dev x.page) = false := by simpa using hf
              clear hf
              go_wp2
              go_region_held3 (fun W => W.cell? ⟨wr.heap.size, 0, none⟩ = some (.int .i64 x.dev) ∧ W.cell? ⟨wr.heap.size, 1, none⟩ = some (.int .i64 x.page))
                (first | (refine ⟨?_, ?_⟩ <;> (simp (maxDischargeDepth := 8) [go_sem]; done)) | (refine ⟨?_, ?_⟩ <;> (simp (maxDischargeDepth := 8) [go_sem, k1_0]; done)) | go_keep)
                (first
                  | (go_at_call 34; refine (cache_Find _ _ _ (ls.take k) _ _ _ ?_).mono ?_; (exact ((HT.out.more hzr).alloc (Nat.le_refl _) _).more (by simp)); (rintro e w1 ⟨rfl, hb1⟩; have hz1 := hb1.size; (try simp only [World.size_alloc, World.size_setCell, World.size_drew] at hz1); have k1_0 := fun o => (bcell hb1).1 (wr.heap.size) o (by first | (simp; done) | (simp; omega) | omega); have l1_0 : (wr.heap.size) < w1.heap.size := (by omega); have q1_0 := fun o => (bcell hb1).2 (wr.heap.size) o (by first | (simp; done) | (simp; omega) | omega); simp (maxDischargeDepth := 6) [go_sem, *] at k1_0 q1_0; have HB1 := Lib.hid hb1; clear hb1)))
              go_wp2
              go_roundw
              case rel => exact ⟨k + 1, by omega, by go_num, hck.out.trans (ckL_step HX.out (lineE_0 HR.out HRD.out) HF.out), by show Below _ _ _; (repeat (first | (with_reducible exact Below.refl _ _) | (with_reducible refine Below.drew ?_) | (with_reducible refine bdrewN ?_ _) | ((with_reducible refine Below.setCell ?_ ?_ _); rotate_left; exact (by first | (simp; done) | (simp; omega) | omega)) | ((with_reducible refine Below.alloc ?_ ?_ _); rotate_left; exact (by first | (simp; done) | (simp; omega) | omega)) | ((with_reducible refine Below.trans ?_ (HB1.out.mono ?_)); rotate_left; exact (by first | (simp; done) | (simp; omega) | omega)))); exact HS.out⟩
              case measure => simp [intOf]; omega
        · have HE := Lib.hid (lineE_r hR)
          have hr2 : x.dev < 0 ∨ (0 ≤ x.dev ∧ 8 ≤ x.dev) ∨ (0 ≤ x.dev ∧ x.dev < 8 ∧ x.page < 0) ∨ (0 ≤ x.dev ∧ x.dev < 8 ∧ 0 ≤ x.page ∧ 64 ≤ x.page) ∨ (0 ≤ x.dev ∧ x.dev < 8 ∧ 0 ≤ x.page ∧ x.page < 64 ∧ x.at_ < 0) ∨ (0 ≤ x.dev ∧ x.dev < 8 ∧ 0 ≤ x.page ∧ x.page < 64 ∧ 0 ≤ x.at_ ∧ 64 ≤ x.at_) := by unfold lineR at hR; omega
          clear hR
          rcases hr2 with r1 | ⟨r1, r2⟩ | ⟨r1, r2, r3⟩ | ⟨r1, r2, r3, r4⟩ | ⟨r1, r2, r3, r4, r5⟩ | ⟨r1, r2, r3, r4, r5, r6⟩
          all_goals
            go_wp2
            go_ret
            exact ⟨ret_int (hck.out.trans ((ckL_bad HX.out (by rw [HE.out]; decide)).trans HE.out)).symm, by (repeat (first | (with_reducible exact Below.refl _ _) | (with_reducible refine Below.drew ?_) | (with_reducible refine bdrewN ?_ _) | ((with_reducible refine Below.setCell ?_ ?_ _); rotate_left; exact (by first | (simp; done) | (simp; omega) | omega)) | ((with_reducible refine Below.alloc ?_ ?_ _); rotate_left; exact (by first | (simp; done) | (simp; omega) | omega)))); exact HS.out⟩
      · obtain rfl : k = n := by omega
        go_wp2
        go_ret
        exact ⟨ret_int (hck.out.trans (by rw [← HL.out.len]; exact ckL_end ls)).symm, hs.out⟩
  · have H6 := Lib.hid (ckC_many (show 6 < ls.length by omega))
    rw [H6.out]
    clear hlen
    have h6' : (6 : Int) < (n : Int) := by omega
    go_enter Try.func32, Try.ntmps32
    go_wp2
    go_ret
    exact ⟨rfl, Below.refl _ _⟩
end

section
section
attribute [local go_sem ↓] Go.wp_at_zero Go.wp_at_succ

end

section
attribute [local go_sem ↓] Go.wp_at_zero Go.wp_at_succ

end

section
attribute [local go_sem ↓] Go.wp_at_zero Go.wp_at_succ

end
end
end Go.Proofs.Ytbopdijnojaaiab
