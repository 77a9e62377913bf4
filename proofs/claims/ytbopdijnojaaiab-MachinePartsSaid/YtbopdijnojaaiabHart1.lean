/- The hart: the walks of the document's CheckHart and SameHart. No statement of the seat is proved here. -/
import Derived.Test.YtbopdijnojaaiabHartP
import Derived.Test.YtbopdijnojaaiabSlices
namespace Go.Proofs.Ytbopdijnojaaiab
open Go.RowKit
set_option linter.unusedSimpArgs false
set_option linter.unusedVariables false

section
set_option maxRecDepth 100000 in
set_option maxHeartbeats 2000000 in
theorem hart_Check (h : Hrt) (A : Option Addr) (n c : Nat) (w : World) (hx : Ints w w.heap.size A n h.regs) :
    Calls Try.prog 63 #[.agg #[.int .i64 h.at_, .slice A n c, .bool h.done]] w fun e w' => e = .returned (.int .i64 (ckH h)) ∧ Below w.heap.size w w' := by
  have hl := hx.len
  have HL := Lib.hid hl
  have HB := Lib.hid (below_alloc w)
  by_cases h8 : n = 8
  · subst h8
    obtain ⟨b, off, rfl, hb, hc⟩ := hx.at_ (by omega)
    have HC := Lib.hid hc
    clear hl hc hx
    by_cases hA : 0 ≤ h.at_ ∧ h.at_ < 512
    · have HA := Lib.hid hA
      obtain ⟨a1, a2⟩ := hA
      go_enter Try.func63, Try.ntmps63
      go_wp2
      go_loop [20, 4] (fun i _ => ∃ k : Nat, k ≤ 8 ∧ i = .int .i64 k ∧ (h.regs.take k).all inWord = true) (fun i _ => 8 - (intOf i).toNat)
      case atStart => exact ⟨0, by omega, rfl, by simp⟩
      case round =>
        obtain ⟨k, hk, rfl, hall⟩ := hrel
        have HAL := Lib.hid hall; clear hall
        by_cases hlt : k < 8
        · obtain ⟨x, hx⟩ := some_of_lt h.regs (k := k) (by rw [HL.out]; exact hlt)
          have hcc := HC.out k x hx
          have HX := Lib.hid hx; clear hx
          go_wp2
          all_goals first
            | (go_ret; exact ⟨ret_int (ckH_bad HL.out HA.out HX.out (by simp [inWord]; omega)).symm, HB.out _⟩)
            | skip
          go_round
          case rel => exact ⟨k+1, by omega, by go_num, all_take_succ HX.out HAL.out (by simp [inWord]; omega)⟩
          case measure => simp [intOf]; omega
        · go_wp2
          obtain rfl : k = 8 := by omega
          go_ret
          exact ⟨ret_int (ckH_ok HL.out HA.out HAL.out).symm, HB.out _⟩
    · have HA := Lib.hid hA
      have h2 : h.at_ < 0 ∨ (0 ≤ h.at_ ∧ 512 ≤ h.at_) := by omega
      clear hA
      rcases h2 with a1 | ⟨a1, a2⟩
      all_goals
        go_enter Try.func63, Try.ntmps63
        go_wp2
        go_ret
        exact ⟨ret_int (ckH_at HL.out HA.out).symm, HB.out _⟩
  · have h6 : ((n : Int) != 8) = true := by simp; omega
    have H5 := Lib.hid h8
    clear hl h8 hx
    go_enter Try.func63, Try.ntmps63
    go_wp2
    go_ret
    exact ⟨ret_int (ckH_len (by rw [HL.out]; exact H5.out)).symm, HB.out _⟩

theorem ints_apart {w : World} {B n : Nat} {A : Option Addr} {xs : List Int} (h : Ints w B A n xs) {p : Addr} (hp : ∀ ad, A = some ad → ad.block ≠ p.block) (u : Value) : Ints (w.setCell p u) B A n xs := by
  refine ⟨h.1, h.2.1, fun hn => ?_⟩
  obtain ⟨b, off, e, hb, hc⟩ := h.2.2 hn
  exact ⟨b, off, e, hb, fun k v hv => (World.cell?_setCell_other _ _ _ _ (fun e' => hp _ e (by have := congrArg Addr.block e'; simpa using this.symm))).trans (hc k v hv)⟩
set_option maxRecDepth 100000 in
set_option maxHeartbeats 2000000 in
theorem hart_Same (a b : Hrt) (A B : Option Addr) (n c m d : Nat) (w : World) (hx : Ints w w.heap.size A n a.regs) (hy : Ints w w.heap.size B m b.regs) :
    Calls Try.prog 64 #[.agg #[.int .i64 a.at_, .slice A n c, .bool a.done], .agg #[.int .i64 b.at_, .slice B m d, .bool b.done]] w fun e w' => e = .returned (.bool (sameH a b)) ∧ Below w.heap.size w w' := by
  have HX := Lib.hid hx; clear hx
  have HY := Lib.hid hy; clear hy
  have HB := Lib.hid (below_alloc w)
  have HS := Lib.hid (sameH_and a b)
  by_cases h1 : a.at_ = b.at_
  · have t1 : (a.at_ == b.at_) = true := by rw [beq_iff_eq]; exact h1
    by_cases h2 : a.regs = b.regs
    · have HR := Lib.hid (show (a.done == b.done) = sameH a b by rw [HS.out]; cases a.done <;> cases b.done <;> simp [h1, h2])
      have H2 := Lib.hid h2
      clear h1 h2
      go_enter Try.func64, Try.ntmps64
      go_wp2_with fail
      refine (sl_Equal _ _ _ _ _ _ a.regs b.regs _ (((HX.out.alloc (Nat.le_refl _) _).alloc (by simp) _).more (by simp; omega)) (((HY.out.alloc (Nat.le_refl _) _).alloc (by simp) _).more (by simp; omega))).mono ?_
      rw [show eqI a.regs b.regs = true by simp [eqI, H2.out]]
      rintro e w1 ⟨rfl, hb1⟩
      have hz1 := hb1.size
      (try simp only [World.size_alloc, World.size_setCell, World.size_drew] at hz1)
      have k1_0 := fun o => (bcell hb1).1 (w.heap.size) o (by first | (simp; done) | (simp; omega) | omega)
      have l1_0 : (w.heap.size) < w1.heap.size := (by omega)
      have q1_0 := fun o => (bcell hb1).2 (w.heap.size) o (by first | (simp; done) | (simp; omega) | omega)
      have k1_1 := fun o => (bcell hb1).1 (w.heap.size + 1) o (by first | (simp; done) | (simp; omega) | omega)
      have l1_1 : (w.heap.size + 1) < w1.heap.size := (by omega)
      have q1_1 := fun o => (bcell hb1).2 (w.heap.size + 1) o (by first | (simp; done) | (simp; omega) | omega)
      simp (maxDischargeDepth := 6) [go_sem, *] at k1_0 q1_0 k1_1 q1_1
      have HB1 := Lib.hid hb1
      clear hb1
      go_wp2
      go_ret
      exact ⟨ret_bool HR.out, by (repeat (first | (with_reducible exact Below.refl _ _) | (with_reducible refine Below.drew ?_) | (with_reducible refine bdrewN ?_ _) | ((with_reducible refine Below.setCell ?_ ?_ _); rotate_left; exact (by first | (simp; done) | (simp; omega) | omega)) | ((with_reducible refine Below.alloc ?_ ?_ _); rotate_left; exact (by first | (simp; done) | (simp; omega) | omega)) | ((with_reducible refine Below.trans ?_ (HB1.out.mono ?_)); rotate_left; exact (by first | (simp; done) | (simp; omega) | omega))))⟩
    · have HR := Lib.hid (show false = sameH a b by rw [HS.out]; simp [h2])
      have H2 := Lib.hid h2
      clear h1 h2
      go_enter Try.func64, Try.ntmps64
      go_wp2_with fail
      refine (sl_Equal _ _ _ _ _ _ a.regs b.regs _ (((HX.out.alloc (Nat.le_refl _) _).alloc (by simp) _).more (by simp; omega)) (((HY.out.alloc (Nat.le_refl _) _).alloc (by simp) _).more (by simp; omega))).mono ?_
      rw [show eqI a.regs b.regs = false by simp [eqI, H2.out]]
      rintro e w1 ⟨rfl, hb1⟩
      have hz1 := hb1.size
      (try simp only [World.size_alloc, World.size_setCell, World.size_drew] at hz1)
      have k1_0 := fun o => (bcell hb1).1 (w.heap.size) o (by first | (simp; done) | (simp; omega) | omega)
      have l1_0 : (w.heap.size) < w1.heap.size := (by omega)
      have q1_0 := fun o => (bcell hb1).2 (w.heap.size) o (by first | (simp; done) | (simp; omega) | omega)
      have k1_1 := fun o => (bcell hb1).1 (w.heap.size + 1) o (by first | (simp; done) | (simp; omega) | omega)
      have l1_1 : (w.heap.size + 1) < w1.heap.size := (by omega)
      have q1_1 := fun o => (bcell hb1).2 (w.heap.size + 1) o (by first | (simp; done) | (simp; omega) | omega)
      simp (maxDischargeDepth := 6) [go_sem, *] at k1_0 q1_0 k1_1 q1_1
      have HB1 := Lib.hid hb1
      clear hb1
      go_wp2
      go_ret
      exact ⟨ret_bool HR.out, by (repeat (first | (with_reducible exact Below.refl _ _) | (with_reducible refine Below.drew ?_) | (with_reducible refine bdrewN ?_ _) | ((with_reducible refine Below.setCell ?_ ?_ _); rotate_left; exact (by first | (simp; done) | (simp; omega) | omega)) | ((with_reducible refine Below.alloc ?_ ?_ _); rotate_left; exact (by first | (simp; done) | (simp; omega) | omega)) | ((with_reducible refine Below.trans ?_ (HB1.out.mono ?_)); rotate_left; exact (by first | (simp; done) | (simp; omega) | omega))))⟩
  · have t1 : (a.at_ == b.at_) = false := by rw [beq_eq_false_iff_ne]; exact h1
    have HR := Lib.hid (show false = sameH a b by rw [HS.out]; simp [h1])
    clear h1
    go_enter Try.func64, Try.ntmps64
    go_wp2
    go_ret
    exact ⟨ret_bool HR.out, by (repeat (first | (with_reducible exact Below.refl _ _) | (with_reducible refine Below.drew ?_) | (with_reducible refine bdrewN ?_ _) | ((with_reducible refine Below.setCell ?_ ?_ _); rotate_left; exact (by first | (simp; done) | (simp; omega) | omega)) | ((with_reducible refine Below.alloc ?_ ?_ _); rotate_left; exact (by first | (simp; done) | (simp; omega) | omega))))⟩
end

section
end
end Go.Proofs.Ytbopdijnojaaiab
