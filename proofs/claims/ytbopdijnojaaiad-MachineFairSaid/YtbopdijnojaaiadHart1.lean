/- The hart: the walks of the document's CheckHart and SameHart. No statement of the seat is proved here. -/
import Derived.Test.YtbopdijnojaaiadHartP
import Derived.Test.YtbopdijnojaaiadSlices
namespace Go.Proofs.Ytbopdijnojaaiad
open Go.RowKit
set_option linter.unusedSimpArgs false
set_option linter.unusedVariables false

section
set_option maxRecDepth 100000 in
set_option maxHeartbeats 2000000 in
theorem hart_Check (h : Hrt) (A : Option Addr) (n c : Nat) (w : World) (hx : Ints w w.heap.size A n h.regs) :
    Calls Try.prog 17 #[.agg #[.int .i64 h.at_, .slice A n c, .bool h.done]] w fun e w' => e = .returned (.int .i64 (ckH h)) ∧ Below w.heap.size w w' := by
  have hl := hx.len
  have HL := Lib.hid hl
  have HB := Lib.hid (below_alloc w)
  by_cases h8 : n = 8
  · subst h8
    obtain ⟨b, off, rfl, hb, hc⟩ := hx.at_ (by omega)
    have HC := Lib.hid hc
    clear hl hc hx
    by_cases hA : 0 ≤ h.at_ ∧ h.at_ < 512
    · have HA := Lib.hid hA
      obtain ⟨a1, a2⟩ := hA
      go_enter Try.func17, Try.ntmps17
      go_wp2
      go_loop [20, 4] (fun i _ => ∃ k : Nat, k ≤ 8 ∧ i = .int .i64 k ∧ (h.regs.take k).all inWord = true) (fun i _ => 8 - (intOf i).toNat)
      case atStart => exact ⟨0, by omega, rfl, by simp⟩
      case round =>
        obtain ⟨k, hk, rfl, hall⟩ := hrel
        have HAL := Lib.hid hall; clear hall
        by_cases hlt : k < 8
        · obtain ⟨x, hx⟩ := some_of_lt h.regs (k := k) (by rw [HL.out]; exact hlt)
          have hcc := HC.out k x hx
          have HX := Lib.hid hx; clear hx
          go_wp2
          all_goals first
            | (go_ret; exact ⟨ret_int (ckH_bad HL.out HA.out HX.out (by simp [inWord]; omega)).symm, HB.out _⟩)
            | skip
          go_round
          case rel => exact ⟨k+1, by omega, by go_num, all_take_succ HX.out HAL.out (by simp [inWord]; omega)⟩
          case measure => simp [intOf]; omega
        · go_wp2
          obtain rfl : k = 8 := by omega
          go_ret
          exact ⟨ret_int (ckH_ok HL.out HA.out HAL.out).symm, HB.out _⟩
    · have HA := Lib.hid hA
      have h2 : h.at_ < 0 ∨ (0 ≤ h.at_ ∧ 512 ≤ h.at_) := by omega
      clear hA
      rcases h2 with a1 | ⟨a1, a2⟩
      all_goals
        go_enter Try.func17, Try.ntmps17
        go_wp2
        go_ret
        exact ⟨ret_int (ckH_at HL.out HA.out).symm, HB.out _⟩
  · have h6 : ((n : Int) != 8) = true := by simp; omega
    have H5 := Lib.hid h8
    clear hl h8 hx
    go_enter Try.func17, Try.ntmps17
    go_wp2
    go_ret
    exact ⟨ret_int (ckH_len (by rw [HL.out]; exact H5.out)).symm, HB.out _⟩

theorem ints_apart {w : World} {B n : Nat} {A : Option Addr} {xs : List Int} (h : Ints w B A n xs) {p : Addr} (hp : ∀ ad, A = some ad → ad.block ≠ p.block) (u : Value) : Ints (w.setCell p u) B A n xs := by
  refine ⟨h.1, h.2.1, fun hn => ?_⟩
  obtain ⟨b, off, e, hb, hc⟩ := h.2.2 hn
  exact ⟨b, off, e, hb, fun k v hv => (World.cell?_setCell_other _ _ _ _ (fun e' => hp _ e (by have := congrArg Addr.block e'; simpa using this.symm))).trans (hc k v hv)⟩
def zeros8 : Array Value := Array.replicate 8 (.int .i64 0)
theorem make8 : ∀ w : World, (Instr.makeSlice 22 (.int .i64 8) (.int .i64 8)).run Try.prog w = .ok (.slice (some ⟨w.heap.size, 0, none⟩) 8 8) (w.alloc (.cells zeros8 3)) := fun _ => by kernel_rfl
end

section
end
end Go.Proofs.Ytbopdijnojaaiad
