/- The hart: the walks of the document's CheckHart and SameHart. No statement of the seat is proved here. -/
import Derived.Test.YtbopdijnojaaiacHart1
import Derived.Test.YtbopdijnojaaiacSlices
namespace Go.Proofs.Ytbopdijnojaaiac
open Go.RowKit
set_option linter.unusedSimpArgs false
set_option linter.unusedVariables false

set_option maxRecDepth 100000 in
set_option maxHeartbeats 2000000 in
theorem ref_CheckHart (h : Hrt) (A : Option Addr) (n c : Nat) (w : World) (hx : Ints w w.heap.size A n h.regs) :
    Calls Try.prog 55 #[.agg #[.int .i64 h.at_, .slice A n c, .bool h.done]] w fun e w' => e = .returned (.int .i64 (ckH h)) ∧ Below w.heap.size w w' := by
  have hl := hx.len
  have HL := Lib.hid hl
  have HB := Lib.hid (below_alloc w)
  by_cases h8 : n = 8
  · subst h8
    obtain ⟨b, off, rfl, hb, hc⟩ := hx.at_ (by omega)
    have HC := Lib.hid hc
    clear hl hc hx
    by_cases hA : 0 ≤ h.at_ ∧ h.at_ < 512
    · have HA := Lib.hid hA
      have t0 : inB h.at_ 0 511 = true := by simp [inB]; omega
      clear hA
      go_enter Try.func55, Try.ntmps55
      go_wp2_with (go_at_call 56; refine (ref_in _ _ _ _).mono ?_; rintro e w' ⟨rfl, rfl⟩)
      go_loop [16, 4] (fun i _ => ∃ k : Nat, k ≤ 8 ∧ i = .int .i64 k ∧ (h.regs.take k).all inWord = true) (fun i _ => 8 - (intOf i).toNat)
      case atStart => exact ⟨0, by omega, rfl, by simp⟩
      case round =>
        obtain ⟨k, hk, rfl, hall⟩ := hrel
        have HAL := Lib.hid hall; clear hall
        by_cases hlt : k < 8
        · obtain ⟨x, hx⟩ := some_of_lt h.regs (k := k) (by rw [HL.out]; exact hlt)
          have hcc := HC.out k x hx
          have HX := Lib.hid hx; clear hx
          cases hi : inB x 0 65535
          · have HI := Lib.hid (show inWord x = false by simp [inB] at hi; simp [inWord]; omega)
            go_wp2_with (go_at_call 56; refine (ref_in _ _ _ _).mono ?_; rintro e w' ⟨rfl, rfl⟩)
            go_ret
            exact ⟨ret_int (ckH_bad HL.out HA.out HX.out HI.out).symm, HB.out _⟩
          · have HI := Lib.hid (show inWord x = true by simp [inB] at hi; simp [inWord]; omega)
            go_wp2_with (go_at_call 56; refine (ref_in _ _ _ _).mono ?_; rintro e w' ⟨rfl, rfl⟩)
            go_round
            case rel => exact ⟨k+1, by omega, by go_num, all_take_succ HX.out HAL.out HI.out⟩
            case measure => simp [intOf]; omega
        · go_wp2
          obtain rfl : k = 8 := by omega
          go_ret
          exact ⟨ret_int (ckH_ok HL.out HA.out HAL.out).symm, HB.out _⟩
    · have HA := Lib.hid hA
      have t0 : inB h.at_ 0 511 = false := by simp [inB]; omega
      clear hA
      go_enter Try.func55, Try.ntmps55
      go_wp2_with (go_at_call 56; refine (ref_in _ _ _ _).mono ?_; rintro e w' ⟨rfl, rfl⟩)
      go_ret
      exact ⟨ret_int (ckH_at HL.out HA.out).symm, HB.out _⟩
  · have h6 : ((n : Int) != 8) = true := by simp; omega
    have H5 := Lib.hid h8
    clear hl h8 hx
    go_enter Try.func55, Try.ntmps55
    go_wp2
    go_ret
    exact ⟨ret_int (ckH_len (by rw [HL.out]; exact H5.out)).symm, HB.out _⟩

end Go.Proofs.Ytbopdijnojaaiac
