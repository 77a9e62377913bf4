/- Rings: the walks of the program's Push and Pop. No statement of the seat is proved here. -/
import Derived.Test.YtbopdijnojaaiabBase
import Derived.Test.YtbopdijnojaaiabMem
import Derived.Test.YtbopdijnojaaiabSlices
import Derived.RegionTactic
namespace Go.Proofs.Ytbopdijnojaaiab
open Go.RowKit
set_option linter.unusedSimpArgs false
set_option linter.unusedVariables false

section
section
theorem OwnI.drew {B : Nat} {w : World} {A : Option Addr} {n c : Nat} {xs : List Int} (h : OwnI B w A n c xs) : OwnI B w.drew A n c xs := h
theorem OwnI.drewN {B : Nat} {w : World} {A : Option Addr} {n c : Nat} {xs : List Int} (h : OwnI B w A n c xs) (k : Nat) : OwnI B (w.drewN k) A n c xs := h
set_option maxRecDepth 100000 in
set_option maxHeartbeats 1000000 in
theorem ring_Check (p h t : Int) (w : World) : Calls Try.prog 17 #[.agg #[.int .i64 p, .int .i64 h, .int .i64 t]] w fun e w' => e = .returned (.int .i64 (ckR ⟨p, h, t⟩)) ∧ Below w.heap.size w w' := by
  have HB := Lib.hid (below_alloc w)
  by_cases hr : ringR ⟨p, h, t⟩
  · rw [ckR_0 hr]
    unfold ringR at hr
    simp only [] at hr
    obtain ⟨⟨h1, h2⟩, ⟨h3, h4⟩, h5, h6⟩ := hr
    go_enter Try.func17, Try.ntmps17
    go_wp2
    go_ret
    exact ⟨rfl, HB.out _⟩
  · rw [ckR_2 hr]
    unfold ringR at hr
    simp only [] at hr
    have hr2 : p < 0 ∨ (0 ≤ p ∧ 64 ≤ p) ∨ (0 ≤ p ∧ p < 64 ∧ h < 0) ∨ (0 ≤ p ∧ p < 64 ∧ 0 ≤ h ∧ 8 ≤ h) ∨ (0 ≤ p ∧ p < 64 ∧ 0 ≤ h ∧ h < 8 ∧ t < 0) ∨ (0 ≤ p ∧ p < 64 ∧ 0 ≤ h ∧ h < 8 ∧ 0 ≤ t ∧ 8 ≤ t) := by omega
    clear hr
    rcases hr2 with hr | ⟨h1, hr⟩ | ⟨h1, h2, hr⟩ | ⟨h1, h2, h3, hr⟩ | ⟨h1, h2, h3, h4, hr⟩ | ⟨h1, h2, h3, h4, h5, hr⟩
    all_goals
      go_enter Try.func17, Try.ntmps17
      go_wp2
      go_ret
      exact ⟨rfl, HB.out _⟩

end

section
set_option maxRecDepth 100000 in
set_option maxHeartbeats 1000000 in
theorem ref_CheckRing (p h t : Int) (w : World) : Calls Try.prog 24 #[.agg #[.int .i64 p, .int .i64 h, .int .i64 t]] w fun e w' => e = .returned (.int .i64 (ckR ⟨p, h, t⟩)) ∧ Below w.heap.size w w' := by
  have HB := Lib.hid (below_alloc w)
  by_cases hp : 0 ≤ p ∧ p ≤ 63
  · by_cases hh : 0 ≤ h ∧ h ≤ 7
    · by_cases ht : 0 ≤ t ∧ t ≤ 7
      · rw [ckR_0 (show ringR ⟨p, h, t⟩ by unfold ringR; simp only []; omega)]
        have i1 := inB_t hp
        have i2 := inB_t hh
        have i3 := inB_t ht
        clear hp hh ht
        go_enter Try.func24, Try.ntmps24
        go_wp2_with (go_at_call 70; refine (ref_in _ _ _ _).mono ?_; rintro e w' ⟨rfl, rfl⟩)
        go_ret
        exact ⟨rfl, HB.out _⟩
      · rw [ckR_2 (show ¬ ringR ⟨p, h, t⟩ by unfold ringR; simp only []; omega)]
        have i1 := inB_t hp
        have i2 := inB_t hh
        have i3 := inB_f ht
        clear hp hh ht
        go_enter Try.func24, Try.ntmps24
        go_wp2_with (go_at_call 70; refine (ref_in _ _ _ _).mono ?_; rintro e w' ⟨rfl, rfl⟩)
        go_ret
        exact ⟨rfl, HB.out _⟩
    · rw [ckR_2 (show ¬ ringR ⟨p, h, t⟩ by unfold ringR; simp only []; omega)]
      have i1 := inB_t hp
      have i2 := inB_f hh
      clear hp hh
      go_enter Try.func24, Try.ntmps24
      go_wp2_with (go_at_call 70; refine (ref_in _ _ _ _).mono ?_; rintro e w' ⟨rfl, rfl⟩)
      go_ret
      exact ⟨rfl, HB.out _⟩
  · rw [ckR_2 (show ¬ ringR ⟨p, h, t⟩ by unfold ringR; simp only []; omega)]
    have i1 := inB_f hp
    clear hp
    go_enter Try.func24, Try.ntmps24
    go_wp2_with (go_at_call 70; refine (ref_in _ _ _ _).mono ?_; rintro e w' ⟨rfl, rfl⟩)
    go_ret
    exact ⟨rfl, HB.out _⟩

end
end

section
end
end Go.Proofs.Ytbopdijnojaaiab
