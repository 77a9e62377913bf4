/- Contexts as words: the walk of the document's WordOfContext. No statement of the seat is proved here. -/
import Derived.Test.YtbopdijnojaaiaaEntryF
namespace Go.Proofs.Ytbopdijnojaaiaa
open Go.RowKit
set_option linter.unusedSimpArgs false
set_option linter.unusedVariables false

theorem ctxV_bad {v s : Bool} {r n : Int} (h : ctxE v s r = n) (hn : n ≠ 0) : Ending.returned (.tuple #[.int .i64 0, .int .i64 n]) = .returned (.tuple #[.int .i64 (ctxW v s r), .int .i64 (ctxE v s r)]) := ret_int2 (ctxW_n h hn).symm h.symm
theorem ctxV_ok {v s : Bool} {r x : Int} (h : ctxE v s r = 0) (hx : x = 16 * r + b2i v + 2 * b2i s) : Ending.returned (.tuple #[.int .i64 x, .int .i64 0]) = .returned (.tuple #[.int .i64 (ctxW v s r), .int .i64 (ctxE v s r)]) := ret_int2 (hx.trans (ctxW_0 h).symm) h.symm
set_option maxRecDepth 100000 in
set_option maxHeartbeats 4000000 in
theorem ref_WordOfContext (v s : Bool) (r : Int) (w : World) : Calls Try.prog 36 #[.agg #[.bool v, .bool s, .int .i64 r]] w fun e w' => e = .returned (.tuple #[.int .i64 (ctxW v s r), .int .i64 (ctxE v s r)]) ∧ Below w.heap.size w w' := by
  have HB := Lib.hid (below_alloc w)
  by_cases hR : 0 ≤ r ∧ r < 64
  · have HR := Lib.hid hR
    have hin := inB_t (show 0 ≤ r ∧ r ≤ 63 by omega)
    obtain ⟨h1, h2⟩ := hR
    by_cases h0 : r = 0
    · subst h0
      cases v <;> cases s
      all_goals
        go_enter Try.func36, Try.ntmps36
        go_wp2_with (go_at_call 51; refine (ref_in _ _ _ _).mono ?_; rintro e w' ⟨rfl, rfl⟩)
        go_ret2
        simp only [Array.getD_eq_getD_getElem?, List.getElem?_toArray, List.getElem?_cons_zero, List.getElem?_cons_succ, Option.getD_some]
        first
          | (with_reducible exact ⟨ctxV_ok (by decide) (by decide), HB.out _⟩)
          | (with_reducible exact ⟨ctxV_bad (by decide) (by decide), HB.out _⟩)
    · have hp : 0 < r := by omega
      have hp1 : (r != 0) = true := by rw [bne_iff_ne]; exact h0
      have F0 := Lib.hid (show ctxF false false r = false by unfold ctxF; rw [hp1]; rfl)
      have F1 := Lib.hid (show ctxF false true r = false by unfold ctxF; rw [hp1]; rfl)
      have F2 := Lib.hid (show ctxF true true r = false by unfold ctxF; rw [hp1]; rfl)
      have F3 := Lib.hid (show ctxF true false r = true by unfold ctxF; rfl)
      clear h0 hp1
      cases v <;> cases s
      all_goals
        go_enter Try.func36, Try.ntmps36
        go_wp2_with (go_at_call 51; refine (ref_in _ _ _ _).mono ?_; rintro e w' ⟨rfl, rfl⟩)
        go_ret2
        simp only [Array.getD_eq_getD_getElem?, List.getElem?_toArray, List.getElem?_cons_zero, List.getElem?_cons_succ, Option.getD_some]
      · with_reducible exact ⟨ctxV_bad (ctxE_f HR.out F0.out) (by decide), HB.out _⟩
      · with_reducible exact ⟨ctxV_bad (ctxE_f HR.out F1.out) (by decide), HB.out _⟩
      · with_reducible exact ⟨ctxV_ok (ctxE_0 HR.out F3.out) (by rw [b2i_t, b2i_f]; omega), HB.out _⟩
      · with_reducible exact ⟨ctxV_bad (ctxE_f HR.out F2.out) (by decide), HB.out _⟩
  · have HR := Lib.hid hR
    have hin := inB_f (show ¬ (0 ≤ r ∧ r ≤ 63) by omega)
    go_enter Try.func36, Try.ntmps36
    go_wp2_with (go_at_call 51; refine (ref_in _ _ _ _).mono ?_; rintro e w' ⟨rfl, rfl⟩)
    go_ret2
    exact ⟨ctxV_bad (ctxE_r HR.out) (by decide), HB.out _⟩
end Go.Proofs.Ytbopdijnojaaiaa
