/- Orders and faults as words: the walks of the program's and the document's functions of chapter 6. No statement of the seat is proved here. -/
import Derived.Test.YtbopdijnojaaiaaWord
namespace Go.Proofs.Ytbopdijnojaaiaa
open Go.RowKit
set_option linter.unusedSimpArgs false
set_option linter.unusedVariables false

set_option maxRecDepth 100000 in
set_option maxHeartbeats 1000000 in
theorem word_PutOrder (k d p : Int) (w : World) : Calls Try.prog 20 #[.agg #[.int .i64 k, .int .i64 d, .int .i64 p]] w fun e w' => e = .returned (.tuple #[.int .i64 (ordW k d p), .int .i64 (ordE k d p)]) ∧ Below w.heap.size w w' := by
  have HB := Lib.hid (below_alloc w)
  by_cases hR : OrdR k d p
  · have HR := Lib.hid hR
    unfold OrdR at hR
    obtain ⟨h1, h2, h3, h4, h5, h6⟩ := hR
    by_cases hF : OrdF k d p
    · have HF := Lib.hid hF
      have E := ord_bits HR.out hF
      unfold OrdF at hF
      obtain ⟨f1, f2⟩ := hF
      rcases (by omega : k < 2 ∨ k = 2 ∨ k = 3) with hk | rfl | rfl
      · obtain rfl := f1 hk
        obtain rfl := f2 (by omega)
        clear f1 f2
        rw [Int.zero_mul, Int.zero_mul] at E
        have E' := Lib.hid E; clear E
        go_enter Try.func20, Try.ntmps20
        go_wp2
        go_ret2
        exact ⟨ret_int2 E'.out (ordE_0 HR.out HF.out).symm, HB.out _⟩
      · obtain rfl := f2 (by omega)
        clear f1 f2
        rw [Int.zero_mul] at E
        have E' := Lib.hid E; clear E
        go_enter Try.func20, Try.ntmps20
        go_wp2
        go_ret2
        exact ⟨ret_int2 E'.out (ordE_0 HR.out HF.out).symm, HB.out _⟩
      · have E' := Lib.hid E
        clear f1 f2 E
        go_enter Try.func20, Try.ntmps20
        go_wp2
        go_ret2
        exact ⟨ret_int2 E'.out (ordE_0 HR.out HF.out).symm, HB.out _⟩
    · have HF := Lib.hid hF; clear hF
      go_enter Try.func20, Try.ntmps20
      go_wp2
      all_goals go_ret2
      all_goals go_tidy
      all_goals (try simp only [bne_iff_ne, ne_eq, bne_eq_false_iff_eq, beq_iff_eq, beq_eq_false_iff_ne, Bool.and_eq_true, Bool.or_eq_true, Bool.not_eq_true', Bool.not_eq_false', decide_eq_true_eq, decide_eq_false_iff_not] at *)
      all_goals simp only [Array.getD_eq_getD_getElem?, List.getElem?_toArray, List.getElem?_cons_zero, List.getElem?_cons_succ, Option.getD_some]
      all_goals first
        | (with_reducible exact ⟨ret_int2 (ordW_n (ordE_f HR.out HF.out) (by decide)).symm (ordE_f HR.out HF.out).symm, HB.out _⟩)
        | (exfalso; refine HF.out ⟨fun _ => ?_, fun _ => ?_⟩ <;> omega)
  · have HR := Lib.hid hR
    unfold OrdR at hR
    go_enter Try.func20, Try.ntmps20
    go_wp2
    all_goals go_ret2
    all_goals exact ⟨ret_int2 (ordW_n (ordE_r HR.out) (by decide)).symm (ordE_r HR.out).symm, HB.out _⟩

set_option maxRecDepth 100000 in
set_option maxHeartbeats 1000000 in
theorem word_PutFault (c d p : Int) (r : Bool) (w : World) : Calls Try.prog 22 #[.agg #[.int .i64 c, .int .i64 d, .int .i64 p, .bool r]] w fun e w' => e = .returned (.tuple #[.int .i64 (fltW c d p r), .int .i64 (fltE c d p)]) ∧ Below w.heap.size w w' := by
  have HB := Lib.hid (below_alloc w)
  by_cases hR : FltR c d p
  · have HR := Lib.hid hR
    have hb0 := flt_bits0 hR
    have hb1 := flt_bits1 hR
    unfold FltR at hR
    obtain ⟨h1, h2, h3, h4, h5, h6⟩ := hR
    cases r
    · go_enter Try.func22, Try.ntmps22
      go_wp2
      go_ret2
      exact ⟨ret_int2 (fltW_f HR.out) (fltE_0 HR.out).symm, HB.out _⟩
    · go_enter Try.func22, Try.ntmps22
      go_wp2
      go_ret2
      exact ⟨ret_int2 rfl (fltE_0 HR.out).symm, HB.out _⟩
  · have HR := Lib.hid hR
    unfold FltR at hR
    go_enter Try.func22, Try.ntmps22
    go_wp2
    all_goals go_ret2
    all_goals exact ⟨ret_int2 (fltW_n (fltE_r HR.out) (by decide)).symm (fltE_r HR.out).symm, HB.out _⟩
end Go.Proofs.Ytbopdijnojaaiaa
