/- Entries as words: the walk of the program's Put. No statement of the seat is proved here. -/
import Derived.Test.YtbopdijnojaaiaaEntryW
namespace Go.Proofs.Ytbopdijnojaaiaa
open Go.RowKit
set_option linter.unusedSimpArgs false
set_option linter.unusedVariables false

theorem entS_W {v r u l : Bool} {p : Int} (h : entE v r u l p = 0) : entS p v r u l 4 = entW v r u l p := by rw [entS4, entW_0 h]
theorem entS_X {v s : Bool} {p : Int} (h : ctxE v s p = 0) : entS p v s false false 2 = ctxW v s p := by rw [entS2, ctxW_0 h]

set_option maxRecDepth 100000 in
set_option maxHeartbeats 8000000 in
theorem entry_Put (v r u l : Bool) (p : Int) (w : World) : Calls Try.prog 33 #[.agg #[.bool v, .bool r, .bool u, .bool l, .int .i64 p]] w fun e w' => e = .returned (.tuple #[.int .i64 (entW v r u l p), .int .i64 (entE v r u l p)]) ∧ Below w.heap.size w w' := by
  have HB := Lib.hid (below_alloc w)
  by_cases hR : 0 ≤ p ∧ p < 64
  · have HR := Lib.hid hR
    obtain ⟨h1, h2⟩ := hR
    cases v
    · by_cases hp : p = 0
      · subst hp
        cases r <;> cases u <;> cases l
        all_goals
          go_enter Try.func33, Try.ntmps33
          go_wp2_with (first | (go_at_call 56; refine (entry_word4 _ false false false false _ HR.out _ ?_).mono ?_; (· (intro o; simp [go_sem]; done)); (rintro e w' ⟨rfl, rfl⟩)) | (go_at_call 56; refine (entry_word4 _ true false false false _ HR.out _ ?_).mono ?_; (· (intro o; simp [go_sem]; done)); (rintro e w' ⟨rfl, rfl⟩)) | (go_at_call 56; refine (entry_word4 _ true false false true _ HR.out _ ?_).mono ?_; (· (intro o; simp [go_sem]; done)); (rintro e w' ⟨rfl, rfl⟩)) | (go_at_call 56; refine (entry_word4 _ true true false true _ HR.out _ ?_).mono ?_; (· (intro o; simp [go_sem]; done)); (rintro e w' ⟨rfl, rfl⟩)) | (go_at_call 56; refine (entry_word4 _ true true true true _ HR.out _ ?_).mono ?_; (· (intro o; simp [go_sem]; done)); (rintro e w' ⟨rfl, rfl⟩)))
          go_ret2
          simp only [Array.getD_eq_getD_getElem?, List.getElem?_toArray, List.getElem?_cons_zero, List.getElem?_cons_succ, Option.getD_some]
          first
            | (with_reducible exact ⟨ret_int2 (entS_W (entE_0 HR.out rfl)) (entE_0 HR.out rfl).symm, by (repeat (first | (with_reducible exact Below.refl _ _) | (with_reducible refine Below.drew ?_) | (with_reducible refine bdrewN ?_ _) | ((with_reducible refine Below.setCell ?_ ?_ _); rotate_left; exact (by first | (simp; done) | (simp; omega) | omega)) | ((with_reducible refine Below.alloc ?_ ?_ _); rotate_left; exact (by first | (simp; done) | (simp; omega) | omega))))⟩)
            | (with_reducible exact ⟨ret_int2 (entW_n (entE_f HR.out rfl) (by decide)).symm (entE_f HR.out rfl).symm, by (repeat (first | (with_reducible exact Below.refl _ _) | (with_reducible refine Below.drew ?_) | (with_reducible refine bdrewN ?_ _) | ((with_reducible refine Below.setCell ?_ ?_ _); rotate_left; exact (by first | (simp; done) | (simp; omega) | omega)) | ((with_reducible refine Below.alloc ?_ ?_ _); rotate_left; exact (by first | (simp; done) | (simp; omega) | omega))))⟩)
      · have hp1 : (p != 0) = true := by simp [hp]
        have hp2 : (p == 0) = false := by simp [hp]
        have HF := fun r u l => Lib.hid (show entF false r u l p = false by unfold entF; rw [hp1]; simp)
        clear hp
        cases r <;> cases u <;> cases l
        all_goals
          go_enter Try.func33, Try.ntmps33
          go_wp2
          go_ret2
          simp only [Array.getD_eq_getD_getElem?, List.getElem?_toArray, List.getElem?_cons_zero, List.getElem?_cons_succ, Option.getD_some]
          exact ⟨ret_int2 (entW_n (entE_f HR.out (HF _ _ _).out) (by decide)).symm (entE_f HR.out (HF _ _ _).out).symm, by (repeat (first | (with_reducible exact Below.refl _ _) | (with_reducible refine Below.drew ?_) | (with_reducible refine bdrewN ?_ _) | ((with_reducible refine Below.setCell ?_ ?_ _); rotate_left; exact (by first | (simp; done) | (simp; omega) | omega)) | ((with_reducible refine Below.alloc ?_ ?_ _); rotate_left; exact (by first | (simp; done) | (simp; omega) | omega))))⟩
    · cases r <;> cases u <;> cases l
      all_goals
        go_enter Try.func33, Try.ntmps33
        go_wp2_with (first | (go_at_call 56; refine (entry_word4 _ false false false false _ HR.out _ ?_).mono ?_; (· (intro o; simp [go_sem]; done)); (rintro e w' ⟨rfl, rfl⟩)) | (go_at_call 56; refine (entry_word4 _ true false false false _ HR.out _ ?_).mono ?_; (· (intro o; simp [go_sem]; done)); (rintro e w' ⟨rfl, rfl⟩)) | (go_at_call 56; refine (entry_word4 _ true false false true _ HR.out _ ?_).mono ?_; (· (intro o; simp [go_sem]; done)); (rintro e w' ⟨rfl, rfl⟩)) | (go_at_call 56; refine (entry_word4 _ true true false true _ HR.out _ ?_).mono ?_; (· (intro o; simp [go_sem]; done)); (rintro e w' ⟨rfl, rfl⟩)) | (go_at_call 56; refine (entry_word4 _ true true true true _ HR.out _ ?_).mono ?_; (· (intro o; simp [go_sem]; done)); (rintro e w' ⟨rfl, rfl⟩)))
        go_ret2
        simp only [Array.getD_eq_getD_getElem?, List.getElem?_toArray, List.getElem?_cons_zero, List.getElem?_cons_succ, Option.getD_some]
        first
          | (with_reducible exact ⟨ret_int2 (entS_W (entE_0 HR.out rfl)) (entE_0 HR.out rfl).symm, by (repeat (first | (with_reducible exact Below.refl _ _) | (with_reducible refine Below.drew ?_) | (with_reducible refine bdrewN ?_ _) | ((with_reducible refine Below.setCell ?_ ?_ _); rotate_left; exact (by first | (simp; done) | (simp; omega) | omega)) | ((with_reducible refine Below.alloc ?_ ?_ _); rotate_left; exact (by first | (simp; done) | (simp; omega) | omega))))⟩)
          | (with_reducible exact ⟨ret_int2 (entW_n (entE_f HR.out rfl) (by decide)).symm (entE_f HR.out rfl).symm, by (repeat (first | (with_reducible exact Below.refl _ _) | (with_reducible refine Below.drew ?_) | (with_reducible refine bdrewN ?_ _) | ((with_reducible refine Below.setCell ?_ ?_ _); rotate_left; exact (by first | (simp; done) | (simp; omega) | omega)) | ((with_reducible refine Below.alloc ?_ ?_ _); rotate_left; exact (by first | (simp; done) | (simp; omega) | omega))))⟩)
  · have HR := Lib.hid hR
    go_enter Try.func33, Try.ntmps33
    go_wp2
    all_goals go_ret2
    all_goals exact ⟨ret_int2 (entW_n (entE_r HR.out) (by decide)).symm (entE_r HR.out).symm, HB.out _⟩
end Go.Proofs.Ytbopdijnojaaiaa
