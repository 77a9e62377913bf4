/- Entries as words: the walk of the document's WordOf. No statement of the seat is proved here. -/
import Derived.Test.YtbopdijnojaaiaaEntryE
namespace Go.Proofs.Ytbopdijnojaaiaa
open Go.RowKit
set_option linter.unusedSimpArgs false
set_option linter.unusedVariables false

theorem entW_of {v r u l : Bool} {p : Int} {k : Int} (hp : 0 ≤ p ∧ p < 64) (hk : 0 ≤ k ∧ k < 1024) (h : entM v r u l p k = true) : entW v r u l p = k ∧ entE v r u l p = 0 := ⟨(entM_yes hp hk h).2, (entM_yes hp hk h).1⟩
theorem entW_none {v r u l : Bool} {p : Int} (hp : 0 ≤ p ∧ p < 64) (h : ∀ j : Nat, j < 1024 → entM v r u l p j = false) : entE v r u l p = 3 := by
  by_cases hf : entF v r u l p = true
  · have hE := entE_0 hp hf
    obtain ⟨h1, h2⟩ := entM_at hE
    have := h (entW v r u l p).toNat (by omega)
    rw [show (((entW v r u l p).toNat : Nat) : Int) = entW v r u l p by omega, h2] at this
    cases this
  · exact entE_f hp (by simpa using hf)
theorem none_succ {P : Nat → Bool} {k : Nat} (h : ∀ j, j < k → P j = false) (hk : P k = false) : ∀ j, j < k + 1 → P j = false := fun j hj => by
  by_cases e : j = k
  · subst e; exact hk
  · exact h j (by omega)

set_option maxRecDepth 100000 in
set_option maxHeartbeats 4000000 in
theorem ref_WordOf_falsefalsefalsefalse (p : Int) (hR : 0 ≤ p ∧ p < 64) (w : World) : Calls Try.prog 34 #[.agg #[.bool false, .bool false, .bool false, .bool false, .int .i64 p]] w fun e w' => e = .returned (.tuple #[.int .i64 (entW false false false false p), .int .i64 (entE false false false false p)]) ∧ Below w.heap.size w w' := by
  have HB := Lib.hid (below_alloc w)
  have HR := Lib.hid hR
  have hin := inB_t (show 0 ≤ p ∧ p ≤ 63 by omega)
  obtain ⟨h1, h2⟩ := hR
  go_enter Try.func34, Try.ntmps34
  go_wp2_with (go_at_call 51; refine (ref_in _ _ _ _).mono ?_; rintro e w' ⟨rfl, rfl⟩)
  go_loopw [11] (fun i wr => ∃ k : Nat, k ≤ 1024 ∧ i = .int .i64 k ∧ Hid (∀ j : Nat, j < k → entM false false false false p j = false) ∧ Hid (Below (w.heap.size + 1) (w.alloc (.cells #[.bool false, .bool false, .bool false, .bool false, .int .i64 p] 47)) wr)) (fun i _ => 1024 - (intOf i).toNat)
  case atStart => exact ⟨0, by omega, rfl, (fun j hj => absurd hj (by omega)), (Below.refl _ _)⟩
  case round =>
    obtain ⟨k, hk, rfl, hn, hb⟩ := hrel
    have hz := hb.out.size
    simp only [World.size_alloc] at hz
    have kk := fun o => (bcell (W := w.alloc (.cells #[.bool false, .bool false, .bool false, .bool false, .int .i64 p] 47)) (by simpa using hb.out)).1 w.heap.size o (by simp)
    simp [go_sem] at kk
    by_cases hlt : k < 1024
    · go_wp2_with fail
      refine (ref_EntryOf _ _).mono ?_
      rw [enV_eq]
      rintro e w1 ⟨rfl, hb1⟩
      have hz1 := hb1.size
      (try simp only [World.size_alloc, World.size_setCell, World.size_drew] at hz1)
      have k1_0 := fun o => (bcell hb1).1 (w.heap.size) o (by first | (simp; done) | (simp; omega) | omega)
      have l1_0 : (w.heap.size) < w1.heap.size := (by omega)
      have q1_0 := fun o => (bcell hb1).2 (w.heap.size) o (by first | (simp; done) | (simp; omega) | omega)
      simp (maxDischargeDepth := 6) [go_sem, *] at k1_0 q1_0
      have HB1 := Lib.hid hb1
      clear hb1
      go_wp2_with fail
      all_goals first
        | (go_ret2
           have e := entW_of HR.out ⟨by omega, by omega⟩ (show entM false false false false p k = true by simp [entM, *])
           exact ⟨ret_int2 e.1.symm e.2.symm, by (repeat (first | (with_reducible exact Below.refl _ _) | (with_reducible refine Below.drew ?_) | (with_reducible refine bdrewN ?_ _) | ((with_reducible refine Below.setCell ?_ ?_ _); rotate_left; exact (by first | (simp; done) | (simp; omega) | omega)) | ((with_reducible refine Below.alloc ?_ ?_ _); rotate_left; exact (by first | (simp; done) | (simp; omega) | omega)) | ((with_reducible refine Below.trans ?_ (HB1.out.mono ?_)); rotate_left; exact (by first | (simp; done) | (simp; omega) | omega)))); exact (HB.out _).trans (hb.out.mono (by omega))⟩)
        | (go_roundw
           case rel => exact ⟨k + 1, by omega, by go_num, none_succ hn.out (by simp [entM, *]), by show Below _ _ _; (repeat (first | (with_reducible exact Below.refl _ _) | (with_reducible refine Below.drew ?_) | (with_reducible refine bdrewN ?_ _) | ((with_reducible refine Below.setCell ?_ ?_ _); rotate_left; exact (by first | (simp; done) | (simp; omega) | omega)) | ((with_reducible refine Below.alloc ?_ ?_ _); rotate_left; exact (by first | (simp; done) | (simp; omega) | omega)) | ((with_reducible refine Below.trans ?_ (HB1.out.mono ?_)); rotate_left; exact (by first | (simp; done) | (simp; omega) | omega)))); exact hb.out⟩
           case measure => simp [intOf]; omega)
    · obtain rfl : k = 1024 := by omega
      go_wp2
      go_ret2
      have e := entW_none HR.out hn.out
      exact ⟨ret_int2 (entW_n e (by decide)).symm e.symm, (HB.out _).trans (by simpa using hb.out.mono (by omega))⟩

set_option maxRecDepth 100000 in
set_option maxHeartbeats 4000000 in
theorem ref_WordOf_falsefalsefalsetrue (p : Int) (hR : 0 ≤ p ∧ p < 64) (w : World) : Calls Try.prog 34 #[.agg #[.bool false, .bool false, .bool false, .bool true, .int .i64 p]] w fun e w' => e = .returned (.tuple #[.int .i64 (entW false false false true p), .int .i64 (entE false false false true p)]) ∧ Below w.heap.size w w' := by
  have HB := Lib.hid (below_alloc w)
  have HR := Lib.hid hR
  have hin := inB_t (show 0 ≤ p ∧ p ≤ 63 by omega)
  obtain ⟨h1, h2⟩ := hR
  go_enter Try.func34, Try.ntmps34
  go_wp2_with (go_at_call 51; refine (ref_in _ _ _ _).mono ?_; rintro e w' ⟨rfl, rfl⟩)
  go_loopw [11] (fun i wr => ∃ k : Nat, k ≤ 1024 ∧ i = .int .i64 k ∧ Hid (∀ j : Nat, j < k → entM false false false true p j = false) ∧ Hid (Below (w.heap.size + 1) (w.alloc (.cells #[.bool false, .bool false, .bool false, .bool true, .int .i64 p] 47)) wr)) (fun i _ => 1024 - (intOf i).toNat)
  case atStart => exact ⟨0, by omega, rfl, (fun j hj => absurd hj (by omega)), (Below.refl _ _)⟩
  case round =>
    obtain ⟨k, hk, rfl, hn, hb⟩ := hrel
    have hz := hb.out.size
    simp only [World.size_alloc] at hz
    have kk := fun o => (bcell (W := w.alloc (.cells #[.bool false, .bool false, .bool false, .bool true, .int .i64 p] 47)) (by simpa using hb.out)).1 w.heap.size o (by simp)
    simp [go_sem] at kk
    by_cases hlt : k < 1024
    · go_wp2_with fail
      refine (ref_EntryOf _ _).mono ?_
      rw [enV_eq]
      rintro e w1 ⟨rfl, hb1⟩
      have hz1 := hb1.size
      (try simp only [World.size_alloc, World.size_setCell, World.size_drew] at hz1)
      have k1_0 := fun o => (bcell hb1).1 (w.heap.size) o (by first | (simp; done) | (simp; omega) | omega)
      have l1_0 : (w.heap.size) < w1.heap.size := (by omega)
      have q1_0 := fun o => (bcell hb1).2 (w.heap.size) o (by first | (simp; done) | (simp; omega) | omega)
      simp (maxDischargeDepth := 6) [go_sem, *] at k1_0 q1_0
      have HB1 := Lib.hid hb1
      clear hb1
      go_wp2_with fail
      all_goals first
        | (go_ret2
           have e := entW_of HR.out ⟨by omega, by omega⟩ (show entM false false false true p k = true by simp [entM, *])
           exact ⟨ret_int2 e.1.symm e.2.symm, by (repeat (first | (with_reducible exact Below.refl _ _) | (with_reducible refine Below.drew ?_) | (with_reducible refine bdrewN ?_ _) | ((with_reducible refine Below.setCell ?_ ?_ _); rotate_left; exact (by first | (simp; done) | (simp; omega) | omega)) | ((with_reducible refine Below.alloc ?_ ?_ _); rotate_left; exact (by first | (simp; done) | (simp; omega) | omega)) | ((with_reducible refine Below.trans ?_ (HB1.out.mono ?_)); rotate_left; exact (by first | (simp; done) | (simp; omega) | omega)))); exact (HB.out _).trans (hb.out.mono (by omega))⟩)
        | (go_roundw
           case rel => exact ⟨k + 1, by omega, by go_num, none_succ hn.out (by simp [entM, *]), by show Below _ _ _; (repeat (first | (with_reducible exact Below.refl _ _) | (with_reducible refine Below.drew ?_) | (with_reducible refine bdrewN ?_ _) | ((with_reducible refine Below.setCell ?_ ?_ _); rotate_left; exact (by first | (simp; done) | (simp; omega) | omega)) | ((with_reducible refine Below.alloc ?_ ?_ _); rotate_left; exact (by first | (simp; done) | (simp; omega) | omega)) | ((with_reducible refine Below.trans ?_ (HB1.out.mono ?_)); rotate_left; exact (by first | (simp; done) | (simp; omega) | omega)))); exact hb.out⟩
           case measure => simp [intOf]; omega)
    · obtain rfl : k = 1024 := by omega
      go_wp2
      go_ret2
      have e := entW_none HR.out hn.out
      exact ⟨ret_int2 (entW_n e (by decide)).symm e.symm, (HB.out _).trans (by simpa using hb.out.mono (by omega))⟩

set_option maxRecDepth 100000 in
set_option maxHeartbeats 4000000 in
theorem ref_WordOf_falsefalsetruefalse (p : Int) (hR : 0 ≤ p ∧ p < 64) (w : World) : Calls Try.prog 34 #[.agg #[.bool false, .bool false, .bool true, .bool false, .int .i64 p]] w fun e w' => e = .returned (.tuple #[.int .i64 (entW false false true false p), .int .i64 (entE false false true false p)]) ∧ Below w.heap.size w w' := by
  have HB := Lib.hid (below_alloc w)
  have HR := Lib.hid hR
  have hin := inB_t (show 0 ≤ p ∧ p ≤ 63 by omega)
  obtain ⟨h1, h2⟩ := hR
  go_enter Try.func34, Try.ntmps34
  go_wp2_with (go_at_call 51; refine (ref_in _ _ _ _).mono ?_; rintro e w' ⟨rfl, rfl⟩)
  go_loopw [11] (fun i wr => ∃ k : Nat, k ≤ 1024 ∧ i = .int .i64 k ∧ Hid (∀ j : Nat, j < k → entM false false true false p j = false) ∧ Hid (Below (w.heap.size + 1) (w.alloc (.cells #[.bool false, .bool false, .bool true, .bool false, .int .i64 p] 47)) wr)) (fun i _ => 1024 - (intOf i).toNat)
  case atStart => exact ⟨0, by omega, rfl, (fun j hj => absurd hj (by omega)), (Below.refl _ _)⟩
  case round =>
    obtain ⟨k, hk, rfl, hn, hb⟩ := hrel
    have hz := hb.out.size
    simp only [World.size_alloc] at hz
    have kk := fun o => (bcell (W := w.alloc (.cells #[.bool false, .bool false, .bool true, .bool false, .int .i64 p] 47)) (by simpa using hb.out)).1 w.heap.size o (by simp)
    simp [go_sem] at kk
    by_cases hlt : k < 1024
    · go_wp2_with fail
      refine (ref_EntryOf _ _).mono ?_
      rw [enV_eq]
      rintro e w1 ⟨rfl, hb1⟩
      have hz1 := hb1.size
      (try simp only [World.size_alloc, World.size_setCell, World.size_drew] at hz1)
      have k1_0 := fun o => (bcell hb1).1 (w.heap.size) o (by first | (simp; done) | (simp; omega) | omega)
      have l1_0 : (w.heap.size) < w1.heap.size := (by omega)
      have q1_0 := fun o => (bcell hb1).2 (w.heap.size) o (by first | (simp; done) | (simp; omega) | omega)
      simp (maxDischargeDepth := 6) [go_sem, *] at k1_0 q1_0
      have HB1 := Lib.hid hb1
      clear hb1
      go_wp2_with fail
      all_goals first
        | (go_ret2
           have e := entW_of HR.out ⟨by omega, by omega⟩ (show entM false false true false p k = true by simp [entM, *])
           exact ⟨ret_int2 e.1.symm e.2.symm, by (repeat (first | (with_reducible exact Below.refl _ _) | (with_reducible refine Below.drew ?_) | (with_reducible refine bdrewN ?_ _) | ((with_reducible refine Below.setCell ?_ ?_ _); rotate_left; exact (by first | (simp; done) | (simp; omega) | omega)) | ((with_reducible refine Below.alloc ?_ ?_ _); rotate_left; exact (by first | (simp; done) | (simp; omega) | omega)) | ((with_reducible refine Below.trans ?_ (HB1.out.mono ?_)); rotate_left; exact (by first | (simp; done) | (simp; omega) | omega)))); exact (HB.out _).trans (hb.out.mono (by omega))⟩)
        | (go_roundw
           case rel => exact ⟨k + 1, by omega, by go_num, none_succ hn.out (by simp [entM, *]), by show Below _ _ _; (repeat (first | (with_reducible exact Below.refl _ _) | (with_reducible refine Below.drew ?_) | (with_reducible refine bdrewN ?_ _) | ((with_reducible refine Below.setCell ?_ ?_ _); rotate_left; exact (by first | (simp; done) | (simp; omega) | omega)) | ((with_reducible refine Below.alloc ?_ ?_ _); rotate_left; exact (by first | (simp; done) | (simp; omega) | omega)) | ((with_reducible refine Below.trans ?_ (HB1.out.mono ?_)); rotate_left; exact (by first | (simp; done) | (simp; omega) | omega)))); exact hb.out⟩
           case measure => simp [intOf]; omega)
    · obtain rfl : k = 1024 := by omega
      go_wp2
      go_ret2
      have e := entW_none HR.out hn.out
      exact ⟨ret_int2 (entW_n e (by decide)).symm e.symm, (HB.out _).trans (by simpa using hb.out.mono (by omega))⟩

set_option maxRecDepth 100000 in
set_option maxHeartbeats 4000000 in
theorem ref_WordOf_falsefalsetruetrue (p : Int) (hR : 0 ≤ p ∧ p < 64) (w : World) : Calls Try.prog 34 #[.agg #[.bool false, .bool false, .bool true, .bool true, .int .i64 p]] w fun e w' => e = .returned (.tuple #[.int .i64 (entW false false true true p), .int .i64 (entE false false true true p)]) ∧ Below w.heap.size w w' := by
  have HB := Lib.hid (below_alloc w)
  have HR := Lib.hid hR
  have hin := inB_t (show 0 ≤ p ∧ p ≤ 63 by omega)
  obtain ⟨h1, h2⟩ := hR
  go_enter Try.func34, Try.ntmps34
  go_wp2_with (go_at_call 51; refine (ref_in _ _ _ _).mono ?_; rintro e w' ⟨rfl, rfl⟩)
  go_loopw [11] (fun i wr => ∃ k : Nat, k ≤ 1024 ∧ i = .int .i64 k ∧ Hid (∀ j : Nat, j < k → entM false false true true p j = false) ∧ Hid (Below (w.heap.size + 1) (w.alloc (.cells #[.bool false, .bool false, .bool true, .bool true, .int .i64 p] 47)) wr)) (fun i _ => 1024 - (intOf i).toNat)
  case atStart => exact ⟨0, by omega, rfl, (fun j hj => absurd hj (by omega)), (Below.refl _ _)⟩
  case round =>
    obtain ⟨k, hk, rfl, hn, hb⟩ := hrel
    have hz := hb.out.size
    simp only [World.size_alloc] at hz
    have kk := fun o => (bcell (W := w.alloc (.cells #[.bool false, .bool false, .bool true, .bool true, .int .i64 p] 47)) (by simpa using hb.out)).1 w.heap.size o (by simp)
    simp [go_sem] at kk
    by_cases hlt : k < 1024
    · go_wp2_with fail
      refine (ref_EntryOf _ _).mono ?_
      rw [enV_eq]
      rintro e w1 ⟨rfl, hb1⟩
      have hz1 := hb1.size
      (try simp only [World.size_alloc, World.size_setCell, World.size_drew] at hz1)
      have k1_0 := fun o => (bcell hb1).1 (w.heap.size) o (by first | (simp; done) | (simp; omega) | omega)
      have l1_0 : (w.heap.size) < w1.heap.size := (by omega)
      have q1_0 := fun o => (bcell hb1).2 (w.heap.size) o (by first | (simp; done) | (simp; omega) | omega)
      simp (maxDischargeDepth := 6) [go_sem, *] at k1_0 q1_0
      have HB1 := Lib.hid hb1
      clear hb1
      go_wp2_with fail
      all_goals first
        | (go_ret2
           have e := entW_of HR.out ⟨by omega, by omega⟩ (show entM false false true true p k = true by simp [entM, *])
           exact ⟨ret_int2 e.1.symm e.2.symm, by (repeat (first | (with_reducible exact Below.refl _ _) | (with_reducible refine Below.drew ?_) | (with_reducible refine bdrewN ?_ _) | ((with_reducible refine Below.setCell ?_ ?_ _); rotate_left; exact (by first | (simp; done) | (simp; omega) | omega)) | ((with_reducible refine Below.alloc ?_ ?_ _); rotate_left; exact (by first | (simp; done) | (simp; omega) | omega)) | ((with_reducible refine Below.trans ?_ (HB1.out.mono ?_)); rotate_left; exact (by first | (simp; done) | (simp; omega) | omega)))); exact (HB.out _).trans (hb.out.mono (by omega))⟩)
        | (go_roundw
           case rel => exact ⟨k + 1, by omega, by go_num, none_succ hn.out (by simp [entM, *]), by show Below _ _ _; (repeat (first | (with_reducible exact Below.refl _ _) | (with_reducible refine Below.drew ?_) | (with_reducible refine bdrewN ?_ _) | ((with_reducible refine Below.setCell ?_ ?_ _); rotate_left; exact (by first | (simp; done) | (simp; omega) | omega)) | ((with_reducible refine Below.alloc ?_ ?_ _); rotate_left; exact (by first | (simp; done) | (simp; omega) | omega)) | ((with_reducible refine Below.trans ?_ (HB1.out.mono ?_)); rotate_left; exact (by first | (simp; done) | (simp; omega) | omega)))); exact hb.out⟩
           case measure => simp [intOf]; omega)
    · obtain rfl : k = 1024 := by omega
      go_wp2
      go_ret2
      have e := entW_none HR.out hn.out
      exact ⟨ret_int2 (entW_n e (by decide)).symm e.symm, (HB.out _).trans (by simpa using hb.out.mono (by omega))⟩

set_option maxRecDepth 100000 in
set_option maxHeartbeats 4000000 in
theorem ref_WordOf_falsetruefalsefalse (p : Int) (hR : 0 ≤ p ∧ p < 64) (w : World) : Calls Try.prog 34 #[.agg #[.bool false, .bool true, .bool false, .bool false, .int .i64 p]] w fun e w' => e = .returned (.tuple #[.int .i64 (entW false true false false p), .int .i64 (entE false true false false p)]) ∧ Below w.heap.size w w' := by
  have HB := Lib.hid (below_alloc w)
  have HR := Lib.hid hR
  have hin := inB_t (show 0 ≤ p ∧ p ≤ 63 by omega)
  obtain ⟨h1, h2⟩ := hR
  go_enter Try.func34, Try.ntmps34
  go_wp2_with (go_at_call 51; refine (ref_in _ _ _ _).mono ?_; rintro e w' ⟨rfl, rfl⟩)
  go_loopw [11] (fun i wr => ∃ k : Nat, k ≤ 1024 ∧ i = .int .i64 k ∧ Hid (∀ j : Nat, j < k → entM false true false false p j = false) ∧ Hid (Below (w.heap.size + 1) (w.alloc (.cells #[.bool false, .bool true, .bool false, .bool false, .int .i64 p] 47)) wr)) (fun i _ => 1024 - (intOf i).toNat)
  case atStart => exact ⟨0, by omega, rfl, (fun j hj => absurd hj (by omega)), (Below.refl _ _)⟩
  case round =>
    obtain ⟨k, hk, rfl, hn, hb⟩ := hrel
    have hz := hb.out.size
    simp only [World.size_alloc] at hz
    have kk := fun o => (bcell (W := w.alloc (.cells #[.bool false, .bool true, .bool false, .bool false, .int .i64 p] 47)) (by simpa using hb.out)).1 w.heap.size o (by simp)
    simp [go_sem] at kk
    by_cases hlt : k < 1024
    · go_wp2_with fail
      refine (ref_EntryOf _ _).mono ?_
      rw [enV_eq]
      rintro e w1 ⟨rfl, hb1⟩
      have hz1 := hb1.size
      (try simp only [World.size_alloc, World.size_setCell, World.size_drew] at hz1)
      have k1_0 := fun o => (bcell hb1).1 (w.heap.size) o (by first | (simp; done) | (simp; omega) | omega)
      have l1_0 : (w.heap.size) < w1.heap.size := (by omega)
      have q1_0 := fun o => (bcell hb1).2 (w.heap.size) o (by first | (simp; done) | (simp; omega) | omega)
      simp (maxDischargeDepth := 6) [go_sem, *] at k1_0 q1_0
      have HB1 := Lib.hid hb1
      clear hb1
      go_wp2_with fail
      all_goals first
        | (go_ret2
           have e := entW_of HR.out ⟨by omega, by omega⟩ (show entM false true false false p k = true by simp [entM, *])
           exact ⟨ret_int2 e.1.symm e.2.symm, by (repeat (first | (with_reducible exact Below.refl _ _) | (with_reducible refine Below.drew ?_) | (with_reducible refine bdrewN ?_ _) | ((with_reducible refine Below.setCell ?_ ?_ _); rotate_left; exact (by first | (simp; done) | (simp; omega) | omega)) | ((with_reducible refine Below.alloc ?_ ?_ _); rotate_left; exact (by first | (simp; done) | (simp; omega) | omega)) | ((with_reducible refine Below.trans ?_ (HB1.out.mono ?_)); rotate_left; exact (by first | (simp; done) | (simp; omega) | omega)))); exact (HB.out _).trans (hb.out.mono (by omega))⟩)
        | (go_roundw
           case rel => exact ⟨k + 1, by omega, by go_num, none_succ hn.out (by simp [entM, *]), by show Below _ _ _; (repeat (first | (with_reducible exact Below.refl _ _) | (with_reducible refine Below.drew ?_) | (with_reducible refine bdrewN ?_ _) | ((with_reducible refine Below.setCell ?_ ?_ _); rotate_left; exact (by first | (simp; done) | (simp; omega) | omega)) | ((with_reducible refine Below.alloc ?_ ?_ _); rotate_left; exact (by first | (simp; done) | (simp; omega) | omega)) | ((with_reducible refine Below.trans ?_ (HB1.out.mono ?_)); rotate_left; exact (by first | (simp; done) | (simp; omega) | omega)))); exact hb.out⟩
           case measure => simp [intOf]; omega)
    · obtain rfl : k = 1024 := by omega
      go_wp2
      go_ret2
      have e := entW_none HR.out hn.out
      exact ⟨ret_int2 (entW_n e (by decide)).symm e.symm, (HB.out _).trans (by simpa using hb.out.mono (by omega))⟩

set_option maxRecDepth 100000 in
set_option maxHeartbeats 4000000 in
theorem ref_WordOf_falsetruefalsetrue (p : Int) (hR : 0 ≤ p ∧ p < 64) (w : World) : Calls Try.prog 34 #[.agg #[.bool false, .bool true, .bool false, .bool true, .int .i64 p]] w fun e w' => e = .returned (.tuple #[.int .i64 (entW false true false true p), .int .i64 (entE false true false true p)]) ∧ Below w.heap.size w w' := by
  have HB := Lib.hid (below_alloc w)
  have HR := Lib.hid hR
  have hin := inB_t (show 0 ≤ p ∧ p ≤ 63 by omega)
  obtain ⟨h1, h2⟩ := hR
  go_enter Try.func34, Try.ntmps34
  go_wp2_with (go_at_call 51; refine (ref_in _ _ _ _).mono ?_; rintro e w' ⟨rfl, rfl⟩)
  go_loopw [11] (fun i wr => ∃ k : Nat, k ≤ 1024 ∧ i = .int .i64 k ∧ Hid (∀ j : Nat, j < k → entM false true false true p j = false) ∧ Hid (Below (w.heap.size + 1) (w.alloc (.cells #[.bool false, .bool true, .bool false, .bool true, .int .i64 p] 47)) wr)) (fun i _ => 1024 - (intOf i).toNat)
  case atStart => exact ⟨0, by omega, rfl, (fun j hj => absurd hj (by omega)), (Below.refl _ _)⟩
  case round =>
    obtain ⟨k, hk, rfl, hn, hb⟩ := hrel
    have hz := hb.out.size
    simp only [World.size_alloc] at hz
    have kk := fun o => (bcell (W := w.alloc (.cells #[.bool false, .bool true, .bool false, .bool true, .int .i64 p] 47)) (by simpa using hb.out)).1 w.heap.size o (by simp)
    simp [go_sem] at kk
    by_cases hlt : k < 1024
    · go_wp2_with fail
      refine (ref_EntryOf _ _).mono ?_
      rw [enV_eq]
      rintro e w1 ⟨rfl, hb1⟩
      have hz1 := hb1.size
      (try simp only [World.size_alloc, World.size_setCell, World.size_drew] at hz1)
      have k1_0 := fun o => (bcell hb1).1 (w.heap.size) o (by first | (simp; done) | (simp; omega) | omega)
      have l1_0 : (w.heap.size) < w1.heap.size := (by omega)
      have q1_0 := fun o => (bcell hb1).2 (w.heap.size) o (by first | (simp; done) | (simp; omega) | omega)
      simp (maxDischargeDepth := 6) [go_sem, *] at k1_0 q1_0
      have HB1 := Lib.hid hb1
      clear hb1
      go_wp2_with fail
      all_goals first
        | (go_ret2
           have e := entW_of HR.out ⟨by omega, by omega⟩ (show entM false true false true p k = true by simp [entM, *])
           exact ⟨ret_int2 e.1.symm e.2.symm, by (repeat (first | (with_reducible exact Below.refl _ _) | (with_reducible refine Below.drew ?_) | (with_reducible refine bdrewN ?_ _) | ((with_reducible refine Below.setCell ?_ ?_ _); rotate_left; exact (by first | (simp; done) | (simp; omega) | omega)) | ((with_reducible refine Below.alloc ?_ ?_ _); rotate_left; exact (by first | (simp; done) | (simp; omega) | omega)) | ((with_reducible refine Below.trans ?_ (HB1.out.mono ?_)); rotate_left; exact (by first | (simp; done) | (simp; omega) | omega)))); exact (HB.out _).trans (hb.out.mono (by omega))⟩)
        | (go_roundw
           case rel => exact ⟨k + 1, by omega, by go_num, none_succ hn.out (by simp [entM, *]), by show Below _ _ _; (repeat (first | (with_reducible exact Below.refl _ _) | (with_reducible refine Below.drew ?_) | (with_reducible refine bdrewN ?_ _) | ((with_reducible refine Below.setCell ?_ ?_ _); rotate_left; exact (by first | (simp; done) | (simp; omega) | omega)) | ((with_reducible refine Below.alloc ?_ ?_ _); rotate_left; exact (by first | (simp; done) | (simp; omega) | omega)) | ((with_reducible refine Below.trans ?_ (HB1.out.mono ?_)); rotate_left; exact (by first | (simp; done) | (simp; omega) | omega)))); exact hb.out⟩
           case measure => simp [intOf]; omega)
    · obtain rfl : k = 1024 := by omega
      go_wp2
      go_ret2
      have e := entW_none HR.out hn.out
      exact ⟨ret_int2 (entW_n e (by decide)).symm e.symm, (HB.out _).trans (by simpa using hb.out.mono (by omega))⟩

set_option maxRecDepth 100000 in
set_option maxHeartbeats 4000000 in
theorem ref_WordOf_falsetruetruefalse (p : Int) (hR : 0 ≤ p ∧ p < 64) (w : World) : Calls Try.prog 34 #[.agg #[.bool false, .bool true, .bool true, .bool false, .int .i64 p]] w fun e w' => e = .returned (.tuple #[.int .i64 (entW false true true false p), .int .i64 (entE false true true false p)]) ∧ Below w.heap.size w w' := by
  have HB := Lib.hid (below_alloc w)
  have HR := Lib.hid hR
  have hin := inB_t (show 0 ≤ p ∧ p ≤ 63 by omega)
  obtain ⟨h1, h2⟩ := hR
  go_enter Try.func34, Try.ntmps34
  go_wp2_with (go_at_call 51; refine (ref_in _ _ _ _).mono ?_; rintro e w' ⟨rfl, rfl⟩)
  go_loopw [11] (fun i wr => ∃ k : Nat, k ≤ 1024 ∧ i = .int .i64 k ∧ Hid (∀ j : Nat, j < k → entM false true true false p j = false) ∧ Hid (Below (w.heap.size + 1) (w.alloc (.cells #[.bool false, .bool true, .bool true, .bool false, .int .i64 p] 47)) wr)) (fun i _ => 1024 - (intOf i).toNat)
  case atStart => exact ⟨0, by omega, rfl, (fun j hj => absurd hj (by omega)), (Below.refl _ _)⟩
  case round =>
    obtain ⟨k, hk, rfl, hn, hb⟩ := hrel
    have hz := hb.out.size
    simp only [World.size_alloc] at hz
    have kk := fun o => (bcell (W := w.alloc (.cells #[.bool false, .bool true, .bool true, .bool false, .int .i64 p] 47)) (by simpa using hb.out)).1 w.heap.size o (by simp)
    simp [go_sem] at kk
    by_cases hlt : k < 1024
    · go_wp2_with fail
      refine (ref_EntryOf _ _).mono ?_
      rw [enV_eq]
      rintro e w1 ⟨rfl, hb1⟩
      have hz1 := hb1.size
      (try simp only [World.size_alloc, World.size_setCell, World.size_drew] at hz1)
      have k1_0 := fun o => (bcell hb1).1 (w.heap.size) o (by first | (simp; done) | (simp; omega) | omega)
      have l1_0 : (w.heap.size) < w1.heap.size := (by omega)
      have q1_0 := fun o => (bcell hb1).2 (w.heap.size) o (by first | (simp; done) | (simp; omega) | omega)
      simp (maxDischargeDepth := 6) [go_sem, *] at k1_0 q1_0
      have HB1 := Lib.hid hb1
      clear hb1
      go_wp2_with fail
      all_goals first
        | (go_ret2
           have e := entW_of HR.out ⟨by omega, by omega⟩ (show entM false true true false p k = true by simp [entM, *])
           exact ⟨ret_int2 e.1.symm e.2.symm, by (repeat (first | (with_reducible exact Below.refl _ _) | (with_reducible refine Below.drew ?_) | (with_reducible refine bdrewN ?_ _) | ((with_reducible refine Below.setCell ?_ ?_ _); rotate_left; exact (by first | (simp; done) | (simp; omega) | omega)) | ((with_reducible refine Below.alloc ?_ ?_ _); rotate_left; exact (by first | (simp; done) | (simp; omega) | omega)) | ((with_reducible refine Below.trans ?_ (HB1.out.mono ?_)); rotate_left; exact (by first | (simp; done) | (simp; omega) | omega)))); exact (HB.out _).trans (hb.out.mono (by omega))⟩)
        | (go_roundw
           case rel => exact ⟨k + 1, by omega, by go_num, none_succ hn.out (by simp [entM, *]), by show Below _ _ _; (repeat (first | (with_reducible exact Below.refl _ _) | (with_reducible refine Below.drew ?_) | (with_reducible refine bdrewN ?_ _) | ((with_reducible refine Below.setCell ?_ ?_ _); rotate_left; exact (by first | (simp; done) | (simp; omega) | omega)) | ((with_reducible refine Below.alloc ?_ ?_ _); rotate_left; exact (by first | (simp; done) | (simp; omega) | omega)) | ((with_reducible refine Below.trans ?_ (HB1.out.mono ?_)); rotate_left; exact (by first | (simp; done) | (simp; omega) | omega)))); exact hb.out⟩
           case measure => simp [intOf]; omega)
    · obtain rfl : k = 1024 := by omega
      go_wp2
      go_ret2
      have e := entW_none HR.out hn.out
      exact ⟨ret_int2 (entW_n e (by decide)).symm e.symm, (HB.out _).trans (by simpa using hb.out.mono (by omega))⟩

set_option maxRecDepth 100000 in
set_option maxHeartbeats 4000000 in
theorem ref_WordOf_falsetruetruetrue (p : Int) (hR : 0 ≤ p ∧ p < 64) (w : World) : Calls Try.prog 34 #[.agg #[.bool false, .bool true, .bool true, .bool true, .int .i64 p]] w fun e w' => e = .returned (.tuple #[.int .i64 (entW false true true true p), .int .i64 (entE false true true true p)]) ∧ Below w.heap.size w w' := by
  have HB := Lib.hid (below_alloc w)
  have HR := Lib.hid hR
  have hin := inB_t (show 0 ≤ p ∧ p ≤ 63 by omega)
  obtain ⟨h1, h2⟩ := hR
  go_enter Try.func34, Try.ntmps34
  go_wp2_with (go_at_call 51; refine (ref_in _ _ _ _).mono ?_; rintro e w' ⟨rfl, rfl⟩)
  go_loopw [11] (fun i wr => ∃ k : Nat, k ≤ 1024 ∧ i = .int .i64 k ∧ Hid (∀ j : Nat, j < k → entM false true true true p j = false) ∧ Hid (Below (w.heap.size + 1) (w.alloc (.cells #[.bool false, .bool true, .bool true, .bool true, .int .i64 p] 47)) wr)) (fun i _ => 1024 - (intOf i).toNat)
  case atStart => exact ⟨0, by omega, rfl, (fun j hj => absurd hj (by omega)), (Below.refl _ _)⟩
  case round =>
    obtain ⟨k, hk, rfl, hn, hb⟩ := hrel
    have hz := hb.out.size
    simp only [World.size_alloc] at hz
    have kk := fun o => (bcell (W := w.alloc (.cells #[.bool false, .bool true, .bool true, .bool true, .int .i64 p] 47)) (by simpa using hb.out)).1 w.heap.size o (by simp)
    simp [go_sem] at kk
    by_cases hlt : k < 1024
    · go_wp2_with fail
      refine (ref_EntryOf _ _).mono ?_
      rw [enV_eq]
      rintro e w1 ⟨rfl, hb1⟩
      have hz1 := hb1.size
      (try simp only [World.size_alloc, World.size_setCell, World.size_drew] at hz1)
      have k1_0 := fun o => (bcell hb1).1 (w.heap.size) o (by first | (simp; done) | (simp; omega) | omega)
      have l1_0 : (w.heap.size) < w1.heap.size := (by omega)
      have q1_0 := fun o => (bcell hb1).2 (w.heap.size) o (by first | (simp; done) | (simp; omega) | omega)
      simp (maxDischargeDepth := 6) [go_sem, *] at k1_0 q1_0
      have HB1 := Lib.hid hb1
      clear hb1
      go_wp2_with fail
      all_goals first
        | (go_ret2
           have e := entW_of HR.out ⟨by omega, by omega⟩ (show entM false true true true p k = true by simp [entM, *])
           exact ⟨ret_int2 e.1.symm e.2.symm, by (repeat (first | (with_reducible exact Below.refl _ _) | (with_reducible refine Below.drew ?_) | (with_reducible refine bdrewN ?_ _) | ((with_reducible refine Below.setCell ?_ ?_ _); rotate_left; exact (by first | (simp; done) | (simp; omega) | omega)) | ((with_reducible refine Below.alloc ?_ ?_ _); rotate_left; exact (by first | (simp; done) | (simp; omega) | omega)) | ((with_reducible refine Below.trans ?_ (HB1.out.mono ?_)); rotate_left; exact (by first | (simp; done) | (simp; omega) | omega)))); exact (HB.out _).trans (hb.out.mono (by omega))⟩)
        | (go_roundw
           case rel => exact ⟨k + 1, by omega, by go_num, none_succ hn.out (by simp [entM, *]), by show Below _ _ _; (repeat (first | (with_reducible exact Below.refl _ _) | (with_reducible refine Below.drew ?_) | (with_reducible refine bdrewN ?_ _) | ((with_reducible refine Below.setCell ?_ ?_ _); rotate_left; exact (by first | (simp; done) | (simp; omega) | omega)) | ((with_reducible refine Below.alloc ?_ ?_ _); rotate_left; exact (by first | (simp; done) | (simp; omega) | omega)) | ((with_reducible refine Below.trans ?_ (HB1.out.mono ?_)); rotate_left; exact (by first | (simp; done) | (simp; omega) | omega)))); exact hb.out⟩
           case measure => simp [intOf]; omega)
    · obtain rfl : k = 1024 := by omega
      go_wp2
      go_ret2
      have e := entW_none HR.out hn.out
      exact ⟨ret_int2 (entW_n e (by decide)).symm e.symm, (HB.out _).trans (by simpa using hb.out.mono (by omega))⟩

set_option maxRecDepth 100000 in
set_option maxHeartbeats 4000000 in
theorem ref_WordOf_truerul (r u l : Bool) (p : Int) (hR : 0 ≤ p ∧ p < 64) (w : World) : Calls Try.prog 34 #[.agg #[.bool true, .bool r, .bool u, .bool l, .int .i64 p]] w fun e w' => e = .returned (.tuple #[.int .i64 (entW true r u l p), .int .i64 (entE true r u l p)]) ∧ Below w.heap.size w w' := by
  have HB := Lib.hid (below_alloc w)
  have HR := Lib.hid hR
  have hin := inB_t (show 0 ≤ p ∧ p ≤ 63 by omega)
  obtain ⟨h1, h2⟩ := hR
  go_enter Try.func34, Try.ntmps34
  go_wp2_with (go_at_call 51; refine (ref_in _ _ _ _).mono ?_; rintro e w' ⟨rfl, rfl⟩)
  go_loopw [11] (fun i wr => ∃ k : Nat, k ≤ 1024 ∧ i = .int .i64 k ∧ Hid (∀ j : Nat, j < k → entM true r u l p j = false) ∧ Hid (Below (w.heap.size + 1) (w.alloc (.cells #[.bool true, .bool r, .bool u, .bool l, .int .i64 p] 47)) wr)) (fun i _ => 1024 - (intOf i).toNat)
  case atStart => exact ⟨0, by omega, rfl, (fun j hj => absurd hj (by omega)), (Below.refl _ _)⟩
  case round =>
    obtain ⟨k, hk, rfl, hn, hb⟩ := hrel
    have hz := hb.out.size
    simp only [World.size_alloc] at hz
    have kk := fun o => (bcell (W := w.alloc (.cells #[.bool true, .bool r, .bool u, .bool l, .int .i64 p] 47)) (by simpa using hb.out)).1 w.heap.size o (by simp)
    simp [go_sem] at kk
    by_cases hlt : k < 1024
    · go_wp2_with fail
      refine (ref_EntryOf _ _).mono ?_
      rw [enV_eq]
      rintro e w1 ⟨rfl, hb1⟩
      have hz1 := hb1.size
      (try simp only [World.size_alloc, World.size_setCell, World.size_drew] at hz1)
      have k1_0 := fun o => (bcell hb1).1 (w.heap.size) o (by first | (simp; done) | (simp; omega) | omega)
      have l1_0 : (w.heap.size) < w1.heap.size := (by omega)
      have q1_0 := fun o => (bcell hb1).2 (w.heap.size) o (by first | (simp; done) | (simp; omega) | omega)
      simp (maxDischargeDepth := 6) [go_sem, *] at k1_0 q1_0
      have HB1 := Lib.hid hb1
      clear hb1
      go_wp2_with fail
      all_goals first
        | (go_ret2
           have e := entW_of HR.out ⟨by omega, by omega⟩ (show entM true r u l p k = true by simp [entM, *])
           exact ⟨ret_int2 e.1.symm e.2.symm, by (repeat (first | (with_reducible exact Below.refl _ _) | (with_reducible refine Below.drew ?_) | (with_reducible refine bdrewN ?_ _) | ((with_reducible refine Below.setCell ?_ ?_ _); rotate_left; exact (by first | (simp; done) | (simp; omega) | omega)) | ((with_reducible refine Below.alloc ?_ ?_ _); rotate_left; exact (by first | (simp; done) | (simp; omega) | omega)) | ((with_reducible refine Below.trans ?_ (HB1.out.mono ?_)); rotate_left; exact (by first | (simp; done) | (simp; omega) | omega)))); exact (HB.out _).trans (hb.out.mono (by omega))⟩)
        | (go_roundw
           case rel => exact ⟨k + 1, by omega, by go_num, none_succ hn.out (by simp [entM, *]), by show Below _ _ _; (repeat (first | (with_reducible exact Below.refl _ _) | (with_reducible refine Below.drew ?_) | (with_reducible refine bdrewN ?_ _) | ((with_reducible refine Below.setCell ?_ ?_ _); rotate_left; exact (by first | (simp; done) | (simp; omega) | omega)) | ((with_reducible refine Below.alloc ?_ ?_ _); rotate_left; exact (by first | (simp; done) | (simp; omega) | omega)) | ((with_reducible refine Below.trans ?_ (HB1.out.mono ?_)); rotate_left; exact (by first | (simp; done) | (simp; omega) | omega)))); exact hb.out⟩
           case measure => simp [intOf]; omega)
    · obtain rfl : k = 1024 := by omega
      go_wp2
      go_ret2
      have e := entW_none HR.out hn.out
      exact ⟨ret_int2 (entW_n e (by decide)).symm e.symm, (HB.out _).trans (by simpa using hb.out.mono (by omega))⟩

set_option maxRecDepth 100000 in
set_option maxHeartbeats 1000000 in
theorem ref_WordOf (v r u l : Bool) (p : Int) (w : World) : Calls Try.prog 34 #[.agg #[.bool v, .bool r, .bool u, .bool l, .int .i64 p]] w fun e w' => e = .returned (.tuple #[.int .i64 (entW v r u l p), .int .i64 (entE v r u l p)]) ∧ Below w.heap.size w w' := by
  have HB := Lib.hid (below_alloc w)
  by_cases hR : 0 ≤ p ∧ p < 64
  · cases v
    · cases r <;> cases u <;> cases l
      · exact ref_WordOf_falsefalsefalsefalse p hR w
      · exact ref_WordOf_falsefalsefalsetrue p hR w
      · exact ref_WordOf_falsefalsetruefalse p hR w
      · exact ref_WordOf_falsefalsetruetrue p hR w
      · exact ref_WordOf_falsetruefalsefalse p hR w
      · exact ref_WordOf_falsetruefalsetrue p hR w
      · exact ref_WordOf_falsetruetruefalse p hR w
      · exact ref_WordOf_falsetruetruetrue p hR w
    · exact ref_WordOf_truerul r u l p hR w
  · have HR := Lib.hid hR
    have hin := inB_f (show ¬ (0 ≤ p ∧ p ≤ 63) by omega)
    go_enter Try.func34, Try.ntmps34
    go_wp2_with (go_at_call 51; refine (ref_in _ _ _ _).mono ?_; rintro e w' ⟨rfl, rfl⟩)
    go_ret2
    exact ⟨ret_int2 (entW_n (entE_r HR.out) (by decide)).symm (entE_r HR.out).symm, HB.out _⟩
end Go.Proofs.Ytbopdijnojaaiaa
