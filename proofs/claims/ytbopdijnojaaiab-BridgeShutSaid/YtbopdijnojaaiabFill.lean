/- The cache: the walk of the program's Fill. No statement of the seat is proved here. -/
import Derived.Test.YtbopdijnojaaiabCloneL
import Derived.Test.YtbopdijnojaaiabCache
import Derived.Deep.AppendLies
namespace Go.Proofs.Ytbopdijnojaaiab
open Go.RowKit
set_option linter.unusedSimpArgs false
set_option linter.unusedVariables false
attribute [local go_sem ↓] Go.wp_at_zero Go.wp_at_succ

theorem fill_ck1 (x : Line) : ckC [x] = lineE x := ckC_one x
theorem lines_new (w : World) (x : Line) : Lines (w.alloc (.cells #[.int .i64 x.dev, .int .i64 x.page, .int .i64 x.at_, .bool x.rd, .bool x.wr] 42)) (w.heap.size + 1) (some ⟨w.heap.size, 0, none⟩) 1 1 [x] :=
  ⟨rfl, Nat.le_refl _, by unfold maxLen; omega, (fun e => by cases e), fun _ => ⟨w.heap.size, 0, rfl, by omega, fun k v hv => by
    simp only [lcells, List.flatMap_cons, List.flatMap_nil, List.append_nil, Line.vals] at hv
    rw [Nat.zero_add, World.cell?_alloc_new]
    simpa using hv⟩⟩

set_option maxRecDepth 100000 in
set_option maxHeartbeats 8000000 in
theorem cache_Fill_no (A : Option Addr) (n c : Nat) (ls : List Line) (x : Line) (w : World) (hl : Lines w w.heap.size A n c ls) (hE : fillE ls x ≠ 0) :
    Calls Try.prog 27 #[.slice A n c, .agg #[.int .i64 x.dev, .int .i64 x.page, .int .i64 x.at_, .bool x.rd, .bool x.wr]] w fun e w' => e = .returned (.tuple #[.slice none 0 0, .int .i64 (fillE ls x)]) ∧ Below w.heap.size w w' := by
  have HL := Lib.hid hl
  have HE := Lib.hid hE
  clear hl hE
  by_cases h0 : ckC ls = 0
  · have t0 : (ckC ls != 0) = false := by rw [bne_eq_false_iff_eq]; exact h0
    by_cases h1 : lineE x = 0
    · have t1 : (lineE x != 0) = false := by rw [bne_eq_false_iff_eq]; exact h1
      by_cases h2 : 0 ≤ findL ls x.dev x.page
      · rw [fillE_t h0 h1 h2]
        have t2 : decide (0 ≤ findL ls x.dev x.page) = true := by simpa using h2
        clear h0 h1 h2
        go_enter Try.func27, Try.ntmps27
        go_wp2_with fail
        refine (cache_Check _ _ _ ls _ ((HL.out.alloc (Nat.le_refl _) _).more (by simp))).mono ?_
        rintro e w1 ⟨rfl, hb1⟩
        have hz1 := hb1.size
        (try simp only [World.size_alloc, World.size_setCell, World.size_drew] at hz1)
        have k1_0 := fun o => (bcell hb1).1 (w.heap.size) o (by first | (simp; done) | (simp; omega) | omega)
        have l1_0 : (w.heap.size) < w1.heap.size := (by omega)
        have q1_0 := fun o => (bcell hb1).2 (w.heap.size) o (by first | (simp; done) | (simp; omega) | omega)
        simp (maxDischargeDepth := 6) [go_sem, *] at k1_0 q1_0
        have HB1 := Lib.hid hb1
        clear hb1
        go_wp2_with fail
        refine (cache_Check _ _ _ [x] _ ((lines_new _ x).more (by simp))).mono ?_
        rw [ckC_one]
        rintro e w2 ⟨rfl, hb2⟩
        have hz2 := hb2.size
        (try simp only [World.size_alloc, World.size_setCell, World.size_drew] at hz2)
        have k2_0 := fun o => (bcell hb2).1 (w.heap.size) o (by first | (simp; done) | (simp; omega) | omega)
        have l2_0 : (w.heap.size) < w2.heap.size := (by omega)
        have q2_0 := fun o => (bcell hb2).2 (w.heap.size) o (by first | (simp; done) | (simp; omega) | omega)
        simp (maxDischargeDepth := 6) [go_sem, *] at k2_0 q2_0
        have HB2 := Lib.hid hb2
        clear hb2
        go_wp2_with fail
        refine (cache_Find _ _ _ ls _ _ _ ((((HL.out.alloc (Nat.le_refl _) _).below (HB1.out.mono (by simp))).alloc (by omega) _ |>.below (HB2.out.mono (by simp; omega))).more (by omega))).mono ?_
        rintro e w3 ⟨rfl, hb3⟩
        have hz3 := hb3.size
        (try simp only [World.size_alloc, World.size_setCell, World.size_drew] at hz3)
        have HB3 := Lib.hid hb3
        clear hb3
        go_wp2
        go_ret2
        exact ⟨rfl, by (repeat (first | (with_reducible exact Below.refl _ _) | (with_reducible refine Below.drew ?_) | (with_reducible refine bdrewN ?_ _) | ((with_reducible refine Below.setCell ?_ ?_ _); rotate_left; exact (by first | (simp; done) | (simp; omega) | omega)) | ((with_reducible refine Below.alloc ?_ ?_ _); rotate_left; exact (by first | (simp; done) | (simp; omega) | omega)) | ((with_reducible refine Below.trans ?_ (HB3.out.mono ?_)); rotate_left; exact (by first | (simp; done) | (simp; omega) | omega)) | ((with_reducible refine Below.trans ?_ (HB2.out.mono ?_)); rotate_left; exact (by first | (simp; done) | (simp; omega) | omega)) | ((with_reducible refine Below.trans ?_ (HB1.out.mono ?_)); rotate_left; exact (by first | (simp; done) | (simp; omega) | omega))))⟩
      · exact absurd (fillE_0 h0 h1 (by omega)) HE.out
    · rw [fillE_l h0 h1]
      have t1 : (lineE x != 0) = true := by rw [bne_iff_ne]; exact h1
      clear h0 h1
      go_enter Try.func27, Try.ntmps27
      go_wp2_with fail
      refine (cache_Check _ _ _ ls _ ((HL.out.alloc (Nat.le_refl _) _).more (by simp))).mono ?_
      rintro e w1 ⟨rfl, hb1⟩
      have hz1 := hb1.size
      (try simp only [World.size_alloc, World.size_setCell, World.size_drew] at hz1)
      have k1_0 := fun o => (bcell hb1).1 (w.heap.size) o (by first | (simp; done) | (simp; omega) | omega)
      have l1_0 : (w.heap.size) < w1.heap.size := (by omega)
      have q1_0 := fun o => (bcell hb1).2 (w.heap.size) o (by first | (simp; done) | (simp; omega) | omega)
      simp (maxDischargeDepth := 6) [go_sem, *] at k1_0 q1_0
      have HB1 := Lib.hid hb1
      clear hb1
      go_wp2_with fail
      refine (cache_Check _ _ _ [x] _ ((lines_new _ x).more (by simp))).mono ?_
      rw [ckC_one]
      rintro e w2 ⟨rfl, hb2⟩
      have hz2 := hb2.size
      (try simp only [World.size_alloc, World.size_setCell, World.size_drew] at hz2)
      have HB2 := Lib.hid hb2
      clear hb2
      go_wp2
      go_ret2
      exact ⟨rfl, by (repeat (first | (with_reducible exact Below.refl _ _) | (with_reducible refine Below.drew ?_) | (with_reducible refine bdrewN ?_ _) | ((with_reducible refine Below.setCell ?_ ?_ _); rotate_left; exact (by first | (simp; done) | (simp; omega) | omega)) | ((with_reducible refine Below.alloc ?_ ?_ _); rotate_left; exact (by first | (simp; done) | (simp; omega) | omega)) | ((with_reducible refine Below.trans ?_ (HB2.out.mono ?_)); rotate_left; exact (by first | (simp; done) | (simp; omega) | omega)) | ((with_reducible refine Below.trans ?_ (HB1.out.mono ?_)); rotate_left; exact (by first | (simp; done) | (simp; omega) | omega))))⟩
  · rw [fillE_c h0]
    have t0 : (ckC ls != 0) = true := by rw [bne_iff_ne]; exact h0
    clear h0
    go_enter Try.func27, Try.ntmps27
    go_wp2_with fail
    refine (cache_Check _ _ _ ls _ ((HL.out.alloc (Nat.le_refl _) _).more (by simp))).mono ?_
    rintro e w1 ⟨rfl, hb1⟩
    have hz1 := hb1.size
    (try simp only [World.size_alloc, World.size_setCell, World.size_drew] at hz1)
    have HB1 := Lib.hid hb1
    clear hb1
    go_wp2
    go_ret2
    exact ⟨rfl, by (repeat (first | (with_reducible exact Below.refl _ _) | (with_reducible refine Below.drew ?_) | (with_reducible refine bdrewN ?_ _) | ((with_reducible refine Below.setCell ?_ ?_ _); rotate_left; exact (by first | (simp; done) | (simp; omega) | omega)) | ((with_reducible refine Below.alloc ?_ ?_ _); rotate_left; exact (by first | (simp; done) | (simp; omega) | omega)) | ((with_reducible refine Below.trans ?_ (HB1.out.mono ?_)); rotate_left; exact (by first | (simp; done) | (simp; omega) | omega))))⟩
end Go.Proofs.Ytbopdijnojaaiab
