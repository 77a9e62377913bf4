/- Entries and contexts as words: the walk of the law EntryBack. Its row: the text RowEntryBack. -/
import Derived.Test.YtbopdijnojaaiaaEntryC
import Derived.Deep.DeepCutAuto
namespace Go.Proofs.Ytbopdijnojaaiaa
open Go.RowKit
set_option linter.unusedSimpArgs false
set_option linter.unusedVariables false

theorem ent_back1 {v r u l : Bool} {p : Int} (h : entE v r u l p = 0) : enV (entW v r u l p) = .tuple #[.agg #[.bool v, .bool r, .bool u, .bool l, .int .i64 p], .bool true] := by
  cases v
  · obtain ⟨hp, hf⟩ := entE_inv h
    unfold entF at hf
    simp only [Bool.not_false, Bool.true_and, Bool.not_eq_true', Bool.or_eq_false_iff, bne_eq_false_iff_eq] at hf
    obtain ⟨⟨⟨⟨⟨hr, hu⟩, hl⟩, hp0⟩, _⟩, _⟩ := hf
    subst hr; subst hu; subst hl; subst hp0
    rfl
  · obtain ⟨h1, h2, h3, h4, h5, h6⟩ := ent_back h rfl
    rw [enV_eq, h2, h3, h4, h5, h6, enG_K h2]; simp
theorem en_back2 {v : Int} (h : enG v = true) : entE true (bitI v 1) (bitI v 2) (bitI v 3) (v / 16 % 64) = 0 ∧ entW true (bitI v 1) (bitI v 2) (bitI v 3) (v / 16 % 64) = v := by
  have hg := h
  unfold enG at hg
  simp only [Bool.and_eq_true, Bool.not_eq_true'] at hg
  obtain ⟨⟨g1, g2⟩, g3⟩ := hg
  have hk : 0 ≤ v ∧ v < 1024 := by
    unfold enIn at g1; unfold enBad at g3
    simp only [Bool.and_eq_true, decide_eq_true_eq, Bool.or_eq_false_iff, bne_eq_false_iff_eq] at g1 g3
    obtain ⟨⟨g4, _⟩, _⟩ := g3
    omega
  refine entM_yes (k := v) ⟨by omega, by omega⟩ hk ?_
  unfold entM
  rw [enG_K h, h]
  have : enP v = v / 16 % 64 := by simp [enP, h]
  rw [this]; simp
theorem ctx_back1 {v s : Bool} {r : Int} (h : ctxE v s r = 0) : cxV (ctxW v s r) = .tuple #[.agg #[.bool v, .bool s, .int .i64 r], .bool true] := by
  obtain ⟨hp, hf⟩ := ctxE_inv h
  have hW := ctxW_0 h
  cases v
  · unfold ctxF at hf
    simp only [Bool.not_false, Bool.true_and, Bool.not_eq_true', Bool.or_eq_false_iff, bne_eq_false_iff_eq] at hf
    obtain ⟨⟨hs, hr⟩, _⟩ := hf
    subst hs; subst hr
    rfl
  · rw [hW]
    have hs01 := b2i_01 s
    generalize hN : 16 * r + b2i true + 2 * b2i s = N
    rw [b2i_t] at hN
    have e0 : bitI N 0 = true := by rw [bitI0, beq_iff_eq]; omega
    have e1 : bitI N 1 = s := by
      rw [bitI1]; cases s
      · rw [beq_eq_false_iff_ne]; simp only [b2i_f] at hN; omega
      · rw [beq_iff_eq]; simp only [b2i_t] at hN; omega
    have e2 : bitI N 2 = false := by rw [bitI2, beq_eq_false_iff_ne]; omega
    have e3 : bitI N 3 = false := by rw [bitI3, beq_eq_false_iff_ne]; omega
    have e4 : N / 16 % 64 = r := by omega
    have hbad : cxBad N = false := by
      unfold cxBad; rw [e1, e2, e3, e4]
      have : (N / 1024 != 0) = false := by rw [bne_eq_false_iff_eq]; omega
      rw [this]
      unfold ctxF at hf
      simp only [Bool.not_true, Bool.false_and, Bool.false_or, Bool.not_eq_true'] at hf
      simpa using hf
    have hg : cxG N = true := by
      unfold cxG; rw [e0, hbad]
      have : enIn N = true := by simp [enIn]; omega
      rw [this]; rfl
    have hR : cxR N = r := by simp [cxR, hg, e4]
    rw [cxV_eq, hg, cxG_K hg, e1, hR]; simp
theorem cx_back2 {v : Int} (h : cxG v = true) : ctxE true (bitI v 1) (v / 16 % 64) = 0 ∧ ctxW true (bitI v 1) (v / 16 % 64) = v := by
  have hg := h
  unfold cxG at hg
  simp only [Bool.and_eq_true, Bool.not_eq_true'] at hg
  obtain ⟨⟨g1, g2⟩, g3⟩ := hg
  unfold enIn at g1; unfold cxBad at g3
  simp only [Bool.and_eq_true, decide_eq_true_eq, Bool.or_eq_false_iff, bne_eq_false_iff_eq] at g1 g3
  obtain ⟨⟨⟨g4, g5⟩, g6⟩, g7⟩ := g3
  rw [bitI0, beq_iff_eq] at g2
  rw [bitI2, beq_eq_false_iff_ne] at g5
  rw [bitI3, beq_eq_false_iff_ne] at g6
  have hE : ctxE true (bitI v 1) (v / 16 % 64) = 0 := ctxE_0 ⟨by omega, by omega⟩ (by unfold ctxF; rw [g7]; rfl)
  refine ⟨hE, ?_⟩
  rw [ctxW_0 hE, b2i_t, bitI1]
  have a1 : b2i (v / 2 % 2 == 1) = v / 2 % 2 := by by_cases x : v / 2 % 2 = 1 <;> simp [b2i, x] <;> omega
  rw [a1]; omega

set_option maxRecDepth 100000 in
set_option maxHeartbeats 1000000 in
theorem law_parted (w : World) : Calls Try.prog 37 #[] w fun e w' => e = .returned (.bool true) ∧ Below w.heap.size w w' := by
  have c1 : enV 95 = .tuple #[.agg #[.bool true, .bool true, .bool true, .bool true, .int .i64 5], .bool true] := rfl
  have c2 : entW true true true true 5 = 95 := by decide
  have c3 : entE true true true true 5 = 0 := by decide
  have c4 : cxV 113 = .tuple #[.agg #[.bool true, .bool false, .int .i64 7], .bool true] := rfl
  have c5 : ctxW true false 7 = 113 := by decide
  have c6 : ctxE true false 7 = 0 := by decide
  have c7 : enV 5 = .tuple #[.agg #[.bool false, .bool false, .bool false, .bool false, .int .i64 0], .bool false] := rfl
  go_enter Try.func37, Try.ntmps37
  go_wp2_with fail
  refine (entry_Read _ _).mono ?_
  rintro e w1 ⟨rfl, hb1⟩
  have hz1 := hb1.size
  (try simp only [World.size_alloc, World.size_setCell, World.size_drew] at hz1)
  have HB1 := Lib.hid hb1
  clear hb1
  go_wp2_with fail
  refine (entry_Put _ _ _ _ _ _).mono ?_
  rintro e w2 ⟨rfl, hb2⟩
  have hz2 := hb2.size
  (try simp only [World.size_alloc, World.size_setCell, World.size_drew] at hz2)
  have k2_0 := fun o => (bcell hb2).1 (w1.heap.size) o (by first | (simp; done) | (simp; omega) | omega)
  have l2_0 : (w1.heap.size) < w2.heap.size := (by omega)
  have q2_0 := fun o => (bcell hb2).2 (w1.heap.size) o (by first | (simp; done) | (simp; omega) | omega)
  simp (maxDischargeDepth := 6) [go_sem, *] at k2_0 q2_0
  have HB2 := Lib.hid hb2
  clear hb2
  go_wp2_with fail
  refine (entry_ReadContext _ _).mono ?_
  rintro e w3 ⟨rfl, hb3⟩
  have hz3 := hb3.size
  (try simp only [World.size_alloc, World.size_setCell, World.size_drew] at hz3)
  have k3_0 := fun o => (bcell hb3).1 (w1.heap.size) o (by first | (simp; done) | (simp; omega) | omega)
  have l3_0 : (w1.heap.size) < w3.heap.size := (by omega)
  have q3_0 := fun o => (bcell hb3).2 (w1.heap.size) o (by first | (simp; done) | (simp; omega) | omega)
  simp (maxDischargeDepth := 6) [go_sem, *] at k3_0 q3_0
  have HB3 := Lib.hid hb3
  clear hb3
  go_wp2_with fail
  refine (entry_PutContext _ _ _ _).mono ?_
  rintro e w4 ⟨rfl, hb4⟩
  have hz4 := hb4.size
  (try simp only [World.size_alloc, World.size_setCell, World.size_drew] at hz4)
  have k4_0 := fun o => (bcell hb4).1 (w1.heap.size) o (by first | (simp; done) | (simp; omega) | omega)
  have l4_0 : (w1.heap.size) < w4.heap.size := (by omega)
  have q4_0 := fun o => (bcell hb4).2 (w1.heap.size) o (by first | (simp; done) | (simp; omega) | omega)
  have k4_1 := fun o => (bcell hb4).1 (w3.heap.size) o (by first | (simp; done) | (simp; omega) | omega)
  have l4_1 : (w3.heap.size) < w4.heap.size := (by omega)
  have q4_1 := fun o => (bcell hb4).2 (w3.heap.size) o (by first | (simp; done) | (simp; omega) | omega)
  simp (maxDischargeDepth := 6) [go_sem, *] at k4_0 q4_0 k4_1 q4_1
  have HB4 := Lib.hid hb4
  clear hb4
  go_wp2_with fail
  refine (entry_Read _ _).mono ?_
  rintro e w5 ⟨rfl, hb5⟩
  have hz5 := hb5.size
  (try simp only [World.size_alloc, World.size_setCell, World.size_drew] at hz5)
  have k5_0 := fun o => (bcell hb5).1 (w1.heap.size) o (by first | (simp; done) | (simp; omega) | omega)
  have l5_0 : (w1.heap.size) < w5.heap.size := (by omega)
  have q5_0 := fun o => (bcell hb5).2 (w1.heap.size) o (by first | (simp; done) | (simp; omega) | omega)
  have k5_1 := fun o => (bcell hb5).1 (w3.heap.size) o (by first | (simp; done) | (simp; omega) | omega)
  have l5_1 : (w3.heap.size) < w5.heap.size := (by omega)
  have q5_1 := fun o => (bcell hb5).2 (w3.heap.size) o (by first | (simp; done) | (simp; omega) | omega)
  simp (maxDischargeDepth := 6) [go_sem, *] at k5_0 q5_0 k5_1 q5_1
  have HB5 := Lib.hid hb5
  clear hb5
  go_wp2_with fail
  go_ret
  exact ⟨rfl, by (repeat (first | (with_reducible exact Below.refl _ _) | (with_reducible refine Below.drew ?_) | (with_reducible refine bdrewN ?_ _) | ((with_reducible refine Below.setCell ?_ ?_ _); rotate_left; exact (by first | (simp; done) | (simp; omega) | omega)) | ((with_reducible refine Below.alloc ?_ ?_ _); rotate_left; exact (by first | (simp; done) | (simp; omega) | omega)) | ((with_reducible refine Below.trans ?_ (HB1.out.mono ?_)); rotate_left; exact (by first | (simp; done) | (simp; omega) | omega)) | ((with_reducible refine Below.trans ?_ (HB2.out.mono ?_)); rotate_left; exact (by first | (simp; done) | (simp; omega) | omega)) | ((with_reducible refine Below.trans ?_ (HB3.out.mono ?_)); rotate_left; exact (by first | (simp; done) | (simp; omega) | omega)) | ((with_reducible refine Below.trans ?_ (HB4.out.mono ?_)); rotate_left; exact (by first | (simp; done) | (simp; omega) | omega)) | ((with_reducible refine Below.trans ?_ (HB5.out.mono ?_)); rotate_left; exact (by first | (simp; done) | (simp; omega) | omega))))⟩

set_option maxRecDepth 100000 in
set_option maxHeartbeats 4000000 in
theorem law_EntryBack (v r u l : Bool) (p : Int) (cv cs : Bool) (cr : Int) (x : Int) (w : World) : Calls Try.prog 9 #[.agg #[.bool v, .bool r, .bool u, .bool l, .int .i64 p], .agg #[.bool cv, .bool cs, .int .i64 cr], .int .i64 x] w fun e w' => e = .returned (.bool true) ∧ Below w.heap.size w w' := by
  go_enter Try.func9, Try.ntmps9
  go_wp2_with fail
  refine (entry_Put _ _ _ _ _ _).mono ?_
  rintro e w1 ⟨rfl, hb1⟩
  have hz1 := hb1.size
  (try simp only [World.size_alloc, World.size_setCell, World.size_drew] at hz1)
  have k1_0 := fun o => (bcell hb1).1 (w.heap.size) o (by first | (simp; done) | (simp; omega) | omega)
  have l1_0 : (w.heap.size) < w1.heap.size := (by omega)
  have q1_0 := fun o => (bcell hb1).2 (w.heap.size) o (by first | (simp; done) | (simp; omega) | omega)
  have k1_1 := fun o => (bcell hb1).1 (w.heap.size + 1) o (by first | (simp; done) | (simp; omega) | omega)
  have l1_1 : (w.heap.size + 1) < w1.heap.size := (by omega)
  have q1_1 := fun o => (bcell hb1).2 (w.heap.size + 1) o (by first | (simp; done) | (simp; omega) | omega)
  simp (maxDischargeDepth := 6) [go_sem, *] at k1_0 q1_0 k1_1 q1_1
  have HB1 := Lib.hid hb1
  clear hb1
  go_upto_if 29 with fail
  go_cut [] (fun wd => CutW w [(w.heap.size + 1, [.bool cv, .bool cs, .int .i64 cr])] wd)
  case first =>
    by_cases hE : entE v r u l p = 0
    · have hE1 : (entE v r u l p == 0) = true := by rw [beq_iff_eq]; exact hE
      have hV := ent_back1 hE
      clear hE
      go_wp2_with fail
      refine (entry_Read _ _).mono ?_
      rintro e w2 ⟨rfl, hb2⟩
      have hz2 := hb2.size
      (try simp only [World.size_alloc, World.size_setCell, World.size_drew] at hz2)
      have k2_0 := fun o => (bcell hb2).1 (w.heap.size) o (by first | (simp; done) | (simp; omega) | omega)
      have l2_0 : (w.heap.size) < w2.heap.size := (by omega)
      have q2_0 := fun o => (bcell hb2).2 (w.heap.size) o (by first | (simp; done) | (simp; omega) | omega)
      have k2_1 := fun o => (bcell hb2).1 (w.heap.size + 1) o (by first | (simp; done) | (simp; omega) | omega)
      have l2_1 : (w.heap.size + 1) < w2.heap.size := (by omega)
      have q2_1 := fun o => (bcell hb2).2 (w.heap.size + 1) o (by first | (simp; done) | (simp; omega) | omega)
      simp (maxDischargeDepth := 6) [go_sem, *] at k2_0 q2_0 k2_1 q2_1
      have HB2 := Lib.hid hb2
      clear hb2
      go_wp2_with fail
      go_meet
      exact ⟨by (repeat (first | (with_reducible exact Below.refl _ _) | (with_reducible refine Below.drew ?_) | (with_reducible refine bdrewN ?_ _) | ((with_reducible refine Below.setCell ?_ ?_ _); rotate_left; exact (by first | (simp; done) | (simp; omega) | omega)) | ((with_reducible refine Below.alloc ?_ ?_ _); rotate_left; exact (by first | (simp; done) | (simp; omega) | omega)) | ((with_reducible refine Below.trans ?_ (HB2.out.mono ?_)); rotate_left; exact (by first | (simp; done) | (simp; omega) | omega)) | ((with_reducible refine Below.trans ?_ (HB1.out.mono ?_)); rotate_left; exact (by first | (simp; done) | (simp; omega) | omega)))), ⟨by simp; omega, by intro o; simp [go_sem, *]⟩, trivial⟩
    · have hE1 : (entE v r u l p == 0) = false := by rw [beq_eq_false_iff_ne]; exact hE
      clear hE
      go_wp2_with fail
      go_meet
      exact ⟨by (repeat (first | (with_reducible exact Below.refl _ _) | (with_reducible refine Below.drew ?_) | (with_reducible refine bdrewN ?_ _) | ((with_reducible refine Below.setCell ?_ ?_ _); rotate_left; exact (by first | (simp; done) | (simp; omega) | omega)) | ((with_reducible refine Below.alloc ?_ ?_ _); rotate_left; exact (by first | (simp; done) | (simp; omega) | omega)) | ((with_reducible refine Below.trans ?_ (HB1.out.mono ?_)); rotate_left; exact (by first | (simp; done) | (simp; omega) | omega)))), ⟨l1_1, k1_1⟩, trivial⟩
  case rest =>
    obtain ⟨hb0', ⟨l0, k0⟩, _⟩ := hcut
    have hb0z := hb0'.size
    have hb0 := Lib.hid hb0'
    clear hb0' k1_0 k1_1 q1_0 q1_1
    go_wp2_with fail
    refine (entry_PutContext _ _ _ _).mono ?_
    rintro e w3 ⟨rfl, hb3⟩
    have hz3 := hb3.size
    (try simp only [World.size_alloc, World.size_setCell, World.size_drew] at hz3)
    have k3_0 := fun o => (bcell hb3).1 (w.heap.size + 1) o (by first | (simp; done) | (simp; omega) | omega)
    have l3_0 : (w.heap.size + 1) < w3.heap.size := (by omega)
    have q3_0 := fun o => (bcell hb3).2 (w.heap.size + 1) o (by first | (simp; done) | (simp; omega) | omega)
    simp (maxDischargeDepth := 6) [go_sem, *] at k3_0 q3_0
    have HB3 := Lib.hid hb3
    clear hb3
    go_upto_if 48 with fail
    go_cut [] (fun wd => CutW w [] wd)
    case first =>
      by_cases hE : ctxE cv cs cr = 0
      · have hE1 : (ctxE cv cs cr == 0) = true := by rw [beq_iff_eq]; exact hE
        have hV := ctx_back1 hE
        clear hE
        go_wp2_with fail
        refine (entry_ReadContext _ _).mono ?_
        rintro e w4 ⟨rfl, hb4⟩
        have hz4 := hb4.size
        (try simp only [World.size_alloc, World.size_setCell, World.size_drew] at hz4)
        have k4_0 := fun o => (bcell hb4).1 (w.heap.size + 1) o (by first | (simp; done) | (simp; omega) | omega)
        have l4_0 : (w.heap.size + 1) < w4.heap.size := (by omega)
        have q4_0 := fun o => (bcell hb4).2 (w.heap.size + 1) o (by first | (simp; done) | (simp; omega) | omega)
        simp (maxDischargeDepth := 6) [go_sem, *] at k4_0 q4_0
        have HB4 := Lib.hid hb4
        clear hb4
        go_wp2_with fail
        go_meet
        exact ⟨by (repeat (first | (with_reducible exact Below.refl _ _) | (with_reducible refine Below.drew ?_) | (with_reducible refine bdrewN ?_ _) | ((with_reducible refine Below.setCell ?_ ?_ _); rotate_left; exact (by first | (simp; done) | (simp; omega) | omega)) | ((with_reducible refine Below.alloc ?_ ?_ _); rotate_left; exact (by first | (simp; done) | (simp; omega) | omega)) | ((with_reducible refine Below.trans ?_ (HB4.out.mono ?_)); rotate_left; exact (by first | (simp; done) | (simp; omega) | omega)) | ((with_reducible refine Below.trans ?_ (HB3.out.mono ?_)); rotate_left; exact (by first | (simp; done) | (simp; omega) | omega)) | ((with_reducible refine Below.trans ?_ (hb0.out.mono ?_)); rotate_left; exact (by first | (simp; done) | (simp; omega) | omega)))), trivial⟩
      · have hE1 : (ctxE cv cs cr == 0) = false := by rw [beq_eq_false_iff_ne]; exact hE
        clear hE
        go_wp2_with fail
        go_meet
        exact ⟨by (repeat (first | (with_reducible exact Below.refl _ _) | (with_reducible refine Below.drew ?_) | (with_reducible refine bdrewN ?_ _) | ((with_reducible refine Below.setCell ?_ ?_ _); rotate_left; exact (by first | (simp; done) | (simp; omega) | omega)) | ((with_reducible refine Below.alloc ?_ ?_ _); rotate_left; exact (by first | (simp; done) | (simp; omega) | omega)) | ((with_reducible refine Below.trans ?_ (HB3.out.mono ?_)); rotate_left; exact (by first | (simp; done) | (simp; omega) | omega)) | ((with_reducible refine Below.trans ?_ (hb0.out.mono ?_)); rotate_left; exact (by first | (simp; done) | (simp; omega) | omega)))), trivial⟩
    case rest =>
      obtain ⟨hb1', _⟩ := hcut
      have hb1z := hb1'.size
      have hb1 := Lib.hid hb1'
      clear hb1' k3_0 q3_0 k0
      have hV := enV_eq x
      have hW := cxV_eq x
      by_cases hG : enG x = true
      · obtain ⟨a1, a2⟩ := en_back2 hG
        have a3 := enG_K hG
        have a4 : enP x = x / 16 % 64 := by simp [enP, hG]
        by_cases hC : cxG x = true
        · obtain ⟨b1, b2⟩ := cx_back2 hC
          have b3 := cxG_K hC
          have b4 : cxR x = x / 16 % 64 := by simp [cxR, hC]
          go_wp2_with fail
          refine (entry_Read _ _).mono ?_
          rintro e w5 ⟨rfl, hb5⟩
          have hz5 := hb5.size
          (try simp only [World.size_alloc, World.size_setCell, World.size_drew] at hz5)
          have HB5 := Lib.hid hb5
          clear hb5
          go_wp2_with fail
          refine (entry_Put _ _ _ _ _ _).mono ?_
          rintro e w6 ⟨rfl, hb6⟩
          have hz6 := hb6.size
          (try simp only [World.size_alloc, World.size_setCell, World.size_drew] at hz6)
          have HB6 := Lib.hid hb6
          clear hb6
          go_wp2_with fail
          refine (entry_ReadContext _ _).mono ?_
          rintro e w7 ⟨rfl, hb7⟩
          have hz7 := hb7.size
          (try simp only [World.size_alloc, World.size_setCell, World.size_drew] at hz7)
          have HB7 := Lib.hid hb7
          clear hb7
          go_wp2_with fail
          refine (entry_PutContext _ _ _ _).mono ?_
          rintro e w8 ⟨rfl, hb8⟩
          have hz8 := hb8.size
          (try simp only [World.size_alloc, World.size_setCell, World.size_drew] at hz8)
          have HB8 := Lib.hid hb8
          clear hb8
          go_wp2_with fail
          refine (law_parted _).mono ?_
          rintro e w9 ⟨rfl, hb9⟩
          have hz9 := hb9.size
          (try simp only [World.size_alloc, World.size_setCell, World.size_drew] at hz9)
          have HB9 := Lib.hid hb9
          clear hb9
          go_wp2_with fail
          go_ret
          exact ⟨rfl, by (repeat (first | (with_reducible exact Below.refl _ _) | (with_reducible refine Below.drew ?_) | (with_reducible refine bdrewN ?_ _) | ((with_reducible refine Below.setCell ?_ ?_ _); rotate_left; exact (by first | (simp; done) | (simp; omega) | omega)) | ((with_reducible refine Below.alloc ?_ ?_ _); rotate_left; exact (by first | (simp; done) | (simp; omega) | omega)) | ((with_reducible refine Below.trans ?_ (HB9.out.mono ?_)); rotate_left; exact (by first | (simp; done) | (simp; omega) | omega)) | ((with_reducible refine Below.trans ?_ (HB8.out.mono ?_)); rotate_left; exact (by first | (simp; done) | (simp; omega) | omega)) | ((with_reducible refine Below.trans ?_ (HB7.out.mono ?_)); rotate_left; exact (by first | (simp; done) | (simp; omega) | omega)) | ((with_reducible refine Below.trans ?_ (HB6.out.mono ?_)); rotate_left; exact (by first | (simp; done) | (simp; omega) | omega)) | ((with_reducible refine Below.trans ?_ (HB5.out.mono ?_)); rotate_left; exact (by first | (simp; done) | (simp; omega) | omega)) | ((with_reducible refine Below.trans ?_ (hb1.out.mono ?_)); rotate_left; exact (by first | (simp; done) | (simp; omega) | omega))))⟩
        · have hC' : cxG x = false := by simpa using hC
          clear hC
          cases hk2 : cxK x
          all_goals
            go_wp2_with fail
            refine (entry_Read _ _).mono ?_
            rintro e w5 ⟨rfl, hb5⟩
            have hz5 := hb5.size
            (try simp only [World.size_alloc, World.size_setCell, World.size_drew] at hz5)
            have HB5 := Lib.hid hb5
            clear hb5
            go_wp2_with fail
            refine (entry_Put _ _ _ _ _ _).mono ?_
            rintro e w6 ⟨rfl, hb6⟩
            have hz6 := hb6.size
            (try simp only [World.size_alloc, World.size_setCell, World.size_drew] at hz6)
            have HB6 := Lib.hid hb6
            clear hb6
            go_wp2_with fail
            refine (entry_ReadContext _ _).mono ?_
            rintro e w7 ⟨rfl, hb7⟩
            have hz7 := hb7.size
            (try simp only [World.size_alloc, World.size_setCell, World.size_drew] at hz7)
            have HB7 := Lib.hid hb7
            clear hb7
            go_wp2_with fail
            refine (law_parted _).mono ?_
            rintro e w9 ⟨rfl, hb9⟩
            have hz9 := hb9.size
            (try simp only [World.size_alloc, World.size_setCell, World.size_drew] at hz9)
            have HB9 := Lib.hid hb9
            clear hb9
            go_wp2_with fail
            go_ret
            exact ⟨rfl, by (repeat (first | (with_reducible exact Below.refl _ _) | (with_reducible refine Below.drew ?_) | (with_reducible refine bdrewN ?_ _) | ((with_reducible refine Below.setCell ?_ ?_ _); rotate_left; exact (by first | (simp; done) | (simp; omega) | omega)) | ((with_reducible refine Below.alloc ?_ ?_ _); rotate_left; exact (by first | (simp; done) | (simp; omega) | omega)) | ((with_reducible refine Below.trans ?_ (HB9.out.mono ?_)); rotate_left; exact (by first | (simp; done) | (simp; omega) | omega)) | ((with_reducible refine Below.trans ?_ (HB7.out.mono ?_)); rotate_left; exact (by first | (simp; done) | (simp; omega) | omega)) | ((with_reducible refine Below.trans ?_ (HB6.out.mono ?_)); rotate_left; exact (by first | (simp; done) | (simp; omega) | omega)) | ((with_reducible refine Below.trans ?_ (HB5.out.mono ?_)); rotate_left; exact (by first | (simp; done) | (simp; omega) | omega)) | ((with_reducible refine Below.trans ?_ (hb1.out.mono ?_)); rotate_left; exact (by first | (simp; done) | (simp; omega) | omega))))⟩
      · have hG' : enG x = false := by simpa using hG
        have a4 : enP x = 0 := by simp [enP, hG']
        clear hG
        by_cases hC : cxG x = true
        · obtain ⟨b1, b2⟩ := cx_back2 hC
          have b3 := cxG_K hC
          have b4 : cxR x = x / 16 % 64 := by simp [cxR, hC]
          cases hk : enK x
          all_goals
            go_wp2_with fail
            refine (entry_Read _ _).mono ?_
            rintro e w5 ⟨rfl, hb5⟩
            have hz5 := hb5.size
            (try simp only [World.size_alloc, World.size_setCell, World.size_drew] at hz5)
            have HB5 := Lib.hid hb5
            clear hb5
            go_wp2_with fail
            refine (entry_ReadContext _ _).mono ?_
            rintro e w7 ⟨rfl, hb7⟩
            have hz7 := hb7.size
            (try simp only [World.size_alloc, World.size_setCell, World.size_drew] at hz7)
            have HB7 := Lib.hid hb7
            clear hb7
            go_wp2_with fail
            refine (entry_PutContext _ _ _ _).mono ?_
            rintro e w8 ⟨rfl, hb8⟩
            have hz8 := hb8.size
            (try simp only [World.size_alloc, World.size_setCell, World.size_drew] at hz8)
            have HB8 := Lib.hid hb8
            clear hb8
            go_wp2_with fail
            refine (law_parted _).mono ?_
            rintro e w9 ⟨rfl, hb9⟩
            have hz9 := hb9.size
            (try simp only [World.size_alloc, World.size_setCell, World.size_drew] at hz9)
            have HB9 := Lib.hid hb9
            clear hb9
            go_wp2_with fail
            go_ret
            exact ⟨rfl, by (repeat (first | (with_reducible exact Below.refl _ _) | (with_reducible refine Below.drew ?_) | (with_reducible refine bdrewN ?_ _) | ((with_reducible refine Below.setCell ?_ ?_ _); rotate_left; exact (by first | (simp; done) | (simp; omega) | omega)) | ((with_reducible refine Below.alloc ?_ ?_ _); rotate_left; exact (by first | (simp; done) | (simp; omega) | omega)) | ((with_reducible refine Below.trans ?_ (HB9.out.mono ?_)); rotate_left; exact (by first | (simp; done) | (simp; omega) | omega)) | ((with_reducible refine Below.trans ?_ (HB8.out.mono ?_)); rotate_left; exact (by first | (simp; done) | (simp; omega) | omega)) | ((with_reducible refine Below.trans ?_ (HB7.out.mono ?_)); rotate_left; exact (by first | (simp; done) | (simp; omega) | omega)) | ((with_reducible refine Below.trans ?_ (HB5.out.mono ?_)); rotate_left; exact (by first | (simp; done) | (simp; omega) | omega)) | ((with_reducible refine Below.trans ?_ (hb1.out.mono ?_)); rotate_left; exact (by first | (simp; done) | (simp; omega) | omega))))⟩
        · have hC' : cxG x = false := by simpa using hC
          clear hC
          cases hk : enK x
          all_goals cases hk2 : cxK x
          all_goals
            go_wp2_with fail
            refine (entry_Read _ _).mono ?_
            rintro e w5 ⟨rfl, hb5⟩
            have hz5 := hb5.size
            (try simp only [World.size_alloc, World.size_setCell, World.size_drew] at hz5)
            have HB5 := Lib.hid hb5
            clear hb5
            go_wp2_with fail
            refine (entry_ReadContext _ _).mono ?_
            rintro e w7 ⟨rfl, hb7⟩
            have hz7 := hb7.size
            (try simp only [World.size_alloc, World.size_setCell, World.size_drew] at hz7)
            have HB7 := Lib.hid hb7
            clear hb7
            go_wp2_with fail
            refine (law_parted _).mono ?_
            rintro e w9 ⟨rfl, hb9⟩
            have hz9 := hb9.size
            (try simp only [World.size_alloc, World.size_setCell, World.size_drew] at hz9)
            have HB9 := Lib.hid hb9
            clear hb9
            go_wp2_with fail
            go_ret
            exact ⟨rfl, by (repeat (first | (with_reducible exact Below.refl _ _) | (with_reducible refine Below.drew ?_) | (with_reducible refine bdrewN ?_ _) | ((with_reducible refine Below.setCell ?_ ?_ _); rotate_left; exact (by first | (simp; done) | (simp; omega) | omega)) | ((with_reducible refine Below.alloc ?_ ?_ _); rotate_left; exact (by first | (simp; done) | (simp; omega) | omega)) | ((with_reducible refine Below.trans ?_ (HB9.out.mono ?_)); rotate_left; exact (by first | (simp; done) | (simp; omega) | omega)) | ((with_reducible refine Below.trans ?_ (HB7.out.mono ?_)); rotate_left; exact (by first | (simp; done) | (simp; omega) | omega)) | ((with_reducible refine Below.trans ?_ (HB5.out.mono ?_)); rotate_left; exact (by first | (simp; done) | (simp; omega) | omega)) | ((with_reducible refine Below.trans ?_ (hb1.out.mono ?_)); rotate_left; exact (by first | (simp; done) | (simp; omega) | omega))))⟩
end Go.Proofs.Ytbopdijnojaaiaa
