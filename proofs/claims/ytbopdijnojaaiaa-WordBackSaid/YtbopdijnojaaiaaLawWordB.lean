/- Orders and faults as words: the walk of the law WordBack. Its row: the text RowWordBack. -/
import Derived.Test.YtbopdijnojaaiaaLawWord
import Derived.Deep.DeepCutAuto
namespace Go.Proofs.Ytbopdijnojaaiaa
open Go.RowKit
set_option linter.unusedSimpArgs false
set_option linter.unusedVariables false

theorem ord_back1 {k d p : Int} (h : ordE k d p = 0) : rdoV (ordW k d p) = .tuple #[.agg #[.int .i64 k, .int .i64 d, .int .i64 p], .int .i64 0] := by
  have h0 := h
  obtain ⟨⟨h1, h2, h3, h4, h5, h6⟩, hf⟩ := ordE_inv h
  rw [ordW_0 h]
  have e1 : (k + 4 * d + 32 * p) % 4 = k := by omega
  have e2 : (k + 4 * d + 32 * p) / 4 % 8 = d := by omega
  have e3 : (k + 4 * d + 32 * p) / 32 = p := by omega
  have hE : rdoE (k + 4 * d + 32 * p) = 0 := rdoE_0 (by omega) (by rw [e1, e2, e3]; exact h0)
  rw [rdoV_eq, rdoF_0 hE, rdoF_0 hE, rdoF_0 hE, hE, e1, e2, e3]
theorem ord_inj {k d p k' d' p' : Int} (h : ordE k d p = 0) (h' : ordE k' d' p' = 0) (hw : ordW k d p = ordW k' d' p') : k = k' ∧ d = d' ∧ p = p' := by
  obtain ⟨⟨h1, h2, h3, h4, h5, h6⟩, _⟩ := ordE_inv h
  obtain ⟨⟨g1, g2, g3, g4, g5, g6⟩, _⟩ := ordE_inv h'
  rw [ordW_0 h, ordW_0 h'] at hw
  omega
theorem ord_back2 {v : Int} (h : rdoE v = 0) : ordW (v % 4) (v / 4 % 8) (v / 32) = v := by
  obtain ⟨hr, h0⟩ := rdoE_inv h
  rw [ordW_0 h0]; omega
theorem flt_back1 {c d p : Int} {r : Bool} (h : fltE c d p = 0) : rdfV (fltW c d p r) = .tuple #[.agg #[.int .i64 c, .int .i64 d, .int .i64 p, .bool r], .int .i64 0] := by
  have h0 := h
  have hR := fltE_inv h
  obtain ⟨h1, h2, h3, h4, h5, h6⟩ := hR
  rw [fltW_0 h]
  generalize hN : c + 8 * d + 64 * p + (if r = true then 4096 else 0) = N
  have hr : (r = true ∧ N = c + 8 * d + 64 * p + 4096) ∨ (r = false ∧ N = c + 8 * d + 64 * p) := by cases r <;> simp at hN <;> simp <;> omega
  have e1 : N % 8 = c := by omega
  have e2 : N / 8 % 8 = d := by omega
  have e3 : N / 64 % 64 = p := by omega
  have e4 : (N / 4096 == 1) = r := by
    rcases hr with ⟨hr, hn⟩ | ⟨hr, hn⟩
    · rw [hr, beq_iff_eq]; omega
    · rw [hr, beq_eq_false_iff_ne]; omega
  have hE : rdfE N = 0 := rdfE_0 (by omega) ⟨by rw [e1, e2, e3]; exact h0, by omega⟩
  rw [rdfV_eq, rdfF_0 hE, rdfF_0 hE, rdfF_0 hE, rdfB_0 hE, hE, e1, e2, e3, e4]
theorem flt_back2 {v : Int} (h : rdfE v = 0) : fltE (v % 8) (v / 8 % 8) (v / 64 % 64) = 0 ∧ fltW (v % 8) (v / 8 % 8) (v / 64 % 64) (v / 4096 == 1) = v := by
  obtain ⟨hr, h0⟩ := rdfE_inv h
  have := (rdf_prog hr).1 h0
  rw [rdf_bit ⟨hr.1, h0.2⟩] at this
  exact this

set_option maxRecDepth 100000 in
set_option maxHeartbeats 1000000 in
theorem law_WordBack (k d p k' d' p' c e q : Int) (r : Bool) (v : Int) (w : World) : Calls Try.prog 7 #[.agg #[.int .i64 k, .int .i64 d, .int .i64 p], .agg #[.int .i64 k', .int .i64 d', .int .i64 p'], .agg #[.int .i64 c, .int .i64 e, .int .i64 q, .bool r], .int .i64 v] w fun e w' => e = .returned (.bool true) ∧ Below w.heap.size w w' := by
  go_enter Try.func7, Try.ntmps7
  go_wp2_with fail
  refine (word_PutOrder _ _ _ _).mono ?_
  rintro e w1 ⟨rfl, hb1⟩
  have hz1 := hb1.size
  (try simp only [World.size_alloc, World.size_setCell, World.size_drew] at hz1)
  have k1_0 := fun o => (bcell hb1).1 (w.heap.size) o (by first | (simp; done) | (simp; omega) | omega)
  have l1_0 : (w.heap.size) < w1.heap.size := (by omega)
  have q1_0 := fun o => (bcell hb1).2 (w.heap.size) o (by first | (simp; done) | (simp; omega) | omega)
  have k1_1 := fun o => (bcell hb1).1 (w.heap.size + 1) o (by first | (simp; done) | (simp; omega) | omega)
  have l1_1 : (w.heap.size + 1) < w1.heap.size := (by omega)
  have q1_1 := fun o => (bcell hb1).2 (w.heap.size + 1) o (by first | (simp; done) | (simp; omega) | omega)
  have k1_2 := fun o => (bcell hb1).1 (w.heap.size + 1 + 1) o (by first | (simp; done) | (simp; omega) | omega)
  have l1_2 : (w.heap.size + 1 + 1) < w1.heap.size := (by omega)
  have q1_2 := fun o => (bcell hb1).2 (w.heap.size + 1 + 1) o (by first | (simp; done) | (simp; omega) | omega)
  simp (maxDischargeDepth := 6) [go_sem, *] at k1_0 q1_0 k1_1 q1_1 k1_2 q1_2
  have HB1 := Lib.hid hb1
  clear hb1
  go_wp2_with fail
  refine (word_PutOrder _ _ _ _).mono ?_
  rintro e w2 ⟨rfl, hb2⟩
  have hz2 := hb2.size
  (try simp only [World.size_alloc, World.size_setCell, World.size_drew] at hz2)
  have k2_0 := fun o => (bcell hb2).1 (w.heap.size) o (by first | (simp; done) | (simp; omega) | omega)
  have l2_0 : (w.heap.size) < w2.heap.size := (by omega)
  have q2_0 := fun o => (bcell hb2).2 (w.heap.size) o (by first | (simp; done) | (simp; omega) | omega)
  have k2_1 := fun o => (bcell hb2).1 (w.heap.size + 1) o (by first | (simp; done) | (simp; omega) | omega)
  have l2_1 : (w.heap.size + 1) < w2.heap.size := (by omega)
  have q2_1 := fun o => (bcell hb2).2 (w.heap.size + 1) o (by first | (simp; done) | (simp; omega) | omega)
  have k2_2 := fun o => (bcell hb2).1 (w.heap.size + 1 + 1) o (by first | (simp; done) | (simp; omega) | omega)
  have l2_2 : (w.heap.size + 1 + 1) < w2.heap.size := (by omega)
  have q2_2 := fun o => (bcell hb2).2 (w.heap.size + 1 + 1) o (by first | (simp; done) | (simp; omega) | omega)
  simp (maxDischargeDepth := 6) [go_sem, *] at k2_0 q2_0 k2_1 q2_1 k2_2 q2_2
  have HB2 := Lib.hid hb2
  clear hb2
  go_upto_region 3 with fail
  go_cut [55] (fun s wc => s = .bool false ∧ CutW w [(w.heap.size, [.int .i64 k, .int .i64 d, .int .i64 p]), (w.heap.size + 1 + 1, [.int .i64 c, .int .i64 e, .int .i64 q, .bool r])] wc)
  case first =>
    go_wp2_with fail
    refine (law_worded _).mono ?_
    rintro e w3 ⟨rfl, hb3⟩
    have hz3 := hb3.size
    (try simp only [World.size_alloc, World.size_setCell, World.size_drew] at hz3)
    have k3_0 := fun o => (bcell hb3).1 (w.heap.size) o (by first | (simp; done) | (simp; omega) | omega)
    have l3_0 : (w.heap.size) < w3.heap.size := (by omega)
    have q3_0 := fun o => (bcell hb3).2 (w.heap.size) o (by first | (simp; done) | (simp; omega) | omega)
    have k3_1 := fun o => (bcell hb3).1 (w.heap.size + 1) o (by first | (simp; done) | (simp; omega) | omega)
    have l3_1 : (w.heap.size + 1) < w3.heap.size := (by omega)
    have q3_1 := fun o => (bcell hb3).2 (w.heap.size + 1) o (by first | (simp; done) | (simp; omega) | omega)
    have k3_2 := fun o => (bcell hb3).1 (w.heap.size + 1 + 1) o (by first | (simp; done) | (simp; omega) | omega)
    have l3_2 : (w.heap.size + 1 + 1) < w3.heap.size := (by omega)
    have q3_2 := fun o => (bcell hb3).2 (w.heap.size + 1 + 1) o (by first | (simp; done) | (simp; omega) | omega)
    simp (maxDischargeDepth := 6) [go_sem, *] at k3_0 q3_0 k3_1 q3_1 k3_2 q3_2
    have HB3 := Lib.hid hb3
    clear hb3
    by_cases hE : ordE k d p = 0
    · have hE1 : (ordE k d p == 0) = true := by rw [beq_iff_eq]; exact hE
      have HE := Lib.hid hE; clear hE
      by_cases hG : ordE k' d' p' = 0
      · have hG1 : (ordE k' d' p' == 0) = true := by rw [beq_iff_eq]; exact hG
        have HG := Lib.hid hG; clear hG
        by_cases he : k = k' ∧ d = d' ∧ p = p'
        · obtain ⟨rfl, rfl, rfl⟩ := he
          go_wp2_with fail
          go_meet
          exact ⟨rfl, by (repeat (first | (with_reducible exact Below.refl _ _) | (with_reducible refine Below.drew ?_) | ((with_reducible refine Below.setCell ?_ ?_ _); rotate_left; exact (by first | (simp; done) | (simp; omega) | omega)) | ((with_reducible refine Below.alloc ?_ ?_ _); rotate_left; exact (by first | (simp; done) | (simp; omega) | omega)) | ((with_reducible refine Below.trans ?_ (HB1.out.mono ?_)); rotate_left; exact (by first | (simp; done) | (simp; omega) | omega)) | ((with_reducible refine Below.trans ?_ (HB2.out.mono ?_)); rotate_left; exact (by first | (simp; done) | (simp; omega) | omega)) | ((with_reducible refine Below.trans ?_ (HB3.out.mono ?_)); rotate_left; exact (by first | (simp; done) | (simp; omega) | omega)))), ⟨l3_0, k3_0⟩, ⟨l3_2, k3_2⟩, trivial⟩
        · have hn : (ordW k d p == ordW k' d' p') = false := by rw [beq_eq_false_iff_ne]; exact fun h => he (ord_inj HE.out HG.out h)
          have HN := Lib.hid he; clear he
          by_cases x1 : k = k'
          · subst x1
            by_cases x2 : d = d'
            · subst x2
              have y : (p == p') = false := by rw [beq_eq_false_iff_ne]; exact fun h => HN.out ⟨rfl, rfl, h⟩
              go_wp2_with fail
              go_meet
              exact ⟨rfl, by (repeat (first | (with_reducible exact Below.refl _ _) | (with_reducible refine Below.drew ?_) | ((with_reducible refine Below.setCell ?_ ?_ _); rotate_left; exact (by first | (simp; done) | (simp; omega) | omega)) | ((with_reducible refine Below.alloc ?_ ?_ _); rotate_left; exact (by first | (simp; done) | (simp; omega) | omega)) | ((with_reducible refine Below.trans ?_ (HB1.out.mono ?_)); rotate_left; exact (by first | (simp; done) | (simp; omega) | omega)) | ((with_reducible refine Below.trans ?_ (HB2.out.mono ?_)); rotate_left; exact (by first | (simp; done) | (simp; omega) | omega)) | ((with_reducible refine Below.trans ?_ (HB3.out.mono ?_)); rotate_left; exact (by first | (simp; done) | (simp; omega) | omega)))), ⟨l3_0, k3_0⟩, ⟨l3_2, k3_2⟩, trivial⟩
            · have y : (d == d') = false := by rw [beq_eq_false_iff_ne]; exact x2
              clear x2
              go_wp2_with fail
              go_meet
              exact ⟨rfl, by (repeat (first | (with_reducible exact Below.refl _ _) | (with_reducible refine Below.drew ?_) | ((with_reducible refine Below.setCell ?_ ?_ _); rotate_left; exact (by first | (simp; done) | (simp; omega) | omega)) | ((with_reducible refine Below.alloc ?_ ?_ _); rotate_left; exact (by first | (simp; done) | (simp; omega) | omega)) | ((with_reducible refine Below.trans ?_ (HB1.out.mono ?_)); rotate_left; exact (by first | (simp; done) | (simp; omega) | omega)) | ((with_reducible refine Below.trans ?_ (HB2.out.mono ?_)); rotate_left; exact (by first | (simp; done) | (simp; omega) | omega)) | ((with_reducible refine Below.trans ?_ (HB3.out.mono ?_)); rotate_left; exact (by first | (simp; done) | (simp; omega) | omega)))), ⟨l3_0, k3_0⟩, ⟨l3_2, k3_2⟩, trivial⟩
          · have y : (k == k') = false := by rw [beq_eq_false_iff_ne]; exact x1
            clear x1
            go_wp2_with fail
            go_meet
            exact ⟨rfl, by (repeat (first | (with_reducible exact Below.refl _ _) | (with_reducible refine Below.drew ?_) | ((with_reducible refine Below.setCell ?_ ?_ _); rotate_left; exact (by first | (simp; done) | (simp; omega) | omega)) | ((with_reducible refine Below.alloc ?_ ?_ _); rotate_left; exact (by first | (simp; done) | (simp; omega) | omega)) | ((with_reducible refine Below.trans ?_ (HB1.out.mono ?_)); rotate_left; exact (by first | (simp; done) | (simp; omega) | omega)) | ((with_reducible refine Below.trans ?_ (HB2.out.mono ?_)); rotate_left; exact (by first | (simp; done) | (simp; omega) | omega)) | ((with_reducible refine Below.trans ?_ (HB3.out.mono ?_)); rotate_left; exact (by first | (simp; done) | (simp; omega) | omega)))), ⟨l3_0, k3_0⟩, ⟨l3_2, k3_2⟩, trivial⟩
      · have hG1 : (ordE k' d' p' == 0) = false := by rw [beq_eq_false_iff_ne]; exact hG
        clear hG
        go_wp2_with fail
        go_meet
        exact ⟨rfl, by (repeat (first | (with_reducible exact Below.refl _ _) | (with_reducible refine Below.drew ?_) | ((with_reducible refine Below.setCell ?_ ?_ _); rotate_left; exact (by first | (simp; done) | (simp; omega) | omega)) | ((with_reducible refine Below.alloc ?_ ?_ _); rotate_left; exact (by first | (simp; done) | (simp; omega) | omega)) | ((with_reducible refine Below.trans ?_ (HB1.out.mono ?_)); rotate_left; exact (by first | (simp; done) | (simp; omega) | omega)) | ((with_reducible refine Below.trans ?_ (HB2.out.mono ?_)); rotate_left; exact (by first | (simp; done) | (simp; omega) | omega)) | ((with_reducible refine Below.trans ?_ (HB3.out.mono ?_)); rotate_left; exact (by first | (simp; done) | (simp; omega) | omega)))), ⟨l3_0, k3_0⟩, ⟨l3_2, k3_2⟩, trivial⟩
    · have hE1 : (ordE k d p == 0) = false := by rw [beq_eq_false_iff_ne]; exact hE
      clear hE
      go_wp2_with fail
      go_meet
      exact ⟨rfl, by (repeat (first | (with_reducible exact Below.refl _ _) | (with_reducible refine Below.drew ?_) | ((with_reducible refine Below.setCell ?_ ?_ _); rotate_left; exact (by first | (simp; done) | (simp; omega) | omega)) | ((with_reducible refine Below.alloc ?_ ?_ _); rotate_left; exact (by first | (simp; done) | (simp; omega) | omega)) | ((with_reducible refine Below.trans ?_ (HB1.out.mono ?_)); rotate_left; exact (by first | (simp; done) | (simp; omega) | omega)) | ((with_reducible refine Below.trans ?_ (HB2.out.mono ?_)); rotate_left; exact (by first | (simp; done) | (simp; omega) | omega)) | ((with_reducible refine Below.trans ?_ (HB3.out.mono ?_)); rotate_left; exact (by first | (simp; done) | (simp; omega) | omega)))), ⟨l3_0, k3_0⟩, ⟨l3_2, k3_2⟩, trivial⟩
  case rest =>
    obtain ⟨rfl, hb0', ⟨l0, k0⟩, ⟨l1, k1⟩, _⟩ := hcut
    have hb0z := hb0'.size
    have hb0 := Lib.hid hb0'; clear hb0'
    clear k1_0 q1_0 k1_1 q1_1 k1_2 q1_2 k2_0 q2_0 k2_1 q2_1 k2_2 q2_2
    go_upto_if 57 with fail
    go_cut [] (fun wd => CutW w [(w.heap.size + 1 + 1, [.int .i64 c, .int .i64 e, .int .i64 q, .bool r])] wd)
    case first =>
      by_cases hE : ordE k d p = 0
      · have hE1 : (ordE k d p == 0) = true := by rw [beq_iff_eq]; exact hE
        have hV := ord_back1 hE
        have HE := Lib.hid hE; clear hE
        go_wp2_with fail
        refine (word_ReadOrder _ _).mono ?_
        rintro e w4 ⟨rfl, hb4⟩
        have hz4 := hb4.size
        (try simp only [World.size_alloc, World.size_setCell, World.size_drew] at hz4)
        have k4_0 := fun o => (bcell hb4).1 (w.heap.size) o (by first | (simp; done) | (simp; omega) | omega)
        have l4_0 : (w.heap.size) < w4.heap.size := (by omega)
        have q4_0 := fun o => (bcell hb4).2 (w.heap.size) o (by first | (simp; done) | (simp; omega) | omega)
        have k4_1 := fun o => (bcell hb4).1 (w.heap.size + 1 + 1) o (by first | (simp; done) | (simp; omega) | omega)
        have l4_1 : (w.heap.size + 1 + 1) < w4.heap.size := (by omega)
        have q4_1 := fun o => (bcell hb4).2 (w.heap.size + 1 + 1) o (by first | (simp; done) | (simp; omega) | omega)
        simp (maxDischargeDepth := 6) [go_sem, *] at k4_0 q4_0 k4_1 q4_1
        have HB4 := Lib.hid hb4
        clear hb4
        go_wp2_with fail
        go_meet
        exact ⟨by (repeat (first | (with_reducible exact Below.refl _ _) | (with_reducible refine Below.drew ?_) | ((with_reducible refine Below.setCell ?_ ?_ _); rotate_left; exact (by first | (simp; done) | (simp; omega) | omega)) | ((with_reducible refine Below.alloc ?_ ?_ _); rotate_left; exact (by first | (simp; done) | (simp; omega) | omega)) | ((with_reducible refine Below.trans ?_ (HB4.out.mono ?_)); rotate_left; exact (by first | (simp; done) | (simp; omega) | omega)) | ((with_reducible refine Below.trans ?_ (hb0.out.mono ?_)); rotate_left; exact (by first | (simp; done) | (simp; omega) | omega)))), ⟨by simp; omega, by intro o; simp [go_sem, *]⟩, trivial⟩
      · have hE1 : (ordE k d p == 0) = false := by rw [beq_eq_false_iff_ne]; exact hE
        clear hE
        go_wp2_with fail
        go_meet
        exact ⟨hb0.out, ⟨l1, k1⟩, trivial⟩
    case rest =>
      obtain ⟨hb1', ⟨l2, k2⟩, _⟩ := hcut
      have hb1z := hb1'.size
      have hb1 := Lib.hid hb1'
      clear hb1' k0 k1 l0 l1 hb0
      go_wp2_with fail
      refine (word_PutFault _ _ _ _ _).mono ?_
      rintro e w5 ⟨rfl, hb5⟩
      have hz5 := hb5.size
      (try simp only [World.size_alloc, World.size_setCell, World.size_drew] at hz5)
      have k5_0 := fun o => (bcell hb5).1 (w.heap.size + 1 + 1) o (by first | (simp; done) | (simp; omega) | omega)
      have l5_0 : (w.heap.size + 1 + 1) < w5.heap.size := (by omega)
      have q5_0 := fun o => (bcell hb5).2 (w.heap.size + 1 + 1) o (by first | (simp; done) | (simp; omega) | omega)
      simp (maxDischargeDepth := 6) [go_sem, *] at k5_0 q5_0
      have HB5 := Lib.hid hb5
      clear hb5
      go_upto_if 76 with fail
      go_cut [] (fun wd => CutW w [] wd)
      case first =>
        by_cases hE : fltE c e q = 0
        · have hE1 : (fltE c e q == 0) = true := by rw [beq_iff_eq]; exact hE
          have hV := flt_back1 (r := r) hE
          have HE := Lib.hid hE; clear hE
          go_wp2_with fail
          refine (word_ReadFault _ _).mono ?_
          rintro e w6 ⟨rfl, hb6⟩
          have hz6 := hb6.size
          (try simp only [World.size_alloc, World.size_setCell, World.size_drew] at hz6)
          have k6_0 := fun o => (bcell hb6).1 (w.heap.size + 1 + 1) o (by first | (simp; done) | (simp; omega) | omega)
          have l6_0 : (w.heap.size + 1 + 1) < w6.heap.size := (by omega)
          have q6_0 := fun o => (bcell hb6).2 (w.heap.size + 1 + 1) o (by first | (simp; done) | (simp; omega) | omega)
          simp (maxDischargeDepth := 6) [go_sem, *] at k6_0 q6_0
          have HB6 := Lib.hid hb6
          clear hb6
          go_wp2_with fail
          go_meet
          exact ⟨by (repeat (first | (with_reducible exact Below.refl _ _) | (with_reducible refine Below.drew ?_) | ((with_reducible refine Below.setCell ?_ ?_ _); rotate_left; exact (by first | (simp; done) | (simp; omega) | omega)) | ((with_reducible refine Below.alloc ?_ ?_ _); rotate_left; exact (by first | (simp; done) | (simp; omega) | omega)) | ((with_reducible refine Below.trans ?_ (HB6.out.mono ?_)); rotate_left; exact (by first | (simp; done) | (simp; omega) | omega)) | ((with_reducible refine Below.trans ?_ (HB5.out.mono ?_)); rotate_left; exact (by first | (simp; done) | (simp; omega) | omega)) | ((with_reducible refine Below.trans ?_ (hb1.out.mono ?_)); rotate_left; exact (by first | (simp; done) | (simp; omega) | omega)))), trivial⟩
        · have hE1 : (fltE c e q == 0) = false := by rw [beq_eq_false_iff_ne]; exact hE
          clear hE
          go_wp2_with fail
          go_meet
          exact ⟨by (repeat (first | (with_reducible exact Below.refl _ _) | (with_reducible refine Below.drew ?_) | ((with_reducible refine Below.setCell ?_ ?_ _); rotate_left; exact (by first | (simp; done) | (simp; omega) | omega)) | ((with_reducible refine Below.alloc ?_ ?_ _); rotate_left; exact (by first | (simp; done) | (simp; omega) | omega)) | ((with_reducible refine Below.trans ?_ (HB5.out.mono ?_)); rotate_left; exact (by first | (simp; done) | (simp; omega) | omega)) | ((with_reducible refine Below.trans ?_ (hb1.out.mono ?_)); rotate_left; exact (by first | (simp; done) | (simp; omega) | omega)))), trivial⟩
      case rest =>
        obtain ⟨hb2', _⟩ := hcut
        have hb2z := hb2'.size
        have hb2 := Lib.hid hb2'
        clear hb2' k5_0 q5_0 k2 hb1
        have hV := rdoV_eq v
        have hV2 := rdfV_eq v
        go_wp2_with fail
        refine (word_ReadOrder _ _).mono ?_
        rintro e w7 ⟨rfl, hb7⟩
        have hz7 := hb7.size
        (try simp only [World.size_alloc, World.size_setCell, World.size_drew] at hz7)
        have HB7 := Lib.hid hb7
        clear hb7
        go_upto_if 95 with fail
        go_cut [] (fun wd => CutW w [] wd)
        case first =>
          by_cases hE : rdoE v = 0
          · have hE1 : (rdoE v == 0) = true := by rw [beq_iff_eq]; exact hE
            have h1 := (rdoE_inv hE).2
            have h2 := ord_back2 hE
            have e1 := rdoF_0 (x := v % 4) hE
            have e2 := rdoF_0 (x := v / 4 % 8) hE
            have e3 := rdoF_0 (x := v / 32) hE
            have HE := Lib.hid hE; clear hE
            go_wp2_with fail
            refine (word_PutOrder _ _ _ _).mono ?_
            rintro e w10 ⟨rfl, hb10⟩
            have hz10 := hb10.size
            (try simp only [World.size_alloc, World.size_setCell, World.size_drew] at hz10)
            have HB10 := Lib.hid hb10
            clear hb10
            go_wp2_with fail
            go_meet
            exact ⟨by (repeat (first | (with_reducible exact Below.refl _ _) | (with_reducible refine Below.drew ?_) | ((with_reducible refine Below.setCell ?_ ?_ _); rotate_left; exact (by first | (simp; done) | (simp; omega) | omega)) | ((with_reducible refine Below.alloc ?_ ?_ _); rotate_left; exact (by first | (simp; done) | (simp; omega) | omega)) | ((with_reducible refine Below.trans ?_ (HB10.out.mono ?_)); rotate_left; exact (by first | (simp; done) | (simp; omega) | omega)) | ((with_reducible refine Below.trans ?_ (HB7.out.mono ?_)); rotate_left; exact (by first | (simp; done) | (simp; omega) | omega)) | ((with_reducible refine Below.trans ?_ (hb2.out.mono ?_)); rotate_left; exact (by first | (simp; done) | (simp; omega) | omega)))), trivial⟩
          · have hE1 : (rdoE v == 0) = false := by rw [beq_eq_false_iff_ne]; exact hE
            clear hE
            go_wp2_with fail
            go_meet
            exact ⟨by (repeat (first | (with_reducible exact Below.refl _ _) | (with_reducible refine Below.drew ?_) | ((with_reducible refine Below.setCell ?_ ?_ _); rotate_left; exact (by first | (simp; done) | (simp; omega) | omega)) | ((with_reducible refine Below.alloc ?_ ?_ _); rotate_left; exact (by first | (simp; done) | (simp; omega) | omega)) | ((with_reducible refine Below.trans ?_ (HB7.out.mono ?_)); rotate_left; exact (by first | (simp; done) | (simp; omega) | omega)) | ((with_reducible refine Below.trans ?_ (hb2.out.mono ?_)); rotate_left; exact (by first | (simp; done) | (simp; omega) | omega)))), trivial⟩
        case rest =>
          obtain ⟨hb3', _⟩ := hcut
          have hb3z := hb3'.size
          have hb3 := Lib.hid hb3'
          clear hb3' hb2
          go_wp2_with fail
          refine (word_ReadFault _ _).mono ?_
          rintro e w8 ⟨rfl, hb8⟩
          have hz8 := hb8.size
          (try simp only [World.size_alloc, World.size_setCell, World.size_drew] at hz8)
          have HB8 := Lib.hid hb8
          clear hb8
          by_cases hE : rdfE v = 0
          · have hE1 : (rdfE v == 0) = true := by rw [beq_iff_eq]; exact hE
            obtain ⟨h1, h2⟩ := flt_back2 hE
            have e1 := rdfF_0 (x := v % 8) hE
            have e2 := rdfF_0 (x := v / 8 % 8) hE
            have e3 := rdfF_0 (x := v / 64 % 64) hE
            have e4 := rdfB_0 hE
            have HE := Lib.hid hE; clear hE
            go_wp2_with fail
            refine (word_PutFault _ _ _ _ _).mono ?_
            rintro e w9 ⟨rfl, hb9⟩
            have hz9 := hb9.size
            (try simp only [World.size_alloc, World.size_setCell, World.size_drew] at hz9)
            have HB9 := Lib.hid hb9
            clear hb9
            go_wp2_with fail
            go_ret
            exact ⟨rfl, by (repeat (first | (with_reducible exact Below.refl _ _) | (with_reducible refine Below.drew ?_) | ((with_reducible refine Below.setCell ?_ ?_ _); rotate_left; exact (by first | (simp; done) | (simp; omega) | omega)) | ((with_reducible refine Below.alloc ?_ ?_ _); rotate_left; exact (by first | (simp; done) | (simp; omega) | omega)) | ((with_reducible refine Below.trans ?_ (HB9.out.mono ?_)); rotate_left; exact (by first | (simp; done) | (simp; omega) | omega)) | ((with_reducible refine Below.trans ?_ (HB8.out.mono ?_)); rotate_left; exact (by first | (simp; done) | (simp; omega) | omega)) | ((with_reducible refine Below.trans ?_ (hb3.out.mono ?_)); rotate_left; exact (by first | (simp; done) | (simp; omega) | omega))))⟩
          · have hE1 : (rdfE v == 0) = false := by rw [beq_eq_false_iff_ne]; exact hE
            clear hE
            go_wp2_with fail
            go_ret
            exact ⟨rfl, by (repeat (first | (with_reducible exact Below.refl _ _) | (with_reducible refine Below.drew ?_) | ((with_reducible refine Below.setCell ?_ ?_ _); rotate_left; exact (by first | (simp; done) | (simp; omega) | omega)) | ((with_reducible refine Below.alloc ?_ ?_ _); rotate_left; exact (by first | (simp; done) | (simp; omega) | omega)) | ((with_reducible refine Below.trans ?_ (HB8.out.mono ?_)); rotate_left; exact (by first | (simp; done) | (simp; omega) | omega)) | ((with_reducible refine Below.trans ?_ (hb3.out.mono ?_)); rotate_left; exact (by first | (simp; done) | (simp; omega) | omega))))⟩
end Go.Proofs.Ytbopdijnojaaiaa
