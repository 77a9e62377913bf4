/- Memory: the walks of Write, New, and of the document's CheckMem and Put. No statement of the seat is proved here. -/
import Derived.Test.YtbopdijnojaaiabMemW
import Derived.Test.YtbopdijnojaaiabIn
namespace Go.Proofs.Ytbopdijnojaaiab
open Go.RowKit
set_option linter.unusedSimpArgs false
set_option linter.unusedVariables false

theorem own_cells {B : Nat} {w : World} {A : Option Addr} {n c : Nat} {xs : List Int} (h : OwnI B w A n c xs) (h0 : 0 < n) :
    ∃ g, A = some ⟨g, 0, none⟩ ∧ B ≤ g ∧ g < w.heap.size ∧ (∀ (k : Nat) (x : Int), xs[k]? = some x → w.cell? ⟨g, k, none⟩ = some (.int .i64 x)) ∧ (∀ o, w.frozen? ⟨g, o, none⟩ = false) ∧
      ∀ (k : Nat) (x : Int), k < n → OwnI B (w.setCell ⟨g, k, none⟩ (.int .i64 x)) A n c (xs.set k x) := by
  obtain ⟨hl, h1, h2⟩ := h
  rcases h2 with ⟨_, h2⟩ | ⟨g, cap, cur, hv, hg, hh, hnc, hcm, hsz, hcur⟩
  · omega
  · injection hv with e1 e2 e3
    subst e1
    have hlt : g < w.heap.size := by
      rcases Nat.lt_or_ge g w.heap.size with hlt | hge
      · exact hlt
      · rw [Array.getElem?_eq_none hge] at hh; cases hh
    refine ⟨g, rfl, hg, hlt, fun k x hx => ?_, fun o => ?_, fun k x hk => ⟨by simp [hl], by simp [hl], Or.inr ⟨g, cap, cur.setIfInBounds k (.int .i64 x), by rw [e3], hg, ?_, hnc, hcm, by simp [hsz], ?_⟩⟩⟩
    · have hk : k < xs.length := (List.getElem?_eq_some_iff.1 hx).1
      have : (xs.map (Value.int .i64))[k]? = some (.int .i64 x) := by simp [hx]
      rw [← hcur, List.getElem?_take] at this
      simp only [World.cell?, hh]
      have hk2 : k < n * 1 := by omega
      rw [if_pos hk2] at this
      simpa using this
    · simp [World.frozen?, hh]
    · simp [World.setCell, Array.getElem?_modify, hh]
    · rw [Array.toList_setIfInBounds, List.take_set, hcur, List.map_set]

set_option maxRecDepth 100000 in
set_option maxHeartbeats 1000000 in
theorem mem_Write (A : Option Addr) (n c : Nat) (xs : List Int) (k v : Int) (w : World) (h : Ints w w.heap.size A n xs) (h0 : cm xs = 0) (hk : 0 ≤ k ∧ k < 512) (hv : 0 ≤ v ∧ v ≤ 65535) :
    Calls Try.prog 48 #[.agg #[.slice A n c], .int .i64 k, .int .i64 v] w fun e w' => ∃ A' c', e = .returned (.tuple #[.agg #[.slice A' 512 c'], .int .i64 0]) ∧ OwnI w.heap.size w' A' 512 c' (xs.set k.toNat v) ∧ Below w.heap.size w w' := by
  obtain ⟨hl, _⟩ := cm_inv h0
  have hn : n = 512 := by rw [← h.len]; exact hl
  subst hn
  have HX := Lib.hid h
  have HL := Lib.hid hl
  obtain ⟨h1, h2⟩ := hk
  obtain ⟨h3, h4⟩ := hv
  have H0 := Lib.hid h0
  have hc0 : (cm xs != 0) = false := by simp [h0]
  clear h hl h0
  go_enter Try.func48, Try.ntmps48
  go_wp2_with fail
  refine (mem_Check _ _ _ xs _ ((HX.out.alloc (Nat.le_refl _) _ |>.alloc (by simp) _).more (by simp; omega))).mono ?_
  rintro e w1 ⟨rfl, hb1⟩
  have hz1 := hb1.size
  (try simp only [World.size_alloc, World.size_setCell, World.size_drew] at hz1)
  have k1_0 := fun o => (bcell hb1).1 (w.heap.size) o (by first | (simp; done) | (simp; omega) | omega)
  have l1_0 : (w.heap.size) < w1.heap.size := (by omega)
  have q1_0 := fun o => (bcell hb1).2 (w.heap.size) o (by first | (simp; done) | (simp; omega) | omega)
  have k1_1 := fun o => (bcell hb1).1 (w.heap.size + 1) o (by first | (simp; done) | (simp; omega) | omega)
  have l1_1 : (w.heap.size + 1) < w1.heap.size := (by omega)
  have q1_1 := fun o => (bcell hb1).2 (w.heap.size + 1) o (by first | (simp; done) | (simp; omega) | omega)
  simp (maxDischargeDepth := 6) [go_sem, *] at k1_0 q1_0 k1_1 q1_1
  have HB1 := Lib.hid hb1
  clear hb1
  go_wp2_with fail
  refine (mem_Copy _ _ _ xs _ (((HX.out.alloc (Nat.le_refl _) _ |>.alloc (by simp) _).below (HB1.out.mono (by simp; omega))).more (by omega)) (by decide) (by decide)).mono ?_
  rintro e w2 ⟨A2, c2, rfl, ho, hb2⟩
  have hz2 := hb2.size
  (try simp only [World.size_alloc, World.size_setCell, World.size_drew] at hz2)
  have k2_0 := fun o => (bcell hb2).1 (w.heap.size) o (by first | (simp; done) | (simp; omega) | omega)
  have l2_0 : (w.heap.size) < w2.heap.size := (by omega)
  have q2_0 := fun o => (bcell hb2).2 (w.heap.size) o (by first | (simp; done) | (simp; omega) | omega)
  have k2_1 := fun o => (bcell hb2).1 (w.heap.size + 1) o (by first | (simp; done) | (simp; omega) | omega)
  have l2_1 : (w.heap.size + 1) < w2.heap.size := (by omega)
  have q2_1 := fun o => (bcell hb2).2 (w.heap.size + 1) o (by first | (simp; done) | (simp; omega) | omega)
  simp (maxDischargeDepth := 6) [go_sem, *] at k2_0 q2_0 k2_1 q2_1
  have HB2 := Lib.hid hb2
  clear hb2
  have ho1 : OwnI w1.heap.size (w2.setCell ⟨w.heap.size, 0, none⟩ (.slice A2 512 c2)) A2 512 c2 xs := ho.set (by simp; omega) _
  obtain ⟨g, rfl, hg1, hg2, hgc, hgf, hgs⟩ := own_cells ho1 (by decide)
  have HGS := Lib.hid (hgs k.toNat v (by omega))
  obtain ⟨x, hx⟩ := some_of_lt xs (k := k.toNat) (by rw [HL.out]; omega)
  have hcx := hgc _ _ hx
  clear ho1 hgc hgs hx ho
  go_wp2_with fail
  refine bodyPost_ret (v := .tuple #[.agg #[.slice (some ⟨g, 0, none⟩) 512 c2], .int .i64 0]) ?_ rfl ⟨_, _, rfl, (HGS.out.set (by simp; omega) _).low (by omega), ?_⟩
  · simp (maxDischargeDepth := 8) [results, Try.results48, go_sem, *]
  · (repeat (first | (with_reducible exact Below.refl _ _) | (with_reducible refine Below.drew ?_) | (with_reducible refine bdrewN ?_ _) | ((with_reducible refine Below.setCell ?_ ?_ _); rotate_left; exact (by first | (simp; done) | (simp; omega) | omega)) | ((with_reducible refine Below.alloc ?_ ?_ _); rotate_left; exact (by first | (simp; done) | (simp; omega) | omega)) | ((with_reducible refine Below.trans ?_ (HB2.out.mono ?_)); rotate_left; exact (by first | (simp; done) | (simp; omega) | omega)) | ((with_reducible refine Below.trans ?_ (HB1.out.mono ?_)); rotate_left; exact (by first | (simp; done) | (simp; omega) | omega))))

set_option maxRecDepth 100000 in
set_option maxHeartbeats 1000000 in
theorem mem_Write_no (A : Option Addr) (n c : Nat) (xs : List Int) (k v : Int) (w : World) (h : Ints w w.heap.size A n xs) (hE : mwE xs k v ≠ 0) :
    Calls Try.prog 48 #[.agg #[.slice A n c], .int .i64 k, .int .i64 v] w fun e w' => e = .returned (.tuple #[.agg #[.slice none 0 0], .int .i64 (mwE xs k v)]) ∧ Below w.heap.size w w' := by
  have HX := Lib.hid h
  clear h
  have HE := Lib.hid hE; clear hE
  by_cases h0 : cm xs = 0
  · have H0 := Lib.hid h0
    have hc0 : (cm xs != 0) = false := by simp [h0]
    clear h0
    by_cases hk : 0 ≤ k ∧ k < 512
    · by_cases hv : 0 ≤ v ∧ v ≤ 65535
      · exact absurd (mwE_0 H0.out hk hv) HE.out
      · rw [mwE_v H0.out hk hv]
        obtain ⟨h1, h2⟩ := hk
        have hv2 : v < 0 ∨ 65535 < v := by omega
        clear hv
        rcases hv2 with hv2 | hv2
        all_goals
          go_enter Try.func48, Try.ntmps48
          go_wp2_with fail
          refine (mem_Check _ _ _ xs _ ((HX.out.alloc (Nat.le_refl _) _ |>.alloc (by simp) _).more (by simp; omega))).mono ?_
          rintro e w1 ⟨rfl, hb1⟩
          have hz1 := hb1.size
          (try simp only [World.size_alloc, World.size_setCell, World.size_drew] at hz1)
          have k1_0 := fun o => (bcell hb1).1 (w.heap.size) o (by first | (simp; done) | (simp; omega) | omega)
          have l1_0 : (w.heap.size) < w1.heap.size := (by omega)
          have q1_0 := fun o => (bcell hb1).2 (w.heap.size) o (by first | (simp; done) | (simp; omega) | omega)
          have k1_1 := fun o => (bcell hb1).1 (w.heap.size + 1) o (by first | (simp; done) | (simp; omega) | omega)
          have l1_1 : (w.heap.size + 1) < w1.heap.size := (by omega)
          have q1_1 := fun o => (bcell hb1).2 (w.heap.size + 1) o (by first | (simp; done) | (simp; omega) | omega)
          simp (maxDischargeDepth := 6) [go_sem, *] at k1_0 q1_0 k1_1 q1_1
          have HB1 := Lib.hid hb1
          clear hb1
          go_wp2_with fail
          refine bodyPost_ret (v := .tuple #[.agg #[.slice none 0 0], .int .i64 2]) ?_ rfl ⟨rfl, ?_⟩
          · simp (maxDischargeDepth := 8) [results, Try.results48, go_sem, *]
          · (repeat (first | (with_reducible exact Below.refl _ _) | (with_reducible refine Below.drew ?_) | (with_reducible refine bdrewN ?_ _) | ((with_reducible refine Below.setCell ?_ ?_ _); rotate_left; exact (by first | (simp; done) | (simp; omega) | omega)) | ((with_reducible refine Below.alloc ?_ ?_ _); rotate_left; exact (by first | (simp; done) | (simp; omega) | omega)) | ((with_reducible refine Below.trans ?_ (HB1.out.mono ?_)); rotate_left; exact (by first | (simp; done) | (simp; omega) | omega))))
    · rw [mwE_k H0.out hk]
      have hk2 : k < 0 ∨ 512 ≤ k := by omega
      clear hk
      rcases hk2 with hk2 | hk2
      all_goals
        go_enter Try.func48, Try.ntmps48
        go_wp2_with fail
        refine (mem_Check _ _ _ xs _ ((HX.out.alloc (Nat.le_refl _) _ |>.alloc (by simp) _).more (by simp; omega))).mono ?_
        rintro e w1 ⟨rfl, hb1⟩
        have hz1 := hb1.size
        (try simp only [World.size_alloc, World.size_setCell, World.size_drew] at hz1)
        have k1_0 := fun o => (bcell hb1).1 (w.heap.size) o (by first | (simp; done) | (simp; omega) | omega)
        have l1_0 : (w.heap.size) < w1.heap.size := (by omega)
        have q1_0 := fun o => (bcell hb1).2 (w.heap.size) o (by first | (simp; done) | (simp; omega) | omega)
        have k1_1 := fun o => (bcell hb1).1 (w.heap.size + 1) o (by first | (simp; done) | (simp; omega) | omega)
        have l1_1 : (w.heap.size + 1) < w1.heap.size := (by omega)
        have q1_1 := fun o => (bcell hb1).2 (w.heap.size + 1) o (by first | (simp; done) | (simp; omega) | omega)
        simp (maxDischargeDepth := 6) [go_sem, *] at k1_0 q1_0 k1_1 q1_1
        have HB1 := Lib.hid hb1
        clear hb1
        go_wp2_with fail
        refine bodyPost_ret (v := .tuple #[.agg #[.slice none 0 0], .int .i64 4]) ?_ rfl ⟨rfl, ?_⟩
        · simp (maxDischargeDepth := 8) [results, Try.results48, go_sem, *]
        · (repeat (first | (with_reducible exact Below.refl _ _) | (with_reducible refine Below.drew ?_) | (with_reducible refine bdrewN ?_ _) | ((with_reducible refine Below.setCell ?_ ?_ _); rotate_left; exact (by first | (simp; done) | (simp; omega) | omega)) | ((with_reducible refine Below.alloc ?_ ?_ _); rotate_left; exact (by first | (simp; done) | (simp; omega) | omega)) | ((with_reducible refine Below.trans ?_ (HB1.out.mono ?_)); rotate_left; exact (by first | (simp; done) | (simp; omega) | omega))))
  · rw [mwE_c h0]
    have hc0 : (cm xs != 0) = true := by simp [h0]
    clear h0
    go_enter Try.func48, Try.ntmps48
    go_wp2_with fail
    refine (mem_Check _ _ _ xs _ ((HX.out.alloc (Nat.le_refl _) _ |>.alloc (by simp) _).more (by simp; omega))).mono ?_
    rintro e w1 ⟨rfl, hb1⟩
    have hz1 := hb1.size
    (try simp only [World.size_alloc, World.size_setCell, World.size_drew] at hz1)
    have k1_0 := fun o => (bcell hb1).1 (w.heap.size) o (by first | (simp; done) | (simp; omega) | omega)
    have l1_0 : (w.heap.size) < w1.heap.size := (by omega)
    have q1_0 := fun o => (bcell hb1).2 (w.heap.size) o (by first | (simp; done) | (simp; omega) | omega)
    have k1_1 := fun o => (bcell hb1).1 (w.heap.size + 1) o (by first | (simp; done) | (simp; omega) | omega)
    have l1_1 : (w.heap.size + 1) < w1.heap.size := (by omega)
    have q1_1 := fun o => (bcell hb1).2 (w.heap.size + 1) o (by first | (simp; done) | (simp; omega) | omega)
    simp (maxDischargeDepth := 6) [go_sem, *] at k1_0 q1_0 k1_1 q1_1
    have HB1 := Lib.hid hb1
    clear hb1
    go_wp2_with fail
    refine bodyPost_ret (v := .tuple #[.agg #[.slice none 0 0], .int .i64 (cm xs)]) ?_ rfl ⟨rfl, ?_⟩
    · simp (maxDischargeDepth := 8) [results, Try.results48, go_sem, *]
    · (repeat (first | (with_reducible exact Below.refl _ _) | (with_reducible refine Below.drew ?_) | (with_reducible refine bdrewN ?_ _) | ((with_reducible refine Below.setCell ?_ ?_ _); rotate_left; exact (by first | (simp; done) | (simp; omega) | omega)) | ((with_reducible refine Below.alloc ?_ ?_ _); rotate_left; exact (by first | (simp; done) | (simp; omega) | omega)) | ((with_reducible refine Below.trans ?_ (HB1.out.mono ?_)); rotate_left; exact (by first | (simp; done) | (simp; omega) | omega))))

set_option maxRecDepth 100000 in
set_option maxHeartbeats 1000000 in
theorem ref_CheckMem (A : Option Addr) (n c : Nat) (xs : List Int) (w : World) (h : Ints w w.heap.size A n xs) :
    Calls Try.prog 54 #[.agg #[.slice A n c]] w fun e w' => e = .returned (.int .i64 (cm xs)) ∧ Below w.heap.size w w' := by
  have hl := h.len
  have HL := Lib.hid hl
  have HB := Lib.hid (below_alloc w)
  by_cases h512 : n = 512
  · subst h512
    obtain ⟨b, off, rfl, hb, hc⟩ := h.at_ (by omega)
    have HC := Lib.hid hc
    clear hl hc h
    go_enter Try.func54, Try.ntmps54
    go_wp2
    go_loop [12, 4] (fun i _ => ∃ k : Nat, k ≤ 512 ∧ i = .int .i64 k ∧ (xs.take k).all inWord = true) (fun i _ => 512 - (intOf i).toNat)
    case atStart => exact ⟨0, by omega, rfl, by simp⟩
    case round =>
      obtain ⟨k, hk, rfl, hall⟩ := hrel
      have HA := Lib.hid hall; clear hall
      by_cases hlt : k < 512
      · obtain ⟨x, hx⟩ := some_of_lt xs (k := k) (by rw [HL.out]; exact hlt)
        have hcc := HC.out k x hx
        have HX := Lib.hid hx; clear hx
        cases hin : inB x 0 65535
        · have HIN := Lib.hid (show inWord x = false from hin)
          go_wp2_with (go_at_call 70; refine (ref_in _ _ _ _).mono ?_; rintro e w' ⟨rfl, rfl⟩)
          go_ret
          exact ⟨ret_int (cm_bad HL.out HX.out HIN.out).symm, HB.out _⟩
        · have HIN := Lib.hid (show inWord x = true from hin)
          go_wp2_with (go_at_call 70; refine (ref_in _ _ _ _).mono ?_; rintro e w' ⟨rfl, rfl⟩)
          go_round
          case rel => exact ⟨k+1, by omega, by go_num, all_take_succ HX.out HA.out HIN.out⟩
          case measure => simp [intOf]; omega
      · go_wp2
        obtain rfl : k = 512 := by omega
        go_ret
        exact ⟨ret_int (cm_ok HL.out HA.out).symm, HB.out _⟩
  · have h6 : ((n : Int) != 512) = true := by simp; omega
    have H5 := Lib.hid h512
    clear hl h512 h
    go_enter Try.func54, Try.ntmps54
    go_wp2
    go_ret
    exact ⟨ret_int (cm_len (by rw [HL.out]; exact H5.out)).symm, HB.out _⟩
end Go.Proofs.Ytbopdijnojaaiab
