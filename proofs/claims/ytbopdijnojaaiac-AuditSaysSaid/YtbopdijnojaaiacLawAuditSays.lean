/- The audit: the walk of the law AuditSays. The row is in another text. -/
import Derived.Test.YtbopdijnojaaiacAudited
import Derived.Test.YtbopdijnojaaiacFairR
import Derived.Deep.RegionHeld3
import Derived.Deep.DrawnRows
import Derived.Deep.DeepCutAuto
namespace Go.Proofs.Ytbopdijnojaaiac
open Go.RowKit
set_option linter.unusedSimpArgs false
set_option linter.unusedVariables false
attribute [local go_sem ↓] Go.wp_at_zero Go.wp_at_succ

/-- what is wrong with the first k of n machines. -/
def badN (ms : List Mch) (n k : Nat) : Int := if 121 < n then 1 else ckK ms k
theorem badN_ok {ms : List Mch} {n k : Nat} {x : Mch} (h : badN ms n k = 0) (hx : ms[k]? = some x) : ckM x = badN ms n (k + 1) := by
  unfold badN at *
  by_cases h1 : 121 < n
  · rw [if_pos h1] at h; cases h
  · rw [if_neg h1] at h ⊢; exact (ckK_ok h hx).symm
theorem badN_bad {ms : List Mch} {n k : Nat} (h : badN ms n k ≠ 0) : badN ms n k = badN ms n (k + 1) := by
  unfold badN at *
  by_cases h1 : 121 < n
  · rw [if_pos h1, if_pos h1]
  · rw [if_neg h1] at h ⊢; rw [if_neg h1]; exact (ckK_bad h).symm
theorem fair_bad {ms : List Mch} {n : Nat} {t : Tch} (hn : ms.length = n) : fairE ms t = if badN ms n n = 0 then tchE t else badN ms n n := by
  unfold fairE badN
  rw [hn]
  by_cases h1 : 121 < n
  · rw [if_neg (show ¬ n ≤ 121 by omega), if_pos h1, if_neg (by decide)]
  · rw [if_pos (show n ≤ 121 by omega), if_neg h1]
theorem fair_zero {ms : List Mch} {n : Nat} {t : Tch} {E : Int} (h : E = if badN ms n n = 0 then tchE t else badN ms n n) (h0 : E = 0) : ckK ms n = 0 ∧ tchE t = 0 ∧ n ≤ 121 := by
  rw [h] at h0
  by_cases h1 : badN ms n n = 0
  · rw [if_pos h1] at h0
    unfold badN at h1
    by_cases h2 : 121 < n
    · rw [if_pos h2] at h1; cases h1
    · rw [if_neg h2] at h1; exact ⟨h1, h0, by omega⟩
  · rw [if_neg h1] at h0; exact absurd h0 h1
theorem mach_range {w : World} {b o : Nat} {v0 v1 v2 v3 v4 v5 v6 v7 v8 v9 v10 v11 v12 v13 v14 v15 : Value} (h : w.cell? ⟨b, o, none⟩ = some v0 ∧ w.cell? ⟨b, o + 1, none⟩ = some v1 ∧ w.cell? ⟨b, o + 2, none⟩ = some v2 ∧ w.cell? ⟨b, o + 3, none⟩ = some v3 ∧ w.cell? ⟨b, o + 4, none⟩ = some v4 ∧ w.cell? ⟨b, o + 5, none⟩ = some v5 ∧ w.cell? ⟨b, o + 6, none⟩ = some v6 ∧ w.cell? ⟨b, o + 7, none⟩ = some v7 ∧ w.cell? ⟨b, o + 8, none⟩ = some v8 ∧ w.cell? ⟨b, o + 9, none⟩ = some v9 ∧ w.cell? ⟨b, o + 10, none⟩ = some v10 ∧ w.cell? ⟨b, o + 11, none⟩ = some v11 ∧ w.cell? ⟨b, o + 12, none⟩ = some v12 ∧ w.cell? ⟨b, o + 13, none⟩ = some v13 ∧ w.cell? ⟨b, o + 14, none⟩ = some v14 ∧ w.cell? ⟨b, o + 15, none⟩ = some v15) :
    w.rangeAt b o [v0, v1, v2, v3, v4, v5, v6, v7, v8, v9, v10, v11, v12, v13, v14, v15] := by
  obtain ⟨h0, h1, h2, h3, h4, h5, h6, h7, h8, h9, h10, h11, h12, h13, h14, h15⟩ := h
  intro j v hj
  match j, hj with
  | 0, hj => simp at hj; subst hj; exact h0
  | 1, hj => simp at hj; subst hj; exact h1
  | 2, hj => simp at hj; subst hj; exact h2
  | 3, hj => simp at hj; subst hj; exact h3
  | 4, hj => simp at hj; subst hj; exact h4
  | 5, hj => simp at hj; subst hj; exact h5
  | 6, hj => simp at hj; subst hj; exact h6
  | 7, hj => simp at hj; subst hj; exact h7
  | 8, hj => simp at hj; subst hj; exact h8
  | 9, hj => simp at hj; subst hj; exact h9
  | 10, hj => simp at hj; subst hj; exact h10
  | 11, hj => simp at hj; subst hj; exact h11
  | 12, hj => simp at hj; subst hj; exact h12
  | 13, hj => simp at hj; subst hj; exact h13
  | 14, hj => simp at hj; subst hj; exact h14
  | 15, hj => simp at hj; subst hj; exact h15
  | k + 16, hj => simp at hj
set_option maxRecDepth 100000 in
set_option maxHeartbeats 8000000 in
theorem law_AuditSays (A : Option Addr) (n c : Nat) (ms : List Mch) (t : Tch) (w : World) (hx : Machs w w.heap.size A n c ms) :
    Calls Try.prog 3 #[.slice A n c, .agg #[.int .i64 t.dev, .int .i64 t.seen, .int .i64 t.at_, .bool t.wr, .int .i64 t.value]] w fun e w' => e = .returned (.bool true) ∧ Below w.heap.size w w' := by
  have hcap := hx.cap
  have HLN := Lib.hid hx.len
  have HX := Lib.hid hx
  obtain ⟨V, hV⟩ : ∃ V, fairV ms t = V := ⟨_, rfl⟩
  obtain ⟨E, hE⟩ : ∃ E, fairE ms t = E := ⟨_, rfl⟩
  have HV := Lib.hid hV
  have HE := Lib.hid hE
  have HBE := Lib.hid (show E = if badN ms n n = 0 then tchE t else badN ms n n by rw [← hE]; exact fair_bad hx.len)
  clear hx hV hE
  go_enter Try.func3, Try.ntmps3
  go_wp2_with fail
  refine (fair_ans A n c ms t V E _ (machs_now HX.out (by (repeat (first | (with_reducible exact Below.refl _ _) | (with_reducible refine Below.drew ?_) | (with_reducible refine bdrewN ?_ _) | ((with_reducible refine Below.setCell ?_ ?_ _); rotate_left; exact (by first | (simp; done) | (simp; omega) | omega)) | ((with_reducible refine Below.alloc ?_ ?_ _); rotate_left; exact (by first | (simp; done) | (simp; omega) | omega)))))) HV.out HE.out).mono ?_
  rintro e w1 ⟨rfl, hb1⟩
  have hz1 := hb1.size
  (try simp only [World.size_alloc, World.size_setCell, World.size_drew] at hz1)
  have k1_0 := fun o => (bcell hb1).1 (w.heap.size) o (by first | (simp; done) | (simp; omega) | omega)
  have l1_0 : (w.heap.size) < w1.heap.size := (by omega)
  have q1_0 := fun o => (bcell hb1).2 (w.heap.size) o (by first | (simp; done) | (simp; omega) | omega)
  simp (maxDischargeDepth := 6) [go_sem, *] at k1_0 q1_0
  have HB1 := Lib.hid hb1
  clear hb1
  go_upto_if 18 with (fail)
  go_cut [7] (fun s7 wd => s7 = .int .i64 (if 121 < n then 1 else 0) ∧ wd = w1)
  case first =>
    by_cases h121 : 121 < n
    · have t1 : (121 : Int) < (n : Int) := by omega
      have HQ := Lib.hid h121
      clear h121
      go_wp2
      go_meet
      exact ⟨by rw [if_pos HQ.out], rfl⟩
    · have t1 : (n : Int) ≤ 121 := by omega
      have HQ := Lib.hid h121
      clear h121
      go_wp2
      go_meet
      exact ⟨by rw [if_neg HQ.out], rfl⟩
  case rest =>
    obtain ⟨rfl, rfl⟩ := hcut
    have HK := Lib.hid k1_0
    clear k1_0 q1_0
    obtain ⟨B0, hB0⟩ : ∃ B0 : Int, B0 = if 121 < n then 1 else 0 := ⟨_, rfl⟩
    rw [← hB0]
    have HB0 := Lib.hid (show B0 = badN ms n 0 by rw [hB0]; rfl)
    clear hB0
    go_wp2
    obtain ⟨wo, hwo⟩ : ∃ wo, wo = wc := ⟨_, rfl⟩
    go_loopw [7, 21] (fun s7 s21 wr => ∃ k : Nat, k ≤ n ∧ s21 = .int .i64 k ∧ s7 = .int .i64 (badN ms n k) ∧ Hid (Since wo wr)) (fun _ s21 _ => n - (intOf s21).toNat)
    case atStart => exact ⟨0, by omega, rfl, by rw [← HB0.out], by rw [hwo]; exact since_refl _⟩
    case round =>
      obtain ⟨k, hk, rfl, rfl, hS⟩ := hrel
      subst hwo
      have HSr := Lib.hid hS.out
      have HWr := Lib.hid (show Below w.heap.size w wr from Below.trans (show Below w.heap.size w wo by (repeat (first | (with_reducible exact Below.refl _ _) | (with_reducible refine Below.drew ?_) | (with_reducible refine bdrewN ?_ _) | ((with_reducible refine Below.setCell ?_ ?_ _); rotate_left; exact (by first | (simp; done) | (simp; omega) | omega)) | ((with_reducible refine Below.alloc ?_ ?_ _); rotate_left; exact (by first | (simp; done) | (simp; omega) | omega)) | ((with_reducible refine Below.trans ?_ (HB1.out.mono ?_)); rotate_left; exact (by first | (simp; done) | (simp; omega) | omega))))) (Below.mono hS.out (by have := HB1.out.size; (try simp only [World.size_alloc] at this); omega)))
      clear hS
      by_cases hlt : k < n
      · obtain ⟨x, hxk⟩ := some_of_lt ms (k := k) (by rw [HLN.out]; exact hlt)
        have HXK := Lib.hid hxk
        obtain ⟨b, off, rfl, hb, hc⟩ := (machs_now HX.out HWr.out).at_ (by omega)
        obtain ⟨M, nm, mc, R, nr, rc, L, n', c', hcs, h1, h2, h3⟩ := hc k x hxk
        have HRG := Lib.hid (mach_range hcs)
        have H1 := Lib.hid h1
        have H2 := Lib.hid h2
        have H3 := Lib.hid h3
        have q1 : (0 : Int) ≤ (k : Int) := by omega
        have q2 : (k : Int) < (n : Int) := by omega
        clear hc hcs h1 h2 h3 hxk
        by_cases hbad : badN ms n k = 0
        · have t1 : (badN ms n k == 0) = true := by rw [beq_iff_eq]; exact hbad
          have HBD := Lib.hid hbad
          clear hbad
          go_wp2_with (first
            | (refine wpList_load_mid rfl 39 (.tmp 23) rfl b (off + k * 16) (by rfl) _ _ HRG.out Try.underlying39 rfl Try.sizeMach ?_)
            | (refine wpList_store_new rfl 39 (.tmp 9) (.tmp 24) rfl _ _ _ _ rfl rfl (by rfl) (by rfl) Try.sizeMach rfl (by rfl) ?_)
            | (refine wpList_load_whl rfl 39 (.tmp 9) rfl wr.heap.size _ _ rfl (whl_new wr _ _ rfl) _ Try.underlying39 rfl Try.sizeMach ?_))
          refine (ref_CheckMachine x M R L nm mc nr rc n' c' _ (ints_now H1.out (by (repeat (first | (with_reducible exact Below.refl _ _) | (with_reducible refine Below.drew ?_) | (with_reducible refine bdrewN ?_ _) | ((with_reducible refine Below.setCell ?_ ?_ _); rotate_left; exact (by first | (simp; done) | (simp; omega) | omega)) | ((with_reducible refine Below.alloc ?_ ?_ _); rotate_left; exact (by first | (simp; done) | (simp; omega) | omega)))))) (ints_now H2.out (by (repeat (first | (with_reducible exact Below.refl _ _) | (with_reducible refine Below.drew ?_) | (with_reducible refine bdrewN ?_ _) | ((with_reducible refine Below.setCell ?_ ?_ _); rotate_left; exact (by first | (simp; done) | (simp; omega) | omega)) | ((with_reducible refine Below.alloc ?_ ?_ _); rotate_left; exact (by first | (simp; done) | (simp; omega) | omega)))))) (lines_now H3.out (by (repeat (first | (with_reducible exact Below.refl _ _) | (with_reducible refine Below.drew ?_) | (with_reducible refine bdrewN ?_ _) | ((with_reducible refine Below.setCell ?_ ?_ _); rotate_left; exact (by first | (simp; done) | (simp; omega) | omega)) | ((with_reducible refine Below.alloc ?_ ?_ _); rotate_left; exact (by first | (simp; done) | (simp; omega) | omega))))))).mono ?_
          rintro e w2 ⟨rfl, hb2⟩
          have hz2 := hb2.size
          (try simp only [World.size_alloc, World.size_setCell, World.size_drew] at hz2)
          have HB2 := Lib.hid hb2
          clear hb2
          go_wp2
          go_roundw
          case rel => exact ⟨k + 1, by omega, by go_num, by rw [badN_ok HBD.out HXK.out], since_step HB2.out (since_alloc HSr.out _)⟩
          case measure => simp [intOf]; omega
        · have t1 : (badN ms n k == 0) = false := by rw [beq_eq_false_iff_ne]; exact hbad
          have HBD := Lib.hid hbad
          clear hbad
          go_wp2_with (first
            | (refine wpList_load_mid rfl 39 (.tmp 23) rfl b (off + k * 16) (by rfl) _ _ HRG.out Try.underlying39 rfl Try.sizeMach ?_)
            | (refine wpList_store_new rfl 39 (.tmp 9) (.tmp 24) rfl _ _ _ _ rfl rfl (by rfl) (by rfl) Try.sizeMach rfl (by rfl) ?_))
          go_roundw
          case rel => exact ⟨k + 1, by omega, by go_num, by rw [badN_bad HBD.out], since_alloc HSr.out _⟩
          case measure => simp [intOf]; omega
      · obtain rfl : k = n := by omega
        have hk0 := fun o => (HSr.out.cell (p := ⟨w.heap.size, o, none⟩) l1_0).trans (HK.out o)
        have l0 : w.heap.size < wr.heap.size := by have := Below.size HSr.out; omega
        clear hlt
        go_upto_if 31 with (fail)
        go_cut [7] (fun s7 wd => s7 = .int .i64 E ∧ Hid (Since wr wd))
        case first =>
          by_cases hbad : badN ms k k = 0
          · have t1 : (badN ms k k == 0) = true := by rw [beq_iff_eq]; exact hbad
            have HQ := Lib.hid (show E = tchE t by rw [HBE.out, if_pos hbad])
            clear hbad
            go_wp2_with fail
            refine (ref_CheckTouch t _).mono ?_
            rintro e w2 ⟨rfl, hb2⟩
            have hz2 := hb2.size
            (try simp only [World.size_alloc, World.size_setCell, World.size_drew] at hz2)
            have HB2 := Lib.hid hb2
            clear hb2
            go_wp2
            go_meet
            exact ⟨by rw [HQ.out], since_step HB2.out (since_refl _)⟩
          · have t1 : (badN ms k k == 0) = false := by rw [beq_eq_false_iff_ne]; exact hbad
            have HQ := Lib.hid (show E = badN ms k k by rw [HBE.out, if_neg hbad])
            clear hbad
            go_wp2
            go_meet
            exact ⟨by rw [HQ.out], since_refl _⟩
        case rest =>
          obtain ⟨rfl, hS⟩ := hcut
          have HWc := Lib.hid (show Below w.heap.size w wc from Below.trans HWr.out (Below.mono hS.out (Below.size HWr.out)))
          have hkc := fun o => (hS.out.cell (p := ⟨w.heap.size, o, none⟩) l0).trans (hk0 o)
          have lc : w.heap.size < wc.heap.size := by have := Below.size hS.out; omega
          have HKC := Lib.hid hkc
          obtain ⟨wd, hwd⟩ : ∃ wd, wd = wc := ⟨_, rfl⟩
          subst hwd
          clear hS hk0
          have G0 : Hid (wd.cell? ⟨w.heap.size, 0, none⟩ = some (.int .i64 t.dev)) := Lib.hid (hkc 0)
          have G1 : Hid (wd.cell? ⟨w.heap.size, 1, none⟩ = some (.int .i64 t.seen)) := Lib.hid (hkc 1)
          have G2 : Hid (wd.cell? ⟨w.heap.size, 2, none⟩ = some (.int .i64 t.at_)) := Lib.hid (hkc 2)
          have G3 : Hid (wd.cell? ⟨w.heap.size, 3, none⟩ = some (.bool t.wr)) := Lib.hid (hkc 3)
          have G4 : Hid (wd.cell? ⟨w.heap.size, 4, none⟩ = some (.int .i64 t.value)) := Lib.hid (hkc 4)
          by_cases hE0 : E = 0
          · have t1 : (E != 0) = false := by rw [bne_eq_false_iff_eq]; exact hE0
            have HE0 := Lib.hid hE0
            clear hE0
            go_upto_region 13 with (fail)
            go_cut [46] (fun s we => s = .bool false ∧ Hid (Since wd we))
            case first =>
              clear hkc
              go_region_held3 (fun W => W.cell? ⟨w.heap.size, 0, none⟩ = some (.int .i64 t.dev) ∧ W.cell? ⟨w.heap.size, 1, none⟩ = some (.int .i64 t.seen) ∧ W.cell? ⟨w.heap.size, 2, none⟩ = some (.int .i64 t.at_) ∧ W.cell? ⟨w.heap.size, 3, none⟩ = some (.bool t.wr) ∧ W.cell? ⟨w.heap.size, 4, none⟩ = some (.int .i64 t.value) ∧ Hid (Since wd W)) (((with_reducible refine keep5 ?_ G0.out G1.out G2.out G3.out G4.out); (repeat (first | (with_reducible assumption) | (with_reducible exact since_refl _) | (with_reducible exact since_5 (by assumption)) | (with_reducible exact since_step (by assumption) (since_5 (by assumption))) | (with_reducible refine since_drew ?_) | (with_reducible refine since_alloc ?_ _) | ((with_reducible refine since_set ?_ ?_ _); rotate_left; exact (by first | (simp; done) | (simp; omega) | omega)))); done))
                (first
        | (go_at_call 18; refine (law_audited _).mono ?_; rintro e w' ⟨rfl, hb'⟩)
        | (go_at_call 19; refine (audit_Check t _).mono ?_; rintro e w' ⟨rfl, hb'⟩)
        | (go_at_call 17; refine (ref_CheckTouch t _).mono ?_; rintro e w' ⟨rfl, hb'⟩))
              all_goals
                rename_i hHeld
                have HS := Lib.hid (since_5 hHeld)
                clear hHeld
                go_wp2
                go_meet
                exact ⟨rfl, HS.out⟩
            case rest =>
              obtain ⟨rfl, hS2⟩ := hcut
              have hke := fun o => (hS2.out.cell (p := ⟨w.heap.size, o, none⟩) lc).trans (HKC.out o)
              have HWe := Lib.hid (show Below w.heap.size w wc from Below.trans HWc.out (Below.mono hS2.out (Below.size HWc.out)))
              have t2 : (E == 0) = true := by rw [beq_iff_eq]; exact HE0.out
              obtain ⟨z1, z2, z3⟩ := fair_zero HBE.out HE0.out
              have HZ1 := Lib.hid z1
              have HZ2 := Lib.hid z2
              have HVK := Lib.hid (show V = fairK ms t k by rw [← HV.out]; unfold fairV; rw [HE.out, if_pos HE0.out, HLN.out])
              clear hS2 z1 z2 z3 t1
              go_wp2_with fail
              refine (ref_FairBy A k c ms t _ (machs_now HX.out (by (repeat (first | (with_reducible exact Below.refl _ _) | (with_reducible refine Below.drew ?_) | (with_reducible refine bdrewN ?_ _) | ((with_reducible refine Below.setCell ?_ ?_ _); rotate_left; exact (by first | (simp; done) | (simp; omega) | omega)) | ((with_reducible refine Below.alloc ?_ ?_ _); rotate_left; exact (by first | (simp; done) | (simp; omega) | omega)) | ((with_reducible refine Below.trans ?_ (HWe.out.mono ?_)); rotate_left; exact (by first | (simp; done) | (simp; omega) | omega)))))) HZ1.out HZ2.out).mono ?_
              rintro e w3 ⟨rfl, hb3⟩
              have HB3 := Lib.hid hb3
              have t3 : (V == fairK ms t k) = true := by rw [beq_iff_eq]; exact HVK.out
              clear hb3
              go_wp2
              go_ret
              refine ⟨rfl, ?_⟩
              have hwe := Below.size HWe.out
              (repeat (first | (with_reducible exact Below.refl _ _) | (with_reducible refine Below.drew ?_) | (with_reducible refine bdrewN ?_ _) | ((with_reducible refine Below.setCell ?_ ?_ _); rotate_left; exact (by first | (simp; done) | (simp; omega) | omega)) | ((with_reducible refine Below.alloc ?_ ?_ _); rotate_left; exact (by first | (simp; done) | (simp; omega) | omega)) | ((with_reducible refine Below.trans ?_ (HB3.out.mono ?_)); rotate_left; exact (by first | (simp; done) | (simp; omega) | omega))))
              exact HWe.out
          · have t1 : (E != 0) = true := by rw [bne_iff_ne]; exact hE0
            have HE0 := Lib.hid hE0
            clear hE0
            go_upto_region 13 with (fail)
            go_cut [46] (fun s we => s = .bool true ∧ Hid (Since wd we))
            case first =>
              clear hkc
              go_region_held3 (fun W => W.cell? ⟨w.heap.size, 0, none⟩ = some (.int .i64 t.dev) ∧ W.cell? ⟨w.heap.size, 1, none⟩ = some (.int .i64 t.seen) ∧ W.cell? ⟨w.heap.size, 2, none⟩ = some (.int .i64 t.at_) ∧ W.cell? ⟨w.heap.size, 3, none⟩ = some (.bool t.wr) ∧ W.cell? ⟨w.heap.size, 4, none⟩ = some (.int .i64 t.value) ∧ Hid (Since wd W)) (((with_reducible refine keep5 ?_ G0.out G1.out G2.out G3.out G4.out); (repeat (first | (with_reducible assumption) | (with_reducible exact since_refl _) | (with_reducible exact since_5 (by assumption)) | (with_reducible exact since_step (by assumption) (since_5 (by assumption))) | (with_reducible refine since_drew ?_) | (with_reducible refine since_alloc ?_ _) | ((with_reducible refine since_set ?_ ?_ _); rotate_left; exact (by first | (simp; done) | (simp; omega) | omega)))); done))
                (first
        | (go_at_call 18; refine (law_audited _).mono ?_; rintro e w' ⟨rfl, hb'⟩)
        | (go_at_call 19; refine (audit_Check t _).mono ?_; rintro e w' ⟨rfl, hb'⟩)
        | (go_at_call 17; refine (ref_CheckTouch t _).mono ?_; rintro e w' ⟨rfl, hb'⟩))
              all_goals
                rename_i hHeld
                have HS := Lib.hid (since_5 hHeld)
                clear hHeld
                go_wp2
                go_meet
                exact ⟨rfl, HS.out⟩
            case rest =>
              obtain ⟨rfl, hS2⟩ := hcut
              have hke := fun o => (hS2.out.cell (p := ⟨w.heap.size, o, none⟩) lc).trans (HKC.out o)
              have HWe := Lib.hid (show Below w.heap.size w wc from Below.trans HWc.out (Below.mono hS2.out (Below.size HWc.out)))
              have t2 : (V == 0) = true := by rw [beq_iff_eq, ← HV.out]; unfold fairV; rw [if_neg (by rw [HE.out]; exact HE0.out)]
              clear hS2 t1 G0 G1 G2 G3 G4
              have G0 : Hid (wc.cell? ⟨w.heap.size, 0, none⟩ = some (.int .i64 t.dev)) := Lib.hid (hke 0)
              have G1 : Hid (wc.cell? ⟨w.heap.size, 1, none⟩ = some (.int .i64 t.seen)) := Lib.hid (hke 1)
              have G2 : Hid (wc.cell? ⟨w.heap.size, 2, none⟩ = some (.int .i64 t.at_)) := Lib.hid (hke 2)
              have G3 : Hid (wc.cell? ⟨w.heap.size, 3, none⟩ = some (.bool t.wr)) := Lib.hid (hke 3)
              have G4 : Hid (wc.cell? ⟨w.heap.size, 4, none⟩ = some (.int .i64 t.value)) := Lib.hid (hke 4)
              clear hke
              go_upto_region 14 with (fail)
              go_region_held3 (fun W => W.cell? ⟨w.heap.size, 0, none⟩ = some (.int .i64 t.dev) ∧ W.cell? ⟨w.heap.size, 1, none⟩ = some (.int .i64 t.seen) ∧ W.cell? ⟨w.heap.size, 2, none⟩ = some (.int .i64 t.at_) ∧ W.cell? ⟨w.heap.size, 3, none⟩ = some (.bool t.wr) ∧ W.cell? ⟨w.heap.size, 4, none⟩ = some (.int .i64 t.value) ∧ Hid (Since wc W)) (((with_reducible refine keep5 ?_ G0.out G1.out G2.out G3.out G4.out); (repeat (first | (with_reducible assumption) | (with_reducible exact since_refl _) | (with_reducible exact since_5 (by assumption)) | (with_reducible exact since_step (by assumption) (since_5 (by assumption))) | (with_reducible refine since_drew ?_) | (with_reducible refine since_alloc ?_ _) | ((with_reducible refine since_set ?_ ?_ _); rotate_left; exact (by first | (simp; done) | (simp; omega) | omega)))); done))
                (first
        | (go_at_call 18; refine (law_audited _).mono ?_; rintro e w' ⟨rfl, hb'⟩)
        | (go_at_call 19; refine (audit_Check t _).mono ?_; rintro e w' ⟨rfl, hb'⟩)
        | (go_at_call 17; refine (ref_CheckTouch t _).mono ?_; rintro e w' ⟨rfl, hb'⟩))
              all_goals
                rename_i hHeld
                have HS := Lib.hid (since_5 hHeld)
                clear hHeld
                go_wp2
                go_ret
                exact ⟨rfl, Below.trans HWe.out (Below.mono HS.out (Below.size HWe.out))⟩
end Go.Proofs.Ytbopdijnojaaiac
