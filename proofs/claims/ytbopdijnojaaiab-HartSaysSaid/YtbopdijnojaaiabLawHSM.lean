/- The walk of the law HartSays, where memory is none. No statement of the seat is proved here. -/
import Derived.Test.YtbopdijnojaaiabHSays
namespace Go.Proofs.Ytbopdijnojaaiab
open Go.RowKit
set_option linter.unusedSimpArgs false
set_option linter.unusedVariables false
attribute [local go_sem ↓] Go.wp_at_zero Go.wp_at_succ

set_option maxRecDepth 100000 in
set_option maxHeartbeats 12000000 in
theorem hsays_M (xs : List Int) (at_ : Int) (rs : List Int) (dn : Bool) (b : Brg) (k : Int) (g : Hrt) (M R L G : Option Addr) (nm nr mc rc n c ng gc : Nat) (w : World) (hm : Ints w w.heap.size M nm xs) (hr : Ints w w.heap.size R nr rs) (hl : Lines w w.heap.size L n c b.cache) (hg : Ints w w.heap.size G ng g.regs) (c1 : cm xs ≠ 0) :
    Calls Try.prog 12 #[.agg #[.slice M nm mc], .agg #[.int .i64 at_, .slice R nr rc, .bool dn], .agg #[.int .i64 b.mode, .int .i64 b.base, .slice L n c, .int .i64 b.orders.page, .int .i64 b.orders.head, .int .i64 b.orders.tail, .bool b.stopped, .int .i64 b.fences, .int .i64 b.faults.page, .int .i64 b.faults.head, .int .i64 b.faults.tail, .bool b.lost], .int .i64 k, .agg #[.int .i64 g.at_, .slice G ng gc, .bool g.done]] w fun e w' => e = .returned (.bool true) ∧ Below w.heap.size w w' := by
  obtain ⟨ys, ga, gr, gd, bb, hst⟩ : ∃ ys ga gr gd bb, stepA xs (⟨at_, rs, dn⟩ : Hrt) b = (ys, (⟨ga, gr, gd⟩ : Hrt), bb) := ⟨_, _, _, _, _, rfl⟩
  have hE : stepE xs (⟨at_, rs, dn⟩ : Hrt) b = (cm xs) := by unfold stepE; rw [if_neg c1]
  have hno : ys = [] ∧ (⟨ga, gr, gd⟩ : Hrt) = .no ∧ bb = .no := by
    have := hst; unfold stepA at this; rw [hE, if_neg (by assumption)] at this
    injection this with e1 e2; injection e2 with e2 e3; exact ⟨e1.symm, e2.symm, e3.symm⟩
  have HNO := Lib.hid hno
  clear hno
  have Hc1 := Lib.hid c1
  have HM := Lib.hid hm
  have HR := Lib.hid hr
  have HL := Lib.hid hl
  have HG := Lib.hid hg
  have HST := Lib.hid hst
  have HE := Lib.hid hE
  have hmk := make8
  clear hm hr hl hg hst hE c1
  go_enter Try.func12, Try.ntmps12
  go_upto_region 1 with (fail)
  generalize hw0 : (((w.alloc (.cells #[.slice M nm mc] 24)).alloc (.cells #[.int .i64 at_, .slice R nr rc, .bool dn] 53)).alloc (.cells #[.int .i64 b.mode, .int .i64 b.base, .slice L n c, .int .i64 b.orders.page, .int .i64 b.orders.head, .int .i64 b.orders.tail, .bool b.stopped, .int .i64 b.fences, .int .i64 b.faults.page, .int .i64 b.faults.head, .int .i64 b.faults.tail, .bool b.lost] 55)).alloc (.cells #[.int .i64 g.at_, .slice G ng gc, .bool g.done] 53) = w0
  have H0 := Lib.hid (show Whl w0 w.heap.size 24 #[.slice M nm mc] by rw [← hw0]; exact whl_alloc (whl_alloc (whl_alloc (whl_new _ _ _ rfl) _) _) _)
  have H1 := Lib.hid (show Whl w0 (w.heap.size + 1) 53 #[.int .i64 at_, .slice R nr rc, .bool dn] by rw [← hw0]; exact whl_alloc (whl_alloc (whl_new _ _ _ (by simp)) _) _)
  have H2 := Lib.hid (show Whl w0 (w.heap.size + 1 + 1) 55 #[.int .i64 b.mode, .int .i64 b.base, .slice L n c, .int .i64 b.orders.page, .int .i64 b.orders.head, .int .i64 b.orders.tail, .bool b.stopped, .int .i64 b.fences, .int .i64 b.faults.page, .int .i64 b.faults.head, .int .i64 b.faults.tail, .bool b.lost] by rw [← hw0]; exact whl_alloc (whl_new _ _ _ (by simp)) _)
  have H3 := Lib.hid (show Whl w0 (w.heap.size + 1 + 1 + 1) 53 #[.int .i64 g.at_, .slice G ng gc, .bool g.done] by rw [← hw0]; exact whl_new _ _ _ (by simp))
  have HB := Lib.hid (show Below w.heap.size w w0 by rw [← hw0]; (repeat (first | (with_reducible exact Below.refl _ _) | (with_reducible refine Below.drew ?_) | (with_reducible refine bdrewN ?_ _) | ((with_reducible refine Below.setCell ?_ ?_ _); rotate_left; exact (by first | (simp; done) | (simp; omega) | omega)) | ((with_reducible refine Below.alloc ?_ ?_ _); rotate_left; exact (by first | (simp; done) | (simp; omega) | omega)))))
  have hz0a : w0.heap.size ≤ w.heap.size + 4 := by rw [← hw0]; simp
  have hz0b : w.heap.size + 4 ≤ w0.heap.size := by rw [← hw0]; simp
  clear hw0
  go_wp2_with fail
  refine (hart_New k _).mono ?_
  rintro e w1 ⟨A1, a1, rfl, hx1, hb, -⟩
  have IN := Lib.hid hx1
  have hz1 := hb.size
  replace H0 := Lib.hid (whl_since H0.out hb)
  replace H1 := Lib.hid (whl_since H1.out hb)
  replace H2 := Lib.hid (whl_since H2.out hb)
  replace H3 := Lib.hid (whl_since H3.out hb)
  replace HB := Lib.hid (HB.out.trans (hb.mono HB.out.size))
  clear hb hx1
  go_upto_region 2 with (refine wpList_store_new rfl 53 (.tmp 11) (.tmp 26) rfl _ _ _ _ rfl rfl (by rfl) (by rfl) Try.sizeHart rfl (by rfl) ?_)
  generalize hwb : w1.alloc (.cells #[.int .i64 (newH k).at_, .slice A1 (newN k) a1, .bool (newH k).done] 53) = w2
  have H4 := Lib.hid (show Whl w2 w1.heap.size 53 #[.int .i64 (newH k).at_, .slice A1 (newN k) a1, .bool (newH k).done] by rw [← hwb]; exact whl_new _ _ _ rfl)
  have hb : Below w1.heap.size w1 w2 := by rw [← hwb]; exact below_alloc _ _
  have hz2a : w2.heap.size ≤ w1.heap.size + 1 := by rw [← hwb]; simp
  have hz2b : w1.heap.size + 1 ≤ w2.heap.size := by rw [← hwb]; simp
  replace H0 := Lib.hid (whl_since H0.out hb)
  replace H1 := Lib.hid (whl_since H1.out hb)
  replace H2 := Lib.hid (whl_since H2.out hb)
  replace H3 := Lib.hid (whl_since H3.out hb)
  replace HB := Lib.hid (HB.out.trans (hb.mono HB.out.size))
  replace IN := Lib.hid (ints_now IN.out hb)
  clear hb hwb
  go_wp2_with (first | (refine wpList_load_whl rfl 24 (.tmp 5) rfl (w.heap.size) _ _ rfl H0.out _ Try.underlying24 rfl Try.sizeMem ?_) | (refine wpList_load_whl rfl 53 (.tmp 6) rfl (w.heap.size + 1) _ _ rfl H1.out _ Try.underlying53 rfl Try.sizeHart ?_) | (refine wpList_load_whl rfl 55 (.tmp 7) rfl (w.heap.size + 1 + 1) _ _ rfl H2.out _ Try.underlying55 rfl Try.sizeBrg ?_))
  refine (step_anyH xs (⟨at_, rs, dn⟩ : Hrt) b M R L nm mc nr rc n c _ (ints_now HM.out HB.out) (ints_now HR.out HB.out) (lines_now HL.out HB.out) ys ⟨ga, gr, gd⟩ bb (cm xs) HE.out HST.out).mono ?_
  rintro e w3 ⟨A, na, a, P, np, p, Q, q, kq, rfl, hx3, hr3, hl3, hb⟩
  have IX := Lib.hid hx3
  have IR := Lib.hid hr3
  have IL := Lib.hid hl3
  have hz3 := hb.size
  replace H0 := Lib.hid (whl_since H0.out hb)
  replace H1 := Lib.hid (whl_since H1.out hb)
  replace H2 := Lib.hid (whl_since H2.out hb)
  replace H3 := Lib.hid (whl_since H3.out hb)
  replace HB := Lib.hid (HB.out.trans (hb.mono HB.out.size))
  replace IN := Lib.hid (ints_now IN.out hb)
  replace H4 := Lib.hid (whl_since H4.out hb)
  clear hb hx3 hr3 hl3
  go_upto_region 3 with (first
    | (refine wpList_store_all rfl 24 (.tmp 13) (.tmp 33) rfl (w3.heap.size) _ _ #[.slice A na a] rfl rfl (whl_alloc (whl_alloc (whl_new w3 _ _ rfl) _) _) Try.sizeMem rfl rfl ?_; intro w4 h5 t4)
    | (refine wpList_store_all rfl 53 (.tmp 14) (.tmp 34) rfl (w3.heap.size + 1) _ _ #[.int .i64 ga, .slice P np p, .bool gd] rfl rfl (whl_trn (whl_alloc (whl_new (w3.alloc _) _ _ (by simp)) _) t4 (by omega)) Try.sizeHart rfl rfl ?_; intro w5 h6 t5)
    | (refine wpList_store_all rfl 55 (.tmp 15) (.tmp 35) rfl (w3.heap.size + 1 + 1) _ _ #[.int .i64 bb.mode, .int .i64 bb.base, .slice Q q kq, .int .i64 bb.orders.page, .int .i64 bb.orders.head, .int .i64 bb.orders.tail, .bool bb.stopped, .int .i64 bb.fences, .int .i64 bb.faults.page, .int .i64 bb.faults.head, .int .i64 bb.faults.tail, .bool bb.lost] rfl rfl (whl_trn (whl_trn (whl_new ((w3.alloc _).alloc _) _ _ (by simp)) t4 (by omega)) t5 (by omega)) Try.sizeBrg rfl rfl ?_; intro w6 h7 t6))
  have hw4 := t4.2
  have hw5 := t5.2
  have hw6 := t6.2
  (try simp only [World.size_alloc] at hw4)
  have hz6a : w6.heap.size ≤ w3.heap.size + 3 := by omega
  have hz6b : w3.heap.size + 3 ≤ w6.heap.size := by omega
  have C6 := chg_trans (chg_trans (chg_mono (Q := fun q => w3.heap.size ≤ q) t4.1 (fun q _ e => by omega)) (chg_mono t5.1 (fun q _ e => by omega))) (chg_mono t6.1 (fun q _ e => by omega))
  have hb : Below w3.heap.size w3 w6 := below_chg ((((Below.refl w3.heap.size w3).alloc (Nat.le_refl _) _).alloc (by simp) _).alloc (by simp; omega) _) (by simp; omega) C6 (fun q hq e => by omega)
  have H5 := Lib.hid (whl_trn (whl_trn h5 t5 (by omega)) t6 (by omega))
  have H6 := Lib.hid (whl_trn h6 t6 (by omega))
  have H7 := Lib.hid h7
  replace H0 := Lib.hid (whl_since H0.out hb)
  replace H1 := Lib.hid (whl_since H1.out hb)
  replace H2 := Lib.hid (whl_since H2.out hb)
  replace H3 := Lib.hid (whl_since H3.out hb)
  replace HB := Lib.hid (HB.out.trans (hb.mono HB.out.size))
  replace IN := Lib.hid (ints_now IN.out hb)
  replace H4 := Lib.hid (whl_since H4.out hb)
  replace IX := Lib.hid (ints_now IX.out hb)
  replace IR := Lib.hid (ints_now IR.out hb)
  replace IL := Lib.hid (lines_now IL.out hb)
  clear hb C6 t4 t5 t6 h5 h6 h7 hw4 hw5 hw6
  go_wp2_with (refine wpList_load_whl rfl 24 (.tmp 5) rfl (w.heap.size) _ _ rfl H0.out _ Try.underlying24 rfl Try.sizeMem ?_)
  refine (ref_CheckMem M nm mc xs _ (ints_now HM.out HB.out)).mono ?_
  rintro e w7 ⟨rfl, hb⟩
  replace H0 := Lib.hid (whl_since H0.out hb)
  replace H1 := Lib.hid (whl_since H1.out hb)
  replace H2 := Lib.hid (whl_since H2.out hb)
  replace H3 := Lib.hid (whl_since H3.out hb)
  replace HB := Lib.hid (HB.out.trans (hb.mono HB.out.size))
  replace IN := Lib.hid (ints_now IN.out hb)
  replace H4 := Lib.hid (whl_since H4.out hb)
  replace IX := Lib.hid (ints_now IX.out hb)
  replace IR := Lib.hid (ints_now IR.out hb)
  replace IL := Lib.hid (lines_now IL.out hb)
  replace H5 := Lib.hid (whl_since H5.out hb)
  replace H6 := Lib.hid (whl_since H6.out hb)
  replace H7 := Lib.hid (whl_since H7.out hb)
  clear hb
  have y1 : (cm xs == 0) = false := beq_eq_false_iff_ne.2 Hc1.out
  have y2 : (cm xs != 0) = true := by rw [bne_iff_ne]; exact Hc1.out
  go_upto_region 11 with (fail)
  generalize hwb : (w7.alloc (.cells zeros8 3)).alloc (.cells #[.int .i64 k, .slice (some ⟨w7.heap.size, 0, none⟩) 8 8, .bool false] 53) = wv
  have HZ8 := Lib.hid (show Whl wv (w7.heap.size + 1) 53 #[.int .i64 k, .slice (some ⟨w7.heap.size, 0, none⟩) 8 8, .bool false] by rw [← hwb]; exact whl_new _ _ _ (by simp))
  have IZ8 := Lib.hid (show Ints wv wv.heap.size (some ⟨w7.heap.size, 0, none⟩) 8 (List.replicate 8 0) by rw [← hwb]; exact ints_now ((own_zeros8 w7).ints (by decide)) (below_alloc _ _))
  have HWV := Lib.hid (show Below w7.heap.size w7 wv by rw [← hwb]; exact ((Below.refl _ _).alloc (Nat.le_refl _) _).alloc (by simp) _)
  clear hwb hmk
  obtain ⟨bk, hbk⟩ : ∃ bk : Bool, bk = decide (k < 0 ∨ 511 < k) := ⟨_, rfl⟩
  have HBK := Lib.hid hbk
  clear hbk
  go_cut [61] (fun s wd => s = .bool bk ∧ wd = wv)
  case first =>
    rcases Int.lt_or_le k 0 with i1 | i1
    · go_wp2
      go_meet
      exact ⟨by rw [HBK.out]; simp [i1], rfl⟩
    · rcases Int.lt_or_le 511 k with i2 | i2
      · have i3 : ¬ k < 0 := by omega
        go_wp2
        go_meet
        exact ⟨by rw [HBK.out]; simp [i2, i3], rfl⟩
      · have i3 : ¬ k < 0 := by omega
        have i4 : ¬ 511 < k := by omega
        go_wp2
        go_meet
        exact ⟨by rw [HBK.out]; simp [i3, i4], rfl⟩
  case rest =>
  obtain ⟨rfl, rfl⟩ := hcut
  obtain ⟨wv, hwv⟩ : ∃ wv, wv = wc := ⟨_, rfl⟩
  subst hwv
  go_upto_if 61 with (fail)
  go_cut [19] (fun s wd => ∃ F f, s = .int .i64 (newE k) ∧ Whl wd (w7.heap.size + 1) 53 #[.int .i64 (newH k).at_, .slice F (newN k) f, .bool (newH k).done] ∧ Ints wd wd.heap.size F (newN k) (newH k).regs ∧ Since w7 wd)
  case first =>
    cases bk
    · have HK := Lib.hid (show 0 ≤ k ∧ k < 512 by have h := of_decide_eq_false HBK.out.symm; omega)
      go_wp2
      go_meet
      have hk := HK.out
      rw [show newH k = ⟨k, List.replicate 8 0, false⟩ by unfold newH; rw [if_pos hk], show newN k = 8 by unfold newN; rw [if_pos hk], show newE k = 0 by unfold newE; rw [if_pos hk]]
      exact ⟨_, _, rfl, HZ8.out, IZ8.out, HWV.out⟩
    · have HK := Lib.hid (show ¬ (0 ≤ k ∧ k < 512) by have h := of_decide_eq_true HBK.out.symm; omega)
      go_wp2_with (refine wpList_store_all rfl 53 (.tmp 18) (.tmp 62) rfl (w7.heap.size + 1) _ _ #[.int .i64 0, .slice none 0 0, .bool false] rfl rfl HZ8.out Try.sizeHart rfl rfl ?_; intro wn hh8 th8)
      go_meet
      have hk := HK.out
      rw [show newH k = .no by unfold newH; rw [if_neg hk], show newN k = 0 by unfold newN; rw [if_neg hk], show newE k = 2 by unfold newE; rw [if_neg hk]]
      exact ⟨none, 0, rfl, hh8, ints_none' _ _, below_trn HWV.out HWV.out.size th8 (by omega)⟩
  case rest =>
  obtain ⟨F, f, rfl, hk8, hxf, hb⟩ := hcut
  have H8 := Lib.hid hk8
  have IF := Lib.hid hxf
  change Below w7.heap.size w7 wc at hb
  replace H0 := Lib.hid (whl_since H0.out hb)
  replace H1 := Lib.hid (whl_since H1.out hb)
  replace H2 := Lib.hid (whl_since H2.out hb)
  replace H3 := Lib.hid (whl_since H3.out hb)
  replace HB := Lib.hid (HB.out.trans (hb.mono HB.out.size))
  replace IN := Lib.hid (ints_now IN.out hb)
  replace H4 := Lib.hid (whl_since H4.out hb)
  replace IX := Lib.hid (ints_now IX.out hb)
  replace IR := Lib.hid (ints_now IR.out hb)
  replace IL := Lib.hid (lines_now IL.out hb)
  replace H5 := Lib.hid (whl_since H5.out hb)
  replace H6 := Lib.hid (whl_since H6.out hb)
  replace H7 := Lib.hid (whl_since H7.out hb)
  clear hk8 hxf hb HZ8 IZ8 HWV
  obtain ⟨wx, hwx⟩ : ∃ wx, wx = wc := ⟨_, rfl⟩
  subst hwx
  have D1 : Hid (HrtAt wx (w.heap.size + 1) (⟨at_, rs, dn⟩ : Hrt) R nr rc) := Lib.hid ⟨whl_cell H1.out 0, whl_cell H1.out 1, whl_cell H1.out 2⟩
  have D2 : Hid (HrtAt wx (w.heap.size + 1 + 1 + 1) g G ng gc) := Lib.hid ⟨whl_cell H3.out 0, whl_cell H3.out 1, whl_cell H3.out 2⟩
  have D3 : Hid (HrtAt wx w1.heap.size (newH k) A1 (newN k) a1) := Lib.hid ⟨whl_cell H4.out 0, whl_cell H4.out 1, whl_cell H4.out 2⟩
  have D4 : Hid (HrtAt wx (w7.heap.size + 1) (newH k) F (newN k) f) := Lib.hid ⟨whl_cell H8.out 0, whl_cell H8.out 1, whl_cell H8.out 2⟩
  have LH := Lib.hid (ints_now HR.out HB.out)
  have LG := Lib.hid (ints_now HG.out HB.out)
  go_upto_region 13 with (fail)
  go_cut [91] (fun s wd => s = .bool false ∧ Hid (Since wx wd))
  case first =>
    go_region_held3 (fun W => W.cell? ⟨w.heap.size + 1, 0, none⟩ = some (.int .i64 at_) ∧ W.cell? ⟨w.heap.size + 1, 1, none⟩ = some (.slice R nr rc) ∧ W.cell? ⟨w.heap.size + 1, 2, none⟩ = some (.bool dn) ∧ W.cell? ⟨w.heap.size + 1 + 1 + 1, 0, none⟩ = some (.int .i64 g.at_) ∧ W.cell? ⟨w.heap.size + 1 + 1 + 1, 1, none⟩ = some (.slice G ng gc) ∧ W.cell? ⟨w.heap.size + 1 + 1 + 1, 2, none⟩ = some (.bool g.done) ∧ W.cell? ⟨w1.heap.size, 0, none⟩ = some (.int .i64 (newH k).at_) ∧ W.cell? ⟨w1.heap.size, 1, none⟩ = some (.slice A1 (newN k) a1) ∧ W.cell? ⟨w1.heap.size, 2, none⟩ = some (.bool (newH k).done) ∧ W.cell? ⟨w7.heap.size + 1, 0, none⟩ = some (.int .i64 (newH k).at_) ∧ W.cell? ⟨w7.heap.size + 1, 1, none⟩ = some (.slice F (newN k) f) ∧ W.cell? ⟨w7.heap.size + 1, 2, none⟩ = some (.bool (newH k).done) ∧ Hid (Since wx W))
      (((with_reducible refine keep12 (h1 := (⟨at_, rs, dn⟩ : Hrt)) ?_ D1.out D2.out D3.out D4.out); (repeat (first | (with_reducible assumption) | (with_reducible exact since_refl _) | (with_reducible exact since_12 (by assumption)) | (with_reducible exact since_step (by assumption) (since_12 (by assumption))) | (with_reducible refine since_drew ?_) | (with_reducible refine since_alloc ?_ _) | ((with_reducible refine since_set ?_ ?_ _); rotate_left; exact (by first | (simp; done) | (simp; omega) | omega)))); done))
      (first
        | (go_at_call 65; with_reducible refine (ref_SameHart (newH k) (newH k) _ _ _ _ _ _ _ ?_ ?_).mono ?_; (with_reducible exact ints_snc IN.out (since_12 (by assumption))); (with_reducible exact ints_snc IF.out (since_12 (by assumption))); rw [same_meH]; rintro e w' ⟨rfl, hb'⟩)
        | (go_at_call 51; refine (law_ran _).mono ?_; rintro e w' ⟨rfl, hb'⟩)
        | (go_at_call 63; refine (hart_Check (⟨at_, rs, dn⟩ : Hrt) _ _ _ _ ?_).mono ?_; (with_reducible exact ints_snc LH.out (since_12 (by assumption))); rintro e w' ⟨rfl, hb'⟩)
        | (go_at_call 62; refine (ref_CheckHart (⟨at_, rs, dn⟩ : Hrt) _ _ _ _ ?_).mono ?_; (with_reducible exact ints_snc LH.out (since_12 (by assumption))); rintro e w' ⟨rfl, hb'⟩)
        | (go_at_call 64; refine (hart_Same (⟨at_, rs, dn⟩ : Hrt) g _ _ _ _ _ _ _ ?_ ?_).mono ?_; (with_reducible exact ints_snc LH.out (since_12 (by assumption))); (with_reducible exact ints_snc LG.out (since_12 (by assumption))); rintro e w' ⟨rfl, hb'⟩)
        | (go_at_call 65; refine (ref_SameHart (⟨at_, rs, dn⟩ : Hrt) g _ _ _ _ _ _ _ ?_ ?_).mono ?_; (with_reducible exact ints_snc LH.out (since_12 (by assumption))); (with_reducible exact ints_snc LG.out (since_12 (by assumption))); rintro e w' ⟨rfl, hb'⟩))
    all_goals
      rename_i hHeld
      have HS := Lib.hid (since_12 hHeld)
      clear hHeld
      go_wp2
      go_meet
      exact ⟨rfl, HS.out⟩
  case rest =>
  obtain ⟨rfl, hb0⟩ := hcut
  have hb := hb0.out
  change Below wx.heap.size wx wc at hb
  replace H0 := Lib.hid (whl_since H0.out hb)
  replace H1 := Lib.hid (whl_since H1.out hb)
  replace H2 := Lib.hid (whl_since H2.out hb)
  replace H3 := Lib.hid (whl_since H3.out hb)
  replace HB := Lib.hid (HB.out.trans (hb.mono HB.out.size))
  replace IN := Lib.hid (ints_now IN.out hb)
  replace H4 := Lib.hid (whl_since H4.out hb)
  replace IX := Lib.hid (ints_now IX.out hb)
  replace IR := Lib.hid (ints_now IR.out hb)
  replace IL := Lib.hid (lines_now IL.out hb)
  replace H5 := Lib.hid (whl_since H5.out hb)
  replace H6 := Lib.hid (whl_since H6.out hb)
  replace H7 := Lib.hid (whl_since H7.out hb)
  replace H8 := Lib.hid (whl_since H8.out hb)
  replace IF := Lib.hid (ints_now IF.out hb)
  clear hb0 hb D1 D2 D3 D4 LH LG
  have hna : na = 0 := by rw [← IX.out.len, HNO.out.1]; rfl
  have f5 : wc.cell? ⟨w3.heap.size, 0, none⟩ = some (.slice A 0 a) := (whl_cell H5.out 0).trans (by show some (Value.slice A na a) = _; rw [hna])
  clear hna
  have f6 := fun o => whl_cell H6.out o
  have f7 := fun o => whl_cell H7.out o
  go_wp2_with fail
  clear f5 f6 f7
  refine (ref_SameHart ⟨ga, gr, gd⟩ .no P none np p 0 0 _ IR.out ⟨rfl, by unfold maxLen; omega, Row.nil_⟩).mono ?_
  rw [show sameH (⟨ga, gr, gd⟩ : Hrt) .no = true by rw [HNO.out.2.1]; exact same_meH _]
  rintro e wy ⟨rfl, hb⟩
  replace H0 := Lib.hid (whl_since H0.out hb)
  replace H1 := Lib.hid (whl_since H1.out hb)
  replace H2 := Lib.hid (whl_since H2.out hb)
  replace H3 := Lib.hid (whl_since H3.out hb)
  replace HB := Lib.hid (HB.out.trans (hb.mono HB.out.size))
  replace IN := Lib.hid (ints_now IN.out hb)
  replace H4 := Lib.hid (whl_since H4.out hb)
  replace IX := Lib.hid (ints_now IX.out hb)
  replace IR := Lib.hid (ints_now IR.out hb)
  replace IL := Lib.hid (lines_now IL.out hb)
  replace H5 := Lib.hid (whl_since H5.out hb)
  replace H6 := Lib.hid (whl_since H6.out hb)
  replace H7 := Lib.hid (whl_since H7.out hb)
  replace H8 := Lib.hid (whl_since H8.out hb)
  replace IF := Lib.hid (ints_now IF.out hb)
  clear hb
  have f7 := fun o => whl_cell H7.out o
  go_wp2_with fail
  clear f7
  refine (ref_SameBridge bb .no Q none q kq 0 0 _ IL.out (lines_none _ _)).mono ?_
  rw [show sameB bb .no = true by rw [HNO.out.2.2]; exact same_meB _]
  rintro e wz ⟨rfl, hb⟩
  have HE9 := Lib.hid (HB.out.trans (hb.mono HB.out.size))
  clear hb
  go_wp2
  go_ret
  exact ⟨rfl, HE9.out⟩
end Go.Proofs.Ytbopdijnojaaiab
