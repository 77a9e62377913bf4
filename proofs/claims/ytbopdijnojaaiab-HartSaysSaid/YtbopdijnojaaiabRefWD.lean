/- The hart: the walk of the document's Stepped, part D. No statement of the seat is proved here. -/
import Derived.Test.YtbopdijnojaaiabRefW
namespace Go.Proofs.Ytbopdijnojaaiab
open Go.RowKit
set_option linter.unusedSimpArgs false
set_option linter.unusedVariables false

section
variable (xs : List Int) (at_ : Int) (rs : List Int) (b : Brg) (M R L : Option Addr) (mc rc n c : Nat) (w : World) (hm : Ints w w.heap.size M 512 xs) (hr : Ints w w.heap.size R 8 rs) (hl : Lines w w.heap.size L n c b.cache) (c1 : cm xs = 0) (c2 : ckH ⟨at_, rs, false⟩ = 0)
set_option maxRecDepth 100000 in
set_option maxHeartbeats 8000000 in
include hm hr hl c1 c2 in
theorem stp_7n (ka kd ki : Nat) (hV : rdV (rd xs at_) = .tuple #[.agg #[.int .i64 7, .int .i64 ka, .int .i64 kd, .int .i64 ki], .int .i64 0]) (ha : ka < 8) (hd : kd < 8) (hi : ki ≤ 63) (hq : ¬ rd rs ka ≤ outMost ki) :
    Calls Try.prog 66 #[.agg #[.slice M 512 mc], .agg #[.int .i64 at_, .slice R 8 rc, .bool false], .agg #[.int .i64 b.mode, .int .i64 b.base, .slice L n c, .int .i64 b.orders.page, .int .i64 b.orders.head, .int .i64 b.orders.tail, .bool b.stopped, .int .i64 b.fences, .int .i64 b.faults.page, .int .i64 b.faults.head, .int .i64 b.faults.tail, .bool b.lost]] w (StpW w M R L n c (xs, ⟨at_, rs, true⟩, b)) := by
  have HC2 := Lib.hid c2
  have HXL := Lib.hid (cm_inv c1).1
  have HM := Lib.hid hm
  have HR := Lib.hid hr
  have HL := Lib.hid hl
  have hAt := (ckH_inv c2).2.1
  simp only [] at hAt
  obtain ⟨hAt1, hAt2⟩ := hAt
  have HRL := Lib.hid (show rs.length = 8 from (ckH_inv c2).1)
  obtain ⟨gM, oM, rfl, lM, hMc⟩ := hm.at_ (by decide)
  obtain ⟨gR, oR, rfl, lR, hRc⟩ := hr.at_ (by decide)
  have HX := Lib.hid (hMc _ _ (rd_atW (k := at_) (cm_inv c1).1 hAt1 hAt2))
  have HMC := Lib.hid hMc
  have HRC := Lib.hid hRc
  clear hm hr hl c1 c2 hMc hRc
  go_enter Try.func66, Try.ntmps66
  go_upto_region 1 with (fail)
  generalize hw0 : (((((w.alloc (.cells #[.slice (some ⟨gM, oM, none⟩) 512 mc] 24)).alloc (.cells #[.int .i64 at_, .slice (some ⟨gR, oR, none⟩) 8 rc, .bool false] 53)).alloc (.cells #[.int .i64 b.mode, .int .i64 b.base, .slice L n c, .int .i64 b.orders.page, .int .i64 b.orders.head, .int .i64 b.orders.tail, .bool b.stopped, .int .i64 b.fences, .int .i64 b.faults.page, .int .i64 b.faults.head, .int .i64 b.faults.tail, .bool b.lost] 55)).alloc (.cells #[.slice none 0 0] 24)).alloc (.cells #[.int .i64 0, .slice none 0 0, .bool false] 53)).alloc (.cells #[.int .i64 0, .int .i64 0, .slice none 0 0, .int .i64 0, .int .i64 0, .int .i64 0, .bool false, .int .i64 0, .int .i64 0, .int .i64 0, .int .i64 0, .bool false] 55) = w0
  have H0 := Lib.hid (show Whl w0 w.heap.size 24 #[.slice (some ⟨gM, oM, none⟩) 512 mc] by rw [← hw0]; exact whl_alloc (whl_alloc (whl_alloc (whl_alloc (whl_alloc (whl_new _ _ _ rfl) _) _) _) _) _)
  have H1 := Lib.hid (show Whl w0 (w.heap.size + 1) 53 #[.int .i64 at_, .slice (some ⟨gR, oR, none⟩) 8 rc, .bool false] by rw [← hw0]; exact whl_alloc (whl_alloc (whl_alloc (whl_alloc (whl_new _ _ _ (by simp)) _) _) _) _)
  have H2 := Lib.hid (show Whl w0 (w.heap.size + 1 + 1) 55 #[.int .i64 b.mode, .int .i64 b.base, .slice L n c, .int .i64 b.orders.page, .int .i64 b.orders.head, .int .i64 b.orders.tail, .bool b.stopped, .int .i64 b.fences, .int .i64 b.faults.page, .int .i64 b.faults.head, .int .i64 b.faults.tail, .bool b.lost] by rw [← hw0]; exact whl_alloc (whl_alloc (whl_alloc (whl_new _ _ _ (by simp)) _) _) _)
  have H3 := Lib.hid (show Whl w0 (w.heap.size + 1 + 1 + 1) 24 #[.slice none 0 0] by rw [← hw0]; exact whl_alloc (whl_alloc (whl_new _ _ _ (by simp)) _) _)
  have H4 := Lib.hid (show Whl w0 (w.heap.size + 1 + 1 + 1 + 1) 53 #[.int .i64 0, .slice none 0 0, .bool false] by rw [← hw0]; exact whl_alloc (whl_new _ _ _ (by simp)) _)
  have H5 := Lib.hid (show Whl w0 (w.heap.size + 1 + 1 + 1 + 1 + 1) 55 #[.int .i64 0, .int .i64 0, .slice none 0 0, .int .i64 0, .int .i64 0, .int .i64 0, .bool false, .int .i64 0, .int .i64 0, .int .i64 0, .int .i64 0, .bool false] by rw [← hw0]; exact whl_new _ _ _ (by simp))
  have HB := Lib.hid (show Below w.heap.size w w0 by rw [← hw0]; (repeat (first | (with_reducible exact Below.refl _ _) | (with_reducible refine Below.drew ?_) | (with_reducible refine bdrewN ?_ _) | ((with_reducible refine Below.setCell ?_ ?_ _); rotate_left; exact (by first | (simp; done) | (simp; omega) | omega)) | ((with_reducible refine Below.alloc ?_ ?_ _); rotate_left; exact (by first | (simp; done) | (simp; omega) | omega)))))
  have hz0a : w0.heap.size ≤ w.heap.size + 6 := by rw [← hw0]; simp
  have hz0b : w.heap.size + 6 ≤ w0.heap.size := by rw [← hw0]; simp
  clear hw0
  have k0 := fun o => whl_cell H0.out o
  have k1 := fun o => whl_cell H1.out o
  have kx : w0.cell? ⟨gM, oM + at_.toNat, none⟩ = some (.int .i64 (rd xs at_)) := (HB.out.cell (p := ⟨gM, oM + at_.toNat, none⟩) lM).trans HX.out
  go_wp2_with fail
  refine (ref_InsOf _ _).mono ?_
  rw [hV]
  clear k0 k1 kx
  rintro e w1 ⟨rfl, hb⟩
  have hz1 : w0.heap.size ≤ w1.heap.size := hb.size
  replace H0 := Lib.hid (whl_since H0.out hb)
  replace H1 := Lib.hid (whl_since H1.out hb)
  replace H2 := Lib.hid (whl_since H2.out hb)
  replace H3 := Lib.hid (whl_since H3.out hb)
  replace H4 := Lib.hid (whl_since H4.out hb)
  replace H5 := Lib.hid (whl_since H5.out hb)
  replace HB := Lib.hid (HB.out.trans (hb.mono HB.out.size))
  clear hb
  go_upto_region 3 with (fail)
  generalize hw2 : w1.alloc (.cells #[.int .i64 7, .int .i64 ka, .int .i64 kd, .int .i64 ki] 144) = w2
  have H6 := Lib.hid (show Whl w2 w1.heap.size 144 #[.int .i64 7, .int .i64 ka, .int .i64 kd, .int .i64 ki] by rw [← hw2]; exact whl_new _ _ _ rfl)
  have hb : Below w1.heap.size w1 w2 := by rw [← hw2]; exact below_alloc _ _
  have hz2a : w2.heap.size ≤ w1.heap.size + 1 := by rw [← hw2]; simp
  have hz2b : w1.heap.size + 1 ≤ w2.heap.size := by rw [← hw2]; simp
  replace H0 := Lib.hid (whl_since H0.out hb)
  replace H1 := Lib.hid (whl_since H1.out hb)
  replace H2 := Lib.hid (whl_since H2.out hb)
  replace H3 := Lib.hid (whl_since H3.out hb)
  replace H4 := Lib.hid (whl_since H4.out hb)
  replace H5 := Lib.hid (whl_since H5.out hb)
  replace HB := Lib.hid (HB.out.trans (hb.mono HB.out.size))
  clear hb hw2
  go_upto_region 5 with (fail)
  have e1 : IntKind.i64.wrap (at_ + 1) = at_ + 1 := IntWalk.i64_in _ (by omega)
  have e2 : (at_ + 1).tmod 512 = (at_ + 1) % 512 := Int.tmod_eq_emod_of_nonneg (by omega)
  obtain ⟨i0, hi0, hz0, hz1', hz2⟩ := info_parts Try.infoInt
  have HI := Lib.hid hi0; clear hi0
  have HZ0 := Lib.hid hz0; clear hz0
  have HZ1 := Lib.hid hz1'; clear hz1'
  have HZ2 := Lib.hid hz2; clear hz2
  have hn1 := own_empty (w2.alloc (.cells #[.int .i64 0, .slice none 0 0, .bool false] 53)) 3 1
  have hn2 := own_empty w2 3 1
  simp only [World.size_alloc] at hn1 hn2
  have HN1 := Lib.hid (own_low hn1 (B' := w2.heap.size) (by omega))
  have HN2 := Lib.hid (own_below hn2 (below_alloc _ (.cells #[.int .i64 0, .slice none 0 0, .bool false] 53)))
  have HN3 := Lib.hid hn2
  clear hn1 hn2
  have HONE := Lib.hid (ints_one rs)
  have HC1 : Hid ((rs.map (Value.int .i64)).length = 8 * 1) := by show _ = _; rw [List.length_map, HRL.out]
  have HNW : Hid (∀ W : World, Below w.heap.size w W → ∀ j u, (rs.map (Value.int .i64))[j]? = some u → W.cell? ((⟨gR, oR, none⟩ : Addr).add j) = some u) := Lib.hid (fun W hW j u hu => by
    rw [List.getElem?_map, Option.map_eq_some_iff] at hu
    obtain ⟨x, hx, rfl⟩ := hu
    rw [add_at]
    exact (hW.cell (p := ⟨gR, oR + j, none⟩) lR).trans (HRC.out j x hx))
  have HK0 : Hid (w2.cell? ⟨w.heap.size + 1, 0, none⟩ = some (.int .i64 at_)) := Lib.hid (whl_cell H1.out 0)
  have HK1 : Hid (w2.cell? ⟨w.heap.size + 1, 1, none⟩ = some (.slice (some ⟨gR, oR, none⟩) 8 rc)) := Lib.hid (whl_cell H1.out 1)
  have yy1 : w.heap.size + 1 < w2.heap.size := by omega
  have yy2 : w.heap.size + 1 < w2.heap.size + 1 := by omega
  have yy3 : w.heap.size + 1 < w2.heap.size + 1 + 1 := by omega
  have yy4 : w.heap.size ≤ w2.heap.size := by omega
  have yy5 : w.heap.size ≤ w2.heap.size + 1 := by omega
  go_cut [12] (fun s12 wd => NewW w2 ((at_ + 1) % 512) rs s12 wd)
  case first =>
    go_region_held3 (fun W => W.cell? ⟨w.heap.size + 1, 0, none⟩ = some (.int .i64 at_) ∧ W.cell? ⟨w.heap.size + 1, 1, none⟩ = some (.slice (some ⟨gR, oR, none⟩) 8 rc) ∧ Hid (Since w2 W)) (((with_reducible refine keep2w ?_ HK0.out HK1.out); (repeat (first | (with_reducible assumption) | (with_reducible exact since_refl _) | (with_reducible exact since_of2 (by assumption)) | (with_reducible exact since_step (by assumption) (since_of2 (by assumption))) | (with_reducible refine since_drew ?_) | (with_reducible refine since_alloc ?_ _) | ((with_reducible refine since_set ?_ ?_ _); rotate_left; exact (by first | (simp; done) | (simp; omega) | omega)))); done)) (first
      | (refine step_append_lies _ (by rfl) (.tmp 41) (.tmp 43) 22 (by rfl) w2.heap.size 3 i0 (.int .i64 0) 1 8 Try.underlying22 HI.out HZ0.out HZ1.out HZ2.out (by rfl) (by decide) (.slice (some ⟨w2.heap.size + 1, 0, none⟩) 0 0) 0 [] (by rfl) HN1.out ⟨gR, oR, none⟩ 8 rc (rs.map (Value.int .i64)) (by rfl) HC1.out (HNW.out _ (by (repeat (first | (with_reducible exact Below.refl _ _) | (with_reducible refine Below.drew ?_) | (with_reducible refine bdrewN ?_ _) | ((with_reducible refine Below.setCell ?_ ?_ _); rotate_left; exact (by first | (simp; done) | (simp; omega) | omega)) | ((with_reducible refine Below.alloc ?_ ?_ _); rotate_left; exact (by first | (simp; done) | (simp; omega) | omega)) | ((with_reducible refine Below.trans ?_ (HB.out.mono ?_)); rotate_left; exact (by first | (simp; done) | (simp; omega) | omega)))))) HONE.out (by decide) (by unfold maxLen; omega) (by omega) (by first | (simp; done) | (simp; omega) | omega) _ rfl ?_; intro g cap w5 hown5 hgrow hat hlt; have HBW := Lib.hid (Below.grown (B := w2.heap.size) (a := w2) (by (repeat (first | (with_reducible exact Below.refl _ _) | (with_reducible refine Below.drew ?_) | (with_reducible refine bdrewN ?_ _) | ((with_reducible refine Below.setCell ?_ ?_ _); rotate_left; exact (by first | (simp; done) | (simp; omega) | omega)) | ((with_reducible refine Below.alloc ?_ ?_ _); rotate_left; exact (by first | (simp; done) | (simp; omega) | omega))))) hgrow (by first | (simp; done) | (simp; omega) | omega) (by intro k hk; simp [Value.ownBlock] at hk; omega)); have HO5 : Hid (OwnI w2.heap.size w5 (some ⟨g, 0, none⟩) 8 cap rs) := Lib.hid ⟨HRL.out, by simpa using hown5⟩; simp [Value.ownBlock] at hat; have WB : Hid (Whl w5 (w2.heap.size) 53 #[.int .i64 0, .slice none 0 0, .bool false]) := Lib.hid ((hgrow.block (w2.heap.size) (by first | (simp; done) | (simp; omega) | omega) (by simp [Value.ownBlock])).trans (by exact whl_alloc (whl_new _ _ _ rfl) _)); have kb := fun o => hgrow.cell_far ⟨w2.heap.size, o, none⟩ (by first | (simp; done) | (simp; omega) | omega) (by simp [Value.ownBlock]); have fb := fun o => hgrow.frozen_far ⟨w2.heap.size, o, none⟩ (by first | (simp; done) | (simp; omega) | omega) (by simp [Value.ownBlock]); simp (maxDischargeDepth := 6) [go_sem] at kb fb; have HS5 : Since w2 w5 := HBW.out; have hz5 := HBW.out.size; have hz6 := hgrow.size; (try simp only [World.size_alloc, World.size_drew] at hz5 hz6); have HSX : Hid (Since w2 w5) := Lib.hid HS5; clear hgrow hown5)
      | (refine step_append_lies _ (by rfl) (.tmp 41) (.tmp 43) 22 (by rfl) w2.heap.size 3 i0 (.int .i64 0) 1 8 Try.underlying22 HI.out HZ0.out HZ1.out HZ2.out (by rfl) (by decide) (.slice (some ⟨w2.heap.size, 0, none⟩) 0 0) 0 [] (by rfl) HN2.out ⟨gR, oR, none⟩ 8 rc (rs.map (Value.int .i64)) (by rfl) HC1.out (HNW.out _ (by (repeat (first | (with_reducible exact Below.refl _ _) | (with_reducible refine Below.drew ?_) | (with_reducible refine bdrewN ?_ _) | ((with_reducible refine Below.setCell ?_ ?_ _); rotate_left; exact (by first | (simp; done) | (simp; omega) | omega)) | ((with_reducible refine Below.alloc ?_ ?_ _); rotate_left; exact (by first | (simp; done) | (simp; omega) | omega)) | ((with_reducible refine Below.trans ?_ (HB.out.mono ?_)); rotate_left; exact (by first | (simp; done) | (simp; omega) | omega)))))) HONE.out (by decide) (by unfold maxLen; omega) (by omega) (by first | (simp; done) | (simp; omega) | omega) _ rfl ?_; intro g cap w5 hown5 hgrow hat hlt; have HBW := Lib.hid (Below.grown (B := w2.heap.size) (a := w2) (by (repeat (first | (with_reducible exact Below.refl _ _) | (with_reducible refine Below.drew ?_) | (with_reducible refine bdrewN ?_ _) | ((with_reducible refine Below.setCell ?_ ?_ _); rotate_left; exact (by first | (simp; done) | (simp; omega) | omega)) | ((with_reducible refine Below.alloc ?_ ?_ _); rotate_left; exact (by first | (simp; done) | (simp; omega) | omega))))) hgrow (by first | (simp; done) | (simp; omega) | omega) (by intro k hk; simp [Value.ownBlock] at hk; omega)); have HO5 : Hid (OwnI w2.heap.size w5 (some ⟨g, 0, none⟩) 8 cap rs) := Lib.hid ⟨HRL.out, by simpa using hown5⟩; simp [Value.ownBlock] at hat; have WB : Hid (Whl w5 (w2.heap.size + 1) 53 #[.int .i64 0, .slice none 0 0, .bool false]) := Lib.hid ((hgrow.block (w2.heap.size + 1) (by first | (simp; done) | (simp; omega) | omega) (by simp [Value.ownBlock])).trans (by exact whl_new _ _ _ (by simp))); have kb := fun o => hgrow.cell_far ⟨w2.heap.size + 1, o, none⟩ (by first | (simp; done) | (simp; omega) | omega) (by simp [Value.ownBlock]); have fb := fun o => hgrow.frozen_far ⟨w2.heap.size + 1, o, none⟩ (by first | (simp; done) | (simp; omega) | omega) (by simp [Value.ownBlock]); simp (maxDischargeDepth := 6) [go_sem] at kb fb; have HS5 : Since w2 w5 := HBW.out; have hz5 := HBW.out.size; have hz6 := hgrow.size; (try simp only [World.size_alloc, World.size_drew] at hz5 hz6); have HSX : Hid (Since w2 w5) := Lib.hid HS5; clear hgrow hown5)
      | (refine step_append_lies _ (by rfl) (.tmp 41) (.tmp 43) 22 (by rfl) w2.heap.size 3 i0 (.int .i64 0) 1 8 Try.underlying22 HI.out HZ0.out HZ1.out HZ2.out (by rfl) (by decide) (.slice (some ⟨w2.heap.size, 0, none⟩) 0 0) 0 [] (by rfl) HN3.out ⟨gR, oR, none⟩ 8 rc (rs.map (Value.int .i64)) (by rfl) HC1.out (HNW.out _ (by (repeat (first | (with_reducible exact Below.refl _ _) | (with_reducible refine Below.drew ?_) | (with_reducible refine bdrewN ?_ _) | ((with_reducible refine Below.setCell ?_ ?_ _); rotate_left; exact (by first | (simp; done) | (simp; omega) | omega)) | ((with_reducible refine Below.alloc ?_ ?_ _); rotate_left; exact (by first | (simp; done) | (simp; omega) | omega)) | ((with_reducible refine Below.trans ?_ (HB.out.mono ?_)); rotate_left; exact (by first | (simp; done) | (simp; omega) | omega)))))) HONE.out (by decide) (by unfold maxLen; omega) (by omega) (by first | (simp; done) | (simp; omega) | omega) _ rfl ?_; intro g cap w5 hown5 hgrow hat hlt; have HBW := Lib.hid (Below.grown (B := w2.heap.size) (a := w2) (by (repeat (first | (with_reducible exact Below.refl _ _) | (with_reducible refine Below.drew ?_) | (with_reducible refine bdrewN ?_ _) | ((with_reducible refine Below.setCell ?_ ?_ _); rotate_left; exact (by first | (simp; done) | (simp; omega) | omega)) | ((with_reducible refine Below.alloc ?_ ?_ _); rotate_left; exact (by first | (simp; done) | (simp; omega) | omega))))) hgrow (by first | (simp; done) | (simp; omega) | omega) (by intro k hk; simp [Value.ownBlock] at hk; omega)); have HO5 : Hid (OwnI w2.heap.size w5 (some ⟨g, 0, none⟩) 8 cap rs) := Lib.hid ⟨HRL.out, by simpa using hown5⟩; simp [Value.ownBlock] at hat; have HS5 : Since w2 w5 := HBW.out; have hz5 := HBW.out.size; have hz6 := hgrow.size; (try simp only [World.size_alloc, World.size_drew] at hz5 hz6); have HSX : Hid (Since w2 w5) := Lib.hid HS5; clear hgrow hown5))
    all_goals
      go_wp2
      go_meet
      refine ⟨_, g, cap, rfl, ?_, ?_, ?_, ?_⟩
      · first
          | (with_reducible exact whl_new _ _ _ rfl)
          | exact whl_field (whl_field (whl_field WB.out 0 _ _ rfl) 1 _ _ rfl) 2 _ _ rfl
      · first
          | (with_reducible exact HO5.out.alloc _)
          | exact ((HO5.out.off (p := ⟨_, 0, none⟩) (by first | (simp; done) | (simp; omega) | omega) _).off (p := ⟨_, 1, none⟩) (by first | (simp; done) | (simp; omega) | omega) _).off (p := ⟨_, 2, none⟩) (by first | (simp; done) | (simp; omega) | omega) _
      · refine ⟨?_, ?_, ?_⟩ <;> first | (simp; done) | (simp; omega) | omega
      · (repeat (first | (with_reducible exact HSX.out) | (with_reducible refine since_alloc ?_ _) | ((with_reducible refine since_set ?_ ?_ _); rotate_left; exact (by first | (simp; done) | (simp; omega) | omega))))
  case rest =>
  obtain ⟨g12, g2, d2, rfl, hN, hO, ⟨hg1, hg2, hg3⟩, hb⟩ := hcut
  have H7 := Lib.hid hN
  have HO := Lib.hid hO
  have HG2 := Lib.hid (own_blk hO.2)
  have hzc : w2.heap.size ≤ wc.heap.size := Below.size hb
  replace H0 := Lib.hid (whl_since H0.out hb)
  replace H1 := Lib.hid (whl_since H1.out hb)
  replace H2 := Lib.hid (whl_since H2.out hb)
  replace H3 := Lib.hid (whl_since H3.out hb)
  replace H4 := Lib.hid (whl_since H4.out hb)
  replace H5 := Lib.hid (whl_since H5.out hb)
  replace HB := Lib.hid (HB.out.trans (hb.mono HB.out.size))
  replace H6 := Lib.hid (whl_since H6.out hb)
  have u0 := (HB.out.cell (p := ⟨gR, oR + ka, none⟩) lR).trans (HRC.out _ _ (rd_atW (k := (ka : Int)) HRL.out (by omega) (by omega)))
  have v0 := (HB.out.cell (p := ⟨gR, oR + kd, none⟩) lR).trans (HRC.out _ _ (rd_atW (k := (kd : Int)) HRL.out (by omega) (by omega)))
  have ub : 0 ≤ rd rs ka ∧ rd rs ka ≤ 65535 := rg_rng (k := (ka : Int)) (ckH_inv HC2.out).2.2
  have vb : 0 ≤ rd rs kd ∧ rd rs kd ≤ 65535 := rg_rng (k := (kd : Int)) (ckH_inv HC2.out).2.2
  have k1 := fun o => whl_cell H1.out o
  have k6 := fun o => whl_cell H6.out o
  clear hN hO hb HN1 HN2 HN3 HC1 HNW HI HZ0 HZ1 HZ2 HONE e1 e2 HK0 HK1 yy1 yy2 yy3 yy4 yy5
  go_upto_region 6 with (fail)
  go_quiet (fail)
  generalize hwq : wc.drewN nq = w6
  have hb : Below wc.heap.size wc w6 := by rw [← hwq]; exact bdrewN (Below.refl _ _) nq
  have hz6a : w6.heap.size ≤ wc.heap.size := by rw [← hwq]; exact Nat.le_refl _
  have hz6b : wc.heap.size ≤ w6.heap.size := hb.size
  replace HO := Lib.hid (show OwnI w2.heap.size w6 (some ⟨g2, 0, none⟩) 8 d2 rs by rw [← hwq]; exact HO.out.drewN nq)
  replace H0 := Lib.hid (whl_since H0.out hb)
  replace H1 := Lib.hid (whl_since H1.out hb)
  replace H2 := Lib.hid (whl_since H2.out hb)
  replace H3 := Lib.hid (whl_since H3.out hb)
  replace H4 := Lib.hid (whl_since H4.out hb)
  replace H5 := Lib.hid (whl_since H5.out hb)
  replace HB := Lib.hid (HB.out.trans (hb.mono HB.out.size))
  replace H6 := Lib.hid (whl_since H6.out hb)
  replace H7 := Lib.hid (whl_since H7.out hb)
  have hg4 : w2.heap.size ≤ g2 := (HG2.out _ rfl).1
  have hg5 : g2 < wc.heap.size := (HG2.out _ rfl).2
  clear hb hwq u0 v0 k1 k6 HG2
  have n6 := fun o => whl_cell H6.out o
  go_upto_region 43 with (first | (refine wpList_load_whl rfl 55 (.tmp 5) rfl (w.heap.size + 1 + 1) _ _ rfl H2.out _ Try.underlying55 rfl Try.sizeBrg ?_) | (refine wpList_store_new rfl 55 (.tmp 17) (.tmp 213) rfl _ _ _ _ rfl rfl (by rfl) (by rfl) Try.sizeBrg rfl (by rfl) ?_))
  generalize hwb : w6.alloc (.cells #[.int .i64 b.mode, .int .i64 b.base, .slice L n c, .int .i64 b.orders.page, .int .i64 b.orders.head, .int .i64 b.orders.tail, .bool b.stopped, .int .i64 b.fences, .int .i64 b.faults.page, .int .i64 b.faults.head, .int .i64 b.faults.tail, .bool b.lost] 55) = w7
  have HQ := Lib.hid (show Whl w7 w6.heap.size 55 #[.int .i64 b.mode, .int .i64 b.base, .slice L n c, .int .i64 b.orders.page, .int .i64 b.orders.head, .int .i64 b.orders.tail, .bool b.stopped, .int .i64 b.fences, .int .i64 b.faults.page, .int .i64 b.faults.head, .int .i64 b.faults.tail, .bool b.lost] by rw [← hwb]; exact whl_new _ _ _ rfl)
  have hb : Below w6.heap.size w6 w7 := by rw [← hwb]; exact below_alloc _ _
  have hz7 : w6.heap.size < w7.heap.size := by rw [← hwb]; simp
  replace HO := Lib.hid (show OwnI w2.heap.size w7 (some ⟨g2, 0, none⟩) 8 d2 rs by rw [← hwb]; exact HO.out.alloc _)
  replace H0 := Lib.hid (whl_since H0.out hb)
  replace H1 := Lib.hid (whl_since H1.out hb)
  replace H2 := Lib.hid (whl_since H2.out hb)
  replace H3 := Lib.hid (whl_since H3.out hb)
  replace H4 := Lib.hid (whl_since H4.out hb)
  replace H5 := Lib.hid (whl_since H5.out hb)
  replace HB := Lib.hid (HB.out.trans (hb.mono HB.out.size))
  replace H6 := Lib.hid (whl_since H6.out hb)
  replace H7 := Lib.hid (whl_since H7.out hb)
  clear hb hwb n6
  (try go_frame)
  go_cut [18] (fun s18 wd => s18 = .int .i64 63 ∧ wd = w7)
  case first =>
    go_wp2
    go_meet
    exact ⟨rfl, rfl⟩
  case rest =>
  obtain ⟨rfl, rfl⟩ := hcut
  obtain ⟨w7, hw7⟩ : ∃ w7, w7 = wc := ⟨_, rfl⟩
  subst hw7
  go_step
  go_step
  go_cut [18] (fun s18 wd => s18 = .int .i64 (outMost ki) ∧ Whl wd w6.heap.size 55 #[.int .i64 (outTo b ki (rd rs ka)).mode, .int .i64 (outTo b ki (rd rs ka)).base, .slice L n c, .int .i64 (outTo b ki (rd rs ka)).orders.page, .int .i64 (outTo b ki (rd rs ka)).orders.head, .int .i64 (outTo b ki (rd rs ka)).orders.tail, .bool (outTo b ki (rd rs ka)).stopped, .int .i64 (outTo b ki (rd rs ka)).fences, .int .i64 (outTo b ki (rd rs ka)).faults.page, .int .i64 (outTo b ki (rd rs ka)).faults.head, .int .i64 (outTo b ki (rd rs ka)).faults.tail, .bool (outTo b ki (rd rs ka)).lost] ∧ Chg (fun q => q = w6.heap.size) w7 wd)
  case first =>
    by_cases z0 : ki = 0
    · as_aux_lemma =>
      have n63 : w7.cell? ⟨w1.heap.size, 3, none⟩ = some (.int .i64 0) := (whl_cell H6.out 3).trans (by show some (Value.int .i64 (ki : Int)) = _; rw [z0]; rfl)
      go_wp2_with ((refine wpList_store_cell rfl 3 (.tmp 219) (.tmp 218) rfl w6.heap.size 0 _ _ #[.int .i64 (rd rs ka), .int .i64 b.base, .slice L n c, .int .i64 b.orders.page, .int .i64 b.orders.head, .int .i64 b.orders.tail, .bool b.stopped, .int .i64 b.fences, .int .i64 b.faults.page, .int .i64 b.faults.head, .int .i64 b.faults.tail, .bool b.lost] (.int .i64 (rd rs ka)) rfl rfl HQ.out Try.sizeInt (of_decide_eq_true rfl) rfl rfl ?_; intro w8 h8 t8))
      go_meet
      exact ⟨by rw [z0]; rfl, whl_is h8 (by rw [z0]; rfl), t8.1⟩
    by_cases z1 : ki = 1
    · as_aux_lemma =>
      have n63 : w7.cell? ⟨w1.heap.size, 3, none⟩ = some (.int .i64 1) := (whl_cell H6.out 3).trans (by show some (Value.int .i64 (ki : Int)) = _; rw [z1]; rfl)
      go_wp2_with ((refine wpList_store_cell rfl 3 (.tmp 223) (.tmp 222) rfl w6.heap.size 1 _ _ #[.int .i64 b.mode, .int .i64 (rd rs ka), .slice L n c, .int .i64 b.orders.page, .int .i64 b.orders.head, .int .i64 b.orders.tail, .bool b.stopped, .int .i64 b.fences, .int .i64 b.faults.page, .int .i64 b.faults.head, .int .i64 b.faults.tail, .bool b.lost] (.int .i64 (rd rs ka)) rfl rfl HQ.out Try.sizeInt (of_decide_eq_true rfl) rfl rfl ?_; intro w8 h8 t8))
      go_meet
      exact ⟨by rw [z1]; rfl, whl_is h8 (by rw [z1]; rfl), t8.1⟩
    by_cases z2 : ki = 2
    · as_aux_lemma =>
      have n63 : w7.cell? ⟨w1.heap.size, 3, none⟩ = some (.int .i64 2) := (whl_cell H6.out 3).trans (by show some (Value.int .i64 (ki : Int)) = _; rw [z2]; rfl)
      go_wp2_with ((refine wpList_store_cell rfl 3 (.tmp 228) (.tmp 226) rfl w6.heap.size 3 _ _ #[.int .i64 b.mode, .int .i64 b.base, .slice L n c, .int .i64 (rd rs ka), .int .i64 b.orders.head, .int .i64 b.orders.tail, .bool b.stopped, .int .i64 b.fences, .int .i64 b.faults.page, .int .i64 b.faults.head, .int .i64 b.faults.tail, .bool b.lost] (.int .i64 (rd rs ka)) rfl rfl HQ.out Try.sizeInt (of_decide_eq_true rfl) rfl rfl ?_; intro w8 h8 t8))
      go_meet
      exact ⟨by rw [z2]; rfl, whl_is h8 (by rw [z2]; rfl), t8.1⟩
    by_cases z3 : ki = 3
    · as_aux_lemma =>
      have n63 : w7.cell? ⟨w1.heap.size, 3, none⟩ = some (.int .i64 3) := (whl_cell H6.out 3).trans (by show some (Value.int .i64 (ki : Int)) = _; rw [z3]; rfl)
      go_wp2_with ((refine wpList_store_cell rfl 3 (.tmp 233) (.tmp 231) rfl w6.heap.size 5 _ _ #[.int .i64 b.mode, .int .i64 b.base, .slice L n c, .int .i64 b.orders.page, .int .i64 b.orders.head, .int .i64 (rd rs ka), .bool b.stopped, .int .i64 b.fences, .int .i64 b.faults.page, .int .i64 b.faults.head, .int .i64 b.faults.tail, .bool b.lost] (.int .i64 (rd rs ka)) rfl rfl HQ.out Try.sizeInt (of_decide_eq_true rfl) rfl rfl ?_; intro w8 h8 t8))
      go_meet
      exact ⟨by rw [z3]; rfl, whl_is h8 (by rw [z3]; rfl), t8.1⟩
    by_cases z5 : ki = 5
    · as_aux_lemma =>
      have n63 : w7.cell? ⟨w1.heap.size, 3, none⟩ = some (.int .i64 5) := (whl_cell H6.out 3).trans (by show some (Value.int .i64 (ki : Int)) = _; rw [z5]; rfl)
      go_wp2_with ((refine wpList_store_cell rfl 3 (.tmp 238) (.tmp 236) rfl w6.heap.size 8 _ _ #[.int .i64 b.mode, .int .i64 b.base, .slice L n c, .int .i64 b.orders.page, .int .i64 b.orders.head, .int .i64 b.orders.tail, .bool b.stopped, .int .i64 b.fences, .int .i64 (rd rs ka), .int .i64 b.faults.head, .int .i64 b.faults.tail, .bool b.lost] (.int .i64 (rd rs ka)) rfl rfl HQ.out Try.sizeInt (of_decide_eq_true rfl) rfl rfl ?_; intro w8 h8 t8))
      go_meet
      exact ⟨by rw [z5]; rfl, whl_is h8 (by rw [z5]; rfl), t8.1⟩
    by_cases z6 : ki = 6
    · as_aux_lemma =>
      have n63 : w7.cell? ⟨w1.heap.size, 3, none⟩ = some (.int .i64 6) := (whl_cell H6.out 3).trans (by show some (Value.int .i64 (ki : Int)) = _; rw [z6]; rfl)
      go_wp2_with ((refine wpList_store_cell rfl 3 (.tmp 243) (.tmp 241) rfl w6.heap.size 9 _ _ #[.int .i64 b.mode, .int .i64 b.base, .slice L n c, .int .i64 b.orders.page, .int .i64 b.orders.head, .int .i64 b.orders.tail, .bool b.stopped, .int .i64 b.fences, .int .i64 b.faults.page, .int .i64 (rd rs ka), .int .i64 b.faults.tail, .bool b.lost] (.int .i64 (rd rs ka)) rfl rfl HQ.out Try.sizeInt (of_decide_eq_true rfl) rfl rfl ?_; intro w8 h8 t8))
      go_meet
      exact ⟨by rw [z6]; rfl, whl_is h8 (by rw [z6]; rfl), t8.1⟩
    by_cases z9 : ki = 9
    · as_aux_lemma =>
      have n63 : w7.cell? ⟨w1.heap.size, 3, none⟩ = some (.int .i64 9) := (whl_cell H6.out 3).trans (by show some (Value.int .i64 (ki : Int)) = _; rw [z9]; rfl)
      go_wp2_with (first | (refine wpList_store_cell rfl 4 (.tmp 246) (.const (.bool false)) rfl w6.heap.size 6 _ _ #[.int .i64 b.mode, .int .i64 b.base, .slice L n c, .int .i64 b.orders.page, .int .i64 b.orders.head, .int .i64 b.orders.tail, .bool false, .int .i64 b.fences, .int .i64 b.faults.page, .int .i64 b.faults.head, .int .i64 b.faults.tail, .bool b.lost] (.bool false) rfl rfl HQ.out Try.sizeBool (of_decide_eq_true rfl) rfl rfl ?_; intro w8 h8 t8) | (refine wpList_store_cell rfl 4 (.tmp 247) (.const (.bool false)) rfl w6.heap.size 11 _ _ #[.int .i64 b.mode, .int .i64 b.base, .slice L n c, .int .i64 b.orders.page, .int .i64 b.orders.head, .int .i64 b.orders.tail, .bool false, .int .i64 b.fences, .int .i64 b.faults.page, .int .i64 b.faults.head, .int .i64 b.faults.tail, .bool false] (.bool false) rfl rfl h8 Try.sizeBool (of_decide_eq_true rfl) rfl rfl ?_; intro w9 h9 t9))
      go_meet
      exact ⟨by rw [z9]; rfl, whl_is h9 (by rw [z9]; rfl), chg_trans t8.1 t9.1⟩
    have n63 : w7.cell? ⟨w1.heap.size, 3, none⟩ = some (.int .i64 (ki : Int)) := whl_cell H6.out 3
    have y0 : ((ki : Int) == 0) = false := by rw [beq_eq_false_iff_ne]; omega
    have y1 : ((ki : Int) == 1) = false := by rw [beq_eq_false_iff_ne]; omega
    have y2 : ((ki : Int) == 2) = false := by rw [beq_eq_false_iff_ne]; omega
    have y3 : ((ki : Int) == 3) = false := by rw [beq_eq_false_iff_ne]; omega
    have y5 : ((ki : Int) == 5) = false := by rw [beq_eq_false_iff_ne]; omega
    have y6 : ((ki : Int) == 6) = false := by rw [beq_eq_false_iff_ne]; omega
    have y9 : ((ki : Int) == 9) = false := by rw [beq_eq_false_iff_ne]; omega
    obtain ⟨e1, e2⟩ := out_restW (b := b) (i := (ki : Int)) (v := rd rs ka) (by omega) (by omega) (by omega) (by omega) (by omega) (by omega) (by omega)
    have HE1 := Lib.hid e1
    have HE2 := Lib.hid e2
    clear e1 e2 z0 z1 z2 z3 z5 z6 z9
    go_wp2
    go_meet
    exact ⟨by rw [HE1.out], whl_is HQ.out (by rw [HE2.out]), chg_refl _⟩
  case rest =>
  obtain ⟨rfl, hQ, hc⟩ := hcut
  replace HQ := Lib.hid hQ
  have hzd := hc.size
  replace H0 := Lib.hid (whl_chg H0.out hc (by omega))
  replace H1 := Lib.hid (whl_chg H1.out hc (by omega))
  replace H2 := Lib.hid (whl_chg H2.out hc (by omega))
  replace H3 := Lib.hid (whl_chg H3.out hc (by omega))
  replace H4 := Lib.hid (whl_chg H4.out hc (by omega))
  replace H5 := Lib.hid (whl_chg H5.out hc (by omega))
  replace H6 := Lib.hid (whl_chg H6.out hc (by omega))
  replace H7 := Lib.hid (whl_chg H7.out hc (by omega))
  replace HB := Lib.hid (below_chg HB.out HB.out.size hc (fun q hq e => by omega))
  replace HO := Lib.hid (chg_ownI HO.out hc (fun ad e hp => by injection e with e; subst e; simp only [] at hp; omega))
  clear hQ hc
  have q4 : outMost ki < rd rs ka := by omega
  clear hq
  go_wp2_with fail
  refine (stepped_w w.heap.size (w.heap.size + 1) (w.heap.size + 1 + 1) at_ _ rc false _ mc b L n c _ H0.out H1.out H2.out (by omega) (by omega)).mono ?_
  rintro e w8 ⟨rfl, hc8⟩
  have y3 := whl_chg H3.out hc8 (by omega)
  have y4 := whl_chg H4.out hc8 (by omega)
  have y5 := whl_chg H5.out hc8 (by omega)
  have HB8 := Lib.hid (below_chg HB.out HB.out.size hc8 (fun q hq e => by omega))
  clear hc8
  go_wp2_with (first
    | (refine wpList_store_all rfl 24 (.tmp 6) (.tmp 253) rfl (w.heap.size + 1 + 1 + 1) _ _ #[.slice (some ⟨gM, oM, none⟩) 512 mc] rfl rfl y3 Try.sizeMem rfl rfl ?_; intro w9 h9 t9; have y4 := whl_trn y4 t9 (by omega); have y5 := whl_trn y5 t9 (by omega))
    | (refine wpList_store_all rfl 53 (.tmp 7) (.tmp 254) rfl (w.heap.size + 1 + 1 + 1 + 1) _ _ #[.int .i64 at_, .slice (some ⟨gR, oR, none⟩) 8 rc, .bool true] rfl rfl y4 Try.sizeHart rfl rfl ?_; intro w10 h10 t10; have y5 := whl_trn y5 t10 (by omega); have h9 := whl_trn h9 t10 (by omega))
    | (refine wpList_store_all rfl 55 (.tmp 8) (.tmp 255) rfl (w.heap.size + 1 + 1 + 1 + 1 + 1) _ _ #[.int .i64 b.mode, .int .i64 b.base, .slice L n c, .int .i64 b.orders.page, .int .i64 b.orders.head, .int .i64 b.orders.tail, .bool b.stopped, .int .i64 b.fences, .int .i64 b.faults.page, .int .i64 b.faults.head, .int .i64 b.faults.tail, .bool b.lost] rfl rfl y5 Try.sizeBrg rfl rfl ?_; intro w11 h11 t11; have h9 := whl_trn h9 t11 (by omega); have h10 := whl_trn h10 t11 (by omega)))
  have HBE := Lib.hid (below_trn (below_trn (below_trn HB8.out HB8.out.size t9 (by omega)) (by rw [t9.2]; exact HB8.out.size) t10 (by omega)) (by rw [t10.2, t9.2]; exact HB8.out.size) t11 (by omega))
  have P9 := Lib.hid h9
  have P10 := Lib.hid h10
  have P11 := Lib.hid h11
  clear t9 t10 t11 h9 h10 h11 y3 y4 y5
  go_wp2
  refine bodyPost_ret (v := .tuple #[.agg #[.slice (some ⟨gM, oM, none⟩) 512 mc], .agg #[.int .i64 at_, .slice (some ⟨gR, oR, none⟩) 8 rc, .bool true], .agg #[.int .i64 b.mode, .int .i64 b.base, .slice L n c, .int .i64 b.orders.page, .int .i64 b.orders.head, .int .i64 b.orders.tail, .bool b.stopped, .int .i64 b.fences, .int .i64 b.faults.page, .int .i64 b.faults.head, .int .i64 b.faults.tail, .bool b.lost]]) ?_ rfl ⟨_, _, _, _, rfl, ints_now HM.out HBE.out, ints_now HR.out HBE.out, lines_now HL.out HBE.out, HBE.out, new_same _ _, new_same _ _⟩
  exact results_3c Try.results66 rfl rfl rfl (run_whl P9.out _ Try.underlying24 rfl Try.sizeMem) (run_whl P10.out _ Try.underlying53 rfl Try.sizeHart) (run_whl P11.out _ Try.underlying55 rfl Try.sizeBrg)
end
end Go.Proofs.Ytbopdijnojaaiab
