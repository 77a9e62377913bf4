/- The hart: the walk of the document's Stepped, part C. No statement of the seat is proved here. -/
import Derived.Test.YtbopdijnojaaiadGreatZz
import Derived.Test.YtbopdijnojaaiadGreatRefW
namespace Go.Proofs.YtbopdijnojaaiadGreat
set_option maxRecDepth 100000
set_option maxHeartbeats 8000000
open Go.RowKit
set_option linter.unusedSimpArgs false
set_option linter.unusedVariables false
section
variable (xs : List Int) (at_ : Int) (rs : List Int) (b : Brg) (M R L : Option Addr) (mc rc n c : Nat) (w : World) (hm : Ints w w.heap.size M 512 xs) (hr : Ints w w.heap.size R 8 rs) (hl : Lines w w.heap.size L n c b.cache) (c1 : cm xs = 0) (c2 : ckH ⟨at_, rs, false⟩ = 0)
include hm hr hl c1 c2 in
theorem stp_7y (ka kd ki : Nat) (hV : rdV (rd xs at_) = .tuple #[.agg #[.int .i64 7, .int .i64 ka, .int .i64 kd, .int .i64 ki], .int .i64 0]) (ha : ka < 8) (hd : kd < 8) (hi : ki ≤ 63) (hq : rd rs ka ≤ Xdj ki) :
    Calls Tryz.prog 34 #[.agg #[.slice M 512 mc], .agg #[.int .i64 at_, .slice R 8 rc, .bool false], .agg (B_.b b L n c)] w (StpW w M R L n c (xs, ⟨(at_ + 1) % 512, rs, false⟩, Xhr b ki (rd rs ka))) := by
 revert M R hm hr hl c1 c2; refine_lift z99 ?_; intro HC2 _ HL _ _ HRL gM oM HM _ gR oR _ lR _ _ HRC _ _ _ w1 _ H0 H1 H2 H3 H4 H5 HB; iterate 4 intro
 refine z206 ?_; intro w2 hw2 H6
 revert H0 H1 H2 H3 H4 H5 HB hw2; refine_lift z31 ?_; intro _ _ H0 H1 H2 H3 H4 H5 HB
 go_upto_region 5 with (fail)
 refine z22 ?_; intro e1 e2 i0 HI HZ0 HZ1 HZ2 HN1 HN2 HN3 HONE HC1 HNW HK0 HK1 yy1 yy2 yy3 yy4 yy5
 go_cut [12] (fun s12 wd => NewW w2 ((at_ + 1) % 512) rs s12 wd)
 case first =>
   go_region_held3 (fun W => W.cell? ⟨w.heap.size + 1, 0, none⟩ = some (.int .i64 at_) ∧ W.cell? ⟨w.heap.size + 1, 1, none⟩ = some (.slice (some ⟨gR, oR, none⟩) 8 rc) ∧ Hid (Xam w2 W)) (((with_reducible refine Xn9 ?_ HK0.out HK1.out); (repeat (first | (with_reducible assumption) | (with_reducible exact Xan _) | (with_reducible exact Xdp y5) | (with_reducible exact Xaz y5 (Xdp y5)) | (with_reducible refine Xav ?_) | (with_reducible refine Xag ?_ _) | ((with_reducible refine Xbg ?_ ?_ _); rotate_left; exact y0))); done)) (first
     | (refine step_append_lies _ (by rfl) (.tmp 41) (.tmp 43) 22 (by rfl) w2.heap.size 3 i0 (.int .i64 0) 1 8 Tryz.underlying22 HI.out HZ0.out HZ1.out HZ2.out (by rfl) (by decide) (.slice (some ⟨w2.heap.size + 1, 0, none⟩) 0 0) 0 [] (by rfl) HN1.out ⟨gR, oR, none⟩ 8 rc (rs.map (Value.int .i64)) (by rfl) HC1.out (HNW.out _ y32) HONE.out (by decide) y6 (by omega) y0 _ rfl ?_; intro g cap w5 hown5 hgrow hat hlt; have HBW := Zh (Below.grown (B := w2.heap.size) (a := w2) y29 hgrow y0 y7); have HO5 : Hid (OwnI w2.heap.size w5 (some ⟨g, 0, none⟩) 8 cap rs) := Zh ⟨HRL.out, by simpa using hown5⟩; simp [Value.ownBlock] at hat; have WB : Hid (Whl w5 (w2.heap.size) 26 #[.int .i64 0, .slice none 0 0, .bool false]) := Zh ((hgrow.block (w2.heap.size) y0 y8).trans y26); have kb := fun o => hgrow.cell_far ⟨w2.heap.size, o, none⟩ y0 y8; have fb := fun o => hgrow.frozen_far ⟨w2.heap.size, o, none⟩ y0 y8; simp (maxDischargeDepth := 6) [go_sem] at kb fb; have HS5 : Xam w2 w5 := HBW.out; have hz5 := HBW.out.size; have hz6 := hgrow.size; (try simp only [World.size_alloc, World.size_drew] at hz5 hz6); have HSX : Hid (Xam w2 w5) := Zh HS5; clear hgrow hown5)
     | (refine step_append_lies _ (by rfl) (.tmp 41) (.tmp 43) 22 (by rfl) w2.heap.size 3 i0 (.int .i64 0) 1 8 Tryz.underlying22 HI.out HZ0.out HZ1.out HZ2.out (by rfl) (by decide) (.slice (some ⟨w2.heap.size, 0, none⟩) 0 0) 0 [] (by rfl) HN2.out ⟨gR, oR, none⟩ 8 rc (rs.map (Value.int .i64)) (by rfl) HC1.out (HNW.out _ y32) HONE.out (by decide) y6 (by omega) y0 _ rfl ?_; intro g cap w5 hown5 hgrow hat hlt; have HBW := Zh (Below.grown (B := w2.heap.size) (a := w2) y29 hgrow y0 y7); have HO5 : Hid (OwnI w2.heap.size w5 (some ⟨g, 0, none⟩) 8 cap rs) := Zh ⟨HRL.out, by simpa using hown5⟩; simp [Value.ownBlock] at hat; have WB : Hid (Whl w5 (w2.heap.size + 1) 26 #[.int .i64 0, .slice none 0 0, .bool false]) := Zh ((hgrow.block (w2.heap.size + 1) y0 y8).trans (by exact Xap _ _ _ (by simp))); have kb := fun o => hgrow.cell_far ⟨w2.heap.size + 1, o, none⟩ y0 y8; have fb := fun o => hgrow.frozen_far ⟨w2.heap.size + 1, o, none⟩ y0 y8; simp (maxDischargeDepth := 6) [go_sem] at kb fb; have HS5 : Xam w2 w5 := HBW.out; have hz5 := HBW.out.size; have hz6 := hgrow.size; (try simp only [World.size_alloc, World.size_drew] at hz5 hz6); have HSX : Hid (Xam w2 w5) := Zh HS5; clear hgrow hown5)
     | (refine step_append_lies _ (by rfl) (.tmp 41) (.tmp 43) 22 (by rfl) w2.heap.size 3 i0 (.int .i64 0) 1 8 Tryz.underlying22 HI.out HZ0.out HZ1.out HZ2.out (by rfl) (by decide) (.slice (some ⟨w2.heap.size, 0, none⟩) 0 0) 0 [] (by rfl) HN3.out ⟨gR, oR, none⟩ 8 rc (rs.map (Value.int .i64)) (by rfl) HC1.out (HNW.out _ y32) HONE.out (by decide) y6 (by omega) y0 _ rfl ?_; intro g cap w5 hown5 hgrow hat hlt; have HBW := Zh (Below.grown (B := w2.heap.size) (a := w2) y29 hgrow y0 y7); have HO5 : Hid (OwnI w2.heap.size w5 (some ⟨g, 0, none⟩) 8 cap rs) := Zh ⟨HRL.out, by simpa using hown5⟩; simp [Value.ownBlock] at hat; have HS5 : Xam w2 w5 := HBW.out; have hz5 := HBW.out.size; have hz6 := hgrow.size; (try simp only [World.size_alloc, World.size_drew] at hz5 hz6); have HSX : Hid (Xam w2 w5) := Zh HS5; clear hgrow hown5))
   all_goals
     go_wp2
     go_meet
     refine ⟨_, g, cap, rfl, ?_, ?_, ?_, ?_⟩
     · first
         | (with_reducible exact Xap _ _ _ rfl)
         | exact Xa9 (Xa9 (Xa9 WB.out 0 _ _ rfl) 1 _ _ rfl) 2 _ _ rfl
     · first
         | (with_reducible exact HO5.out.alloc _)
         | exact ((HO5.out.off (p := ⟨_, 0, none⟩) y0 _).off (p := ⟨_, 1, none⟩) y0 _).off (p := ⟨_, 2, none⟩) y0 _
     · refine ⟨?_, ?_, ?_⟩ <;> first | (simp; done) | (simp; omega) | omega
     · (repeat (first | (with_reducible exact HSX.out) | (with_reducible refine Xag ?_ _) | ((with_reducible refine Xbg ?_ ?_ _); rotate_left; exact y0)))
 case rest =>
 revert H6 H0 H1 H2 H3 H4 H5 HB u12 hcut; refine_lift z44 ?_; intro g12 g2 d2 hN hO hb hg1 hg2 hg3 H7 HO HG2 hzc H0 H1 H2 H3 H4 H5 HB H6 u0 v0 ub vb k1 k6
 clear hN hO hb HN1 HN2 HN3 HC1 HNW HI HZ0 HZ1 HZ2 HONE e1 e2 HK0 HK1 yy1 yy2 yy3 yy4 yy5
 go_upto_region 6 with (fail)
 revert H7 HO HG2 H0 H1 H2 H3 H4 H5 HB H6 u0 v0 k1 k6; refine_lift z19 ?_; intro _ w6 _ _ HO H0 H1 H2 H3 H4 H5 HB H6 H7 _ _
 have n6 := fun o => Xaj H6.out o
 go_upto_region 43 with (first | (refine Xao rfl 31 (.tmp 5) rfl (w.heap.size + 1 + 1) _ _ rfl H2.out _ Tryz.underlying31 rfl Tryz.sizeBrg ?_) | (refine Xb6 rfl 31 (.tmp 17) (.tmp 213) rfl _ _ _ _ rfl rfl (by rfl) (by rfl) Tryz.sizeBrg rfl (by rfl) ?_))
 revert HO H0 H1 H2 H3 H4 H5 HB H6 H7 n6; refine_lift z82 ?_; intro w7 HQ _ HO H0 H1 H2 H3 H4 H5 HB H6 H7
 go_cut [18] (fun s18 wd => s18 = .int .i64 63 ∧ wd = w7)
 case first =>
   go_wp2
   go_meet
   exact ⟨rfl, rfl⟩
 case rest =>
 obtain ⟨rfl, rfl⟩ := hcut
 obtain ⟨w7, hw7⟩ : ∃ w7, w7 = wc := ⟨_, rfl⟩
 subst hw7
 go_step
 revert HQ HO H0 H1 H2 H3 H4 H5 HB H6 H7; refine_lift z17 ?_; (iterate 234 intro); intro HQ _ H0 _ _ H3 H4 H5 _ H7 HB HO
 go_upto_region 62 with (fail)
 refine Xdb y1 _ _ _ _ _ _ rfl rfl rfl rfl rfl rfl rfl y1 y1 y1 y1 y1 y1 y1 y1 y1 y1 y1 rfl rfl rfl rfl rfl rfl 24 26 31 (.tmp 3) (.tmp 12) (.tmp 17) (.tmp 6) (.tmp 7) (.tmp 8) (.tmp 256) (.tmp 257) (.tmp 258) rfl rfl rfl rfl rfl rfl w.heap.size g12 (w6.heap.size) (w.heap.size + 1 + 1 + 1) (w.heap.size + 1 + 1 + 1 + 1) (w.heap.size + 1 + 1 + 1 + 1 + 1) #[.slice (some ⟨gM, oM, none⟩) 512 mc] #[.int .i64 ((at_ + 1) % 512), .slice (some ⟨g2, 0, none⟩) 8 d2, .bool false] (B_.b (Xhr b ki (rd rs ka)) L n c) _ _ _ Tryz.underlying24 Tryz.underlying26 Tryz.underlying31 rfl rfl rfl Tryz.sizeMem Tryz.sizeHart Tryz.sizeBrg rfl rfl rfl rfl rfl rfl rfl rfl rfl rfl rfl rfl _ _ _ _ _ _ H0.out H7.out HQ.out _ _ _ H3.out H4.out H5.out rfl rfl rfl (by omega) (by omega) (by omega) (by omega) (by omega) (by omega) (by omega) (by omega) (by omega) (by omega) (by omega) (by omega) (fun _ _ _ _ h => h) (fun _ _ _ _ h => h) (fun _ _ _ _ h => h) ?_
 refine z121 ?_; intro w9 Q1 Q2 Q3 _ HB9 HO9
 go_wp2
 refine bodyPost_ret (v := .tuple #[.agg #[.slice (some ⟨gM, oM, none⟩) 512 mc], .agg #[.int .i64 ((at_ + 1) % 512), .slice (some ⟨g2, 0, none⟩) 8 d2, .bool false], .agg (B_.b (Xhr b ki (rd rs ka)) L n c)]) ?_ rfl ⟨_, _, _, _, rfl, Xaf HM.out HB9.out, HO9.out.ints (by decide), (by rw [show (xs, (⟨(at_ + 1) % 512, rs, false⟩ : Hrt), Xhr b ki (rd rs ka)).2.2.cache = b.cache from Xpe]; exact Xah HL.out HB9.out), HB9.out, Xby _ _, ?_⟩
 exact z90
 exact z193
end
end Go.Proofs.YtbopdijnojaaiadGreat
