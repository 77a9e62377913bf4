/- The hart: the walk of the document's Stepped, part A. No statement of the seat is proved here. -/
import Derived.Test.YtbopdijnojaaiadGreatZz
import Derived.Test.YtbopdijnojaaiadGreatRefW
namespace Go.Proofs.YtbopdijnojaaiadGreat
set_option maxRecDepth 100000
set_option maxHeartbeats 8000000
open Go.RowKit
set_option linter.unusedSimpArgs false
set_option linter.unusedVariables false
section
variable (xs : List Int) (at_ : Int) (rs : List Int) (b : Brg) (M R L : Option Addr) (mc rc n c : Nat) (w : World) (hm : Ints w w.heap.size M 512 xs) (hr : Ints w w.heap.size R 8 rs) (hl : Lines w w.heap.size L n c b.cache) (c1 : cm xs = 0) (c2 : ckH ⟨at_, rs, false⟩ = 0)
include hm hr hl c1 c2 in
theorem Xwi (E : Int) (hE : (E != 0) = true) (hV : rdV (rd xs at_) = .tuple #[.agg #[.int .i64 0, .int .i64 0, .int .i64 0, .int .i64 0], .int .i64 E]) :
    Calls Tryz.prog 34 #[.agg #[.slice M 512 mc], .agg #[.int .i64 at_, .slice R 8 rc, .bool false], .agg (B_.b b L n c)] w (StpW w M R L n c (xs, ⟨at_, rs, true⟩, b)) := by
 revert M R hm hr hl c1 c2; refine_lift z1 ?_; intro _ _ HL _ _ _ gM oM HM _ gR oR HR _ _ _ _ _ _ w0 H0 H1 H2 H3 H4 H5 HB _ _ k0 k1 kx
 go_wp2_with fail
 revert H0 H1 H2 H3 H4 H5 HB k0 k1 kx; refine_lift z48 ?_; intro w1 _ H0 H1 H2 H3 H4 H5 HB
 go_upto_region 3 with (fail)
 generalize hw2 : w1.alloc (.cells #[.int .i64 0, .int .i64 0, .int .i64 0, .int .i64 0] 89) = w2
 have H6 := Zh (show Whl w2 w1.heap.size 89 #[.int .i64 0, .int .i64 0, .int .i64 0, .int .i64 0] by rw [← hw2]; exact Xap _ _ _ rfl)
 revert H0 H1 H2 H3 H4 H5 HB hw2; refine_lift z31 ?_; intro _ _ H0 H1 H2 H3 H4 H5 HB
 go_wp2_with fail
 refine z55 ?_; intro _ y3 y4 y5 HB8
 go_wp2_with (first
   | (refine Xad rfl 24 (.tmp 6) (.tmp 34) rfl (w.heap.size + 1 + 1 + 1) _ _ #[.slice (some ⟨gM, oM, none⟩) 512 mc] rfl rfl y3 Tryz.sizeMem rfl rfl ?_; intro w9 h9 t9; have y4 := Xak y4 t9 (by omega); have y5 := Xak y5 t9 (by omega))
   | (refine Xad rfl 26 (.tmp 7) (.tmp 35) rfl (w.heap.size + 1 + 1 + 1 + 1) _ _ #[.int .i64 at_, .slice (some ⟨gR, oR, none⟩) 8 rc, .bool true] rfl rfl y4 Tryz.sizeHart rfl rfl ?_; intro w10 h10 t10; have y5 := Xak y5 t10 (by omega); have h9 := Xak h9 t10 (by omega))
   | (refine Xad rfl 31 (.tmp 8) (.tmp 36) rfl (w.heap.size + 1 + 1 + 1 + 1 + 1) _ _ (B_.b b L n c) rfl rfl y5 Tryz.sizeBrg rfl rfl ?_; intro w11 h11 t11; have h9 := Xak h9 t11 (by omega); have h10 := Xak h10 t11 (by omega)))
 exact z26
include hm hr hl c1 c2 in
theorem stp_0 (ka kd ki : Nat) (hV : rdV (rd xs at_) = .tuple #[.agg #[.int .i64 0, .int .i64 ka, .int .i64 kd, .int .i64 ki], .int .i64 0]) (ha : ka < 8) (hd : kd < 8) (hi : ki ≤ 63) :
    Calls Tryz.prog 34 #[.agg #[.slice M 512 mc], .agg #[.int .i64 at_, .slice R 8 rc, .bool false], .agg (B_.b b L n c)] w (StpW w M R L n c (xs, ⟨at_, rs, true⟩, b)) := by
 revert M R hm hr hl c1 c2; refine_lift z1 ?_; intro HC2 _ HL _ _ HRL gM oM HM _ gR oR HR lR _ _ HRC _ _ w0 H0 H1 H2 H3 H4 H5 HB _ _ k0 k1 kx
 go_wp2_with fail
 revert H0 H1 H2 H3 H4 H5 HB k0 k1 kx; refine_lift z48 ?_; intro w1 _ H0 H1 H2 H3 H4 H5 HB
 go_upto_region 3 with (fail)
 generalize hw2 : w1.alloc (.cells #[.int .i64 0, .int .i64 ka, .int .i64 kd, .int .i64 ki] 89) = w2
 have H6 := Zh (show Whl w2 w1.heap.size 89 #[.int .i64 0, .int .i64 ka, .int .i64 kd, .int .i64 ki] by rw [← hw2]; exact Xap _ _ _ rfl)
 revert H0 H1 H2 H3 H4 H5 HB hw2; refine_lift z31 ?_; intro _ _ H0 H1 H2 H3 H4 H5 HB
 go_upto_region 5 with (fail)
 revert H6 H0 H1 H2 H3 H4 H5 HB; refine_lift z0 ?_; intro _ wc; (iterate 224 intro); intro g2 d2 _ _ _ H7 HO HG2 _ H0 H1 H2 H3 H4 H5 HB H6 u0 v0 _ _ k1 k6
 go_upto_region 6 with (fail)
 revert H7 HO HG2 H0 H1 H2 H3 H4 H5 HB H6 u0 v0 k1 k6; refine_lift z19 ?_; intro _ _ _ _ _ H0 H1 H2 H3 H4 H5 HB H6 H7 _ _
 refine z133 ?_; intro _ _
 go_wp2_with fail
 refine z55 ?_; intro _ y3 y4 y5 HB8
 go_wp2_with (first
   | (refine Xad rfl 24 (.tmp 6) (.tmp 64) rfl (w.heap.size + 1 + 1 + 1) _ _ #[.slice (some ⟨gM, oM, none⟩) 512 mc] rfl rfl y3 Tryz.sizeMem rfl rfl ?_; intro w9 h9 t9; have y4 := Xak y4 t9 (by omega); have y5 := Xak y5 t9 (by omega))
   | (refine Xad rfl 26 (.tmp 7) (.tmp 65) rfl (w.heap.size + 1 + 1 + 1 + 1) _ _ #[.int .i64 at_, .slice (some ⟨gR, oR, none⟩) 8 rc, .bool true] rfl rfl y4 Tryz.sizeHart rfl rfl ?_; intro w10 h10 t10; have y5 := Xak y5 t10 (by omega); have h9 := Xak h9 t10 (by omega))
   | (refine Xad rfl 31 (.tmp 8) (.tmp 66) rfl (w.heap.size + 1 + 1 + 1 + 1 + 1) _ _ (B_.b b L n c) rfl rfl y5 Tryz.sizeBrg rfl rfl ?_; intro w11 h11 t11; have h9 := Xak h9 t11 (by omega); have h10 := Xak h10 t11 (by omega)))
 exact z26
include hm hr hl c1 c2 in
theorem stp_1 (ka kd ki : Nat) (hV : rdV (rd xs at_) = .tuple #[.agg #[.int .i64 1, .int .i64 ka, .int .i64 kd, .int .i64 ki], .int .i64 0]) (ha : ka < 8) (hd : kd < 8) (hi : ki ≤ 63) :
    Calls Tryz.prog 34 #[.agg #[.slice M 512 mc], .agg #[.int .i64 at_, .slice R 8 rc, .bool false], .agg (B_.b b L n c)] w (StpW w M R L n c (xs, ⟨(at_ + 1) % 512, rs.set ka ki, false⟩, b)) := by
 revert M R hm hr hl c1 c2; refine_lift z99 ?_; intro HC2 _ HL _ _ HRL gM oM HM _ gR oR _ lR _ _ HRC _ _ _ w1 _ H0 H1 H2 H3 H4 H5 HB; iterate 4 intro
 generalize hw2 : w1.alloc (.cells #[.int .i64 1, .int .i64 ka, .int .i64 kd, .int .i64 ki] 89) = w2
 have H6 := Zh (show Whl w2 w1.heap.size 89 #[.int .i64 1, .int .i64 ka, .int .i64 kd, .int .i64 ki] by rw [← hw2]; exact Xap _ _ _ rfl)
 revert H0 H1 H2 H3 H4 H5 HB hw2; refine_lift z31 ?_; intro _ _ H0 H1 H2 H3 H4 H5 HB
 go_upto_region 5 with (fail)
 revert H6 H0 H1 H2 H3 H4 H5 HB; refine_lift z0 ?_; intro _ wc; (iterate 223 intro); intro g12 g2 d2 _ _ _ H7 HO HG2 _ H0 H1 H2 H3 H4 H5 HB H6 u0 v0 _ _ k1 k6
 go_upto_region 6 with (fail)
 revert H7 HO HG2 H0 H1 H2 H3 H4 H5 HB H6 u0 v0 k1 k6; refine_lift z19 ?_; intro _ w6 _ _ HO H0 H1 H2 H3 H4 H5 HB H6 H7 _ _
 refine z133 ?_; intro n7 n6
 go_upto_region 63 with (refine Xg4 rfl 3 (.tmp 75) (.tmp 74) rfl w2.heap.size g2 ka 8 d2 rs ((ki : Int)) rfl rfl HO.out ha Tryz.sizeInt ?_; intro w7 ho7 ht7)
 revert HO H0 H1 H2 H3 H4 H5 HB H6 H7; refine_lift z74 ?_; intro HO H0 _ H2 H3 H4 H5 HB _ H7 hz7 _ _
 clear ho7 ht7 hz7 n6 n7
 exact z13
include hm hr hl c1 c2 in
theorem stp_2 (ka kd ki : Nat) (hV : rdV (rd xs at_) = .tuple #[.agg #[.int .i64 2, .int .i64 ka, .int .i64 kd, .int .i64 ki], .int .i64 0]) (ha : ka < 8) (hd : kd < 8) (hi : ki ≤ 63) :
    Calls Tryz.prog 34 #[.agg #[.slice M 512 mc], .agg #[.int .i64 at_, .slice R 8 rc, .bool false], .agg (B_.b b L n c)] w (StpW w M R L n c (xs, ⟨(at_ + 1) % 512, rs.set ka ((rd rs ka + rd rs kd) % 65536), false⟩, b)) := by
 revert M R hm hr hl c1 c2; refine_lift z99 ?_; intro HC2 _ HL _ _ HRL gM oM HM _ gR oR _ lR _ _ HRC _ _ _ w1 _ H0 H1 H2 H3 H4 H5 HB; iterate 4 intro
 generalize hw2 : w1.alloc (.cells #[.int .i64 2, .int .i64 ka, .int .i64 kd, .int .i64 ki] 89) = w2
 have H6 := Zh (show Whl w2 w1.heap.size 89 #[.int .i64 2, .int .i64 ka, .int .i64 kd, .int .i64 ki] by rw [← hw2]; exact Xap _ _ _ rfl)
 revert H0 H1 H2 H3 H4 H5 HB hw2; refine_lift z31 ?_; intro _ _ H0 H1 H2 H3 H4 H5 HB
 go_upto_region 5 with (fail)
 revert H6 H0 H1 H2 H3 H4 H5 HB; refine_lift z0 ?_; intro _ wc; (iterate 223 intro); intro g12 g2 d2 _ _ _ H7 HO HG2 _ H0 H1 H2 H3 H4 H5 HB H6 u0 v0 _ _ k1 k6
 go_upto_region 6 with (fail)
 revert H7 HO HG2 H0 H1 H2 H3 H4 H5 HB H6 u0 v0 k1 k6; refine_lift z19 ?_; intro _ w6 _ _ HO H0 H1 H2 H3 H4 H5 HB H6 H7 _ _
 have q1 : IntKind.i64.wrap (rd rs ka + rd rs kd) = rd rs ka + rd rs kd := IntWalk.i64_in _ (by omega)
 have q2 : (rd rs ka + rd rs kd).tmod 65536 = (rd rs ka + rd rs kd) % 65536 := Int.tmod_eq_emod_of_nonneg (by omega)
 refine z133 ?_; intro n7 n6
 go_upto_region 63 with (refine Xg4 rfl 3 (.tmp 86) (.tmp 85) rfl w2.heap.size g2 ka 8 d2 rs ((rd rs ka + rd rs kd) % 65536) rfl rfl HO.out ha Tryz.sizeInt ?_; intro w7 ho7 ht7)
 revert HO H0 H1 H2 H3 H4 H5 HB H6 H7; refine_lift z74 ?_; intro HO H0 _ H2 H3 H4 H5 HB _ H7 hz7 _ _
 clear ho7 ht7 hz7 n6 n7
 exact z13
include hm hr hl c1 c2 in
theorem stp_3 (ka kd ki : Nat) (hV : rdV (rd xs at_) = .tuple #[.agg #[.int .i64 3, .int .i64 ka, .int .i64 kd, .int .i64 ki], .int .i64 0]) (ha : ka < 8) (hd : kd < 8) (hi : ki ≤ 63) :
    Calls Tryz.prog 34 #[.agg #[.slice M 512 mc], .agg #[.int .i64 at_, .slice R 8 rc, .bool false], .agg (B_.b b L n c)] w (StpW w M R L n c (xs, ⟨(at_ + 1) % 512, rs.set ka (shM (rd rs ka) ki), false⟩, b)) := by
 revert M R hm hr hl c1 c2; refine_lift z99 ?_; intro HC2 _ HL _ _ HRL gM oM HM _ gR oR _ lR _ _ HRC _ _ _ w1 _ H0 H1 H2 H3 H4 H5 HB; iterate 4 intro
 generalize hw2 : w1.alloc (.cells #[.int .i64 3, .int .i64 ka, .int .i64 kd, .int .i64 ki] 89) = w2
 have H6 := Zh (show Whl w2 w1.heap.size 89 #[.int .i64 3, .int .i64 ka, .int .i64 kd, .int .i64 ki] by rw [← hw2]; exact Xap _ _ _ rfl)
 revert H0 H1 H2 H3 H4 H5 HB hw2; refine_lift z31 ?_; intro _ _ H0 H1 H2 H3 H4 H5 HB
 go_upto_region 5 with (fail)
 refine z22 ?_; intro e1 e2 i0 HI HZ0 HZ1 HZ2 HN1 HN2 HN3 HONE HC1 HNW HK0 HK1 yy1 yy2 yy3 yy4 yy5
 go_cut [12] (fun s12 wd => NewW w2 ((at_ + 1) % 512) rs s12 wd)
 case first =>
   go_region_held3 (fun W => W.cell? ⟨w.heap.size + 1, 0, none⟩ = some (.int .i64 at_) ∧ W.cell? ⟨w.heap.size + 1, 1, none⟩ = some (.slice (some ⟨gR, oR, none⟩) 8 rc) ∧ Hid (Xam w2 W)) (((with_reducible refine Xn9 ?_ HK0.out HK1.out); (repeat (first | (with_reducible assumption) | (with_reducible exact Xan _) | (with_reducible exact Xdp y5) | (with_reducible exact Xaz y5 (Xdp y5)) | (with_reducible refine Xav ?_) | (with_reducible refine Xag ?_ _) | ((with_reducible refine Xbg ?_ ?_ _); rotate_left; exact y0))); done)) (first
     | (refine step_append_lies _ (by rfl) (.tmp 41) (.tmp 43) 22 (by rfl) w2.heap.size 3 i0 (.int .i64 0) 1 8 Tryz.underlying22 HI.out HZ0.out HZ1.out HZ2.out (by rfl) (by decide) (.slice (some ⟨w2.heap.size + 1, 0, none⟩) 0 0) 0 [] (by rfl) HN1.out ⟨gR, oR, none⟩ 8 rc (rs.map (Value.int .i64)) (by rfl) HC1.out (HNW.out _ y32) HONE.out (by decide) y6 (by omega) y0 _ rfl ?_; intro g cap w5 hown5 hgrow hat hlt; have HBW := Zh (Below.grown (B := w2.heap.size) (a := w2) y29 hgrow y0 y7); have HO5 : Hid (OwnI w2.heap.size w5 (some ⟨g, 0, none⟩) 8 cap rs) := Zh ⟨HRL.out, by simpa using hown5⟩; simp [Value.ownBlock] at hat; have WB : Hid (Whl w5 (w2.heap.size) 26 #[.int .i64 0, .slice none 0 0, .bool false]) := Zh ((hgrow.block (w2.heap.size) y0 y8).trans y26); have kb := fun o => hgrow.cell_far ⟨w2.heap.size, o, none⟩ y0 y8; have fb := fun o => hgrow.frozen_far ⟨w2.heap.size, o, none⟩ y0 y8; simp (maxDischargeDepth := 6) [go_sem] at kb fb; have HS5 : Xam w2 w5 := HBW.out; have hz5 := HBW.out.size; have hz6 := hgrow.size; (try simp only [World.size_alloc, World.size_drew] at hz5 hz6); have HSX : Hid (Xam w2 w5) := Zh HS5; clear hgrow hown5)
     | (refine step_append_lies _ (by rfl) (.tmp 41) (.tmp 43) 22 (by rfl) w2.heap.size 3 i0 (.int .i64 0) 1 8 Tryz.underlying22 HI.out HZ0.out HZ1.out HZ2.out (by rfl) (by decide) (.slice (some ⟨w2.heap.size, 0, none⟩) 0 0) 0 [] (by rfl) HN2.out ⟨gR, oR, none⟩ 8 rc (rs.map (Value.int .i64)) (by rfl) HC1.out (HNW.out _ y32) HONE.out (by decide) y6 (by omega) y0 _ rfl ?_; intro g cap w5 hown5 hgrow hat hlt; have HBW := Zh (Below.grown (B := w2.heap.size) (a := w2) y29 hgrow y0 y7); have HO5 : Hid (OwnI w2.heap.size w5 (some ⟨g, 0, none⟩) 8 cap rs) := Zh ⟨HRL.out, by simpa using hown5⟩; simp [Value.ownBlock] at hat; have WB : Hid (Whl w5 (w2.heap.size + 1) 26 #[.int .i64 0, .slice none 0 0, .bool false]) := Zh ((hgrow.block (w2.heap.size + 1) y0 y8).trans (by exact Xap _ _ _ (by simp))); have kb := fun o => hgrow.cell_far ⟨w2.heap.size + 1, o, none⟩ y0 y8; have fb := fun o => hgrow.frozen_far ⟨w2.heap.size + 1, o, none⟩ y0 y8; simp (maxDischargeDepth := 6) [go_sem] at kb fb; have HS5 : Xam w2 w5 := HBW.out; have hz5 := HBW.out.size; have hz6 := hgrow.size; (try simp only [World.size_alloc, World.size_drew] at hz5 hz6); have HSX : Hid (Xam w2 w5) := Zh HS5; clear hgrow hown5)
     | (refine step_append_lies _ (by rfl) (.tmp 41) (.tmp 43) 22 (by rfl) w2.heap.size 3 i0 (.int .i64 0) 1 8 Tryz.underlying22 HI.out HZ0.out HZ1.out HZ2.out (by rfl) (by decide) (.slice (some ⟨w2.heap.size, 0, none⟩) 0 0) 0 [] (by rfl) HN3.out ⟨gR, oR, none⟩ 8 rc (rs.map (Value.int .i64)) (by rfl) HC1.out (HNW.out _ y32) HONE.out (by decide) y6 (by omega) y0 _ rfl ?_; intro g cap w5 hown5 hgrow hat hlt; have HBW := Zh (Below.grown (B := w2.heap.size) (a := w2) y29 hgrow y0 y7); have HO5 : Hid (OwnI w2.heap.size w5 (some ⟨g, 0, none⟩) 8 cap rs) := Zh ⟨HRL.out, by simpa using hown5⟩; simp [Value.ownBlock] at hat; have HS5 : Xam w2 w5 := HBW.out; have hz5 := HBW.out.size; have hz6 := hgrow.size; (try simp only [World.size_alloc, World.size_drew] at hz5 hz6); have HSX : Hid (Xam w2 w5) := Zh HS5; clear hgrow hown5))
   all_goals
     go_wp2
     go_meet
     refine ⟨_, g, cap, rfl, ?_, ?_, ?_, ?_⟩
     · first
         | (with_reducible exact Xap _ _ _ rfl)
         | exact Xa9 (Xa9 (Xa9 WB.out 0 _ _ rfl) 1 _ _ rfl) 2 _ _ rfl
     · first
         | (with_reducible exact HO5.out.alloc _)
         | exact ((HO5.out.off (p := ⟨_, 0, none⟩) y0 _).off (p := ⟨_, 1, none⟩) y0 _).off (p := ⟨_, 2, none⟩) y0 _
     · refine ⟨?_, ?_, ?_⟩ <;> first | (simp; done) | (simp; omega) | omega
     · (repeat (first | (with_reducible exact HSX.out) | (with_reducible refine Xag ?_ _) | ((with_reducible refine Xbg ?_ ?_ _); rotate_left; exact y0)))
 case rest =>
 revert H6 H0 H1 H2 H3 H4 H5 HB u12 hcut; refine_lift z44 ?_; intro g12 g2 d2 hN hO hb _ _ _ H7 HO HG2 _ H0 H1 H2 H3 H4 H5 HB H6 u0 v0 ub _ k1 k6
 clear hN hO hb HN1 HN2 HN3 HC1 HNW HI HZ0 HZ1 HZ2 HONE e1 e2 HK0 HK1 yy1 yy2 yy3 yy4 yy5
 go_upto_region 6 with (fail)
 revert H7 HO HG2 H0 H1 H2 H3 H4 H5 HB H6 u0 v0 k1 k6; refine_lift z19 ?_; intro _ w6 _ _ HO H0 H1 H2 H3 H4 H5 HB H6 H7 _ _
 refine z133 ?_; intro n7 n6
 go_upto_region 16 with (fail)
 go_loop [13, 91] (fun s13 s91 => ∃ k : Nat, k ≤ ki ∧ s91 = .int .i64 k ∧ s13 = .int .i64 (dbl (rd rs ka) k)) (fun _ s91 => ki - (intOf s91).toNat)
 case atStart => exact ⟨0, by omega, rfl, rfl⟩
 case round =>
   obtain ⟨k, hk, rfl, rfl⟩ := hrel
   have dr := Xx2 ub k
   by_cases hlt : k < ki
   · have q1 : IntKind.i64.wrap (dbl (rd rs ka) k * 2) = dbl (rd rs ka) k * 2 := IntWalk.i64_in _ (by omega)
     have q2 : (dbl (rd rs ka) k * 2).tmod 65536 = dbl (rd rs ka) (k + 1) := Int.tmod_eq_emod_of_nonneg (by omega)
     go_wp2
     go_round
     case rel => exact ⟨k + 1, by omega, by go_num, rfl⟩
     case measure => simp [intOf]; omega
   · have hke : ki = k := by omega
     have HSH := Zh (show shM (rd rs ka) ki = dbl (rd rs ka) k by rw [← dbl_sh ub (by omega), hke]; simp)
     clear hke
     go_upto_region 63 with (refine Xg4 rfl 3 (.tmp 102) (.tmp 101) rfl w2.heap.size g2 ka 8 d2 rs (dbl (rd rs ka) k) rfl rfl HO.out ha Tryz.sizeInt ?_; intro w7 ho7 ht7)
     replace HO := Zh ho7
     replace H0 := Zh (Xak H0.out ht7 (by omega))
     replace H1 := Zh (Xak H1.out ht7 (by omega))
     replace H2 := Zh (Xak H2.out ht7 (by omega))
     replace H3 := Zh (Xak H3.out ht7 (by omega))
     replace H4 := Zh (Xak H4.out ht7 (by omega))
     replace H5 := Zh (Xak H5.out ht7 (by omega))
     replace HB := Zh (Xbj HB.out (HB.out.size) ht7 (by omega))
     replace H6 := Zh (Xak H6.out ht7 (by omega))
     replace H7 := Zh (Xak H7.out ht7 (by omega))
     have hz7 := ht7.2
     have hz7a : w7.heap.size ≤ w6.heap.size := Nat.le_of_eq hz7
     have hz7b : w6.heap.size ≤ w7.heap.size := Nat.le_of_eq hz7.symm
     clear ho7 ht7 hz7 n6 n7
     refine Xdb y1 _ _ _ _ _ _ rfl rfl rfl rfl rfl rfl rfl y1 y1 y1 y1 y1 y1 y1 y1 y1 y1 y1 rfl rfl rfl rfl rfl rfl 24 26 31 (.tmp 3) (.tmp 12) (.tmp 5) (.tmp 6) (.tmp 7) (.tmp 8) (.tmp 259) (.tmp 260) (.tmp 261) rfl rfl rfl rfl rfl rfl w.heap.size g12 (w.heap.size + 1 + 1) (w.heap.size + 1 + 1 + 1) (w.heap.size + 1 + 1 + 1 + 1) (w.heap.size + 1 + 1 + 1 + 1 + 1) #[.slice (some ⟨gM, oM, none⟩) 512 mc] #[.int .i64 ((at_ + 1) % 512), .slice (some ⟨g2, 0, none⟩) 8 d2, .bool false] (B_.b b L n c) _ _ _ Tryz.underlying24 Tryz.underlying26 Tryz.underlying31 rfl rfl rfl Tryz.sizeMem Tryz.sizeHart Tryz.sizeBrg rfl rfl rfl rfl rfl rfl rfl rfl rfl rfl rfl rfl _ _ _ _ _ _ H0.out H7.out H2.out _ _ _ H3.out H4.out H5.out rfl rfl rfl (by omega) (by omega) (by omega) (by omega) (by omega) (by omega) (by omega) (by omega) (by omega) (by omega) (by omega) (by omega) (fun _ _ _ _ h => h) (fun _ _ _ _ h => h) (fun _ _ _ _ h => h) ?_
     intro w9 c9 q1 q2 q3
     have Q1 := Zh q1
     have Q2 := Zh q2
     have Q3 := Zh q3
     have hz9 := c9.size
     have HB9 := Zh (Xa2 HB.out (HB.out.size) c9 (fun q hq e => by omega))
     have HO9 := Zh (Xbn HO.out c9 (fun ad e hp => by injection e with e; subst e; simp only [] at hp; omega))
     clear q1 q2 q3 c9
     go_wp2
     refine bodyPost_ret (v := .tuple #[.agg #[.slice (some ⟨gM, oM, none⟩) 512 mc], .agg #[.int .i64 ((at_ + 1) % 512), .slice (some ⟨g2, 0, none⟩) 8 d2, .bool false], .agg (B_.b b L n c)]) ?_ rfl ⟨_, _, _, _, rfl, Xaf HM.out HB9.out, (by show Ints _ _ _ _ (rs.set ka (shM (rd rs ka) ki)); rw [HSH.out]; exact HO9.out.ints (by decide)), Xah HL.out HB9.out, HB9.out, Xby _ _, ?_⟩
     · exact Xd3 Tryz.results34 rfl rfl rfl (run_loadVar_mid w9 _ 0 24 _ _ Q1.out Tryz.underlying24 rfl Tryz.sizeMem) (run_loadVar_mid w9 _ 0 26 _ _ Q2.out Tryz.underlying26 rfl Tryz.sizeHart) (run_loadVar_mid w9 _ 0 31 _ _ Q3.out Tryz.underlying31 rfl Tryz.sizeBrg)
     · intro ad e; injection e with e; subst e; exact Or.inr (by show _ ≤ g2; omega)
include hm hr hl c1 c2 in
theorem stp_6y (ka kd ki : Nat) (hV : rdV (rd xs at_) = .tuple #[.agg #[.int .i64 6, .int .i64 ka, .int .i64 kd, .int .i64 ki], .int .i64 0]) (ha : ka < 8) (hd : kd < 8) (hi : ki ≤ 63) (hq : rd rs ka = rd rs kd) :
    Calls Tryz.prog 34 #[.agg #[.slice M 512 mc], .agg #[.int .i64 at_, .slice R 8 rc, .bool false], .agg (B_.b b L n c)] w (StpW w M R L n c (xs, ⟨ki, rs, false⟩, b)) := by
 revert M R hm hr hl c1 c2; refine_lift z99 ?_; intro HC2 _ HL _ _ HRL gM oM HM _ gR oR _ lR _ _ HRC _ _ _ w1 _ H0 H1 H2 H3 H4 H5 HB; iterate 4 intro
 refine z203 ?_; intro w2 hw2 H6
 revert H0 H1 H2 H3 H4 H5 HB hw2; refine_lift z31 ?_; intro _ _ H0 H1 H2 H3 H4 H5 HB
 go_upto_region 5 with (fail)
 revert H6 H0 H1 H2 H3 H4 H5 HB; refine_lift z0 ?_; intro _ wc; (iterate 223 intro); intro g12 g2 d2 _ _ _ H7 HO HG2 _ H0 H1 H2 H3 H4 H5 HB H6 u0 v0 _ _ k1 k6
 go_upto_region 6 with (fail)
 revert H7 HO HG2 H0 H1 H2 H3 H4 H5 HB H6 u0 v0 k1 k6; refine_lift z19 ?_; intro _ w6 _ _ HO H0 H1 H2 H3 H4 H5 HB H6 H7 _ _
 have q1 : (rd rs ka == rd rs kd) = true := by rw [beq_iff_eq]; exact hq
 clear hq
 refine z133 ?_; intro n7 n6
 go_upto_region 63 with (refine Xay rfl 3 (.tmp 156) (.tmp 155) rfl g12 0 _ _ #[.int .i64 (ki : Int), .slice (some ⟨g2, 0, none⟩) 8 d2, .bool false] (.int .i64 (ki : Int)) rfl rfl H7.out Tryz.sizeInt (of_decide_eq_true rfl) rfl rfl ?_; intro w7 h7 ht7)
 replace HO := Zh (Xbn HO.out ht7.1 (fun ad e hp => by injection e with e; subst e; simp only [] at hp; omega))
 revert H0 H1 H2 H3 H4 H5 HB H6; refine_lift z170 ?_; intro H0 _ H2 H3 H4 H5 HB _
 replace H7 := Zh h7
 have hz7 := ht7.2
 have hz7a : w7.heap.size ≤ w6.heap.size := Nat.le_of_eq hz7
 have hz7b : w6.heap.size ≤ w7.heap.size := Nat.le_of_eq hz7.symm
 clear h7 ht7 hz7 n6 n7
 refine Xdb y1 _ _ _ _ _ _ rfl rfl rfl rfl rfl rfl rfl y1 y1 y1 y1 y1 y1 y1 y1 y1 y1 y1 rfl rfl rfl rfl rfl rfl 24 26 31 (.tmp 3) (.tmp 12) (.tmp 5) (.tmp 6) (.tmp 7) (.tmp 8) (.tmp 259) (.tmp 260) (.tmp 261) rfl rfl rfl rfl rfl rfl w.heap.size g12 (w.heap.size + 1 + 1) (w.heap.size + 1 + 1 + 1) (w.heap.size + 1 + 1 + 1 + 1) (w.heap.size + 1 + 1 + 1 + 1 + 1) #[.slice (some ⟨gM, oM, none⟩) 512 mc] #[.int .i64 (ki), .slice (some ⟨g2, 0, none⟩) 8 d2, .bool false] (B_.b b L n c) _ _ _ Tryz.underlying24 Tryz.underlying26 Tryz.underlying31 rfl rfl rfl Tryz.sizeMem Tryz.sizeHart Tryz.sizeBrg rfl rfl rfl rfl rfl rfl rfl rfl rfl rfl rfl rfl _ _ _ _ _ _ H0.out H7.out H2.out _ _ _ H3.out H4.out H5.out rfl rfl rfl (by omega) (by omega) (by omega) (by omega) (by omega) (by omega) (by omega) (by omega) (by omega) (by omega) (by omega) (by omega) (fun _ _ _ _ h => h) (fun _ _ _ _ h => h) (fun _ _ _ _ h => h) ?_
 refine z121 ?_; intro w9 Q1 Q2 Q3 _ HB9 HO9
 go_wp2
 refine bodyPost_ret (v := .tuple #[.agg #[.slice (some ⟨gM, oM, none⟩) 512 mc], .agg #[.int .i64 (ki), .slice (some ⟨g2, 0, none⟩) 8 d2, .bool false], .agg (B_.b b L n c)]) ?_ rfl ⟨_, _, _, _, rfl, Xaf HM.out HB9.out, HO9.out.ints (by decide), Xah HL.out HB9.out, HB9.out, Xby _ _, ?_⟩
 exact z90
 exact z193
end
end Go.Proofs.YtbopdijnojaaiadGreat
