/- Closing and going-on steps that stand often, each once. No statement of the seat is proved here. -/
import Derived.WalkKit
import Derived.WalkSpells
import Derived.WalkLawsBesides
import Derived.Deep.QuietTactic
import Derived.BigQuiet
import Derived.Lib.Hide
import Derived.Laws.OwnMore
import Derived.Deep.AppendLies
import Derived.Deep.Draws
import Derived.Maps.Views
import Derived.Laws.IdiomCopy
import Derived.ProofKit
import Derived.Deep.Slices
import Derived.OpenShut
import Derived.Deep.MidRow
import Derived.Deep.RegionHeld3
import Derived.Deep.DrawnRows
import Derived.Lib.SliceRun
import Derived.Maps.OwnOps
import Derived.Maps.OwnSet
import Derived.Shelf.Abstract
import Derived.Deep.DeepCutAuto
import Derived.RegionTactic
import Derived.Laws.Tables
import Derived.Laws.Rows
import Derived.OrdersHeld
import Derived.Great.BuildSlice
import Derived.Deep.RegionLaw
import Derived.BigRegion
import Derived.StillTailTactics
import Derived.IntWalk
import Derived.Lib.AppendZeros
import Derived.Test.YtbopdijnojaaiadGreatProg
namespace Go.Proofs.YtbopdijnojaaiadGreat
set_option maxRecDepth 1000000
set_option linter.unusedVariables false
structure W_ (q : Prop) : Prop where
 out : q
theorem Zh {p : Prop} (h : p) : Go.RowKit.Hid p := h
section
variable {p q : Prop}
theorem y0 (h : p := by first | (simp; done) | (simp; omega) | omega) : p := h
theorem y1 (h : p := by kernel_rfl) : p := h
theorem y2 (h : p := by first | (simp; done) | (simp [Xfh]; done) | (simp [Xfh]; omega) | omega) : p := h
theorem y3 (h : p := by simp; omega) : p := h
theorem y4 (h : p := by simp (maxDischargeDepth := 8) [go_sem, k4_0, l4_0]) : p := h
theorem y5 (h : p := by assumption) : p := h
theorem y6 (h : p := by unfold maxLen; omega) : p := h
theorem y7 (h : p := by intro k hk; simp [Value.ownBlock] at hk; omega) : p := h
theorem y8 (h : p := by simp [Value.ownBlock]) : p := h
theorem y9 (h : p := by simp only []; omega) : p := h
theorem y10 (h : p := by intro q hq; simp [Value.ownBlock] at hq; omega) : p := h
theorem y11 (h : p := by unfold Xa8; simp (maxDischargeDepth := 8) [go_sem, *]) : p := h
theorem y12 (h : p := by show some (Value.int .i64 y.kind) = _; rw [HK.out]) : p := h
theorem y13 (h : p := by rw [World.frozen?_setCell]; exact hfz2 o) : p := h
theorem y14 (h : p := by rw [HL.out.len]; exact hlt) : p := h
theorem y15 (h : p := by revert hm; unfold bC; simp; try omega) : p := h
theorem y16 (h : p := by rw [List.take_of_length_le (by rw [HL.out.len]; omega)]; exact hy) : p := h
theorem y17 (h : p := by simp [go_sem, *]) : p := h
theorem y18 (h : p := by intro o; simp (maxDischargeDepth := 6) [go_sem, f1, xx1]) : p := h
theorem y19 (h : p := by first | (simp; done) | (simp; omega)) : p := h
theorem y20 (h : p := by simpa [Tryz.c3] using h0) : p := h
theorem y21 (h : p := by rw [HTR.out]; exact hf) : p := h
theorem y22 (h : p := by simp [Xb1]; omega) : p := h
theorem y23 (h : p := by simp [go_sem]) : p := h
theorem y24 (h : p := by rw [HX.out.len, HY.out.len]; exact hnm) : p := h
theorem y25 (h : p := by have := HTN.out; unfold maxLen; omega) : p := h
theorem y26 (h : p := by exact Xal (Xap _ _ _ rfl) _) : p := h
theorem y27 (h : p := by simpa [Tryz.c3] using h1) : p := h
theorem y28 (h : p := by rw [e]; decide) : p := h
theorem y29 (h : p := by (repeat (first | (with_reducible exact Below.refl _ _) | (with_reducible refine Below.drew ?_) | (with_reducible refine Xai ?_ _) | ((with_reducible refine Below.setCell ?_ ?_ _); rotate_left; exact y0) | ((with_reducible refine Below.alloc ?_ ?_ _); rotate_left; exact y0)))) : p := h
theorem y30 (h : p := by (repeat (first | (with_reducible exact Below.refl _ _) | (with_reducible refine Below.drew ?_) | (with_reducible refine Xai ?_ _) | ((with_reducible refine Below.setCell ?_ ?_ _); rotate_left; exact y0) | ((with_reducible refine Below.alloc ?_ ?_ _); rotate_left; exact y0) | ((with_reducible refine Below.trans ?_ (HB1.out.mono ?_)); rotate_left; exact y0)))) : p := h
theorem y31 (h : p := by (repeat (first | (with_reducible exact Xar _) | (with_reducible refine Xbi ?_ _) | (with_reducible refine Xbd ?_) | (with_reducible refine Xba ?_ _) | ((with_reducible refine Xbk ?_ ?_ _); rotate_left; exact y2)))) : p := h
theorem y32 (h : p := by (repeat (first | (with_reducible exact Below.refl _ _) | (with_reducible refine Below.drew ?_) | (with_reducible refine Xai ?_ _) | ((with_reducible refine Below.setCell ?_ ?_ _); rotate_left; exact y0) | ((with_reducible refine Below.alloc ?_ ?_ _); rotate_left; exact y0) | ((with_reducible refine Below.trans ?_ (HB.out.mono ?_)); rotate_left; exact y0)))) : p := h
theorem y33 (h : p := by (repeat (first | (with_reducible exact Below.refl _ _) | (with_reducible refine Below.drew ?_) | (with_reducible refine Xai ?_ _) | ((with_reducible refine Below.setCell ?_ ?_ _); rotate_left; exact y0) | ((with_reducible refine Below.alloc ?_ ?_ _); rotate_left; exact y0) | ((with_reducible refine Below.trans ?_ (HB2.out.mono ?_)); rotate_left; exact y0) | ((with_reducible refine Below.trans ?_ (HB1.out.mono ?_)); rotate_left; exact y0)))) : p := h
theorem z22 (k : q) (h : W_ q → p := by
 intro z_
 have e1 : IntKind.i64.wrap (at_ + 1) = at_ + 1 := IntWalk.i64_in _ (by omega)
 have e2 : (at_ + 1).tmod 512 = (at_ + 1) % 512 := Int.tmod_eq_emod_of_nonneg (by omega)
 obtain ⟨i0, hi0, hz0, hz1', hz2⟩ := info_parts Tryz.infoInt
 have HI := Zh hi0; clear hi0
 have HZ0 := Zh hz0; clear hz0
 have HZ1 := Zh hz1'; clear hz1'
 have HZ2 := Zh hz2; clear hz2
 have hn1 := Xd9 (w2.alloc (.cells #[.int .i64 0, .slice none 0 0, .bool false] 26)) 3 1
 have hn2 := Xd9 w2 3 1
 simp only [World.size_alloc] at hn1 hn2
 have HN1 := Zh (Xez hn1 (B' := w2.heap.size) (by omega))
 have HN2 := Zh (Xcp hn2 (Xa3 _ (.cells #[.int .i64 0, .slice none 0 0, .bool false] 26)))
 have HN3 := Zh hn2
 clear hn1 hn2
 have HONE := Zh (Xhw rs)
 have HC1 : Hid ((rs.map (Value.int .i64)).length = 8 * 1) := by show _ = _; rw [List.length_map, HRL.out]
 have HNW : Hid (∀ W : World, Below w.heap.size w W → ∀ j u, (rs.map (Value.int .i64))[j]? = some u → W.cell? ((⟨gR, oR, none⟩ : Addr).add j) = some u) := Zh (fun W hW j u hu => by
   rw [List.getElem?_map, Option.map_eq_some_iff] at hu
   obtain ⟨x, hx, rfl⟩ := hu
   rw [Xi5]
   exact (hW.cell (p := ⟨gR, oR + j, none⟩) lR).trans (HRC.out j x hx))
 have HK0 : Hid (w2.cell? ⟨w.heap.size + 1, 0, none⟩ = some (.int .i64 at_)) := Zh (Xaj H1.out 0)
 have HK1 : Hid (w2.cell? ⟨w.heap.size + 1, 1, none⟩ = some (.slice (some ⟨gR, oR, none⟩) 8 rc)) := Zh (Xaj H1.out 1)
 have yy1 : w.heap.size + 1 < w2.heap.size := by omega
 have yy2 : w.heap.size + 1 < w2.heap.size + 1 := by omega
 have yy3 : w.heap.size + 1 < w2.heap.size + 1 + 1 := by omega
 have yy4 : w.heap.size ≤ w2.heap.size := by omega
 have yy5 : w.heap.size ≤ w2.heap.size + 1 := by omega
 revert e1 e2 i0 HI HZ0 HZ1 HZ2 HN1 HN2 HN3 HONE HC1 HNW HK0 HK1 yy1 yy2 yy3 yy4 yy5
 exact z_.1) : p := h ⟨k⟩
theorem z6 (k : q) (h : W_ q → p := by
 intro z_ H0 H1 H2 H3 H4 H5 HB
 replace H0 := Zh (Xaa H0.out hb)
 replace H1 := Zh (Xaa H1.out hb)
 replace H2 := Zh (Xaa H2.out hb)
 replace H3 := Zh (Xaa H3.out hb)
 replace H4 := Zh (Xaa H4.out hb)
 replace H5 := Zh (Xaa H5.out hb)
 replace HB := Zh (HB.out.trans (hb.mono HB.out.size))
 revert H0 H1 H2 H3 H4 H5 HB
 exact z_.1) : p := h ⟨k⟩
theorem z44 (k : q) (h : W_ q → p := by
 intro z_ H6 H0 H1 H2 H3 H4 H5 HB u12 hcut
 obtain ⟨g12, g2, d2, rfl, hN, hO, ⟨hg1, hg2, hg3⟩, hb⟩ := hcut
 have H7 := Zh hN
 have HO := Zh hO
 have HG2 := Zh (Xaw hO.2)
 have hzc : w2.heap.size ≤ wc.heap.size := Below.size hb
 revert H0 H1 H2 H3 H4 H5 HB; refine_lift z6 ?_; intro H0 H1 H2 H3 H4 H5 HB
 replace H6 := Zh (Xaa H6.out hb)
 have u0 := (HB.out.cell (p := ⟨gR, oR + ka, none⟩) lR).trans (HRC.out _ _ (Xjk (k := (ka : Int)) HRL.out (by omega) (by omega)))
 have v0 := (HB.out.cell (p := ⟨gR, oR + kd, none⟩) lR).trans (HRC.out _ _ (Xjk (k := (kd : Int)) HRL.out (by omega) (by omega)))
 have ub : 0 ≤ rd rs ka ∧ rd rs ka ≤ 65535 := Xib (k := (ka : Int)) (Xck HC2.out).2.2
 have vb : 0 ≤ rd rs kd ∧ rd rs kd ≤ 65535 := Xib (k := (kd : Int)) (Xck HC2.out).2.2
 have k1 := fun o => Xaj H1.out o
 have k6 := fun o => Xaj H6.out o
 revert g12 g2 d2 hN hO hb hg1 hg2 hg3 H7 HO HG2 hzc H0 H1 H2 H3 H4 H5 HB H6 u0 v0 ub vb k1 k6
 exact z_.1) : p := h ⟨k⟩
theorem z0 (k : q) (h : W_ q → p := by
 intro z_ H6 H0 H1 H2 H3 H4 H5 HB
 refine z22 ?_; intro e1 e2 i0 HI HZ0 HZ1 HZ2 HN1 HN2 HN3 HONE HC1 HNW HK0 HK1 yy1 yy2 yy3 yy4 yy5
 go_cut [12] (fun s12 wd => NewW w2 ((at_ + 1) % 512) rs s12 wd)
 case first =>
   go_region_held3 (fun W => W.cell? ⟨w.heap.size + 1, 0, none⟩ = some (.int .i64 at_) ∧ W.cell? ⟨w.heap.size + 1, 1, none⟩ = some (.slice (some ⟨gR, oR, none⟩) 8 rc) ∧ Hid (Xam w2 W)) (((with_reducible refine Xn9 ?_ HK0.out HK1.out); (repeat (first | (with_reducible assumption) | (with_reducible exact Xan _) | (with_reducible exact Xdp y5) | (with_reducible exact Xaz y5 (Xdp y5)) | (with_reducible refine Xav ?_) | (with_reducible refine Xag ?_ _) | ((with_reducible refine Xbg ?_ ?_ _); rotate_left; exact y0))); done)) (first
     | (refine step_append_lies _ (by rfl) (.tmp 41) (.tmp 43) 22 (by rfl) w2.heap.size 3 i0 (.int .i64 0) 1 8 Tryz.underlying22 HI.out HZ0.out HZ1.out HZ2.out (by rfl) (by decide) (.slice (some ⟨w2.heap.size + 1, 0, none⟩) 0 0) 0 [] (by rfl) HN1.out ⟨gR, oR, none⟩ 8 rc (rs.map (Value.int .i64)) (by rfl) HC1.out (HNW.out _ y32) HONE.out (by decide) y6 (by omega) y0 _ rfl ?_; intro g cap w5 hown5 hgrow hat hlt; have HBW := Zh (Below.grown (B := w2.heap.size) (a := w2) y29 hgrow y0 y7); have HO5 : Hid (OwnI w2.heap.size w5 (some ⟨g, 0, none⟩) 8 cap rs) := Zh ⟨HRL.out, by simpa using hown5⟩; simp [Value.ownBlock] at hat; have WB : Hid (Whl w5 (w2.heap.size) 26 #[.int .i64 0, .slice none 0 0, .bool false]) := Zh ((hgrow.block (w2.heap.size) y0 y8).trans y26); have kb := fun o => hgrow.cell_far ⟨w2.heap.size, o, none⟩ y0 y8; have fb := fun o => hgrow.frozen_far ⟨w2.heap.size, o, none⟩ y0 y8; simp (maxDischargeDepth := 6) [go_sem] at kb fb; have HS5 : Xam w2 w5 := HBW.out; have hz5 := HBW.out.size; have hz6 := hgrow.size; (try simp only [World.size_alloc, World.size_drew] at hz5 hz6); have HSX : Hid (Xam w2 w5) := Zh HS5; clear hgrow hown5)
     | (refine step_append_lies _ (by rfl) (.tmp 41) (.tmp 43) 22 (by rfl) w2.heap.size 3 i0 (.int .i64 0) 1 8 Tryz.underlying22 HI.out HZ0.out HZ1.out HZ2.out (by rfl) (by decide) (.slice (some ⟨w2.heap.size, 0, none⟩) 0 0) 0 [] (by rfl) HN2.out ⟨gR, oR, none⟩ 8 rc (rs.map (Value.int .i64)) (by rfl) HC1.out (HNW.out _ y32) HONE.out (by decide) y6 (by omega) y0 _ rfl ?_; intro g cap w5 hown5 hgrow hat hlt; have HBW := Zh (Below.grown (B := w2.heap.size) (a := w2) y29 hgrow y0 y7); have HO5 : Hid (OwnI w2.heap.size w5 (some ⟨g, 0, none⟩) 8 cap rs) := Zh ⟨HRL.out, by simpa using hown5⟩; simp [Value.ownBlock] at hat; have WB : Hid (Whl w5 (w2.heap.size + 1) 26 #[.int .i64 0, .slice none 0 0, .bool false]) := Zh ((hgrow.block (w2.heap.size + 1) y0 y8).trans (by exact Xap _ _ _ (by simp))); have kb := fun o => hgrow.cell_far ⟨w2.heap.size + 1, o, none⟩ y0 y8; have fb := fun o => hgrow.frozen_far ⟨w2.heap.size + 1, o, none⟩ y0 y8; simp (maxDischargeDepth := 6) [go_sem] at kb fb; have HS5 : Xam w2 w5 := HBW.out; have hz5 := HBW.out.size; have hz6 := hgrow.size; (try simp only [World.size_alloc, World.size_drew] at hz5 hz6); have HSX : Hid (Xam w2 w5) := Zh HS5; clear hgrow hown5)
     | (refine step_append_lies _ (by rfl) (.tmp 41) (.tmp 43) 22 (by rfl) w2.heap.size 3 i0 (.int .i64 0) 1 8 Tryz.underlying22 HI.out HZ0.out HZ1.out HZ2.out (by rfl) (by decide) (.slice (some ⟨w2.heap.size, 0, none⟩) 0 0) 0 [] (by rfl) HN3.out ⟨gR, oR, none⟩ 8 rc (rs.map (Value.int .i64)) (by rfl) HC1.out (HNW.out _ y32) HONE.out (by decide) y6 (by omega) y0 _ rfl ?_; intro g cap w5 hown5 hgrow hat hlt; have HBW := Zh (Below.grown (B := w2.heap.size) (a := w2) y29 hgrow y0 y7); have HO5 : Hid (OwnI w2.heap.size w5 (some ⟨g, 0, none⟩) 8 cap rs) := Zh ⟨HRL.out, by simpa using hown5⟩; simp [Value.ownBlock] at hat; have HS5 : Xam w2 w5 := HBW.out; have hz5 := HBW.out.size; have hz6 := hgrow.size; (try simp only [World.size_alloc, World.size_drew] at hz5 hz6); have HSX : Hid (Xam w2 w5) := Zh HS5; clear hgrow hown5))
   all_goals
     go_wp2
     go_meet
     refine ⟨_, g, cap, rfl, ?_, ?_, ?_, ?_⟩
     · first
         | (with_reducible exact Xap _ _ _ rfl)
         | exact Xa9 (Xa9 (Xa9 WB.out 0 _ _ rfl) 1 _ _ rfl) 2 _ _ rfl
     · first
         | (with_reducible exact HO5.out.alloc _)
         | exact ((HO5.out.off (p := ⟨_, 0, none⟩) y0 _).off (p := ⟨_, 1, none⟩) y0 _).off (p := ⟨_, 2, none⟩) y0 _
     · refine ⟨?_, ?_, ?_⟩ <;> first | (simp; done) | (simp; omega) | omega
     · (repeat (first | (with_reducible exact HSX.out) | (with_reducible refine Xag ?_ _) | ((with_reducible refine Xbg ?_ ?_ _); rotate_left; exact y0)))
 case rest =>
 revert H6 H0 H1 H2 H3 H4 H5 HB u12 hcut; refine_lift z44 ?_; intro g12 g2 d2 hN hO hb hg1 hg2 hg3 H7 HO HG2 hzc H0 H1 H2 H3 H4 H5 HB H6 u0 v0 ub vb k1 k6
 clear hN hO hb HN1 HN2 HN3 HC1 HNW HI HZ0 HZ1 HZ2 HONE e1 e2 HK0 HK1 yy1 yy2 yy3 yy4 yy5
 revert i0 wc u19 u20 u21 u22 u23 u24 u25 u26 u27 u28 u29 u30 u31 u32 u33 u34 u35 u36 u37 u38 u39 u40 u41 u42 u43 u44 u45 u46 u47 u48 u49 u50 u51 u52 u53 u54 u55 u56 u57 u58 u61 u62 u63 u64 u65 u66 u68 u69 u70 u71 u72 u73 u74 u75 u77 u78 u79 u80 u81 u82 u83 u84 u85 u86 u88 u89 u92 u93 u94 u95 u96 u97 u98 u99 u100 u101 u102 u104 u105 u106 u107 u108 u109 u110 u111 u112 u113 u114 u115 u116 u117 u118 u119 u120 u121 u122 u123 u124 u125 u126 u127 u129 u130 u131 u132 u133 u134 u135 u136 u137 u138 u139 u140 u141 u142 u143 u144 u145 u146 u147 u148 u150 u151 u152 u153 u154 u155 u156 u158 u159 u160 u161 u162 u163 u164 u165 u166 u167 u168 u169 u170 u171 u172 u173 u174 u175 u176 u177 u178 u179 u180 u181 u182 u183 u184 u185 u186 u187 u188 u189 u190 u191 u192 u193 u194 u195 u196 u197 u198 u199 u200 u201 u202 u203 u204 u205 u206 u207 u208 u209 u210 u212 u213 u214 u217 u218 u219 u221 u222 u223 u225 u226 u227 u228 u230 u231 u232 u233 u235 u236 u237 u238 u240 u241 u242 u243 u245 u246 u247 u248 u249 u250 u251 u252 u253 u254 u255 u256 u257 u258 u259 u260 u261 g12 g2 d2 hg1 hg2 hg3 H7 HO HG2 hzc H0 H1 H2 H3 H4 H5 HB H6 u0 v0 ub vb k1 k6
 exact z_.1) : p := h ⟨k⟩
theorem z158 (k : q) (h : W_ q → p := by
 intro z_
 have HM := Zh hm
 have HR := Zh hr
 have HL := Zh hl
 revert HM HR HL
 exact z_.1) : p := h ⟨k⟩
theorem z87 (k : q) (h : W_ q → p := by
 intro z_
 have HB := Zh (show Below w.heap.size w w0 by rw [← hw0]; (repeat (first | (with_reducible exact Below.refl _ _) | (with_reducible refine Below.drew ?_) | (with_reducible refine Xai ?_ _) | ((with_reducible refine Below.setCell ?_ ?_ _); rotate_left; exact y0) | ((with_reducible refine Below.alloc ?_ ?_ _); rotate_left; exact y0))))
 revert HB
 exact z_.1) : p := h ⟨k⟩
theorem z1 (k : q) (h : W_ q → p := by
 intro z_ M R hm hr hl c1 c2
 have HC2 := Zh c2
 have HXL := Zh (Xb4 c1).1
 refine z158 ?_; intro HM HR HL
 have hAt := (Xck c2).2.1
 simp only [] at hAt
 obtain ⟨hAt1, hAt2⟩ := hAt
 have HRL := Zh (show rs.length = 8 from (Xck c2).1)
 obtain ⟨gM, oM, rfl, lM, hMc⟩ := hm.at_ (by decide)
 obtain ⟨gR, oR, rfl, lR, hRc⟩ := hr.at_ (by decide)
 have HX := Zh (hMc _ _ (Xjk (k := at_) (Xb4 c1).1 hAt1 hAt2))
 have HMC := Zh hMc
 have HRC := Zh hRc
 clear hm hr hl c1 c2 hMc hRc
 go_enter Tryz.func34, Tryz.ntmps34
 go_upto_region 1 with (fail)
 generalize hw0 : (((((w.alloc (.cells #[.slice (some ⟨gM, oM, none⟩) 512 mc] 24)).alloc (.cells #[.int .i64 at_, .slice (some ⟨gR, oR, none⟩) 8 rc, .bool false] 26)).alloc (.cells (B_.b b L n c) 31)).alloc (.cells #[.slice none 0 0] 24)).alloc (.cells #[.int .i64 0, .slice none 0 0, .bool false] 26)).alloc (.cells B_.z 31) = w0
 have H0 := Zh (show Whl w0 w.heap.size 24 #[.slice (some ⟨gM, oM, none⟩) 512 mc] by rw [← hw0]; exact Xal (Xal (Xal (Xal (Xal (Xap _ _ _ rfl) _) _) _) _) _)
 have H1 := Zh (show Whl w0 (w.heap.size + 1) 26 #[.int .i64 at_, .slice (some ⟨gR, oR, none⟩) 8 rc, .bool false] by rw [← hw0]; exact Xal (Xal (Xal (Xal (Xap _ _ _ (by simp)) _) _) _) _)
 have H2 := Zh (show Whl w0 (w.heap.size + 1 + 1) 31 (B_.b b L n c) by rw [← hw0]; exact Xal (Xal (Xal (Xap _ _ _ (by simp)) _) _) _)
 have H3 := Zh (show Whl w0 (w.heap.size + 1 + 1 + 1) 24 #[.slice none 0 0] by rw [← hw0]; exact Xal (Xal (Xap _ _ _ (by simp)) _) _)
 have H4 := Zh (show Whl w0 (w.heap.size + 1 + 1 + 1 + 1) 26 #[.int .i64 0, .slice none 0 0, .bool false] by rw [← hw0]; exact Xal (Xap _ _ _ (by simp)) _)
 have H5 := Zh (show Whl w0 (w.heap.size + 1 + 1 + 1 + 1 + 1) 31 B_.z by rw [← hw0]; exact Xap _ _ _ (by simp))
 refine z87 ?_; intro HB
 have hz0a : w0.heap.size ≤ w.heap.size + 6 := by rw [← hw0]; simp
 have hz0b : w.heap.size + 6 ≤ w0.heap.size := by rw [← hw0]; simp
 clear hw0
 have k0 := fun o => Xaj H0.out o
 have k1 := fun o => Xaj H1.out o
 have kx : w0.cell? ⟨gM, oM + at_.toNat, none⟩ = some (.int .i64 (rd xs at_)) := (HB.out.cell (p := ⟨gM, oM + at_.toNat, none⟩) lM).trans HX.out
 rename_i i_1 i_2
 revert HC2 HXL HL hAt1 hAt2 HRL gM oM HM lM gR oR HR lR HX HMC HRC i_1 i_2 w0 H0 H1 H2 H3 H4 H5 HB hz0a hz0b k0 k1 kx
 exact z_.1) : p := h ⟨k⟩
theorem z129 (k : q) (h : W_ q → p := by
 intro z_
 have hz1 := hb1.size
 (try simp only [World.size_alloc, World.size_setCell, World.size_drew] at hz1)
 revert hz1
 exact z_.1) : p := h ⟨k⟩
theorem z33 (k : q) (h : W_ q → p := by
 intro z_
 rintro e w1 ⟨rfl, hb1⟩
 refine z129 ?_; intro hz1
 revert w1 hb1 hz1
 exact z_.1) : p := h ⟨k⟩
theorem z102 (k : q) (h : W_ q → p := by
 intro z_
 have k1_0 := fun o => (Xab hb1).1 (w.heap.size) o y0
 have l1_0 : (w.heap.size) < w1.heap.size := (by omega)
 have q1_0 := fun o => (Xab hb1).2 (w.heap.size) o y0
 revert k1_0 l1_0 q1_0
 exact z_.1) : p := h ⟨k⟩
theorem z2 (k : q) (h : W_ q → p := by
 intro z_
 refine z33 ?_; intro w1 hb1 hz1
 refine z102 ?_; intro k1_0 l1_0 q1_0
 revert w1 hb1 hz1 k1_0 l1_0 q1_0
 exact z_.1) : p := h ⟨k⟩
theorem z3 (k : q) (h : W_ q → p := by
 intro z_ HV HD
 go_enter Tryz.func11, Tryz.ntmps11
 go_upto_region 3 with (fail)
 generalize hw0 : ((((w.alloc (.cells (M_.m x M 512 mc R 8 rc L n c) 33)).alloc (.cells #[.int .i64 y.kind, .int .i64 y.n, .int .i64 y.a.dev, .int .i64 y.a.at_, .int .i64 y.a.count, .bool y.a.wr, .slice AD nd cd] 37)).alloc (.cells B_.y 33)).alloc (.cells B_.t 40)).alloc (.cells B_.t 40) = w0
 have H2 := Zh (show Whl w0 (w.heap.size) 33 (M_.m x M 512 mc R 8 rc L n c) by rw [← hw0]; exact Xal (Xal (Xal (Xal (Xap _ _ _ rfl) _) _) _) _)
 have H3 := Zh (show Whl w0 (w.heap.size + 1) 37 #[.int .i64 y.kind, .int .i64 y.n, .int .i64 y.a.dev, .int .i64 y.a.at_, .int .i64 y.a.count, .bool y.a.wr, .slice AD nd cd] by rw [← hw0]; exact Xal (Xal (Xal (Xap _ _ _ (by simp)) _) _) _)
 have H4 := Zh (show Whl w0 (w.heap.size + 1 + 1) 33 B_.y by rw [← hw0]; exact Xal (Xal (Xap _ _ _ (by simp)) _) _)
 have H5 := Zh (show Whl w0 (w.heap.size + 1 + 1 + 1) 40 B_.t by rw [← hw0]; exact Xal (Xap _ _ _ (by simp)) _)
 have H8 := Zh (show Whl w0 (w.heap.size + 1 + 1 + 1 + 1) 40 B_.t by rw [← hw0]; exact Xap _ _ _ (by simp))
 refine z87 ?_; intro HB
 have hz0a : w0.heap.size ≤ w.heap.size + 5 := by rw [← hw0]; simp
 have hz0b : w.heap.size + 5 ≤ w0.heap.size := by rw [← hw0]; simp
 clear hw0
 replace HV := Zh (HV.out.since HB.out)
 replace HD := Zh (Xaf HD.out HB.out)
 rename_i i_1 i_2 i_3 i_4
 revert i_1 i_2 i_3 i_4 w0 H2 H3 H4 H5 H8 HB hz0a hz0b HV HD
 exact z_.1) : p := h ⟨k⟩
theorem z137 (k : q) (h : W_ q → p := by
 intro z_
 have t0 : (ckC ls != 0) = false := by rw [bne_eq_false_iff_eq]; exact h0
 revert t0
 exact z_.1) : p := h ⟨k⟩
theorem z93 (k : q) (h : W_ q → p := by
 intro z_ hb1 k1_0 q1_0
 simp (maxDischargeDepth := 6) [go_sem, *] at k1_0 q1_0
 have HB1 := Zh hb1
 clear hb1
 revert k1_0 q1_0 HB1
 exact z_.1) : p := h ⟨k⟩
theorem z54 (k : q) (h : W_ q → p := by
 intro z_
 rintro e w2 ⟨rfl, hb2⟩
 have hz2 := hb2.size
 (try simp only [World.size_alloc, World.size_setCell, World.size_drew] at hz2)
 revert w2 hb2 hz2
 exact z_.1) : p := h ⟨k⟩
theorem z208 (k : q) (h : W_ q → p := by
 intro z_
 have k2_0 := fun o => (Xab hb2).1 (w.heap.size) o y0
 have l2_0 : (w.heap.size) < w2.heap.size := (by omega)
 have q2_0 := fun o => (Xab hb2).2 (w.heap.size) o y0
 revert k2_0 l2_0 q2_0
 exact z_.1) : p := h ⟨k⟩
theorem z32 (k : q) (h : W_ q → p := by
 intro z_
 refine z54 ?_; intro w2 hb2 hz2
 refine z208 ?_; intro k2_0 l2_0 q2_0
 simp (maxDischargeDepth := 6) [go_sem, *] at k2_0 q2_0
 have HB2 := Zh hb2
 clear hb2
 revert w2 hz2 l2_0 k2_0 q2_0 HB2
 exact z_.1) : p := h ⟨k⟩
theorem z110 (k : q) (h : W_ q → p := by
 intro z_
 have hz3 := hb3.size
 (try simp only [World.size_alloc, World.size_setCell, World.size_drew] at hz3)
 revert hz3
 exact z_.1) : p := h ⟨k⟩
theorem z77 (k : q) (h : W_ q → p := by
 intro z_
 refine z110 ?_; intro hz3
 have k3_0 := fun o => (Xab hb3).1 (w.heap.size) o y0
 have l3_0 : (w.heap.size) < w3.heap.size := (by omega)
 have q3_0 := fun o => (Xab hb3).2 (w.heap.size) o y0
 revert hz3 k3_0 l3_0 q3_0
 exact z_.1) : p := h ⟨k⟩
theorem z123 (k : q) (h : W_ q → p := by
 intro z_
 have C0 : w3.cell? ⟨w.heap.size, 0, none⟩ = some (.int .i64 x.dev) := by simp [k3_0]
 have C1 : w3.cell? ⟨w.heap.size, 1, none⟩ = some (.int .i64 x.page) := by simp [k3_0]
 have C2 : w3.cell? ⟨w.heap.size, 2, none⟩ = some (.int .i64 x.at_) := by simp [k3_0]
 have C3 : w3.cell? ⟨w.heap.size, 3, none⟩ = some (.bool x.rd) := by simp [k3_0]
 have C4 : w3.cell? ⟨w.heap.size, 4, none⟩ = some (.bool x.wr) := by simp [k3_0]
 have HC := Zh (And.intro C0 (And.intro C1 (And.intro C2 (And.intro C3 C4))))
 clear C0 C1 C2 C3 C4
 revert HC
 exact z_.1) : p := h ⟨k⟩
theorem z4 (k : q) (h : W_ q → p := by
 intro z_ hl h0 h1 h2
 refine z137 ?_; intro t0
 have t1 : (Xbz x != 0) = false := by rw [bne_eq_false_iff_eq]; exact h1
 have t2 : decide (0 ≤ Xbw ls x.dev x.page) = false := by simp; omega
 have HF := Zh h2
 clear h0 h1 h2 hl
 go_enter Tryz.func94, Tryz.ntmps94
 go_wp2_with fail
 refine (Xdn _ _ _ ls _ ((HL.out.alloc (Nat.le_refl _) _).more (by simp))).mono ?_
 refine z2 ?_; intro _ hb1 _ k1_0 _ q1_0
 revert hb1 k1_0 q1_0; refine_lift z93 ?_; intro k1_0 q1_0 HB1
 go_wp2_with fail
 refine (Xdn _ _ _ [x] _ ((Xgt _ x).more (by simp))).mono ?_
 rw [Xki]
 refine z32 ?_; intro w2 hz2 l2_0 k2_0 q2_0 HB2
 have L2 := Zh ((((HL.out.alloc (Nat.le_refl _) (.cells #[.int .i64 x.dev, .int .i64 x.page, .int .i64 x.at_, .bool x.rd, .bool x.wr] 58)).below (HB1.out.mono (by simp))).alloc (by omega) (.cells #[.int .i64 x.dev, .int .i64 x.page, .int .i64 x.at_, .bool x.rd, .bool x.wr] 58) |>.below (HB2.out.mono y3)).more (B' := w2.heap.size) (by omega))
 have M2 := Zh ((((HL1.out.alloc (Nat.le_refl _) (.cells #[.int .i64 x.dev, .int .i64 x.page, .int .i64 x.at_, .bool x.rd, .bool x.wr] 58)).below (HB1.out.mono (by simp))).alloc (by omega) (.cells #[.int .i64 x.dev, .int .i64 x.page, .int .i64 x.at_, .bool x.rd, .bool x.wr] 58) |>.below (HB2.out.mono y3)).more (B' := w2.heap.size) (by omega))
 go_wp2_with fail
 refine (Xet _ _ _ ls _ _ _ L2.out).mono ?_
 rintro e w3 ⟨rfl, hb3⟩
 refine z77 ?_; intro hz3 k3_0 l3_0 q3_0
 simp (maxDischargeDepth := 6) [go_sem, *] at k3_0 q3_0
 have HB3 := Zh hb3
 clear hb3
 have M3 := Zh ((M2.out.below HB3.out).more (B' := w3.heap.size) (by omega))
 refine z123 ?_; intro HC
 go_wp2_with fail
 rename_i i_1 i_2 i_3 i_4 i_5
 revert t0 t1 t2 HF i_1 i_2 i_3 k1_0 q1_0 HB1 w2 hz2 l2_0 k2_0 q2_0 HB2 L2 M2 w3 hz3 l3_0 k3_0 q3_0 HB3 M3 HC i_4 i_5
 exact z_.1) : p := h ⟨k⟩
theorem z5 (h : p := by
 · (repeat (first | (with_reducible exact Below.refl _ _) | (with_reducible refine Below.drew ?_) | (with_reducible refine Xai ?_ _) | ((with_reducible refine Below.setCell ?_ ?_ _); rotate_left; exact y0) | ((with_reducible refine Below.alloc ?_ ?_ _); rotate_left; exact y0) | ((with_reducible refine Below.trans ?_ (HB1.out.mono ?_)); rotate_left; exact y0)))) : p := h
theorem z7 (k : q) (h : W_ q → p := by
 intro z_
 have hz2 := hb2.size
 (try simp only [World.size_alloc, World.size_setCell, World.size_drew] at hz2)
 refine z208 ?_; intro k2_0 l2_0 q2_0
 have k2_1 := fun o => (Xab hb2).1 (w.heap.size + 1) o y0
 have l2_1 : (w.heap.size + 1) < w2.heap.size := (by omega)
 have q2_1 := fun o => (Xab hb2).2 (w.heap.size + 1) o y0
 revert hz2 k2_0 l2_0 q2_0 k2_1 l2_1 q2_1
 exact z_.1) : p := h ⟨k⟩
theorem z10 (k : q) (h : W_ q → p := by
 intro z_
 have k1_1 := fun o => (Xab hb1).1 (w.heap.size + 1) o y0
 have l1_1 : (w.heap.size + 1) < w1.heap.size := (by omega)
 have q1_1 := fun o => (Xab hb1).2 (w.heap.size + 1) o y0
 revert k1_1 l1_1 q1_1
 exact z_.1) : p := h ⟨k⟩
theorem z29 (k : q) (h : W_ q → p := by
 intro z_
 have k1_2 := fun o => (Xab hb1).1 (w.heap.size + 1 + 1) o y0
 have l1_2 : (w.heap.size + 1 + 1) < w1.heap.size := (by omega)
 have q1_2 := fun o => (Xab hb1).2 (w.heap.size + 1 + 1) o y0
 revert k1_2 l1_2 q1_2
 exact z_.1) : p := h ⟨k⟩
theorem z130 (k : q) (h : W_ q → p := by
 intro z_
 have k2_0 := fun o => (Xab hb2).1 (w.heap.size + 1) o y0
 have l2_0 : (w.heap.size + 1) < w2.heap.size := (by omega)
 have q2_0 := fun o => (Xab hb2).2 (w.heap.size + 1) o y0
 have k2_1 := fun o => (Xab hb2).1 (w.heap.size + 1 + 1) o y0
 have l2_1 : (w.heap.size + 1 + 1) < w2.heap.size := (by omega)
 have q2_1 := fun o => (Xab hb2).2 (w.heap.size + 1 + 1) o y0
 revert k2_0 l2_0 q2_0 k2_1 l2_1 q2_1
 exact z_.1) : p := h ⟨k⟩
theorem z68 (k : q) (h : W_ q → p := by
 intro z_
 refine (Xtq _ _ _ xs _ _ _ _ (Xaf HX.out y30) HP.out).mono ?_
 rw [HV.out]
 refine z54 ?_; intro w2 hb2 _
 refine z130 ?_; intro k2_0 l2_0 q2_0 k2_1 l2_1 q2_1
 simp (maxDischargeDepth := 6) [go_sem, *] at k2_0 q2_0 k2_1 q2_1
 have HB2 := Zh hb2
 clear hb2
 rename_i i_1
 revert w2 i_1 l2_0 l2_1 k2_0 q2_0 k2_1 q2_1 HB2
 exact z_.1) : p := h ⟨k⟩
theorem z187 (k : q) (h : W_ q → p := by
 intro z_
 refine z110 ?_; intro hz3
 have k3_0 := fun o => (Xab hb3).1 (w.heap.size + 1) o y0
 have l3_0 : (w.heap.size + 1) < w3.heap.size := (by omega)
 have q3_0 := fun o => (Xab hb3).2 (w.heap.size + 1) o y0
 revert hz3 k3_0 l3_0 q3_0
 exact z_.1) : p := h ⟨k⟩
theorem z62 (k : q) (h : W_ q → p := by
 intro z_
 have hcp := fun W h => Xc7 b A n c W h HN.out
 simp only [HS.out] at hcp
 refine (hcp _ (Xah HL.out y33)).mono ?_
 clear hcp
 rintro e w3 ⟨A3, c3, rfl, ho3, hb3⟩
 refine z187 ?_; intro hz3 k3_0 l3_0 q3_0
 have k3_1 := fun o => (Xab hb3).1 (w.heap.size + 1 + 1) o y0
 have l3_1 : (w.heap.size + 1 + 1) < w3.heap.size := (by omega)
 have q3_1 := fun o => (Xab hb3).2 (w.heap.size + 1 + 1) o y0
 revert w3 A3 c3 ho3 hb3 hz3 k3_0 l3_0 q3_0 k3_1 l3_1 q3_1
 exact z_.1) : p := h ⟨k⟩
theorem z57 (k : q) (h : W_ q → p := by
 intro z_
 rintro e w4 ⟨rfl, hb4⟩
 have hz4 := hb4.size
 (try simp only [World.size_alloc, World.size_setCell, World.size_drew] at hz4)
 have k4_0_0 := (Xab hb4).1 (w.heap.size + 1) 0 y0
 have k4_0_1 := (Xab hb4).1 (w.heap.size + 1) 1 y0
 have k4_0_2 := (Xab hb4).1 (w.heap.size + 1) 2 y0
 have k4_0_3 := (Xab hb4).1 (w.heap.size + 1) 3 y0
 have k4_0_4 := (Xab hb4).1 (w.heap.size + 1) 4 y0
 have k4_0_5 := (Xab hb4).1 (w.heap.size + 1) 5 y0
 have k4_0_6 := (Xab hb4).1 (w.heap.size + 1) 6 y0
 have k4_0_7 := (Xab hb4).1 (w.heap.size + 1) 7 y0
 have k4_0_8 := (Xab hb4).1 (w.heap.size + 1) 8 y0
 have k4_0_9 := (Xab hb4).1 (w.heap.size + 1) 9 y0
 have k4_0_10 := (Xab hb4).1 (w.heap.size + 1) 10 y0
 have k4_0_11 := (Xab hb4).1 (w.heap.size + 1) 11 y0
 have l4_0 : (w.heap.size + 1) < w4.heap.size := (by omega)
 have q4_0 := fun o => (Xab hb4).2 (w.heap.size + 1) o y0
 have k4_1 := fun o => (Xab hb4).1 (w.heap.size + 1 + 1) o y0
 have l4_1 : (w.heap.size + 1 + 1) < w4.heap.size := (by omega)
 have q4_1 := fun o => (Xab hb4).2 (w.heap.size + 1 + 1) o y0
 revert w4 hb4 hz4 k4_0_0 k4_0_1 k4_0_2 k4_0_3 k4_0_4 k4_0_5 k4_0_6 k4_0_7 k4_0_8 k4_0_9 k4_0_10 k4_0_11 l4_0 q4_0 k4_1 l4_1 q4_1
 exact z_.1) : p := h ⟨k⟩
theorem z8 (h : p := by
 refine z10 ?_; intro k1_1 l1_1 q1_1
 refine z29 ?_; intro k1_2 l1_2 q1_2
 simp (maxDischargeDepth := 6) [go_sem, *] at k1_0 q1_0 k1_1 q1_1 k1_2 q1_2
 have HB1 := Zh hb1
 clear hb1
 have hs := HS.out
 go_wp2_with fail
 refine z68 ?_; intro w2 _ l2_0 l2_1 k2_0 q2_0 k2_1 q2_1 HB2
 clear k1_0 q1_0 l1_0 k1_1 q1_1 l1_1 k1_2 q1_2 l1_2
 go_wp2_with fail
 refine z62 ?_; intro w3 A3 c3 ho3 hb3 _ k3_0 l3_0 q3_0 k3_1 l3_1 q3_1
 have k3_2 := fun o => (Xab hb3).1 (w2.heap.size) o y0
 have l3_2 : (w2.heap.size) < w3.heap.size := (by omega)
 have q3_2 := fun o => (Xab hb3).2 (w2.heap.size) o y0
 simp (maxDischargeDepth := 6) [go_sem, *] at k3_0 q3_0 k3_1 q3_1 k3_2 q3_2
 have HB3 := Zh hb3
 clear hb3
 have HO3 : Hid (OwnL (w.heap.size + 1 + 1 + 1) w3 A3 n c3 b.cache) := Zh (ho3.low y3)
 clear ho3 k2_0 q2_0 l2_0 k2_1 q2_1 l2_1
 go_wp2_with fail
 refine (Xf0 _ _).mono ?_
 rw [HRR.out]
 refine z57 ?_; intro w4 hb4 _ k4_0_0 k4_0_1 k4_0_2 k4_0_3 k4_0_4 k4_0_5 k4_0_6 k4_0_7 k4_0_8 k4_0_9 k4_0_10 k4_0_11 l4_0 q4_0 k4_1 l4_1 q4_1
 have k4_2 := fun o => (Xab hb4).1 (w2.heap.size) o y0
 have l4_2 : (w2.heap.size) < w4.heap.size := (by omega)
 have q4_2 := fun o => (Xab hb4).2 (w2.heap.size) o y0
 simp (maxDischargeDepth := 6) [go_sem, *] at k4_0_0 k4_0_1 k4_0_2 k4_0_3 k4_0_4 k4_0_5 k4_0_6 k4_0_7 k4_0_8 k4_0_9 k4_0_10 k4_0_11 q4_0 k4_1 q4_1 k4_2 q4_2
 have HB4 := Zh hb4
 clear hb4
 clear k3_0 q3_0 l3_0 k3_1 q3_1 l3_1 k3_2 q3_2 l3_2
 have HO4 : Hid (OwnL (w.heap.size + 1 + 1 + 1) w4 A3 n c3 b.cache) := Zh (by
   (refine OwnL.below ?_ HB4.out); (repeat (first | ((with_reducible refine OwnL.set ?_ ?_ _); rotate_left; exact y0) | (with_reducible exact HO3.out))))
 go_wp2_with fail
 refine (Xux A3 n c3 b.cache ms vk vd vp 0 _ (by exact (OwnL.lines (OwnL.alloc HO4.out _))) HWF.out HDE.out HM.out).mono ?_
 rintro e w5 ⟨A5, c5, rfl, hl5, hb5, hn5⟩
 have hz5 := hb5.size
 (try simp only [World.size_alloc, World.size_setCell, World.size_drew] at hz5)
 have k5_0_0 := (Xab hb5).1 (w.heap.size + 1) 0 y0
 have k5_0_1 := (Xab hb5).1 (w.heap.size + 1) 1 y0
 have k5_0_2 := (Xab hb5).1 (w.heap.size + 1) 2 y0
 have k5_0_3 := (Xab hb5).1 (w.heap.size + 1) 3 y0
 have k5_0_4 := (Xab hb5).1 (w.heap.size + 1) 4 y0
 have k5_0_5 := (Xab hb5).1 (w.heap.size + 1) 5 y0
 have k5_0_6 := (Xab hb5).1 (w.heap.size + 1) 6 y0
 have k5_0_7 := (Xab hb5).1 (w.heap.size + 1) 7 y0
 have k5_0_8 := (Xab hb5).1 (w.heap.size + 1) 8 y0
 have k5_0_9 := (Xab hb5).1 (w.heap.size + 1) 9 y0
 have k5_0_10 := (Xab hb5).1 (w.heap.size + 1) 10 y0
 have k5_0_11 := (Xab hb5).1 (w.heap.size + 1) 11 y0
 have l5_0 : (w.heap.size + 1) < w5.heap.size := (by omega)
 have q5_0 := fun o => (Xab hb5).2 (w.heap.size + 1) o y0
 have k5_1 := fun o => (Xab hb5).1 (w.heap.size + 1 + 1) o y0
 have l5_1 : (w.heap.size + 1 + 1) < w5.heap.size := (by omega)
 have q5_1 := fun o => (Xab hb5).2 (w.heap.size + 1 + 1) o y0
 have k5_2 := fun o => (Xab hb5).1 (w2.heap.size) o y0
 have l5_2 : (w2.heap.size) < w5.heap.size := (by omega)
 have q5_2 := fun o => (Xab hb5).2 (w2.heap.size) o y0
 have k5_3 := fun o => (Xab hb5).1 (w4.heap.size) o y0
 have l5_3 : (w4.heap.size) < w5.heap.size := (by omega)
 have q5_3 := fun o => (Xab hb5).2 (w4.heap.size) o y0
 simp (maxDischargeDepth := 6) [go_sem, *] at k5_0_0 k5_0_1 k5_0_2 k5_0_3 k5_0_4 k5_0_5 k5_0_6 k5_0_7 k5_0_8 k5_0_9 k5_0_10 k5_0_11 q5_0 k5_1 q5_1 k5_2 q5_2 k5_3 q5_3
 have HB5 := Zh hb5
 clear hb5
 (try simp only [World.size_alloc, World.size_setCell, World.size_drew] at hn5)
 have HL5 := Zh hl5
 have HN5 := Zh (show ∀ ad, A5 = some ad → w.heap.size + 1 + 1 < ad.block from fun ad e => by have := hn5 ad e; omega)
 have u1 : ¬ w.heap.size + 1 = w4.heap.size := by omega
 have u2 : ¬ w4.heap.size = w.heap.size + 1 := by omega
 have u3 : ¬ w.heap.size + 1 = w2.heap.size := by omega
 have u4 : ¬ w2.heap.size = w.heap.size + 1 := by omega
 clear hl5 hn5 k4_0_0 k4_0_1 k4_0_2 k4_0_3 k4_0_4 k4_0_5 k4_0_6 k4_0_7 k4_0_8 k4_0_9 k4_0_10 k4_0_11 q4_0 l4_0 k4_1 q4_1 l4_1 k4_2 q4_2 l4_2
 go_wp2
 refine bodyPost_ret (v := .tuple #[.agg (B_.b (obB b ms F) A5 ms.length c5), .int .i64 0]) ?_ rfl ⟨A5, ms.length, c5, rfl, ?_, ?_, ?_⟩
 · simp (maxDischargeDepth := 8) [results, Tryz.results14, go_sem, obB, ← HQ.out, *]
 · refine Lines.more (B := w5.heap.size) ?_ (by simp)
   show Lines _ _ _ _ _ ms
   (repeat (first | ((with_reducible refine Xbs ?_ ?_ _); rotate_left; exact (by intro ad e h; have := HN5.out ad e; dsimp only at h; omega)) | (with_reducible exact HL5.out)))
 · (repeat (first | (with_reducible exact Below.refl _ _) | (with_reducible refine Below.drew ?_) | (with_reducible refine Xai ?_ _) | ((with_reducible refine Below.setCell ?_ ?_ _); rotate_left; exact y0) | ((with_reducible refine Below.alloc ?_ ?_ _); rotate_left; exact y0) | ((with_reducible refine Below.trans ?_ (HB5.out.mono ?_)); rotate_left; exact y0) | ((with_reducible refine Below.trans ?_ (HB4.out.mono ?_)); rotate_left; exact y0) | ((with_reducible refine Below.trans ?_ (HB3.out.mono ?_)); rotate_left; exact y0) | ((with_reducible refine Below.trans ?_ (HB2.out.mono ?_)); rotate_left; exact y0) | ((with_reducible refine Below.trans ?_ (HB1.out.mono ?_)); rotate_left; exact y0)))
 · intro ad e; have := HN5.out ad e; omega) : p := h
theorem z16 (h : p := by
 first
   | exact Below.grown (Below.alloc (B := w3.heap.size) (by (repeat (first | (with_reducible exact Below.refl _ _) | (with_reducible refine Below.drew ?_) | (with_reducible refine Xai ?_ _) | ((with_reducible refine Below.setCell ?_ ?_ _); rotate_left; exact y0) | ((with_reducible refine Below.alloc ?_ ?_ _); rotate_left; exact y0) | ((with_reducible refine Below.trans ?_ (HB4.out.mono ?_)); rotate_left; exact y0)))) (by omega) _) hgrow y3 (Xbr HO4.out.2.2.2)
   | exact Below.grown (by (repeat (first | (with_reducible exact Below.refl _ _) | (with_reducible refine Below.drew ?_) | (with_reducible refine Xai ?_ _) | ((with_reducible refine Below.setCell ?_ ?_ _); rotate_left; exact y0) | ((with_reducible refine Below.alloc ?_ ?_ _); rotate_left; exact y0) | ((with_reducible refine Below.trans ?_ (HB4.out.mono ?_)); rotate_left; exact y0)))) hgrow (by omega) (Xbr HO4.out.2.2.2)) : p := h
theorem z9 (h : p := by
 revert hl h0 h1 h2; refine_lift z4 ?_; intro _ _ _ _ _ _ _ _ _ HB1 _ _ _ _ _ HB2 _ _ w3 _ _ _ _ HB3 M3 HC _ _
 obtain ⟨e1, e2, e3⟩ := HE.out
 go_region_held3 (fun W => W.cell? ⟨w.heap.size, 0, none⟩ = some (.int .i64 x.dev) ∧ W.cell? ⟨w.heap.size, 1, none⟩ = some (.int .i64 x.page) ∧ W.cell? ⟨w.heap.size, 2, none⟩ = some (.int .i64 x.at_) ∧ W.cell? ⟨w.heap.size, 3, none⟩ = some (.bool x.rd) ∧ W.cell? ⟨w.heap.size, 4, none⟩ = some (.bool x.wr))
   (first
     | exact HC.out
     | (refine ⟨?_, ?_, ?_, ?_, ?_⟩; (exact Eq.trans (hgrow.cell_far ⟨w.heap.size, 0, none⟩ y3 (fun e => absurd (Xbr HO4.out.2.2.2 _ e.symm) y3)) y4); (exact Eq.trans (hgrow.cell_far ⟨w.heap.size, 1, none⟩ y3 (fun e => absurd (Xbr HO4.out.2.2.2 _ e.symm) y3)) y4); (exact Eq.trans (hgrow.cell_far ⟨w.heap.size, 2, none⟩ y3 (fun e => absurd (Xbr HO4.out.2.2.2 _ e.symm) y3)) y4); (exact Eq.trans (hgrow.cell_far ⟨w.heap.size, 3, none⟩ y3 (fun e => absurd (Xbr HO4.out.2.2.2 _ e.symm) y3)) y4); (exact Eq.trans (hgrow.cell_far ⟨w.heap.size, 4, none⟩ y3 (fun e => absurd (Xbr HO4.out.2.2.2 _ e.symm) y3)) y4))
     | (refine ⟨?_, ?_, ?_, ?_, ?_⟩ <;> (simp (maxDischargeDepth := 8) [go_sem, k4_0]; done))
     | (refine ⟨?_, ?_, ?_, ?_, ?_⟩ <;> (simp (maxDischargeDepth := 8) [go_sem, HC.out.1, HC.out.2.1, HC.out.2.2.1, HC.out.2.2.2.1, HC.out.2.2.2.2]; done))
     | go_keep)
   (first
     | (go_at_call 66; refine (Xdd _ _ _ ls _ ?_ (by omega)).mono ?_; (first | exact M3.out.drew | exact (M3.out.drew.alloc (Nat.le_refl _) _).more (by simp)); rintro e w4 ⟨A4, c4, rfl, ho4, hb4⟩; have HO4 : Hid (OwnL w3.heap.size w4 A4 (0) c4 ls) := Zh (ho4.low (by simp)); clear ho4; have hb4' := hb4; have hz4 := hb4.size; (try simp only [World.size_alloc, World.size_setCell, World.size_drew] at hz4); have k4_0 := fun o => (Xab hb4).1 (w.heap.size) o y0; have l4_0 : (w.heap.size) < w4.heap.size := (by omega); have q4_0 := fun o => (Xab hb4).2 (w.heap.size) o y0; simp (maxDischargeDepth := 6) [go_sem, *] at k4_0 q4_0; have HB4 := Zh hb4; clear hb4)
     | (revert HO4; intro HO4; refine step_append_lies _ (by rfl) (.tmp 33) (.tmp 35) 27 (by rfl) w3.heap.size 58 i0 (.agg #[.int .i64 0, .int .i64 0, .int .i64 0, .bool false, .bool false]) 5 32 Tryz.underlying27 HI.out HZ0.out HZ1.out HZ2.out (by rfl) (by decide) (.slice A4 (0) c4) (0) (Xaq ls) (by rfl) HO4.out.2.2.2 ⟨w3.heap.size, 0, none⟩ 1 1 x.vals (by rfl) (by rfl) (Xe0 (w := w3.drew) x hb4') (Xbm x) (by decide) y6 (by omega) (by omega) _ rfl ?_; intro g cap w5 hown5 hgrow hat hlt)
     | (revert HO4; intro HO4; refine step_append_lies _ (by rfl) (.tmp 33) (.tmp 35) 27 (by rfl) w3.heap.size 58 i0 (.agg #[.int .i64 0, .int .i64 0, .int .i64 0, .bool false, .bool false]) 5 32 Tryz.underlying27 HI.out HZ0.out HZ1.out HZ2.out (by rfl) (by decide) (.slice A4 (0) c4) (0) (Xaq ls) (by rfl) (HO4.out.alloc _).2.2.2 ⟨w4.heap.size, 0, none⟩ 1 1 x.vals (by rfl) (by rfl) (Xdz w4 x) (Xbm x) (by decide) y6 (by omega) y3 _ rfl ?_; intro g cap w5 hown5 hgrow hat hlt))
 all_goals
   have hbw : Below w3.heap.size w3 w5 := by
     exact z16
   have HBW := Zh hbw
   have HO5 := Zh (Xc1 HLEN.out hown5)
   clear hgrow hat hlt hown5 hbw e1 e2 e3
   go_wp2
   go_ret2
   exact ⟨some ⟨g, 0, none⟩, cap, rfl, HO5.out.low (by omega), (by (repeat (first | (with_reducible exact Below.refl _ _) | (with_reducible refine Below.drew ?_) | (with_reducible refine Xai ?_ _) | ((with_reducible refine Below.setCell ?_ ?_ _); rotate_left; exact y0) | ((with_reducible refine Below.alloc ?_ ?_ _); rotate_left; exact y0) | ((with_reducible refine Below.trans ?_ (HB3.out.mono ?_)); rotate_left; exact y0) | ((with_reducible refine Below.trans ?_ (HB2.out.mono ?_)); rotate_left; exact y0) | ((with_reducible refine Below.trans ?_ (HB1.out.mono ?_)); rotate_left; exact y0))) : Below w.heap.size w w3).trans (HBW.out.mono (by omega))⟩) : p := h
theorem z11 (h : p := by
 (repeat (first | (with_reducible exact Below.refl _ _) | (with_reducible refine Below.drew ?_) | (with_reducible refine Xai ?_ _) | ((with_reducible refine Below.setCell ?_ ?_ _); rotate_left; exact y0) | ((with_reducible refine Below.alloc ?_ ?_ _); rotate_left; exact y0) | ((with_reducible refine Below.trans ?_ (HB2.out.mono ?_)); rotate_left; exact y0) | ((with_reducible refine Below.trans ?_ (HB1.out.mono ?_)); rotate_left; exact y0)))) : p := h
theorem z46 (k : q) (h : W_ q → p := by
 intro z_
 have k1_0 := fun o => (Xab hb1).1 (w.heap.size + 1) o y0
 have l1_0 : (w.heap.size + 1) < w1.heap.size := (by omega)
 have q1_0 := fun o => (Xab hb1).2 (w.heap.size + 1) o y0
 revert k1_0 l1_0 q1_0
 exact z_.1) : p := h ⟨k⟩
theorem z41 (k : q) (h : W_ q → p := by
 intro z_
 have k1_1 := fun o => (Xab hb1).1 (w.heap.size + 1 + 1) o y0
 have l1_1 : (w.heap.size + 1 + 1) < w1.heap.size := (by omega)
 have q1_1 := fun o => (Xab hb1).2 (w.heap.size + 1 + 1) o y0
 revert k1_1 l1_1 q1_1
 exact z_.1) : p := h ⟨k⟩
theorem z175 (k : q) (h : W_ q → p := by
 intro z_ hb1 k1_0 q1_0 k1_1 q1_1
 simp (maxDischargeDepth := 6) [go_sem, *] at k1_0 q1_0 k1_1 q1_1
 have HB1 := Zh hb1
 clear hb1
 revert k1_0 q1_0 k1_1 q1_1 HB1
 exact z_.1) : p := h ⟨k⟩
theorem z12 (h : p := by
 go_enter Tryz.func35, Tryz.ntmps35
 go_wp2_with fail
 refine (Xic _ _).mono ?_
 rw [HRR.out]
 refine z33 ?_; intro w1 hb1 _
 refine z46 ?_; intro k1_0 l1_0 q1_0
 refine z41 ?_; intro k1_1 l1_1 q1_1
 revert hb1 k1_0 q1_0 k1_1 q1_1; refine_lift z175 ?_; intro k1_0 q1_0 k1_1 q1_1 HB1
 go_wp2_with fail
 refine (Xm0 A n c b.cache ms vk vd vp 0 _ (Xah HL.out y30) HDE.out HM.out).mono ?_
 rintro e w2 ⟨A2, c2, rfl, hl2, hb2, hn2⟩
 have hz2 := hb2.size
 (try simp only [World.size_alloc, World.size_setCell, World.size_drew] at hz2)
 refine z130 ?_; intro k2_0 _ q2_0 k2_1 _ q2_1
 have k2_2 := fun o => (Xab hb2).1 (w1.heap.size) o y0
 have l2_2 : (w1.heap.size) < w2.heap.size := (by omega)
 have q2_2 := fun o => (Xab hb2).2 (w1.heap.size) o y0
 simp (maxDischargeDepth := 6) [go_sem, *] at k2_0 q2_0 k2_1 q2_1 k2_2 q2_2
 have HB2 := Zh hb2
 clear hb2
 (try simp only [World.size_alloc, World.size_setCell, World.size_drew] at hn2)
 have HL2 := Zh hl2
 have HN2 := Zh (show ∀ ad, A2 = some ad → w.heap.size + 1 + 1 < ad.block from fun ad e => by have := hn2 ad e; omega)
 have u1 : ¬ w.heap.size + 1 = w1.heap.size := by omega
 have u2 : ¬ w1.heap.size = w.heap.size + 1 := by omega
 clear hl2 hn2 k1_0 q1_0 l1_0 k1_1 q1_1 l1_1
 go_wp2
 refine bodyPost_ret (v := .tuple #[.agg (B_.b (obC b ms F) A2 ms.length c2), .int .i64 0]) ?_ rfl ⟨A2, ms.length, c2, rfl, ?_, ?_, ?_⟩
 · simp (maxDischargeDepth := 8) [results, Tryz.results35, go_sem, obC, ← HQ.out, *]
 · refine Lines.more (B := w2.heap.size) ?_ (by simp)
   show Lines _ _ _ _ _ ms
   (repeat (first | ((with_reducible refine Xbs ?_ ?_ _); rotate_left; exact (by intro ad e h; have := HN2.out ad e; dsimp only at h; omega)) | (with_reducible exact HL2.out)))
 · exact z11
 · intro ad e; have := HN2.out ad e; exact Or.inr (by omega)) : p := h
theorem z121 (k : q) (h : W_ q → p := by
 intro z_
 intro w9 c9 q1 q2 q3
 have Q1 := Zh q1
 have Q2 := Zh q2
 have Q3 := Zh q3
 have hz9 := c9.size
 have HB9 := Zh (Xa2 HB.out (HB.out.size) c9 (fun q hq e => by omega))
 have HO9 := Zh (Xbn HO.out c9 (fun ad e hp => by injection e with e; subst e; simp only [] at hp; omega))
 clear q1 q2 q3 c9
 revert w9 Q1 Q2 Q3 hz9 HB9 HO9
 exact z_.1) : p := h ⟨k⟩
theorem z90 (h : p := by
 · exact Xd3 Tryz.results34 rfl rfl rfl (run_loadVar_mid w9 _ 0 24 _ _ Q1.out Tryz.underlying24 rfl Tryz.sizeMem) (run_loadVar_mid w9 _ 0 26 _ _ Q2.out Tryz.underlying26 rfl Tryz.sizeHart) (run_loadVar_mid w9 _ 0 31 _ _ Q3.out Tryz.underlying31 rfl Tryz.sizeBrg)) : p := h
theorem z193 (h : p := by
 · intro ad e; injection e with e; subst e; exact Or.inr (by show _ ≤ g2; omega)) : p := h
theorem z13 (h : p := by
 refine Xdb y1 _ _ _ _ _ _ rfl rfl rfl rfl rfl rfl rfl y1 y1 y1 y1 y1 y1 y1 y1 y1 y1 y1 rfl rfl rfl rfl rfl rfl 24 26 31 (.tmp 3) (.tmp 12) (.tmp 5) (.tmp 6) (.tmp 7) (.tmp 8) (.tmp 259) (.tmp 260) (.tmp 261) rfl rfl rfl rfl rfl rfl w.heap.size g12 (w.heap.size + 1 + 1) (w.heap.size + 1 + 1 + 1) (w.heap.size + 1 + 1 + 1 + 1) (w.heap.size + 1 + 1 + 1 + 1 + 1) #[.slice (some ⟨gM, oM, none⟩) 512 mc] #[.int .i64 ((at_ + 1) % 512), .slice (some ⟨g2, 0, none⟩) 8 d2, .bool false] (B_.b b L n c) _ _ _ Tryz.underlying24 Tryz.underlying26 Tryz.underlying31 rfl rfl rfl Tryz.sizeMem Tryz.sizeHart Tryz.sizeBrg rfl rfl rfl rfl rfl rfl rfl rfl rfl rfl rfl rfl _ _ _ _ _ _ H0.out H7.out H2.out _ _ _ H3.out H4.out H5.out rfl rfl rfl (by omega) (by omega) (by omega) (by omega) (by omega) (by omega) (by omega) (by omega) (by omega) (by omega) (by omega) (by omega) (fun _ _ _ _ h => h) (fun _ _ _ _ h => h) (fun _ _ _ _ h => h) ?_
 refine z121 ?_; intro w9 Q1 Q2 Q3 _ HB9 HO9
 go_wp2
 refine bodyPost_ret (v := .tuple #[.agg #[.slice (some ⟨gM, oM, none⟩) 512 mc], .agg #[.int .i64 ((at_ + 1) % 512), .slice (some ⟨g2, 0, none⟩) 8 d2, .bool false], .agg (B_.b b L n c)]) ?_ rfl ⟨_, _, _, _, rfl, Xaf HM.out HB9.out, HO9.out.ints (by decide), Xah HL.out HB9.out, HB9.out, Xby _ _, ?_⟩
 exact z90
 exact z193) : p := h
theorem z91 (k : q) (h : W_ q → p := by
 intro z_
 have k1_3 := fun o => (Xab hb1).1 (w.heap.size + 1 + 1 + 1) o y0
 have l1_3 : (w.heap.size + 1 + 1 + 1) < w1.heap.size := (by omega)
 have q1_3 := fun o => (Xab hb1).2 (w.heap.size + 1 + 1 + 1) o y0
 revert k1_3 l1_3 q1_3
 exact z_.1) : p := h ⟨k⟩
theorem z179 (k : q) (h : W_ q → p := by
 intro z_
 have k1_4 := fun o => (Xab hb1).1 (w.heap.size + 1 + 1 + 1 + 1) o y0
 have l1_4 : (w.heap.size + 1 + 1 + 1 + 1) < w1.heap.size := (by omega)
 have q1_4 := fun o => (Xab hb1).2 (w.heap.size + 1 + 1 + 1 + 1) o y0
 revert k1_4 l1_4 q1_4
 exact z_.1) : p := h ⟨k⟩
theorem z14 (k : q) (h : W_ q → p := by
 intro z_ hb1 k1_0 q1_0 k1_1 q1_1
 refine z29 ?_; intro k1_2 l1_2 q1_2
 refine z91 ?_; intro k1_3 l1_3 q1_3
 refine z179 ?_; intro k1_4 l1_4 q1_4
 have k1_5 := fun o => (Xab hb1).1 (w.heap.size + 1 + 1 + 1 + 1 + 1) o y0
 have l1_5 : (w.heap.size + 1 + 1 + 1 + 1 + 1) < w1.heap.size := (by omega)
 have q1_5 := fun o => (Xab hb1).2 (w.heap.size + 1 + 1 + 1 + 1 + 1) o y0
 simp (maxDischargeDepth := 6) [go_sem, *] at k1_0 q1_0 k1_1 q1_1 k1_2 q1_2 k1_3 q1_3 k1_4 q1_4 k1_5 q1_5
 have HB1 := Zh hb1
 clear hb1
 revert l1_2 l1_3 l1_4 l1_5 k1_0 q1_0 k1_1 q1_1 k1_2 q1_2 k1_3 q1_3 k1_4 q1_4 k1_5 q1_5 HB1
 exact z_.1) : p := h ⟨k⟩
theorem z40 (k : q) (h : W_ q → p := by
 intro z_
 refine (Xc0 _ _ _ ls _ (Xah HL.out y29)).mono ?_
 exact z_.1) : p := h ⟨k⟩
theorem z100 (k : q) (h : W_ q → p := by
 intro z_
 refine (Xpa _ _ _ ls _ _ _ (Xah HL.out y33)).mono ?_
 rintro e w3 ⟨rfl, hb3⟩
 revert w3 hb3
 exact z_.1) : p := h ⟨k⟩
theorem z15 (k : q) (h : W_ q → p := by
 intro z_
 go_enter Tryz.func87, Tryz.ntmps87
 go_wp2_with fail
 refine z40 ?_
 refine z2 ?_; intro _ hb1 _ k1_0 _ q1_0
 revert hb1 k1_0 q1_0; refine_lift z93 ?_; intro k1_0 q1_0 HB1
 go_wp2_with fail
 refine (Xc0 _ _ _ [x] _ ((Xgt _ x).more (by simp))).mono ?_
 rw [Xki]
 refine z32 ?_; intro w2 hz2 l2_0 k2_0 q2_0 HB2
 go_wp2_with fail
 refine z100 ?_; intro w3 hb3
 refine z77 ?_; intro hz3 k3_0 l3_0 q3_0
 simp (maxDischargeDepth := 6) [go_sem, *] at k3_0 q3_0
 have HB3 := Zh hb3
 clear hb3
 have HBW3 := Zh (show Below w.heap.size w w3 by (repeat (first | (with_reducible exact Below.refl _ _) | (with_reducible refine Below.drew ?_) | (with_reducible refine Xai ?_ _) | ((with_reducible refine Below.setCell ?_ ?_ _); rotate_left; exact y0) | ((with_reducible refine Below.alloc ?_ ?_ _); rotate_left; exact y0) | ((with_reducible refine Below.trans ?_ (HB3.out.mono ?_)); rotate_left; exact y0) | ((with_reducible refine Below.trans ?_ (HB2.out.mono ?_)); rotate_left; exact y0) | ((with_reducible refine Below.trans ?_ (HB1.out.mono ?_)); rotate_left; exact y0))))
 refine z123 ?_; intro HC
 rename_i i_1 i_2 i_3 i_4 i_5 i_6 i_7 i_8 i_9
 revert i_1 i_2 i_3 k1_0 q1_0 HB1 w2 hz2 l2_0 k2_0 q2_0 HB2 i_4 i_5 i_6 i_7 i_8 i_9 w3 hz3 l3_0 k3_0 q3_0 HB3 HBW3 HC
 exact z_.1) : p := h ⟨k⟩
theorem z17 (k : q) (h : W_ q → p := by
 intro z_ HQ HO H0 H1 H2 H3 H4 H5 HB H6 H7
 go_step
 go_cut [18] (fun s18 wd => s18 = .int .i64 (Xdj ki) ∧ Whl wd w6.heap.size 31 (B_.b (Xhr b ki (rd rs ka)) L n c) ∧ Chg (fun q => q = w6.heap.size) w7 wd)
 case first =>
   by_cases z0 : ki = 0
   · as_aux_lemma =>
     have n63 : w7.cell? ⟨w1.heap.size, 3, none⟩ = some (.int .i64 0) := (Xaj H6.out 3).trans (by show some (Value.int .i64 (ki : Int)) = _; rw [z0]; rfl)
     go_wp2_with ((refine Xay rfl 3 (.tmp 219) (.tmp 218) rfl w6.heap.size 0 _ _ #[.int .i64 (rd rs ka), .int .i64 b.base, .slice L n c, .int .i64 b.orders.page, .int .i64 b.orders.head, .int .i64 b.orders.tail, .bool b.stopped, .int .i64 b.fences, .int .i64 b.faults.page, .int .i64 b.faults.head, .int .i64 b.faults.tail, .bool b.lost] (.int .i64 (rd rs ka)) rfl rfl HQ.out Tryz.sizeInt (of_decide_eq_true rfl) rfl rfl ?_; intro w8 h8 t8))
     go_meet
     exact ⟨by rw [z0]; rfl, Xhe h8 (by rw [z0]; rfl), t8.1⟩
   by_cases z1 : ki = 1
   · as_aux_lemma =>
     have n63 : w7.cell? ⟨w1.heap.size, 3, none⟩ = some (.int .i64 1) := (Xaj H6.out 3).trans (by show some (Value.int .i64 (ki : Int)) = _; rw [z1]; rfl)
     go_wp2_with ((refine Xay rfl 3 (.tmp 223) (.tmp 222) rfl w6.heap.size 1 _ _ #[.int .i64 b.mode, .int .i64 (rd rs ka), .slice L n c, .int .i64 b.orders.page, .int .i64 b.orders.head, .int .i64 b.orders.tail, .bool b.stopped, .int .i64 b.fences, .int .i64 b.faults.page, .int .i64 b.faults.head, .int .i64 b.faults.tail, .bool b.lost] (.int .i64 (rd rs ka)) rfl rfl HQ.out Tryz.sizeInt (of_decide_eq_true rfl) rfl rfl ?_; intro w8 h8 t8))
     go_meet
     exact ⟨by rw [z1]; rfl, Xhe h8 (by rw [z1]; rfl), t8.1⟩
   by_cases z2 : ki = 2
   · as_aux_lemma =>
     have n63 : w7.cell? ⟨w1.heap.size, 3, none⟩ = some (.int .i64 2) := (Xaj H6.out 3).trans (by show some (Value.int .i64 (ki : Int)) = _; rw [z2]; rfl)
     go_wp2_with ((refine Xay rfl 3 (.tmp 228) (.tmp 226) rfl w6.heap.size 3 _ _ #[.int .i64 b.mode, .int .i64 b.base, .slice L n c, .int .i64 (rd rs ka), .int .i64 b.orders.head, .int .i64 b.orders.tail, .bool b.stopped, .int .i64 b.fences, .int .i64 b.faults.page, .int .i64 b.faults.head, .int .i64 b.faults.tail, .bool b.lost] (.int .i64 (rd rs ka)) rfl rfl HQ.out Tryz.sizeInt (of_decide_eq_true rfl) rfl rfl ?_; intro w8 h8 t8))
     go_meet
     exact ⟨by rw [z2]; rfl, Xhe h8 (by rw [z2]; rfl), t8.1⟩
   by_cases z3 : ki = 3
   · as_aux_lemma =>
     have n63 : w7.cell? ⟨w1.heap.size, 3, none⟩ = some (.int .i64 3) := (Xaj H6.out 3).trans (by show some (Value.int .i64 (ki : Int)) = _; rw [z3]; rfl)
     go_wp2_with ((refine Xay rfl 3 (.tmp 233) (.tmp 231) rfl w6.heap.size 5 _ _ #[.int .i64 b.mode, .int .i64 b.base, .slice L n c, .int .i64 b.orders.page, .int .i64 b.orders.head, .int .i64 (rd rs ka), .bool b.stopped, .int .i64 b.fences, .int .i64 b.faults.page, .int .i64 b.faults.head, .int .i64 b.faults.tail, .bool b.lost] (.int .i64 (rd rs ka)) rfl rfl HQ.out Tryz.sizeInt (of_decide_eq_true rfl) rfl rfl ?_; intro w8 h8 t8))
     go_meet
     exact ⟨by rw [z3]; rfl, Xhe h8 (by rw [z3]; rfl), t8.1⟩
   by_cases z5 : ki = 5
   · as_aux_lemma =>
     have n63 : w7.cell? ⟨w1.heap.size, 3, none⟩ = some (.int .i64 5) := (Xaj H6.out 3).trans (by show some (Value.int .i64 (ki : Int)) = _; rw [z5]; rfl)
     go_wp2_with ((refine Xay rfl 3 (.tmp 238) (.tmp 236) rfl w6.heap.size 8 _ _ #[.int .i64 b.mode, .int .i64 b.base, .slice L n c, .int .i64 b.orders.page, .int .i64 b.orders.head, .int .i64 b.orders.tail, .bool b.stopped, .int .i64 b.fences, .int .i64 (rd rs ka), .int .i64 b.faults.head, .int .i64 b.faults.tail, .bool b.lost] (.int .i64 (rd rs ka)) rfl rfl HQ.out Tryz.sizeInt (of_decide_eq_true rfl) rfl rfl ?_; intro w8 h8 t8))
     go_meet
     exact ⟨by rw [z5]; rfl, Xhe h8 (by rw [z5]; rfl), t8.1⟩
   by_cases z6 : ki = 6
   · as_aux_lemma =>
     have n63 : w7.cell? ⟨w1.heap.size, 3, none⟩ = some (.int .i64 6) := (Xaj H6.out 3).trans (by show some (Value.int .i64 (ki : Int)) = _; rw [z6]; rfl)
     go_wp2_with ((refine Xay rfl 3 (.tmp 243) (.tmp 241) rfl w6.heap.size 9 _ _ #[.int .i64 b.mode, .int .i64 b.base, .slice L n c, .int .i64 b.orders.page, .int .i64 b.orders.head, .int .i64 b.orders.tail, .bool b.stopped, .int .i64 b.fences, .int .i64 b.faults.page, .int .i64 (rd rs ka), .int .i64 b.faults.tail, .bool b.lost] (.int .i64 (rd rs ka)) rfl rfl HQ.out Tryz.sizeInt (of_decide_eq_true rfl) rfl rfl ?_; intro w8 h8 t8))
     go_meet
     exact ⟨by rw [z6]; rfl, Xhe h8 (by rw [z6]; rfl), t8.1⟩
   by_cases z9 : ki = 9
   · as_aux_lemma =>
     have n63 : w7.cell? ⟨w1.heap.size, 3, none⟩ = some (.int .i64 9) := (Xaj H6.out 3).trans (by show some (Value.int .i64 (ki : Int)) = _; rw [z9]; rfl)
     go_wp2_with (first | (refine Xay rfl 4 (.tmp 246) (.const (.bool false)) rfl w6.heap.size 6 _ _ #[.int .i64 b.mode, .int .i64 b.base, .slice L n c, .int .i64 b.orders.page, .int .i64 b.orders.head, .int .i64 b.orders.tail, .bool false, .int .i64 b.fences, .int .i64 b.faults.page, .int .i64 b.faults.head, .int .i64 b.faults.tail, .bool b.lost] (.bool false) rfl rfl HQ.out Tryz.sizeBool (of_decide_eq_true rfl) rfl rfl ?_; intro w8 h8 t8) | (refine Xay rfl 4 (.tmp 247) (.const (.bool false)) rfl w6.heap.size 11 _ _ #[.int .i64 b.mode, .int .i64 b.base, .slice L n c, .int .i64 b.orders.page, .int .i64 b.orders.head, .int .i64 b.orders.tail, .bool false, .int .i64 b.fences, .int .i64 b.faults.page, .int .i64 b.faults.head, .int .i64 b.faults.tail, .bool false] (.bool false) rfl rfl h8 Tryz.sizeBool (of_decide_eq_true rfl) rfl rfl ?_; intro w9 h9 t9))
     go_meet
     exact ⟨by rw [z9]; rfl, Xhe h9 (by rw [z9]; rfl), Xas t8.1 t9.1⟩
   have n63 : w7.cell? ⟨w1.heap.size, 3, none⟩ = some (.int .i64 (ki : Int)) := Xaj H6.out 3
   have y0 : ((ki : Int) == 0) = false := by rw [beq_eq_false_iff_ne]; omega
   have y1 : ((ki : Int) == 1) = false := by rw [beq_eq_false_iff_ne]; omega
   have y2 : ((ki : Int) == 2) = false := by rw [beq_eq_false_iff_ne]; omega
   have y3 : ((ki : Int) == 3) = false := by rw [beq_eq_false_iff_ne]; omega
   have y5 : ((ki : Int) == 5) = false := by rw [beq_eq_false_iff_ne]; omega
   have y6 : ((ki : Int) == 6) = false := by rw [beq_eq_false_iff_ne]; omega
   have y9 : ((ki : Int) == 9) = false := by rw [beq_eq_false_iff_ne]; omega
   obtain ⟨e1, e2⟩ := Xrm (b := b) (i := (ki : Int)) (v := rd rs ka) (by omega) (by omega) (by omega) (by omega) (by omega) (by omega) (by omega)
   have HE1 := Zh e1
   have HE2 := Zh e2
   clear e1 e2 z0 z1 z2 z3 z5 z6 z9
   go_wp2
   go_meet
   exact ⟨by rw [HE1.out], Xhe HQ.out (by rw [HE2.out]), Xar _⟩
 case rest =>
 obtain ⟨rfl, hQ, hc⟩ := hcut
 replace HQ := Zh hQ
 have hzd := hc.size
 replace H0 := Zh (Xa7 H0.out hc (by omega))
 replace H1 := Zh (Xa7 H1.out hc (by omega))
 replace H2 := Zh (Xa7 H2.out hc (by omega))
 replace H3 := Zh (Xa7 H3.out hc (by omega))
 replace H4 := Zh (Xa7 H4.out hc (by omega))
 replace H5 := Zh (Xa7 H5.out hc (by omega))
 replace H6 := Zh (Xa7 H6.out hc (by omega))
 replace H7 := Zh (Xa7 H7.out hc (by omega))
 replace HB := Zh (Xa2 HB.out HB.out.size hc (fun q hq e => by omega))
 replace HO := Zh (Xbn HO.out hc (fun ad e hp => by injection e with e; subst e; simp only [] at hp; omega))
 clear hQ hc
 rename_i i_1 i_2
 revert i_1 i_2 wc u19 u20 u21 u22 u23 u24 u25 u26 u27 u28 u29 u30 u31 u32 u33 u34 u35 u36 u37 u38 u39 u40 u41 u42 u43 u44 u45 u46 u47 u48 u49 u50 u51 u52 u53 u54 u55 u56 u57 u58 u61 u62 u63 u64 u65 u66 u68 u69 u70 u71 u72 u73 u74 u75 u77 u78 u79 u80 u81 u82 u83 u84 u85 u86 u88 u89 u92 u93 u94 u95 u96 u97 u98 u99 u100 u101 u102 u104 u105 u106 u107 u108 u109 u110 u111 u112 u113 u114 u115 u116 u117 u118 u119 u120 u121 u122 u123 u124 u125 u126 u127 u129 u130 u131 u132 u133 u134 u135 u136 u137 u138 u139 u140 u141 u142 u143 u144 u145 u146 u147 u148 u150 u151 u152 u153 u154 u155 u156 u158 u159 u160 u161 u162 u163 u164 u165 u166 u167 u168 u169 u170 u171 u172 u173 u174 u175 u176 u177 u178 u179 u180 u181 u182 u183 u184 u185 u186 u187 u188 u189 u190 u191 u192 u193 u194 u195 u196 u197 u198 u199 u200 u201 u202 u203 u204 u205 u206 u207 u208 u209 u210 u212 u213 u214 u215 u216 u217 u218 u219 u220 u221 u222 u223 u224 u225 u226 u227 u228 u229 u230 u231 u232 u233 u234 u235 u236 u237 u238 u239 u240 u241 u242 u243 u244 u245 u246 u247 u248 u249 u250 u251 u252 u253 u254 u255 u256 u257 u258 u259 u260 u261 HQ hzd H0 H1 H2 H3 H4 H5 H6 H7 HB HO
 exact z_.1) : p := h ⟨k⟩
theorem z18 (k : q) (h : W_ q → p := by
 intro z_ M R hP
 obtain ⟨crd, sep, ⟨B1, om⟩, ⟨B2, or⟩, rfl, rfl, cM, cR, fM, fR, fh, fb, lM, lR, ck, hcm⟩ := hP
 have HC := Zh crd
 have HS := Zh (Xan w)
 have h1 := crd.h1
 have lh : gh < w.heap.size := Xb9 h1
 have lb := Xcw crd.b0
 have lm : gm < w.heap.size := Xb9 crd.m0
 have hx := cR _ _ (Xii (Xck ck).1 ha.1 ha.2)
 have hy := cR _ _ (Xii (Xck ck).1 hd.1 hd.2)
 have b1 := Xvo (k := a) (Xck ck).2.2
 have b2 := Xvo (k := d) (Xck ck).2.2
 have HT := Zh (fun (r : List Int × Hrt × Brg × Bool) (e : Ending) (w' w1 : World) (hd : Xfa w gm gh gb (some ⟨gM, 0, none⟩) mc (some ⟨gR, 0, none⟩) rc L n c r e w') (hs : Xam w' w1) => Xpy (w := w) (w' := w') (w1 := w1) (r := r) (e := e) hd (fun ad (e : some ⟨gM, 0, none⟩ = some ad) => by injection e with e; subst e; exact lM) (fun ad (e : some ⟨gR, 0, none⟩ = some ad) => by injection e with e; subst e; exact lR) lh lb hs)
 revert cM cR fM fR fh fb lM lR ck hcm B1 B2 om or crd sep HC HS h1 lh lb lm hx hy b1 b2 HT
 exact z_.1) : p := h ⟨k⟩
theorem z108 (k : q) (h : W_ q → p := by
 intro z_ HO
 go_quiet (fail)
 generalize hwq : wc.drewN nq = w6
 have hb : Below wc.heap.size wc w6 := by rw [← hwq]; exact Xai (Below.refl _ _) nq
 have hz6a : w6.heap.size ≤ wc.heap.size := by rw [← hwq]; exact Nat.le_refl _
 have hz6b : wc.heap.size ≤ w6.heap.size := hb.size
 replace HO := Zh (show OwnI w2.heap.size w6 (some ⟨g2, 0, none⟩) 8 d2 rs by rw [← hwq]; exact HO.out.drewN nq)
 revert nq w6 hwq hb hz6a hz6b HO
 exact z_.1) : p := h ⟨k⟩
theorem z181 (k : q) (h : W_ q → p := by
 intro z_ H7 H6
 replace H6 := Zh (Xaa H6.out hb)
 replace H7 := Zh (Xaa H7.out hb)
 have hg4 : w2.heap.size ≤ g2 := (HG2.out _ rfl).1
 have hg5 : g2 < wc.heap.size := (HG2.out _ rfl).2
 revert H6 H7 hg4 hg5
 exact z_.1) : p := h ⟨k⟩
theorem z19 (k : q) (h : W_ q → p := by
 intro z_ H7 HO HG2 H0 H1 H2 H3 H4 H5 HB H6 u0 v0 k1 k6
 revert HO; refine_lift z108 ?_; intro nq w6 hwq hb hz6a hz6b HO
 revert H0 H1 H2 H3 H4 H5 HB; refine_lift z6 ?_; intro H0 H1 H2 H3 H4 H5 HB
 revert H7 H6; refine_lift z181 ?_; intro H6 H7 hg4 hg5
 clear hb hwq u0 v0 k1 k6 HG2
 revert nq w6 hz6a hz6b HO H0 H1 H2 H3 H4 H5 HB H6 H7 hg4 hg5
 exact z_.1) : p := h ⟨k⟩
theorem z20 (k : q) (h : W_ q → p := by
 intro z_
 refine (Xp2 xs _ _ _ b _ _ _ _ (Xaf HX.out y29) (Xah HL.out y29)).mono ?_
 exact z_.1) : p := h ⟨k⟩
theorem z21 (h : p := by
 exact ⟨rfl, by (repeat (first | (with_reducible exact Below.refl _ _) | (with_reducible refine Below.drew ?_) | (with_reducible refine Xai ?_ _) | ((with_reducible refine Below.setCell ?_ ?_ _); rotate_left; exact y0) | ((with_reducible refine Below.alloc ?_ ?_ _); rotate_left; exact y0) | ((with_reducible refine Below.trans ?_ (HB1.out.mono ?_)); rotate_left; exact y0)))⟩) : p := h
theorem z189 (k : q) (h : W_ q → p := by
 intro z_
 have HX := Zh hx
 have HL := Zh hl
 revert HX HL
 exact z_.1) : p := h ⟨k⟩
theorem z162 (k : q) (h : W_ q → p := by
 intro z_ hi hz0 hz1 hz2
 have HI := Zh hi; clear hi
 have HZ0 := Zh hz0; clear hz0
 have HZ1 := Zh hz1; clear hz1
 have HZ2 := Zh hz2; clear hz2
 revert HI HZ0 HZ1 HZ2
 exact z_.1) : p := h ⟨k⟩
theorem z58 (k : q) (h : W_ q → p := by
 intro z_
 go_enter Tryz.func15, Tryz.ntmps15
 go_wp2_with fail
 refine (Xeb _ _ _ xs _ (Xaf HX.out y29)).mono ?_
 rename_i i_1 i_2 i_3 i_4
 revert i_1 i_2 i_3 i_4
 exact z_.1) : p := h ⟨k⟩
theorem z23 (k : q) (h : W_ q → p := by
 intro z_ hx hl hd h0 hb hq hR
 obtain ⟨i0, hi, hz0, hz1, hz2⟩ := info_parts Tryz.infoInt
 obtain ⟨j0, hj, hj0, hj1, hj2⟩ := info_parts Tryz.infoTch
 refine z189 ?_; intro HX HL
 have HD := Zh hd
 have HQ := Zh hq
 have HR := Zh hR
 have HC0 := Zh h0
 have HCB := Zh hb
 have HN := Zh (show n0 ≤ 1000 by have := ((Xcx _).1 ((Xbo b).1 hb).2.1).1; have := hl.1; omega)
 revert hi hz0 hz1 hz2; refine_lift z162 ?_; intro HI HZ0 HZ1 HZ2
 have HJ := Zh hj; clear hj
 have HJ0 := Zh hj0; clear hj0
 have HJ1 := Zh hj1; clear hj1
 have HJ2 := Zh hj2; clear hj2
 clear hx hl hd hq hR h0 hb
 refine z58 ?_; iterate 4 intro
 rw [HC0.out]
 rintro e w11 ⟨rfl, hb11⟩
 have hz11 := hb11.size
 (try simp only [World.size_alloc, World.size_setCell, World.size_drew] at hz11)
 have k11_0 := fun o => (Xab hb11).1 (w.heap.size) o y0
 have l11_0 : (w.heap.size) < w11.heap.size := (by omega)
 have q11_0 := fun o => (Xab hb11).2 (w.heap.size) o y0
 have k11_1 := fun o => (Xab hb11).1 (w.heap.size + 1) o y0
 have l11_1 : (w.heap.size + 1) < w11.heap.size := (by omega)
 have q11_1 := fun o => (Xab hb11).2 (w.heap.size + 1) o y0
 have k11_2 := fun o => (Xab hb11).1 (w.heap.size + 1 + 1) o y0
 have l11_2 : (w.heap.size + 1 + 1) < w11.heap.size := (by omega)
 have q11_2 := fun o => (Xab hb11).2 (w.heap.size + 1 + 1) o y0
 have k11_3 := fun o => (Xab hb11).1 (w.heap.size + 1 + 1 + 1) o y0
 have l11_3 : (w.heap.size + 1 + 1 + 1) < w11.heap.size := (by omega)
 have q11_3 := fun o => (Xab hb11).2 (w.heap.size + 1 + 1 + 1) o y0
 have k11_4 := fun o => (Xab hb11).1 (w.heap.size + 1 + 1 + 1 + 1) o y0
 have l11_4 : (w.heap.size + 1 + 1 + 1 + 1) < w11.heap.size := (by omega)
 have q11_4 := fun o => (Xab hb11).2 (w.heap.size + 1 + 1 + 1 + 1) o y0
 have k11_5 := fun o => (Xab hb11).1 (w.heap.size + 1 + 1 + 1 + 1 + 1) o y0
 have l11_5 : (w.heap.size + 1 + 1 + 1 + 1 + 1) < w11.heap.size := (by omega)
 have q11_5 := fun o => (Xab hb11).2 (w.heap.size + 1 + 1 + 1 + 1 + 1) o y0
 simp (maxDischargeDepth := 6) [go_sem, *] at k11_0 q11_0 k11_1 q11_1 k11_2 q11_2 k11_3 q11_3 k11_4 q11_4 k11_5 q11_5
 have HB11 := Zh hb11
 clear hb11
 go_wp2_with fail
 refine (Xbb b A0 n0 c0 _ (Xah HL.out (by (repeat (first | (with_reducible exact Below.refl _ _) | (with_reducible refine Below.drew ?_) | (with_reducible refine Xai ?_ _) | ((with_reducible refine Below.setCell ?_ ?_ _); rotate_left; exact y0) | ((with_reducible refine Below.alloc ?_ ?_ _); rotate_left; exact y0) | ((with_reducible refine Below.trans ?_ (HB11.out.mono ?_)); rotate_left; exact y0)))))).mono ?_
 rw [HCB.out]
 rintro e w12 ⟨rfl, hb12⟩
 have hz12 := hb12.size
 (try simp only [World.size_alloc, World.size_setCell, World.size_drew] at hz12)
 have k12_0 := fun o => (Xab hb12).1 (w.heap.size) o y0
 have l12_0 : (w.heap.size) < w12.heap.size := (by omega)
 have q12_0 := fun o => (Xab hb12).2 (w.heap.size) o y0
 have k12_1 := fun o => (Xab hb12).1 (w.heap.size + 1) o y0
 have l12_1 : (w.heap.size + 1) < w12.heap.size := (by omega)
 have q12_1 := fun o => (Xab hb12).2 (w.heap.size + 1) o y0
 have k12_2 := fun o => (Xab hb12).1 (w.heap.size + 1 + 1) o y0
 have l12_2 : (w.heap.size + 1 + 1) < w12.heap.size := (by omega)
 have q12_2 := fun o => (Xab hb12).2 (w.heap.size + 1 + 1) o y0
 have k12_3 := fun o => (Xab hb12).1 (w.heap.size + 1 + 1 + 1) o y0
 have l12_3 : (w.heap.size + 1 + 1 + 1) < w12.heap.size := (by omega)
 have q12_3 := fun o => (Xab hb12).2 (w.heap.size + 1 + 1 + 1) o y0
 have k12_4 := fun o => (Xab hb12).1 (w.heap.size + 1 + 1 + 1 + 1) o y0
 have l12_4 : (w.heap.size + 1 + 1 + 1 + 1) < w12.heap.size := (by omega)
 have q12_4 := fun o => (Xab hb12).2 (w.heap.size + 1 + 1 + 1 + 1) o y0
 have k12_5 := fun o => (Xab hb12).1 (w.heap.size + 1 + 1 + 1 + 1 + 1) o y0
 have l12_5 : (w.heap.size + 1 + 1 + 1 + 1 + 1) < w12.heap.size := (by omega)
 have q12_5 := fun o => (Xab hb12).2 (w.heap.size + 1 + 1 + 1 + 1 + 1) o y0
 simp (maxDischargeDepth := 6) [go_sem, *] at k12_0 q12_0 k12_1 q12_1 k12_2 q12_2 k12_3 q12_3 k12_4 q12_4 k12_5 q12_5
 have HB12 := Zh hb12
 clear hb12
 go_wp2_with fail
 rename_i i_1 i_2 i_3 i_4
 revert i0 j0 HX HL HD HQ HR HC0 HCB HN HI HZ0 HZ1 HZ2 HJ HJ0 HJ1 HJ2 w11 hz11 l11_0 l11_1 l11_2 l11_3 l11_4 l11_5 k11_0 q11_0 k11_1 q11_1 k11_2 q11_2 k11_3 q11_3 k11_4 q11_4 k11_5 q11_5 HB11 w12 hz12 l12_0 l12_1 l12_2 l12_3 l12_4 l12_5 k12_0 q12_0 k12_1 q12_1 k12_2 q12_2 k12_3 q12_3 k12_4 q12_4 k12_5 q12_5 HB12 i_1 i_2 i_3 i_4
 exact z_.1) : p := h ⟨k⟩
theorem z43 (k : q) (h : W_ q → p := by
 intro z_
 have k2_2 := fun o => (Xab hb2).1 (w.heap.size + 1 + 1) o y0
 have l2_2 : (w.heap.size + 1 + 1) < w2.heap.size := (by omega)
 have q2_2 := fun o => (Xab hb2).2 (w.heap.size + 1 + 1) o y0
 revert k2_2 l2_2 q2_2
 exact z_.1) : p := h ⟨k⟩
theorem z92 (k : q) (h : W_ q → p := by
 intro z_
 have k2_3 := fun o => (Xab hb2).1 (w.heap.size + 1 + 1 + 1) o y0
 have l2_3 : (w.heap.size + 1 + 1 + 1) < w2.heap.size := (by omega)
 have q2_3 := fun o => (Xab hb2).2 (w.heap.size + 1 + 1 + 1) o y0
 revert k2_3 l2_3 q2_3
 exact z_.1) : p := h ⟨k⟩
theorem z180 (k : q) (h : W_ q → p := by
 intro z_
 have k2_4 := fun o => (Xab hb2).1 (w.heap.size + 1 + 1 + 1 + 1) o y0
 have l2_4 : (w.heap.size + 1 + 1 + 1 + 1) < w2.heap.size := (by omega)
 have q2_4 := fun o => (Xab hb2).2 (w.heap.size + 1 + 1 + 1 + 1) o y0
 revert k2_4 l2_4 q2_4
 exact z_.1) : p := h ⟨k⟩
theorem z24 (k : q) (h : W_ q → p := by
 intro z_ hb2 k2_0 q2_0 k2_1 q2_1
 refine z43 ?_; intro k2_2 l2_2 q2_2
 refine z92 ?_; intro k2_3 l2_3 q2_3
 refine z180 ?_; intro k2_4 l2_4 q2_4
 have k2_5 := fun o => (Xab hb2).1 (w.heap.size + 1 + 1 + 1 + 1 + 1) o y0
 have l2_5 : (w.heap.size + 1 + 1 + 1 + 1 + 1) < w2.heap.size := (by omega)
 have q2_5 := fun o => (Xab hb2).2 (w.heap.size + 1 + 1 + 1 + 1 + 1) o y0
 simp (maxDischargeDepth := 6) [go_sem, *] at k2_0 q2_0 k2_1 q2_1 k2_2 q2_2 k2_3 q2_3 k2_4 q2_4 k2_5 q2_5
 have HB2 := Zh hb2
 clear hb2
 revert l2_2 l2_3 l2_4 l2_5 k2_0 q2_0 k2_1 q2_1 k2_2 q2_2 k2_3 q2_3 k2_4 q2_4 k2_5 q2_5 HB2
 exact z_.1) : p := h ⟨k⟩
theorem z195 (k : q) (h : W_ q → p := by
 intro z_
 have k3_1 := fun o => (Xab hb3).1 (w.heap.size + 1) o y0
 have l3_1 : (w.heap.size + 1) < w3.heap.size := (by omega)
 have q3_1 := fun o => (Xab hb3).2 (w.heap.size + 1) o y0
 revert k3_1 l3_1 q3_1
 exact z_.1) : p := h ⟨k⟩
theorem z25 (k : q) (h : W_ q → p := by
 intro z_
 refine z77 ?_; intro hz3 k3_0 l3_0 q3_0
 refine z195 ?_; intro k3_1 l3_1 q3_1
 have k3_2 := fun o => (Xab hb3).1 (w.heap.size + 1 + 1) o y0
 have l3_2 : (w.heap.size + 1 + 1) < w3.heap.size := (by omega)
 have q3_2 := fun o => (Xab hb3).2 (w.heap.size + 1 + 1) o y0
 have k3_3 := fun o => (Xab hb3).1 (w.heap.size + 1 + 1 + 1) o y0
 have l3_3 : (w.heap.size + 1 + 1 + 1) < w3.heap.size := (by omega)
 have q3_3 := fun o => (Xab hb3).2 (w.heap.size + 1 + 1 + 1) o y0
 revert hz3 k3_0 l3_0 q3_0 k3_1 l3_1 q3_1 k3_2 l3_2 q3_2 k3_3 l3_3 q3_3
 exact z_.1) : p := h ⟨k⟩
theorem z26 (h : p := by
 have HBE := Zh (Xbj (Xbj (Xbj HB8.out HB8.out.size t9 (by omega)) (by rw [t9.2]; exact HB8.out.size) t10 (by omega)) (by rw [t10.2, t9.2]; exact HB8.out.size) t11 (by omega))
 have P9 := Zh h9
 have P10 := Zh h10
 have P11 := Zh h11
 clear t9 t10 t11 h9 h10 h11 y3 y4 y5
 go_wp2
 refine bodyPost_ret (v := .tuple #[.agg #[.slice (some ⟨gM, oM, none⟩) 512 mc], .agg #[.int .i64 at_, .slice (some ⟨gR, oR, none⟩) 8 rc, .bool true], .agg (B_.b b L n c)]) ?_ rfl ⟨_, _, _, _, rfl, Xaf HM.out HBE.out, Xaf HR.out HBE.out, Xah HL.out HBE.out, HBE.out, Xby _ _, Xby _ _⟩
 exact Xd3 Tryz.results34 rfl rfl rfl (Xc4 P9.out _ Tryz.underlying24 rfl Tryz.sizeMem) (Xc4 P10.out _ Tryz.underlying26 rfl Tryz.sizeHart) (Xc4 P11.out _ Tryz.underlying31 rfl Tryz.sizeBrg)) : p := h
theorem z27 (h : p := by
 exact ⟨rfl, by (repeat (first | (with_reducible exact Below.refl _ _) | (with_reducible refine Below.drew ?_) | (with_reducible refine Xai ?_ _) | ((with_reducible refine Below.setCell ?_ ?_ _); rotate_left; exact y0) | ((with_reducible refine Below.alloc ?_ ?_ _); rotate_left; exact y0) | ((with_reducible refine Below.trans ?_ (HB2.out.mono ?_)); rotate_left; exact y0) | ((with_reducible refine Below.trans ?_ (HB1.out.mono ?_)); rotate_left; exact y0)))⟩) : p := h
theorem z28 (k : q) (h : W_ q → p := by
 intro z_ m hx hl hd h0 hb hq hR
 obtain ⟨i0, hi, hz0, hz1, hz2⟩ := info_parts Tryz.infoInt
 obtain ⟨j0, hj, hj0, hj1, hj2⟩ := info_parts Tryz.infoTch
 refine z189 ?_; intro HX HL
 have HD := Zh hd
 have HQ := Zh hq
 have HR := Zh hR
 have HC0 := Zh h0
 have HCB := Zh hb
 have HLN := Zh hx.len
 obtain ⟨mb, moff, rfl, hmb, hmc⟩ := hx.at_ (by decide)
 have HMC := Zh hmc
 revert hi hz0 hz1 hz2; refine_lift z162 ?_; intro HI HZ0 HZ1 HZ2
 have HJ := Zh hj; clear hj
 have HJ0 := Zh hj0; clear hj0
 have HJ1 := Zh hj1; clear hj1
 have HJ2 := Zh hj2; clear hj2
 have HONE := Zh (Xhw xs)
 have HNW : Hid (∀ W : World, Below w.heap.size w W → ∀ j u, (xs.map (Value.int .i64))[j]? = some u → W.cell? ((⟨mb, moff, none⟩ : Addr).add j) = some u) := Zh (fun W hW j u hu => by
   rw [List.getElem?_map, Option.map_eq_some_iff] at hu
   obtain ⟨x, hx, rfl⟩ := hu
   rw [Xi5]
   exact (hW.cell (p := ⟨mb, moff + j, none⟩) hmb).trans (HMC.out j x hx))
 clear hx hl hd hq hR h0 hb hmc
 go_enter Tryz.func37, Tryz.ntmps37
 go_upto_region 2 with (at_builtin; refine wpList_append_lies _ rfl (.tmp 16) (.tmp 18) 22 rfl (w.heap.size + 6) 3 i0 (.int .i64 0) 1 8 Tryz.underlying22 HI.out HZ0.out HZ1.out HZ2.out rfl (by decide) (.slice (some ⟨w.heap.size + 1 + 1 + 1 + 1 + 1 + 1, 0, none⟩) 0 0) 0 [] rfl (Xpd _ 3 1 _ _ (by simp) (by omega)) ⟨mb, moff, none⟩ 512 mc (xs.map (Value.int .i64)) rfl (by rw [List.length_map, HLN.out]) (HNW.out _ y29) HONE.out (by decide) (by unfold maxLen; decide) (by decide) (by simp) _ rfl ?_; intro gM cap w1 hown hgrow hat hlt; have hb1 := Xs9 (Below.grown (B := w.heap.size + 6) (Below.refl _ _) (World.grownBy.trans (World.grownBy_alloc _ _ _) hgrow) (by simp) y7) (by simp); have HO1 : Hid (OwnI (w.heap.size + 6) w1 (some ⟨gM, 0, none⟩) 512 cap xs) := Zh ⟨HLN.out, by simpa using hown⟩; clear hown hgrow hat; have hz1 := hb1.size; (try simp only [World.size_alloc, World.size_setCell, World.size_drew] at hz1); have k1_0_0 := (Xab hb1).1 (w.heap.size) 0 y0; have l1_0 : (w.heap.size) < w1.heap.size := (by omega); have q1_0 := fun o => (Xab hb1).2 (w.heap.size) o y0; have k1_1 := fun o => (Xab hb1).1 (w.heap.size + 1) o y0; have l1_1 : (w.heap.size + 1) < w1.heap.size := (by omega); have q1_1 := fun o => (Xab hb1).2 (w.heap.size + 1) o y0; have k1_2 := fun o => (Xab hb1).1 (w.heap.size + 1 + 1) o y0; have l1_2 : (w.heap.size + 1 + 1) < w1.heap.size := (by omega); have q1_2 := fun o => (Xab hb1).2 (w.heap.size + 1 + 1) o y0; have k1_3_0 := (Xab hb1).1 (w.heap.size + 1 + 1 + 1) 0 y0; have l1_3 : (w.heap.size + 1 + 1 + 1) < w1.heap.size := (by omega); have q1_3 := fun o => (Xab hb1).2 (w.heap.size + 1 + 1 + 1) o y0; have k1_4 := fun o => (Xab hb1).1 (w.heap.size + 1 + 1 + 1 + 1) o y0; have l1_4 : (w.heap.size + 1 + 1 + 1 + 1) < w1.heap.size := (by omega); have q1_4 := fun o => (Xab hb1).2 (w.heap.size + 1 + 1 + 1 + 1) o y0; have k1_5 := fun o => (Xab hb1).1 (w.heap.size + 1 + 1 + 1 + 1 + 1) o y0; have l1_5 : (w.heap.size + 1 + 1 + 1 + 1 + 1) < w1.heap.size := (by omega); have q1_5 := fun o => (Xab hb1).2 (w.heap.size + 1 + 1 + 1 + 1 + 1) o y0; simp (maxDischargeDepth := 6) [go_sem, *] at k1_0_0 q1_0 k1_1 q1_1 k1_2 q1_2 k1_3_0 q1_3 k1_4 q1_4 k1_5 q1_5; have HB1 := Zh hb1; clear hb1)
 go_wp2
 have hG := (Xaw HO1.out.2 _ rfl)
 simp only [] at hG
 rename_i i_1 i_2
 revert i0 j0 HL HD HQ HR HC0 HCB HLN mb moff HX hmb HMC HI HZ0 HZ1 HZ2 HJ HJ0 HJ1 HJ2 HONE HNW gM cap w1 hlt HO1 hz1 l1_0 l1_1 l1_2 l1_3 l1_4 l1_5 k1_0_0 q1_0 k1_1 q1_1 k1_2 q1_2 k1_3_0 q1_3 k1_4 q1_4 k1_5 q1_5 HB1 i_1 i_2 hG
 exact z_.1) : p := h ⟨k⟩
theorem z30 (k : q) (h : W_ q → p := by
 intro z_ A h hin
 unfold inP at hin
 obtain ⟨⟨h1, h2⟩, h3, h4⟩ := hin
 have i1 := Xb8 (show 0 ≤ root ∧ root ≤ 63 by omega)
 have i2 := Xb8 (show 0 ≤ page ∧ page ≤ 63 by omega)
 obtain ⟨b, off, rfl, hb, hc⟩ := h.at_ (by omega)
 have hb2 : b < w.heap.size + 1 := by omega
 have hb3 : b < w.heap.size + 1 + 1 := by omega
 have hcx := hc _ _ (Xhq (i := root * 8 + page / 8) (Xb4 h0).1 (by omega))
 rw [hx, Int.mul_comm root 8] at hcx
 revert h1 h2 h3 h4 i1 i2 b off h hb hc hb2 hb3 hcx
 exact z_.1) : p := h ⟨k⟩
theorem z31 (k : q) (h : W_ q → p := by
 intro z_ H0 H1 H2 H3 H4 H5 HB hw2
 have hb : Below w1.heap.size w1 w2 := by rw [← hw2]; exact Xa3 _ _
 have hz2a : w2.heap.size ≤ w1.heap.size + 1 := by rw [← hw2]; simp
 have hz2b : w1.heap.size + 1 ≤ w2.heap.size := by rw [← hw2]; simp
 revert H0 H1 H2 H3 H4 H5 HB; refine_lift z6 ?_; intro H0 H1 H2 H3 H4 H5 HB
 clear hb hw2
 revert hz2a hz2b H0 H1 H2 H3 H4 H5 HB
 exact z_.1) : p := h ⟨k⟩
theorem z34 (h : p := by
 exact ⟨rfl, by (repeat (first | (with_reducible exact Below.refl _ _) | (with_reducible refine Below.drew ?_) | (with_reducible refine Xai ?_ _) | ((with_reducible refine Below.setCell ?_ ?_ _); rotate_left; exact y0) | ((with_reducible refine Below.alloc ?_ ?_ _); rotate_left; exact y0) | ((with_reducible refine Below.trans ?_ (HB3.out.mono ?_)); rotate_left; exact y0) | ((with_reducible refine Below.trans ?_ (HB2.out.mono ?_)); rotate_left; exact y0) | ((with_reducible refine Below.trans ?_ (HB1.out.mono ?_)); rotate_left; exact y0)))⟩) : p := h
theorem z35 (h : p := by
 · (repeat (first | (with_reducible exact Below.refl _ _) | (with_reducible refine Below.drew ?_) | (with_reducible refine Xai ?_ _) | ((with_reducible refine Below.setCell ?_ ?_ _); rotate_left; exact y0) | ((with_reducible refine Below.alloc ?_ ?_ _); rotate_left; exact y0) | ((with_reducible refine Below.trans ?_ (HB3.out.mono ?_)); rotate_left; exact y0) | ((with_reducible refine Below.trans ?_ (HB2.out.mono ?_)); rotate_left; exact y0) | ((with_reducible refine Below.trans ?_ (HB1.out.mono ?_)); rotate_left; exact y0)))) : p := h
theorem z141 (k : q) (h : W_ q → p := by
 intro z_
 refine (Xdn _ _ _ ls _ (Xah HL.out y29)).mono ?_
 exact z_.1) : p := h ⟨k⟩
theorem z36 (k : q) (h : W_ q → p := by
 intro z_
 refine z141 ?_
 refine z2 ?_; intro w1 hb1 _ k1_0 l1_0 q1_0
 revert hb1 k1_0 q1_0; refine_lift z93 ?_; intro k1_0 q1_0 HB1
 have hmm := @run_makeMap Tryz.prog
 have hown0 := World.ownsMap_made w1 Tryz.prog 3 Xdi
 have hb0 : Below w1.heap.size w1 (w1.alloc (.map #[] 0)) := Xa3 w1 _
 rename_i i_1
 revert w1 i_1 l1_0 k1_0 q1_0 HB1 hmm hown0 hb0
 exact z_.1) : p := h ⟨k⟩
theorem z37 (k : q) (h : W_ q → p := by
 intro z_
 rw [HQ.out]
 rintro e w13 ⟨rfl, hb13⟩
 have hz13 := hb13.size
 (try simp only [World.size_alloc, World.size_setCell, World.size_drew] at hz13)
 have k13_0 := fun o => (Xab hb13).1 (w.heap.size) o y0
 have l13_0 : (w.heap.size) < w13.heap.size := (by omega)
 have q13_0 := fun o => (Xab hb13).2 (w.heap.size) o y0
 have k13_1 := fun o => (Xab hb13).1 (w.heap.size + 1) o y0
 have l13_1 : (w.heap.size + 1) < w13.heap.size := (by omega)
 have q13_1 := fun o => (Xab hb13).2 (w.heap.size + 1) o y0
 have k13_2 := fun o => (Xab hb13).1 (w.heap.size + 1 + 1) o y0
 have l13_2 : (w.heap.size + 1 + 1) < w13.heap.size := (by omega)
 have q13_2 := fun o => (Xab hb13).2 (w.heap.size + 1 + 1) o y0
 have k13_3 := fun o => (Xab hb13).1 (w.heap.size + 1 + 1 + 1) o y0
 have l13_3 : (w.heap.size + 1 + 1 + 1) < w13.heap.size := (by omega)
 have q13_3 := fun o => (Xab hb13).2 (w.heap.size + 1 + 1 + 1) o y0
 have k13_4 := fun o => (Xab hb13).1 (w.heap.size + 1 + 1 + 1 + 1) o y0
 have l13_4 : (w.heap.size + 1 + 1 + 1 + 1) < w13.heap.size := (by omega)
 have q13_4 := fun o => (Xab hb13).2 (w.heap.size + 1 + 1 + 1 + 1) o y0
 have k13_5 := fun o => (Xab hb13).1 (w.heap.size + 1 + 1 + 1 + 1 + 1) o y0
 have l13_5 : (w.heap.size + 1 + 1 + 1 + 1 + 1) < w13.heap.size := (by omega)
 have q13_5 := fun o => (Xab hb13).2 (w.heap.size + 1 + 1 + 1 + 1 + 1) o y0
 simp (maxDischargeDepth := 6) [go_sem, *] at k13_0 q13_0 k13_1 q13_1 k13_2 q13_2 k13_3 q13_3 k13_4 q13_4 k13_5 q13_5
 have HB13 := Zh hb13
 clear hb13
 have HW3 := Zh (show Below w.heap.size w w13 by (repeat (first | (with_reducible exact Below.refl _ _) | (with_reducible refine Below.drew ?_) | (with_reducible refine Xai ?_ _) | ((with_reducible refine Below.setCell ?_ ?_ _); rotate_left; exact y0) | ((with_reducible refine Below.alloc ?_ ?_ _); rotate_left; exact y0) | ((with_reducible refine Below.trans ?_ (HB13.out.mono ?_)); rotate_left; exact y0) | ((with_reducible refine Below.trans ?_ (HB12.out.mono ?_)); rotate_left; exact y0) | ((with_reducible refine Below.trans ?_ (HB11.out.mono ?_)); rotate_left; exact y0))))
 have hz := HW3.out.size
 have hz6 : w.heap.size + 6 ≤ w13.heap.size := by omega
 revert w13 hz13 l13_0 l13_1 l13_2 l13_3 l13_4 l13_5 k13_0 q13_0 k13_1 q13_1 k13_2 q13_2 k13_3 q13_3 k13_4 q13_4 k13_5 q13_5 HB13 HW3 hz hz6
 exact z_.1) : p := h ⟨k⟩
theorem z38 (h : p := by
 (repeat (first | (with_reducible exact Below.refl _ _) | (with_reducible refine Below.drew ?_) | (with_reducible refine Xai ?_ _) | ((with_reducible refine Below.setCell ?_ ?_ _); rotate_left; exact y0) | ((with_reducible refine Below.alloc ?_ ?_ _); rotate_left; exact y0)))) : p := h
theorem z39 (k : q) (h : W_ q → p := by
 intro z_ H2 H3 H4 H5 H8 HB
 replace H2 := Zh (Xaa H2.out hb)
 replace H3 := Zh (Xaa H3.out hb)
 replace H4 := Zh (Xaa H4.out hb)
 replace H5 := Zh (Xaa H5.out hb)
 replace H8 := Zh (Xaa H8.out hb)
 replace HB := Zh (HB.out.trans (hb.mono HB.out.size))
 revert H2 H3 H4 H5 H8 HB
 exact z_.1) : p := h ⟨k⟩
theorem z42 (k : q) (h : W_ q → p := by
 intro z_
 obtain ⟨i0, hi, hz0, hz1, hz2⟩ := info_parts Tryz.infoLine
 revert hi hz0 hz1 hz2; refine_lift z162 ?_; intro HI HZ0 HZ1 HZ2
 have HL := Zh hl
 revert i0 HI HZ0 HZ1 HZ2 HL
 exact z_.1) : p := h ⟨k⟩
theorem z221 (k : q) (h : W_ q → p := by
 intro z_
 have k1_0 := fun o => (Xab hb1).1 (g) o y0
 have l1_0 : (g) < w1.heap.size := (by omega)
 have q1_0 := fun o => (Xab hb1).2 (g) o y0
 revert k1_0 l1_0 q1_0
 exact z_.1) : p := h ⟨k⟩
theorem z45 (h : p := by
 clear hb hl hm hf hc hk
 go_enter Tryz.func79, Tryz.ntmps79
 go_wp2_with fail
 refine (Xet _ _ _ b.cache d p _ ((HL.out.alloc (Nat.le_refl _) _).more (by simp))).mono ?_
 rw [HF.out]
 refine z33 ?_; intro w1 hb1 _
 refine z221 ?_; intro k1_0 _ q1_0
 have k1_1 := fun o => (Xab hb1).1 (q) o y0
 have l1_1 : (q) < w1.heap.size := (by omega)
 have q1_1 := fun o => (Xab hb1).2 (q) o y0
 revert hb1 k1_0 q1_0 k1_1 q1_1; refine_lift z175 ?_; intro _ _ _ _ HB1
 go_wp2
 go_ret2
 have S1 := Xaz HB1.out (S0.out _)
 exact ⟨_, n, c, rfl, Xau HB.out S1, (HL.out.below S1).more S1.size, Xd4 hg S1, Xby _ _⟩) : p := h
theorem z47 (k : q) (h : W_ q → p := by
 intro z_
 have HG := Zh hG
 have H1 := Zh e1
 have H2 := Zh e2
 have H3 := Zh e3
 have HP := Zh ep
 have hpb := Xst x
 rw [ep] at hpb
 obtain ⟨hp1, hp2⟩ := hpb
 revert HG H1 H2 H3 HP hp1 hp2
 exact z_.1) : p := h ⟨k⟩
theorem z48 (k : q) (h : W_ q → p := by
 intro z_ H0 H1 H2 H3 H4 H5 HB k0 k1 kx
 refine (Xrc _ _).mono ?_
 rw [hV]
 clear k0 k1 kx
 rintro e w1 ⟨rfl, hb⟩
 have hz1 : w0.heap.size ≤ w1.heap.size := hb.size
 revert H0 H1 H2 H3 H4 H5 HB; refine_lift z6 ?_; intro H0 H1 H2 H3 H4 H5 HB
 clear hb
 revert w1 hz1 H0 H1 H2 H3 H4 H5 HB
 exact z_.1) : p := h ⟨k⟩
theorem z49 (k : q) (h : W_ q → p := by
 intro z_
 refine z2 ?_; intro w1 hb1 _ k1_0 _ q1_0
 refine z10 ?_; intro k1_1 _ q1_1
 revert hb1 k1_0 q1_0 k1_1 q1_1; refine_lift z175 ?_; intro k1_0 q1_0 k1_1 q1_1 HB1
 rename_i i_1 i_2 i_3
 revert w1 i_1 i_2 i_3 k1_0 q1_0 k1_1 q1_1 HB1
 exact z_.1) : p := h ⟨k⟩
theorem z50 (k : q) (h : W_ q → p := by
 intro z_
 refine (Xew _ _ _ _ _ _ a.data b.data _ (Xaf HX.out y29) (Xaf HY.out y29)).mono ?_
 rw [HQ.out]
 exact z_.1) : p := h ⟨k⟩
theorem z51 (k : q) (h : W_ q → p := by
 intro z_
 refine (Xeb _ _ _ xs _ (Xaf HM.out y29)).mono ?_
 exact z_.1) : p := h ⟨k⟩
theorem z139 (k : q) (h : W_ q → p := by
 intro z_
 refine (Xcg _ _ _ [v / 1024 % 2, v / 2048 % 2, v / 4096 % 2, v / 8192 % 2, v / 16384 % 2, v / 32768 % 2] _ (Xhx (n := 6) rfl (by omega) (by simp) ?_) (Xjc _ _ _ _ _ _) (by omega)).mono ?_
 · intro k hk
   match k, hk with
   | 0, _ => simp [go_sem]
   | 1, _ => simp [go_sem]
   | 2, _ => simp [go_sem]
   | 3, _ => simp [go_sem]
   | 4, _ => simp [go_sem]
   | 5, _ => simp [go_sem]
 rintro e w' ⟨rfl, rfl⟩
 exact z_.1) : p := h ⟨k⟩
theorem z52 (h : p := by
 revert hb1 k1_0 q1_0; refine_lift z93 ?_; intro _ _ HB1
 go_wp2_with fail
 refine z139 ?_
 go_wp2
 refine bodyPost_ret (v := .tuple #[.agg #[.bool false, .bool false, .bool false, .bool false, .int .i64 0], .bool false]) ?_ rfl ⟨Xjq hG.out false hK.out, ?_⟩
 · simp (maxDischargeDepth := 8) [results, Tryz.results100, go_sem, *]
 exact z5) : p := h
theorem z53 (k : q) (h : W_ q → p := by
 intro z_
 rw [rounds_succ]
 go_wp2_with fail
 refine (Xih _ _ _ _ _ _ HG.out H1.out H2.out H3.out HP.out).mono ?_
 refine z2 ?_; intro w1 hb1 _ k1_0 _ q1_0
 refine z10 ?_; intro k1_1 _ q1_1
 have k1_2 := fun o => (Xab hb1).1 (b) o y0
 have l1_2 : (b) < w1.heap.size := (by omega)
 have q1_2 := fun o => (Xab hb1).2 (b) o y0
 simp (maxDischargeDepth := 6) [go_sem, *] at k1_0 q1_0 k1_1 q1_1 k1_2 q1_2
 have HB1 := Zh hb1
 clear hb1
 go_wp2_with fail
 rw [rounds_succ]
 rename_i i_1 i_2 i_3
 revert w1 i_1 i_2 i_3 l1_2 k1_0 q1_0 k1_1 q1_1 k1_2 q1_2 HB1
 exact z_.1) : p := h ⟨k⟩
theorem z55 (k : q) (h : W_ q → p := by
 intro z_
 refine (Xk3 w.heap.size (w.heap.size + 1) (w.heap.size + 1 + 1) at_ _ rc false _ mc b L n c _ H0.out H1.out H2.out (by omega) (by omega)).mono ?_
 rintro e w8 ⟨rfl, hc8⟩
 have y3 := Xa7 H3.out hc8 (by omega)
 have y4 := Xa7 H4.out hc8 (by omega)
 have y5 := Xa7 H5.out hc8 (by omega)
 have HB8 := Zh (Xa2 HB.out HB.out.size hc8 (fun q hq e => by omega))
 clear hc8
 revert w8 y3 y4 y5 HB8
 exact z_.1) : p := h ⟨k⟩
theorem z56 (k : q) (h : W_ q → p := by
 intro z_ A h hin
 unfold inP at hin
 obtain ⟨⟨h1, h2⟩, h3, h4⟩ := hin
 obtain ⟨b, off, rfl, hb, hc⟩ := h.at_ (by omega)
 have hcx := hc _ _ (Xhq (i := root * 8 + page / 8) (Xb4 h0).1 (by omega))
 rw [hx] at hcx
 have a7 := and7 page (by omega) (by omega)
 have p0 := pair0
 have p1 := pair1
 revert h1 h2 h3 h4 b off h hb hc hcx a7 p0 p1
 exact z_.1) : p := h ⟨k⟩
theorem z59 (k : q) (h : W_ q → p := by
 intro z_
 refine (Xbb b _ _ _ _ (Xah HL.out y33)).mono ?_
 exact z_.1) : p := h ⟨k⟩
theorem z60 (h : p := by
 go_wp2
 go_loopw [13, 5] (fun i _ wr => ∃ k : Nat, k ≤ n ∧ i = .int .i64 k ∧ Hid (xs.take k = ys.take k) ∧ ∃ q, wr = w.drewN q) (fun i _ _ => n - (intOf i).toNat)
 case atStart => exact ⟨0, by omega, rfl, by simp [Hid], 0, rfl⟩
 case round =>
   obtain ⟨k, hk, rfl, hall, q, rfl⟩ := hrel
   by_cases hlt : k < n
   · obtain ⟨x, hxk⟩ := Xax xs (k := k) (by rw [HX.out.len]; exact hlt)
     obtain ⟨y, hyk⟩ := Xax ys (k := k) (by rw [HY.out.len]; exact hlt)
     obtain ⟨b, off, rfl, hb, hc⟩ := HX.out.at_ (by omega)
     obtain ⟨b', off', rfl, hb', hc'⟩ := HY.out.at_ (by omega)
     have h1 := hc k x hxk
     have h2 := hc' k y hyk
     clear hc hc'
     have HXK := Zh hxk; clear hxk
     have HYK := Zh hyk; clear hyk
     go_wp2
     go_quiet (fail)
     go_wp2
     · go_ret
       exact ⟨Xbf (eqI_at HXK.out HYK.out ‹_›), Xai (Xai (Below.refl _ _) _) _⟩
     · go_roundw
       case rel => exact ⟨k + 1, by omega, by go_num, Xfb HXK.out HYK.out hall.out (by simpa using ‹(x != y) = false›), _, rfl⟩
       case measure => simp [intOf]; omega
   · go_wp2
     go_ret
     obtain rfl : k = n := by omega
     exact ⟨Xbf (Xxm HX.out.len HY.out.len hall.out), Xai (Below.refl _ _) _⟩) : p := h
theorem z61 (k : q) (h : W_ q → p := by
 intro z_
 have hw : (Lit.int .i64 k).wf = true := by rw [hk]; decide
 have HB := Zh hb
 have HL := Zh hl
 have HO := Zh hoff
 have HF := Zh hfz
 have hg := Xcw hb
 have HS := Zh (Xan w)
 have HW := Zh hw
 have hmm := @run_makeMap Tryz.prog
 have t9 : (k == 9) = false := by rw [hk]; decide
 revert hw HB HL HO HF hg HS HW hmm t9
 exact z_.1) : p := h ⟨k⟩
theorem z146 (k : q) (h : W_ q → p := by
 intro z_
 have HW0 := Zh (show Below w.heap.size w w0 by rw [← hw0]; (repeat (first | (with_reducible exact Below.refl _ _) | (with_reducible refine Below.drew ?_) | (with_reducible refine Xai ?_ _) | ((with_reducible refine Below.setCell ?_ ?_ _); rotate_left; exact y0) | ((with_reducible refine Below.alloc ?_ ?_ _); rotate_left; exact y0))))
 revert HW0
 exact z_.1) : p := h ⟨k⟩
theorem z63 (k : q) (h : W_ q → p := by
 intro z_ hw0
 have H3 := Zh (show Whl w0 (w.heap.size + 1) 37 #[.int .i64 y.kind, .int .i64 y.n, .int .i64 y.a.dev, .int .i64 y.a.at_, .int .i64 y.a.count, .bool y.a.wr, .slice AD nd cd] by rw [← hw0]; exact Xal (Xal (Xap _ _ _ (by simp)) _) _)
 have H4 := Zh (show Whl w0 (w.heap.size + 1 + 1) 33 B_.y by rw [← hw0]; exact Xal (Xap _ _ _ (by simp)) _)
 have H5 := Zh (show Whl w0 (w.heap.size + 1 + 1 + 1) 40 B_.t by rw [← hw0]; exact Xap _ _ _ (by simp))
 refine z146 ?_; intro HW0
 have hz0 : w0.heap.size = w.heap.size + 1 + 1 + 1 + 1 := by rw [← hw0]; simp
 clear hw0
 go_wp2_with (refine Xao rfl 33 (.tmp 2) rfl (w.heap.size) _ _ rfl H2.out _ Tryz.underlying33 rfl Tryz.sizeMach ?_)
 rename_i i_1 i_2
 revert H3 H4 H5 HW0 hz0 i_1 i_2
 exact z_.1) : p := h ⟨k⟩
theorem z64 (h : p := by
 rw [t7] at r2
 go_wp2
 go_ret
 exact ⟨Xbf (by simp [t4, t5, t6, t7]), by (repeat (first | (with_reducible exact Below.refl _ _) | (with_reducible refine Below.drew ?_) | (with_reducible refine Xai ?_ _) | ((with_reducible refine Below.setCell ?_ ?_ _); rotate_left; exact y0) | ((with_reducible refine Below.alloc ?_ ?_ _); rotate_left; exact y0) | ((with_reducible refine Below.trans ?_ (HB1.out.mono ?_)); rotate_left; exact y0)))⟩) : p := h
theorem z65 (h : p := by
 go_wp2_with (go_at_call 38; refine (Xa6 _ _ _ _).mono ?_; rintro e w' ⟨rfl, rfl⟩)
 go_ret
 exact ⟨rfl, HB.out _⟩) : p := h
theorem z66 (k : q) (h : W_ q → p := by
 intro z_ hb hl hx h0' hbase hin hm hf hq
 have HF := Zh hf
 have HX := Zh hx
 have HQ := Zh hq
 have H0 := Zh h0'
 have HBS := Zh hbase
 have HIN := Zh hin
 have hg := Xcw hb
 have m0 : (b.mode == 0) = false := by rw [hm]; rfl
 have m1 : (b.mode == 1) = false := by rw [hm]; rfl
 obtain ⟨h0, h1, h2, h3, h4, h5, h6, h7, h8, h9, h10, h11⟩ := hb
 have S0 := Zh (Xag (Xan w) (.cells #[.slice m 512 cm'] 24))
 clear hl hf hx hq h0' hbase hin hm
 go_enter Tryz.func79, Tryz.ntmps79
 go_wp2_with fail
 refine (Xet _ _ _ b.cache d p _ ((HL.out.alloc (Nat.le_refl _) _).more (by simp))).mono ?_
 rw [HF.out]
 rintro e w1 ⟨rfl, hb1⟩
 have HS1 := Zh (Xaz hb1 S0.out)
 have HG1 := Zh (Xau HB.out HS1.out)
 have HX1 := Zh (Xaf HX.out HS1.out)
 refine z129 ?_; intro hz1
 refine z221 ?_; intro k1_0 l1_0 q1_0
 have k1_1 := fun o => (Xab hb1).1 (w.heap.size) o y0
 have l1_1 : (w.heap.size) < w1.heap.size := (by omega)
 have q1_1 := fun o => (Xab hb1).2 (w.heap.size) o y0
 revert hb1 k1_0 q1_0 k1_1 q1_1; refine_lift z175 ?_; intro k1_0 q1_0 k1_1 q1_1 HB1
 have HM1 : Hid (w1.cell? ⟨w.heap.size, 0, none⟩ = some (.slice m 512 cm')) := Zh (k1_1 0)
 go_upto_region 11 with (fail)
 rename_i i_1 i_2
 revert HF HX HQ H0 HBS HIN hg m0 m1 h0 h1 h2 h3 h4 h5 h6 h7 h8 h9 h10 h11 S0 w1 HS1 HG1 HX1 hz1 l1_0 l1_1 k1_0 q1_0 k1_1 q1_1 HB1 HM1 i_1 i_2
 exact z_.1) : p := h ⟨k⟩
theorem z67 (k : q) (h : W_ q → p := by
 intro z_
 refine z2 ?_; intro w1 hb1 _ k1_0 _ q1_0
 refine z10 ?_; intro k1_1 _ q1_1
 refine z29 ?_; intro k1_2 _ q1_2
 have k1_3 := fun o => (Xab hb1).1 (b) o y0
 have l1_3 : (b) < w1.heap.size := (by omega)
 have q1_3 := fun o => (Xab hb1).2 (b) o y0
 simp (maxDischargeDepth := 6) [go_sem, *] at k1_0 q1_0 k1_1 q1_1 k1_2 q1_2 k1_3 q1_3
 have HB1 := Zh hb1
 clear hb1
 rename_i i_1 i_2 i_3 i_4
 revert w1 i_1 i_2 i_3 i_4 l1_3 k1_0 q1_0 k1_1 q1_1 k1_2 q1_2 k1_3 q1_3 HB1
 exact z_.1) : p := h ⟨k⟩
theorem z182 (k : q) (h : W_ q → p := by
 intro z_
 have k1_2 := fun o => (Xab hb1).1 (w.heap.size + 1 + 1 + 1) o y0
 have l1_2 : (w.heap.size + 1 + 1 + 1) < w1.heap.size := (by omega)
 have q1_2 := fun o => (Xab hb1).2 (w.heap.size + 1 + 1 + 1) o y0
 revert k1_2 l1_2 q1_2
 exact z_.1) : p := h ⟨k⟩
theorem z69 (k : q) (h : W_ q → p := by
 intro z_ hb1 k1_0 q1_0 k1_1 q1_1
 refine z182 ?_; intro k1_2 l1_2 q1_2
 have k1_3 := fun o => (Xab hb1).1 (w.heap.size + 1 + 1 + 1 + 1) o y0
 have l1_3 : (w.heap.size + 1 + 1 + 1 + 1) < w1.heap.size := (by omega)
 have q1_3 := fun o => (Xab hb1).2 (w.heap.size + 1 + 1 + 1 + 1) o y0
 simp (maxDischargeDepth := 6) [go_sem, *] at k1_0 q1_0 k1_1 q1_1 k1_2 q1_2 k1_3 q1_3
 have HB1 := Zh hb1
 clear hb1
 have ht := HT.out
 revert l1_2 l1_3 k1_0 q1_0 k1_1 q1_1 k1_2 q1_2 k1_3 q1_3 HB1 ht
 exact z_.1) : p := h ⟨k⟩
theorem z156 (k : q) (h : W_ q → p := by
 intro z_
 have hq : q = w.heap.size ∨ q = w.heap.size + 1 ∨ q = w.heap.size + 1 + 1 ∨ q = w.heap.size + 1 + 1 + 1 ∨ q = w.heap.size + 1 + 1 + 1 + 1 ∨ q = w.heap.size + 1 + 1 + 1 + 1 + 1 := by omega
 revert hq
 exact z_.1) : p := h ⟨k⟩
theorem z70 (k : q) (h : W_ q → p := by
 intro z_
 have kc := fun q (h1 : q ≠ w.heap.size) (h2 : q ≠ w.heap.size + 1) (h3 : q < w13.heap.size) o => hOn.2.1 q o h1 h2 h3
 refine DmaI.start (Below.trans HW3.out hb0) (by omega) hc0 hB ⟨(kc _ (by omega) (by omega) l13_2 0).trans (k13_2 0), (kc _ (by omega) (by omega) l13_2 1).trans (k13_2 1), (kc _ (by omega) (by omega) l13_2 2).trans (k13_2 2), (kc _ (by omega) (by omega) l13_2 3).trans (k13_2 3), (kc _ (by omega) (by omega) l13_2 4).trans (k13_2 4)⟩
   ((kc _ (by omega) (by omega) l13_3 0).trans (k13_3 0)) (DmaI.brgz (fun o => (kc _ (by omega) (by omega) l13_4 o).trans (k13_4 o))) (DmaI.tldz (fun o => (kc _ (by omega) (by omega) l13_5 o).trans (k13_5 o))) ?_ (hO.low (by omega)) hN.lines ?_
 · intro q o h1 h2
   rw [hOn.2.2 q o (by omega)]
   refine z156 ?_; intro hq
   rcases hq with rfl | rfl | rfl | rfl | rfl | rfl
   · exact q13_0 o
   · exact q13_1 o
   · exact q13_2 o
   · exact q13_3 o
   · exact q13_4 o
   · exact q13_5 o
 revert kc
 exact z_.1) : p := h ⟨k⟩
theorem z71 (k : q) (h : W_ q → p := by
 intro z_
 have k3_4 := fun o => (Xab hb3).1 (w.heap.size + 1 + 1 + 1 + 1) o y0
 have l3_4 : (w.heap.size + 1 + 1 + 1 + 1) < w3.heap.size := (by omega)
 have q3_4 := fun o => (Xab hb3).2 (w.heap.size + 1 + 1 + 1 + 1) o y0
 have k3_5 := fun o => (Xab hb3).1 (w.heap.size + 1 + 1 + 1 + 1 + 1) o y0
 have l3_5 : (w.heap.size + 1 + 1 + 1 + 1 + 1) < w3.heap.size := (by omega)
 have q3_5 := fun o => (Xab hb3).2 (w.heap.size + 1 + 1 + 1 + 1 + 1) o y0
 revert k3_4 l3_4 q3_4 k3_5 l3_5 q3_5
 exact z_.1) : p := h ⟨k⟩
theorem z72 (k : q) (h : W_ q → p := by
 intro z_
 refine z54 ?_; intro w2 hb2 _
 have k2_0 := fun o => (Xab hb2).1 (w.heap.size + 1 + 1) o y0
 have l2_0 : (w.heap.size + 1 + 1) < w2.heap.size := (by omega)
 have q2_0 := fun o => (Xab hb2).2 (w.heap.size + 1 + 1) o y0
 rename_i i_1
 revert w2 hb2 i_1 k2_0 l2_0 q2_0
 exact z_.1) : p := h ⟨k⟩
theorem z73 (k : q) (h : W_ q → p := by
 intro z_ hb1
 have HB1 := Zh hb1
 clear hb1
 have HS1 := Zh (show Xam w w1 by unfold Xam; (repeat (first | (with_reducible exact Below.refl _ _) | (with_reducible refine Below.drew ?_) | (with_reducible refine Xai ?_ _) | ((with_reducible refine Below.setCell ?_ ?_ _); rotate_left; exact y0) | ((with_reducible refine Below.alloc ?_ ?_ _); rotate_left; exact y0) | ((with_reducible refine Below.trans ?_ (HB1.out.mono ?_)); rotate_left; exact y0))))
 revert HB1 HS1
 exact z_.1) : p := h ⟨k⟩
theorem z170 (k : q) (h : W_ q → p := by
 intro z_ H0 H1 H2 H3 H4 H5 HB H6
 replace H0 := Zh (Xak H0.out ht7 (by omega))
 replace H1 := Zh (Xak H1.out ht7 (by omega))
 replace H2 := Zh (Xak H2.out ht7 (by omega))
 replace H3 := Zh (Xak H3.out ht7 (by omega))
 replace H4 := Zh (Xak H4.out ht7 (by omega))
 replace H5 := Zh (Xak H5.out ht7 (by omega))
 replace HB := Zh (Xbj HB.out (HB.out.size) ht7 (by omega))
 replace H6 := Zh (Xak H6.out ht7 (by omega))
 revert H0 H1 H2 H3 H4 H5 HB H6
 exact z_.1) : p := h ⟨k⟩
theorem z74 (k : q) (h : W_ q → p := by
 intro z_ HO H0 H1 H2 H3 H4 H5 HB H6 H7
 replace HO := Zh ho7
 revert H0 H1 H2 H3 H4 H5 HB H6; refine_lift z170 ?_; intro H0 H1 H2 H3 H4 H5 HB H6
 replace H7 := Zh (Xak H7.out ht7 (by omega))
 have hz7 := ht7.2
 have hz7a : w7.heap.size ≤ w6.heap.size := Nat.le_of_eq hz7
 have hz7b : w6.heap.size ≤ w7.heap.size := Nat.le_of_eq hz7.symm
 revert HO H0 H1 H2 H3 H4 H5 HB H6 H7 hz7 hz7a hz7b
 exact z_.1) : p := h ⟨k⟩
theorem z75 (h : p := by
 refine wpList_plain hgd fun _ hK => ?_
 obtain ⟨g', e, h1, h2, h3, h4, _⟩ := Xbl hg (by omega)
 injection e with e; injection e with e; subst e
 obtain ⟨xk, hxk⟩ := Xax xs (k := k) (by rw [hg.1]; exact hk)
 have hr : (storeVar ty ⟨g, k, none⟩ (.int .i64 v)).run P w = .ok () (w.setCell ⟨g, k, none⟩ (.int .i64 v)) := by
   have := run_storeCells_cells (P := P) g k [.int .i64 v] 0 w (fun j hj => by
       have e : j = 0 := by simpa using hj
       subst e; simp [h3 k xk hxk])
     (fun j hj => h4 _) (fun u hu => by simp at hu; subst hu; rfl)
   cases hq : P.info? ty with
   | none => simp [hq] at hi
   | some i =>
     have hs : i.size = 1 := by simpa [hq] using hi
     simp only [Nat.add_zero, World.setCells] at this
     simp [storeVar, sizeOf, typeInfo, hq, Value.cells, hs, this]
 unfold Oper.wp execOp
 simp only [ho, hx, hy, Instr.storeAt, Instr.sureAddr, Sem.run_bind, Sem.run_pure, Result.andThen_ok, hr]
 exact hK _ _ (h _ (Xij hg hk v) (Xh3 h2 _ _))) : p := h
theorem z76 (k : q) (h : W_ q → p := by
 intro z_
 refine (Xdd _ _ _ ls _ (Xah HL.out (Xd6 HB1.out y5)) hn6).mono ?_
 rintro e w6 ⟨A6, c6, rfl, ho6, hb6⟩
 have HO6 := Zh ho6
 have HBD := Zh (Xd6 HB1.out y5 |>.trans (hb6.mono (Below.size (Xd6 HB1.out y5))))
 have k6 := fun o ho => (Xab hb6).1 (w.heap.size) o ho
 have HB6 := Zh hb6.size
 clear hb6 ho6
 revert w6 A6 c6 HO6 HBD k6 HB6
 exact z_.1) : p := h ⟨k⟩
theorem z78 (k : q) (h : W_ q → p := by
 intro z_ m hm hbase hin HM
 unfold inD at hin
 obtain ⟨⟨d1, d2⟩, d3, d4⟩ := hin
 obtain ⟨g1, g2⟩ := hbase
 obtain ⟨mb, moff, rfl, hmb, hmc⟩ := hm.at_ (by omega)
 have hcx := hmc _ _ (Xhq (i := b.base * 8 + d) (Xb4 h0).1 (by omega))
 rw [hx] at hcx
 have hb2 : mb < w.heap.size + 1 := by omega
 have hb3 : mb < w.heap.size + 1 + 1 := by omega
 revert d1 d2 d3 d4 g1 g2 mb moff hm HM hmb hmc hcx hb2 hb3
 exact z_.1) : p := h ⟨k⟩
theorem z79 (h : p := by
 go_wp2
 go_ret
 exact ⟨Xbf HR.out, by (repeat (first | (with_reducible exact Below.refl _ _) | (with_reducible refine Below.drew ?_) | (with_reducible refine Xai ?_ _) | ((with_reducible refine Below.setCell ?_ ?_ _); rotate_left; exact y0) | ((with_reducible refine Below.alloc ?_ ?_ _); rotate_left; exact y0)))⟩) : p := h
theorem z80 (k : q) (h : W_ q → p := by
 intro z_
 obtain ⟨sb, hsb⟩ : ∃ s, s = b.stopped := ⟨_, rfl⟩
 obtain ⟨lb, hlb⟩ : ∃ s, s = b.lost := ⟨_, rfl⟩
 have H2s := Zh (show Whl w6 (w.heap.size + 1 + 1) 31 #[.int .i64 b.mode, .int .i64 b.base, .slice L n c, .int .i64 b.orders.page, .int .i64 b.orders.head, .int .i64 b.orders.tail, .bool sb, .int .i64 b.fences, .int .i64 b.faults.page, .int .i64 b.faults.head, .int .i64 b.faults.tail, .bool lb] by rw [hsb, hlb]; exact H2.out)
 have HST := Zh (show stB b = (if sb then 1 else 0) + (if lb then 2 else 0) by unfold stB; rw [hsb, hlb])
 clear hsb hlb
 have k2 := fun o => Xaj H2s.out o
 have n63 : w6.cell? ⟨w1.heap.size, 3, none⟩ = some (.int .i64 (ki : Int)) := Xaj H6.out 3
 have n60 : w6.cell? ⟨w1.heap.size, 0, none⟩ = some (.int .i64 8) := Xaj H6.out 0
 have e0 : IntKind.i64.wrap (0 + 1) = 1 := by decide
 have e1 : IntKind.i64.wrap (0 + 2) = 2 := by decide
 have e2 : IntKind.i64.wrap (1 + 2) = 3 := by decide
 revert sb lb H2s HST k2 n63 n60 e0 e1 e2
 exact z_.1) : p := h ⟨k⟩
theorem z81 (k : q) (h : W_ q → p := by
 intro z_
 refine (Xh6 _ _ _ _ _ _ a.cache b.cache _ (Xah H1.out y29) (Xah H2.out y29)).mono ?_
 rw [HQ.out]
 exact z_.1) : p := h ⟨k⟩
theorem z82 (k : q) (h : W_ q → p := by
 intro z_ HO H0 H1 H2 H3 H4 H5 HB H6 H7 n6
 generalize hwb : w6.alloc (.cells (B_.b b L n c) 31) = w7
 have HQ := Zh (show Whl w7 w6.heap.size 31 (B_.b b L n c) by rw [← hwb]; exact Xap _ _ _ rfl)
 have hb : Below w6.heap.size w6 w7 := by rw [← hwb]; exact Xa3 _ _
 have hz7 : w6.heap.size < w7.heap.size := by rw [← hwb]; simp
 replace HO := Zh (show OwnI w2.heap.size w7 (some ⟨g2, 0, none⟩) 8 d2 rs by rw [← hwb]; exact HO.out.alloc _)
 revert H0 H1 H2 H3 H4 H5 HB; refine_lift z6 ?_; intro H0 H1 H2 H3 H4 H5 HB
 replace H6 := Zh (Xaa H6.out hb)
 replace H7 := Zh (Xaa H7.out hb)
 clear hb hwb n6
 (try go_frame)
 revert w7 HQ hz7 HO H0 H1 H2 H3 H4 H5 HB H6 H7
 exact z_.1) : p := h ⟨k⟩
theorem z83 (k : q) (h : W_ q → p := by
 intro z_
 rintro e w2 ⟨rfl, hb2⟩
 refine z7 ?_; intro _ k2_0 _ q2_0 k2_1 _ q2_1
 refine z43 ?_; intro k2_2 _ q2_2
 have k2_3 := fun o => (Xab hb2).1 (w1.heap.size) o y0
 have l2_3 : (w1.heap.size) < w2.heap.size := (by omega)
 have q2_3 := fun o => (Xab hb2).2 (w1.heap.size) o y0
 simp (maxDischargeDepth := 6) [go_sem, *] at k2_0 q2_0 k2_1 q2_1 k2_2 q2_2 k2_3 q2_3
 have HB2 := Zh hb2
 clear hb2
 rename_i i_1 i_2 i_3 i_4
 revert w2 i_1 i_2 i_3 i_4 l2_3 k2_0 q2_0 k2_1 q2_1 k2_2 q2_2 k2_3 q2_3 HB2
 exact z_.1) : p := h ⟨k⟩
theorem z84 (k : q) (h : W_ q → p := by
 intro z_
 refine (Xc0 _ _ _ _ _ (Xah HL.out y29)).mono ?_
 exact z_.1) : p := h ⟨k⟩
theorem z85 (k : q) (h : W_ q → p := by
 intro z_
 refine (Xhh _ _ _ x.m _ (Xaf HM.out y29)).mono ?_
 exact z_.1) : p := h ⟨k⟩
theorem z86 (h : p := by
 rintro e w7 ⟨A7, c7, rfl, hl7, hb7, hs7, hn7⟩
 go_wp2
 go_ret2
 exact ⟨A7, c7, rfl, hl7, HBD.out.trans (hb7.mono (Nat.le_trans (by simp) (Below.size (Xd6 HB1.out y5)))), fun ad h => Nat.le_trans (Below.size (Xd6 HB1.out y5)) (hn7 ad h)⟩) : p := h
theorem z88 (k : q) (h : W_ q → p := by
 intro z_
 refine (Xeb _ _ _ x.m _ (Xaf HM.out y29)).mono ?_
 exact z_.1) : p := h ⟨k⟩
theorem z89 (k : q) (h : W_ q → p := by
 intro z_
 rintro e w2 ⟨rfl, hb2⟩
 refine z7 ?_; intro _ k2_0 _ q2_0 k2_1 _ q2_1
 simp (maxDischargeDepth := 6) [go_sem, *] at k2_0 q2_0 k2_1 q2_1
 have HB2 := Zh hb2
 clear hb2
 rename_i i_1 i_2 i_3
 revert w2 i_1 i_2 i_3 k2_0 q2_0 k2_1 q2_1 HB2
 exact z_.1) : p := h ⟨k⟩
theorem z94 (h : p := by
 first | exact HD.out _ (Xag HS.out _) | exact HT.out _ _ _ _ (HD.out _ HS.out) (Xav (Xag (Xan _) _)) | exact HT.out _ _ _ _ (HD.out _ HS.out) (Xag (Xan _) _)) : p := h
theorem z95 (k : q) (h : W_ q → p := by
 intro z_
 generalize hwb : w1.alloc (.cells (B_.b rb L' n' c') 31) = w2
 have H9 := Zh (show Whl w2 w1.heap.size 31 (B_.b rb L' n' c') by rw [← hwb]; exact Xap _ _ _ rfl)
 have hb : Below w1.heap.size w1 w2 := by rw [← hwb]; exact Xa3 _ _
 have hz2 : w1.heap.size + 1 ≤ w2.heap.size := by rw [← hwb]; simp
 revert w2 hwb H9 hb hz2
 exact z_.1) : p := h ⟨k⟩
theorem z96 (k : q) (h : W_ q → p := by
 intro z_ A hb hl
 have HB := Zh hb
 have HL := Zh hl
 have HF := Zh hf
 have hg := Xcw hb
 have h0 := hb.1
 rw [hm] at h0
 have h2 := hb.2.2.1
 have hkn : k < n := by rw [← hl.len]; exact (List.getElem?_eq_some_iff.1 hk).1
 obtain ⟨q, off, rfl, hq, hc⟩ := hl.at_ (by omega)
 obtain ⟨e0, e1, e2, e3, e4⟩ := hc k x hk
 have S0 := Zh (Xag (Xan w))
 have i0 : (0 : Int) ≤ (k : Int) := by omega
 have i1 : (k : Int) < (n : Int) := by omega
 have t1 : decide ((0 : Int) ≤ (k : Int)) = true := by simp
 revert HF hg h0 hkn q off hb hl HB HL h2 hq hc e0 e1 e2 e3 e4 S0 i0 i1 t1
 exact z_.1) : p := h ⟨k⟩
theorem z97 (k : q) (h : W_ q → p := by
 intro z_
 refine (Xms _ _ _ _ _ _ _ HR.out _).mono ?_
 rintro e w3 ⟨rfl, hb3⟩
 refine z187 ?_; intro hz3 k3_0 l3_0 q3_0
 have k3_1 := fun o => (Xab hb3).1 (w2.heap.size) o y0
 have l3_1 : (w2.heap.size) < w3.heap.size := (by omega)
 have q3_1 := fun o => (Xab hb3).2 (w2.heap.size) o y0
 simp (maxDischargeDepth := 6) [go_sem, *] at k3_0 q3_0 k3_1 q3_1
 have HB3 := Zh hb3
 clear hb3
 revert w3 hz3 l3_0 l3_1 k3_0 q3_0 k3_1 q3_1 HB3
 exact z_.1) : p := h ⟨k⟩
theorem z98 (k : q) (h : W_ q → p := by
 intro z_
 refine (Xv3 _ _ _ _ HG.out HS.out HR.out).mono ?_
 refine z2 ?_; intro w1 hb1 _ k1_0 _ q1_0
 refine z41 ?_; intro k1_1 _ q1_1
 revert hb1 k1_0 q1_0 k1_1 q1_1; refine_lift z175 ?_; intro k1_0 q1_0 k1_1 q1_1 HB1
 have M1 := Zh (((HM.out.alloc (Nat.le_refl _) (.cells #[.slice (some ⟨mb, moff, none⟩) 512 cm'] 24) |>.alloc (by simp) (.cells (B_.b b A n c) 31) |>.alloc y3 (.cells #[.int .i64 0, .int .i64 0, .int .i64 0, .bool false, .bool false] 58)).below (HB1.out.mono y3)).more (B' := w1.heap.size) (by omega))
 rename_i i_1 i_2 i_3
 revert w1 i_1 i_2 i_3 k1_0 q1_0 k1_1 q1_1 HB1 M1
 exact z_.1) : p := h ⟨k⟩
theorem z99 (k : q) (h : W_ q → p := by
 intro z_ M R hm hr hl c1 c2
 revert M R hm hr hl c1 c2; refine_lift z1 ?_; intro HC2 _ HL _ _ HRL gM oM HM _ gR oR _ lR _ _ HRC _ _ w0 H0 H1 H2 H3 H4 H5 HB _ _ k0 k1 kx
 go_wp2_with fail
 revert H0 H1 H2 H3 H4 H5 HB k0 k1 kx; refine_lift z48 ?_; intro w1 _ H0 H1 H2 H3 H4 H5 HB
 go_upto_region 3 with (fail)
 rename_i i_1 i_2 i_3 i_4 i_5 i_6 i_7 i_8 i_9 i_10 i_11 i_12 i_13 i_14
 revert HC2 i_1 HL i_2 i_3 HRL gM oM HM i_4 gR oR i_5 lR i_6 i_7 HRC w0 i_8 i_9 w1 i_10 H0 H1 H2 H3 H4 H5 HB i_11 i_12 i_13 i_14
 exact z_.1) : p := h ⟨k⟩
theorem z167 (k : q) (h : W_ q → p := by
 intro z_
 have HV := Zh hv.lt
 have HD := Zh hd
 have H0 := Zh h0
 have HK := Zh hk
 revert HV HD H0 HK
 exact z_.1) : p := h ⟨k⟩
theorem z101 (k : q) (h : W_ q → p := by
 intro z_ hv hd h0 hk
 refine z167 ?_; intro HV HD H0 HK
 clear hv hd h0 hk
 revert HV HD; refine_lift z3 ?_; intro _ _ _ _ w0 H2 H3 H4 H5 H8 HB _ _ HV _
 have fk : w0.cell? ⟨w.heap.size + 1, 0, none⟩ = some (.int .i64 2) := (Xaj H3.out 0).trans y12
 go_wp2_with (first
   | (refine Xat rfl 24 (.tmp 46) rfl (w.heap.size) 0 _ _ [.slice M 512 mc] rfl H2.out rfl _ Tryz.underlying24 rfl Tryz.sizeMem ?_)
   | (refine Xat rfl 31 (.tmp 48) rfl (w.heap.size) 4 _ _ [.int .i64 x.b.mode, .int .i64 x.b.base, .slice L n c, .int .i64 x.b.orders.page, .int .i64 x.b.orders.head, .int .i64 x.b.orders.tail, .bool x.b.stopped, .int .i64 x.b.fences, .int .i64 x.b.faults.page, .int .i64 x.b.faults.head, .int .i64 x.b.faults.tail, .bool x.b.lost] rfl H2.out rfl _ Tryz.underlying31 rfl Tryz.sizeBrg ?_))
 rename_i i_1 i_2 i_3 i_4 i_5 i_6 i_7 i_8 i_9
 revert H0 HK i_1 i_2 w0 H2 H3 H4 H5 H8 HB i_3 i_4 HV i_5 fk i_6 i_7 i_8 i_9
 exact z_.1) : p := h ⟨k⟩
theorem z143 (h : p := by
 · exact Xde Tryz.results11 rfl rfl rfl (Xc4 h4b _ Tryz.underlying33 rfl Tryz.sizeMach) (Xc4 h5b _ Tryz.underlying40 rfl Tryz.sizeTold)) : p := h
theorem z136 (h : p := by
 · exact Xbj (Xbj HB.out HB.out.size t4 (by omega)) (by have := t4.2; have := HB.out.size; omega) t5 (by omega)) : p := h
theorem z103 (h : p := by
 go_wp2
 refine bodyPost_ret (v := .tuple #[.agg B_.y, .agg B_.t, .int .i64 E]) ?_ rfl (Xhy ?_)
 exact z143
 exact z136) : p := h
theorem z104 (k : q) (h : W_ q → p := by
 intro z_ m hx
 have t0 : (b.orders.head == b.orders.tail) = false := beq_eq_false_iff_ne.2 hp
 have hr := ((Xbo b).1 hb).2.2.1
 unfold Xcj at hr
 obtain ⟨⟨r1, r2⟩, ⟨r3, r4⟩, r5, r6⟩ := hr
 have hvx := Xhq (xs := xs) (i := b.orders.page * 8 + b.orders.head) (Xb4 h0).1 (by omega)
 obtain ⟨g, off, rfl, hg, hc⟩ := hx.at_ (by omega)
 have hcv := hc _ _ hvx
 rw [show rd xs (b.orders.page * 8 + b.orders.head) = v from hv, show b.orders.page * 8 = 8 * b.orders.page from Int.mul_comm _ _] at hcv
 have e1 : IntKind.i64.wrap (8 * b.orders.page) = 8 * b.orders.page := IntWalk.i64_in _ (by omega)
 have e2 : IntKind.i64.wrap (8 * b.orders.page + b.orders.head) = 8 * b.orders.page + b.orders.head := IntWalk.i64_in _ (by omega)
 have HL := Zh hl
 have hg2 : g < w.heap.size + 1 := by omega
 have hg3 : g < w.heap.size + 1 + 1 := by omega
 revert t0 r1 r2 r3 r4 r5 r6 hvx g off hx hg hc hcv e1 e2 HL hg2 hg3
 exact z_.1) : p := h ⟨k⟩
theorem z152 (k : q) (h : W_ q → p := by
 intro z_
 refine z2 ?_; intro w1 hb1 _ k1_0 _ q1_0
 refine z10 ?_; intro k1_1 _ q1_1
 revert hb1 k1_0 q1_0 k1_1 q1_1; refine_lift z14 ?_; (iterate 16 intro); intro HB1
 rename_i i_1 i_2 i_3 i_4 i_5 i_6 i_7 i_8 i_9 i_10 i_11 i_12 i_13 i_14 i_15 i_16 i_17 i_18 i_19
 revert w1 i_1 i_2 i_3 i_4 i_5 i_6 i_7 i_8 i_9 i_10 i_11 i_12 i_13 i_14 i_15 i_16 i_17 i_18 i_19 HB1
 exact z_.1) : p := h ⟨k⟩
theorem z105 (k : q) (h : W_ q → p := by
 intro z_
 refine z58 ?_; iterate 4 intro
 rw [H0.out]
 refine z152 ?_; intro w1; (iterate 19 intro); intro HB1
 go_wp2_with fail
 refine (Xbb b A0 n0 c0 _ (Xah HL.out y30)).mono ?_
 rename_i i_1 i_2 i_3 i_4 i_5 i_6 i_7 i_8 i_9 i_10 i_11 i_12 i_13 i_14 i_15 i_16 i_17 i_18 i_19 i_20 i_21 i_22 i_23
 revert w1 i_1 i_2 i_3 i_4 i_5 i_6 i_7 i_8 i_9 i_10 i_11 i_12 i_13 i_14 i_15 i_16 i_17 i_18 i_19 HB1 i_20 i_21 i_22 i_23
 exact z_.1) : p := h ⟨k⟩
theorem z106 (k : q) (h : W_ q → p := by
 intro z_
 refine z2 ?_; intro w1 hb1 _ k1_0 _ q1_0
 refine z10 ?_; intro k1_1 _ q1_1
 refine z29 ?_; intro k1_2 _ q1_2
 simp (maxDischargeDepth := 6) [go_sem, *] at k1_0 q1_0 k1_1 q1_1 k1_2 q1_2
 have HB1 := Zh hb1
 clear hb1
 rename_i i_1 i_2 i_3 i_4
 revert w1 i_1 i_2 i_3 i_4 k1_0 q1_0 k1_1 q1_1 k1_2 q1_2 HB1
 exact z_.1) : p := h ⟨k⟩
theorem z107 (h : p := by
 have HB1 := Zh hb1
 clear hb1
 go_wp2
 go_ret
 exact ⟨Xbf HR.out, by (repeat (first | (with_reducible exact Below.refl _ _) | (with_reducible refine Below.drew ?_) | (with_reducible refine Xai ?_ _) | ((with_reducible refine Below.setCell ?_ ?_ _); rotate_left; exact y0) | ((with_reducible refine Below.alloc ?_ ?_ _); rotate_left; exact y0) | ((with_reducible refine Below.trans ?_ (HB1.out.mono ?_)); rotate_left; exact y0)))⟩) : p := h
theorem z109 (k : q) (h : W_ q → p := by
 intro z_
 refine bodyPost_ret (v := .tuple #[.agg #[.bool false, .bool false, .bool false, .bool false, .int .i64 0], .int .i64 4, .int .i64 0]) ?_ rfl ⟨rfl, ?_⟩
 · simp (maxDischargeDepth := 8) [results, Tryz.results86, go_sem, *]
 exact z_.1) : p := h ⟨k⟩
theorem z111 (k : q) (h : W_ q → p := by
 intro z_
 generalize hw0 : (w.alloc (.cells (M_.m x M 512 mc R 8 rc L n c) 33)).alloc (.cells B_.y 33) = w0
 revert w0 hw0
 exact z_.1) : p := h ⟨k⟩
theorem z184 (h : p := by
 · simp (maxDischargeDepth := 8) [results, Tryz.results105, go_sem, *]) : p := h
theorem z112 (k : q) (h : W_ q → p := by
 intro z_
 refine bodyPost_ret (v := .tuple #[.agg #[.bool false, .bool false, .bool false, .bool false, .int .i64 0], .int .i64 4]) ?_ rfl ⟨rfl, ?_⟩
 exact z184
 exact z_.1) : p := h ⟨k⟩
theorem z113 (h : p := by
 rw [t4] at r1
 go_wp2
 go_ret
 exact ⟨Xbf (by simp [t4]), by (repeat (first | (with_reducible exact Below.refl _ _) | (with_reducible refine Below.drew ?_) | (with_reducible refine Xai ?_ _) | ((with_reducible refine Below.setCell ?_ ?_ _); rotate_left; exact y0) | ((with_reducible refine Below.alloc ?_ ?_ _); rotate_left; exact y0) | ((with_reducible refine Below.trans ?_ (HB1.out.mono ?_)); rotate_left; exact y0)))⟩) : p := h
theorem z114 (h : p := by
 skip
 go_wp2
 go_ret
 exact ⟨Xbf (by simp [t4, t5, t6]), by (repeat (first | (with_reducible exact Below.refl _ _) | (with_reducible refine Below.drew ?_) | (with_reducible refine Xai ?_ _) | ((with_reducible refine Below.setCell ?_ ?_ _); rotate_left; exact y0) | ((with_reducible refine Below.alloc ?_ ?_ _); rotate_left; exact y0) | ((with_reducible refine Below.trans ?_ (HB1.out.mono ?_)); rotate_left; exact y0)))⟩) : p := h
theorem z115 (h : p := by
 skip
 go_wp2
 go_ret
 exact ⟨Xbf (by simp [t4, t5]), by (repeat (first | (with_reducible exact Below.refl _ _) | (with_reducible refine Below.drew ?_) | (with_reducible refine Xai ?_ _) | ((with_reducible refine Below.setCell ?_ ?_ _); rotate_left; exact y0) | ((with_reducible refine Below.alloc ?_ ?_ _); rotate_left; exact y0) | ((with_reducible refine Below.trans ?_ (HB1.out.mono ?_)); rotate_left; exact y0)))⟩) : p := h
theorem z116 (k : q) (h : W_ q → p := by
 intro z_
 have c11 : w1.cell? ⟨w.heap.size, 1, none⟩ = some (.int .i64 d) := by simp [k1_0]
 have c12 : w1.cell? ⟨w.heap.size, 2, none⟩ = some (.int .i64 p) := by simp [k1_0]
 revert c11 c12
 exact z_.1) : p := h ⟨k⟩
theorem z117 (k : q) (h : W_ q → p := by
 intro z_
 refine (Xj4 x.h _ _ _ _ (Xaf HR.out y30)).mono ?_
 exact z_.1) : p := h ⟨k⟩
theorem z118 (k : q) (h : W_ q → p := by
 intro z_
 refine (Xfq x.h _ _ _ _ (Xaf HR.out y30)).mono ?_
 exact z_.1) : p := h ⟨k⟩
theorem z119 (k : q) (h : W_ q → p := by
 intro z_
 refine (Xfq h _ _ _ _ (Xaf HR.out y30)).mono ?_
 exact z_.1) : p := h ⟨k⟩
theorem z183 (k : q) (h : W_ q → p := by
 intro z_ ha hd hi
 obtain ⟨a1, a2⟩ := ha
 obtain ⟨d1, d2⟩ := hd
 obtain ⟨i1, i2⟩ := hi
 revert a1 a2 d1 d2 i1 i2
 exact z_.1) : p := h ⟨k⟩
theorem z163 (k : q) (h : W_ q → p := by
 intro z_
 unfold insV
 go_enter Tryz.func44, Tryz.ntmps44
 exact z_.1) : p := h ⟨k⟩
theorem z120 (h : p := by
 have HD := Zh (fun (w' : World) (hs : Xam w w') => Xhz crd hs false)
 revert ha hd hi; refine_lift z183 ?_; iterate 6 intro
 generalize rd h.regs a = u at *
 generalize rd h.regs d = v at *
 have e1 : IntKind.i64.wrap (v + i) = v + i := IntWalk.i64_in _ (by omega)
 clear crd sep om or cM cR ck hcm
 refine z163 ?_
 go_upto_region 11 with (fail)
 go_quiet (fail)
 go_wp2
 go_ret
 first | exact HD.out _ (Xco (Xag HS.out _) _) | (trace_state; fail "w45")) : p := h
theorem z122 (h : p := by
 go_enter Tryz.func35, Tryz.ntmps35
 go_wp2
 refine bodyPost_ret (v := .tuple #[.agg (B_.b Brg.no none 0 0), .int .i64 6]) ?_ rfl (obd_no ?_)
 · simp (maxDischargeDepth := 8) [results, Tryz.results35, go_sem, Brg.no, Ring.no, *]
 · exact z38) : p := h
theorem z124 (k : q) (h : W_ q → p := by
 intro z_
 refine z33 ?_; intro w1 hb1 _
 have k1_0 := fun o => (Xab hb1).1 (w.heap.size + 1 + 1 + 1) o y0
 have l1_0 : (w.heap.size + 1 + 1 + 1) < w1.heap.size := (by omega)
 have q1_0 := fun o => (Xab hb1).2 (w.heap.size + 1 + 1 + 1) o y0
 have k1_1 := fun o => (Xab hb1).1 (w.heap.size + 1 + 1 + 1 + 1) o y0
 have l1_1 : (w.heap.size + 1 + 1 + 1 + 1) < w1.heap.size := (by omega)
 have q1_1 := fun o => (Xab hb1).2 (w.heap.size + 1 + 1 + 1 + 1) o y0
 rename_i i_1
 revert w1 hb1 i_1 k1_0 l1_0 q1_0 k1_1 l1_1 q1_1
 exact z_.1) : p := h ⟨k⟩
theorem z125 (k : q) (h : W_ q → p := by
 intro z_
 refine z33 ?_; intro w1 hb1 _
 have k1_0 := fun o => (Xab hb1).1 (w.heap.size + 1 + 1) o y0
 have l1_0 : (w.heap.size + 1 + 1) < w1.heap.size := (by omega)
 have q1_0 := fun o => (Xab hb1).2 (w.heap.size + 1 + 1) o y0
 rename_i i_1
 revert w1 hb1 i_1 k1_0 l1_0 q1_0
 exact z_.1) : p := h ⟨k⟩
theorem z126 (k : q) (h : W_ q → p := by
 intro z_
 have k2_2 := fun o => (Xab hb2).1 (w.heap.size + 1 + 1 + 1) o y0
 have l2_2 : (w.heap.size + 1 + 1 + 1) < w2.heap.size := (by omega)
 have q2_2 := fun o => (Xab hb2).2 (w.heap.size + 1 + 1 + 1) o y0
 have k2_3 := fun o => (Xab hb2).1 (w.heap.size + 1 + 1 + 1 + 1) o y0
 have l2_3 : (w.heap.size + 1 + 1 + 1 + 1) < w2.heap.size := (by omega)
 have q2_3 := fun o => (Xab hb2).2 (w.heap.size + 1 + 1 + 1 + 1) o y0
 revert k2_2 l2_2 q2_2 k2_3 l2_3 q2_3
 exact z_.1) : p := h ⟨k⟩
theorem z127 (h : p := by
 obtain ⟨h0, h1, h2, h3, h4, h5, h6, h7, h8, h9, h10, h11⟩ := h; unfold Xa8; simp [go_sem, *]) : p := h
theorem z128 (k : q) (h : W_ q → p := by
 intro z_
 refine (Xeb _ _ _ xs _ (((HX.out.alloc (Nat.le_refl _) _).alloc (by simp) _).more y3)).mono ?_
 exact z_.1) : p := h ⟨k⟩
theorem z131 (k : q) (h : W_ q → p := by
 intro z_ hv hd h0 hk
 refine z167 ?_; intro HV HD H0 HK
 clear hv hd h0 hk
 revert HV HD; refine_lift z3 ?_; intro _ _ _ _ w0 H2 H3 H4 H5 H8 HB _ _ HV _
 have fk : w0.cell? ⟨w.heap.size + 1, 0, none⟩ = some (.int .i64 4) := (Xaj H3.out 0).trans y12
 have fc : w0.cell? ⟨w.heap.size, 6, none⟩ = some (.slice L n c) := Xaj H2.out 6
 have HN := Zh (show n ≤ 1000 by have := ((Xcx _).1 ((Xbo x.b).1 (((Xc6 x).1 H0.out).2.2)).2.1).1; have := HV.out.hl.len; omega)
 have hwn : IntKind.i64.wrap ((n : Int) - 1) = (n : Int) - 1 := IntWalk.i64_in _ (by have := HN.out; omega)
 rename_i i_1 i_2 i_3 i_4 i_5 i_6 i_7
 revert H0 HK i_1 i_2 i_3 i_4 w0 H2 H3 H4 H5 H8 HB i_5 i_6 HV i_7 fk fc HN hwn
 exact z_.1) : p := h ⟨k⟩
theorem z132 (k : q) (h : W_ q → p := by
 intro z_
 refine z42 ?_; intro i0 HI HZ0 HZ1 HZ2 HL
 have HL1 := Zh hl
 have HLEN := Zh hl.len
 obtain ⟨hc1, hc2⟩ := hl.cap
 revert i0 HI HZ0 HZ1 HZ2 HL HL1 HLEN hc1 hc2
 exact z_.1) : p := h ⟨k⟩
theorem z133 (k : q) (h : W_ q → p := by
 intro z_
 have n7 := fun o => Xaj H7.out o
 have n6 := fun o => Xaj H6.out o
 revert n7 n6
 exact z_.1) : p := h ⟨k⟩
theorem z134 (h : p := by
 have hv : 0 ≤ v ∧ v ≤ 65535 := by
   by_cases hv : 0 ≤ v ∧ v ≤ 65535
   · exact hv
   · rw [Xws hv] at h; cases h
 have hR : InsR (v / 4096) (v / 512 % 8) (v / 64 % 8) (v % 64) := by
   by_cases hR : InsR (v / 4096) (v / 512 % 8) (v / 64 % 8) (v % 64)
   · exact hR
   · rw [Xwt hv (by rw [Xls hR]; decide)] at h; cases h
 unfold InsR at hR
 unfold insK insA insC
 rw [Xtr h, Xtr h, Xtr h]
 omega) : p := h
theorem z135 (k : q) (h : W_ q → p := by
 intro z_
 have HR := Zh hR
 have hin := Xb8 hR
 have hd : digV v = .agg #[.int .i64 (v % 2), .int .i64 (v / 2 % 2), .int .i64 (v / 4 % 2), .int .i64 (v / 8 % 2), .int .i64 (v / 16 % 2), .int .i64 (v / 32 % 2), .int .i64 (v / 64 % 2), .int .i64 (v / 128 % 2), .int .i64 (v / 256 % 2), .int .i64 (v / 512 % 2), .int .i64 (v / 1024 % 2), .int .i64 (v / 2048 % 2), .int .i64 (v / 4096 % 2), .int .i64 (v / 8192 % 2), .int .i64 (v / 16384 % 2), .int .i64 (v / 32768 % 2)] := rfl
 have hn6 := num6 v hR
 revert HR hin hd hn6
 exact z_.1) : p := h ⟨k⟩
theorem z138 (k : q) (h : W_ q → p := by
 intro z_
 refine (Xwc _ _ _ xs _ _ _ _ _ _ _ _ _ _ _ ((M1.out.alloc (Nat.le_refl _) _).more (by simp)) HQ.out).mono ?_
 refine z72 ?_; intro w2 hb2 _ k2_0 _ q2_0
 have k2_1 := fun o => (Xab hb2).1 (w1.heap.size) o y0
 have l2_1 : (w1.heap.size) < w2.heap.size := (by omega)
 have q2_1 := fun o => (Xab hb2).2 (w1.heap.size) o y0
 simp (maxDischargeDepth := 6) [go_sem, *] at k2_0 q2_0 k2_1 q2_1
 have HB2 := Zh hb2
 clear hb2
 rename_i i_1 i_2
 revert w2 i_1 i_2 l2_1 k2_0 q2_0 k2_1 q2_1 HB2
 exact z_.1) : p := h ⟨k⟩
theorem z140 (h : p := by
 refine z2 ?_; intro w1 hb1 _ k1_0 _ q1_0
 refine z41 ?_; intro k1_1 _ q1_1
 revert hb1 k1_0 q1_0 k1_1 q1_1; refine_lift z175 ?_; intro _ _ _ _ HB1
 go_wp2
 refine bodyPost_ret (v := .tuple #[.agg #[.int .i64 0, .int .i64 0, .int .i64 0, .bool false, .bool false], .bool false, .int .i64 2]) ?_ rfl ⟨rfl, ?_⟩
 · simp (maxDischargeDepth := 8) [results, Tryz.results93, go_sem, *]
 exact z5) : p := h
theorem z142 (h : p := by
 go_region
 go_wp2
 go_ret
 first | exact HD.out _ (Xco (Xag HS.out _) _) | exact HT.out _ _ _ _ (HD.out _ HS.out) (Xav (Xco (Xag (Xan _) _) _)) | exact HT.out _ _ _ _ (HD.out _ HS.out) (Xco (Xav (Xag (Xan _) _)) _) | exact HT.out _ _ _ _ (HD.out _ (Xco HS.out _)) (Xav (Xag (Xan _) _)) | (trace_state; fail "w45")) : p := h
theorem z144 (h : p := by
 refine z33 ?_; intro _ hb1 _
 have HB1 := Zh hb1
 clear hb1
 go_wp2
 go_ret
 exact z21) : p := h
theorem z145 (h : p := by
 refine ⟨?_, ?_, ?_, ?_, ?_⟩
 · exact hc (k * 5) _ ((this 0 (by omega)).trans rfl)
 · rw [Nat.add_assoc]; exact hc (k * 5 + 1) _ ((this 1 (by omega)).trans rfl)
 · rw [Nat.add_assoc]; exact hc (k * 5 + 2) _ ((this 2 (by omega)).trans rfl)
 · rw [Nat.add_assoc]; exact hc (k * 5 + 3) _ ((this 3 (by omega)).trans rfl)
 · rw [Nat.add_assoc]; exact hc (k * 5 + 4) _ ((this 4 (by omega)).trans rfl)) : p := h
theorem z147 (k : q) (h : W_ q → p := by
 intro z_
 have hcy := hc _ _ (Xhq (i := p * 8 + page % 8) (Xb4 h0).1 (by omega))
 revert hcy
 exact z_.1) : p := h ⟨k⟩
theorem z148 (k : q) (h : W_ q → p := by
 intro z_
 have HB := Zh (Xa3 w)
 revert HB
 exact z_.1) : p := h ⟨k⟩
theorem z149 (k : q) (h : W_ q → p := by
 intro z_
 have e1 : IntKind.i64.wrap (512 - ct) = 512 - ct := IntWalk.i64_in _ (by omega)
 revert e1
 exact z_.1) : p := h ⟨k⟩
theorem z150 (k : q) (h : W_ q → p := by
 intro z_
 rw [← Xog HGO.out HCN.out HP.out y21]
 have e : Xdh s.xs rb (dFlt ⟨dv, at_, ct, false, data⟩ i s).w = (ys, b') := by
   rw [show (dFlt ⟨dv, at_, ct, false, data⟩ i s).w = fltW rf dv ((at_ + i) / 8) false by show fltW (Xcm ⟨dv, at_, ct, false, data⟩ i s).2.2 dv ((at_ + i) / 8) false = _; rw [HTR.out]]
   exact hys
 unfold Xu5
 rw [HTR.out]
 simp only []
 revert e
 exact z_.1) : p := h ⟨k⟩
theorem z151 (k : q) (h : W_ q → p := by
 intro z_
 rw [← Xog HGO.out HCN.out HP.out y21]
 have e : Xdh s.xs rb (dFlt ⟨dv, at_, ct, true, data⟩ i s).w = (ys, b') := by
   rw [show (dFlt ⟨dv, at_, ct, true, data⟩ i s).w = fltW rf dv ((at_ + i) / 8) true by show fltW (Xcm ⟨dv, at_, ct, true, data⟩ i s).2.2 dv ((at_ + i) / 8) true = _; rw [HTR.out]]
   exact hys
 unfold Xu5
 rw [HTR.out]
 simp only []
 revert e
 exact z_.1) : p := h ⟨k⟩
theorem z153 (k : q) (h : W_ q → p := by
 intro z_ n h hin
 have HX := Zh h
 have hc0 : (cm xs != 0) = false := by rw [bne_eq_false_iff_eq]; exact h0
 have H0 := Zh h0
 have HIN := Zh hin
 have HQ := Zh hq
 have hn : n = 512 := by rw [← HX.out.len]; exact (Xb4 h0).1
 subst hn
 unfold inP at hin
 obtain ⟨⟨h1, h2⟩, h3, h4⟩ := hin
 revert hc0 H0 HIN HQ h HX h1 h2 h3 h4
 exact z_.1) : p := h ⟨k⟩
theorem z154 (h : p := by
 have HB := Zh hb
 have HL := Zh hl
 have hg := Xcw hb
 have h0 := hb.1
 rw [hm] at h0
 have S0 := Zh (Xag (Xan w))
 clear hb hl hm
 go_enter Tryz.func79, Tryz.ntmps79
 go_wp2
 go_ret2
 exact ⟨A, n, c, rfl, Xau HB.out (S0.out _), (HL.out.alloc (Nat.le_refl _) _).more (by simp), Xd4 hg (S0.out _), Xby _ _⟩) : p := h
theorem z155 (k : q) (h : W_ q → p := by
 intro z_
 refine z47 ?_; intro HG H1 H2 H3 HP _ _
 have GG := Zh gG
 have F1 := Zh f1
 have F2 := Zh f2
 have F3 := Zh f3
 have FP := Zh fp
 rename_i i_1 i_2
 revert HG H1 H2 H3 HP i_1 i_2 GG F1 F2 F3 FP
 exact z_.1) : p := h ⟨k⟩
theorem z157 (h : p := by
 refine z54 ?_; intro _ hb2 _
 have HB2 := Zh hb2
 clear hb2
 go_wp2
 go_ret
 exact z27) : p := h
theorem z159 (k : q) (h : W_ q → p := by
 intro z_
 have hcap := hl.cap
 refine z137 ?_; intro _
 have t1 : (Xbz x != 0) = false := by rw [bne_eq_false_iff_eq]; exact h1
 have t2 : decide (0 ≤ Xbw ls x.dev x.page) = false := decide_eq_false (by omega)
 rename_i i_1
 revert hcap i_1 t1 t2
 exact z_.1) : p := h ⟨k⟩
theorem z160 (k : q) (h : W_ q → p := by
 intro z_
 refine z189 ?_; intro HX HL
 have HE := Zh (Xos h0 hb)
 have HS := Zh hs
 have HP := Zh (show popE xs ⟨b.orders.page, b.orders.head, b.orders.tail⟩ = 0 from hp)
 have HV := Zh (show popV xs ⟨b.orders.page, b.orders.head, b.orders.tail⟩ = v from hv)
 have HN := Zh (show n ≤ 1000 by have := ((Xcx _).1 ((Xbo b).1 hb).2.1).1; have := hl.1; omega)
 revert HX HL HE HS HP HV HN
 exact z_.1) : p := h ⟨k⟩
theorem z161 (h : p := by
 rintro e w3 ⟨rfl, hb3⟩
 refine z110 ?_; intro _
 have HB3 := Zh hb3
 clear hb3
 go_wp2
 go_ret
 exact z34) : p := h
theorem z164 (k : q) (h : W_ q → p := by
 intro z_
 refine (Xia _ _ _ xs p h t _ ((HX.out.alloc (Nat.le_refl _) _ |>.alloc (by simp) _ |>.alloc y3 _ |>.alloc y3 _).more y3)).mono ?_
 exact z_.1) : p := h ⟨k⟩
theorem z165 (k : q) (h : W_ q → p := by
 intro z_
 have HM1 : Hid ((w.alloc (.cells #[.int .i64 8, .int .i64 a, .int .i64 d, .int .i64 i] 89)).cell? ⟨w.heap.size, 3, none⟩ = some (.int .i64 i)) := Zh y23
 have HG1 : Hid (Xa8 (w.alloc (.cells #[.int .i64 8, .int .i64 a, .int .i64 d, .int .i64 i] 89)) gb b L n c) := Zh (Xau crd.b0 (Xag (Xan _) _))
 revert HM1 HG1
 exact z_.1) : p := h ⟨k⟩
theorem z166 (k : q) (h : W_ q → p := by
 intro z_
 have all : ∀ {W : World} {g : Nat} {t : TypeId} {cs : Array Value}, Whl W g t cs → W.rangeAt g 0 cs.toList := fun h j v hv => by
   rw [Xaj h, Nat.zero_add]; simpa using hv
 have thr : ∀ {W : World} {g : Nat} {t : TypeId} {cs : Array Value} {k : Nat}, Whl W g t cs → cs.size = k → W.there g 0 k := fun h e => Xcy h (by omega)
 revert all thr
 exact z_.1) : p := h ⟨k⟩
theorem z168 (k : q) (h : W_ q → p := by
 intro z_
 have wd : ∀ (o : Oper) (a : Act), o.guard = none → Region.wanted o (yielded ops a.tmps) = true := fun o a hg => by simp [Region.wanted, hg]
 have l1 : (P.info? T1).map (·.size) = some C1.toList.length := by rw [s1, Array.length_toList]
 have l2 : (P.info? T2).map (·.size) = some C2.toList.length := by rw [s2, Array.length_toList]
 revert wd l1 l2
 exact z_.1) : p := h ⟨k⟩
theorem z169 (h : p := by
 · intro q o hq
   by_cases e : q = gt
   · rw [e]; exact hf o
   · have hq' : q < w.heap.size + 6 := by rcases hq with hq | hq; exact hq.2; exact absurd hq e
     exact (Xbv (p := ⟨q, o, none⟩) y9 hC (hx q hq')).trans (h.fz q o hq)) : p := h
theorem z171 (k : q) (h : W_ q → p := by
 intro z_
 rintro e w2 ⟨rfl, hb2⟩
 refine z7 ?_; intro _ k2_0 _ q2_0 k2_1 _ q2_1
 revert hb2 k2_0 q2_0 k2_1 q2_1; refine_lift z24 ?_; (iterate 16 intro); intro HB2
 rename_i i_1 i_2 i_3 i_4 i_5 i_6 i_7 i_8 i_9 i_10 i_11 i_12 i_13 i_14 i_15 i_16 i_17 i_18 i_19
 revert w2 i_1 i_2 i_3 i_4 i_5 i_6 i_7 i_8 i_9 i_10 i_11 i_12 i_13 i_14 i_15 i_16 i_17 i_18 i_19 HB2
 exact z_.1) : p := h ⟨k⟩
theorem z172 (k : q) (h : W_ q → p := by
 intro z_
 have C9 := Zh (show Chg (fun q => q = w.heap.size + 1 + 1 ∨ q = w.heap.size + 1 + 1 + 1) w3 w9 by
   rw [← hw9]
   exact Xas (Xas (Xbd (Xar w3)) (Xa5 (Xcr _ _ 0 _) (fun q _ e => Or.inl e))) (Xa5 (Xcr _ _ 0 _) (fun q _ e => Or.inr e)))
 revert C9
 exact z_.1) : p := h ⟨k⟩
theorem z173 (k : q) (h : W_ q → p := by
 intro z_
 have hk : k < ls.length := (List.getElem?_eq_some_iff.1 hx).1
 have e : ls[k] = x := (List.getElem?_eq_some_iff.1 hx).2
 rw [List.drop_eq_getElem_cons hk, e]
 revert hk e
 exact z_.1) : p := h ⟨k⟩
theorem z174 (k : q) (h : W_ q → p := by
 intro z_
 refine z2 ?_; intro w1 hb1 hz1 k1_0 l1_0 q1_0
 revert hb1 k1_0 q1_0; refine_lift z93 ?_; intro k1_0 q1_0 HB1
 revert w1 hz1 l1_0 k1_0 q1_0 HB1
 exact z_.1) : p := h ⟨k⟩
theorem z176 (k : q) (h : W_ q → p := by
 intro z_
 refine (Xia _ _ _ xs p h t _ ((HX.out.alloc (Nat.le_refl _) _ |>.alloc (by simp) _ |>.alloc y3 _).more y3)).mono ?_
 exact z_.1) : p := h ⟨k⟩
theorem z177 (h : p := by
 go_wp2
 refine bodyPost_ret (v := .tuple #[.agg #[.int .i64 0, .int .i64 0, .int .i64 0], .int .i64 3]) ?_ rfl ⟨Xny (Xvm HR.out HE.out) (by decide), ?_⟩
 · simp (maxDischargeDepth := 8) [results, Tryz.results47, go_sem, *]
 exact z5) : p := h
theorem z178 (h : p := by
 · go_enter Tryz.func100, Tryz.ntmps100
   go_wp2_with (go_at_call 38; refine (Xa6 _ _ _ _).mono ?_; rintro e w' ⟨rfl, rfl⟩)
   refine (Xcs _ HR.out _).mono ?_
   refine z2 ?_; intro w1 hb1 hz1 k1_0 l1_0 q1_0
   exact z52) : p := h
theorem z185 (h : p := by
 go_enter Tryz.func72, Tryz.ntmps72
 go_wp2
 go_ret2
 exact ⟨Xb5 E'.out (Xn4 HR.out HF.out).symm, HB.out _⟩) : p := h
theorem z186 (h : p := by
 · simp (maxDischargeDepth := 8) [results, Tryz.results13, go_sem, Brg.no, Ring.no, *]) : p := h
theorem z188 (h : p := by
 go_enter Tryz.func88, Tryz.ntmps88
 go_wp2_with (go_at_call 38; refine (Xa6 _ _ _ _).mono ?_; rintro e w' ⟨rfl, rfl⟩)
 go_ret2
 exact ⟨Xb5 (by rw [E.out]; simp; try omega) (Xhl HR.out).symm, HB.out _⟩) : p := h
theorem z190 (h : p := by
 rcases Nat.lt_or_ge g w.heap.size with hlt | hge
 · exact hlt
 · rw [Array.getElem?_eq_none hge] at hh; cases hh) : p := h
theorem z191 (k : q) (h : W_ q → p := by
 intro z_
 refine z2 ?_; intro w1 hb1 hz1 k1_0 _ q1_0
 revert hb1 k1_0 q1_0; refine_lift z93 ?_; intro _ _ HB1
 rename_i i_1 i_2 i_3
 revert w1 hz1 i_1 i_2 i_3 HB1
 exact z_.1) : p := h ⟨k⟩
theorem z192 (k : q) (h : W_ q → p := by
 intro z_
 have i1 := Xb8 h1
 have i2 := Xb8 (show 0 ≤ dv ∧ dv ≤ 7 by omega)
 have i3 := Xb8 (show 0 ≤ at_ ∧ at_ ≤ 512 - ct from h2.2)
 revert i1 i2 i3
 exact z_.1) : p := h ⟨k⟩
theorem z194 (k : q) (h : W_ q → p := by
 intro z_
 refine (Xe1 x M R L 512 mc 8 rc n c _ (Xaf HM.out HW0.out) (Xaf HR.out HW0.out) (Xah HL.out HW0.out)).mono ?_
 rw [H0.out]
 rintro e w1 ⟨rfl, hb1⟩
 have HB1 := Zh hb1
 have hz1 := hb1.size
 have HW1 := Zh (HW0.out.trans (hb1.mono (by omega)))
 revert w1 hb1 HB1 hz1 HW1
 exact z_.1) : p := h ⟨k⟩
theorem z196 (h : p := by
 rw [List.findIdx?_eq_some_iff_getElem]
 refine ⟨hlt, by rw [hx']; exact hx, fun j hj => ?_⟩
 have := h (ls[j]'(by omega)) (by rw [List.mem_take_iff_getElem]; exact ⟨j, by omega, rfl⟩)
 simp [this]) : p := h
theorem z197 (h : p := by
 rcases Xc3 h with ⟨hv, _⟩ | ⟨g', cap', hv, h1, h2, _⟩
 · injection hv with e1; cases e1
 · injection hv with e1 e2 e3
   subst e3
   exact ⟨by simp [hl], h1, h2, by rw [e]; exact h⟩) : p := h
theorem z198 (k : q) (h : W_ q → p := by
 intro z_
 have HM := Zh hm
 have HB := Zh hb
 have HX := Zh hx
 have HF := Zh hf
 have HE := Zh c3
 have hlm := Xb9 hm
 have hlb := Xcw hb
 revert HM HB HX HF HE hlm hlb
 exact z_.1) : p := h ⟨k⟩
theorem z199 (k : q) (h : W_ q → p := by
 intro z_
 refine bodyPost_ret (v := .tuple #[.agg #[.bool false, .bool false, .bool false, .bool false, .int .i64 0], .int .i64 3, .int .i64 0]) ?_ rfl ⟨rfl, ?_⟩
 · simp (maxDischargeDepth := 8) [results, Tryz.results86, go_sem, *]
 exact z_.1) : p := h ⟨k⟩
theorem z200 (h : p := by
 · exact TldV.av (t := .no) (TldV.chg (t := .no) HT.out C9.out (fun q e hq => by omega)) (fun q hq => by omega)) : p := h
theorem z201 (h : p := by
 have hk : k = 0 ∨ k = 1 ∨ k = 2 ∨ k = 3 ∨ k = 4 ∨ k = 5 ∨ k = 6 ∨ k = 7 ∨ k = 8 ∨ k = 9 := by omega
 rcases hk with rfl | rfl | rfl | rfl | rfl | rfl | rfl | rfl | rfl | rfl <;> rfl) : p := h
theorem z202 (h : p := by
 go_enter Tryz.func104, Tryz.ntmps104
 go_wp2
 go_ret
 exact ⟨rfl, rfl⟩) : p := h
theorem z203 (k : q) (h : W_ q → p := by
 intro z_
 generalize hw2 : w1.alloc (.cells #[.int .i64 6, .int .i64 ka, .int .i64 kd, .int .i64 ki] 89) = w2
 have H6 := Zh (show Whl w2 w1.heap.size 89 #[.int .i64 6, .int .i64 ka, .int .i64 kd, .int .i64 ki] by rw [← hw2]; exact Xap _ _ _ rfl)
 revert w2 hw2 H6
 exact z_.1) : p := h ⟨k⟩
theorem z204 (k : q) (h : W_ q → p := by
 intro z_
 generalize hw2 : w1.alloc (.cells #[.int .i64 4, .int .i64 ka, .int .i64 kd, .int .i64 ki] 89) = w2
 have H6 := Zh (show Whl w2 w1.heap.size 89 #[.int .i64 4, .int .i64 ka, .int .i64 kd, .int .i64 ki] by rw [← hw2]; exact Xap _ _ _ rfl)
 revert w2 hw2 H6
 exact z_.1) : p := h ⟨k⟩
theorem z205 (k : q) (h : W_ q → p := by
 intro z_
 generalize hw2 : w1.alloc (.cells #[.int .i64 5, .int .i64 ka, .int .i64 kd, .int .i64 ki] 89) = w2
 have H6 := Zh (show Whl w2 w1.heap.size 89 #[.int .i64 5, .int .i64 ka, .int .i64 kd, .int .i64 ki] by rw [← hw2]; exact Xap _ _ _ rfl)
 revert w2 hw2 H6
 exact z_.1) : p := h ⟨k⟩
theorem z206 (k : q) (h : W_ q → p := by
 intro z_
 generalize hw2 : w1.alloc (.cells #[.int .i64 7, .int .i64 ka, .int .i64 kd, .int .i64 ki] 89) = w2
 have H6 := Zh (show Whl w2 w1.heap.size 89 #[.int .i64 7, .int .i64 ka, .int .i64 kd, .int .i64 ki] by rw [← hw2]; exact Xap _ _ _ rfl)
 revert w2 hw2 H6
 exact z_.1) : p := h ⟨k⟩
theorem z207 (k : q) (h : W_ q → p := by
 intro z_
 generalize hw2 : w1.alloc (.cells #[.int .i64 8, .int .i64 ka, .int .i64 kd, .int .i64 ki] 89) = w2
 have H6 := Zh (show Whl w2 w1.heap.size 89 #[.int .i64 8, .int .i64 ka, .int .i64 kd, .int .i64 ki] by rw [← hw2]; exact Xap _ _ _ rfl)
 revert w2 hw2 H6
 exact z_.1) : p := h ⟨k⟩
theorem z209 (k : q) (h : W_ q → p := by
 intro z_
 have hn6 : n ≤ 1000 := by
   have := ((Xcx ls).1 h0).1
   have := hl.len
   omega
 revert hn6
 exact z_.1) : p := h ⟨k⟩
theorem z210 (k : q) (h : W_ q → p := by
 intro z_
 have e : reqE ⟨dv, at_, ct, wr, data⟩ = askW data := by
   unfold reqE askW; rw [if_pos h1, if_pos (show reqR ⟨dv, at_, ct, wr, data⟩ from h2), if_pos (by unfold reqN; simp only []; rw [hln]; exact h3)]
 rw [e]
 revert e
 exact z_.1) : p := h ⟨k⟩
theorem z211 (h : p := by
 refine z132 ?_; intro i0 HI HZ0 HZ1 HZ2 HL HL1 HLEN _ _
 have HE := Zh (show IntKind.i64.wrap 1 = 1 ∧ IntKind.i64.wrap (1 - 6) = -5 ∧ IntKind.i64.wrap (-5) = -5 by decide)
 exact z9) : p := h
theorem z212 (k : q) (h : W_ q → p := by
 intro z_
 have q1 : IntKind.i64.wrap (rd rs kd + ki) = rd rs kd + ki := IntWalk.i64_in _ (by omega)
 revert q1
 exact z_.1) : p := h ⟨k⟩
theorem z213 (h : p := by
 simp only [Bool.and_eq_true, Bool.and_eq_false_iff, decide_eq_true_eq, decide_eq_false_iff_not]
 omega) : p := h
theorem z214 (k : q) (h : W_ q → p := by
 intro z_
 have ht := Xdt hA.tl hC1 hn
 have hz := hA.gt2
 have hf : ∀ o, w1.frozen? ⟨gt, o, none⟩ = false := fun o => (Xbv (p := ⟨gt, o, none⟩) y9 hC1 hn).trans (hA.fz gt o (Or.inr rfl))
 have hz1 := hC1.size
 revert ht hz hf hz1
 exact z_.1) : p := h ⟨k⟩
theorem z215 (k : q) (h : W_ q → p := by
 intro z_
 have hb0 : (Xc8 xs ⟨p, h, t⟩ != 0) = false := by rw [bne_eq_false_iff_eq]; exact hb
 revert hb0
 exact z_.1) : p := h ⟨k⟩
theorem z216 (k : q) (h : W_ q → p := by
 intro z_ hr
 unfold Xcj at hr
 simp only [] at hr
 obtain ⟨⟨h1, h2⟩, ⟨h3, h4⟩, h5, h6⟩ := hr
 revert h1 h2 h3 h4 h5 h6
 exact z_.1) : p := h ⟨k⟩
theorem z217 (k : q) (h : W_ q → p := by
 intro z_
 go_enter Tryz.func14, Tryz.ntmps14
 go_wp2_with fail
 refine z20 ?_
 rw [HE.out]
 rename_i i_1 i_2 i_3 i_4 i_5 i_6
 revert i_1 i_2 i_3 i_4 i_5 i_6
 exact z_.1) : p := h ⟨k⟩
theorem z218 (k : q) (h : W_ q → p := by
 intro z_
 refine (Xlo x M R L mc rc n c _ (Xaf HM.out HW1.out) (Xaf HR.out HW1.out) (Xah HL.out HW1.out) HN.out).mono ?_
 rintro e w2 ⟨M2, mc2, R2, rc2, L2, c2, rfl, ho2, hor2, hol2, hb2⟩
 have HB2 := Zh hb2
 have hz2 := hb2.size
 have HW2 := Zh (HW1.out.trans (hb2.mono (by omega)))
 have HOM := Zh ho2
 have HOR := Zh hor2
 have HOL := Zh hol2
 revert w2 M2 mc2 R2 rc2 L2 c2 ho2 hor2 hol2 hb2 HB2 hz2 HW2 HOM HOR HOL
 exact z_.1) : p := h ⟨k⟩
theorem z219 (k : q) (h : W_ q → p := by
 intro z_
 go_enter Tryz.func64, Tryz.ntmps64
 go_wp2_with fail
 refine (Xj3 _ _ _ _ _).mono ?_
 rename_i i_1 i_2 i_3 i_4
 revert i_1 i_2 i_3 i_4
 exact z_.1) : p := h ⟨k⟩
theorem z220 (k : q) (h : W_ q → p := by
 intro z_
 have R4 : Hid (w3.there (w.heap.size + 1 + 1) 0 16) := Zh (Xcy V4.out (of_decide_eq_true rfl))
 have R5 : Hid (w3.there (w.heap.size + 1 + 1 + 1) 0 4) := Zh (Xcy V5.out (of_decide_eq_true rfl))
 revert R4 R5
 exact z_.1) : p := h ⟨k⟩
theorem z222 (k : q) (h : W_ q → p := by
 intro z_
 refine (Xjf _ _ xs root page v r u l p 0 _ ((((HX.out.alloc (Nat.le_refl _) _).alloc (by simp) _).below (HB1.out.mono y3)).more (by omega)) H0.out HIN.out HQ.out).mono ?_
 exact z_.1) : p := h ⟨k⟩
theorem z223 (k : q) (h : W_ q → p := by
 intro z_
 have h1 := h.gM1
 have h2 := h.gt1
 have h3 := h.gt2
 have h4 := Below.size h.below
 have hz := hC.size
 have hD := h.bD
 have hT := h.bT
 revert h1 h2 h3 h4 hz hD hT
 exact z_.1) : p := h ⟨k⟩
end
end Go.Proofs.YtbopdijnojaaiadGreat
