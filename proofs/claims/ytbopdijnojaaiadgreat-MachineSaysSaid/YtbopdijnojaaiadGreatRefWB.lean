/- The hart: the walk of the document's Stepped, part B. No statement of the seat is proved here. -/
import Derived.Test.YtbopdijnojaaiadGreatZz
import Derived.Test.YtbopdijnojaaiadGreatRefW
namespace Go.Proofs.YtbopdijnojaaiadGreat
set_option maxRecDepth 100000
set_option maxHeartbeats 8000000
open Go.RowKit
set_option linter.unusedSimpArgs false
set_option linter.unusedVariables false
section
variable (xs : List Int) (at_ : Int) (rs : List Int) (b : Brg) (M R L : Option Addr) (mc rc n c : Nat) (w : World) (hm : Ints w w.heap.size M 512 xs) (hr : Ints w w.heap.size R 8 rs) (hl : Lines w w.heap.size L n c b.cache) (c1 : cm xs = 0) (c2 : ckH ⟨at_, rs, false⟩ = 0)
include hm hr hl c1 c2 in
theorem stp_4y (ka kd ki : Nat) (hV : rdV (rd xs at_) = .tuple #[.agg #[.int .i64 4, .int .i64 ka, .int .i64 kd, .int .i64 ki], .int .i64 0]) (ha : ka < 8) (hd : kd < 8) (hi : ki ≤ 63) (hq : rd rs kd + ki < 512) :
    Calls Tryz.prog 34 #[.agg #[.slice M 512 mc], .agg #[.int .i64 at_, .slice R 8 rc, .bool false], .agg (B_.b b L n c)] w (StpW w M R L n c (xs, ⟨(at_ + 1) % 512, rs.set ka (rd xs (rd rs kd + ki)), false⟩, b)) := by
 revert M R hm hr hl c1 c2; refine_lift z1 ?_; intro HC2 HXL HL _ _ HRL gM oM HM lM gR oR _ lR _ HMC HRC _ _ w0 H0 H1 H2 H3 H4 H5 HB _ _ k0 k1 kx
 go_wp2_with fail
 revert H0 H1 H2 H3 H4 H5 HB k0 k1 kx; refine_lift z48 ?_; intro w1 _ H0 H1 H2 H3 H4 H5 HB
 go_upto_region 3 with (fail)
 refine z204 ?_; intro w2 hw2 H6
 revert H0 H1 H2 H3 H4 H5 HB hw2; refine_lift z31 ?_; intro _ _ H0 H1 H2 H3 H4 H5 HB
 go_upto_region 5 with (fail)
 revert H6 H0 H1 H2 H3 H4 H5 HB; refine_lift z0 ?_; intro _ wc; (iterate 223 intro); intro g12 g2 d2 _ _ _ H7 HO HG2 _ H0 H1 H2 H3 H4 H5 HB H6 u0 v0 _ _ k1 k6
 go_upto_region 6 with (fail)
 revert H7 HO HG2 H0 H1 H2 H3 H4 H5 HB H6 u0 v0 k1 k6; refine_lift z19 ?_; intro _ w6 _ _ HO H0 H1 H2 H3 H4 H5 HB H6 H7 _ _
 refine z212 ?_; intro q1
 have q3 : rd rs kd + ki ≤ 511 := by omega
 have q4 : 0 ≤ rd rs kd + ki := by omega
 have y0 := (HB.out.cell (p := ⟨gM, oM + (rd rs kd + ki).toNat, none⟩) lM).trans (HMC.out _ _ (Xjk (k := rd rs kd + ki) HXL.out (by omega) hq))
 have n0 := fun o => Xaj H0.out o
 refine z133 ?_; intro n7 n6
 have o0 := (Xbl HO.out (by decide))
 obtain ⟨_, eo, eo1, eo2, hoc, hof, hos⟩ := o0
 injection eo with eo; injection eo with eo; subst eo
 have o0 := hoc _ _ (Xjk (k := (ka : Int)) HRL.out (by omega) (by omega))
 simp only [Int.toNat_natCast] at o0
 clear hoc hos eo1 eo2
 go_upto_region 23 with (fail)
 go_region
 generalize hwc : (w6.setCell ⟨g2, ka, none⟩ (.int .i64 (rd xs (rd rs kd + ki)))).drew = w7
 have ht7 : Trn g2 w6 w7 := by rw [← hwc]; have h := Xh3 (w := w6) (g := g2) (by have := (Xaw HO.out.2 _ rfl).2; simpa using this) ka (.int .i64 (rd xs (rd rs kd + ki))); exact ⟨Xbd h.1, h.2⟩
 have ho7 : OwnI w2.heap.size w7 (some ⟨g2, 0, none⟩) 8 d2 (rs.set ka (rd xs (rd rs kd + ki))) := by rw [← hwc]; exact (Xij HO.out ha (rd xs (rd rs kd + ki))).drewN 1
 clear hwc o0 hof
 clear n0 y0
 revert HO H0 H1 H2 H3 H4 H5 HB H6 H7; refine_lift z74 ?_; intro HO H0 _ H2 H3 H4 H5 HB _ H7 hz7 _ _
 clear ho7 ht7 hz7 n6 n7
 go_upto_region 63 with (fail)
 exact z13
include hm hr hl c1 c2 in
theorem stp_4n (ka kd ki : Nat) (hV : rdV (rd xs at_) = .tuple #[.agg #[.int .i64 4, .int .i64 ka, .int .i64 kd, .int .i64 ki], .int .i64 0]) (ha : ka < 8) (hd : kd < 8) (hi : ki ≤ 63) (hq : ¬ rd rs kd + ki < 512) :
    Calls Tryz.prog 34 #[.agg #[.slice M 512 mc], .agg #[.int .i64 at_, .slice R 8 rc, .bool false], .agg (B_.b b L n c)] w (StpW w M R L n c (xs, ⟨at_, rs, true⟩, b)) := by
 revert M R hm hr hl c1 c2; refine_lift z1 ?_; intro HC2 _ HL _ _ HRL gM oM HM _ gR oR HR lR _ _ HRC _ _ w0 H0 H1 H2 H3 H4 H5 HB _ _ k0 k1 kx
 go_wp2_with fail
 revert H0 H1 H2 H3 H4 H5 HB k0 k1 kx; refine_lift z48 ?_; intro w1 _ H0 H1 H2 H3 H4 H5 HB
 go_upto_region 3 with (fail)
 refine z204 ?_; intro w2 hw2 H6
 revert H0 H1 H2 H3 H4 H5 HB hw2; refine_lift z31 ?_; intro _ _ H0 H1 H2 H3 H4 H5 HB
 go_upto_region 5 with (fail)
 revert H6 H0 H1 H2 H3 H4 H5 HB; refine_lift z0 ?_; intro _ wc; (iterate 224 intro); intro g2 d2 _ _ _ H7 HO HG2 _ H0 H1 H2 H3 H4 H5 HB H6 u0 v0 _ _ k1 k6
 go_upto_region 6 with (fail)
 revert H7 HO HG2 H0 H1 H2 H3 H4 H5 HB H6 u0 v0 k1 k6; refine_lift z19 ?_; intro _ _ _ _ _ H0 H1 H2 H3 H4 H5 HB H6 H7 _ _
 refine z212 ?_; intro _
 have q3 : 511 < rd rs kd + ki := by omega
 clear hq
 refine z133 ?_; intro _ _
 go_wp2_with fail
 refine z55 ?_; intro _ y3 y4 y5 HB8
 go_wp2_with (first
   | (refine Xad rfl 24 (.tmp 6) (.tmp 112) rfl (w.heap.size + 1 + 1 + 1) _ _ #[.slice (some ⟨gM, oM, none⟩) 512 mc] rfl rfl y3 Tryz.sizeMem rfl rfl ?_; intro w9 h9 t9; have y4 := Xak y4 t9 (by omega); have y5 := Xak y5 t9 (by omega))
   | (refine Xad rfl 26 (.tmp 7) (.tmp 113) rfl (w.heap.size + 1 + 1 + 1 + 1) _ _ #[.int .i64 at_, .slice (some ⟨gR, oR, none⟩) 8 rc, .bool true] rfl rfl y4 Tryz.sizeHart rfl rfl ?_; intro w10 h10 t10; have y5 := Xak y5 t10 (by omega); have h9 := Xak h9 t10 (by omega))
   | (refine Xad rfl 31 (.tmp 8) (.tmp 114) rfl (w.heap.size + 1 + 1 + 1 + 1 + 1) _ _ (B_.b b L n c) rfl rfl y5 Tryz.sizeBrg rfl rfl ?_; intro w11 h11 t11; have h9 := Xak h9 t11 (by omega); have h10 := Xak h10 t11 (by omega)))
 exact z26
include hm hr hl c1 c2 in
theorem stp_5n (ka kd ki : Nat) (hV : rdV (rd xs at_) = .tuple #[.agg #[.int .i64 5, .int .i64 ka, .int .i64 kd, .int .i64 ki], .int .i64 0]) (ha : ka < 8) (hd : kd < 8) (hi : ki ≤ 63) (hq : ¬ rd rs kd + ki < 512) :
    Calls Tryz.prog 34 #[.agg #[.slice M 512 mc], .agg #[.int .i64 at_, .slice R 8 rc, .bool false], .agg (B_.b b L n c)] w (StpW w M R L n c (xs, ⟨at_, rs, true⟩, b)) := by
 revert M R hm hr hl c1 c2; refine_lift z1 ?_; intro HC2 _ HL _ _ HRL gM oM HM _ gR oR HR lR _ _ HRC _ _ w0 H0 H1 H2 H3 H4 H5 HB _ _ k0 k1 kx
 go_wp2_with fail
 revert H0 H1 H2 H3 H4 H5 HB k0 k1 kx; refine_lift z48 ?_; intro w1 _ H0 H1 H2 H3 H4 H5 HB
 go_upto_region 3 with (fail)
 refine z205 ?_; intro w2 hw2 H6
 revert H0 H1 H2 H3 H4 H5 HB hw2; refine_lift z31 ?_; intro _ _ H0 H1 H2 H3 H4 H5 HB
 go_upto_region 5 with (fail)
 revert H6 H0 H1 H2 H3 H4 H5 HB; refine_lift z0 ?_; intro _ wc; (iterate 224 intro); intro g2 d2 _ _ _ H7 HO HG2 _ H0 H1 H2 H3 H4 H5 HB H6 u0 v0 _ _ k1 k6
 go_upto_region 6 with (fail)
 revert H7 HO HG2 H0 H1 H2 H3 H4 H5 HB H6 u0 v0 k1 k6; refine_lift z19 ?_; intro _ _ _ _ _ H0 H1 H2 H3 H4 H5 HB H6 H7 _ _
 refine z212 ?_; intro _
 have q3 : 511 < rd rs kd + ki := by omega
 clear hq
 refine z133 ?_; intro _ _
 go_wp2_with fail
 refine z55 ?_; intro _ y3 y4 y5 HB8
 go_wp2_with (first
   | (refine Xad rfl 24 (.tmp 6) (.tmp 137) rfl (w.heap.size + 1 + 1 + 1) _ _ #[.slice (some ⟨gM, oM, none⟩) 512 mc] rfl rfl y3 Tryz.sizeMem rfl rfl ?_; intro w9 h9 t9; have y4 := Xak y4 t9 (by omega); have y5 := Xak y5 t9 (by omega))
   | (refine Xad rfl 26 (.tmp 7) (.tmp 138) rfl (w.heap.size + 1 + 1 + 1 + 1) _ _ #[.int .i64 at_, .slice (some ⟨gR, oR, none⟩) 8 rc, .bool true] rfl rfl y4 Tryz.sizeHart rfl rfl ?_; intro w10 h10 t10; have y5 := Xak y5 t10 (by omega); have h9 := Xak h9 t10 (by omega))
   | (refine Xad rfl 31 (.tmp 8) (.tmp 139) rfl (w.heap.size + 1 + 1 + 1 + 1 + 1) _ _ (B_.b b L n c) rfl rfl y5 Tryz.sizeBrg rfl rfl ?_; intro w11 h11 t11; have h9 := Xak h9 t11 (by omega); have h10 := Xak h10 t11 (by omega)))
 exact z26
include hm hr hl c1 c2 in
theorem stp_5y (ka kd ki : Nat) (hV : rdV (rd xs at_) = .tuple #[.agg #[.int .i64 5, .int .i64 ka, .int .i64 kd, .int .i64 ki], .int .i64 0]) (ha : ka < 8) (hd : kd < 8) (hi : ki ≤ 63) (hq : rd rs kd + ki < 512) :
    Calls Tryz.prog 34 #[.agg #[.slice M 512 mc], .agg #[.int .i64 at_, .slice R 8 rc, .bool false], .agg (B_.b b L n c)] w (StpW w M R L n c (xs.set (rd rs kd + ki).toNat (rd rs ka), ⟨(at_ + 1) % 512, rs, false⟩, b)) := by
 revert M R hm hr hl c1 c2; refine_lift z99 ?_; intro HC2 _ HL _ _ HRL gM oM HM _ gR oR _ lR _ _ HRC _ _ _ w1 _ H0 H1 H2 H3 H4 H5 HB; iterate 4 intro
 refine z205 ?_; intro w2 hw2 H6
 revert H0 H1 H2 H3 H4 H5 HB hw2; refine_lift z31 ?_; intro _ _ H0 H1 H2 H3 H4 H5 HB
 go_upto_region 5 with (fail)
 revert H6 H0 H1 H2 H3 H4 H5 HB; refine_lift z0 ?_; intro _ wc; (iterate 223 intro); intro g12 g2 d2 _ _ _ H7 HO HG2 _ H0 H1 H2 H3 H4 H5 HB H6 u0 v0 _ _ k1 k6
 go_upto_region 6 with (fail)
 revert HO; refine_lift z108 ?_; intro _ w6 hwq hb _ _ HO
 revert H0 H1 H2 H3 H4 H5 HB; refine_lift z6 ?_; intro H0 _ H2 H3 H4 H5 HB
 revert H7 H6; refine_lift z181 ?_; intro H6 H7 _ _
 clear hb hwq u0 v0 k1 k6 HG2
 refine z212 ?_; intro q1
 have q3 : rd rs kd + ki ≤ 511 := by omega
 have q4 : 0 ≤ rd rs kd + ki := by omega
 refine z133 ?_; intro n7 n6
 go_upto_region 27 with (fail)
 clear n7
 have n63 : w6.cell? ⟨w1.heap.size, 3, none⟩ = some (.int .i64 (ki : Int)) := Xaj H6.out 3
 clear n6
 have HI6 := Zh (Xaf HM.out HB.out)
 have HP := Zh (HO.out.ints (by decide))
 refine Xo6 y1 _ _ _ _ _ _ _ _ _ _ _ _ rfl rfl rfl rfl rfl rfl rfl rfl rfl rfl rfl rfl rfl y1
   y1 y1 y1 y1 y1 y1 y1 y1 y1 y1 y1 y1 y1 y1 y1 y1 y1 y1 y1 y1 y1
   rfl rfl rfl rfl rfl rfl rfl 24 26 31 (.tmp 3) (.tmp 12) (.tmp 5) (.tmp 6) (.tmp 7) (.tmp 8) (.tmp 146) (.tmp 147) (.tmp 148) rfl rfl rfl rfl rfl rfl
   w.heap.size g12 (w.heap.size + 1 + 1) (w.heap.size + 1 + 1 + 1) (w.heap.size + 1 + 1 + 1 + 1) (w.heap.size + 1 + 1 + 1 + 1 + 1) #[.slice (some ⟨gM, oM, none⟩) 512 mc] #[.int .i64 ((at_ + 1) % 512), .slice (some ⟨g2, 0, none⟩) 8 d2, .bool false] (B_.b b L n c) _ _ _ Tryz.underlying24 Tryz.underlying26 Tryz.underlying31 rfl rfl rfl Tryz.sizeMem Tryz.sizeHart Tryz.sizeBrg rfl rfl rfl
   ⟨w1.heap.size, 3, none⟩ (.int .i64 (ki : Int)) n63 (.int .i64 (rd rs kd)) (.pointer (some ⟨w1.heap.size, 3, none⟩)) (.int .i64 (ki : Int)) (.int .i64 (IntKind.i64.wrap (rd rs kd + ki))) (.int .i64 (rd rs ka)) (Or.inl ⟨rfl, fun W hW => by kernel_rfl⟩) (Or.inl ⟨rfl, fun W hW => by kernel_rfl⟩) (Xgy rfl 3 (.tmp 142) rfl _ y1 _ (fun W hW => Tryz.ldInt hW.2.2.2)) (Or.inl ⟨rfl, fun W hW => by kernel_rfl⟩) (Or.inl ⟨rfl, fun W hW => by kernel_rfl⟩)
   rfl y1 y1 (fun _ _ => by kernel_rfl) (fun _ _ => by kernel_rfl) (fun _ _ => by kernel_rfl) (fun _ _ => by kernel_rfl) (fun _ _ => by kernel_rfl) (fun _ _ => by kernel_rfl)
   _ _ _ _ _ _ H0.out H7.out H2.out _ _ _ H3.out H4.out H5.out rfl rfl rfl (by omega) (by omega) (by omega) (by omega) (by omega) (by omega) (by omega) (by omega) (by omega) (by omega) (by omega) (by omega) y9 y9 y9
   (fun _ _ _ _ h => h) (fun _ _ _ _ h => h) (fun _ _ _ _ h => h) (fun _ _ _ _ h => h) (fun _ _ _ _ h => h) (fun _ _ _ _ h => h) (fun _ _ _ _ h => h) (fun _ _ _ _ h => h) (fun A d W => OwnI w6.heap.size W A 512 d (xs.set (rd rs kd + ki).toNat (rd rs ka)) ∧ Below w6.heap.size w6 W) (fun A d W hC => hC.2) ?_ ?_
 · intro K hK
   simp only [Act.put, List.getElem_toArray, List.getElem_cons_succ, List.getElem_cons_zero, List.setIfInBounds_toArray, List.set_cons_zero, List.set_cons_succ, q1] at hK ⊢
   go_simp
   refine (Xrb _ mc xs (rd rs kd + ki) (rd rs ka) _ (Xaf HI6.out (Below.drew (Below.refl w6.heap.size w6))) ⟨q4, hq⟩).mono ?_
   rintro e W ⟨A, d, rfl, ho, hb⟩
   dsimp only
   exact hK A d W ⟨ho, (Below.drew (Below.refl w6.heap.size w6)).trans hb⟩
 intro A d W w9 hC c9 q1 q2 q3
 obtain ⟨hA, hb⟩ := hC
 have HA := Zh hA
 have BA := Zh (Xaw hA.2)
 have Q1 := Zh q1
 have Q2 := Zh q2
 have Q3 := Zh q3
 have hzb := hb.size
 have hz9 := c9.size
 have HB9 := Zh (Xa2 (HB.out.trans (hb.mono HB.out.size)) (Nat.le_trans HB.out.size hzb) c9 (fun q hq e => by omega))
 have HO9 := Zh (Xbn (show OwnI w2.heap.size W (some ⟨g2, 0, none⟩) 8 d2 rs from ⟨HO.out.1, Xcp HO.out.2 hb⟩) c9 (fun ad e hp => by injection e with e; subst e; simp only [] at hp; omega))
 have HA9 := Zh (Xbn hA c9 (fun ad e hp => by have := (BA.out ad e).1; omega))
 clear q1 q2 q3 c9 hA hb
 go_wp2
 refine bodyPost_ret (v := .tuple #[.agg #[.slice A 512 d], .agg #[.int .i64 ((at_ + 1) % 512), .slice (some ⟨g2, 0, none⟩) 8 d2, .bool false], .agg (B_.b b L n c)]) ?_ rfl ⟨_, _, _, _, rfl, HA9.out.ints (by decide), HO9.out.ints (by decide), Xah HL.out HB9.out, HB9.out, ?_, ?_⟩
 exact z90
 · intro ad e; exact Or.inr (by have := (BA.out ad e).1; omega)
 exact z193
include hm hr hl c1 c2 in
theorem stp_6n (ka kd ki : Nat) (hV : rdV (rd xs at_) = .tuple #[.agg #[.int .i64 6, .int .i64 ka, .int .i64 kd, .int .i64 ki], .int .i64 0]) (ha : ka < 8) (hd : kd < 8) (hi : ki ≤ 63) (hq : ¬ rd rs ka = rd rs kd) :
    Calls Tryz.prog 34 #[.agg #[.slice M 512 mc], .agg #[.int .i64 at_, .slice R 8 rc, .bool false], .agg (B_.b b L n c)] w (StpW w M R L n c (xs, ⟨(at_ + 1) % 512, rs, false⟩, b)) := by
 revert M R hm hr hl c1 c2; refine_lift z99 ?_; intro HC2 _ HL _ _ HRL gM oM HM _ gR oR _ lR _ _ HRC _ _ _ w1 _ H0 H1 H2 H3 H4 H5 HB; iterate 4 intro
 refine z203 ?_; intro w2 hw2 H6
 revert H0 H1 H2 H3 H4 H5 HB hw2; refine_lift z31 ?_; intro _ _ H0 H1 H2 H3 H4 H5 HB
 go_upto_region 5 with (fail)
 revert H6 H0 H1 H2 H3 H4 H5 HB; refine_lift z0 ?_; intro _ wc; (iterate 223 intro); intro g12 g2 d2 _ _ _ H7 HO HG2 _ H0 H1 H2 H3 H4 H5 HB H6 u0 v0 _ _ k1 k6
 go_upto_region 6 with (fail)
 revert HO; refine_lift z108 ?_; intro _ _ hwq hb _ _ HO
 revert H0 H1 H2 H3 H4 H5 HB; refine_lift z6 ?_; intro H0 _ H2 H3 H4 H5 HB
 revert H7 H6; refine_lift z181 ?_; intro H6 H7 _ _
 clear hb hwq u0 v0 k1 k6 HG2
 have q1 : (rd rs ka == rd rs kd) = false := by rw [beq_eq_false_iff_ne]; exact hq
 clear hq
 refine z133 ?_; intro n7 n6
 go_upto_region 63 with (fail)
 clear n6 n7
 exact z13
end
end Go.Proofs.YtbopdijnojaaiadGreat
