/- The hart: the walk of the document's Stepped, part E. No statement of the seat is proved here. -/
import Derived.Test.YtbopdijnojaaiadGreatZz
import Derived.Test.YtbopdijnojaaiadGreatRefW
namespace Go.Proofs.YtbopdijnojaaiadGreat
set_option maxRecDepth 100000
set_option maxHeartbeats 8000000
open Go.RowKit
set_option linter.unusedSimpArgs false
set_option linter.unusedVariables false
section
variable (xs : List Int) (at_ : Int) (rs : List Int) (b : Brg) (M R L : Option Addr) (mc rc n c : Nat) (w : World) (hm : Ints w w.heap.size M 512 xs) (hr : Ints w w.heap.size R 8 rs) (hl : Lines w w.heap.size L n c b.cache) (c1 : cm xs = 0) (c2 : ckH ⟨at_, rs, false⟩ = 0)
include hm hr hl c1 c2 in
theorem stp_8y (ka kd ki : Nat) (hV : rdV (rd xs at_) = .tuple #[.agg #[.int .i64 8, .int .i64 ka, .int .i64 kd, .int .i64 ki], .int .i64 0]) (ha : ka < 8) (hd : kd < 8) (hi : ki ≤ 63) (hq : ki < 10) :
    Calls Tryz.prog 34 #[.agg #[.slice M 512 mc], .agg #[.int .i64 at_, .slice R 8 rc, .bool false], .agg (B_.b b L n c)] w (StpW w M R L n c (xs, ⟨(at_ + 1) % 512, rs.set ka (Xe9 b ki), false⟩, b)) := by
 revert M R hm hr hl c1 c2; refine_lift z99 ?_; intro HC2 _ HL _ _ HRL gM oM HM _ gR oR _ lR _ _ HRC _ _ _ w1 _ H0 H1 H2 H3 H4 H5 HB; iterate 4 intro
 refine z207 ?_; intro w2 hw2 H6
 revert H0 H1 H2 H3 H4 H5 HB hw2; refine_lift z31 ?_; intro _ _ H0 H1 H2 H3 H4 H5 HB
 go_upto_region 5 with (fail)
 revert H6 H0 H1 H2 H3 H4 H5 HB; refine_lift z0 ?_; intro _ wc; (iterate 223 intro); intro g12 g2 d2 _ _ _ H7 HO HG2 _ H0 H1 H2 H3 H4 H5 HB H6 u0 v0 _ _ k1 k6
 go_upto_region 6 with (fail)
 revert H7 HO HG2 H0 H1 H2 H3 H4 H5 HB H6 u0 v0 k1 k6; refine_lift z19 ?_; intro _ w6 _ _ HO H0 H1 H2 H3 H4 H5 HB H6 H7 _ _
 refine z80 ?_; intro sb lb H2s HST k2 n63 n60 _ _ _
 cases sb <;> cases lb
 all_goals
   go_upto_region 38 with (fail)
   generalize hwb : World.alloc w6 _ = w7
   have H8 := Zh (show Whl w7 w6.heap.size 3 _ by rw [← hwb]; exact Xap _ _ _ rfl)
   have hb : Below w6.heap.size w6 w7 := by rw [← hwb]; exact Xa3 _ _
   have hz7 : w6.heap.size < w7.heap.size := by rw [← hwb]; simp
   replace HO := Zh (show OwnI w2.heap.size w7 (some ⟨g2, 0, none⟩) 8 d2 rs by rw [← hwb]; exact HO.out.alloc _)
   replace H0 := Zh (Xaa H0.out hb)
   replace H1 := Zh (Xaa H1.out hb)
   replace H2 := Zh (Xaa H2.out hb)
   replace H3 := Zh (Xaa H3.out hb)
   replace H4 := Zh (Xaa H4.out hb)
   replace H5 := Zh (Xaa H5.out hb)
   replace HB := Zh (HB.out.trans (hb.mono HB.out.size))
   replace H6 := Zh (Xaa H6.out hb)
   replace H7 := Zh (Xaa H7.out hb)
   clear hb hwb k2 n63 n60 H2s
   have n8 : w7.cell? ⟨w6.heap.size, ki, none⟩ = some (.int .i64 (Xe9 b ki)) := (Xaj H8.out ki).trans (by have h := Xu9 b (k := ki) hq; rw [HST.out] at h; exact h)
   have qi : (0 : Int) ≤ (ki : Int) := by omega
   have qj : (ki : Int) < 10 := by omega
   have n7 := fun o => Xaj H7.out o
   have n6 := fun o => Xaj H6.out o
   have o0 := (Xbl HO.out (by decide))
   obtain ⟨_, eo, eo1, eo2, hoc, hof, hos⟩ := o0
   injection eo with eo; injection eo with eo; subst eo
   have o0 := hoc _ _ (Xjk (k := (ka : Int)) HRL.out (by omega) (by omega))
   simp only [Int.toNat_natCast] at o0
   clear hoc hos eo1 eo2
   go_upto_region 40 with (fail)
   go_region
   generalize hwc : (w7.setCell ⟨g2, ka, none⟩ (.int .i64 (Xe9 b ki))).drew = w9
   have ht7 : Trn g2 w7 w9 := by rw [← hwc]; have h := Xh3 (w := w7) (g := g2) (by have := (Xaw HO.out.2 _ rfl).2; simpa using this) ka (.int .i64 (Xe9 b ki)); exact ⟨Xbd h.1, h.2⟩
   have ho7 : OwnI w2.heap.size w9 (some ⟨g2, 0, none⟩) 8 d2 (rs.set ka (Xe9 b ki)) := by rw [← hwc]; exact (Xij HO.out ha (Xe9 b ki)).drewN 1
   clear hwc o0 hof
   clear n8
   replace HO := Zh ho7
   replace H0 := Zh (Xak H0.out ht7 (by omega))
   replace H1 := Zh (Xak H1.out ht7 (by omega))
   replace H2 := Zh (Xak H2.out ht7 (by omega))
   replace H3 := Zh (Xak H3.out ht7 (by omega))
   replace H4 := Zh (Xak H4.out ht7 (by omega))
   replace H5 := Zh (Xak H5.out ht7 (by omega))
   replace HB := Zh (Xbj HB.out (HB.out.size) ht7 (by omega))
   replace H6 := Zh (Xak H6.out ht7 (by omega))
   replace H7 := Zh (Xak H7.out ht7 (by omega))
   have hz9 := ht7.2
   have hz9a : w9.heap.size ≤ w7.heap.size := Nat.le_of_eq hz9
   have hz9b : w7.heap.size ≤ w9.heap.size := Nat.le_of_eq hz9.symm
   clear ho7 ht7 hz9 n6 n7
   go_upto_region 63 with (fail)
   refine Xdb y1 _ _ _ _ _ _ rfl rfl rfl rfl rfl rfl rfl y1 y1 y1 y1 y1 y1 y1 y1 y1 y1 y1 rfl rfl rfl rfl rfl rfl 24 26 31 (.tmp 3) (.tmp 12) (.tmp 5) (.tmp 6) (.tmp 7) (.tmp 8) (.tmp 259) (.tmp 260) (.tmp 261) rfl rfl rfl rfl rfl rfl w.heap.size g12 (w.heap.size + 1 + 1) (w.heap.size + 1 + 1 + 1) (w.heap.size + 1 + 1 + 1 + 1) (w.heap.size + 1 + 1 + 1 + 1 + 1) #[.slice (some ⟨gM, oM, none⟩) 512 mc] #[.int .i64 ((at_ + 1) % 512), .slice (some ⟨g2, 0, none⟩) 8 d2, .bool false] (B_.b b L n c) _ _ _ Tryz.underlying24 Tryz.underlying26 Tryz.underlying31 rfl rfl rfl Tryz.sizeMem Tryz.sizeHart Tryz.sizeBrg rfl rfl rfl rfl rfl rfl rfl rfl rfl rfl rfl rfl _ _ _ _ _ _ H0.out H7.out H2.out _ _ _ H3.out H4.out H5.out rfl rfl rfl (by omega) (by omega) (by omega) (by omega) (by omega) (by omega) (by omega) (by omega) (by omega) (by omega) (by omega) (by omega) (fun _ _ _ _ h => h) (fun _ _ _ _ h => h) (fun _ _ _ _ h => h) ?_
   intro wE c9 q1 q2 q3
   have Q1 := Zh q1
   have Q2 := Zh q2
   have Q3 := Zh q3
   have hzE := c9.size
   have HBE := Zh (Xa2 HB.out (HB.out.size) c9 (fun q hq e => by omega))
   have HOE := Zh (Xbn HO.out c9 (fun ad e hp => by injection e with e; subst e; simp only [] at hp; omega))
   clear q1 q2 q3 c9
   go_wp2
   refine bodyPost_ret (v := .tuple #[.agg #[.slice (some ⟨gM, oM, none⟩) 512 mc], .agg #[.int .i64 ((at_ + 1) % 512), .slice (some ⟨g2, 0, none⟩) 8 d2, .bool false], .agg (B_.b b L n c)]) ?_ rfl ⟨_, _, _, _, rfl, Xaf HM.out HBE.out, HOE.out.ints (by decide), Xah HL.out HBE.out, HBE.out, Xby _ _, ?_⟩
   · exact Xd3 Tryz.results34 rfl rfl rfl (run_loadVar_mid wE _ 0 24 _ _ Q1.out Tryz.underlying24 rfl Tryz.sizeMem) (run_loadVar_mid wE _ 0 26 _ _ Q2.out Tryz.underlying26 rfl Tryz.sizeHart) (run_loadVar_mid wE _ 0 31 _ _ Q3.out Tryz.underlying31 rfl Tryz.sizeBrg)
   · intro ad e; injection e with e; subst e; exact Or.inr (by show _ ≤ g2; omega)
include hm hr hl c1 c2 in
theorem stp_8n (ka kd ki : Nat) (hV : rdV (rd xs at_) = .tuple #[.agg #[.int .i64 8, .int .i64 ka, .int .i64 kd, .int .i64 ki], .int .i64 0]) (ha : ka < 8) (hd : kd < 8) (hi : ki ≤ 63) (hq : ¬ ki < 10) :
    Calls Tryz.prog 34 #[.agg #[.slice M 512 mc], .agg #[.int .i64 at_, .slice R 8 rc, .bool false], .agg (B_.b b L n c)] w (StpW w M R L n c (xs, ⟨at_, rs, true⟩, b)) := by
 revert M R hm hr hl c1 c2; refine_lift z1 ?_; intro HC2 _ HL _ _ HRL gM oM HM _ gR oR HR lR _ _ HRC _ _ w0 H0 H1 H2 H3 H4 H5 HB _ _ k0 k1 kx
 go_wp2_with fail
 revert H0 H1 H2 H3 H4 H5 HB k0 k1 kx; refine_lift z48 ?_; intro w1 _ H0 H1 H2 H3 H4 H5 HB
 go_upto_region 3 with (fail)
 refine z207 ?_; intro w2 hw2 H6
 revert H0 H1 H2 H3 H4 H5 HB hw2; refine_lift z31 ?_; intro _ _ H0 H1 H2 H3 H4 H5 HB
 go_upto_region 5 with (fail)
 revert H6 H0 H1 H2 H3 H4 H5 HB; refine_lift z0 ?_; intro _ wc; (iterate 224 intro); intro g2 d2 _ _ _ H7 HO HG2 _ H0 H1 H2 H3 H4 H5 HB H6 u0 v0 _ _ k1 k6
 go_upto_region 6 with (fail)
 revert H7 HO HG2 H0 H1 H2 H3 H4 H5 HB H6 u0 v0 k1 k6; refine_lift z19 ?_; intro _ w6 _ _ HO H0 H1 H2 H3 H4 H5 HB H6 H7 _ _
 refine z80 ?_; intro sb lb H2s _ k2 n63 n60 _ _ _
 cases sb <;> cases lb
 all_goals
   go_upto_region 38 with (fail)
   generalize hwb : World.alloc w6 _ = w7
   have H8 := Zh (show Whl w7 w6.heap.size 3 _ by rw [← hwb]; exact Xap _ _ _ rfl)
   have hb : Below w6.heap.size w6 w7 := by rw [← hwb]; exact Xa3 _ _
   have hz7 : w6.heap.size < w7.heap.size := by rw [← hwb]; simp
   replace HO := Zh (show OwnI w2.heap.size w7 (some ⟨g2, 0, none⟩) 8 d2 rs by rw [← hwb]; exact HO.out.alloc _)
   replace H0 := Zh (Xaa H0.out hb)
   replace H1 := Zh (Xaa H1.out hb)
   replace H2 := Zh (Xaa H2.out hb)
   replace H3 := Zh (Xaa H3.out hb)
   replace H4 := Zh (Xaa H4.out hb)
   replace H5 := Zh (Xaa H5.out hb)
   replace HB := Zh (HB.out.trans (hb.mono HB.out.size))
   replace H6 := Zh (Xaa H6.out hb)
   replace H7 := Zh (Xaa H7.out hb)
   clear hb hwb k2 n63 n60 H2s
   have qj : 9 < (ki : Int) := by omega
   clear hq
   have n6 := fun o => Xaj H6.out o
   go_wp2_with fail
   refine (Xk3 w.heap.size (w.heap.size + 1) (w.heap.size + 1 + 1) at_ _ rc false _ mc b L n c _ H0.out H1.out H2.out (by omega) (by omega)).mono ?_
   rintro e w8 ⟨rfl, hc8⟩
   have y3 := Xa7 H3.out hc8 (by omega)
   have y4 := Xa7 H4.out hc8 (by omega)
   have y5 := Xa7 H5.out hc8 (by omega)
   have HB8 := Zh (Xa2 HB.out HB.out.size hc8 (fun q hq e => by omega))
   clear hc8
   go_wp2_with (first
     | (refine Xad rfl 24 (.tmp 6) (.tmp 198) rfl (w.heap.size + 1 + 1 + 1) _ _ #[.slice (some ⟨gM, oM, none⟩) 512 mc] rfl rfl y3 Tryz.sizeMem rfl rfl ?_; intro w9 h9 t9; have y4 := Xak y4 t9 (by omega); have y5 := Xak y5 t9 (by omega))
     | (refine Xad rfl 26 (.tmp 7) (.tmp 199) rfl (w.heap.size + 1 + 1 + 1 + 1) _ _ #[.int .i64 at_, .slice (some ⟨gR, oR, none⟩) 8 rc, .bool true] rfl rfl y4 Tryz.sizeHart rfl rfl ?_; intro w10 h10 t10; have y5 := Xak y5 t10 (by omega); have h9 := Xak h9 t10 (by omega))
     | (refine Xad rfl 31 (.tmp 8) (.tmp 200) rfl (w.heap.size + 1 + 1 + 1 + 1 + 1) _ _ (B_.b b L n c) rfl rfl y5 Tryz.sizeBrg rfl rfl ?_; intro w11 h11 t11; have h9 := Xak h9 t11 (by omega); have h10 := Xak h10 t11 (by omega)))
   have HBE := Zh (Xbj (Xbj (Xbj HB8.out HB8.out.size t9 (by omega)) (by rw [t9.2]; exact HB8.out.size) t10 (by omega)) (by rw [t10.2, t9.2]; exact HB8.out.size) t11 (by omega))
   have P9 := Zh h9
   have P10 := Zh h10
   have P11 := Zh h11
   clear t9 t10 t11 h9 h10 h11 y3 y4 y5
   go_wp2
   refine bodyPost_ret (v := .tuple #[.agg #[.slice (some ⟨gM, oM, none⟩) 512 mc], .agg #[.int .i64 at_, .slice (some ⟨gR, oR, none⟩) 8 rc, .bool true], .agg (B_.b b L n c)]) ?_ rfl ⟨_, _, _, _, rfl, Xaf HM.out HBE.out, Xaf HR.out HBE.out, Xah HL.out HBE.out, HBE.out, Xby _ _, Xby _ _⟩
   exact Xd3 Tryz.results34 rfl rfl rfl (Xc4 P9.out _ Tryz.underlying24 rfl Tryz.sizeMem) (Xc4 P10.out _ Tryz.underlying26 rfl Tryz.sizeHart) (Xc4 P11.out _ Tryz.underlying31 rfl Tryz.sizeBrg)
end
end Go.Proofs.YtbopdijnojaaiadGreat
