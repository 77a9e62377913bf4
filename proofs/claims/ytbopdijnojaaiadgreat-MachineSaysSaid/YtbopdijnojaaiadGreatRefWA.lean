/- The hart: the walk of the document's Stepped, part A. No statement of the seat is proved here. -/
import Derived.Test.YtbopdijnojaaiadGreatRefW
namespace Go.Proofs.YtbopdijnojaaiadGreat
set_option maxRecDepth 100000
set_option maxHeartbeats 8000000
open Go.RowKit
set_option linter.unusedSimpArgs false
set_option linter.unusedVariables false
section
variable (xs:List Int) (at_:Int) (rs:List Int) (b:Brg) (M R L:Option Addr) (mc rc n c:Nat) (w:World) (hm:Ints w w.heap.size M 512 xs) (hr:Ints w w.heap.size R 8 rs) (hl:Lines w w.heap.size L n c b.cache) (c1:cm xs=0) (c2:ckH ⟨at_,rs,false⟩=0)
include hm hr hl c1 c2 in
theorem Xxf (E:Int) (hE:(E != 0)=true) (hV:rdV (rd xs at_)=.tuple #[.agg #[.int .i64 0,.int .i64 0,.int .i64 0,.int .i64 0],.int .i64 E]) :
  Calls Tryz.prog 34 #[.agg #[.slice M 512 mc],.agg #[.int .i64 at_,.slice R 8 rc,.bool false],.agg (B_.b b L n c)] w (StpW w M R L n c (xs,⟨at_,rs,true⟩,b)):=by
 have HC2:=Zh c2
 have HXL:=Zh (Xaz c1).1
 have HM:=Zh hm
 have HR:=Zh hr
 have HL:=Zh hl
 have hAt:=(Xap c2).2.1
 simp only[]at hAt
 obtain⟨hAt1,hAt2⟩:=hAt
 have HRL:=Zh (show rs.length=8 from(Xap c2).1)
 obtain⟨gM,oM,rfl,lM,hMc⟩:=hm.at_ (by decide)
 obtain⟨gR,oR,rfl,lR,hRc⟩:=hr.at_ (by decide)
 have HX:=Zh (hMc _ _ (Xb1 (k:=at_) (Xaz c1).1 hAt1 hAt2))
 have HMC:=Zh hMc
 have HRC:=Zh hRc
 clear hm hr hl c1 c2 hMc hRc
 go_enter Tryz.func34,Tryz.ntmps34
 go_upto_region 1 with(fail)
 generalize hw0:(((((w.alloc (.cells #[.slice (some ⟨gM,oM,none⟩) 512 mc] 24)).alloc (.cells #[.int .i64 at_,.slice (some ⟨gR,oR,none⟩) 8 rc,.bool false] 26)).alloc (.cells (B_.b b L n c) 31)).alloc (.cells #[.slice none 0 0] 24)).alloc (.cells #[.int .i64 0,.slice none 0 0,.bool false] 26)).alloc (.cells B_.z 31)=w0
 have H0:=Zh (show Whl w0 w.heap.size 24 #[.slice (some ⟨gM,oM,none⟩) 512 mc] by rw[←hw0];exact Xab (Xab (Xab (Xab (Xab (Xac _ _ _ rfl) _) _) _) _) _)
 have H1:=Zh (show Whl w0 (w.heap.size+1) 26 #[.int .i64 at_,.slice (some ⟨gR,oR,none⟩) 8 rc,.bool false] by rw[←hw0];exact Xab (Xab (Xab (Xab (Xac _ _ _ (by simp)) _) _) _) _)
 have H2:=Zh (show Whl w0 (w.heap.size+1+1) 31 (B_.b b L n c) by rw[←hw0];exact Xab (Xab (Xab (Xac _ _ _ (by simp)) _) _) _)
 have H3:=Zh (show Whl w0 (w.heap.size+1+1+1) 24 #[.slice none 0 0] by rw[←hw0];exact Xab (Xab (Xac _ _ _ (by simp)) _) _)
 have H4:=Zh (show Whl w0 (w.heap.size+1+1+1+1) 26 #[.int .i64 0,.slice none 0 0,.bool false] by rw[←hw0];exact Xab (Xac _ _ _ (by simp)) _)
 have H5:=Zh (show Whl w0 (w.heap.size+1+1+1+1+1) 31 B_.z by rw[←hw0];exact Xac _ _ _ (by simp))
 have HB:=Zh (show Below w.heap.size w w0 by rw[←hw0];(refine bl ?_;repeat' first|with_reducible(first|assumption|constructor)|((try simp)<;>omega)))
 have hz0a:w0.heap.size≤w.heap.size+6:=by rw[←hw0];simp
 have hz0b:w.heap.size+6≤w0.heap.size:=by rw[←hw0];simp
 clear hw0
 have k0:=fun o=>Xad H0.out o
 have k1:=fun o=>Xad H1.out o
 have kx:w0.cell? ⟨gM,oM+at_.toNat,none⟩=some (.int .i64 (rd xs at_)):=(HB.out.cell (p:=⟨gM,oM+at_.toNat,none⟩) lM).trans HX.out
 go_wp2_with fail
 refine(Xcs _ _).mono ?_
 rw[hV]
 clear k0 k1 kx
 rintro e w1 ⟨rfl,hb⟩
 have hz1:w0.heap.size≤w1.heap.size:=hb.size
 replace H0:=Zh (Xaa H0.out hb)
 replace H1:=Zh (Xaa H1.out hb)
 replace H2:=Zh (Xaa H2.out hb)
 replace H3:=Zh (Xaa H3.out hb)
 replace H4:=Zh (Xaa H4.out hb)
 replace H5:=Zh (Xaa H5.out hb)
 replace HB:=Zh (HB.out.trans (hb.mono HB.out.size))
 clear hb
 go_upto_region 3 with(fail)
 generalize hw2:w1.alloc (.cells #[.int .i64 0,.int .i64 0,.int .i64 0,.int .i64 0] 89)=w2
 have H6:=Zh (show Whl w2 w1.heap.size 89 #[.int .i64 0,.int .i64 0,.int .i64 0,.int .i64 0] by rw[←hw2];exact Xac _ _ _ rfl)
 have hb:Below w1.heap.size w1 w2:=by rw[←hw2];exact Xag _ _
 have hz2a:w2.heap.size≤w1.heap.size+1:=by rw[←hw2];simp
 have hz2b:w1.heap.size+1≤w2.heap.size:=by rw[←hw2];simp
 replace H0:=Zh (Xaa H0.out hb)
 replace H1:=Zh (Xaa H1.out hb)
 replace H2:=Zh (Xaa H2.out hb)
 replace H3:=Zh (Xaa H3.out hb)
 replace H4:=Zh (Xaa H4.out hb)
 replace H5:=Zh (Xaa H5.out hb)
 replace HB:=Zh (HB.out.trans (hb.mono HB.out.size))
 clear hb hw2
 go_wp2_with fail
 refine(Xfe w.heap.size (w.heap.size+1) (w.heap.size+1+1) at_ _ rc false _ mc b L n c _ H0.out H1.out H2.out (by omega) (by omega)).mono ?_
 rintro e w8 ⟨rfl,hc8⟩
 have y3:=Xa6 H3.out hc8 (by omega)
 have y4:=Xa6 H4.out hc8 (by omega)
 have y5:=Xa6 H5.out hc8 (by omega)
 have HB8:=Zh (Xa8 HB.out HB.out.size hc8 (fun q hq e=>by omega))
 clear hc8
 go_wp2_with (first
  |(refine Xaj rfl 24 (.tmp 6) (.tmp 34) rfl (w.heap.size+1+1+1) _ _ #[.slice (some ⟨gM,oM,none⟩) 512 mc] rfl rfl y3 Tryz.sizeMem rfl rfl ?_;intro w9 h9 t9;have y4:=Xam y4 t9 (by omega);have y5:=Xam y5 t9 (by omega))
  |(refine Xaj rfl 26 (.tmp 7) (.tmp 35) rfl (w.heap.size+1+1+1+1) _ _ #[.int .i64 at_,.slice (some ⟨gR,oR,none⟩) 8 rc,.bool true] rfl rfl y4 Tryz.sizeHart rfl rfl ?_;intro w10 h10 t10;have y5:=Xam y5 t10 (by omega);have h9:=Xam h9 t10 (by omega))
  |(refine Xaj rfl 31 (.tmp 8) (.tmp 36) rfl (w.heap.size+1+1+1+1+1) _ _ (B_.b b L n c) rfl rfl y5 Tryz.sizeBrg rfl rfl ?_;intro w11 h11 t11;have h9:=Xam h9 t11 (by omega);have h10:=Xam h10 t11 (by omega)))
 have HBE:=Zh (Xaw (Xaw (Xaw HB8.out HB8.out.size t9 (by omega)) (by rw[t9.2];exact HB8.out.size) t10 (by omega)) (by rw[t10.2,t9.2];exact HB8.out.size) t11 (by omega))
 have P9:=Zh h9
 have P10:=Zh h10
 have P11:=Zh h11
 clear t9 t10 t11 h9 h10 h11 y3 y4 y5
 go_wp2
 refine bodyPost_ret (v:=.tuple #[.agg #[.slice (some ⟨gM,oM,none⟩) 512 mc],.agg #[.int .i64 at_,.slice (some ⟨gR,oR,none⟩) 8 rc,.bool true],.agg (B_.b b L n c)]) ?_ rfl ⟨_,_,_,_,rfl,Xaf HM.out HBE.out,Xaf HR.out HBE.out,Xah HL.out HBE.out,HBE.out,Xbo _ _,Xbo _ _⟩
 exact Xce Tryz.results34 rfl rfl rfl (Xbx P9.out _ Tryz.underlying24 rfl Tryz.sizeMem) (Xbx P10.out _ Tryz.underlying26 rfl Tryz.sizeHart) (Xbx P11.out _ Tryz.underlying31 rfl Tryz.sizeBrg)
include hm hr hl c1 c2 in
theorem stp_0 (ka kd ki:Nat) (hV:rdV (rd xs at_)=.tuple #[.agg #[.int .i64 0,.int .i64 ka,.int .i64 kd,.int .i64 ki],.int .i64 0]) (ha:ka<8) (hd:kd<8) (hi:ki≤63) :
  Calls Tryz.prog 34 #[.agg #[.slice M 512 mc],.agg #[.int .i64 at_,.slice R 8 rc,.bool false],.agg (B_.b b L n c)] w (StpW w M R L n c (xs,⟨at_,rs,true⟩,b)):=by
 refine zSt ⟨trivial, ?_⟩ M R hm hr hl c1 c2 hV ha hd hi
 clear hm hr hl c1 c2 hV ha hd hi
 intro hV ha hd hi HC2 HXL HL hAt1 hAt2 HRL gM oM HM lM gR oR HR lR HX HMC HRC w0 hz0a hz0b w1 hz1 w2 hz2a hz2b i0 wc;(iterate 223 intro);intro g12 g2 d2 hg1 hg2 hg3 hzc ub vb K_ a_ nq w6 hz6a hz6b HO H0 H1 H2 H3 H4 H5 HB H6 H7 hg4 hg5
 have n7:=fun o=>Xad H7.out o
 have n6:=fun o=>Xad H6.out o
 go_wp2_with fail
 refine(Xfe w.heap.size (w.heap.size+1) (w.heap.size+1+1) at_ _ rc false _ mc b L n c _ H0.out H1.out H2.out (by omega) (by omega)).mono ?_
 rintro e w8 ⟨rfl,hc8⟩
 have y3:=Xa6 H3.out hc8 (by omega)
 have y4:=Xa6 H4.out hc8 (by omega)
 have y5:=Xa6 H5.out hc8 (by omega)
 have HB8:=Zh (Xa8 HB.out HB.out.size hc8 (fun q hq e=>by omega))
 clear hc8
 go_wp2_with (first
  |(refine Xaj rfl 24 (.tmp 6) (.tmp 64) rfl (w.heap.size+1+1+1) _ _ #[.slice (some ⟨gM,oM,none⟩) 512 mc] rfl rfl y3 Tryz.sizeMem rfl rfl ?_;intro w9 h9 t9;have y4:=Xam y4 t9 (by omega);have y5:=Xam y5 t9 (by omega))
  |(refine Xaj rfl 26 (.tmp 7) (.tmp 65) rfl (w.heap.size+1+1+1+1) _ _ #[.int .i64 at_,.slice (some ⟨gR,oR,none⟩) 8 rc,.bool true] rfl rfl y4 Tryz.sizeHart rfl rfl ?_;intro w10 h10 t10;have y5:=Xam y5 t10 (by omega);have h9:=Xam h9 t10 (by omega))
  |(refine Xaj rfl 31 (.tmp 8) (.tmp 66) rfl (w.heap.size+1+1+1+1+1) _ _ (B_.b b L n c) rfl rfl y5 Tryz.sizeBrg rfl rfl ?_;intro w11 h11 t11;have h9:=Xam h9 t11 (by omega);have h10:=Xam h10 t11 (by omega)))
 have HBE:=Zh (Xaw (Xaw (Xaw HB8.out HB8.out.size t9 (by omega)) (by rw[t9.2];exact HB8.out.size) t10 (by omega)) (by rw[t10.2,t9.2];exact HB8.out.size) t11 (by omega))
 have P9:=Zh h9
 have P10:=Zh h10
 have P11:=Zh h11
 clear t9 t10 t11 h9 h10 h11 y3 y4 y5
 go_wp2
 refine bodyPost_ret (v:=.tuple #[.agg #[.slice (some ⟨gM,oM,none⟩) 512 mc],.agg #[.int .i64 at_,.slice (some ⟨gR,oR,none⟩) 8 rc,.bool true],.agg (B_.b b L n c)]) ?_ rfl ⟨_,_,_,_,rfl,Xaf HM.out HBE.out,Xaf HR.out HBE.out,Xah HL.out HBE.out,HBE.out,Xbo _ _,Xbo _ _⟩
 exact Xce Tryz.results34 rfl rfl rfl (Xbx P9.out _ Tryz.underlying24 rfl Tryz.sizeMem) (Xbx P10.out _ Tryz.underlying26 rfl Tryz.sizeHart) (Xbx P11.out _ Tryz.underlying31 rfl Tryz.sizeBrg)
include hm hr hl c1 c2 in
theorem stp_1 (ka kd ki:Nat) (hV:rdV (rd xs at_)=.tuple #[.agg #[.int .i64 1,.int .i64 ka,.int .i64 kd,.int .i64 ki],.int .i64 0]) (ha:ka<8) (hd:kd<8) (hi:ki≤63) :
  Calls Tryz.prog 34 #[.agg #[.slice M 512 mc],.agg #[.int .i64 at_,.slice R 8 rc,.bool false],.agg (B_.b b L n c)] w (StpW w M R L n c (xs,⟨(at_+1) % 512,rs.set ka ki,false⟩,b)):=by
 refine zSt ⟨trivial, ?_⟩ M R hm hr hl c1 c2 hV ha hd hi
 clear hm hr hl c1 c2 hV ha hd hi
 intro hV ha hd hi HC2 HXL HL hAt1 hAt2 HRL gM oM HM lM gR oR HR lR HX HMC HRC w0 hz0a hz0b w1 hz1 w2 hz2a hz2b i0 wc;(iterate 223 intro);intro g12 g2 d2 hg1 hg2 hg3 hzc ub vb K_ a_ nq w6 hz6a hz6b HO H0 H1 H2 H3 H4 H5 HB H6 H7 hg4 hg5
 have n7:=fun o=>Xad H7.out o
 have n6:=fun o=>Xad H6.out o
 go_upto_region 63 with(refine Xh3 rfl 3 (.tmp 75) (.tmp 74) rfl w2.heap.size g2 ka 8 d2 rs ((ki:Int)) rfl rfl HO.out ha Tryz.sizeInt ?_;intro w7 ho7 ht7)
 replace HO:=Zh ho7
 replace H0:=Zh (Xam H0.out ht7 (by omega))
 replace H1:=Zh (Xam H1.out ht7 (by omega))
 replace H2:=Zh (Xam H2.out ht7 (by omega))
 replace H3:=Zh (Xam H3.out ht7 (by omega))
 replace H4:=Zh (Xam H4.out ht7 (by omega))
 replace H5:=Zh (Xam H5.out ht7 (by omega))
 replace HB:=Zh (Xaw HB.out (HB.out.size) ht7 (by omega))
 replace H6:=Zh (Xam H6.out ht7 (by omega))
 replace H7:=Zh (Xam H7.out ht7 (by omega))
 have hz7:=ht7.2
 have hz7a:w7.heap.size≤w6.heap.size:=Nat.le_of_eq hz7
 have hz7b:w6.heap.size≤w7.heap.size:=Nat.le_of_eq hz7.symm
 clear ho7 ht7 hz7 n6 n7
 refine Xcy (by kernel_rfl) _ _ _ _ _ _ rfl rfl rfl rfl rfl rfl rfl (by kernel_rfl) (by kernel_rfl) (by kernel_rfl) (by kernel_rfl) (by kernel_rfl) (by kernel_rfl) (by kernel_rfl) (by kernel_rfl) (by kernel_rfl) (by kernel_rfl) (by kernel_rfl) rfl rfl rfl rfl rfl rfl 24 26 31 (.tmp 3) (.tmp 12) (.tmp 5) (.tmp 6) (.tmp 7) (.tmp 8) (.tmp 259) (.tmp 260) (.tmp 261) rfl rfl rfl rfl rfl rfl w.heap.size g12 (w.heap.size+1+1) (w.heap.size+1+1+1) (w.heap.size+1+1+1+1) (w.heap.size+1+1+1+1+1) #[.slice (some ⟨gM,oM,none⟩) 512 mc] #[.int .i64 ((at_+1) % 512),.slice (some ⟨g2,0,none⟩) 8 d2,.bool false] (B_.b b L n c) _ _ _ Tryz.underlying24 Tryz.underlying26 Tryz.underlying31 rfl rfl rfl Tryz.sizeMem Tryz.sizeHart Tryz.sizeBrg rfl rfl rfl rfl rfl rfl rfl rfl rfl rfl rfl rfl _ _ _ _ _ _ H0.out H7.out H2.out _ _ _ H3.out H4.out H5.out rfl rfl rfl (by omega) (by omega) (by omega) (by omega) (by omega) (by omega) (by omega) (by omega) (by omega) (by omega) (by omega) (by omega) (fun _ _ _ _ h=>h) (fun _ _ _ _ h=>h) (fun _ _ _ _ h=>h) ?_
 intro w9 c9 q1 q2 q3
 have Q1:=Zh q1
 have Q2:=Zh q2
 have Q3:=Zh q3
 have hz9:=c9.size
 have HB9:=Zh (Xa8 HB.out (HB.out.size) c9 (fun q hq e=>by omega))
 have HO9:=Zh (Xbu HO.out c9 (fun ad e hp=>by injection e with e;subst e;simp only[]at hp;omega))
 clear q1 q2 q3 c9
 go_wp2
 refine bodyPost_ret (v:=.tuple #[.agg #[.slice (some ⟨gM,oM,none⟩) 512 mc],.agg #[.int .i64 ((at_+1) % 512),.slice (some ⟨g2,0,none⟩) 8 d2,.bool false],.agg (B_.b b L n c)]) ?_ rfl ⟨_,_,_,_,rfl,Xaf HM.out HB9.out,HO9.out.ints (by decide),Xah HL.out HB9.out,HB9.out,Xbo _ _, ?_⟩
 ·exact Xce Tryz.results34 rfl rfl rfl (run_loadVar_mid w9 _ 0 24 _ _ Q1.out Tryz.underlying24 rfl Tryz.sizeMem) (run_loadVar_mid w9 _ 0 26 _ _ Q2.out Tryz.underlying26 rfl Tryz.sizeHart) (run_loadVar_mid w9 _ 0 31 _ _ Q3.out Tryz.underlying31 rfl Tryz.sizeBrg)
 ·intro ad e;injection e with e;subst e;exact Or.inr (by show _≤g2;omega)
include hm hr hl c1 c2 in
theorem stp_2 (ka kd ki:Nat) (hV:rdV (rd xs at_)=.tuple #[.agg #[.int .i64 2,.int .i64 ka,.int .i64 kd,.int .i64 ki],.int .i64 0]) (ha:ka<8) (hd:kd<8) (hi:ki≤63) :
  Calls Tryz.prog 34 #[.agg #[.slice M 512 mc],.agg #[.int .i64 at_,.slice R 8 rc,.bool false],.agg (B_.b b L n c)] w (StpW w M R L n c (xs,⟨(at_+1) % 512,rs.set ka ((rd rs ka+rd rs kd) % 65536),false⟩,b)):=by
 refine zSt ⟨trivial, ?_⟩ M R hm hr hl c1 c2 hV ha hd hi
 clear hm hr hl c1 c2 hV ha hd hi
 intro hV ha hd hi HC2 HXL HL hAt1 hAt2 HRL gM oM HM lM gR oR HR lR HX HMC HRC w0 hz0a hz0b w1 hz1 w2 hz2a hz2b i0 wc;(iterate 223 intro);intro g12 g2 d2 hg1 hg2 hg3 hzc ub vb K_ a_ nq w6 hz6a hz6b HO H0 H1 H2 H3 H4 H5 HB H6 H7 hg4 hg5
 have q1:IntKind.i64.wrap (rd rs ka+rd rs kd)=rd rs ka+rd rs kd:=IntWalk.i64_in _ (by omega)
 have q2:(rd rs ka+rd rs kd).tmod 65536=(rd rs ka+rd rs kd) % 65536:=Int.tmod_eq_emod_of_nonneg (by omega)
 have n7:=fun o=>Xad H7.out o
 have n6:=fun o=>Xad H6.out o
 go_upto_region 63 with(refine Xh3 rfl 3 (.tmp 86) (.tmp 85) rfl w2.heap.size g2 ka 8 d2 rs ((rd rs ka+rd rs kd) % 65536) rfl rfl HO.out ha Tryz.sizeInt ?_;intro w7 ho7 ht7)
 replace HO:=Zh ho7
 replace H0:=Zh (Xam H0.out ht7 (by omega))
 replace H1:=Zh (Xam H1.out ht7 (by omega))
 replace H2:=Zh (Xam H2.out ht7 (by omega))
 replace H3:=Zh (Xam H3.out ht7 (by omega))
 replace H4:=Zh (Xam H4.out ht7 (by omega))
 replace H5:=Zh (Xam H5.out ht7 (by omega))
 replace HB:=Zh (Xaw HB.out (HB.out.size) ht7 (by omega))
 replace H6:=Zh (Xam H6.out ht7 (by omega))
 replace H7:=Zh (Xam H7.out ht7 (by omega))
 have hz7:=ht7.2
 have hz7a:w7.heap.size≤w6.heap.size:=Nat.le_of_eq hz7
 have hz7b:w6.heap.size≤w7.heap.size:=Nat.le_of_eq hz7.symm
 clear ho7 ht7 hz7 n6 n7
 refine Xcy (by kernel_rfl) _ _ _ _ _ _ rfl rfl rfl rfl rfl rfl rfl (by kernel_rfl) (by kernel_rfl) (by kernel_rfl) (by kernel_rfl) (by kernel_rfl) (by kernel_rfl) (by kernel_rfl) (by kernel_rfl) (by kernel_rfl) (by kernel_rfl) (by kernel_rfl) rfl rfl rfl rfl rfl rfl 24 26 31 (.tmp 3) (.tmp 12) (.tmp 5) (.tmp 6) (.tmp 7) (.tmp 8) (.tmp 259) (.tmp 260) (.tmp 261) rfl rfl rfl rfl rfl rfl w.heap.size g12 (w.heap.size+1+1) (w.heap.size+1+1+1) (w.heap.size+1+1+1+1) (w.heap.size+1+1+1+1+1) #[.slice (some ⟨gM,oM,none⟩) 512 mc] #[.int .i64 ((at_+1) % 512),.slice (some ⟨g2,0,none⟩) 8 d2,.bool false] (B_.b b L n c) _ _ _ Tryz.underlying24 Tryz.underlying26 Tryz.underlying31 rfl rfl rfl Tryz.sizeMem Tryz.sizeHart Tryz.sizeBrg rfl rfl rfl rfl rfl rfl rfl rfl rfl rfl rfl rfl _ _ _ _ _ _ H0.out H7.out H2.out _ _ _ H3.out H4.out H5.out rfl rfl rfl (by omega) (by omega) (by omega) (by omega) (by omega) (by omega) (by omega) (by omega) (by omega) (by omega) (by omega) (by omega) (fun _ _ _ _ h=>h) (fun _ _ _ _ h=>h) (fun _ _ _ _ h=>h) ?_
 intro w9 c9 q1 q2 q3
 have Q1:=Zh q1
 have Q2:=Zh q2
 have Q3:=Zh q3
 have hz9:=c9.size
 have HB9:=Zh (Xa8 HB.out (HB.out.size) c9 (fun q hq e=>by omega))
 have HO9:=Zh (Xbu HO.out c9 (fun ad e hp=>by injection e with e;subst e;simp only[]at hp;omega))
 clear q1 q2 q3 c9
 go_wp2
 refine bodyPost_ret (v:=.tuple #[.agg #[.slice (some ⟨gM,oM,none⟩) 512 mc],.agg #[.int .i64 ((at_+1) % 512),.slice (some ⟨g2,0,none⟩) 8 d2,.bool false],.agg (B_.b b L n c)]) ?_ rfl ⟨_,_,_,_,rfl,Xaf HM.out HB9.out,HO9.out.ints (by decide),Xah HL.out HB9.out,HB9.out,Xbo _ _, ?_⟩
 ·exact Xce Tryz.results34 rfl rfl rfl (run_loadVar_mid w9 _ 0 24 _ _ Q1.out Tryz.underlying24 rfl Tryz.sizeMem) (run_loadVar_mid w9 _ 0 26 _ _ Q2.out Tryz.underlying26 rfl Tryz.sizeHart) (run_loadVar_mid w9 _ 0 31 _ _ Q3.out Tryz.underlying31 rfl Tryz.sizeBrg)
 ·intro ad e;injection e with e;subst e;exact Or.inr (by show _≤g2;omega)
include hm hr hl c1 c2 in
theorem stp_3 (ka kd ki:Nat) (hV:rdV (rd xs at_)=.tuple #[.agg #[.int .i64 3,.int .i64 ka,.int .i64 kd,.int .i64 ki],.int .i64 0]) (ha:ka<8) (hd:kd<8) (hi:ki≤63) :
  Calls Tryz.prog 34 #[.agg #[.slice M 512 mc],.agg #[.int .i64 at_,.slice R 8 rc,.bool false],.agg (B_.b b L n c)] w (StpW w M R L n c (xs,⟨(at_+1) % 512,rs.set ka (shM (rd rs ka) ki),false⟩,b)):=by
 refine zSt ⟨trivial, ?_⟩ M R hm hr hl c1 c2 hV ha hd hi
 clear hm hr hl c1 c2 hV ha hd hi
 intro hV ha hd hi HC2 HXL HL hAt1 hAt2 HRL gM oM HM lM gR oR HR lR HX HMC HRC w0 hz0a hz0b w1 hz1 w2 hz2a hz2b i0 wc;(iterate 223 intro);intro g12 g2 d2 hg1 hg2 hg3 hzc ub vb K_ a_ nq w6 hz6a hz6b HO H0 H1 H2 H3 H4 H5 HB H6 H7 hg4 hg5
 have n7:=fun o=>Xad H7.out o
 have n6:=fun o=>Xad H6.out o
 go_upto_region 16 with(fail)
 go_loop [13,91] (fun s13 s91=>∃ k:Nat,k≤ki∧s91=.int .i64 k∧s13=.int .i64 (dbl (rd rs ka) k)) (fun _ s91=>ki - (intOf s91).toNat)
 case atStart=>exact⟨0,by omega,rfl,rfl⟩
 case round=>
  obtain⟨k,hk,rfl,rfl⟩:=hrel
  have dr:=Xy0 ub k
  by_cases hlt:k<ki
  ·have q1:IntKind.i64.wrap (dbl (rd rs ka) k * 2)=dbl (rd rs ka) k * 2:=IntWalk.i64_in _ (by omega)
   have q2:(dbl (rd rs ka) k * 2).tmod 65536=dbl (rd rs ka) (k+1):=Int.tmod_eq_emod_of_nonneg (by omega)
   go_wp2
   go_round
   case rel=>exact⟨k+1,by omega,by go_num,rfl⟩
   case measure=>simp[intOf];omega
  ·have hke:ki=k:=by omega
   have HSH:=Zh (show shM (rd rs ka) ki=dbl (rd rs ka) k by rw[←dbl_sh ub (by omega),hke];simp)
   clear hke
   go_upto_region 63 with(refine Xh3 rfl 3 (.tmp 102) (.tmp 101) rfl w2.heap.size g2 ka 8 d2 rs (dbl (rd rs ka) k) rfl rfl HO.out ha Tryz.sizeInt ?_;intro w7 ho7 ht7)
   replace HO:=Zh ho7
   replace H0:=Zh (Xam H0.out ht7 (by omega))
   replace H1:=Zh (Xam H1.out ht7 (by omega))
   replace H2:=Zh (Xam H2.out ht7 (by omega))
   replace H3:=Zh (Xam H3.out ht7 (by omega))
   replace H4:=Zh (Xam H4.out ht7 (by omega))
   replace H5:=Zh (Xam H5.out ht7 (by omega))
   replace HB:=Zh (Xaw HB.out (HB.out.size) ht7 (by omega))
   replace H6:=Zh (Xam H6.out ht7 (by omega))
   replace H7:=Zh (Xam H7.out ht7 (by omega))
   have hz7:=ht7.2
   have hz7a:w7.heap.size≤w6.heap.size:=Nat.le_of_eq hz7
   have hz7b:w6.heap.size≤w7.heap.size:=Nat.le_of_eq hz7.symm
   clear ho7 ht7 hz7 n6 n7
   refine Xcy (by kernel_rfl) _ _ _ _ _ _ rfl rfl rfl rfl rfl rfl rfl (by kernel_rfl) (by kernel_rfl) (by kernel_rfl) (by kernel_rfl) (by kernel_rfl) (by kernel_rfl) (by kernel_rfl) (by kernel_rfl) (by kernel_rfl) (by kernel_rfl) (by kernel_rfl) rfl rfl rfl rfl rfl rfl 24 26 31 (.tmp 3) (.tmp 12) (.tmp 5) (.tmp 6) (.tmp 7) (.tmp 8) (.tmp 259) (.tmp 260) (.tmp 261) rfl rfl rfl rfl rfl rfl w.heap.size g12 (w.heap.size+1+1) (w.heap.size+1+1+1) (w.heap.size+1+1+1+1) (w.heap.size+1+1+1+1+1) #[.slice (some ⟨gM,oM,none⟩) 512 mc] #[.int .i64 ((at_+1) % 512),.slice (some ⟨g2,0,none⟩) 8 d2,.bool false] (B_.b b L n c) _ _ _ Tryz.underlying24 Tryz.underlying26 Tryz.underlying31 rfl rfl rfl Tryz.sizeMem Tryz.sizeHart Tryz.sizeBrg rfl rfl rfl rfl rfl rfl rfl rfl rfl rfl rfl rfl _ _ _ _ _ _ H0.out H7.out H2.out _ _ _ H3.out H4.out H5.out rfl rfl rfl (by omega) (by omega) (by omega) (by omega) (by omega) (by omega) (by omega) (by omega) (by omega) (by omega) (by omega) (by omega) (fun _ _ _ _ h=>h) (fun _ _ _ _ h=>h) (fun _ _ _ _ h=>h) ?_
   intro w9 c9 q1 q2 q3
   have Q1:=Zh q1
   have Q2:=Zh q2
   have Q3:=Zh q3
   have hz9:=c9.size
   have HB9:=Zh (Xa8 HB.out (HB.out.size) c9 (fun q hq e=>by omega))
   have HO9:=Zh (Xbu HO.out c9 (fun ad e hp=>by injection e with e;subst e;simp only[]at hp;omega))
   clear q1 q2 q3 c9
   go_wp2
   refine bodyPost_ret (v:=.tuple #[.agg #[.slice (some ⟨gM,oM,none⟩) 512 mc],.agg #[.int .i64 ((at_+1) % 512),.slice (some ⟨g2,0,none⟩) 8 d2,.bool false],.agg (B_.b b L n c)]) ?_ rfl ⟨_,_,_,_,rfl,Xaf HM.out HB9.out,(by show Ints _ _ _ _ (rs.set ka (shM (rd rs ka) ki));rw[HSH.out];exact HO9.out.ints (by decide)),Xah HL.out HB9.out,HB9.out,Xbo _ _, ?_⟩
   ·exact Xce Tryz.results34 rfl rfl rfl (run_loadVar_mid w9 _ 0 24 _ _ Q1.out Tryz.underlying24 rfl Tryz.sizeMem) (run_loadVar_mid w9 _ 0 26 _ _ Q2.out Tryz.underlying26 rfl Tryz.sizeHart) (run_loadVar_mid w9 _ 0 31 _ _ Q3.out Tryz.underlying31 rfl Tryz.sizeBrg)
   ·intro ad e;injection e with e;subst e;exact Or.inr (by show _≤g2;omega)
include hm hr hl c1 c2 in
theorem stp_6y (ka kd ki:Nat) (hV:rdV (rd xs at_)=.tuple #[.agg #[.int .i64 6,.int .i64 ka,.int .i64 kd,.int .i64 ki],.int .i64 0]) (ha:ka<8) (hd:kd<8) (hi:ki≤63) (hq:rd rs ka=rd rs kd) :
  Calls Tryz.prog 34 #[.agg #[.slice M 512 mc],.agg #[.int .i64 at_,.slice R 8 rc,.bool false],.agg (B_.b b L n c)] w (StpW w M R L n c (xs,⟨ki,rs,false⟩,b)):=by
 refine zSt ⟨trivial, ?_⟩ M R hm hr hl c1 c2 hV ha hd hi
 clear hm hr hl c1 c2 hV ha hd hi
 intro hV ha hd hi HC2 HXL HL hAt1 hAt2 HRL gM oM HM lM gR oR HR lR HX HMC HRC w0 hz0a hz0b w1 hz1 w2 hz2a hz2b i0 wc;(iterate 223 intro);intro g12 g2 d2 hg1 hg2 hg3 hzc ub vb K_ a_ nq w6 hz6a hz6b HO H0 H1 H2 H3 H4 H5 HB H6 H7 hg4 hg5
 have q1:(rd rs ka==rd rs kd)=true:=by rw[beq_iff_eq];exact hq
 clear hq
 have n7:=fun o=>Xad H7.out o
 have n6:=fun o=>Xad H6.out o
 go_upto_region 63 with(refine Xau rfl 3 (.tmp 156) (.tmp 155) rfl g12 0 _ _ #[.int .i64 (ki:Int),.slice (some ⟨g2,0,none⟩) 8 d2,.bool false] (.int .i64 (ki:Int)) rfl rfl H7.out Tryz.sizeInt (of_decide_eq_true rfl) rfl rfl ?_;intro w7 h7 ht7)
 replace HO:=Zh (Xbu HO.out ht7.1 (fun ad e hp=>by injection e with e;subst e;simp only[]at hp;omega))
 replace H0:=Zh (Xam H0.out ht7 (by omega))
 replace H1:=Zh (Xam H1.out ht7 (by omega))
 replace H2:=Zh (Xam H2.out ht7 (by omega))
 replace H3:=Zh (Xam H3.out ht7 (by omega))
 replace H4:=Zh (Xam H4.out ht7 (by omega))
 replace H5:=Zh (Xam H5.out ht7 (by omega))
 replace HB:=Zh (Xaw HB.out (HB.out.size) ht7 (by omega))
 replace H6:=Zh (Xam H6.out ht7 (by omega))
 replace H7:=Zh h7
 have hz7:=ht7.2
 have hz7a:w7.heap.size≤w6.heap.size:=Nat.le_of_eq hz7
 have hz7b:w6.heap.size≤w7.heap.size:=Nat.le_of_eq hz7.symm
 clear h7 ht7 hz7 n6 n7
 refine Xcy (by kernel_rfl) _ _ _ _ _ _ rfl rfl rfl rfl rfl rfl rfl (by kernel_rfl) (by kernel_rfl) (by kernel_rfl) (by kernel_rfl) (by kernel_rfl) (by kernel_rfl) (by kernel_rfl) (by kernel_rfl) (by kernel_rfl) (by kernel_rfl) (by kernel_rfl) rfl rfl rfl rfl rfl rfl 24 26 31 (.tmp 3) (.tmp 12) (.tmp 5) (.tmp 6) (.tmp 7) (.tmp 8) (.tmp 259) (.tmp 260) (.tmp 261) rfl rfl rfl rfl rfl rfl w.heap.size g12 (w.heap.size+1+1) (w.heap.size+1+1+1) (w.heap.size+1+1+1+1) (w.heap.size+1+1+1+1+1) #[.slice (some ⟨gM,oM,none⟩) 512 mc] #[.int .i64 (ki),.slice (some ⟨g2,0,none⟩) 8 d2,.bool false] (B_.b b L n c) _ _ _ Tryz.underlying24 Tryz.underlying26 Tryz.underlying31 rfl rfl rfl Tryz.sizeMem Tryz.sizeHart Tryz.sizeBrg rfl rfl rfl rfl rfl rfl rfl rfl rfl rfl rfl rfl _ _ _ _ _ _ H0.out H7.out H2.out _ _ _ H3.out H4.out H5.out rfl rfl rfl (by omega) (by omega) (by omega) (by omega) (by omega) (by omega) (by omega) (by omega) (by omega) (by omega) (by omega) (by omega) (fun _ _ _ _ h=>h) (fun _ _ _ _ h=>h) (fun _ _ _ _ h=>h) ?_
 intro w9 c9 q1 q2 q3
 have Q1:=Zh q1
 have Q2:=Zh q2
 have Q3:=Zh q3
 have hz9:=c9.size
 have HB9:=Zh (Xa8 HB.out (HB.out.size) c9 (fun q hq e=>by omega))
 have HO9:=Zh (Xbu HO.out c9 (fun ad e hp=>by injection e with e;subst e;simp only[]at hp;omega))
 clear q1 q2 q3 c9
 go_wp2
 refine bodyPost_ret (v:=.tuple #[.agg #[.slice (some ⟨gM,oM,none⟩) 512 mc],.agg #[.int .i64 (ki),.slice (some ⟨g2,0,none⟩) 8 d2,.bool false],.agg (B_.b b L n c)]) ?_ rfl ⟨_,_,_,_,rfl,Xaf HM.out HB9.out,HO9.out.ints (by decide),Xah HL.out HB9.out,HB9.out,Xbo _ _, ?_⟩
 ·exact Xce Tryz.results34 rfl rfl rfl (run_loadVar_mid w9 _ 0 24 _ _ Q1.out Tryz.underlying24 rfl Tryz.sizeMem) (run_loadVar_mid w9 _ 0 26 _ _ Q2.out Tryz.underlying26 rfl Tryz.sizeHart) (run_loadVar_mid w9 _ 0 31 _ _ Q3.out Tryz.underlying31 rfl Tryz.sizeBrg)
 ·intro ad e;injection e with e;subst e;exact Or.inr (by show _≤g2;omega)
end
end Go.Proofs.YtbopdijnojaaiadGreat
