/- The hart: the walk of the document's Stepped, part E. No statement of the seat is proved here. -/
import Derived.Test.YtbopdijnojaaiadGreatRefW
namespace Go.Proofs.YtbopdijnojaaiadGreat
set_option maxRecDepth 100000
set_option maxHeartbeats 8000000
open Go.RowKit
set_option linter.unusedSimpArgs false
set_option linter.unusedVariables false
section
variable (xs:List Int) (at_:Int) (rs:List Int) (b:Brg) (M R L:Option Addr) (mc rc n c:Nat) (w:World) (hm:Ints w w.heap.size M 512 xs) (hr:Ints w w.heap.size R 8 rs) (hl:Lines w w.heap.size L n c b.cache) (c1:cm xs=0) (c2:ckH ⟨at_,rs,false⟩=0)
include hm hr hl c1 c2 in
theorem stp_8y (ka kd ki:Nat) (hV:rdV (rd xs at_)=.tuple #[.agg #[.int .i64 8,.int .i64 ka,.int .i64 kd,.int .i64 ki],.int .i64 0]) (ha:ka<8) (hd:kd<8) (hi:ki≤63) (hq:ki<10) :
  Calls Tryz.prog 34 #[.agg #[.slice M 512 mc],.agg #[.int .i64 at_,.slice R 8 rc,.bool false],.agg (B_.b b L n c)] w (StpW w M R L n c (xs,⟨(at_+1) % 512,rs.set ka (Xf4 b ki),false⟩,b)):=by
 refine zSt ⟨trivial, ?_⟩ M R hm hr hl c1 c2 hV ha hd hi
 clear hm hr hl c1 c2 hV ha hd hi
 intro hV ha hd hi HC2 HXL HL hAt1 hAt2 HRL gM oM HM lM gR oR HR lR HX HMC HRC w0 hz0a hz0b w1 hz1 w2 hz2a hz2b i0 wc;(iterate 223 intro);intro g12 g2 d2 hg1 hg2 hg3 hzc ub vb K_ a_ nq w6 hz6a hz6b HO H0 H1 H2 H3 H4 H5 HB H6 H7 hg4 hg5
 obtain⟨sb,hsb⟩:∃ s,s=b.stopped:=⟨_,rfl⟩
 obtain⟨lb,hlb⟩:∃ s,s=b.lost:=⟨_,rfl⟩
 have H2s:=Zh (show Whl w6 (w.heap.size+1+1) 31 #[.int .i64 b.mode,.int .i64 b.base,.slice L n c,.int .i64 b.orders.page,.int .i64 b.orders.head,.int .i64 b.orders.tail,.bool sb,.int .i64 b.fences,.int .i64 b.faults.page,.int .i64 b.faults.head,.int .i64 b.faults.tail,.bool lb] by rw[hsb,hlb];exact H2.out)
 have HST:=Zh (show stB b=(if sb then 1 else 0)+(if lb then 2 else 0) by unfold stB;rw[hsb,hlb])
 clear hsb hlb
 have k2:=fun o=>Xad H2s.out o
 have n63:w6.cell? ⟨w1.heap.size,3,none⟩=some (.int .i64 (ki:Int)):=Xad H6.out 3
 have n60:w6.cell? ⟨w1.heap.size,0,none⟩=some (.int .i64 8):=Xad H6.out 0
 have e0:IntKind.i64.wrap (0+1)=1:=by decide
 have e1:IntKind.i64.wrap (0+2)=2:=by decide
 have e2:IntKind.i64.wrap (1+2)=3:=by decide
 cases sb<;>cases lb
 all_goals
  go_upto_region 38 with(fail)
  generalize hwb:World.alloc w6 _=w7
  have H8:=Zh (show Whl w7 w6.heap.size 3 _ by rw[←hwb];exact Xac _ _ _ rfl)
  have hb:Below w6.heap.size w6 w7:=by rw[←hwb];exact Xag _ _
  have hz7:w6.heap.size<w7.heap.size:=by rw[←hwb];simp
  replace HO:=Zh (show OwnI w2.heap.size w7 (some ⟨g2,0,none⟩) 8 d2 rs by rw[←hwb];exact HO.out.alloc _)
  replace H0:=Zh (Xaa H0.out hb)
  replace H1:=Zh (Xaa H1.out hb)
  replace H2:=Zh (Xaa H2.out hb)
  replace H3:=Zh (Xaa H3.out hb)
  replace H4:=Zh (Xaa H4.out hb)
  replace H5:=Zh (Xaa H5.out hb)
  replace HB:=Zh (HB.out.trans (hb.mono HB.out.size))
  replace H6:=Zh (Xaa H6.out hb)
  replace H7:=Zh (Xaa H7.out hb)
  clear hb hwb k2 n63 n60 H2s
  have n8:w7.cell? ⟨w6.heap.size,ki,none⟩=some (.int .i64 (Xf4 b ki)):=(Xad H8.out ki).trans (by have h:=Xwd b (k:=ki) hq;rw[HST.out]at h;exact h)
  have qi:(0:Int)≤(ki:Int):=by omega
  have qj:(ki:Int)<10:=by omega
  have n7:=fun o=>Xad H7.out o
  have n6:=fun o=>Xad H6.out o
  have o0:=(Xb3 HO.out (by decide))
  obtain⟨_,eo,eo1,eo2,hoc,hof,hos⟩:=o0
  injection eo with eo;injection eo with eo;subst eo
  have o0:=hoc _ _ (Xb1 (k:=(ka:Int)) HRL.out (by omega) (by omega))
  simp only[Int.toNat_natCast]at o0
  clear hoc hos eo1 eo2
  go_upto_region 40 with(fail)
  go_region
  generalize hwc:(w7.setCell ⟨g2,ka,none⟩ (.int .i64 (Xf4 b ki))).drew=w9
  have ht7:Trn g2 w7 w9:=by rw[←hwc];have h:=Xhx (w:=w7) (g:=g2) (by have:=(Xat HO.out.2 _ rfl).2;simpa using this) ka (.int .i64 (Xf4 b ki));exact⟨Xa5 h.1,h.2⟩
  have ho7:OwnI w2.heap.size w9 (some ⟨g2,0,none⟩) 8 d2 (rs.set ka (Xf4 b ki)):=by rw[←hwc];exact(Xh2 HO.out ha (Xf4 b ki)).drewN 1
  clear hwc o0 hof
  clear n8
  replace HO:=Zh ho7
  replace H0:=Zh (Xam H0.out ht7 (by omega))
  replace H1:=Zh (Xam H1.out ht7 (by omega))
  replace H2:=Zh (Xam H2.out ht7 (by omega))
  replace H3:=Zh (Xam H3.out ht7 (by omega))
  replace H4:=Zh (Xam H4.out ht7 (by omega))
  replace H5:=Zh (Xam H5.out ht7 (by omega))
  replace HB:=Zh (Xaw HB.out (HB.out.size) ht7 (by omega))
  replace H6:=Zh (Xam H6.out ht7 (by omega))
  replace H7:=Zh (Xam H7.out ht7 (by omega))
  have hz9:=ht7.2
  have hz9a:w9.heap.size≤w7.heap.size:=Nat.le_of_eq hz9
  have hz9b:w7.heap.size≤w9.heap.size:=Nat.le_of_eq hz9.symm
  clear ho7 ht7 hz9 n6 n7
  go_upto_region 63 with(fail)
  refine Xcy (by kernel_rfl) _ _ _ _ _ _ rfl rfl rfl rfl rfl rfl rfl (by kernel_rfl) (by kernel_rfl) (by kernel_rfl) (by kernel_rfl) (by kernel_rfl) (by kernel_rfl) (by kernel_rfl) (by kernel_rfl) (by kernel_rfl) (by kernel_rfl) (by kernel_rfl) rfl rfl rfl rfl rfl rfl 24 26 31 (.tmp 3) (.tmp 12) (.tmp 5) (.tmp 6) (.tmp 7) (.tmp 8) (.tmp 259) (.tmp 260) (.tmp 261) rfl rfl rfl rfl rfl rfl w.heap.size g12 (w.heap.size+1+1) (w.heap.size+1+1+1) (w.heap.size+1+1+1+1) (w.heap.size+1+1+1+1+1) #[.slice (some ⟨gM,oM,none⟩) 512 mc] #[.int .i64 ((at_+1) % 512),.slice (some ⟨g2,0,none⟩) 8 d2,.bool false] (B_.b b L n c) _ _ _ Tryz.underlying24 Tryz.underlying26 Tryz.underlying31 rfl rfl rfl Tryz.sizeMem Tryz.sizeHart Tryz.sizeBrg rfl rfl rfl rfl rfl rfl rfl rfl rfl rfl rfl rfl _ _ _ _ _ _ H0.out H7.out H2.out _ _ _ H3.out H4.out H5.out rfl rfl rfl (by omega) (by omega) (by omega) (by omega) (by omega) (by omega) (by omega) (by omega) (by omega) (by omega) (by omega) (by omega) (fun _ _ _ _ h=>h) (fun _ _ _ _ h=>h) (fun _ _ _ _ h=>h) ?_
  intro wE c9 q1 q2 q3
  have Q1:=Zh q1
  have Q2:=Zh q2
  have Q3:=Zh q3
  have hzE:=c9.size
  have HBE:=Zh (Xa8 HB.out (HB.out.size) c9 (fun q hq e=>by omega))
  have HOE:=Zh (Xbu HO.out c9 (fun ad e hp=>by injection e with e;subst e;simp only[]at hp;omega))
  clear q1 q2 q3 c9
  go_wp2
  refine bodyPost_ret (v:=.tuple #[.agg #[.slice (some ⟨gM,oM,none⟩) 512 mc],.agg #[.int .i64 ((at_+1) % 512),.slice (some ⟨g2,0,none⟩) 8 d2,.bool false],.agg (B_.b b L n c)]) ?_ rfl ⟨_,_,_,_,rfl,Xaf HM.out HBE.out,HOE.out.ints (by decide),Xah HL.out HBE.out,HBE.out,Xbo _ _, ?_⟩
  ·exact Xce Tryz.results34 rfl rfl rfl (run_loadVar_mid wE _ 0 24 _ _ Q1.out Tryz.underlying24 rfl Tryz.sizeMem) (run_loadVar_mid wE _ 0 26 _ _ Q2.out Tryz.underlying26 rfl Tryz.sizeHart) (run_loadVar_mid wE _ 0 31 _ _ Q3.out Tryz.underlying31 rfl Tryz.sizeBrg)
  ·intro ad e;injection e with e;subst e;exact Or.inr (by show _≤g2;omega)
include hm hr hl c1 c2 in
theorem stp_8n (ka kd ki:Nat) (hV:rdV (rd xs at_)=.tuple #[.agg #[.int .i64 8,.int .i64 ka,.int .i64 kd,.int .i64 ki],.int .i64 0]) (ha:ka<8) (hd:kd<8) (hi:ki≤63) (hq:¬ki<10) :
  Calls Tryz.prog 34 #[.agg #[.slice M 512 mc],.agg #[.int .i64 at_,.slice R 8 rc,.bool false],.agg (B_.b b L n c)] w (StpW w M R L n c (xs,⟨at_,rs,true⟩,b)):=by
 refine zSt ⟨trivial, ?_⟩ M R hm hr hl c1 c2 hV ha hd hi
 clear hm hr hl c1 c2 hV ha hd hi
 intro hV ha hd hi HC2 HXL HL hAt1 hAt2 HRL gM oM HM lM gR oR HR lR HX HMC HRC w0 hz0a hz0b w1 hz1 w2 hz2a hz2b i0 wc;(iterate 223 intro);intro g12 g2 d2 hg1 hg2 hg3 hzc ub vb K_ a_ nq w6 hz6a hz6b HO H0 H1 H2 H3 H4 H5 HB H6 H7 hg4 hg5
 obtain⟨sb,hsb⟩:∃ s,s=b.stopped:=⟨_,rfl⟩
 obtain⟨lb,hlb⟩:∃ s,s=b.lost:=⟨_,rfl⟩
 have H2s:=Zh (show Whl w6 (w.heap.size+1+1) 31 #[.int .i64 b.mode,.int .i64 b.base,.slice L n c,.int .i64 b.orders.page,.int .i64 b.orders.head,.int .i64 b.orders.tail,.bool sb,.int .i64 b.fences,.int .i64 b.faults.page,.int .i64 b.faults.head,.int .i64 b.faults.tail,.bool lb] by rw[hsb,hlb];exact H2.out)
 have HST:=Zh (show stB b=(if sb then 1 else 0)+(if lb then 2 else 0) by unfold stB;rw[hsb,hlb])
 clear hsb hlb
 have k2:=fun o=>Xad H2s.out o
 have n63:w6.cell? ⟨w1.heap.size,3,none⟩=some (.int .i64 (ki:Int)):=Xad H6.out 3
 have n60:w6.cell? ⟨w1.heap.size,0,none⟩=some (.int .i64 8):=Xad H6.out 0
 have e0:IntKind.i64.wrap (0+1)=1:=by decide
 have e1:IntKind.i64.wrap (0+2)=2:=by decide
 have e2:IntKind.i64.wrap (1+2)=3:=by decide
 cases sb<;>cases lb
 all_goals
  go_upto_region 38 with(fail)
  generalize hwb:World.alloc w6 _=w7
  have H8:=Zh (show Whl w7 w6.heap.size 3 _ by rw[←hwb];exact Xac _ _ _ rfl)
  have hb:Below w6.heap.size w6 w7:=by rw[←hwb];exact Xag _ _
  have hz7:w6.heap.size<w7.heap.size:=by rw[←hwb];simp
  replace HO:=Zh (show OwnI w2.heap.size w7 (some ⟨g2,0,none⟩) 8 d2 rs by rw[←hwb];exact HO.out.alloc _)
  replace H0:=Zh (Xaa H0.out hb)
  replace H1:=Zh (Xaa H1.out hb)
  replace H2:=Zh (Xaa H2.out hb)
  replace H3:=Zh (Xaa H3.out hb)
  replace H4:=Zh (Xaa H4.out hb)
  replace H5:=Zh (Xaa H5.out hb)
  replace HB:=Zh (HB.out.trans (hb.mono HB.out.size))
  replace H6:=Zh (Xaa H6.out hb)
  replace H7:=Zh (Xaa H7.out hb)
  clear hb hwb k2 n63 n60 H2s
  have qj:9<(ki:Int):=by omega
  clear hq
  have n6:=fun o=>Xad H6.out o
  go_wp2_with fail
  refine(Xfe w.heap.size (w.heap.size+1) (w.heap.size+1+1) at_ _ rc false _ mc b L n c _ H0.out H1.out H2.out (by omega) (by omega)).mono ?_
  rintro e w8 ⟨rfl,hc8⟩
  have y3:=Xa6 H3.out hc8 (by omega)
  have y4:=Xa6 H4.out hc8 (by omega)
  have y5:=Xa6 H5.out hc8 (by omega)
  have HB8:=Zh (Xa8 HB.out HB.out.size hc8 (fun q hq e=>by omega))
  clear hc8
  go_wp2_with (first
   |(refine Xaj rfl 24 (.tmp 6) (.tmp 198) rfl (w.heap.size+1+1+1) _ _ #[.slice (some ⟨gM,oM,none⟩) 512 mc] rfl rfl y3 Tryz.sizeMem rfl rfl ?_;intro w9 h9 t9;have y4:=Xam y4 t9 (by omega);have y5:=Xam y5 t9 (by omega))
   |(refine Xaj rfl 26 (.tmp 7) (.tmp 199) rfl (w.heap.size+1+1+1+1) _ _ #[.int .i64 at_,.slice (some ⟨gR,oR,none⟩) 8 rc,.bool true] rfl rfl y4 Tryz.sizeHart rfl rfl ?_;intro w10 h10 t10;have y5:=Xam y5 t10 (by omega);have h9:=Xam h9 t10 (by omega))
   |(refine Xaj rfl 31 (.tmp 8) (.tmp 200) rfl (w.heap.size+1+1+1+1+1) _ _ (B_.b b L n c) rfl rfl y5 Tryz.sizeBrg rfl rfl ?_;intro w11 h11 t11;have h9:=Xam h9 t11 (by omega);have h10:=Xam h10 t11 (by omega)))
  have HBE:=Zh (Xaw (Xaw (Xaw HB8.out HB8.out.size t9 (by omega)) (by rw[t9.2];exact HB8.out.size) t10 (by omega)) (by rw[t10.2,t9.2];exact HB8.out.size) t11 (by omega))
  have P9:=Zh h9
  have P10:=Zh h10
  have P11:=Zh h11
  clear t9 t10 t11 h9 h10 h11 y3 y4 y5
  go_wp2
  refine bodyPost_ret (v:=.tuple #[.agg #[.slice (some ⟨gM,oM,none⟩) 512 mc],.agg #[.int .i64 at_,.slice (some ⟨gR,oR,none⟩) 8 rc,.bool true],.agg (B_.b b L n c)]) ?_ rfl ⟨_,_,_,_,rfl,Xaf HM.out HBE.out,Xaf HR.out HBE.out,Xah HL.out HBE.out,HBE.out,Xbo _ _,Xbo _ _⟩
  exact Xce Tryz.results34 rfl rfl rfl (Xbx P9.out _ Tryz.underlying24 rfl Tryz.sizeMem) (Xbx P10.out _ Tryz.underlying26 rfl Tryz.sizeHart) (Xbx P11.out _ Tryz.underlying31 rfl Tryz.sizeBrg)
end
end Go.Proofs.YtbopdijnojaaiadGreat
