/- The hart: the walk of the document's Stepped, part D. No statement of the seat is proved here. -/
import Derived.Test.YtbopdijnojaaiadGreatRefW
namespace Go.Proofs.YtbopdijnojaaiadGreat
set_option maxRecDepth 100000
set_option maxHeartbeats 8000000
open Go.RowKit
set_option linter.unusedSimpArgs false
set_option linter.unusedVariables false
section
variable (xs:List Int) (at_:Int) (rs:List Int) (b:Brg) (M R L:Option Addr) (mc rc n c:Nat) (w:World) (hm:Ints w w.heap.size M 512 xs) (hr:Ints w w.heap.size R 8 rs) (hl:Lines w w.heap.size L n c b.cache) (c1:cm xs=0) (c2:ckH ⟨at_,rs,false⟩=0)
include hm hr hl c1 c2 in
theorem stp_7n (ka kd ki:Nat) (hV:rdV (rd xs at_)=.tuple #[.agg #[.int .i64 7,.int .i64 ka,.int .i64 kd,.int .i64 ki],.int .i64 0]) (ha:ka<8) (hd:kd<8) (hi:ki≤63) (hq:¬rd rs ka≤Xd3 ki) :
  Calls Tryz.prog 34 #[.agg #[.slice M 512 mc],.agg #[.int .i64 at_,.slice R 8 rc,.bool false],.agg (B_.b b L n c)] w (StpW w M R L n c (xs,⟨at_,rs,true⟩,b)):=by
 refine zSt ⟨trivial, ?_⟩ M R hm hr hl c1 c2 hV ha hd hi
 clear hm hr hl c1 c2 hV ha hd hi
 intro hV ha hd hi HC2 HXL HL hAt1 hAt2 HRL gM oM HM lM gR oR HR lR HX HMC HRC w0 hz0a hz0b w1 hz1 w2 hz2a hz2b i0 wc;(iterate 223 intro);intro g12 g2 d2 hg1 hg2 hg3 hzc ub vb K_ a_ nq w6 hz6a hz6b HO H0 H1 H2 H3 H4 H5 HB H6 H7 hg4 hg5
 have n6:=fun o=>Xad H6.out o
 go_upto_region 43 with(first|(refine Xao rfl 31 (.tmp 5) rfl (w.heap.size+1+1) _ _ rfl H2.out _ Tryz.underlying31 rfl Tryz.sizeBrg ?_)|(refine Xb6 rfl 31 (.tmp 17) (.tmp 213) rfl _ _ _ _ rfl rfl (by rfl) (by rfl) Tryz.sizeBrg rfl (by rfl) ?_))
 generalize hwb:w6.alloc (.cells (B_.b b L n c) 31)=w7
 have HQ:=Zh (show Whl w7 w6.heap.size 31 (B_.b b L n c) by rw[←hwb];exact Xac _ _ _ rfl)
 have hb:Below w6.heap.size w6 w7:=by rw[←hwb];exact Xag _ _
 have hz7:w6.heap.size<w7.heap.size:=by rw[←hwb];simp
 replace HO:=Zh (show OwnI w2.heap.size w7 (some ⟨g2,0,none⟩) 8 d2 rs by rw[←hwb];exact HO.out.alloc _)
 replace H0:=Zh (Xaa H0.out hb)
 replace H1:=Zh (Xaa H1.out hb)
 replace H2:=Zh (Xaa H2.out hb)
 replace H3:=Zh (Xaa H3.out hb)
 replace H4:=Zh (Xaa H4.out hb)
 replace H5:=Zh (Xaa H5.out hb)
 replace HB:=Zh (HB.out.trans (hb.mono HB.out.size))
 replace H6:=Zh (Xaa H6.out hb)
 replace H7:=Zh (Xaa H7.out hb)
 clear hb hwb n6
 (try go_frame)
 go_cut [18] (fun s18 wd=>s18=.int .i64 63∧wd=w7)
 case first=>
  go_wp2
  go_meet
  exact⟨rfl,rfl⟩
 case rest=>
 obtain⟨rfl,rfl⟩:=hcut
 obtain⟨w7,hw7⟩:∃ w7,w7=wc:=⟨_,rfl⟩
 subst hw7
 go_step
 go_step
 go_cut [18] (fun s18 wd=>s18=.int .i64 (Xd3 ki)∧Whl wd w6.heap.size 31 (B_.b (Xh4 b ki (rd rs ka)) L n c)∧Chg (fun q=>q=w6.heap.size) w7 wd)
 case first=>
  by_cases z0:ki=0
  ·as_aux_lemma=>
   have n63:w7.cell? ⟨w1.heap.size,3,none⟩=some (.int .i64 0):=(Xad H6.out 3).trans (by show some (Value.int .i64 (ki:Int))=_;rw[z0];rfl)
   go_wp2_with ((refine Xau rfl 3 (.tmp 219) (.tmp 218) rfl w6.heap.size 0 _ _ #[.int .i64 (rd rs ka),.int .i64 b.base,.slice L n c,.int .i64 b.orders.page,.int .i64 b.orders.head,.int .i64 b.orders.tail,.bool b.stopped,.int .i64 b.fences,.int .i64 b.faults.page,.int .i64 b.faults.head,.int .i64 b.faults.tail,.bool b.lost] (.int .i64 (rd rs ka)) rfl rfl HQ.out Tryz.sizeInt (of_decide_eq_true rfl) rfl rfl ?_;intro w8 h8 t8))
   go_meet
   exact⟨by rw[z0];rfl,Xej h8 (by rw[z0];rfl),t8.1⟩
  by_cases z1:ki=1
  ·as_aux_lemma=>
   have n63:w7.cell? ⟨w1.heap.size,3,none⟩=some (.int .i64 1):=(Xad H6.out 3).trans (by show some (Value.int .i64 (ki:Int))=_;rw[z1];rfl)
   go_wp2_with ((refine Xau rfl 3 (.tmp 223) (.tmp 222) rfl w6.heap.size 1 _ _ #[.int .i64 b.mode,.int .i64 (rd rs ka),.slice L n c,.int .i64 b.orders.page,.int .i64 b.orders.head,.int .i64 b.orders.tail,.bool b.stopped,.int .i64 b.fences,.int .i64 b.faults.page,.int .i64 b.faults.head,.int .i64 b.faults.tail,.bool b.lost] (.int .i64 (rd rs ka)) rfl rfl HQ.out Tryz.sizeInt (of_decide_eq_true rfl) rfl rfl ?_;intro w8 h8 t8))
   go_meet
   exact⟨by rw[z1];rfl,Xej h8 (by rw[z1];rfl),t8.1⟩
  by_cases z2:ki=2
  ·as_aux_lemma=>
   have n63:w7.cell? ⟨w1.heap.size,3,none⟩=some (.int .i64 2):=(Xad H6.out 3).trans (by show some (Value.int .i64 (ki:Int))=_;rw[z2];rfl)
   go_wp2_with ((refine Xau rfl 3 (.tmp 228) (.tmp 226) rfl w6.heap.size 3 _ _ #[.int .i64 b.mode,.int .i64 b.base,.slice L n c,.int .i64 (rd rs ka),.int .i64 b.orders.head,.int .i64 b.orders.tail,.bool b.stopped,.int .i64 b.fences,.int .i64 b.faults.page,.int .i64 b.faults.head,.int .i64 b.faults.tail,.bool b.lost] (.int .i64 (rd rs ka)) rfl rfl HQ.out Tryz.sizeInt (of_decide_eq_true rfl) rfl rfl ?_;intro w8 h8 t8))
   go_meet
   exact⟨by rw[z2];rfl,Xej h8 (by rw[z2];rfl),t8.1⟩
  by_cases z3:ki=3
  ·as_aux_lemma=>
   have n63:w7.cell? ⟨w1.heap.size,3,none⟩=some (.int .i64 3):=(Xad H6.out 3).trans (by show some (Value.int .i64 (ki:Int))=_;rw[z3];rfl)
   go_wp2_with ((refine Xau rfl 3 (.tmp 233) (.tmp 231) rfl w6.heap.size 5 _ _ #[.int .i64 b.mode,.int .i64 b.base,.slice L n c,.int .i64 b.orders.page,.int .i64 b.orders.head,.int .i64 (rd rs ka),.bool b.stopped,.int .i64 b.fences,.int .i64 b.faults.page,.int .i64 b.faults.head,.int .i64 b.faults.tail,.bool b.lost] (.int .i64 (rd rs ka)) rfl rfl HQ.out Tryz.sizeInt (of_decide_eq_true rfl) rfl rfl ?_;intro w8 h8 t8))
   go_meet
   exact⟨by rw[z3];rfl,Xej h8 (by rw[z3];rfl),t8.1⟩
  by_cases z5:ki=5
  ·as_aux_lemma=>
   have n63:w7.cell? ⟨w1.heap.size,3,none⟩=some (.int .i64 5):=(Xad H6.out 3).trans (by show some (Value.int .i64 (ki:Int))=_;rw[z5];rfl)
   go_wp2_with ((refine Xau rfl 3 (.tmp 238) (.tmp 236) rfl w6.heap.size 8 _ _ #[.int .i64 b.mode,.int .i64 b.base,.slice L n c,.int .i64 b.orders.page,.int .i64 b.orders.head,.int .i64 b.orders.tail,.bool b.stopped,.int .i64 b.fences,.int .i64 (rd rs ka),.int .i64 b.faults.head,.int .i64 b.faults.tail,.bool b.lost] (.int .i64 (rd rs ka)) rfl rfl HQ.out Tryz.sizeInt (of_decide_eq_true rfl) rfl rfl ?_;intro w8 h8 t8))
   go_meet
   exact⟨by rw[z5];rfl,Xej h8 (by rw[z5];rfl),t8.1⟩
  by_cases z6:ki=6
  ·as_aux_lemma=>
   have n63:w7.cell? ⟨w1.heap.size,3,none⟩=some (.int .i64 6):=(Xad H6.out 3).trans (by show some (Value.int .i64 (ki:Int))=_;rw[z6];rfl)
   go_wp2_with ((refine Xau rfl 3 (.tmp 243) (.tmp 241) rfl w6.heap.size 9 _ _ #[.int .i64 b.mode,.int .i64 b.base,.slice L n c,.int .i64 b.orders.page,.int .i64 b.orders.head,.int .i64 b.orders.tail,.bool b.stopped,.int .i64 b.fences,.int .i64 b.faults.page,.int .i64 (rd rs ka),.int .i64 b.faults.tail,.bool b.lost] (.int .i64 (rd rs ka)) rfl rfl HQ.out Tryz.sizeInt (of_decide_eq_true rfl) rfl rfl ?_;intro w8 h8 t8))
   go_meet
   exact⟨by rw[z6];rfl,Xej h8 (by rw[z6];rfl),t8.1⟩
  by_cases z9:ki=9
  ·as_aux_lemma=>
   have n63:w7.cell? ⟨w1.heap.size,3,none⟩=some (.int .i64 9):=(Xad H6.out 3).trans (by show some (Value.int .i64 (ki:Int))=_;rw[z9];rfl)
   go_wp2_with (first|(refine Xau rfl 4 (.tmp 246) (.const (.bool false)) rfl w6.heap.size 6 _ _ #[.int .i64 b.mode,.int .i64 b.base,.slice L n c,.int .i64 b.orders.page,.int .i64 b.orders.head,.int .i64 b.orders.tail,.bool false,.int .i64 b.fences,.int .i64 b.faults.page,.int .i64 b.faults.head,.int .i64 b.faults.tail,.bool b.lost] (.bool false) rfl rfl HQ.out Tryz.sizeBool (of_decide_eq_true rfl) rfl rfl ?_;intro w8 h8 t8)|(refine Xau rfl 4 (.tmp 247) (.const (.bool false)) rfl w6.heap.size 11 _ _ #[.int .i64 b.mode,.int .i64 b.base,.slice L n c,.int .i64 b.orders.page,.int .i64 b.orders.head,.int .i64 b.orders.tail,.bool false,.int .i64 b.fences,.int .i64 b.faults.page,.int .i64 b.faults.head,.int .i64 b.faults.tail,.bool false] (.bool false) rfl rfl h8 Tryz.sizeBool (of_decide_eq_true rfl) rfl rfl ?_;intro w9 h9 t9))
   go_meet
   exact⟨by rw[z9];rfl,Xej h9 (by rw[z9];rfl),Xa4 t8.1 t9.1⟩
  have n63:w7.cell? ⟨w1.heap.size,3,none⟩=some (.int .i64 (ki:Int)):=Xad H6.out 3
  have y0:((ki:Int)==0)=false:=by rw[beq_eq_false_iff_ne];omega
  have y1:((ki:Int)==1)=false:=by rw[beq_eq_false_iff_ne];omega
  have y2:((ki:Int)==2)=false:=by rw[beq_eq_false_iff_ne];omega
  have y3:((ki:Int)==3)=false:=by rw[beq_eq_false_iff_ne];omega
  have y5:((ki:Int)==5)=false:=by rw[beq_eq_false_iff_ne];omega
  have y6:((ki:Int)==6)=false:=by rw[beq_eq_false_iff_ne];omega
  have y9:((ki:Int)==9)=false:=by rw[beq_eq_false_iff_ne];omega
  obtain⟨e1,e2⟩:=Xmg (b:=b) (i:=(ki:Int)) (v:=rd rs ka) (by omega) (by omega) (by omega) (by omega) (by omega) (by omega) (by omega)
  have HE1:=Zh e1
  have HE2:=Zh e2
  clear e1 e2 z0 z1 z2 z3 z5 z6 z9
  go_wp2
  go_meet
  exact⟨by rw[HE1.out],Xej HQ.out (by rw[HE2.out]),Xaq _⟩
 case rest=>
 obtain⟨rfl,hQ,hc⟩:=hcut
 replace HQ:=Zh hQ
 have hzd:=hc.size
 replace H0:=Zh (Xa6 H0.out hc (by omega))
 replace H1:=Zh (Xa6 H1.out hc (by omega))
 replace H2:=Zh (Xa6 H2.out hc (by omega))
 replace H3:=Zh (Xa6 H3.out hc (by omega))
 replace H4:=Zh (Xa6 H4.out hc (by omega))
 replace H5:=Zh (Xa6 H5.out hc (by omega))
 replace H6:=Zh (Xa6 H6.out hc (by omega))
 replace H7:=Zh (Xa6 H7.out hc (by omega))
 replace HB:=Zh (Xa8 HB.out HB.out.size hc (fun q hq e=>by omega))
 replace HO:=Zh (Xbu HO.out hc (fun ad e hp=>by injection e with e;subst e;simp only[]at hp;omega))
 clear hQ hc
 have q4:Xd3 ki<rd rs ka:=by omega
 clear hq
 go_wp2_with fail
 refine(Xfe w.heap.size (w.heap.size+1) (w.heap.size+1+1) at_ _ rc false _ mc b L n c _ H0.out H1.out H2.out (by omega) (by omega)).mono ?_
 rintro e w8 ⟨rfl,hc8⟩
 have y3:=Xa6 H3.out hc8 (by omega)
 have y4:=Xa6 H4.out hc8 (by omega)
 have y5:=Xa6 H5.out hc8 (by omega)
 have HB8:=Zh (Xa8 HB.out HB.out.size hc8 (fun q hq e=>by omega))
 clear hc8
 go_wp2_with (first
  |(refine Xaj rfl 24 (.tmp 6) (.tmp 253) rfl (w.heap.size+1+1+1) _ _ #[.slice (some ⟨gM,oM,none⟩) 512 mc] rfl rfl y3 Tryz.sizeMem rfl rfl ?_;intro w9 h9 t9;have y4:=Xam y4 t9 (by omega);have y5:=Xam y5 t9 (by omega))
  |(refine Xaj rfl 26 (.tmp 7) (.tmp 254) rfl (w.heap.size+1+1+1+1) _ _ #[.int .i64 at_,.slice (some ⟨gR,oR,none⟩) 8 rc,.bool true] rfl rfl y4 Tryz.sizeHart rfl rfl ?_;intro w10 h10 t10;have y5:=Xam y5 t10 (by omega);have h9:=Xam h9 t10 (by omega))
  |(refine Xaj rfl 31 (.tmp 8) (.tmp 255) rfl (w.heap.size+1+1+1+1+1) _ _ (B_.b b L n c) rfl rfl y5 Tryz.sizeBrg rfl rfl ?_;intro w11 h11 t11;have h9:=Xam h9 t11 (by omega);have h10:=Xam h10 t11 (by omega)))
 have HBE:=Zh (Xaw (Xaw (Xaw HB8.out HB8.out.size t9 (by omega)) (by rw[t9.2];exact HB8.out.size) t10 (by omega)) (by rw[t10.2,t9.2];exact HB8.out.size) t11 (by omega))
 have P9:=Zh h9
 have P10:=Zh h10
 have P11:=Zh h11
 clear t9 t10 t11 h9 h10 h11 y3 y4 y5
 go_wp2
 refine bodyPost_ret (v:=.tuple #[.agg #[.slice (some ⟨gM,oM,none⟩) 512 mc],.agg #[.int .i64 at_,.slice (some ⟨gR,oR,none⟩) 8 rc,.bool true],.agg (B_.b b L n c)]) ?_ rfl ⟨_,_,_,_,rfl,Xaf HM.out HBE.out,Xaf HR.out HBE.out,Xah HL.out HBE.out,HBE.out,Xbo _ _,Xbo _ _⟩
 exact Xce Tryz.results34 rfl rfl rfl (Xbx P9.out _ Tryz.underlying24 rfl Tryz.sizeMem) (Xbx P10.out _ Tryz.underlying26 rfl Tryz.sizeHart) (Xbx P11.out _ Tryz.underlying31 rfl Tryz.sizeBrg)
end
end Go.Proofs.YtbopdijnojaaiadGreat
