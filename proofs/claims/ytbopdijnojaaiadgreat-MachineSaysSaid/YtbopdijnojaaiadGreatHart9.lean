/- The hart: Step, whatever is given. No statement of the seat is proved here. -/
import Derived.Test.YtbopdijnojaaiadGreatBridgeS
import Derived.Test.YtbopdijnojaaiadGreatHart7
import Derived.Test.YtbopdijnojaaiadGreatHartP
namespace Go.Proofs.YtbopdijnojaaiadGreat
set_option maxRecDepth 100000
set_option maxHeartbeats 8000000
open Go.RowKit
set_option linter.unusedSimpArgs false
set_option linter.unusedVariables false
section
def CopC (w3:World) (g g':Nat) (b:Brg) (n:Nat) (xs:List Int) (wd:World):Prop:=
 ∃ A d L' c',wd.cell? ⟨g,0,none⟩=some (.slice A 512 d)∧Xbj wd g' b L' n c'∧OwnI w3.heap.size wd A 512 d xs∧OwnL w3.heap.size wd L' n c' b.cache∧Apt L' A∧Below g w3 wd∧Xig g g' w3 wd
theorem ins_of {v:Int} (h:rdE v=0):(0≤insK v∧insK v≤8)∧(0≤insA v∧insA v<8)∧(0≤insC v∧insC v<8):=by
 have hv:0≤v∧v≤65535:=by
  by_cases hv:0≤v∧v≤65535
  ·exact hv
  ·rw[Xuw hv]at h;cases h
 have hR:InsR (v / 4096) (v / 512 % 8) (v / 64 % 8) (v % 64):=by
  by_cases hR:InsR (v / 4096) (v / 512 % 8) (v / 64 % 8) (v % 64)
  ·exact hR
  ·rw[Xux hv (by rw[Xkf hR];decide)]at h;cases h
 unfold InsR at hR
 unfold insK insA insC
 rw[Xnz h,Xnz h,Xnz h]
 omega
section
variable (xs:List Int) (at_:Int) (rs:List Int) (b:Brg) (M R L:Option Addr) (mc rc n c:Nat) (w:World)
theorem Xxh (hm:Ints w w.heap.size M 512 xs) (hr:Ints w w.heap.size R 8 rs) (hl:Lines w w.heap.size L n c b.cache) (c1:cm xs=0) (c2:ckH ⟨at_,rs,false⟩=0) (c3:ckB b=0) :
  Calls Tryz.prog 13 #[.agg #[.slice M 512 mc],.agg #[.int .i64 at_,.slice R 8 rc,.bool false],.agg (B_.b b L n c)] w (StepC w (Xee xs ⟨at_,rs,false⟩ b) 0):=by
 have HM:=Zh hm
 have HR:=Zh hr
 have HL:=Zh hl
 have H1:=Zh c1
 have H2:=Zh c2
 have H3:=Zh c3
 have HN:=Zh (show n≤1000 by have:=((Xcm _).1 ((Xbn b).1 c3).2.1).1;have:=hl.1;omega)
 clear hm hr hl c1 c2 c3
 go_enter Tryz.func13,Tryz.ntmps13
 go_wp2_with fail
 refine(Xb4 _ _ _ xs _ (Xaf HM.out (bl (by repeat' first|with_reducible(first|assumption|constructor)|((try simp)<;>omega))))).mono ?_
 rw[H1.out]
 rintro e w1 ⟨rfl,hb1⟩
 have hz1:=hb1.size
 (try simp only[Zs]at hz1)
 obtain⟨k1_0,l1_0,q1_0⟩:=aft hb1 (w.heap.size) (by(try simp)<;>omega)
 obtain⟨k1_1,l1_1,q1_1⟩:=aft hb1 (w.heap.size+1) (by(try simp)<;>omega)
 obtain⟨k1_2,l1_2,q1_2⟩:=aft hb1 (w.heap.size+1+1) (by(try simp)<;>omega)
 obtain⟨k1_3,l1_3,q1_3⟩:=aft hb1 (w.heap.size+1+1+1) (by(try simp)<;>omega)
 obtain⟨k1_4,l1_4,q1_4⟩:=aft hb1 (w.heap.size+1+1+1+1) (by(try simp)<;>omega)
 obtain⟨k1_5,l1_5,q1_5⟩:=aft hb1 (w.heap.size+1+1+1+1+1) (by(try simp)<;>omega)
 simp(maxDischargeDepth:=6) [go_sem, *]at k1_0 q1_0 k1_1 q1_1 k1_2 q1_2 k1_3 q1_3 k1_4 q1_4 k1_5 q1_5
 have HB1:=Zh hb1
 clear hb1
 go_wp2_with fail
 refine(Xew ⟨at_,rs,false⟩ _ _ _ _ (Xaf HR.out (bl (by repeat' first|with_reducible(first|assumption|constructor)|((try simp)<;>omega))))).mono ?_
 rw[H2.out]
 rintro e w2 ⟨rfl,hb2⟩
 have hz2:=hb2.size
 (try simp only[Zs]at hz2)
 obtain⟨k2_0,l2_0,q2_0⟩:=aft hb2 (w.heap.size) (by(try simp)<;>omega)
 obtain⟨k2_1,l2_1,q2_1⟩:=aft hb2 (w.heap.size+1) (by(try simp)<;>omega)
 obtain⟨k2_2,l2_2,q2_2⟩:=aft hb2 (w.heap.size+1+1) (by(try simp)<;>omega)
 obtain⟨k2_3,l2_3,q2_3⟩:=aft hb2 (w.heap.size+1+1+1) (by(try simp)<;>omega)
 obtain⟨k2_4,l2_4,q2_4⟩:=aft hb2 (w.heap.size+1+1+1+1) (by(try simp)<;>omega)
 obtain⟨k2_5,l2_5,q2_5⟩:=aft hb2 (w.heap.size+1+1+1+1+1) (by(try simp)<;>omega)
 simp(maxDischargeDepth:=6) [go_sem, *]at k2_0 q2_0 k2_1 q2_1 k2_2 q2_2 k2_3 q2_3 k2_4 q2_4 k2_5 q2_5
 have HB2:=Zh hb2
 clear hb2
 go_wp2_with fail
 refine(Xbh b _ _ _ _ (Xah HL.out (bl (by repeat' first|with_reducible(first|assumption|constructor)|((try simp)<;>omega))))).mono ?_
 rw[H3.out]
 rintro e w3 ⟨rfl,hb3⟩
 have hz3:=hb3.size
 (try simp only[Zs]at hz3)
 obtain⟨k3_0,l3_0,q3_0⟩:=aft hb3 (w.heap.size) (by(try simp)<;>omega)
 obtain⟨k3_1,l3_1,q3_1⟩:=aft hb3 (w.heap.size+1) (by(try simp)<;>omega)
 obtain⟨k3_2,l3_2,q3_2⟩:=aft hb3 (w.heap.size+1+1) (by(try simp)<;>omega)
 obtain⟨k3_3,l3_3,q3_3⟩:=aft hb3 (w.heap.size+1+1+1) (by(try simp)<;>omega)
 obtain⟨k3_4,l3_4,q3_4⟩:=aft hb3 (w.heap.size+1+1+1+1) (by(try simp)<;>omega)
 obtain⟨k3_5,l3_5,q3_5⟩:=aft hb3 (w.heap.size+1+1+1+1+1) (by(try simp)<;>omega)
 simp(maxDischargeDepth:=6) [go_sem, *]at k3_0 q3_0 k3_1 q3_1 k3_2 q3_2 k3_3 q3_3 k3_4 q3_4 k3_5 q3_5
 have HB3:=Zh hb3
 clear hb3
 have HW3:=Zh (show Below w.heap.size w w3 by(refine bl ?_;repeat' first|with_reducible(first|assumption|constructor)|((try simp)<;>omega)))
 have hz:=HW3.out.size
 clear k1_0 q1_0 l1_0 k1_1 q1_1 l1_1 k1_2 q1_2 l1_2 k1_3 q1_3 l1_3 k1_4 q1_4 l1_4 k1_5 q1_5 l1_5 k2_0 q2_0 l2_0 k2_1 q2_1 l2_1 k2_2 q2_2 l2_2 k2_3 q2_3 l2_3 k2_4 q2_4 l2_4 k2_5 q2_5 l2_5 HB1 HB2 HB3 hz1 hz2
 go_upto_region 10 with(fail)
 go_cut [] (fun wd=>CopC w3 w.heap.size (w.heap.size+1+1) b n xs wd)
 case first=>
  clear k3_1 q3_1 l3_1 k3_3 q3_3 l3_3 k3_4 q3_4 l3_4 k3_5 q3_5 l3_5
  go_region_with (first
   |(go_at_call 40;refine(Xgl M 512 mc xs _ ?_ (by decide) (by decide)).mono ?_;(focus (refine Xaf HM.out ?_;(refine bl ?_;repeat' first|with_reducible(first|assumption|constructor)|((try simp)<;>omega));done));rintro e w4 ⟨A4,d4,rfl,ho4,hb4⟩;have hz4:=hb4.size;(try simp only[Zs]at hz4);obtain⟨k4_0,l4_0,q4_0⟩:=aft hb4 (w.heap.size) (by(try simp)<;>omega);obtain⟨k4_1,l4_1,q4_1⟩:=aft hb4 (w.heap.size+1+1) (by(try simp)<;>omega);simp(maxDischargeDepth:=6) [go_sem, *]at k4_0 q4_0 k4_1 q4_1;have HB4:=Zh hb4;clear hb4;have HO4:Hid (OwnI w3.heap.size w4 A4 512 d4 xs):=Zh (ho4.low (by(try simp)<;>omega));have HP4:=Zh (Xat ho4.2);clear ho4)
   |(go_at_call 41;refine(Xdd b L n c _ ?_ HN.out).mono ?_;(focus (refine Xah HL.out ?_;(refine bl ?_;repeat' first|with_reducible(first|assumption|constructor)|((try simp)<;>omega));done));rintro e w5 ⟨A5,d5,rfl,ho5,hb5⟩;have hz5:=hb5.size;(try simp only[Zs]at hz5);obtain⟨k5_0,l5_0,q5_0⟩:=aft hb5 (w.heap.size) (by(try simp)<;>omega);obtain⟨k5_1,l5_1,q5_1⟩:=aft hb5 (w.heap.size+1+1) (by(try simp)<;>omega);simp(maxDischargeDepth:=6) [go_sem, *]at k5_0 q5_0 k5_1 q5_1;have HB5:=Zh hb5;clear hb5;have HO5:Hid (OwnL w3.heap.size w5 A5 n d5 b.cache):=Zh (ho5.low (by(try simp)<;>omega));have HP5:=Zh (Xat ho5.2.2.2);clear ho5))
  all_goals
   go_wp2
   go_meet
   refine⟨A4,d4,A5,d5, ?_, ?_, ?_, ?_, ?_, ?_, ?_⟩
   ·show _=_
    simp(maxDischargeDepth:=8) [go_sem,k4_0,k5_0,k4_1,k5_1]
   ·unfold Xbj
    simp(maxDischargeDepth:=8) [go_sem,k4_0,k5_0,k4_1,k5_1]
   ·(repeat(first|((with_reducible refine OwnI.set ?_ ?_ _);rotate_left;exact(by(try simp)<;>omega))|(with_reducible exact HO4.out)|(with_reducible refine OwnI.below ?_ HB5.out)))
   ·(repeat(first|((with_reducible refine OwnL.set ?_ ?_ _);rotate_left;exact(by(try simp)<;>omega))|(with_reducible exact HO5.out)|(with_reducible refine OwnL.below ?_ HB4.out)))
   ·intro ad ad' e e'
    have x:=HP4.out ad' e'
    have y:=HP5.out ad e
    (try simp only[World.size_setCell,World.size_drew]at x y)
    omega
   ·(refine bl ?_;repeat' first|with_reducible(first|assumption|constructor)|((try simp)<;>omega))
   ·(repeat(first|((with_reducible refine Xkd ?_ ?_ _);rotate_left;exact(by simp))|(with_reducible exact Xg0 _)|(with_reducible refine Xh5 ?_)|(with_reducible refine Xd9 HB5.out ?_)|(with_reducible refine Xd9 HB4.out ?_)))
 case rest=>
  obtain⟨A,d,L',c',hc0,hB,hO,hN,hAp,hb0,hOn⟩:=hcut
  obtain⟨gA,rfl,hA1,hA2,hAc,hAf,hAs⟩:=Xb3 hO (by decide)
  have HPL:=Zh (Xat hN.2.2.2)
  have HWc:=Zh (show Below w.heap.size w wc from Below.trans HW3.out hb0)
  have hzc:w3.heap.size≤wc.heap.size:=hOn.1
  have hAt:=(Xap H2.out).2.1
  simp only[]at hAt
  obtain⟨hAt1,hAt2⟩:=hAt
  have hx:=hAc _ _ (Xc2 (k:=at_) (Xaz H1.out).1 hAt1 hAt2)
  have hRl:rs.length=8:=(Xap H2.out).1
  have kc_1:=fun o=>(hOn.2.1 (w.heap.size+1) o (by omega) (by omega) l3_1).trans (k3_1 o)
  have kc_3:=fun o=>(hOn.2.1 (w.heap.size+1+1+1) o (by omega) (by omega) l3_3).trans (k3_3 o)
  have kc_4:=fun o=>(hOn.2.1 (w.heap.size+1+1+1+1) o (by omega) (by omega) l3_4).trans (k3_4 o)
  have kc_5:=fun o=>(hOn.2.1 (w.heap.size+1+1+1+1+1) o (by omega) (by omega) l3_5).trans (k3_5 o)
  have qc_0:=fun o=>(hOn.2.2 (w.heap.size) o l3_0).trans (q3_0 o)
  have qc_1:=fun o=>(hOn.2.2 (w.heap.size+1) o l3_1).trans (q3_1 o)
  have qc_2:=fun o=>(hOn.2.2 (w.heap.size+1+1) o l3_2).trans (q3_2 o)
  have qc_3:=fun o=>(hOn.2.2 (w.heap.size+1+1+1) o l3_3).trans (q3_3 o)
  have qc_4:=fun o=>(hOn.2.2 (w.heap.size+1+1+1+1) o l3_4).trans (q3_4 o)
  have qc_5:=fun o=>(hOn.2.2 (w.heap.size+1+1+1+1+1) o l3_5).trans (q3_5 o)
  clear k3_0 q3_0 k3_1 q3_1 k3_2 q3_2 k3_3 q3_3 k3_4 q3_4 k3_5 q3_5 hAc hAs hb0 hz3
  have HOA:=Zh hO
  have HOL:=Zh hN
  have HBc:=Zh hB
  have HAp:=Zh hAp
  clear hO hN hB hAp hOn
  have e1:IntKind.i64.wrap (at_+1)=at_+1:=IntWalk.i64_in _ (by omega)
  have e2:(at_+1).tmod 512=(at_+1) % 512:=Int.tmod_eq_emod_of_nonneg (by omega)
  go_wp2_with fail
  refine(Xhf R 8 rc rs _ (Xaf HR.out (bl (by repeat' first|with_reducible(first|assumption|constructor)|((try simp)<;>omega)))) (by decide) (by decide)).mono ?_
  rintro e w4 ⟨R1,d1,rfl,ho4,hb4⟩
  have HS4:=Zh (show Xan wc w4 from hb4)
  have hz4:=hb4.size
  have HP4:=Zh (Xat ho4.2)
  have HR1:=Zh (ho4.ints (by decide))
  have l4_1:w.heap.size+1<w4.heap.size:=by omega
  have k4_0:=Xak HS4.out hc0
  have k4_1:=fun o=>(HS4.out.cell (p:=⟨w.heap.size+1,o,none⟩) (show w.heap.size+1<wc.heap.size by omega)).trans (kc_1 o)
  have q4_1:=fun o=>(HS4.out.frozen (p:=⟨w.heap.size+1,o,none⟩) (show w.heap.size+1<wc.heap.size by omega)).trans (qc_1 o)
  have x4:=Xak HS4.out hx
  have x4f:=(HS4.out.frozen (p:=⟨gA,at_.toNat,none⟩) hA2).trans (hAf _)
  have ho4':=Zh ho4
  clear ho4 hb4
  have n1:¬gA=w.heap.size+1:=by omega
  have n2:¬w.heap.size+1=gA:=by omega
  have HW4:=Zh (Xdj (o:=1) (show w.heap.size+1<wc.heap.size by omega) HS4.out (.slice R1 8 d1))
  have HR4:=Zh ((Xqp HR1.out (p:=⟨w.heap.size+1,1,none⟩) (fun ad e=>by have:=(HP4.out ad e).1;show ad.block≠w.heap.size+1;omega) (.slice R1 8 d1)).more (B':=(w4.setCell ⟨w.heap.size+1,1,none⟩ (.slice R1 8 d1)).heap.size) (by simp))
  clear kc_1 qc_1 hx x4f hAf
  go_wp2_with fail
  by_cases hE:rdE (rd xs at_)=0
  ·have HE:=Zh hE
   have HST:=Zh (show Xee xs ⟨at_,rs,false⟩ b=_ by unfold Xee;simp only[hE,true_and];rfl)
   clear hE
   refine(Xmx _ _).mono ?_
   rw[show rdV (rd xs at_)=.tuple #[.agg #[.int .i64 (insK (rd xs at_)),.int .i64 (insA (rd xs at_)),.int .i64 (insC (rd xs at_)),.int .i64 (insI (rd xs at_))],.int .i64 0] by simp[rdV,insK,insA,insC,insI,HE.out]]
   rintro e w5 ⟨rfl,hb5⟩
   have hz5:=hb5.size
   (try simp only[Zs]at hz5)
   have k5_0_0:=(Xa9 hb5).1 (w.heap.size+1) 0 (by(try simp)<;>omega)
   have k5_0_1:=(Xa9 hb5).1 (w.heap.size+1) 1 (by(try simp)<;>omega)
   have k5_0_2:=(Xa9 hb5).1 (w.heap.size+1) 2 (by(try simp)<;>omega)
   obtain⟨l5_0,q5_0⟩:=(aft hb5 (w.heap.size+1) (by(try simp)<;>omega)).2
   simp(maxDischargeDepth:=6) [go_sem, *]at k5_0_0 k5_0_1 k5_0_2 q5_0
   have HB5:=Zh hb5
   clear hb5
   clear k4_0 k4_1 q4_1 x4
   have u5_0:¬w.heap.size=w5.heap.size:=by omega
   have v5_0:¬w5.heap.size=w.heap.size:=by omega
   have z5_0:w.heap.size<w5.heap.size:=by omega
   have u5_1:¬w.heap.size+1=w5.heap.size:=by omega
   have v5_1:¬w5.heap.size=w.heap.size+1:=by omega
   have z5_1:w.heap.size+1<w5.heap.size:=by omega
   have u5_2:¬w.heap.size+1+1=w5.heap.size:=by omega
   have v5_2:¬w5.heap.size=w.heap.size+1+1:=by omega
   have z5_2:w.heap.size+1+1<w5.heap.size:=by omega
   have u5_3:¬w.heap.size+1+1+1=w5.heap.size:=by omega
   have v5_3:¬w5.heap.size=w.heap.size+1+1+1:=by omega
   have z5_3:w.heap.size+1+1+1<w5.heap.size:=by omega
   have u5_4:¬w.heap.size+1+1+1+1=w5.heap.size:=by omega
   have v5_4:¬w5.heap.size=w.heap.size+1+1+1+1:=by omega
   have z5_4:w.heap.size+1+1+1+1<w5.heap.size:=by omega
   have u5_5:¬w.heap.size+1+1+1+1+1=w5.heap.size:=by omega
   have v5_5:¬w5.heap.size=w.heap.size+1+1+1+1+1:=by omega
   have z5_5:w.heap.size+1+1+1+1+1<w5.heap.size:=by omega
   go_wp2_with fail
   refine(Xhf R1 8 d1 rs _ (Xaf HR4.out (bl (by repeat' first|with_reducible(first|assumption|constructor)|((try simp)<;>omega)))) (by decide) (by decide)).mono ?_
   rintro e w6 ⟨R2,d2,rfl,ho6,hb6⟩
   obtain⟨gR2,rfl,hR2a,hR2b,_,_,_⟩:=Xb3 ho6 (by decide)
   (try simp only[Zs]at hR2a)
   have HP6:=Zh (Xat ho6.2)
   have HO6':=Zh ho6
   clear ho6
   have hz6:=hb6.size
   (try simp only[Zs]at hz6)
   have k6_0_0:=(Xa9 hb6).1 (w.heap.size+1) 0 (by(try simp)<;>omega)
   have k6_0_1:=(Xa9 hb6).1 (w.heap.size+1) 1 (by(try simp)<;>omega)
   have k6_0_2:=(Xa9 hb6).1 (w.heap.size+1) 2 (by(try simp)<;>omega)
   obtain⟨l6_0,q6_0⟩:=(aft hb6 (w.heap.size+1) (by(try simp)<;>omega)).2
   obtain⟨k6_1,l6_1,q6_1⟩:=aft hb6 (w5.heap.size+1) (by(try simp)<;>omega)
   obtain⟨k6_2,l6_2,q6_2⟩:=aft hb6 (w5.heap.size) (by(try simp)<;>omega)
   simp(maxDischargeDepth:=6) [go_sem, *]at k6_0_0 k6_0_1 k6_0_2 q6_0 k6_1 q6_1 k6_2 q6_2
   have HB6:=Zh hb6
   clear hb6
   (try simp only[Zs]at hz5 hz6)
   have HS6:=Zh (show Xan (w4.setCell ⟨w.heap.size+1,1,none⟩ (.slice R1 8 d1)) w6 by unfold Xan;(repeat(first|(with_reducible exact Below.refl _ _)|(with_reducible refine Below.drew ?_)|(with_reducible refine Xbs ?_ _)|((with_reducible refine Below.setCell ?_ ?_ _);rotate_left;exact(by(try simp)<;>omega))|((with_reducible refine Below.alloc ?_ ?_ _);rotate_left;exact(by(try simp)<;>omega))|((with_reducible refine Below.trans ?_ (HB6.out.mono ?_));rotate_left;exact(by(try simp)<;>omega))|((with_reducible refine Below.trans ?_ (HB5.out.mono ?_));rotate_left;exact(by(try simp)<;>omega)))))
   have HO6:=Zh (Xdy HW4.out (by omega) HS6.out)
   have HB6c:=Zh (Xgq HBc.out HO6.out (by omega))
   have m6:=Xcd hc0 HO6.out (by omega)
   have r6_3:=fun o=>(HO6.out.2.2.1 (w.heap.size+1+1+1) o (by omega) (by omega)).trans (kc_3 o)
   have r6_4:=fun o=>(HO6.out.2.2.1 (w.heap.size+1+1+1+1) o (by omega) (by omega)).trans (kc_4 o)
   have r6_5:=fun o=>(HO6.out.2.2.1 (w.heap.size+1+1+1+1+1) o (by omega) (by omega)).trans (kc_5 o)
   have f6_0:=fun o=>(HO6.out.2.2.2 (w.heap.size) o (by omega)).trans (qc_0 o)
   have f6_2:=fun o=>(HO6.out.2.2.2 (w.heap.size+1+1) o (by omega)).trans (qc_2 o)
   have f6_3:=fun o=>(HO6.out.2.2.2 (w.heap.size+1+1+1) o (by omega)).trans (qc_3 o)
   have f6_4:=fun o=>(HO6.out.2.2.2 (w.heap.size+1+1+1+1) o (by omega)).trans (qc_4 o)
   have f6_5:=fun o=>(HO6.out.2.2.2 (w.heap.size+1+1+1+1+1) o (by omega)).trans (qc_5 o)
   have I6:=Zh (Xdf (HOA.out.ints (by decide)) HO6.out (fun ad e=>by injection e with e;subst e;show gA≠w.heap.size+1;omega))
   have IR6:=Zh (Xaf HR4.out HS6.out)
   have IL6:=Zh (Xev HOL.out.lines HO6.out (fun ad e=>by have:=(HPL.out ad e).1;show ad.block≠w.heap.size+1;omega))
   have HW6:=Zh (show Below w.heap.size w w6 from Below.trans HWc.out (Below.mono HO6.out.1 (by omega)))
   have HK:=Zh (Xkh (h:=⟨(at_+1) % 512,rs,false⟩) H1.out (Xlb H2.out (by omega)) H3.out (k:=insK (rd xs at_)) (a:=insA (rd xs at_)) (c:=insC (rd xs at_)) (Xix (rd xs at_)))
   obtain⟨iK,iA,iC⟩:=ins_of HE.out
   have lN:w5.heap.size+1<w6.heap.size:=by omega
   have HWn:=Zh (Xd1 (Xdj (g:=w5.heap.size+1) (o:=1) lN (Xal w6) (.slice (some ⟨gR2,0,none⟩) 8 d2)) lN 0 (.int .i64 ((at_+1) % 512)))
   have HSW:=Zh (show Xan (w4.setCell ⟨w.heap.size+1,1,none⟩ (.slice R1 8 d1)) ((w6.setCell ⟨w5.heap.size+1,1,none⟩ (.slice (some ⟨gR2,0,none⟩) 8 d2)).setCell ⟨w5.heap.size+1,0,none⟩ (.int .i64 ((at_+1) % 512))) by unfold Xan;(repeat(first|(with_reducible exact Below.refl _ _)|(with_reducible refine Below.drew ?_)|(with_reducible refine Xbs ?_ _)|((with_reducible refine Below.setCell ?_ ?_ _);rotate_left;exact(by(try simp)<;>omega))|((with_reducible refine Below.alloc ?_ ?_ _);rotate_left;exact(by(try simp)<;>omega))|((with_reducible refine Below.trans ?_ (HB6.out.mono ?_));rotate_left;exact(by(try simp)<;>omega))|((with_reducible refine Below.trans ?_ (HB5.out.mono ?_));rotate_left;exact(by(try simp)<;>omega)))))
   have FA:∀ g,g≠gA→Far (some ⟨gA,0,none⟩) g:=fun g h ad e=>by injection e with e;subst e;exact fun e=>h e.symm
   have FR:∀ g,g≠gR2→Far (some ⟨gR2,0,none⟩) g:=fun g h ad e=>by injection e with e;subst e;exact fun e=>h e.symm
   have FL:∀ g,(g<w3.heap.size∨wc.heap.size≤g)→Far L' g:=fun g h ad e=>by have:=HPL.out ad e;omega
   have FP:∀ g,(g<wc.heap.size∨w4.heap.size≤g)→Far R1 g:=fun g h ad e=>by have:=HP4.out ad e;omega
   have HC6:Crd ((w6.setCell ⟨w5.heap.size+1,1,none⟩ (.slice (some ⟨gR2,0,none⟩) 8 d2)).setCell ⟨w5.heap.size+1,0,none⟩ (.int .i64 ((at_+1) % 512))) w.heap.size (w5.heap.size+1) (w.heap.size+1+1) (some ⟨gA,0,none⟩) d (some ⟨gR2,0,none⟩) d2 L' n c' xs ⟨(at_+1) % 512,rs,false⟩ b:=
    ⟨Xcd m6 HWn.out (by omega),by simp[go_sem,k6_1],by simp[go_sem,k6_1],by simp[go_sem,k6_1],Xgq HB6c.out HWn.out (by omega),Xdf I6.out HWn.out (FA _ (by omega)),Xdf (HO6'.out.ints (by decide)) HWn.out (FR _ (by omega)),Xev IL6.out HWn.out (FL _ (by omega))⟩
   have HSp:Sep w.heap.size (w5.heap.size+1) (w.heap.size+1+1) (some ⟨gA,0,none⟩) (some ⟨gR2,0,none⟩) L':=
    ⟨by omega,by omega,by omega,FA _ (by omega),FA _ (by omega),FA _ (by omega),FR _ (by omega),FR _ (by omega),FR _ (by omega),FL _ (by omega),FL _ (by omega),FL _ (by omega),
     fun ad ad' e e'=>by injection e with e;injection e' with e';subst e;subst e';show gA≠gR2;omega,HAp.out,fun ad ad' e e'=>by have:=HPL.out ad e;injection e' with e';subst e';show ad.block≠gR2;omega⟩
   obtain⟨gM,gR,hP⟩:=Xyt HC6 HSp (((HOA.out.below HS4.out).set (p:=⟨w.heap.size+1,1,none⟩) (by show w.heap.size+1<w3.heap.size;omega) (.slice R1 8 d1)).below HSW.out) ((HO6'.out.set (p:=⟨w5.heap.size+1,1,none⟩) (by simp) (.slice (some ⟨gR2,0,none⟩) 8 d2)).set (p:=⟨w5.heap.size+1,0,none⟩) (by simp) (.int .i64 ((at_+1) % 512)))
    (fun o=>(HWn.out.2.2.2 _ o lN).trans (q6_1 o)) (fun o=>(HWn.out.2.2.2 _ o (by omega)).trans (f6_2 o)) (Xlb H2.out (by omega)) H1.out
   have HPd:=Zh hP
   clear HC6 HSp hP
   go_wp2_with fail
   refine(Xtf HPd.out _ _ _ _ iK iA iC (Xix _)).mono ?_
   generalize Xcb xs ⟨(at_+1) % 512,rs,false⟩ b (insK (rd xs at_)) (insA (rd xs at_)) (insC (rd xs at_)) (insI (rd xs at_))=r at HST HK ⊢
   obtain⟨ys,g,bb,ok⟩:=r
   rintro e w7 ⟨e7,hC,g7,hg7,ho7⟩
   simp only[]at e7 hC
   subst e7
   have HG:Hid (w.heap.size≤g7∧g7≠w.heap.size+1∧g7≠w.heap.size+1+1+1∧g7≠w.heap.size+1+1+1+1∧g7≠w.heap.size+1+1+1+1+1∧(g7<wc.heap.size∨w4.heap.size≤g7)):=Zh (by
    rcases hg7 with e|e|e|e
    ·injection e with e;injection e with e;omega
    ·injection e with e;injection e with e;omega
    ·omega
    ·omega)
   have HC:=Zh hC
   obtain⟨g7a,g7b,g7c,g7d,g7e,g7f⟩:=HG.out
   have m7:=hC.m0
   have h7_0:=hC.h0
   have h7_1:=hC.h1
   have h7_2:=hC.h2
   obtain⟨b0,b1,b2,b3,b4,b5,b6,b7,b8,b9,b10,b11⟩:=hC.b0
   have zW:w6.heap.size≤w7.heap.size:=Nat.le_trans HWn.out.2.1 ho7.2.1
   have r7_3:=fun o=>(ho7.2.2.1 (w.heap.size+1+1+1) o (by omega) (by simp;omega)).trans ((HWn.out.2.2.1 (w.heap.size+1+1+1) o (by omega) (by omega)).trans (r6_3 o))
   have f7_3:=fun o=>(ho7.2.2.2 (w.heap.size+1+1+1) o (by simp;omega)).trans ((HWn.out.2.2.2 (w.heap.size+1+1+1) o (by omega)).trans (f6_3 o))
   have r7_4:=fun o=>(ho7.2.2.1 (w.heap.size+1+1+1+1) o (by omega) (by simp;omega)).trans ((HWn.out.2.2.1 (w.heap.size+1+1+1+1) o (by omega) (by omega)).trans (r6_4 o))
   have f7_4:=fun o=>(ho7.2.2.2 (w.heap.size+1+1+1+1) o (by simp;omega)).trans ((HWn.out.2.2.2 (w.heap.size+1+1+1+1) o (by omega)).trans (f6_4 o))
   have r7_5:=fun o=>(ho7.2.2.1 (w.heap.size+1+1+1+1+1) o (by omega) (by simp;omega)).trans ((HWn.out.2.2.1 (w.heap.size+1+1+1+1+1) o (by omega) (by omega)).trans (r6_5 o))
   have f7_5:=fun o=>(ho7.2.2.2 (w.heap.size+1+1+1+1+1) o (by simp;omega)).trans ((HWn.out.2.2.2 (w.heap.size+1+1+1+1+1) o (by omega)).trans (f6_5 o))
   have HW7:=Zh (show Below w.heap.size w w7 from Below.trans HW6.out (Below.trans (Below.mono HWn.out.1 (by omega)) (Below.mono ho7.1 (by omega))))
   cases ok
   ·obtain⟨rfl,rfl,rfl⟩:=HK.out.no rfl
    replace HST:=Zh (HST.out.trans (if_neg (by simp)))
    have h7s_0:=(ho7.2.2.1 (w.heap.size+1) 0 (by omega) (by simp;omega)).trans ((HWn.out.2.2.1 (w.heap.size+1) 0 (by omega) (by omega)).trans k6_0_0)
    have h7s_1:=(ho7.2.2.1 (w.heap.size+1) 1 (by omega) (by simp;omega)).trans ((HWn.out.2.2.1 (w.heap.size+1) 1 (by omega) (by omega)).trans k6_0_1)
    have h7s_2:=(ho7.2.2.1 (w.heap.size+1) 2 (by omega) (by simp;omega)).trans ((HWn.out.2.2.1 (w.heap.size+1) 2 (by omega) (by omega)).trans k6_0_2)
    have f7s:=fun o=>(ho7.2.2.2 (w.heap.size+1) o (by simp;omega)).trans ((HWn.out.2.2.2 (w.heap.size+1) o (by omega)).trans (q6_0 o))
    have IR7:=Zh (Xdf (Xdf IR6.out HWn.out (FP _ (by omega))) ho7 (FP _ g7f))
    clear r6_3 r6_4 r6_5 f6_0 f6_2 f6_3 f6_4 f6_5 kc_3 kc_4 kc_5 qc_0 qc_2 qc_3 qc_4 qc_5 hc0 m6 ho7 hC hg7 k6_1 q6_1 k6_2 q6_2 k6_0_0 k6_0_1 k6_0_2 q6_0
    go_upto_region 18 with(fail)
    go_region
    go_wp2
    rw[HST.out]
    refine bodyPost_ret (v:=.tuple #[.agg #[.slice (some ⟨gA,0,none⟩) 512 d],.agg #[.int .i64 at_,.slice R1 8 d1,.bool true],.agg (B_.b bb L' n c'),.int .i64 0]) ?_ rfl ⟨_,_,_,_,_,_,_,rfl, ?_, ?_, ?_, ?_, ?_, ?_, ?_⟩
    ·simp(maxDischargeDepth:=8) [results,Tryz.results13,go_sem, *]
    ·refine Xhy (P:=(fun q=>q=w.heap.size+1∨q=w.heap.size+1+1+1∨q=w.heap.size+1+1+1+1∨q=w.heap.size+1+1+1+1+1)) HC.out.im ?_ (fun ad e=>by injection e with e;subst e;show ¬(_∨_);simp only[];omega)
     (repeat(first|((with_reducible refine Xhe ?_ ?_ _);rotate_left;exact(by simp))|(with_reducible exact Xfq _)|(with_reducible refine Xfr ?_)))
    ·refine Xhy (P:=(fun q=>q=w.heap.size+1∨q=w.heap.size+1+1+1∨q=w.heap.size+1+1+1+1∨q=w.heap.size+1+1+1+1+1)) IR7.out ?_ (fun ad e=>by have:=HP4.out ad e;show ¬(_∨_);omega)
     (repeat(first|((with_reducible refine Xhe ?_ ?_ _);rotate_left;exact(by simp))|(with_reducible exact Xfq _)|(with_reducible refine Xfr ?_)))
    ·refine Xiv (P:=(fun q=>q=w.heap.size+1∨q=w.heap.size+1+1+1∨q=w.heap.size+1+1+1+1∨q=w.heap.size+1+1+1+1+1)) HC.out.lb ?_ (fun ad e=>by have:=HPL.out ad e;show ¬(_∨_);omega)
     (repeat(first|((with_reducible refine Xhe ?_ ?_ _);rotate_left;exact(by simp))|(with_reducible exact Xfq _)|(with_reducible refine Xfr ?_)))
    ·(refine bl ?_;repeat' first|with_reducible(first|assumption|constructor)|((try simp)<;>omega))
    ·intro ad e;injection e with e;subst e;show w.heap.size≤gA;omega
    ·intro ad e;have:=HP4.out ad e;omega
    ·intro ad e;have:=(HPL.out ad e).1;omega
   ·replace HST:=Zh (HST.out.trans (if_pos rfl))
    clear r6_3 r6_4 r6_5 f6_0 f6_2 f6_3 f6_4 f6_5 kc_3 kc_4 kc_5 qc_0 qc_2 qc_3 qc_4 qc_5 hc0 m6 ho7 hC hg7 k6_1 q6_1 k6_2 q6_2 k6_0_0 k6_0_1 k6_0_2 q6_0
    go_upto_region 19 with(fail)
    go_region
    go_wp2
    rw[HST.out]
    refine bodyPost_ret (v:=.tuple #[.agg #[.slice (some ⟨gA,0,none⟩) 512 d],.agg #[.int .i64 g.at_,.slice (some ⟨gR2,0,none⟩) 8 d2,.bool g.done],.agg (B_.b bb L' n c'),.int .i64 0]) ?_ rfl ⟨_,_,_,_,_,_,_,rfl, ?_, ?_, ?_, ?_, ?_, ?_, ?_⟩
    ·simp(maxDischargeDepth:=8) [results,Tryz.results13,go_sem, *]
    ·refine Xhy (P:=(fun q=>q=w.heap.size+1+1+1∨q=w.heap.size+1+1+1+1∨q=w.heap.size+1+1+1+1+1)) HC.out.im ?_ (fun ad e=>by injection e with e;subst e;show ¬(_∨_);simp only[];omega)
     (repeat(first|((with_reducible refine Xhe ?_ ?_ _);rotate_left;exact(by simp))|(with_reducible exact Xfq _)|(with_reducible refine Xfr ?_)))
    ·refine Xhy (P:=(fun q=>q=w.heap.size+1+1+1∨q=w.heap.size+1+1+1+1∨q=w.heap.size+1+1+1+1+1)) HC.out.ir ?_ (fun ad e=>by have:=(show w5.heap.size+2≤ad.block∧True from⟨by injection e with e;subst e;show _≤gR2;omega,trivial⟩);show ¬(_∨_);omega)
     (repeat(first|((with_reducible refine Xhe ?_ ?_ _);rotate_left;exact(by simp))|(with_reducible exact Xfq _)|(with_reducible refine Xfr ?_)))
    ·refine Xiv (P:=(fun q=>q=w.heap.size+1+1+1∨q=w.heap.size+1+1+1+1∨q=w.heap.size+1+1+1+1+1)) HC.out.lb ?_ (fun ad e=>by have:=HPL.out ad e;show ¬(_∨_);omega)
     (repeat(first|((with_reducible refine Xhe ?_ ?_ _);rotate_left;exact(by simp))|(with_reducible exact Xfq _)|(with_reducible refine Xfr ?_)))
    ·(refine bl ?_;repeat' first|with_reducible(first|assumption|constructor)|((try simp)<;>omega))
    ·intro ad e;injection e with e;subst e;show w.heap.size≤gA;omega
    ·intro ad e;have:=(show w5.heap.size+2≤ad.block∧True from⟨by injection e with e;subst e;show _≤gR2;omega,trivial⟩);omega
    ·intro ad e;have:=(HPL.out ad e).1;omega
  ·have t1:(rdE (rd xs at_) != 0)=true:=by rw[bne_iff_ne];exact hE
   have HST:=Zh (show Xee xs ⟨at_,rs,false⟩ b=(xs,⟨at_,rs,true⟩,b) by unfold Xee;rw[if_neg (fun h=>hE h.1)])
   refine(Xmx _ _).mono ?_
   rw[←Xsf (rfl:rdE (rd xs at_)=rdE (rd xs at_)) hE]
   clear hE
   rintro e w5 ⟨rfl,hb5⟩
   have hz5:=hb5.size
   (try simp only[Zs]at hz5)
   have k5_0_0:=(Xa9 hb5).1 (w.heap.size+1) 0 (by(try simp)<;>omega)
   have k5_0_1:=(Xa9 hb5).1 (w.heap.size+1) 1 (by(try simp)<;>omega)
   have k5_0_2:=(Xa9 hb5).1 (w.heap.size+1) 2 (by(try simp)<;>omega)
   obtain⟨l5_0,q5_0⟩:=(aft hb5 (w.heap.size+1) (by(try simp)<;>omega)).2
   simp(maxDischargeDepth:=6) [go_sem, *]at k5_0_0 k5_0_1 k5_0_2 q5_0
   have HB5:=Zh hb5
   clear hb5
   clear k4_0 k4_1 q4_1 x4
   have u5_0:¬w.heap.size=w5.heap.size:=by omega
   have v5_0:¬w5.heap.size=w.heap.size:=by omega
   have z5_0:w.heap.size<w5.heap.size:=by omega
   have u5_1:¬w.heap.size+1=w5.heap.size:=by omega
   have v5_1:¬w5.heap.size=w.heap.size+1:=by omega
   have z5_1:w.heap.size+1<w5.heap.size:=by omega
   have u5_2:¬w.heap.size+1+1=w5.heap.size:=by omega
   have v5_2:¬w5.heap.size=w.heap.size+1+1:=by omega
   have z5_2:w.heap.size+1+1<w5.heap.size:=by omega
   have u5_3:¬w.heap.size+1+1+1=w5.heap.size:=by omega
   have v5_3:¬w5.heap.size=w.heap.size+1+1+1:=by omega
   have z5_3:w.heap.size+1+1+1<w5.heap.size:=by omega
   have u5_4:¬w.heap.size+1+1+1+1=w5.heap.size:=by omega
   have v5_4:¬w5.heap.size=w.heap.size+1+1+1+1:=by omega
   have z5_4:w.heap.size+1+1+1+1<w5.heap.size:=by omega
   have u5_5:¬w.heap.size+1+1+1+1+1=w5.heap.size:=by omega
   have v5_5:¬w5.heap.size=w.heap.size+1+1+1+1+1:=by omega
   have z5_5:w.heap.size+1+1+1+1+1<w5.heap.size:=by omega
   go_wp2_with fail
   refine(Xhf R1 8 d1 rs _ (Xaf HR4.out (bl (by repeat' first|with_reducible(first|assumption|constructor)|((try simp)<;>omega)))) (by decide) (by decide)).mono ?_
   rintro e w6 ⟨R2,d2,rfl,ho6,hb6⟩
   obtain⟨gR2,rfl,hR2a,hR2b,_,_,_⟩:=Xb3 ho6 (by decide)
   (try simp only[Zs]at hR2a)
   have HP6:=Zh (Xat ho6.2)
   have HO6':=Zh ho6
   clear ho6
   have hz6:=hb6.size
   (try simp only[Zs]at hz6)
   have k6_0_0:=(Xa9 hb6).1 (w.heap.size+1) 0 (by(try simp)<;>omega)
   have k6_0_1:=(Xa9 hb6).1 (w.heap.size+1) 1 (by(try simp)<;>omega)
   have k6_0_2:=(Xa9 hb6).1 (w.heap.size+1) 2 (by(try simp)<;>omega)
   obtain⟨l6_0,q6_0⟩:=(aft hb6 (w.heap.size+1) (by(try simp)<;>omega)).2
   obtain⟨k6_1,l6_1,q6_1⟩:=aft hb6 (w5.heap.size+1) (by(try simp)<;>omega)
   simp(maxDischargeDepth:=6) [go_sem, *]at k6_0_0 k6_0_1 k6_0_2 q6_0 k6_1 q6_1
   have HB6:=Zh hb6
   clear hb6
   (try simp only[Zs]at hz5 hz6)
   have HS6:=Zh (show Xan (w4.setCell ⟨w.heap.size+1,1,none⟩ (.slice R1 8 d1)) w6 by unfold Xan;(repeat(first|(with_reducible exact Below.refl _ _)|(with_reducible refine Below.drew ?_)|(with_reducible refine Xbs ?_ _)|((with_reducible refine Below.setCell ?_ ?_ _);rotate_left;exact(by(try simp)<;>omega))|((with_reducible refine Below.alloc ?_ ?_ _);rotate_left;exact(by(try simp)<;>omega))|((with_reducible refine Below.trans ?_ (HB6.out.mono ?_));rotate_left;exact(by(try simp)<;>omega))|((with_reducible refine Below.trans ?_ (HB5.out.mono ?_));rotate_left;exact(by(try simp)<;>omega)))))
   have HO6:=Zh (Xdy HW4.out (by omega) HS6.out)
   have HB6c:=Zh (Xgq HBc.out HO6.out (by omega))
   have m6:=Xcd hc0 HO6.out (by omega)
   have r6_3:=fun o=>(HO6.out.2.2.1 (w.heap.size+1+1+1) o (by omega) (by omega)).trans (kc_3 o)
   have r6_4:=fun o=>(HO6.out.2.2.1 (w.heap.size+1+1+1+1) o (by omega) (by omega)).trans (kc_4 o)
   have r6_5:=fun o=>(HO6.out.2.2.1 (w.heap.size+1+1+1+1+1) o (by omega) (by omega)).trans (kc_5 o)
   have f6_0:=fun o=>(HO6.out.2.2.2 (w.heap.size) o (by omega)).trans (qc_0 o)
   have f6_2:=fun o=>(HO6.out.2.2.2 (w.heap.size+1+1) o (by omega)).trans (qc_2 o)
   have f6_3:=fun o=>(HO6.out.2.2.2 (w.heap.size+1+1+1) o (by omega)).trans (qc_3 o)
   have f6_4:=fun o=>(HO6.out.2.2.2 (w.heap.size+1+1+1+1) o (by omega)).trans (qc_4 o)
   have f6_5:=fun o=>(HO6.out.2.2.2 (w.heap.size+1+1+1+1+1) o (by omega)).trans (qc_5 o)
   have I6:=Zh (Xdf (HOA.out.ints (by decide)) HO6.out (fun ad e=>by injection e with e;subst e;show gA≠w.heap.size+1;omega))
   have IR6:=Zh (Xaf HR4.out HS6.out)
   have IL6:=Zh (Xev HOL.out.lines HO6.out (fun ad e=>by have:=(HPL.out ad e).1;show ad.block≠w.heap.size+1;omega))
   have HW6:=Zh (show Below w.heap.size w w6 from Below.trans HWc.out (Below.mono HO6.out.1 (by omega)))
   obtain⟨b0,b1,b2,b3,b4,b5,b6,b7,b8,b9,b10,b11⟩:=HB6c.out
   clear kc_3 kc_4 kc_5 qc_0 qc_2 qc_3 qc_4 qc_5 hc0
   go_upto_region 18 with(fail)
   go_region
   go_wp2
   rw[HST.out]
   refine bodyPost_ret (v:=.tuple #[.agg #[.slice (some ⟨gA,0,none⟩) 512 d],.agg #[.int .i64 at_,.slice R1 8 d1,.bool true],.agg (B_.b b L' n c'),.int .i64 0]) ?_ rfl ⟨_,_,_,_,_,_,_,rfl, ?_, ?_, ?_, ?_, ?_, ?_, ?_⟩
   ·simp(maxDischargeDepth:=8) [results,Tryz.results13,go_sem, *]
   ·refine Xhy (P:=(fun q=>q=w.heap.size+1∨q=w5.heap.size+1∨q=w.heap.size+1+1+1∨q=w.heap.size+1+1+1+1∨q=w.heap.size+1+1+1+1+1)) I6.out ?_ (fun ad e=>by injection e with e;subst e;show ¬(_∨_);simp only[];omega)
    (repeat(first|((with_reducible refine Xhe ?_ ?_ _);rotate_left;exact(by simp))|(with_reducible exact Xfq _)|(with_reducible refine Xfr ?_)))
   ·refine Xhy (P:=(fun q=>q=w.heap.size+1∨q=w5.heap.size+1∨q=w.heap.size+1+1+1∨q=w.heap.size+1+1+1+1∨q=w.heap.size+1+1+1+1+1)) IR6.out ?_ (fun ad e=>by have:=HP4.out ad e;show ¬(_∨_);omega)
    (repeat(first|((with_reducible refine Xhe ?_ ?_ _);rotate_left;exact(by simp))|(with_reducible exact Xfq _)|(with_reducible refine Xfr ?_)))
   ·refine Xiv (P:=(fun q=>q=w.heap.size+1∨q=w5.heap.size+1∨q=w.heap.size+1+1+1∨q=w.heap.size+1+1+1+1∨q=w.heap.size+1+1+1+1+1)) IL6.out ?_ (fun ad e=>by have:=HPL.out ad e;show ¬(_∨_);omega)
    (repeat(first|((with_reducible refine Xhe ?_ ?_ _);rotate_left;exact(by simp))|(with_reducible exact Xfq _)|(with_reducible refine Xfr ?_)))
   ·(refine bl ?_;repeat' first|with_reducible(first|assumption|constructor)|((try simp)<;>omega))
   ·intro ad e;injection e with e;subst e;show w.heap.size≤gA;omega
   ·intro ad e;have:=HP4.out ad e;omega
   ·intro ad e;have:=(HPL.out ad e).1;omega
end
end
section
theorem Xxg (xs:List Int) (h:Hrt) (b:Brg) (M R L:Option Addr) (nm mc nr rc n c:Nat) (w:World) (hm:Ints w w.heap.size M nm xs) (hr:Ints w w.heap.size R nr h.regs) (hl:Lines w w.heap.size L n c b.cache) (hE:Xe3 xs h b=0) (ys:List Int) (g:Hrt) (d:Brg) (he:Xee xs h b=(ys,g,d)) :
  Calls Tryz.prog 13 #[.agg #[.slice M nm mc],.agg #[.int .i64 h.at_,.slice R nr rc,.bool h.done],.agg (B_.b b L n c)] w fun e w'=>∃ A a P p Q q k,e=.returned (.tuple #[.agg #[.slice A 512 a],.agg #[.int .i64 g.at_,.slice P 8 p,.bool g.done],.agg (B_.b d Q q k),.int .i64 0]) ∧
   Ints w' w'.heap.size A 512 ys∧Ints w' w'.heap.size P 8 g.regs∧Lines w' w'.heap.size Q q k d.cache∧Below w.heap.size w w'∧(∀ ad,A=some ad→w.heap.size≤ad.block)∧(∀ ad,P=some ad→w.heap.size≤ad.block)∧∀ ad,Q=some ad→w.heap.size≤ad.block:=by
 obtain⟨c1,c2,c3,c4⟩:=Xlw hE
 have n1:nm=512:=by rw[←hm.len];exact(Xaz c1).1
 have n2:nr=8:=by rw[←hr.len];exact(Xap c2).1
 subst n1 n2
 obtain⟨at_,rs,dn⟩:=h
 simp only[]at c4
 subst c4
 have:=Xxh xs at_ rs b M R L mc rc n c w hm hr hl c1 c2 c3
 rw[he]at this
 exact this
theorem Xup (xs:List Int) (h:Hrt) (b:Brg) (M R L:Option Addr) (nm mc nr rc n c:Nat) (w:World) (hm:Ints w w.heap.size M nm xs) (hr:Ints w w.heap.size R nr h.regs) (hl:Lines w w.heap.size L n c b.cache) (hE:Xe3 xs h b≠0) :
  Calls Tryz.prog 13 #[.agg #[.slice M nm mc],.agg #[.int .i64 h.at_,.slice R nr rc,.bool h.done],.agg (B_.b b L n c)] w fun e w'=>e=.returned (.tuple #[.agg #[.slice none 0 0],.agg #[.int .i64 0,.slice none 0 0,.bool false],.agg (B_.b Brg.no none 0 0),.int .i64 (Xe3 xs h b)])∧Below w.heap.size w w':=by
 by_cases c1:cm xs=0
 ·by_cases c2:ckH h=0
  ·by_cases c3:ckB b=0
   ·have e:h.done=true:=by
     cases hd:h.done with
     |true=>rfl
     |false=>exact absurd (by unfold Xe3;rw[if_pos c1,if_pos c2,if_pos c3,hd];rfl) hE
    rw[show Xe3 xs h b=6 by unfold Xe3;rw[if_pos c1,if_pos c2,if_pos c3,e];rfl,e]
    exact Xur xs h b M R L nm mc nr rc n c w hm hr hl c1 c2 c3
   ·rw[show Xe3 xs h b=ckB b by unfold Xe3;rw[if_pos c1,if_pos c2,if_neg c3]]
    exact Xus xs h b M R L nm mc nr rc n c w hm hr hl c1 c2 c3
  ·rw[show Xe3 xs h b=ckH h by unfold Xe3;rw[if_pos c1,if_neg c2]]
   exact Xut xs h b M R L nm mc nr rc n c w hm hr c1 c2
 ·rw[show Xe3 xs h b=cm xs by unfold Xe3;rw[if_neg c1]]
  exact Xuu xs h b M R L nm mc nr rc n c w hm c1
end
end Go.Proofs.YtbopdijnojaaiadGreat
