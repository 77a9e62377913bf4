/- The devices: what the program's Do answers, at whatever it is asked. No statement of the seat is proved here. -/
import Derived.Test.YtbopdijnojaaiadGreatDmaD
import Derived.Test.YtbopdijnojaaiadGreatTell1
import Derived.Test.YtbopdijnojaaiadGreatAsk
import Derived.Deep.RegionHeld3
import Derived.Deep.RegionLaw
import Derived.Deep.DrawnRows
import Derived.Deep.DeepCutAuto
import Derived.RegionTactic
namespace Go.Proofs.YtbopdijnojaaiadGreat
set_option maxRecDepth 100000
set_option maxHeartbeats 8000000
open Go.RowKit
set_option linter.unusedSimpArgs false
set_option linter.unusedVariables false
section
attribute [local go_sem ↓] Go.wp_at_zero Go.wp_at_succ
section
variable (xs:List Int) (m:Option Addr) (mc:Nat) (b:Brg) (A0:Option Addr) (n0 c0:Nat) (dv at_ ct:Int) (data:List Int) (AD:Option Addr) (nd cd:Nat) (w:World) (hx:Ints w w.heap.size m 512 xs) (hl:Lines w w.heap.size A0 n0 c0 b.cache) (hd:Ints w w.heap.size AD nd data) (h0:cm xs=0) (hb:ckB b=0)
include hx hl hd h0 hb
theorem do_r (hq:reqE ⟨dv,at_,ct,false,data⟩=0) (R:List Int×Brg×Tld) (hR:dmaM xs b ⟨dv,at_,ct,false,data⟩=R) :
  Calls Tryz.prog 15 #[.agg #[.slice m 512 mc],.agg (B_.b b A0 n0 c0),.agg #[.int .i64 dv,.int .i64 at_,.int .i64 ct,.bool false,.slice AD nd cd]] w (DoC w 512 R 0):=by
 obtain⟨i0,hi,hz0,hz1,hz2⟩:=info_parts Tryz.infoInt
 obtain⟨j0,hj,hj0,hj1,hj2⟩:=info_parts Tryz.infoTch
 have HX:=Zh hx
 have HL:=Zh hl
 have HD:=Zh hd
 have HQ:=Zh hq
 have HR:=Zh hR
 have HC0:=Zh h0
 have HCB:=Zh hb
 have HN:=Zh (show n0≤1000 by have:=((Xcm _).1 ((Xbn b).1 hb).2.1).1;have:=hl.1;omega)
 have HI:=Zh hi;clear hi
 have HZ0:=Zh hz0;clear hz0
 have HZ1:=Zh hz1;clear hz1
 have HZ2:=Zh hz2;clear hz2
 have HJ:=Zh hj;clear hj
 have HJ0:=Zh hj0;clear hj0
 have HJ1:=Zh hj1;clear hj1
 have HJ2:=Zh hj2;clear hj2
 clear hx hl hd hq hR h0 hb
 go_enter Tryz.func15,Tryz.ntmps15
 go_wp2_with fail
 refine(Xb4 _ _ _ xs _ (Xaf HX.out (bl (by repeat' first|with_reducible(first|assumption|constructor)|((try simp)<;>omega))))).mono ?_
 rw[HC0.out]
 rintro e w11 ⟨rfl,hb11⟩
 have hz11:=hb11.size
 (try simp only[Zs]at hz11)
 obtain⟨k11_0,l11_0,q11_0⟩:=aft hb11 (w.heap.size) (by(try simp)<;>omega)
 obtain⟨k11_1,l11_1,q11_1⟩:=aft hb11 (w.heap.size+1) (by(try simp)<;>omega)
 obtain⟨k11_2,l11_2,q11_2⟩:=aft hb11 (w.heap.size+1+1) (by(try simp)<;>omega)
 obtain⟨k11_3,l11_3,q11_3⟩:=aft hb11 (w.heap.size+1+1+1) (by(try simp)<;>omega)
 obtain⟨k11_4,l11_4,q11_4⟩:=aft hb11 (w.heap.size+1+1+1+1) (by(try simp)<;>omega)
 obtain⟨k11_5,l11_5,q11_5⟩:=aft hb11 (w.heap.size+1+1+1+1+1) (by(try simp)<;>omega)
 simp(maxDischargeDepth:=6) [go_sem, *]at k11_0 q11_0 k11_1 q11_1 k11_2 q11_2 k11_3 q11_3 k11_4 q11_4 k11_5 q11_5
 have HB11:=Zh hb11
 clear hb11
 go_wp2_with fail
 refine(Xbh b A0 n0 c0 _ (Xah HL.out (bl (by repeat' first|with_reducible(first|assumption|constructor)|((try simp)<;>omega))))).mono ?_
 rw[HCB.out]
 rintro e w12 ⟨rfl,hb12⟩
 have hz12:=hb12.size
 (try simp only[Zs]at hz12)
 obtain⟨k12_0,l12_0,q12_0⟩:=aft hb12 (w.heap.size) (by(try simp)<;>omega)
 obtain⟨k12_1,l12_1,q12_1⟩:=aft hb12 (w.heap.size+1) (by(try simp)<;>omega)
 obtain⟨k12_2,l12_2,q12_2⟩:=aft hb12 (w.heap.size+1+1) (by(try simp)<;>omega)
 obtain⟨k12_3,l12_3,q12_3⟩:=aft hb12 (w.heap.size+1+1+1) (by(try simp)<;>omega)
 obtain⟨k12_4,l12_4,q12_4⟩:=aft hb12 (w.heap.size+1+1+1+1) (by(try simp)<;>omega)
 obtain⟨k12_5,l12_5,q12_5⟩:=aft hb12 (w.heap.size+1+1+1+1+1) (by(try simp)<;>omega)
 simp(maxDischargeDepth:=6) [go_sem, *]at k12_0 q12_0 k12_1 q12_1 k12_2 q12_2 k12_3 q12_3 k12_4 q12_4 k12_5 q12_5
 have HB12:=Zh hb12
 clear hb12
 go_wp2_with fail
 refine(Xjo ⟨dv,at_,ct,false,data⟩ AD nd cd _ (Xaf HD.out (bl (by repeat' first|with_reducible(first|assumption|constructor)|((try simp)<;>omega))))).mono ?_
 rw[HQ.out]
 rintro e w13 ⟨rfl,hb13⟩
 have hz13:=hb13.size
 (try simp only[Zs]at hz13)
 obtain⟨k13_0,l13_0,q13_0⟩:=aft hb13 (w.heap.size) (by(try simp)<;>omega)
 obtain⟨k13_1,l13_1,q13_1⟩:=aft hb13 (w.heap.size+1) (by(try simp)<;>omega)
 obtain⟨k13_2,l13_2,q13_2⟩:=aft hb13 (w.heap.size+1+1) (by(try simp)<;>omega)
 obtain⟨k13_3,l13_3,q13_3⟩:=aft hb13 (w.heap.size+1+1+1) (by(try simp)<;>omega)
 obtain⟨k13_4,l13_4,q13_4⟩:=aft hb13 (w.heap.size+1+1+1+1) (by(try simp)<;>omega)
 obtain⟨k13_5,l13_5,q13_5⟩:=aft hb13 (w.heap.size+1+1+1+1+1) (by(try simp)<;>omega)
 simp(maxDischargeDepth:=6) [go_sem, *]at k13_0 q13_0 k13_1 q13_1 k13_2 q13_2 k13_3 q13_3 k13_4 q13_4 k13_5 q13_5
 have HB13:=Zh hb13
 clear hb13
 have HW3:=Zh (show Below w.heap.size w w13 by(refine bl ?_;repeat' first|with_reducible(first|assumption|constructor)|((try simp)<;>omega)))
 have hz:=HW3.out.size
 have hz6:w.heap.size+6≤w13.heap.size:=by omega
 clear k11_0 q11_0 l11_0 k11_1 q11_1 l11_1 k11_2 q11_2 l11_2 k11_3 q11_3 l11_3 k11_4 q11_4 l11_4 k11_5 q11_5 l11_5 k12_0 q12_0 l12_0 k12_1 q12_1 l12_1 k12_2 q12_2 l12_2 k12_3 q12_3 l12_3 k12_4 q12_4 l12_4 k12_5 q12_5 l12_5 HB11 HB12 hz11 hz12
 go_upto_region 8 with(fail)
 go_cut [] (fun wd=>CopD w13 w.heap.size (w.heap.size+1) b n0 xs wd)
 case first=>
  clear k13_2 q13_2 l13_2 k13_3 q13_3 l13_3 k13_4 q13_4 l13_4 k13_5 q13_5 l13_5
  go_region_with (first
   |(go_at_call 40;refine(Xgl m 512 mc xs _ ?_ (by decide) (by decide)).mono ?_;(focus (refine Xaf HX.out ?_;(refine bl ?_;repeat' first|with_reducible(first|assumption|constructor)|((try simp)<;>omega));done));rintro e w4 ⟨A4,d4,rfl,ho4,hb4⟩;have hz4:=hb4.size;(try simp only[Zs]at hz4);obtain⟨k4_0,l4_0,q4_0⟩:=aft hb4 (w.heap.size) (by(try simp)<;>omega);obtain⟨k4_1,l4_1,q4_1⟩:=aft hb4 (w.heap.size+1) (by(try simp)<;>omega);simp(maxDischargeDepth:=6) [go_sem, *]at k4_0 q4_0 k4_1 q4_1;have HB4:=Zh hb4;clear hb4;have HP4:=Zh (Xat ho4.2);obtain⟨g4,rfl,_,_,_,_,_⟩:=Xb3 ho4 (by decide);have HO4:Hid (OwnI w13.heap.size w4 (some ⟨g4,0,none⟩) 512 d4 xs):=Zh (ho4.low (by(try simp)<;>omega));clear ho4)
   |(go_at_call 41;refine(Xdd b A0 n0 c0 _ ?_ HN.out).mono ?_;(focus (refine Xah HL.out ?_;(refine bl ?_;repeat' first|with_reducible(first|assumption|constructor)|((try simp)<;>omega));done));rintro e w5 ⟨A5,d5,rfl,ho5,hb5⟩;have hz5:=hb5.size;(try simp only[Zs]at hz5);obtain⟨k5_0,l5_0,q5_0⟩:=aft hb5 (w.heap.size) (by(try simp)<;>omega);obtain⟨k5_1,l5_1,q5_1⟩:=aft hb5 (w.heap.size+1) (by(try simp)<;>omega);simp(maxDischargeDepth:=6) [go_sem, *]at k5_0 q5_0 k5_1 q5_1;have HB5:=Zh hb5;clear hb5;have HO5:Hid (OwnL w13.heap.size w5 A5 n0 d5 b.cache):=Zh (ho5.low (by(try simp)<;>omega));have HP5:=Zh (Xat ho5.2.2.2);clear ho5))
  all_goals
   go_wp2
   go_meet
   refine⟨g4,d4,A5,d5, ?_, ?_, ?_, ?_, ?_, ?_, ?_⟩
   ·show _=_
    simp(maxDischargeDepth:=8) [go_sem,k4_0,k5_0,k4_1,k5_1]
   ·unfold Xbj
    simp(maxDischargeDepth:=8) [go_sem,k4_0,k5_0,k4_1,k5_1]
   ·(repeat(first|((with_reducible refine OwnI.set ?_ ?_ _);rotate_left;exact(by(try simp)<;>omega))|(with_reducible exact HO4.out)|(with_reducible refine OwnI.below ?_ HB5.out)))
   ·(repeat(first|((with_reducible refine OwnL.set ?_ ?_ _);rotate_left;exact(by(try simp)<;>omega))|(with_reducible exact HO5.out)|(with_reducible refine OwnL.below ?_ HB4.out)))
   ·(refine bl ?_;repeat' first|with_reducible(first|assumption|constructor)|((try simp)<;>omega))
   ·(repeat(first|((with_reducible refine Xkd ?_ ?_ _);rotate_left;exact(by simp))|(with_reducible exact Xg0 _)|(with_reducible refine Xh5 ?_)|(with_reducible refine Xd9 HB5.out ?_)|(with_reducible refine Xd9 HB4.out ?_)))
   ·intro ad e
    have q4:=HP4.out _ rfl
    have q5:=HP5.out ad e
    (try simp only[World.size_setCell,World.size_drew]at q4 q5)
    omega
 case rest=>
  obtain⟨w1,hw1⟩:∃ w1,w1=wc:=⟨_,rfl⟩
  subst hw1
  obtain⟨gM,d,L',c',hc0,hB,hO,hN,hb0,hOn,hap⟩:=hcut
  have HP2:=Zh (Xat hN.2.2.2)
  have hG:=Xat hO.2 _ rfl
  simp only[]at hG
  have hzc:w13.heap.size≤w1.heap.size:=hOn.1
  have HDI:Hid (DmaI w ⟨dv,at_,ct,false,data⟩ AD nd cd w1.heap.size gM d L' n0 c' none 0 0 none 0 0 ⟨xs,b,[],[],0,-1⟩ (w1.alloc (.cells B_.t 40))):=Zh (by
   have kc:=fun q (h1:q≠w.heap.size) (h2:q≠w.heap.size+1) (h3:q<w13.heap.size) o=>hOn.2.1 q o h1 h2 h3
   refine DmaI.start (Below.trans HW3.out hb0) (by omega) hc0 hB ⟨(kc _ (by omega) (by omega) l13_2 0).trans (k13_2 0),(kc _ (by omega) (by omega) l13_2 1).trans (k13_2 1),(kc _ (by omega) (by omega) l13_2 2).trans (k13_2 2),(kc _ (by omega) (by omega) l13_2 3).trans (k13_2 3),(kc _ (by omega) (by omega) l13_2 4).trans (k13_2 4)⟩
    ((kc _ (by omega) (by omega) l13_3 0).trans (k13_3 0)) (DmaI.brgz (fun o=>(kc _ (by omega) (by omega) l13_4 o).trans (k13_4 o))) (DmaI.tldz (fun o=>(kc _ (by omega) (by omega) l13_5 o).trans (k13_5 o))) ?_ (hO.low (by omega)) hN.lines ?_
   ·intro q o h1 h2
    rw[hOn.2.2 q o (by omega)]
    have hq:q=w.heap.size∨q=w.heap.size+1∨q=w.heap.size+1+1∨q=w.heap.size+1+1+1∨q=w.heap.size+1+1+1+1∨q=w.heap.size+1+1+1+1+1:=by omega
    rcases hq with rfl|rfl|rfl|rfl|rfl|rfl
    ·exact q13_0 o
    ·exact q13_1 o
    ·exact q13_2 o
    ·exact q13_3 o
    ·exact q13_4 o
    ·exact q13_5 o
   ·intro h0 ad e
    have:=HP2.out ad e
    exact⟨Or.inr (by omega),hap ad e⟩)
  have HFL0:=Zh (show ∀ ad,L'=some ad→w.heap.size≤ad.block from fun ad e=>by have:=HP2.out ad e;omega)
  have HQI:=Zh (Xft HQ.out)
  have HGT:=Zh (show dGo ⟨dv,at_,ct,false,data⟩ ct.toNat 0 ⟨xs,b,[],[],0,-1⟩=R from HR.out)
  clear k13_0 q13_0 l13_0 k13_1 q13_1 l13_1 k13_2 q13_2 l13_2 k13_3 q13_3 l13_3 k13_4 q13_4 l13_4 k13_5 q13_5 l13_5 HB13 HP2 hG hc0 hB hO hN hb0 hOn hap HX HL
  go_wp2
  go_loopw [12] (fun s12 wr=>DoL w ⟨dv,at_,ct,false,data⟩ AD nd cd w1.heap.size R s12 wr) (fun s12 _=>ct.toNat - (intOf s12).toNat)
  case atStart=>exact⟨0,_,_,_,_,_,_,_,_,_,_,_,_,rfl,by have h:=HQI.out.1;(try simp only[]at h);show(0:Int)≤ct;omega,Xgd HC0.out HCB.out,HGT.out,rfl,Nat.le_refl _,fun h e=>(by have h2:=(d_in (a:=⟨dv,at_,ct,false,data⟩) (i:=0) HQ.out h).2;rw[e]at h2;exact absurd h2 (by show ¬(0:Int) ≤ -1;decide)),HDI.out,HFL0.out⟩
  case round=>
   clear HDI HGT HC0 HCB HR HFL0
   obtain⟨i,s,gM,mcc,L,n,c,D,dn,dc,T,tn,tc,rfl,hi,hok,hgo,htl,hdl2,hpg,hI,hFL⟩:=hrel
   have hqi:=HQI.out
   have hrq:=hqi.2.1
   unfold reqR at hrq
   simp only[]at hi hqi hrq
   obtain⟨⟨hc1,hc2⟩,_,hdl,_⟩:=hqi
   obtain⟨⟨hd1,hd2⟩,ha1,ha2⟩:=hrq
   have HFL:=Zh hFL
   have HPG:=Zh hpg
   have HOK:=Zh hok
   have HGO:=Zh hgo
   have HTL:=Zh htl
   have HDL:=Zh hdl2
   have HI2:=Zh hI
   obtain⟨hgt1,hgt2⟩:=And.intro hI.gt1 hI.gt2
   obtain⟨hgM1,hgM2⟩:=hI.gM1
   have hfM:=hI.fM
   have hzz:=Below.size hI.below
   have m0:=hI.m0
   obtain⟨a0,a1,a2,a3,a4⟩:=hI.ask
   obtain⟨t0,t1,t2,t3⟩:=hI.tl
   obtain⟨b0,b1,b2,b3,b4,b5,b6,b7,b8,b9,b10,b11⟩:=hI.br
   simp only[]at a0 a1 a2 a3 a4 t0 t1 t2 t3
   have f0:=fun o=>hI.fz (w.heap.size) o (Or.inl (by omega))
   have f1:=fun o=>hI.fz (w.heap.size+1) o (Or.inl (by omega))
   have f3:=fun o=>hI.fz (w.heap.size+1+1+1) o (Or.inl (by omega))
   have f4:=fun o=>hI.fz (w.heap.size+1+1+1+1) o (Or.inl (by omega))
   have f5:=fun o=>hI.fz (w.heap.size+1+1+1+1+1) o (Or.inl (by omega))
   have f6:=fun o=>hI.fz w1.heap.size o (Or.inr rfl)
   have xx0:w.heap.size<wr.heap.size:=by omega
   have xx1:w.heap.size+1<wr.heap.size:=by omega
   have xx2:w.heap.size+1+1<wr.heap.size:=by omega
   have xx3:w.heap.size+1+1+1<wr.heap.size:=by omega
   have xx4:w.heap.size+1+1+1+1<wr.heap.size:=by omega
   have xx5:w.heap.size+1+1+1+1+1<wr.heap.size:=by omega
   have xx6:w1.heap.size<wr.heap.size:=by omega
   have y0a:¬w.heap.size=gM:=by omega
   have y0b:¬gM=w.heap.size:=by omega
   have z0a:¬w.heap.size=w1.heap.size:=by omega
   have z0b:¬w1.heap.size=w.heap.size:=by omega
   have y1a:¬w.heap.size+1=gM:=by omega
   have y1b:¬gM=w.heap.size+1:=by omega
   have z1a:¬w.heap.size+1=w1.heap.size:=by omega
   have z1b:¬w1.heap.size=w.heap.size+1:=by omega
   have y2a:¬w.heap.size+1+1=gM:=by omega
   have y2b:¬gM=w.heap.size+1+1:=by omega
   have z2a:¬w.heap.size+1+1=w1.heap.size:=by omega
   have z2b:¬w1.heap.size=w.heap.size+1+1:=by omega
   have y3a:¬w.heap.size+1+1+1=gM:=by omega
   have y3b:¬gM=w.heap.size+1+1+1:=by omega
   have z3a:¬w.heap.size+1+1+1=w1.heap.size:=by omega
   have z3b:¬w1.heap.size=w.heap.size+1+1+1:=by omega
   have y4a:¬w.heap.size+1+1+1+1=gM:=by omega
   have y4b:¬gM=w.heap.size+1+1+1+1:=by omega
   have z4a:¬w.heap.size+1+1+1+1=w1.heap.size:=by omega
   have z4b:¬w1.heap.size=w.heap.size+1+1+1+1:=by omega
   have y5a:¬w.heap.size+1+1+1+1+1=gM:=by omega
   have y5b:¬gM=w.heap.size+1+1+1+1+1:=by omega
   have z5a:¬w.heap.size+1+1+1+1+1=w1.heap.size:=by omega
   have z5b:¬w1.heap.size=w.heap.size+1+1+1+1+1:=by omega
   have z6a:¬gM=w1.heap.size:=hfM
   have z6b:¬w1.heap.size=gM:=fun e=>hfM e.symm
   clear hFL hpg
   by_cases hlt:(i:Int)<ct
   rotate_left
   ·have hie:(i:Int)=ct:=by omega
    have HRE:Hid ((s.xs,s.b,(⟨true,s.data,0,s.touched⟩:Tld))=R):=Zh (by
     have h:=HGO.out
     rw[show(⟨dv,at_,ct,false,data⟩:Ask).count.toNat - i=0 by show ct.toNat - i=0;omega]at h
     exact h)
    have hnl:¬(i:Int)<ct:=hlt
    have z3:=hI.z3
    obtain⟨c0,c1,c2,c3,c4,c5,c6,c7,c8,c9,c10,c11⟩:=hI.z4
    obtain⟨d0,d1,d2,d3⟩:=hI.z5
    simp only[Brg.no,Ring.no,Tld.no]at c0 c1 c2 c3 c4 c5 c6 c7 c8 c9 c10 c11 d0 d1 d2 d3
    clear hI hok hgo htl hdl2 hlt hfM hie a0 a1 a3 a4
    go_wp2
    go_region
    all_goals
     go_wp2
     rw[←HRE.out]
     refine bodyPost_ret (v:=.tuple #[.agg #[.slice (some ⟨gM,0,none⟩) 512 mcc],.agg (B_.b s.b L n c),.agg #[.bool true,.slice D dn dc,.int .i64 0,.slice T tn tc],.int .i64 0]) ?_ rfl (Xw0 HI2.out ?_ HFL.out true 0)
     ·simp(maxDischargeDepth:=8) [results,Tryz.results15,go_sem, *]
     ·(repeat(first|(with_reducible exact Xaq _)|(with_reducible refine Xa7 ?_ _)|(with_reducible refine Xa5 ?_)|(with_reducible refine Xay ?_ _)|((with_reducible refine Xbb ?_ ?_ _);rotate_left;exact(by first|(simp;done)|(simp[Xbe];done)|(simp[Xbe];omega)|omega))))
   have hin:=d_in (a:=⟨dv,at_,ct,false,data⟩) (i:=i) HQ.out hlt
   obtain⟨hin1,hin2⟩:=hin
   have HIN:=Zh hin1
   have e1:(at_+(i:Int)).tdiv 8=(at_+i) / 8:=Int.tdiv_eq_ediv_of_nonneg (by omega)
   have hcnt:ct.toNat - i=(ct.toNat - (i+1))+1:=by omega
   have HCN:=Zh hcnt
   have HLT:=Zh hlt
   have HP:=Zh (HPG.out hlt)
   obtain⟨rb,ra,rf,hr⟩:∃ rb ra rf,Xdh s.xs s.b dv ((at_+i) / 8) false=(rb,ra,rf):=⟨_,_,_,rfl⟩
   have HTR:=Zh (show Xdb ⟨dv,at_,ct,false,data⟩ i s=(rb,ra,rf)from hr)
   have HKB:=Zh (show ckB rb=0 by have h:=(HOK.out.next HQ.out HLT.out).kb;rw[show(Xg8 ⟨dv,at_,ct,false,data⟩ i s).b=rb by show(Xdb ⟨dv,at_,ct,false,data⟩ i s).1=rb;rw[HTR.out]]at h;exact h)
   clear hI hok hgo htl hdl2 hcnt hin1 hin2
   go_wp2_with fail
   refine(Xkk s.xs (some ⟨gM,0,none⟩) mcc s.b L n c dv ((at_+i) / 8) false wr (HI2.out.rm.ints (by decide)) HI2.out.rl HOK.out.km HOK.out.kb HIN.out rb ra rf hr).mono ?_
   rintro e w2 ⟨L',n',c',rfl,hl2,hb2,hf2⟩
   have HI3:=Zh (HI2.out.since hb2)
   have HL2:=Zh hl2
   have HF2:=Zh hf2
   have HB2:=Zh hb2
   have hI3:=HI3.out
   have hz2:=Below.size hb2
   clear hl2 hf2 hb2 hr m0 a0 a1 a2 a3 a4 t0 t1 t2 t3 b0 b1 b2 b3 b4 b5 b6 b7 b8 b9 b10 b11 f0 f1 f3 f4 f5 f6 xx0 xx1 xx2 xx3 xx4 xx5 xx6
   have m0:=hI3.m0
   obtain⟨a0,a1,a2,a3,a4⟩:=hI3.ask
   obtain⟨t0,t1,t2,t3⟩:=hI3.tl
   obtain⟨b0,b1,b2,b3,b4,b5,b6,b7,b8,b9,b10,b11⟩:=hI3.br
   simp only[]at a0 a1 a2 a3 a4 t0 t1 t2 t3
   have f0:=fun o=>hI3.fz (w.heap.size) o (Or.inl (by omega))
   have f1:=fun o=>hI3.fz (w.heap.size+1) o (Or.inl (by omega))
   have f3:=fun o=>hI3.fz (w.heap.size+1+1+1) o (Or.inl (by omega))
   have f4:=fun o=>hI3.fz (w.heap.size+1+1+1+1) o (Or.inl (by omega))
   have f5:=fun o=>hI3.fz (w.heap.size+1+1+1+1+1) o (Or.inl (by omega))
   have f6:=fun o=>hI3.fz w1.heap.size o (Or.inr rfl)
   have xx0:w.heap.size<w2.heap.size:=by omega
   have xx1:w.heap.size+1<w2.heap.size:=by omega
   have xx2:w.heap.size+1+1<w2.heap.size:=by omega
   have xx3:w.heap.size+1+1+1<w2.heap.size:=by omega
   have xx4:w.heap.size+1+1+1+1<w2.heap.size:=by omega
   have xx5:w.heap.size+1+1+1+1+1<w2.heap.size:=by omega
   have xx6:w1.heap.size<w2.heap.size:=by omega
   have xx7:wr.heap.size≤w2.heap.size:=hz2
   have z9a:¬w.heap.size+1=w2.heap.size:=by omega
   have z9b:¬w2.heap.size=w.heap.size+1:=by omega
   clear hI3
   by_cases hf:rf=0
   ·subst hf
    go_wp2
    have HI4:Hid (DmaI w ⟨dv,at_,ct,false,data⟩ AD nd cd w1.heap.size gM mcc L' n' c' D dn dc T tn tc ⟨s.xs,rb,s.data,s.touched,ra,(at_+i) / 8⟩ (((((((((((((w2.setCell ⟨w.heap.size+1,0,none⟩ (.int .i64 rb.mode)).setCell ⟨w.heap.size+1,1,none⟩ (.int .i64 rb.base)).setCell ⟨w.heap.size+1,2,none⟩ (.slice L' n' c')).setCell ⟨w.heap.size+1,3,none⟩ (.int .i64 rb.orders.page)).setCell ⟨w.heap.size+1,4,none⟩ (.int .i64 rb.orders.head)).setCell ⟨w.heap.size+1,5,none⟩ (.int .i64 rb.orders.tail)).setCell ⟨w.heap.size+1,6,none⟩ (.bool rb.stopped)).setCell ⟨w.heap.size+1,7,none⟩ (.int .i64 rb.fences)).setCell ⟨w.heap.size+1,8,none⟩ (.int .i64 rb.faults.page)).setCell ⟨w.heap.size+1,9,none⟩ (.int .i64 rb.faults.head)).setCell ⟨w.heap.size+1,10,none⟩ (.int .i64 rb.faults.tail)).setCell ⟨w.heap.size+1,11,none⟩ (.bool rb.lost)).alloc (.cells (B_.b rb L' n' c') 31))):=Zh (HI2.out.brgL HB2.out HL2.out (Or.inr HF2.out) (by(repeat(first|(with_reducible exact Xaq _)|(with_reducible refine Xa7 ?_ _)|(with_reducible refine Xa5 ?_)|(with_reducible refine Xay ?_ _)|((with_reducible refine Xbb ?_ ?_ _);rotate_left;exact(by first|(simp;done)|(simp[Xbe];done)|(simp[Xbe];omega)|omega))))) (by intro o;simp(maxDischargeDepth:=6) [go_sem,f1,xx1]) (by unfold Xbj;simp(maxDischargeDepth:=8) [go_sem, *]) ra ((at_+i) / 8))
    have HGA:=Zh (Xmv HGO.out HCN.out HP.out (by rw[HTR.out]))
    have HE4:Hid (Xg8 ⟨dv,at_,ct,false,data⟩ i s=⟨s.xs,rb,s.data,s.touched,ra,(at_+i) / 8⟩):=Zh (by show(⟨s.xs,(Xdb ⟨dv,at_,ct,false,data⟩ i s).1,s.data,s.touched,(Xdb ⟨dv,at_,ct,false,data⟩ i s).2.1,(at_+i) / 8⟩:Dst)=_;rw[HTR.out])
    have HOK4:=Zh (HOK.out.next HQ.out HLT.out)
    have hra:0≤ra∧ra≤63:=by have h:=(Xgf (xs:=s.xs) (wr:=false) HOK.out.kb HIN.out).1;rw[show Xdh s.xs s.b dv (Xet ⟨dv,at_,ct,false,data⟩ i) false=(rb,ra,0)from HTR.out]at h;exact h
    obtain⟨hra1,hra2⟩:=hra
    have HFL4:=Zh (show ∀ ad,L'=some ad→w.heap.size≤ad.block from fun ad e=>by have:=HF2.out ad e;omega)
    clear m0 a0 a1 a2 a3 a4 t0 t1 t2 t3 b0 b1 b2 b3 b4 b5 b6 b7 b8 b9 b10 b11 f0 f1 f3 f4 f5 f6 xx0 xx1 xx2 xx3 xx4 xx5 xx6 y0a y0b z0a z0b y1a y1b z1a z1b y2a y2b z2a z2b y3a y3b z3a z3b y4a y4b z4a z4b y5a y5b z5a z5b z6a z6b
    obtain⟨wp,hwp⟩:∃ wp,wp=wr:=⟨_,rfl⟩
    subst hwp
    go_loopw [12] (fun s12 wr=>DoI w ⟨dv,at_,ct,false,data⟩ AD nd cd w1.heap.size R i ((at_+i) / 8) ra s12 wr) (fun s12 _=>ct.toNat - (intOf s12).toNat)
    case atStart=>exact⟨i,_,_,_,_,_,_,_,_,_,_,_,_,rfl,Nat.le_refl _,by show(i:Int)≤ct;omega,HOK4.out,rfl,by rw[HE4.out],HGA.out,HTL.out,HDL.out,by rw[HE4.out];exact HI4.out,HFL4.out⟩
    case round=>
     clear HI4 HGA HE4 HOK4 HFL4 HI3 HL2 HF2 HB2 HOK HGO HTL HDL HI2 HFL HP HPG HIN HCN HKB HTR hgt2 hgM1 hgM2 hfM hzz hz2 xx7 z9a z9b
     obtain⟨i2,s2,gM,mcc,L,n,c,D,dn,dc,T,tn,tc,rfl,hii,hi2,hok,hpg2,hat2,hgo,htl,hdl2,hI,hFL⟩:=hrel
     have HFL:=Zh hFL
     have HPG2:=Zh hpg2
     have HAT2:=Zh hat2
     simp only[]at hi2
     have HOK:=Zh hok
     have HGO:=Zh hgo
     have HTL:=Zh htl
     have HDL:=Zh hdl2
     have HI2:=Zh hI
     obtain⟨hgt1,hgt2⟩:=And.intro hI.gt1 hI.gt2
     obtain⟨hgM1,hgM2⟩:=hI.gM1
     have hfM:=hI.fM
     have hzz:=Below.size hI.below
     have m0:=hI.m0
     obtain⟨a0,a1,a2,a3,a4⟩:=hI.ask
     obtain⟨t0,t1,t2,t3⟩:=hI.tl
     obtain⟨b0,b1,b2,b3,b4,b5,b6,b7,b8,b9,b10,b11⟩:=hI.br
     simp only[]at a0 a1 a2 a3 a4 t0 t1 t2 t3
     have f0:=fun o=>hI.fz (w.heap.size) o (Or.inl (by omega))
     have f1:=fun o=>hI.fz (w.heap.size+1) o (Or.inl (by omega))
     have f3:=fun o=>hI.fz (w.heap.size+1+1+1) o (Or.inl (by omega))
     have f4:=fun o=>hI.fz (w.heap.size+1+1+1+1) o (Or.inl (by omega))
     have f5:=fun o=>hI.fz (w.heap.size+1+1+1+1+1) o (Or.inl (by omega))
     have f6:=fun o=>hI.fz w1.heap.size o (Or.inr rfl)
     have xx0:w.heap.size<wr.heap.size:=by omega
     have xx1:w.heap.size+1<wr.heap.size:=by omega
     have xx2:w.heap.size+1+1<wr.heap.size:=by omega
     have xx3:w.heap.size+1+1+1<wr.heap.size:=by omega
     have xx4:w.heap.size+1+1+1+1<wr.heap.size:=by omega
     have xx5:w.heap.size+1+1+1+1+1<wr.heap.size:=by omega
     have xx6:w1.heap.size<wr.heap.size:=by omega
     have y0a:¬w.heap.size=gM:=by omega
     have y0b:¬gM=w.heap.size:=by omega
     have z0a:¬w.heap.size=w1.heap.size:=by omega
     have z0b:¬w1.heap.size=w.heap.size:=by omega
     have y1a:¬w.heap.size+1=gM:=by omega
     have y1b:¬gM=w.heap.size+1:=by omega
     have z1a:¬w.heap.size+1=w1.heap.size:=by omega
     have z1b:¬w1.heap.size=w.heap.size+1:=by omega
     have y2a:¬w.heap.size+1+1=gM:=by omega
     have y2b:¬gM=w.heap.size+1+1:=by omega
     have z2a:¬w.heap.size+1+1=w1.heap.size:=by omega
     have z2b:¬w1.heap.size=w.heap.size+1+1:=by omega
     have y3a:¬w.heap.size+1+1+1=gM:=by omega
     have y3b:¬gM=w.heap.size+1+1+1:=by omega
     have z3a:¬w.heap.size+1+1+1=w1.heap.size:=by omega
     have z3b:¬w1.heap.size=w.heap.size+1+1+1:=by omega
     have y4a:¬w.heap.size+1+1+1+1=gM:=by omega
     have y4b:¬gM=w.heap.size+1+1+1+1:=by omega
     have z4a:¬w.heap.size+1+1+1+1=w1.heap.size:=by omega
     have z4b:¬w1.heap.size=w.heap.size+1+1+1+1:=by omega
     have y5a:¬w.heap.size+1+1+1+1+1=gM:=by omega
     have y5b:¬gM=w.heap.size+1+1+1+1+1:=by omega
     have z5a:¬w.heap.size+1+1+1+1+1=w1.heap.size:=by omega
     have z5b:¬w1.heap.size=w.heap.size+1+1+1+1+1:=by omega
     have z6a:¬gM=w1.heap.size:=hfM
     have z6b:¬w1.heap.size=gM:=fun e=>hfM e.symm
     have z7a:¬wr.heap.size=gM:=by omega
     have z7b:¬gM=wr.heap.size:=by omega
     have z8a:¬wr.heap.size=w1.heap.size:=by omega
     have z8b:¬w1.heap.size=wr.heap.size:=by omega
     clear hFL hpg2 hat2
     have e3:(at_+(i2:Int)).tdiv 8=(at_+i2) / 8:=Int.tdiv_eq_ediv_of_nonneg (by omega)
     have e4:(at_+(i2:Int)).tmod 8=(at_+i2) % 8:=Int.tmod_eq_emod_of_nonneg (by omega)
     have w4e:IntKind.i64.wrap ((at_+(i2:Int)) / 8)=(at_+i2) / 8:=IntWalk.i64_in _ (by omega)
     by_cases hlt2:(i2:Int)<ct
     ·by_cases hpq:(at_+(i2:Int)) / 8=(at_+i) / 8
      ·have t9:((at_+(i2:Int)) / 8==(at_+i) / 8)=true:=by rw[beq_iff_eq];exact hpq
       have HPQ:=Zh (show Xet ⟨dv,at_,ct,false,data⟩ i2=s2.page from hpq.trans HPG2.out.symm)
       have HLT2:=Zh hlt2
       clear hpq
       obtain⟨K,hK⟩:∃ K,K=ra * 8+(at_+(i2:Int)) % 8:=⟨_,rfl⟩
       have HK:=Zh (show dAt ⟨dv,at_,ct,false,data⟩ i2 s2=K by show s2.at_ * 8+(at_+(i2:Int)) % 8=K;rw[HAT2.out,hK])
       have k1:(0:Int)≤K:=by omega
       have k2:K<512:=by omega
       have e8:ra * 8+(at_+(i2:Int)) % 8=K:=hK.symm
       have m8:IntKind.i64.wrap (ra * 8)=ra * 8:=IntWalk.i64_in _ (by omega)
       have m9:IntKind.i64.wrap K=K:=IntWalk.i64_in _ (by omega)
       obtain⟨_,eg,_,_,hgc,hgf,hgs⟩:=Xb3 hI.rm (by decide)
       injection eg with eg
       injection eg with eg
       subst eg
       have hcM:=hgc _ _ (Xc7 (i:=K) (Xaz hok.km).1 ⟨k1,k2⟩)
       have HRT:=Zh hI.rt.2.2.2
       have HFT:=Zh hI.fT
       have HRD:=Zh hI.rd.2
       have HFD:=Zh hI.fD
       have HTN:=Zh (show tn=i2 by rw[←hI.rt.1];exact htl)
       have hdn:dn≤i2:=by rw[←hI.rd.1];exact hdl2
       have HGW:=Zh (Xi0 HGO.out (show ct.toNat - i2=(ct.toNat - (i2+1))+1 by omega) HPQ.out)
       clear hI hok hgo htl hdl2 hgc hgs hK b0 b1 b2 b3 b4 b5 b6 b7 b8 b9 b10 b11
       obtain⟨v,hv⟩:∃ v,v=rd s2.xs K:=⟨_,rfl⟩
       rw[←hv]at hcM
       have HDW:Hid (Xf3 ⟨dv,at_,ct,false,data⟩ i2 s2=⟨s2.xs,s2.b,s2.data ++ [v],s2.touched ++ [⟨dv,at_+i2,K,false,v⟩],s2.at_,s2.page⟩):=Zh (by
        have e1:dPut ⟨dv,at_,ct,false,data⟩ i2 s2=s2.xs:=rfl
        unfold Xf3 dTch
        rw[e1,HK.out,hv]
        rfl)
       have HBD:=Zh HI2.out.bD
       have HVV:=Zh (show rd s2.xs K=v from hv.symm)
       clear hv HD
       have HLB:=Zh HI2.out.lb
       have HTB:=Zh HI2.out.bT
       go_upto_region 24 with(fail)
       go_cut [] (fun wd=>RdC w ⟨dv,at_,ct,false,data⟩ AD nd cd w1.heap.size gM mcc L n c dn T tn tc ⟨s2.xs,s2.b,s2.data ++ [v],s2.touched,s2.at_,s2.page⟩ wr.heap.size dv (at_+i2) K wd)
       case first=>
        go_region_law ((refine step_append_lies _ (by rfl) (.tmp 128) (.tmp 135) 22 (by rfl) (w.heap.size+6) 3 i0 (.int .i64 0) 1 8 Tryz.underlying22 HI.out HZ0.out HZ1.out HZ2.out (by rfl) (by decide) (.slice D dn dc) dn (s2.data.map (Value.int .i64)) (by rfl) (Xdc HRD.out (P:=fun _=>False) (by(repeat(first|(with_reducible exact Xaq _)|(with_reducible refine Xa7 ?_ _)|(with_reducible refine Xa5 ?_)|(with_reducible refine Xay ?_ _)|((with_reducible refine Xbb ?_ ?_ _);rotate_left;exact(by first|(simp;done)|(simp[Xbe];done)|(simp[Xbe];omega)|omega))))) (fun _ _ h=>h)) ⟨wr.heap.size+1,0,none⟩ 1 1 [.int .i64 v] (by rfl) (by rfl) (Xcz (by simp) rfl) (Xh8 _) (by decide) (by unfold maxLen;omega) (by omega) (by simp;omega) _ rfl ?_;intro gd capd W4 hownd hgrowd hatd hltd;have HT4:=Zh (HI2.out.datag (by unfold Xan;(refine bl ?_;repeat' first|with_reducible(first|assumption|constructor)|((try simp)<;>omega))) hgrowd hownd hatd);have hne:∀ q,(∀ ad,D=some ad→ad.block≠q)→some q≠(Value.slice D dn dc).ownBlock:=(fun q hq e=>by obtain⟨ad,e1,e2⟩:=Xc5 e.symm;exact hq ad e1 e2);have hnx:=hne wr.heap.size (fun ad e=>by have:=HBD.out ad e;omega);have hnm:=hne w.heap.size (fun ad e=>by have:=HBD.out ad e;omega);have hng:=hne gM (fun ad e=>(HFD.out ad e).2.1);have kx0:=hgrowd.cell_far ⟨wr.heap.size,0,none⟩ (by simp;omega) hnx;have kx1:=hgrowd.cell_far ⟨wr.heap.size,1,none⟩ (by simp;omega) hnx;have kx2:=hgrowd.cell_far ⟨wr.heap.size,2,none⟩ (by simp;omega) hnx;have kx3:=hgrowd.cell_far ⟨wr.heap.size,3,none⟩ (by simp;omega) hnx;have kx4:=hgrowd.cell_far ⟨wr.heap.size,4,none⟩ (by simp;omega) hnx;have kxf:=fun o=>hgrowd.frozen_far ⟨wr.heap.size,o,none⟩ (by simp;omega) hnx;have km0:=hgrowd.cell_far ⟨w.heap.size,0,none⟩ (by simp;omega) hnm;have kg0:=hgrowd.cell_far ⟨gM,K.toNat,none⟩ (by simp;omega) hng;simp(maxDischargeDepth:=6) [go_sem,m0,hcM,xx0,hgM2]at kx0 kx1 kx2 kx3 kx4 kxf km0 kg0;have hzx:=hgrowd.size;(try simp only[Zs]at hzx);have zx1:wr.heap.size<W4.heap.size:=(by omega);have HBDX:Hid (gd≠wr.heap.size):=Zh (by rcases hatd with hh|hh;(obtain⟨ad,e1,e2⟩:=Xc5 hh;have:=HBD.out ad e1;omega);(simp at hh;omega));clear hownd hgrowd hatd hltd hne hnx hnm hng;obtain⟨⟨p0,p1,p2,p3⟩,f4t,lt4,_⟩:=HT4.out;(try simp only[]at p0 p1 p2 p3)))
        all_goals
         go_wp2
         go_meet
         refine⟨gd,capd,HT4.out.2.2.2,⟨?_, ?_, ?_, ?_, ?_⟩, ?_, ?_, ?_⟩
         ·simp(maxDischargeDepth:=6) [go_sem,kx0,z8a,z8b]
         ·simp(maxDischargeDepth:=6) [go_sem,kx1,z8a,z8b]
         ·simp(maxDischargeDepth:=6) [go_sem,kx2,z8a,z8b]
         ·simp(maxDischargeDepth:=6) [go_sem,kx3,z8a,z8b]
         ·simp(maxDischargeDepth:=6) [go_sem,kx4,z8a,z8b]
         ·intro o;simp(maxDischargeDepth:=6) [go_sem,kxf]
         ·simp;omega
         ·have:=HBDX.out;omega
       case rest=>
        obtain⟨gd,capd,hJ,⟨x0,x1,x2,x3,x4⟩,xf,xl,xg⟩:=hcut
        have HI6:=Zh hJ
        have hjm:=hJ.m0
        obtain⟨j0',j1',j2',j3'⟩:=hJ.tl
        have jf:=fun o=>hJ.fz w1.heap.size o (Or.inr rfl)
        have jl:=hJ.gt2
        have jg:=hJ.gM1
        obtain⟨_,eg,_,_,hgc,_,_⟩:=Xb3 hJ.rm (by decide)
        injection eg with eg
        injection eg with eg
        subst eg
        have hcM2:=hgc _ _ ((Xc7 (i:=K) (Xaz HOK.out.km).1 ⟨k1,k2⟩).trans (congrArg some HVV.out))
        have jz0:w.heap.size<wc.heap.size:=by omega
        simp only[]at j0' j1' j2' j3'
        clear hJ hgc m0 a0 a1 a2 a3 a4 t0 t1 t2 t3 f0 f1 f3 f4 f5 f6 xx0 xx1 xx2 xx3 xx4 xx5 xx6 hcM hgf
        go_wp2_with (at_builtin;go_loud (refine wpList_append_lies _ rfl (.tmp 146) (.tmp 148) 38 rfl (w.heap.size+6) 76 j0 (.agg #[.int .i64 0,.int .i64 0,.int .i64 0,.bool false,.int .i64 0]) 5 40 Tryz.underlying38 HJ.out HJ0.out HJ1.out HJ2.out rfl (by decide) (.slice T tn tc) tn (Xd0 s2.touched) rfl (Xdc HI6.out.rt.2.2.2 (P:=fun q=>q=wr.heap.size) (by(repeat(first|(with_reducible exact Xaq _)|(with_reducible refine Xa7 ?_ _)|(with_reducible refine Xa5 ?_)|(with_reducible refine Xay ?_ _)|((with_reducible refine Xbb ?_ ?_ _);rotate_left;exact(by first|(simp;done)|(simp[Xbe];done)|(simp[Xbe];omega)|omega))))) (fun ad e=>(by have:=HTB.out ad e;omega))) ⟨wc.heap.size,0,none⟩ 1 1 (Tch.vals ⟨dv,at_+i2,K,false,v⟩) rfl rfl (Xcz (by simp) rfl) (Xkq _) (by decide) (by have:=HTN.out;unfold maxLen;omega) (by have:=HTN.out;omega) (by simp;omega) _ rfl ?_;intro g cap W5 hown hgrow hat5 hlt5;have HT5:=Zh ((HI6.out.memX (X:=wr.heap.size) (W':=wc.setCell ⟨wr.heap.size,4,none⟩ (.int .i64 v)) (Xbb (P:=fun q=>q=wr.heap.size) (Xaq wc) (Or.inl rfl) _) ⟨by omega,by omega,by omega⟩ (fun h0 ad e=>by have:=HLB.out h0 ad e;omega) (fun ad e=>by injection e with e;subst e;exact xg) (fun ad e=>by have:=HTB.out ad e;omega)).tchg (by(repeat(first|(with_reducible exact Xaq _)|(with_reducible refine Xa7 ?_ _)|(with_reducible refine Xa5 ?_)|(with_reducible refine Xay ?_ _)|((with_reducible refine Xbb ?_ ?_ _);rotate_left;exact(by first|(simp;done)|(simp[Xbe];done)|(simp[Xbe];omega)|omega))))) (Xbu (P:=fun q=>q=wr.heap.size) HI6.out.rm (by(repeat(first|(with_reducible exact Xaq _)|(with_reducible refine Xa7 ?_ _)|(with_reducible refine Xa5 ?_)|(with_reducible refine Xay ?_ _)|((with_reducible refine Xbb ?_ ?_ _);rotate_left;exact(by first|(simp;done)|(simp[Xbe];done)|(simp[Xbe];omega)|omega))))) (fun ad e=>by injection e with e;subst e;show ¬gM=_;omega)) hgrow hown hat5);clear hown hgrow hat5 hlt5;obtain⟨⟨q0,q1,q2,q3⟩,f5t,lt5,_⟩:=HT5.out;(try simp only[]at q3)))
        go_roundw
        case rel=>
         refine⟨i2+1,Xf3 ⟨dv,at_,ct,false,data⟩ i2 s2,gM,mcc,L,n,c,some ⟨gd,0,none⟩,dn+1,capd,some ⟨g,0,none⟩,tn+1,cap,by go_num,by omega,by show((i2+1:Nat):Int)≤ct;omega,HOK.out.word HQ.out HLT2.out,by rw[HDW.out];exact HPG2.out,by rw[HDW.out];exact HAT2.out,HGW.out, ?_, ?_, ?_,HFL.out⟩
         ·rw[HDW.out];simp[HTL.out]
         ·rw[HDW.out];have:=HDL.out;simp;omega
         ·rw[HDW.out];exact HT5.out.2.2.2
        case measure=>simp[intOf];omega
      ·have t9:((at_+(i2:Int)) / 8==(at_+i) / 8)=false:=by rw[beq_eq_false_iff_ne];exact hpq
       have HPQ:=Zh (show Xet ⟨dv,at_,ct,false,data⟩ i2≠s2.page from fun e=>hpq (e.trans HPG2.out))
       have hii2:i<i2:=by
        rcases Nat.lt_or_ge i i2 with h|h
        ·exact h
        ·have:i2=i:=by omega
         subst this;exact absurd rfl hpq
       clear hpq hI hok hgo htl hdl2 m0 a0 a3 a4 t0 t1 t2 t3 b0 b1 b2 b3 b4 b5 b6 b7 b8 b9 b10 b11 f0 f1 f3 f4 f5 f6
       go_wp2
       go_roundw
       case rel=>exact⟨i2,s2,gM,mcc,L,n,c,D,dn,dc,T,tn,tc,rfl,by show(i2:Int)≤ct;omega,HOK.out,HGO.out,HTL.out,HDL.out,fun _=>HPQ.out,HI2.out,HFL.out⟩
       case measure=>simp[intOf];omega
     ·have hnl:ct≤(i2:Int):=by omega
      have hlt1:=HLT.out
      clear hI hok hgo htl hdl2 m0 a0 a3 a4 t0 t1 t2 t3 b0 b1 b2 b3 b4 b5 b6 b7 b8 b9 b10 b11 f0 f1 f3 f4 f5 f6 hlt2
      go_wp2
      go_roundw
      case rel=>exact⟨i2,s2,gM,mcc,L,n,c,D,dn,dc,T,tn,tc,rfl,by show(i2:Int)≤ct;omega,HOK.out,HGO.out,HTL.out,HDL.out,fun h=>absurd h (by show ¬(i2:Int)<ct;omega),HI2.out,HFL.out⟩
      case measure=>simp[intOf];omega
   ·have t1':(rf != 0)=true:=by rw[bne_iff_ne];exact hf
    have HF:=Zh (Xt3 HQ.out HLT.out HOK.out (by rw[HTR.out];exact hf))
    have HFE:=Zh (show fltE rf dv ((at_+i) / 8)=0 by have h:=HF.out;rw[show(dFlt ⟨dv,at_,ct,false,data⟩ i s).e=fltE rf dv ((at_+i) / 8) by show fltE (Xdb ⟨dv,at_,ct,false,data⟩ i s).2.2 dv ((at_+i) / 8)=_;rw[HTR.out]]at h;exact h)
    obtain⟨ys,b',hys⟩:∃ ys b',Xdu s.xs rb (fltW rf dv ((at_+i) / 8) false)=(ys,b'):=⟨_,_,rfl⟩
    have HBC:=Zh (show b'.cache=rb.cache by have h:=Xj7 (xs:=s.xs) (b:=rb) (v:=fltW rf dv ((at_+i) / 8) false);rw[hys]at h;exact h)
    have HRE:Hid ((ys,b',(⟨false,s.data,rf,s.touched⟩:Tld))=R):=Zh (by
     rw[←Xiz HGO.out HCN.out HP.out (by rw[HTR.out];exact hf)]
     have e:Xdu s.xs rb (dFlt ⟨dv,at_,ct,false,data⟩ i s).w=(ys,b'):=by
      rw[show(dFlt ⟨dv,at_,ct,false,data⟩ i s).w=fltW rf dv ((at_+i) / 8) false by show fltW (Xdb ⟨dv,at_,ct,false,data⟩ i s).2.2 dv ((at_+i) / 8) false=_;rw[HTR.out]]
      exact hys
     unfold Xmu
     rw[HTR.out]
     simp only[]
     rw[e])
    have HYS:=Zh hys
    clear hf hys
    go_wp2_with fail
    have HI4:Hid (DmaI w ⟨dv,at_,ct,false,data⟩ AD nd cd w1.heap.size gM mcc L' n' c' D dn dc T tn tc ⟨s.xs,rb,s.data,s.touched,ra,(at_+i) / 8⟩ ((((((((((((w2.setCell ⟨w.heap.size+1,0,none⟩ (.int .i64 rb.mode)).setCell ⟨w.heap.size+1,1,none⟩ (.int .i64 rb.base)).setCell ⟨w.heap.size+1,2,none⟩ (.slice L' n' c')).setCell ⟨w.heap.size+1,3,none⟩ (.int .i64 rb.orders.page)).setCell ⟨w.heap.size+1,4,none⟩ (.int .i64 rb.orders.head)).setCell ⟨w.heap.size+1,5,none⟩ (.int .i64 rb.orders.tail)).setCell ⟨w.heap.size+1,6,none⟩ (.bool rb.stopped)).setCell ⟨w.heap.size+1,7,none⟩ (.int .i64 rb.fences)).setCell ⟨w.heap.size+1,8,none⟩ (.int .i64 rb.faults.page)).setCell ⟨w.heap.size+1,9,none⟩ (.int .i64 rb.faults.head)).setCell ⟨w.heap.size+1,10,none⟩ (.int .i64 rb.faults.tail)).setCell ⟨w.heap.size+1,11,none⟩ (.bool rb.lost))):=Zh (HI2.out.brgL HB2.out HL2.out (Or.inr HF2.out) (by(repeat(first|(with_reducible exact Xaq _)|(with_reducible refine Xa7 ?_ _)|(with_reducible refine Xa5 ?_)|(with_reducible refine Xay ?_ _)|((with_reducible refine Xbb ?_ ?_ _);rotate_left;exact(by first|(simp;done)|(simp[Xbe];done)|(simp[Xbe];omega)|omega))))) (by intro o;simp(maxDischargeDepth:=6) [go_sem,f1,xx1]) (by unfold Xbj;simp(maxDischargeDepth:=8) [go_sem, *]) ra ((at_+i) / 8))
    have ht3:Xgt ((((((((((((((w2.setCell ⟨w.heap.size+1,0,none⟩ (.int .i64 rb.mode)).setCell ⟨w.heap.size+1,1,none⟩ (.int .i64 rb.base)).setCell ⟨w.heap.size+1,2,none⟩ (.slice L' n' c')).setCell ⟨w.heap.size+1,3,none⟩ (.int .i64 rb.orders.page)).setCell ⟨w.heap.size+1,4,none⟩ (.int .i64 rb.orders.head)).setCell ⟨w.heap.size+1,5,none⟩ (.int .i64 rb.orders.tail)).setCell ⟨w.heap.size+1,6,none⟩ (.bool rb.stopped)).setCell ⟨w.heap.size+1,7,none⟩ (.int .i64 rb.fences)).setCell ⟨w.heap.size+1,8,none⟩ (.int .i64 rb.faults.page)).setCell ⟨w.heap.size+1,9,none⟩ (.int .i64 rb.faults.head)).setCell ⟨w.heap.size+1,10,none⟩ (.int .i64 rb.faults.tail)).setCell ⟨w.heap.size+1,11,none⟩ (.bool rb.lost)).setCell ⟨w1.heap.size,2,none⟩ (.int .i64 rf)).alloc (.cells (B_.b rb L' n' c') 31)) w1.heap.size ⟨false,s.data,rf,s.touched⟩ D dn dc T tn tc:=by unfold Xgt;simp(maxDischargeDepth:=8) [go_sem, *]
    have hf3:∀ o,(((((((((((((((w2.setCell ⟨w.heap.size+1,0,none⟩ (.int .i64 rb.mode)).setCell ⟨w.heap.size+1,1,none⟩ (.int .i64 rb.base)).setCell ⟨w.heap.size+1,2,none⟩ (.slice L' n' c')).setCell ⟨w.heap.size+1,3,none⟩ (.int .i64 rb.orders.page)).setCell ⟨w.heap.size+1,4,none⟩ (.int .i64 rb.orders.head)).setCell ⟨w.heap.size+1,5,none⟩ (.int .i64 rb.orders.tail)).setCell ⟨w.heap.size+1,6,none⟩ (.bool rb.stopped)).setCell ⟨w.heap.size+1,7,none⟩ (.int .i64 rb.fences)).setCell ⟨w.heap.size+1,8,none⟩ (.int .i64 rb.faults.page)).setCell ⟨w.heap.size+1,9,none⟩ (.int .i64 rb.faults.head)).setCell ⟨w.heap.size+1,10,none⟩ (.int .i64 rb.faults.tail)).setCell ⟨w.heap.size+1,11,none⟩ (.bool rb.lost)).setCell ⟨w1.heap.size,2,none⟩ (.int .i64 rf)).alloc (.cells (B_.b rb L' n' c') 31))).frozen? ⟨w1.heap.size,o,none⟩=false:=by intro o;simp(maxDischargeDepth:=6) [go_sem,f6,xx6]
    have HT3:=Zh ht3
    have HF3:=Zh hf3
    clear ht3 hf3
    refine(Xug s.xs ys (some ⟨gM,0,none⟩) mcc rb b' L' n' c' rf dv ((at_+i) / 8) false _ ?_ ?_ HOK.out.km HKB.out HFE.out HYS.out HBC.out).mono ?_
    ·refine Xfy (P:=fun q=>q=w.heap.size+1∨q=w1.heap.size) (HI3.out.rm.ints (by decide)) ?_ (fun ad e=>by injection e with e;subst e;show ¬(gM=_∨gM=_);omega)
     (repeat(first|(with_reducible exact Xaq _)|(with_reducible refine Xa7 ?_ _)|(with_reducible refine Xa5 ?_)|(with_reducible refine Xay ?_ _)|((with_reducible refine Xbb ?_ ?_ _);rotate_left;exact(by first|(simp;done)|(simp[Xbe];done)|(simp[Xbe];omega)|omega))))
    ·refine Xc9 (P:=fun q=>q=w.heap.size+1∨q=w1.heap.size) HL2.out ?_ (fun h0 ad e hq=>?_)
     ·(repeat(first|(with_reducible exact Xaq _)|(with_reducible refine Xa7 ?_ _)|(with_reducible refine Xa5 ?_)|(with_reducible refine Xay ?_ _)|((with_reducible refine Xbb ?_ ?_ _);rotate_left;exact(by first|(simp;done)|(simp[Xbe];done)|(simp[Xbe];omega)|omega))))
     ·have:=HF2.out ad e;omega
    rintro e w4 ⟨M4,d4,L4,n4,c4,rfl,hx4,hl4,hb4,hfM4,hfL4⟩
    have hC4:=Xfo (Xbb (P:=fun q=>q=w1.heap.size) (Xaq ((((((((((((w2.setCell ⟨w.heap.size+1,0,none⟩ (.int .i64 rb.mode)).setCell ⟨w.heap.size+1,1,none⟩ (.int .i64 rb.base)).setCell ⟨w.heap.size+1,2,none⟩ (.slice L' n' c')).setCell ⟨w.heap.size+1,3,none⟩ (.int .i64 rb.orders.page)).setCell ⟨w.heap.size+1,4,none⟩ (.int .i64 rb.orders.head)).setCell ⟨w.heap.size+1,5,none⟩ (.int .i64 rb.orders.tail)).setCell ⟨w.heap.size+1,6,none⟩ (.bool rb.stopped)).setCell ⟨w.heap.size+1,7,none⟩ (.int .i64 rb.fences)).setCell ⟨w.heap.size+1,8,none⟩ (.int .i64 rb.faults.page)).setCell ⟨w.heap.size+1,9,none⟩ (.int .i64 rb.faults.head)).setCell ⟨w.heap.size+1,10,none⟩ (.int .i64 rb.faults.tail)).setCell ⟨w.heap.size+1,11,none⟩ (.bool rb.lost))) (p:=⟨w1.heap.size,2,none⟩) (Or.inl rfl) (.int .i64 rf) |> fun h=>Xay h _) (show Xan _ w4 from hb4)
    have HC4:=Zh hC4
    have hz4:=hC4.size
    (try simp only[Zs]at hz4 hfM4 hfL4)
    have HX4:=Zh hx4
    have HLL4:=Zh hl4
    have HB4:=Zh hb4
    have HFM4:=Zh hfM4
    have HFL4:=Zh hfL4
    clear hx4 hl4 hb4 hfM4 hfL4 m0 a0 a1 a2 a3 a4 t0 t1 t2 t3 b0 b1 b2 b3 b4 b5 b6 b7 b8 b9 b10 b11 f0 f1 f3 f4 f5 f6 xx0 xx1 xx2 xx3 xx4 xx5 xx6 hC4
    have m0:=Xbk HI4.out.m0 HC4.out (show ¬w.heap.size=w1.heap.size by omega)
    obtain⟨b0,b1,b2,b3,b4,b5,b6,b7,b8,b9,b10,b11⟩:=Xec HI4.out.br HC4.out (show ¬w.heap.size+1=w1.heap.size by omega)
    have z3:=Xbk HI4.out.z3 HC4.out (show ¬w.heap.size+1+1+1=w1.heap.size by omega)
    obtain⟨c0,c1,c2,c3,c4',c5,c6,c7,c8,c9,c10,c11⟩:=Xec HI4.out.z4 HC4.out (show ¬w.heap.size+1+1+1+1=w1.heap.size by omega)
    obtain⟨d0,d1,d2,d3⟩:=Xeb HI4.out.z5 HC4.out (show ¬w.heap.size+1+1+1+1+1=w1.heap.size by omega)
    simp only[Brg.no,Ring.no,Tld.no]at c0 c1 c2 c3 c4' c5 c6 c7 c8 c9 c10 c11 d0 d1 d2 d3
    obtain⟨t0,t1,t2,t3⟩:=HT3.out
    have t0:=Xak (show Xan _ w4 from HB4.out) t0
    have t1:=Xak (show Xan _ w4 from HB4.out) t1
    have t2:=Xak (show Xan _ w4 from HB4.out) t2
    have t3:=Xak (show Xan _ w4 from HB4.out) t3
    simp only[]at t0 t1 t2 t3
    have f0:=fun o=>(Xb8 (p:=⟨w.heap.size,o,none⟩) (by simp;omega) HC4.out (show ¬w.heap.size=w1.heap.size by omega)).trans (HI4.out.fz (w.heap.size) o (Or.inl (by omega)))
    have f1:=fun o=>(Xb8 (p:=⟨w.heap.size+1,o,none⟩) (by simp;omega) HC4.out (show ¬w.heap.size+1=w1.heap.size by omega)).trans (HI4.out.fz (w.heap.size+1) o (Or.inl (by omega)))
    have f3:=fun o=>(Xb8 (p:=⟨w.heap.size+1+1+1,o,none⟩) (by simp;omega) HC4.out (show ¬w.heap.size+1+1+1=w1.heap.size by omega)).trans (HI4.out.fz (w.heap.size+1+1+1) o (Or.inl (by omega)))
    have f4:=fun o=>(Xb8 (p:=⟨w.heap.size+1+1+1+1,o,none⟩) (by simp;omega) HC4.out (show ¬w.heap.size+1+1+1+1=w1.heap.size by omega)).trans (HI4.out.fz (w.heap.size+1+1+1+1) o (Or.inl (by omega)))
    have f5:=fun o=>(Xb8 (p:=⟨w.heap.size+1+1+1+1+1,o,none⟩) (by simp;omega) HC4.out (show ¬w.heap.size+1+1+1+1+1=w1.heap.size by omega)).trans (HI4.out.fz (w.heap.size+1+1+1+1+1) o (Or.inl (by omega)))
    have f6:=fun o=>(Below.frozen (p:=⟨w1.heap.size,o,none⟩) HB4.out (by simp;omega)).trans (HF3.out o)
    go_wp2
    go_region
    all_goals
     go_wp2
     rw[←HRE.out]
     refine bodyPost_ret (v:=.tuple #[.agg #[.slice M4 512 d4],.agg (B_.b b' L4 n4 c4),.agg #[.bool false,.slice D dn dc,.int .i64 rf,.slice T tn tc],.int .i64 0]) ?_ rfl (Xwz HI4.out ?_ ?_ HX4.out HLL4.out ?_ ?_ rf)
     ·simp(maxDischargeDepth:=8) [results,Tryz.results15,go_sem, *]
     ·refine Xa4 (Xbp HC4.out (fun q _ hq=>Or.inr hq)) ?_
      (repeat(first|(with_reducible exact Xaq _)|(with_reducible refine Xa7 ?_ _)|(with_reducible refine Xa5 ?_)|(with_reducible refine Xay ?_ _)|((with_reducible refine Xbb ?_ ?_ _);rotate_left;exact(by first|(simp;done)|(simp[Xbe];done)|(simp[Xbe];omega)|omega))))
     ·(repeat(first|(with_reducible exact Xaq _)|(with_reducible refine Xa7 ?_ _)|(with_reducible refine Xa5 ?_)|(with_reducible refine Xay ?_ _)|((with_reducible refine Xbb ?_ ?_ _);rotate_left;exact(by first|(simp;done)|(simp[Xbe];done)|(simp[Xbe];omega)|omega))))
     ·intro ad e;have:=HFM4.out ad e;simp;omega
     ·intro ad e;have:=HFL4.out ad e;simp;omega
end
end
section
attribute [local go_sem ↓] Go.wp_at_zero Go.wp_at_succ
section
variable (xs:List Int) (m:Option Addr) (nm mc:Nat) (b:Brg) (A0:Option Addr) (n0 c0:Nat) (a:Ask) (AD:Option Addr) (nd cd:Nat) (w:World) (hx:Ints w w.heap.size m nm xs) (hl:Lines w w.heap.size A0 n0 c0 b.cache) (hd:Ints w w.heap.size AD nd a.data)
include hx in
theorem do_no1 (hE:cm xs≠0):Calls Tryz.prog 15 #[.agg #[.slice m nm mc],.agg (B_.b b A0 n0 c0),.agg #[.int .i64 a.dev,.int .i64 a.at_,.int .i64 a.count,.bool a.wr,.slice AD nd cd]] w (DoC w 0 ([],.no,.no) (cm xs)):=by
 have HX:=Zh hx
 have t0:(cm xs==0)=false:=beq_eq_false_iff_ne.2 hE
 have t1:(cm xs != 0)=true:=by rw[bne_iff_ne];exact hE
 clear hx hE
 go_enter Tryz.func15,Tryz.ntmps15
 go_wp2_with fail
 refine(Xb4 _ _ _ xs _ (Xaf HX.out (bl (by repeat' first|with_reducible(first|assumption|constructor)|((try simp)<;>omega))))).mono ?_
 rintro e w1 ⟨rfl,hb1⟩
 have hz1:=hb1.size
 (try simp only[Zs]at hz1)
 obtain⟨k1_0,l1_0,q1_0⟩:=aft hb1 (w.heap.size+1+1+1) (by(try simp)<;>omega)
 obtain⟨k1_1,l1_1,q1_1⟩:=aft hb1 (w.heap.size+1+1+1+1) (by(try simp)<;>omega)
 obtain⟨k1_2,l1_2,q1_2⟩:=aft hb1 (w.heap.size+1+1+1+1+1) (by(try simp)<;>omega)
 simp(maxDischargeDepth:=6) [go_sem, *]at k1_0 q1_0 k1_1 q1_1 k1_2 q1_2
 have HB1:=Zh hb1
 clear hb1
 go_wp2
 refine bodyPost_ret (v:=.tuple #[.agg #[.slice none 0 0],.agg (B_.b Brg.no none 0 0),.agg B_.t,.int .i64 (cm xs)]) ?_ rfl (Xyv ?_)
 ·simp(maxDischargeDepth:=8) [results,Tryz.results15,go_sem,Brg.no,Ring.no, *]
 ·(refine bl ?_;repeat' first|with_reducible(first|assumption|constructor)|((try simp)<;>omega))
include hx hl in
theorem do_no2 (h0:cm xs=0) (hE:ckB b≠0):Calls Tryz.prog 15 #[.agg #[.slice m nm mc],.agg (B_.b b A0 n0 c0),.agg #[.int .i64 a.dev,.int .i64 a.at_,.int .i64 a.count,.bool a.wr,.slice AD nd cd]] w (DoC w 0 ([],.no,.no) (ckB b)):=by
 have HX:=Zh hx
 have HL:=Zh hl
 have H0:=Zh h0
 have t0:(ckB b==0)=false:=beq_eq_false_iff_ne.2 hE
 have t1:(ckB b != 0)=true:=by rw[bne_iff_ne];exact hE
 clear hx hl hE h0
 go_enter Tryz.func15,Tryz.ntmps15
 go_wp2_with fail
 refine(Xb4 _ _ _ xs _ (Xaf HX.out (bl (by repeat' first|with_reducible(first|assumption|constructor)|((try simp)<;>omega))))).mono ?_
 rw[H0.out]
 rintro e w1 ⟨rfl,hb1⟩
 have hz1:=hb1.size
 (try simp only[Zs]at hz1)
 obtain⟨k1_0,l1_0,q1_0⟩:=aft hb1 (w.heap.size) (by(try simp)<;>omega)
 obtain⟨k1_1,l1_1,q1_1⟩:=aft hb1 (w.heap.size+1) (by(try simp)<;>omega)
 obtain⟨k1_2,l1_2,q1_2⟩:=aft hb1 (w.heap.size+1+1) (by(try simp)<;>omega)
 obtain⟨k1_3,l1_3,q1_3⟩:=aft hb1 (w.heap.size+1+1+1) (by(try simp)<;>omega)
 obtain⟨k1_4,l1_4,q1_4⟩:=aft hb1 (w.heap.size+1+1+1+1) (by(try simp)<;>omega)
 obtain⟨k1_5,l1_5,q1_5⟩:=aft hb1 (w.heap.size+1+1+1+1+1) (by(try simp)<;>omega)
 simp(maxDischargeDepth:=6) [go_sem, *]at k1_0 q1_0 k1_1 q1_1 k1_2 q1_2 k1_3 q1_3 k1_4 q1_4 k1_5 q1_5
 have HB1:=Zh hb1
 clear hb1
 go_wp2_with fail
 refine(Xbh b A0 n0 c0 _ (Xah HL.out (bl (by repeat' first|with_reducible(first|assumption|constructor)|((try simp)<;>omega))))).mono ?_
 rintro e w2 ⟨rfl,hb2⟩
 have hz2:=hb2.size
 (try simp only[Zs]at hz2)
 obtain⟨k2_0,l2_0,q2_0⟩:=aft hb2 (w.heap.size+1+1+1) (by(try simp)<;>omega)
 obtain⟨k2_1,l2_1,q2_1⟩:=aft hb2 (w.heap.size+1+1+1+1) (by(try simp)<;>omega)
 obtain⟨k2_2,l2_2,q2_2⟩:=aft hb2 (w.heap.size+1+1+1+1+1) (by(try simp)<;>omega)
 simp(maxDischargeDepth:=6) [go_sem, *]at k2_0 q2_0 k2_1 q2_1 k2_2 q2_2
 have HB2:=Zh hb2
 clear hb2
 go_wp2
 refine bodyPost_ret (v:=.tuple #[.agg #[.slice none 0 0],.agg (B_.b Brg.no none 0 0),.agg B_.t,.int .i64 (ckB b)]) ?_ rfl (Xyv ?_)
 ·simp(maxDischargeDepth:=8) [results,Tryz.results15,go_sem,Brg.no,Ring.no, *]
 ·(refine bl ?_;repeat' first|with_reducible(first|assumption|constructor)|((try simp)<;>omega))
include hx hl hd in
theorem do_no3 (h0:cm xs=0) (hb:ckB b=0) (hE:reqE a≠0):Calls Tryz.prog 15 #[.agg #[.slice m nm mc],.agg (B_.b b A0 n0 c0),.agg #[.int .i64 a.dev,.int .i64 a.at_,.int .i64 a.count,.bool a.wr,.slice AD nd cd]] w (DoC w 0 ([],.no,.no) (reqE a)):=by
 have HX:=Zh hx
 have HL:=Zh hl
 have HD:=Zh hd
 have H0:=Zh h0
 have HCB:=Zh hb
 have t0:(reqE a==0)=false:=beq_eq_false_iff_ne.2 hE
 have t1:(reqE a != 0)=true:=by rw[bne_iff_ne];exact hE
 clear hx hl hd hE h0 hb
 go_enter Tryz.func15,Tryz.ntmps15
 go_wp2_with fail
 refine(Xb4 _ _ _ xs _ (Xaf HX.out (bl (by repeat' first|with_reducible(first|assumption|constructor)|((try simp)<;>omega))))).mono ?_
 rw[H0.out]
 rintro e w1 ⟨rfl,hb1⟩
 have hz1:=hb1.size
 (try simp only[Zs]at hz1)
 obtain⟨k1_0,l1_0,q1_0⟩:=aft hb1 (w.heap.size) (by(try simp)<;>omega)
 obtain⟨k1_1,l1_1,q1_1⟩:=aft hb1 (w.heap.size+1) (by(try simp)<;>omega)
 obtain⟨k1_2,l1_2,q1_2⟩:=aft hb1 (w.heap.size+1+1) (by(try simp)<;>omega)
 obtain⟨k1_3,l1_3,q1_3⟩:=aft hb1 (w.heap.size+1+1+1) (by(try simp)<;>omega)
 obtain⟨k1_4,l1_4,q1_4⟩:=aft hb1 (w.heap.size+1+1+1+1) (by(try simp)<;>omega)
 obtain⟨k1_5,l1_5,q1_5⟩:=aft hb1 (w.heap.size+1+1+1+1+1) (by(try simp)<;>omega)
 simp(maxDischargeDepth:=6) [go_sem, *]at k1_0 q1_0 k1_1 q1_1 k1_2 q1_2 k1_3 q1_3 k1_4 q1_4 k1_5 q1_5
 have HB1:=Zh hb1
 clear hb1
 go_wp2_with fail
 refine(Xbh b A0 n0 c0 _ (Xah HL.out (bl (by repeat' first|with_reducible(first|assumption|constructor)|((try simp)<;>omega))))).mono ?_
 rw[HCB.out]
 rintro e w2 ⟨rfl,hb2⟩
 have hz2:=hb2.size
 (try simp only[Zs]at hz2)
 obtain⟨k2_0,l2_0,q2_0⟩:=aft hb2 (w.heap.size) (by(try simp)<;>omega)
 obtain⟨k2_1,l2_1,q2_1⟩:=aft hb2 (w.heap.size+1) (by(try simp)<;>omega)
 obtain⟨k2_2,l2_2,q2_2⟩:=aft hb2 (w.heap.size+1+1) (by(try simp)<;>omega)
 obtain⟨k2_3,l2_3,q2_3⟩:=aft hb2 (w.heap.size+1+1+1) (by(try simp)<;>omega)
 obtain⟨k2_4,l2_4,q2_4⟩:=aft hb2 (w.heap.size+1+1+1+1) (by(try simp)<;>omega)
 obtain⟨k2_5,l2_5,q2_5⟩:=aft hb2 (w.heap.size+1+1+1+1+1) (by(try simp)<;>omega)
 simp(maxDischargeDepth:=6) [go_sem, *]at k2_0 q2_0 k2_1 q2_1 k2_2 q2_2 k2_3 q2_3 k2_4 q2_4 k2_5 q2_5
 have HB2:=Zh hb2
 clear hb2
 go_wp2_with fail
 refine(Xjo a AD nd cd _ (Xaf HD.out (bl (by repeat' first|with_reducible(first|assumption|constructor)|((try simp)<;>omega))))).mono ?_
 rintro e w3 ⟨rfl,hb3⟩
 have hz3:=hb3.size
 (try simp only[Zs]at hz3)
 obtain⟨k3_0,l3_0,q3_0⟩:=aft hb3 (w.heap.size+1+1+1) (by(try simp)<;>omega)
 obtain⟨k3_1,l3_1,q3_1⟩:=aft hb3 (w.heap.size+1+1+1+1) (by(try simp)<;>omega)
 obtain⟨k3_2,l3_2,q3_2⟩:=aft hb3 (w.heap.size+1+1+1+1+1) (by(try simp)<;>omega)
 simp(maxDischargeDepth:=6) [go_sem, *]at k3_0 q3_0 k3_1 q3_1 k3_2 q3_2
 have HB3:=Zh hb3
 clear hb3
 go_wp2
 refine bodyPost_ret (v:=.tuple #[.agg #[.slice none 0 0],.agg (B_.b Brg.no none 0 0),.agg B_.t,.int .i64 (reqE a)]) ?_ rfl (Xyv ?_)
 ·simp(maxDischargeDepth:=8) [results,Tryz.results15,go_sem,Brg.no,Ring.no, *]
 ·(refine bl ?_;repeat' first|with_reducible(first|assumption|constructor)|((try simp)<;>omega))
end
end
section
section
variable (xs:List Int) (m:Option Addr) (nm mc:Nat) (b:Brg) (A0:Option Addr) (n0 c0:Nat) (AD:Option Addr) (nd cd:Nat) (w:World) (hx:Ints w w.heap.size m nm xs) (hl:Lines w w.heap.size A0 n0 c0 b.cache)
theorem do_ok (m:Option Addr) (hx:Ints w w.heap.size m 512 xs) (hl:Lines w w.heap.size A0 n0 c0 b.cache) (h0:cm xs=0) (hb:ckB b=0) (dv at_ ct:Int) (wr:Bool) (data:List Int) (hd:Ints w w.heap.size AD nd data) (hq:reqE ⟨dv,at_,ct,wr,data⟩=0) (R:List Int×Brg×Tld) (hR:dmaM xs b ⟨dv,at_,ct,wr,data⟩=R) :
  Calls Tryz.prog 15 #[.agg #[.slice m 512 mc],.agg (B_.b b A0 n0 c0),.agg #[.int .i64 dv,.int .i64 at_,.int .i64 ct,.bool wr,.slice AD nd cd]] w (DoC w 512 R 0):=by
 cases wr with
 |true=>exact do_w xs m mc b A0 n0 c0 dv at_ ct data AD nd cd w hx hl hd h0 hb hq R hR
 |false=>exact do_r xs m mc b A0 n0 c0 dv at_ ct data AD nd cd w hx hl hd h0 hb hq R hR
include hx hl in
theorem Xyx (a:Ask) (hd:Ints w w.heap.size AD nd a.data) (R:List Int×Brg×Tld) (E:Int) (hR:dmaA xs b a=R) (hE:dmaE xs b a=E) :
  Calls Tryz.prog 15 #[.agg #[.slice m nm mc],.agg (B_.b b A0 n0 c0),.agg #[.int .i64 a.dev,.int .i64 a.at_,.int .i64 a.count,.bool a.wr,.slice AD nd cd]] w (DoC w (if E=0 then 512 else 0) R E):=by
 subst hE
 by_cases h0:cm xs=0
 ·have hn:nm=512:=by rw[←hx.len];exact(Xaz h0).1
  subst hn
  by_cases hb:ckB b=0
  ·have e:dmaE xs b a=reqE a:=by unfold dmaE;rw[if_pos h0,if_pos hb]
   by_cases hq:reqE a=0
   ·rw[e,hq,if_pos rfl]
    unfold dmaA at hR
    rw[if_pos (by rw[e];exact hq)]at hR
    exact do_ok xs mc b A0 n0 c0 AD nd cd w m hx hl h0 hb a.dev a.at_ a.count a.wr a.data hd hq R hR
   ·unfold dmaA at hR
    rw[if_neg (by rw[e];exact hq)]at hR
    subst hR
    rw[e,if_neg hq]
    exact do_no3 xs m 512 mc b A0 n0 c0 a AD nd cd w hx hl hd h0 hb hq
  ·have e:dmaE xs b a=ckB b:=by unfold dmaE;rw[if_pos h0,if_neg hb]
   unfold dmaA at hR
   rw[if_neg (by rw[e];exact hb)]at hR
   subst hR
   rw[e,if_neg hb]
   exact do_no2 xs m 512 mc b A0 n0 c0 a AD nd cd w hx hl h0 hb
 ·have e:dmaE xs b a=cm xs:=by unfold dmaE;rw[if_neg h0]
  unfold dmaA at hR
  rw[if_neg (by rw[e];exact h0)]at hR
  subst hR
  rw[e,if_neg h0]
  exact do_no1 xs m nm mc b A0 n0 c0 a AD nd cd w hx h0
end
end
end Go.Proofs.YtbopdijnojaaiadGreat
