/- Faults told: the walk of the program's Tell. No statement of the seat is proved here. -/
import Derived.Test.YtbopdijnojaaiadGreatBridgeS
import Derived.Test.YtbopdijnojaaiadGreatRingR
import Derived.Test.YtbopdijnojaaiadGreatWord
import Derived.Deep.RegionHeld3
import Derived.Deep.DrawnRows
import Derived.Deep.DeepCutAuto
import Derived.RegionTactic
namespace Go.Proofs.YtbopdijnojaaiadGreat
set_option maxRecDepth 100000
set_option maxHeartbeats 8000000
open Go.RowKit
set_option linter.unusedSimpArgs false
set_option linter.unusedVariables false
section
attribute [local go_sem ↓] Go.wp_at_zero Go.wp_at_succ
theorem Xhn {w:World} {B n:Nat} {A:Option Addr} {xs:List Int} (h:Ints w B A n xs) {p:Addr} (hp:∀ ad,A=some ad→ad.block≠p.block) (u:Value):Ints (w.setCell p u) B A n xs:=by
 refine⟨h.1,h.2.1,fun hn=>?_⟩
 obtain⟨b,off,e,hb,hc⟩:=h.2.2 hn
 exact⟨b,off,e,hb,fun j v hv=>(World.cell?_setCell_other _ _ _ _ (fun e'=>hp _ e (by have:=congrArg Addr.block e';simpa using this.symm))).trans (hc j v hv)⟩
theorem keep4 {w3 W:World} {p0 p1 p2 p3:Addr} {v0 v1 v2 v3:Value} (h:Xan w3 W) (h0:w3.cell? p0=some v0) (h1:w3.cell? p1=some v1) (h2:w3.cell? p2=some v2) (h3:w3.cell? p3=some v3):W.cell? p0=some v0∧W.cell? p1=some v1∧W.cell? p2=some v2∧W.cell? p3=some v3∧Hid (Xan w3 W):=⟨Xak h h0,Xak h h1,Xak h h2,Xak h h3,h⟩
def TelC (B:Nat) (w:World) (gm gb:Nat) (M L:Option Addr) (n c:Nat) (r:List Int×Brg) (w':World):Prop:=
 Below B w w'∧∃ A d,w'.cell? ⟨gm,0,none⟩=some (.slice A 512 d)∧Xbj w' gb r.2 L n c∧Ints w' w'.heap.size A 512 r.1∧Xig gm gb w w'∧(∀ ad,A=some ad→ad.block≠gm∧ad.block≠gb)∧Xj6 w M A
def PshC (w1:World) (E:Int) (k:Nat) (ys:List Int) (r:Ring) (s7 s8 s9:Value) (wd:World):Prop:=
 ∃ g8 g9 A d,s7=.int .i64 E∧s8=.pointer (some ⟨g8,0,none⟩)∧s9=.pointer (some ⟨g9,0,none⟩)∧wd.cell? ⟨g8,0,none⟩=some (.slice A k d) ∧
  (wd.cell? ⟨g9,0,none⟩=some (.int .i64 r.page)∧wd.cell? ⟨g9,1,none⟩=some (.int .i64 r.head)∧wd.cell? ⟨g9,2,none⟩=some (.int .i64 r.tail)) ∧
  Ints wd wd.heap.size A k ys∧(∀ ad,A=some ad→w1.heap.size≤ad.block)∧(w1.heap.size≤g8∧w1.heap.size≤g9)∧Xan w1 wd
section
variable (xs:List Int) (b:Brg) (f:Flt) (gm gb:Nat) (M L:Option Addr) (mc n c:Nat) (w:World) (hm:w.cell? ⟨gm,0,none⟩=some (.slice M 512 mc)) (hb:Xbj w gb b L n c) (hx:Ints w w.heap.size M 512 xs) (hf:∀ ad,M=some ad→ad.block≠gm∧ad.block≠gb) (hne:gm≠gb) (zm:∀ o,w.frozen? ⟨gm,o,none⟩=false) (zb:∀ o,w.frozen? ⟨gb,o,none⟩=false) (c1:cm xs=0) (c2:ckB b=0) (c3:f.e=0) (B:Nat) (hB1:B≤gm) (hB2:B≤gb)
include hm hb hx hf c3 hB1 in
theorem Xp0 (hl:b.lost=true):Calls Tryz.prog 81 #[.pointer (some ⟨gm,0,none⟩),.pointer (some ⟨gb,0,none⟩),f.val] w fun e w'=>e=.returned (.tuple #[])∧TelC B w gm gb M L n c (Xdu xs b f.w) w':=by
 have HM:=Zh hm
 have HB:=Zh hb
 have HX:=Zh hx
 have HF:=Zh hf
 have HE:=Zh c3
 have hlm:=Xbm hm
 have hlb:=Xb9 hb
 have HT:=Zh (show Xdu xs b f.w=(xs,b) by unfold Xdu;rw[if_pos hl])
 obtain⟨fc,fd,fp,fw⟩:=f
 unfold Flt.e at HE
 unfold Flt.val
 simp only[]at HE hlm ⊢
 rw[HT.out]
 clear hm hb hx hf c3
 go_enter Tryz.func81,Tryz.ntmps81
 go_wp2_with fail
 refine(Xel _ _ _ _ _).mono ?_
 rw[HE.out]
 rintro e w1 ⟨rfl,hb1⟩
 have hz1:=hb1.size
 (try simp only[Zs]at hz1)
 have HB1:=Zh hb1
 clear hb1
 have HS1:=Zh (show Xan w w1 by unfold Xan;(refine bl ?_;repeat' first|with_reducible(first|assumption|constructor)|((try simp)<;>omega)))
 obtain⟨b0,b1,b2,b3,b4,b5,b6,b7,b8,b9,b10,b11⟩:=Xa0 HB.out HS1.out
 rw[hl]at b11
 go_wp2
 refine bodyPost_ret (v:=.tuple #[]) (by simp[results,Tryz.results81,go_sem]) rfl ⟨rfl,bl (by repeat' first|with_reducible(first|assumption|constructor)|((try simp)<;>omega)),M,mc,Xak HS1.out HM.out,Xa0 HB.out HS1.out,Xd6 HX.out HS1.out, ?_,HF.out,Xbo _ _⟩
 exact Xd9 HS1.out (Xg0 w)
include hm hb hx hf hne zm zb c1 c2 c3 hB1 hB2 in
theorem Xpz (hl:b.lost=false) (h7:lenR b.faults≠7):Calls Tryz.prog 81 #[.pointer (some ⟨gm,0,none⟩),.pointer (some ⟨gb,0,none⟩),f.val] w fun e w'=>e=.returned (.tuple #[])∧TelC B w gm gb M L n c (Xdu xs b f.w) w':=by
 have HM:=Zh hm
 have HB:=Zh hb
 have HX:=Zh hx
 have HF:=Zh hf
 have HE:=Zh c3
 have hlm:=Xbm hm
 have hlb:=Xb9 hb
 have HT:=Zh (show Xdu xs b f.w=(Xj4 xs b.faults f.w,{ b with faults:=Xqe b.faults }) by unfold Xdu;rw[if_neg (by rw[hl];decide),if_neg h7])
 have HP:=Zh (show Xf9 xs b.faults f.w=0 from Xn2 (Xlf c1 ((Xbn b).1 c2).2.2.2) (by have:=Xk6 c3;omega) h7)
 obtain⟨fc,fd,fp,fw⟩:=f
 unfold Flt.e at HE
 unfold Flt.val
 obtain⟨v,hv⟩:∃ v,fltW fc fd fp fw=v:=⟨_,rfl⟩
 unfold Flt.w at HP HT ⊢
 simp only[hv]at HE hlm HP HT ⊢
 rw[HT.out]
 have HV:=Zh hv
 clear hm hb hx hf c1 c2 c3 hv h7
 go_enter Tryz.func81,Tryz.ntmps81
 go_wp2_with fail
 refine(Xel _ _ _ _ _).mono ?_
 rw[HE.out,HV.out]
 rintro e w1 ⟨rfl,hb1⟩
 have hz1:=hb1.size
 (try simp only[Zs]at hz1)
 have HB1:=Zh hb1
 clear hb1
 have HS1:=Zh (show Xan w w1 by unfold Xan;(refine bl ?_;repeat' first|with_reducible(first|assumption|constructor)|((try simp)<;>omega)))
 have HBW:=Zh (Xa0 HB.out HS1.out)
 obtain⟨b0,b1,b2,b3,b4,b5,b6,b7,b8,b9,b10,b11⟩:=HBW.out
 rw[hl]at b11
 have m0:=Xak HS1.out HM.out
 go_upto_region 3 with(fail)
 have HX1:=Zh (Xd6 HX.out HS1.out)
 have HM0:=Zh m0
 have HB8:=Zh b8
 have HB9:=Zh b9
 have HB10:=Zh b10
 go_cut [7,8,9] (fun s7 s8 s9 wd=>PshC w1 0 512 (Xj4 xs b.faults v) (Xqe b.faults) s7 s8 s9 wd)
 case first=>
  clear b0 b1 b2 b3 b4 b5 b6 b7 b11
  go_region_held3 (fun W=>W.cell? ⟨gm,0,none⟩=some (.slice M 512 mc)∧W.cell? ⟨gb,8,none⟩=some (.int .i64 b.faults.page)∧W.cell? ⟨gb,9,none⟩=some (.int .i64 b.faults.head)∧W.cell? ⟨gb,10,none⟩=some (.int .i64 b.faults.tail)∧Hid (Xan w1 W)) (((with_reducible refine keep4 ?_ HM0.out HB8.out HB9.out HB10.out);(repeat(first|(with_reducible assumption)|(with_reducible exact Xal _)|(with_reducible exact Xdv (by assumption))|(with_reducible exact Xax (by assumption) (Xdv (by assumption)))|(with_reducible refine Xar ?_)|(with_reducible refine Xae ?_ _)|((with_reducible refine Xa3 ?_ ?_ _);rotate_left;exact(by(try simp)<;>omega))));done))
   ((go_at_call 95;refine(Xr6 M 512 mc xs b.faults.page b.faults.head b.faults.tail v _ ?_ HP.out).mono ?_;(focus (refine Xd6 HX1.out ?_;(repeat(first|(with_reducible assumption)|(with_reducible exact Xal _)|(with_reducible exact Xdv (by assumption))|(with_reducible exact Xax (by assumption) (Xdv (by assumption)))|(with_reducible refine Xar ?_)|(with_reducible refine Xae ?_ _)|((with_reducible refine Xa3 ?_ ?_ _);rotate_left;exact(by(try simp)<;>omega))));done));rintro e w2 ⟨A2,d2,rfl,ho2,hb2⟩;have HI2:=Zh (ho2.ints (by decide));have HP2:=Zh (Xat ho2.2);have hs2:Xan w1 w2:=Xax hb2 (Xdv (by assumption));clear ho2;have lt2:=hb2.size;(try simp only[Zs]at lt2);have lu2:=fun(h:w1.heap.size+1≤w2.heap.size)=>Nat.lt_of_succ_le h;have lv2:=fun(h:w1.heap.size+1+1≤w2.heap.size)=>And.intro (Nat.lt_of_succ_le h) (Nat.lt_of_lt_of_le (Nat.lt_succ_self _) (Nat.le_of_lt (Nat.lt_of_succ_le h)));(try simp only[lt2,forall_const]at lu2 lv2);have kt2_t0:=fun o=>(Xa9 hb2).1 (w1.heap.size) o;have qt2_t0:=fun o=>(Xa9 hb2).2 (w1.heap.size) o;(try simp(maxDischargeDepth:=6) [go_sem, *]at kt2_t0 qt2_t0);have kt2_t1:=fun o=>(Xa9 hb2).1 (w1.heap.size+1) o;have qt2_t1:=fun o=>(Xa9 hb2).2 (w1.heap.size+1) o;(try simp(maxDischargeDepth:=6) [go_sem, *]at kt2_t1 qt2_t1);have HB2:=Zh hb2;clear hb2))
  all_goals
   go_wp2
   go_meet
   refine⟨_,_,A2,d2,rfl,rfl,rfl, ?_, ?_, ?_, ?_, ?_, ?_⟩
   ·simp(maxDischargeDepth:=8) [go_sem, *]
   ·refine⟨?_, ?_, ?_⟩<;>simp(maxDischargeDepth:=8) [go_sem,Xqe, *]
   ·refine Ints.more (B:=w2.heap.size) ?_ (by(try simp)<;>omega)
    (repeat(first|(with_reducible exact HI2.out)|(with_reducible refine Ints.drew ?_)|((with_reducible refine Ints.alloc ?_ ?_ _);rotate_left;exact(by(try simp)<;>omega))|((with_reducible refine Xhn ?_ ?_ _);rotate_left;exact(by intro ad e;have:=HP2.out ad e;(try simp only[Zs]at this ⊢);omega))))
   ·intro ad e;have:=HP2.out ad e;(try simp only[Zs]at this);omega
   ·refine⟨?_, ?_⟩<;>first|(simp;done)|(simp;omega)|omega
   ·(repeat(first|(with_reducible assumption)|(with_reducible refine Xar ?_)|(with_reducible refine Xae ?_ _)|((with_reducible refine Xa3 ?_ ?_ _);rotate_left;exact(by(try simp)<;>omega))))
 case rest=>
  obtain⟨g8,g9,A,d,rfl,rfl,rfl,k8,⟨k90,k91,k92⟩,hI,hN,⟨n8,n9⟩,hS⟩:=hcut
  have HI:=Zh hI
  have HN:=Zh hN
  have HSC:=Zh hS
  have HSB:Hid (Below w1.heap.size w1 wc):=Zh hS
  have HSA:Hid (Below w.heap.size w w1):=Zh HS1.out
  have HBC:=Zh (Xa0 HBW.out hS)
  clear b0 b1 b2 b3 b4 b5 b6 b7 b8 b9 b10 b11 m0
  obtain⟨b0,b1,b2,b3,b4,b5,b6,b7,b8,b9,b10,b11⟩:=HBC.out
  rw[hl]at b11
  have m0:=Xak hS HM0.out
  have hz1:=HS1.out.size
  have hz2:=hS.size
  have zm2:=fun o=>(hS.frozen (p:=⟨gm,o,none⟩) (show gm<w1.heap.size by omega)).trans ((HS1.out.frozen (p:=⟨gm,o,none⟩) (show gm<w.heap.size by omega)).trans (zm o))
  have zb2:=fun o=>(hS.frozen (p:=⟨gb,o,none⟩) (show gb<w1.heap.size by omega)).trans ((HS1.out.frozen (p:=⟨gb,o,none⟩) (show gb<w.heap.size by omega)).trans (zb o))
  have e1:¬gm=gb:=hne
  have e2:¬gb=gm:=fun e=>hne e.symm
  have e3:¬g8=gb:=by omega
  have e4:¬gb=g8:=by omega
  have e5:¬g8=gm:=by omega
  have e6:¬gm=g8:=by omega
  have e7:¬g9=gb:=by omega
  have e8:¬gb=g9:=by omega
  have e9:¬g9=gm:=by omega
  have e10:¬gm=g9:=by omega
  have HNN:=Zh (show ∀ ad,A=some ad→ad.block≠gm∧ad.block≠gb from fun ad e=>by have:=HN.out ad e;omega)
  have HN2:=Zh (show ∀ ad,A=some ad→w.heap.size≤ad.block from fun ad e=>by have:=HN.out ad e;omega)
  clear hI hN hS zm zb hne HN
  go_wp2
  go_region
  all_goals
   go_wp2
   go_end0
   refine⟨rfl, ?_,A,d, ?_, ?_, ?_, ?_,HNN.out,fun ad e=>Or.inr (HN2.out ad e)⟩
   ·(refine bl ?_;repeat' first|with_reducible(first|assumption|constructor)|((try simp)<;>omega))
   ·simp(maxDischargeDepth:=8) [go_sem, *]
   ·unfold Xbj
    simp(maxDischargeDepth:=8) [go_sem, *]
   ·refine Ints.more (B:=wc.heap.size) ?_ (by simp)
    (repeat(first|(with_reducible exact HI.out)|(with_reducible refine Ints.drew ?_)|((with_reducible refine Xhn ?_ ?_ _);rotate_left;exact(by intro ad e;have:=HNN.out ad e;first|exact this.1|exact this.2))))
   ·(repeat(first|(with_reducible exact Xg0 _)|(with_reducible refine Xh5 ?_)|((with_reducible refine Xkd ?_ ?_ _);rotate_left;exact(by simp))|(with_reducible refine Xd9 HSB.out ?_)|(with_reducible refine Xd9 HSA.out ?_)))
include hm hb hx hf hne zm zb c1 c2 c3 hB1 hB2 in
theorem Xp1 (hl:b.lost=false) (h7:lenR b.faults=7):Calls Tryz.prog 81 #[.pointer (some ⟨gm,0,none⟩),.pointer (some ⟨gb,0,none⟩),f.val] w fun e w'=>e=.returned (.tuple #[])∧TelC B w gm gb M L n c (Xdu xs b f.w) w':=by
 have HM:=Zh hm
 have HB:=Zh hb
 have HX:=Zh hx
 have HF:=Zh hf
 have HE:=Zh c3
 have hlm:=Xbm hm
 have hlb:=Xb9 hb
 have HT:=Zh (show Xdu xs b f.w=(xs,{ b with lost:=true }) by unfold Xdu;rw[if_neg (by rw[hl];decide),if_pos h7])
 have HP:=Zh (show Xf9 xs b.faults f.w=1 from Xsi (Xlf c1 ((Xbn b).1 c2).2.2.2) (by have:=Xk6 c3;omega) h7)
 obtain⟨fc,fd,fp,fw⟩:=f
 unfold Flt.e at HE
 unfold Flt.val
 obtain⟨v,hv⟩:∃ v,fltW fc fd fp fw=v:=⟨_,rfl⟩
 unfold Flt.w at HP HT ⊢
 simp only[hv]at HE hlm HP HT ⊢
 rw[HT.out]
 have HV:=Zh hv
 clear hm hb hx hf c1 c2 c3 hv h7
 go_enter Tryz.func81,Tryz.ntmps81
 go_wp2_with fail
 refine(Xel _ _ _ _ _).mono ?_
 rw[HE.out,HV.out]
 rintro e w1 ⟨rfl,hb1⟩
 have hz1:=hb1.size
 (try simp only[Zs]at hz1)
 have HB1:=Zh hb1
 clear hb1
 have HS1:=Zh (show Xan w w1 by unfold Xan;(refine bl ?_;repeat' first|with_reducible(first|assumption|constructor)|((try simp)<;>omega)))
 have HBW:=Zh (Xa0 HB.out HS1.out)
 obtain⟨b0,b1,b2,b3,b4,b5,b6,b7,b8,b9,b10,b11⟩:=HBW.out
 rw[hl]at b11
 have m0:=Xak HS1.out HM.out
 go_upto_region 3 with(fail)
 have HX1:=Zh (Xd6 HX.out HS1.out)
 have HM0:=Zh m0
 have HB8:=Zh b8
 have HB9:=Zh b9
 have HB10:=Zh b10
 go_cut [7] (fun s7 wd=>s7=.int .i64 1∧Xan w1 wd)
 case first=>
  clear b0 b1 b2 b3 b4 b5 b6 b7 b11
  go_region_held3 (fun W=>W.cell? ⟨gm,0,none⟩=some (.slice M 512 mc)∧W.cell? ⟨gb,8,none⟩=some (.int .i64 b.faults.page)∧W.cell? ⟨gb,9,none⟩=some (.int .i64 b.faults.head)∧W.cell? ⟨gb,10,none⟩=some (.int .i64 b.faults.tail)∧Hid (Xan w1 W)) (((with_reducible refine keep4 ?_ HM0.out HB8.out HB9.out HB10.out);(repeat(first|(with_reducible assumption)|(with_reducible exact Xal _)|(with_reducible exact Xdv (by assumption))|(with_reducible exact Xax (by assumption) (Xdv (by assumption)))|(with_reducible refine Xar ?_)|(with_reducible refine Xae ?_ _)|((with_reducible refine Xa3 ?_ ?_ _);rotate_left;exact(by(try simp)<;>omega))));done))
   ((go_at_call 95;refine(Xl0 M 512 mc xs b.faults.page b.faults.head b.faults.tail v _ ?_ (by rw[HP.out];decide)).mono ?_;(focus (refine Xd6 HX1.out ?_;(repeat(first|(with_reducible assumption)|(with_reducible exact Xal _)|(with_reducible exact Xdv (by assumption))|(with_reducible exact Xax (by assumption) (Xdv (by assumption)))|(with_reducible refine Xar ?_)|(with_reducible refine Xae ?_ _)|((with_reducible refine Xa3 ?_ ?_ _);rotate_left;exact(by(try simp)<;>omega))));done));rw[HP.out];rintro e w2 ⟨rfl,hb2⟩;have hs2:Xan w1 w2:=Xax hb2 (Xdv (by assumption));have lt2:=hb2.size;(try simp only[Zs]at lt2);have lu2:=fun(h:w1.heap.size+1≤w2.heap.size)=>Nat.lt_of_succ_le h;have lv2:=fun(h:w1.heap.size+1+1≤w2.heap.size)=>And.intro (Nat.lt_of_succ_le h) (Nat.lt_of_lt_of_le (Nat.lt_succ_self _) (Nat.le_of_lt (Nat.lt_of_succ_le h)));(try simp only[lt2,forall_const]at lu2 lv2);have kt2_t0:=fun o=>(Xa9 hb2).1 (w1.heap.size) o;have qt2_t0:=fun o=>(Xa9 hb2).2 (w1.heap.size) o;(try simp(maxDischargeDepth:=6) [go_sem, *]at kt2_t0 qt2_t0);have kt2_t1:=fun o=>(Xa9 hb2).1 (w1.heap.size+1) o;have qt2_t1:=fun o=>(Xa9 hb2).2 (w1.heap.size+1) o;(try simp(maxDischargeDepth:=6) [go_sem, *]at kt2_t1 qt2_t1);have HB2:=Zh hb2;clear hb2))
  all_goals
   go_wp2
   go_meet
   refine⟨rfl, ?_⟩
   (repeat(first|(with_reducible assumption)|(with_reducible refine Xar ?_)|(with_reducible refine Xae ?_ _)|((with_reducible refine Xa3 ?_ ?_ _);rotate_left;exact(by(try simp)<;>omega))))
 case rest=>
  obtain⟨rfl,hS⟩:=hcut
  have HSC:=Zh hS
  have HSB:Hid (Below w1.heap.size w1 wc):=Zh hS
  have HSA:Hid (Below w.heap.size w w1):=Zh HS1.out
  have HBC:=Zh (Xa0 HBW.out hS)
  clear b0 b1 b2 b3 b4 b5 b6 b7 b8 b9 b10 b11 m0
  obtain⟨b0,b1,b2,b3,b4,b5,b6,b7,b8,b9,b10,b11⟩:=HBC.out
  rw[hl]at b11
  have m0:=Xak hS HM0.out
  have hz1:=HS1.out.size
  have hz2:=hS.size
  have zm2:=fun o=>(hS.frozen (p:=⟨gm,o,none⟩) (show gm<w1.heap.size by omega)).trans ((HS1.out.frozen (p:=⟨gm,o,none⟩) (show gm<w.heap.size by omega)).trans (zm o))
  have zb2:=fun o=>(hS.frozen (p:=⟨gb,o,none⟩) (show gb<w1.heap.size by omega)).trans ((HS1.out.frozen (p:=⟨gb,o,none⟩) (show gb<w.heap.size by omega)).trans (zb o))
  have e1:¬gm=gb:=hne
  have e2:¬gb=gm:=fun e=>hne e.symm
  clear hS zm zb hne
  go_wp2
  go_end0
  refine⟨rfl, ?_,M,mc, ?_, ?_, ?_, ?_,HF.out,Xbo _ _⟩
  ·(refine bl ?_;repeat' first|with_reducible(first|assumption|constructor)|((try simp)<;>omega))
  ·simp(maxDischargeDepth:=8) [go_sem, *]
  ·unfold Xbj
   simp(maxDischargeDepth:=8) [go_sem, *]
  ·refine Ints.more (B:=wc.heap.size) ?_ (by simp)
   (repeat(first|(with_reducible exact(Xd6 HX1.out HSC.out))|(with_reducible refine Ints.drew ?_)|((with_reducible refine Xhn ?_ ?_ _);rotate_left;exact(by intro ad e;have:=HF.out ad e;first|exact this.1|exact this.2))))
  ·(repeat(first|(with_reducible exact Xg0 _)|(with_reducible refine Xh5 ?_)|((with_reducible refine Xkd ?_ ?_ _);rotate_left;exact(by simp))|(with_reducible refine Xd9 HSB.out ?_)|(with_reducible refine Xd9 HSA.out ?_)))
include hm hb hx hf hne zm zb c1 c2 c3 hB1 hB2 in
theorem Xoj:Calls Tryz.prog 81 #[.pointer (some ⟨gm,0,none⟩),.pointer (some ⟨gb,0,none⟩),f.val] w fun e w'=>e=.returned (.tuple #[])∧TelC B w gm gb M L n c (Xdu xs b f.w) w':=by
 cases hl:b.lost
 ·by_cases h7:lenR b.faults=7
  ·exact Xp1 xs b f gm gb M L mc n c w hm hb hx hf hne zm zb c1 c2 c3 B hB1 hB2 hl h7
  ·exact Xpz xs b f gm gb M L mc n c w hm hb hx hf hne zm zb c1 c2 c3 B hB1 hB2 hl h7
 ·exact Xp0 xs b f gm gb M L mc n c w hm hb hx hf c3 B hB1 hl
end
end
section
attribute [local go_sem ↓] Go.wp_at_zero Go.wp_at_succ
def TellC (w:World) (k:Nat) (r:List Int×Brg) (E:Int) (e:Ending) (w':World):Prop:=
 ∃ A d L n c,e=.returned (.tuple #[.agg #[.slice A k d],.agg (B_.b r.2 L n c),.int .i64 E])∧Ints w' w'.heap.size A k r.1∧Lines w' w'.heap.size L n c r.2.cache∧Below w.heap.size w w' ∧
  (∀ ad,A=some ad→w.heap.size≤ad.block)∧∀ ad,L=some ad→w.heap.size≤ad.block
def CopT (w3:World) (g g':Nat) (b:Brg) (n:Nat) (xs:List Int) (wd:World):Prop:=
 ∃ A d L c',wd.cell? ⟨g,0,none⟩=some (.slice A 512 d)∧Xbj wd g' b L n c'∧OwnI w3.heap.size wd A 512 d xs∧OwnL w3.heap.size wd L n c' b.cache∧Below g w3 wd∧Xig g g' w3 wd
theorem Xxd (xs ys:List Int) (b b':Brg) (fc fd fp:Int) (fw:Bool) (gm gb:Nat) (M L:Option Addr) (mc n c:Nat) (w:World) (hm:w.cell? ⟨gm,0,none⟩=some (.slice M 512 mc)) (hb:Xbj w gb b L n c) (hx:Ints w w.heap.size M 512 xs) (hf:∀ ad,M=some ad→ad.block≠gm∧ad.block≠gb) (hne:gm≠gb) (zm:∀ o,w.frozen? ⟨gm,o,none⟩=false) (zb:∀ o,w.frozen? ⟨gb,o,none⟩=false) (c1:cm xs=0) (c2:ckB b=0) (c3:fltE fc fd fp=0) (B:Nat) (hB1:B≤gm) (hB2:B≤gb) (hr:Xdu xs b (fltW fc fd fp fw)=(ys,b')) :
  Calls Tryz.prog 81 #[.pointer (some ⟨gm,0,none⟩),.pointer (some ⟨gb,0,none⟩),.agg #[.int .i64 fc,.int .i64 fd,.int .i64 fp,.bool fw]] w fun e w'=>e=.returned (.tuple #[])∧TelC B w gm gb M L n c (ys,b') w':=by
 have:=Xoj xs b ⟨fc,fd,fp,fw⟩ gm gb M L mc n c w hm hb hx hf hne zm zb c1 c2 c3 B hB1 hB2
 rw[show Xdu xs b (Flt.w ⟨fc,fd,fp,fw⟩)=(ys,b')from hr]at this
 exact this
section
variable (xs:List Int) (m:Option Addr) (nm cm':Nat) (b:Brg) (A:Option Addr) (n c:Nat) (fc fd fp:Int) (fw:Bool) (w:World) (hx:Ints w w.heap.size m nm xs) (hl:Lines w w.heap.size A n c b.cache)
end
theorem Xug (xs ys:List Int) (m:Option Addr) (cm':Nat) (b b':Brg) (A:Option Addr) (n c:Nat) (fc fd fp:Int) (fw:Bool) (w:World) (hx:Ints w w.heap.size m 512 xs) (hl:Lines w w.heap.size A n c b.cache) (h0:cm xs=0) (hb:ckB b=0) (hf:fltE fc fd fp=0) (hr:Xdu xs b (fltW fc fd fp fw)=(ys,b')) (hc:b'.cache=b.cache) :
  Calls Tryz.prog 51 #[.agg #[.slice m 512 cm'],.agg (B_.b b A n c),.agg #[.int .i64 fc,.int .i64 fd,.int .i64 fp,.bool fw]] w (TellC w 512 (ys,b') 0):=by
 have HX:=Zh hx
 have HL:=Zh hl
 have HE:=Zh (Xnm h0 hb)
 have HF:=Zh hf
 have H0:=Zh h0
 have HCB:=Zh hb
 have HR:=Zh hr
 have HCC:=Zh hc
 have HN:=Zh (show n≤1000 by have:=((Xcm _).1 ((Xbn b).1 hb).2.1).1;have:=hl.1;omega)
 clear hx hl h0 hb hf hr hc
 go_enter Tryz.func51,Tryz.ntmps51
 go_wp2_with fail
 refine(Xd2 xs _ _ _ b _ _ _ _ (Xaf HX.out (bl (by repeat' first|with_reducible(first|assumption|constructor)|((try simp)<;>omega)))) (Xah HL.out (bl (by repeat' first|with_reducible(first|assumption|constructor)|((try simp)<;>omega))))).mono ?_
 rw[HE.out]
 rintro e w1 ⟨rfl,hb1⟩
 have hz1:=hb1.size
 (try simp only[Zs]at hz1)
 obtain⟨k1_0,l1_0,q1_0⟩:=aft hb1 (w.heap.size) (by(try simp)<;>omega)
 obtain⟨k1_1,l1_1,q1_1⟩:=aft hb1 (w.heap.size+1) (by(try simp)<;>omega)
 obtain⟨k1_2,l1_2,q1_2⟩:=aft hb1 (w.heap.size+1+1) (by(try simp)<;>omega)
 obtain⟨k1_3,l1_3,q1_3⟩:=aft hb1 (w.heap.size+1+1+1) (by(try simp)<;>omega)
 obtain⟨k1_4,l1_4,q1_4⟩:=aft hb1 (w.heap.size+1+1+1+1) (by(try simp)<;>omega)
 simp(maxDischargeDepth:=6) [go_sem, *]at k1_0 q1_0 k1_1 q1_1 k1_2 q1_2 k1_3 q1_3 k1_4 q1_4
 have HB1:=Zh hb1
 clear hb1
 go_wp2_with fail
 refine(Xel _ _ _ _ _).mono ?_
 rw[HF.out]
 rintro e w2 ⟨rfl,hb2⟩
 have hz2:=hb2.size
 (try simp only[Zs]at hz2)
 obtain⟨k2_0,l2_0,q2_0⟩:=aft hb2 (w.heap.size) (by(try simp)<;>omega)
 obtain⟨k2_1,l2_1,q2_1⟩:=aft hb2 (w.heap.size+1) (by(try simp)<;>omega)
 obtain⟨k2_2,l2_2,q2_2⟩:=aft hb2 (w.heap.size+1+1) (by(try simp)<;>omega)
 obtain⟨k2_3,l2_3,q2_3⟩:=aft hb2 (w.heap.size+1+1+1) (by(try simp)<;>omega)
 obtain⟨k2_4,l2_4,q2_4⟩:=aft hb2 (w.heap.size+1+1+1+1) (by(try simp)<;>omega)
 simp(maxDischargeDepth:=6) [go_sem, *]at k2_0 q2_0 k2_1 q2_1 k2_2 q2_2 k2_3 q2_3 k2_4 q2_4
 have HB2:=Zh hb2
 clear hb2
 have HW2:=Zh (show Below w.heap.size w w2 by(refine bl ?_;repeat' first|with_reducible(first|assumption|constructor)|((try simp)<;>omega)))
 have hz:=HW2.out.size
 clear k1_0 q1_0 l1_0 k1_1 q1_1 l1_1 k1_2 q1_2 l1_2 k1_3 q1_3 l1_3 k1_4 q1_4 l1_4 HB1 HB2 hz1
 go_upto_region 6 with(fail)
 go_cut [] (fun wd=>CopT w2 w.heap.size (w.heap.size+1) b n xs wd)
 case first=>
  clear k2_2 q2_2 l2_2 k2_3 q2_3 l2_3 k2_4 q2_4 l2_4
  go_region_with (first
   |(go_at_call 40;refine(Xgl m 512 cm' xs _ ?_ (by decide) (by decide)).mono ?_;(focus (refine Xaf HX.out ?_;(refine bl ?_;repeat' first|with_reducible(first|assumption|constructor)|((try simp)<;>omega));done));rintro e w4 ⟨A4,d4,rfl,ho4,hb4⟩;have hz4:=hb4.size;(try simp only[Zs]at hz4);obtain⟨k4_0,l4_0,q4_0⟩:=aft hb4 (w.heap.size) (by(try simp)<;>omega);obtain⟨k4_1,l4_1,q4_1⟩:=aft hb4 (w.heap.size+1) (by(try simp)<;>omega);simp(maxDischargeDepth:=6) [go_sem, *]at k4_0 q4_0 k4_1 q4_1;have HB4:=Zh hb4;clear hb4;have HO4:Hid (OwnI w2.heap.size w4 A4 512 d4 xs):=Zh (ho4.low (by(try simp)<;>omega));have HP4:=Zh (Xat ho4.2);clear ho4)
   |(go_at_call 41;refine(Xdd b A n c _ ?_ HN.out).mono ?_;(focus (refine Xah HL.out ?_;(refine bl ?_;repeat' first|with_reducible(first|assumption|constructor)|((try simp)<;>omega));done));rintro e w5 ⟨A5,d5,rfl,ho5,hb5⟩;have hz5:=hb5.size;(try simp only[Zs]at hz5);obtain⟨k5_0,l5_0,q5_0⟩:=aft hb5 (w.heap.size) (by(try simp)<;>omega);obtain⟨k5_1,l5_1,q5_1⟩:=aft hb5 (w.heap.size+1) (by(try simp)<;>omega);simp(maxDischargeDepth:=6) [go_sem, *]at k5_0 q5_0 k5_1 q5_1;have HB5:=Zh hb5;clear hb5;have HO5:Hid (OwnL w2.heap.size w5 A5 n d5 b.cache):=Zh (ho5.low (by(try simp)<;>omega));have HP5:=Zh (Xat ho5.2.2.2);clear ho5))
  all_goals
   go_wp2
   go_meet
   refine⟨A4,d4,A5,d5, ?_, ?_, ?_, ?_, ?_, ?_⟩
   ·show _=_
    simp(maxDischargeDepth:=8) [go_sem,k4_0,k5_0,k4_1,k5_1]
   ·unfold Xbj
    simp(maxDischargeDepth:=8) [go_sem,k4_0,k5_0,k4_1,k5_1]
   ·(repeat(first|((with_reducible refine OwnI.set ?_ ?_ _);rotate_left;exact(by(try simp)<;>omega))|(with_reducible exact HO4.out)|(with_reducible refine OwnI.below ?_ HB5.out)))
   ·(repeat(first|((with_reducible refine OwnL.set ?_ ?_ _);rotate_left;exact(by(try simp)<;>omega))|(with_reducible exact HO5.out)|(with_reducible refine OwnL.below ?_ HB4.out)))
   ·(refine bl ?_;repeat' first|with_reducible(first|assumption|constructor)|((try simp)<;>omega))
   ·(repeat(first|((with_reducible refine Xkd ?_ ?_ _);rotate_left;exact(by simp))|(with_reducible exact Xg0 _)|(with_reducible refine Xh5 ?_)|(with_reducible refine Xd9 HB5.out ?_)|(with_reducible refine Xd9 HB4.out ?_)))
 case rest=>
  obtain⟨A',d,L',c',hc0,hB,hO,hN,hb0,hOn⟩:=hcut
  have HP1:=Zh (Xat hO.2)
  have HP2:=Zh (Xat hN.2.2.2)
  have HWc:=Zh (show Below w.heap.size w wc from Below.trans HW2.out hb0)
  have hzc:w2.heap.size≤wc.heap.size:=hOn.1
  have kc_2:=fun o=>(hOn.2.1 (w.heap.size+1+1) o (by omega) (by omega) l2_2).trans (k2_2 o)
  have kc_3:=fun o=>(hOn.2.1 (w.heap.size+1+1+1) o (by omega) (by omega) l2_3).trans (k2_3 o)
  have kc_4:=fun o=>(hOn.2.1 (w.heap.size+1+1+1+1) o (by omega) (by omega) l2_4).trans (k2_4 o)
  have qc_0:=fun o=>(hOn.2.2 (w.heap.size) o l2_0).trans (q2_0 o)
  have qc_1:=fun o=>(hOn.2.2 (w.heap.size+1) o l2_1).trans (q2_1 o)
  have qc_3:=fun o=>(hOn.2.2 (w.heap.size+1+1+1) o l2_3).trans (q2_3 o)
  have qc_4:=fun o=>(hOn.2.2 (w.heap.size+1+1+1+1) o l2_4).trans (q2_4 o)
  have HI:=Zh (hO.ints (by decide))
  have HLL:=Zh (OwnL.lines hN)
  have HBc:=Zh hB
  have Hc0:=Zh hc0
  clear k2_0 q2_0 k2_1 q2_1 k2_2 q2_2 k2_3 q2_3 k2_4 q2_4 hO hN hB hOn hz2 hc0 hb0
  go_wp2_with fail
  refine(Xxd xs ys b b' fc fd fp fw w.heap.size (w.heap.size+1) A' L' d n c' wc Hc0.out HBc.out HI.out (fun ad e=>by have:=HP1.out ad e;omega) (by omega) qc_0 qc_1 H0.out HCB.out HF.out w.heap.size (by omega) (by omega) HR.out).mono ?_
  rintro e w3 ⟨rfl,hb3,A3,d3,m3,hB3,hI3,hO3,_,hn3⟩
  obtain⟨b0,b1,b2,b3,b4,b5,b6,b7,b8,b9,b10,b11⟩:=hB3
  have hz3:wc.heap.size≤w3.heap.size:=hO3.1
  have k3_3:=fun o=>(hO3.2.1 (w.heap.size+1+1+1) o (by omega) (by omega) (by omega)).trans (kc_3 o)
  have k3_4:=fun o=>(hO3.2.1 (w.heap.size+1+1+1+1) o (by omega) (by omega) (by omega)).trans (kc_4 o)
  have q3_3:=fun o=>(hO3.2.2 (w.heap.size+1+1+1) o (by omega)).trans (qc_3 o)
  have q3_4:=fun o=>(hO3.2.2 (w.heap.size+1+1+1+1) o (by omega)).trans (qc_4 o)
  have HI3:=Zh hI3
  have HL3:=Zh (show Lines w3 w3.heap.size L' n c' b'.cache by rw[HCC.out];exact Xvc HLL.out hO3 (fun ad e=>by have:=HP2.out ad e;omega))
  have HB3:=Zh hb3
  have HN3:=Zh (show ∀ ad,A3=some ad→w.heap.size+1+1+1+1<ad.block from fun ad e=>by
   rcases hn3 ad e with h|h
   ·have:=HP1.out ad h;omega
   ·omega)
  have HN4:=Zh (show ∀ ad,L'=some ad→w.heap.size+1+1+1+1<ad.block from fun ad e=>by have:=HP2.out ad e;omega)
  clear kc_2 kc_3 kc_4 qc_0 qc_1 qc_3 qc_4 hI3 hO3 hb3 hn3
  go_wp2
  go_region
  all_goals
   go_wp2
   refine bodyPost_ret (v:=.tuple #[.agg #[.slice A3 512 d3],.agg (B_.b b' L' n c'),.int .i64 0]) ?_ rfl ⟨A3,d3,L',n,c',rfl, ?_, ?_, ?_, ?_, ?_⟩
   ·simp(maxDischargeDepth:=8) [results,Tryz.results51,go_sem, *]
   ·refine Ints.more (B:=w3.heap.size) ?_ (by simp)
    show Ints _ _ _ _ ys
    (repeat(first|(with_reducible exact HI3.out)|(with_reducible refine Ints.drew ?_)|((with_reducible refine Xhn ?_ ?_ _);rotate_left;exact(by intro ad e h;have:=HN3.out ad e;dsimp only at h;omega))))
   ·refine Lines.more (B:=w3.heap.size) ?_ (by simp)
    show Lines _ _ _ _ _ b'.cache
    (repeat(first|(with_reducible exact HL3.out)|(with_reducible refine Lines.drew ?_)|((with_reducible refine Xb5 ?_ ?_ _);rotate_left;exact(by intro ad e h;have:=HN4.out ad e;dsimp only at h;omega))))
   ·(repeat(first|(with_reducible exact Below.refl _ _)|(with_reducible refine Below.drew ?_)|(with_reducible refine Xbs ?_ _)|((with_reducible refine Below.setCell ?_ ?_ _);rotate_left;exact(by(try simp)<;>omega))|((with_reducible refine Below.alloc ?_ ?_ _);rotate_left;exact(by(try simp)<;>omega))|((with_reducible refine Below.trans ?_ (HB3.out.mono ?_));rotate_left;exact(by(try simp)<;>omega))))
    exact HWc.out
   ·intro ad e;have:=HN3.out ad e;omega
   ·intro ad e;have:=HN4.out ad e;omega
theorem Xj7 {xs:List Int} {b:Brg} {v:Int}:(Xdu xs b v).2.cache=b.cache:=by
 unfold Xdu
 split
 ·rfl
 ·split<;>rfl
end
end Go.Proofs.YtbopdijnojaaiadGreat
