/- Orders obeyed: the program's Obey, whatever comes. No statement of the seat is proved here. -/
import Derived.Test.YtbopdijnojaaiadGreatBridgeS
import Derived.Test.YtbopdijnojaaiadGreatRingR
import Derived.Test.YtbopdijnojaaiadGreatWord
import Derived.Test.YtbopdijnojaaiadGreatDrop
import Derived.IntWalk
namespace Go.Proofs.YtbopdijnojaaiadGreat
set_option maxRecDepth 100000
set_option maxHeartbeats 4000000
open Go.RowKit
set_option linter.unusedSimpArgs false
set_option linter.unusedVariables false
section
def Xon (w:World) (rb:Brg) (E:Int) (e:Ending) (w':World):Prop:=
 ∃ L n c,e=.returned (.tuple #[.agg (B_.b rb L n c),.int .i64 E])∧Lines w' w'.heap.size L n c rb.cache∧Below w.heap.size w w'∧∀ ad,L=some ad→w.heap.size≤ad.block
theorem Xn4 {w w':World} {E:Int} (hb:Below w.heap.size w w'):Xon w .no E (.returned (.tuple #[.agg (B_.b Brg.no none 0 0),.int .i64 E])) w':=
 ⟨none,0,0,rfl,Xcl _ _,hb,fun _ h=>by cases h⟩
section
variable (xs:List Int) (m:Option Addr) (nm cm':Nat) (b:Brg) (A:Option Addr) (n c:Nat) (w:World) (hx:Ints w w.heap.size m nm xs) (hl:Lines w w.heap.size A n c b.cache)
include hx hl in
theorem Xwl (hE:allE xs b≠0) :
  Calls Tryz.prog 14 #[.agg #[.slice m nm cm'],.agg (B_.b b A n c)] w (Xon w .no (allE xs b)):=by
 have HX:=Zh hx
 have HL:=Zh hl
 have t1:(allE xs b != 0)=true:=by rw[bne_iff_ne];exact hE
 clear hx hl hE
 go_enter Tryz.func14,Tryz.ntmps14
 go_wp2_with fail
 refine(Xd2 xs _ _ _ b _ _ _ _ (Xaf HX.out (bl (by repeat' first|with_reducible(first|assumption|constructor)|((try simp)<;>omega)))) (Xah HL.out (bl (by repeat' first|with_reducible(first|assumption|constructor)|((try simp)<;>omega))))).mono ?_
 rintro e w1 ⟨rfl,hb1⟩
 have hz1:=hb1.size
 (try simp only[Zs]at hz1)
 obtain⟨k1_0,l1_0,q1_0⟩:=aft hb1 (w.heap.size+1+1) (by(try simp)<;>omega)
 simp(maxDischargeDepth:=6) [go_sem, *]at k1_0 q1_0
 have HB1:=Zh hb1
 clear hb1
 go_wp2
 refine bodyPost_ret (v:=.tuple #[.agg (B_.b Brg.no none 0 0),.int .i64 (allE xs b)]) ?_ rfl (Xn4 ?_)
 ·simp(maxDischargeDepth:=8) [results,Tryz.results14,go_sem,Brg.no,Ring.no, *]
 ·(refine bl ?_;repeat' first|with_reducible(first|assumption|constructor)|((try simp)<;>omega))
include hx hl in
theorem Xwk (hE:allE xs b=0) (hs:b.stopped=true) :
  Calls Tryz.prog 14 #[.agg #[.slice m nm cm'],.agg (B_.b b A n c)] w (Xon w .no 6):=by
 have HX:=Zh hx
 have HL:=Zh hl
 have HE:=Zh hE
 have HS:=Zh hs
 clear hx hl hE hs
 go_enter Tryz.func14,Tryz.ntmps14
 go_wp2_with fail
 refine(Xd2 xs _ _ _ b _ _ _ _ (Xaf HX.out (bl (by repeat' first|with_reducible(first|assumption|constructor)|((try simp)<;>omega)))) (Xah HL.out (bl (by repeat' first|with_reducible(first|assumption|constructor)|((try simp)<;>omega))))).mono ?_
 rw[HE.out]
 rintro e w1 ⟨rfl,hb1⟩
 have hz1:=hb1.size
 (try simp only[Zs]at hz1)
 obtain⟨k1_0,l1_0,q1_0⟩:=aft hb1 (w.heap.size+1) (by(try simp)<;>omega)
 obtain⟨k1_1,l1_1,q1_1⟩:=aft hb1 (w.heap.size+1+1) (by(try simp)<;>omega)
 simp(maxDischargeDepth:=6) [go_sem, *]at k1_0 q1_0 k1_1 q1_1
 have HB1:=Zh hb1
 clear hb1
 have hs:=HS.out
 go_wp2
 refine bodyPost_ret (v:=.tuple #[.agg (B_.b Brg.no none 0 0),.int .i64 6]) ?_ rfl (Xn4 ?_)
 ·simp(maxDischargeDepth:=8) [results,Tryz.results14,go_sem,Brg.no,Ring.no, *]
 ·(refine bl ?_;repeat' first|with_reducible(first|assumption|constructor)|((try simp)<;>omega))
include hx hl in
theorem Xwj (hE:allE xs b=0) (hs:b.stopped=false) (hp:popE xs b.orders≠0) :
  Calls Tryz.prog 14 #[.agg #[.slice m nm cm'],.agg (B_.b b A n c)] w (Xon w .no (popE xs b.orders)):=by
 have HX:=Zh hx
 have HL:=Zh hl
 have HE:=Zh hE
 have HS:=Zh hs
 have HP:=Zh (show popE xs ⟨b.orders.page,b.orders.head,b.orders.tail⟩≠0 from hp)
 have t1:(popE xs ⟨b.orders.page,b.orders.head,b.orders.tail⟩ != 0)=true:=by rw[bne_iff_ne];exact hp
 clear hx hl hE hs hp
 go_enter Tryz.func14,Tryz.ntmps14
 go_wp2_with fail
 refine(Xd2 xs _ _ _ b _ _ _ _ (Xaf HX.out (bl (by repeat' first|with_reducible(first|assumption|constructor)|((try simp)<;>omega)))) (Xah HL.out (bl (by repeat' first|with_reducible(first|assumption|constructor)|((try simp)<;>omega))))).mono ?_
 rw[HE.out]
 rintro e w1 ⟨rfl,hb1⟩
 have hz1:=hb1.size
 (try simp only[Zs]at hz1)
 obtain⟨k1_0,l1_0,q1_0⟩:=aft hb1 (w.heap.size) (by(try simp)<;>omega)
 obtain⟨k1_1,l1_1,q1_1⟩:=aft hb1 (w.heap.size+1) (by(try simp)<;>omega)
 obtain⟨k1_2,l1_2,q1_2⟩:=aft hb1 (w.heap.size+1+1) (by(try simp)<;>omega)
 simp(maxDischargeDepth:=6) [go_sem, *]at k1_0 q1_0 k1_1 q1_1 k1_2 q1_2
 have HB1:=Zh hb1
 clear hb1
 have hs:=HS.out
 go_wp2_with fail
 refine(Xnw _ _ _ xs _ _ _ _ (Xaf HX.out (bl (by repeat' first|with_reducible(first|assumption|constructor)|((try simp)<;>omega)))) HP.out).mono ?_
 rintro e w2 ⟨rfl,hb2⟩
 have hz2:=hb2.size
 (try simp only[Zs]at hz2)
 obtain⟨k2_0,l2_0,q2_0⟩:=aft hb2 (w.heap.size+1+1) (by(try simp)<;>omega)
 simp(maxDischargeDepth:=6) [go_sem, *]at k2_0 q2_0
 have HB2:=Zh hb2
 clear hb2
 go_wp2
 refine bodyPost_ret (v:=.tuple #[.agg (B_.b Brg.no none 0 0),.int .i64 (popE xs ⟨b.orders.page,b.orders.head,b.orders.tail⟩)]) ?_ rfl (Xn4 ?_)
 ·simp(maxDischargeDepth:=8) [results,Tryz.results14,go_sem,Brg.no,Ring.no, *]
 ·(refine bl ?_;repeat' first|with_reducible(first|assumption|constructor)|((try simp)<;>omega))
end
section
variable (xs:List Int) (m:Option Addr) (cm':Nat) (b:Brg) (A:Option Addr) (n c:Nat) (w:World) (hx:Ints w w.heap.size m 512 xs) (hl:Lines w w.heap.size A n c b.cache) (h0:cm xs=0) (hb:ckB b=0) (hs:b.stopped=false) (hp:popE xs b.orders=0) (v:Int) (hv:popV xs b.orders=v)
include hx hl h0 hb hs hp hv in
theorem Xwm (hr:rdoE v≠0) :
  Calls Tryz.prog 14 #[.agg #[.slice m 512 cm'],.agg (B_.b b A n c)] w (Xon w { b with stopped:=true } 0):=by
 have HX:=Zh hx
 have HL:=Zh hl
 have HE:=Zh (Xnm h0 hb)
 have HS:=Zh hs
 have HP:=Zh (show popE xs ⟨b.orders.page,b.orders.head,b.orders.tail⟩=0 from hp)
 have HV:=Zh (show popV xs ⟨b.orders.page,b.orders.head,b.orders.tail⟩=v from hv)
 have HN:=Zh (show n≤1000 by have:=((Xcm _).1 ((Xbn b).1 hb).2.1).1;have:=hl.1;omega)
 have t1:(rdoE v != 0)=true:=by rw[bne_iff_ne];exact hr
 clear hx hl hs hp h0 hb hv hr
 go_enter Tryz.func14,Tryz.ntmps14
 go_wp2_with fail
 refine(Xd2 xs _ _ _ b _ _ _ _ (Xaf HX.out (bl (by repeat' first|with_reducible(first|assumption|constructor)|((try simp)<;>omega)))) (Xah HL.out (bl (by repeat' first|with_reducible(first|assumption|constructor)|((try simp)<;>omega))))).mono ?_
 rw[HE.out]
 rintro e w1 ⟨rfl,hb1⟩
 have hz1:=hb1.size
 (try simp only[Zs]at hz1)
 obtain⟨k1_0,l1_0,q1_0⟩:=aft hb1 (w.heap.size) (by(try simp)<;>omega)
 obtain⟨k1_1,l1_1,q1_1⟩:=aft hb1 (w.heap.size+1) (by(try simp)<;>omega)
 obtain⟨k1_2,l1_2,q1_2⟩:=aft hb1 (w.heap.size+1+1) (by(try simp)<;>omega)
 simp(maxDischargeDepth:=6) [go_sem, *]at k1_0 q1_0 k1_1 q1_1 k1_2 q1_2
 have HB1:=Zh hb1
 clear hb1
 have hs:=HS.out
 go_wp2_with fail
 refine(Xkv _ _ _ xs _ _ _ _ (Xaf HX.out (bl (by repeat' first|with_reducible(first|assumption|constructor)|((try simp)<;>omega)))) HP.out).mono ?_
 rw[HV.out]
 rintro e w2 ⟨rfl,hb2⟩
 have hz2:=hb2.size
 (try simp only[Zs]at hz2)
 obtain⟨k2_0,l2_0,q2_0⟩:=aft hb2 (w.heap.size+1) (by(try simp)<;>omega)
 obtain⟨k2_1,l2_1,q2_1⟩:=aft hb2 (w.heap.size+1+1) (by(try simp)<;>omega)
 simp(maxDischargeDepth:=6) [go_sem, *]at k2_0 q2_0 k2_1 q2_1
 have HB2:=Zh hb2
 clear hb2
 clear k1_0 q1_0 l1_0 k1_1 q1_1 l1_1 k1_2 q1_2 l1_2
 go_wp2_with fail
 have hcp:=fun W h=>Xdd b A n c W h HN.out
 simp only[HS.out]at hcp
 refine(hcp _ (Xah HL.out (bl (by repeat' first|with_reducible(first|assumption|constructor)|((try simp)<;>omega))))).mono ?_
 clear hcp
 rintro e w3 ⟨A3,c3,rfl,ho3,hb3⟩
 have hz3:=hb3.size
 (try simp only[Zs]at hz3)
 obtain⟨k3_0,l3_0,q3_0⟩:=aft hb3 (w.heap.size+1) (by(try simp)<;>omega)
 obtain⟨k3_1,l3_1,q3_1⟩:=aft hb3 (w.heap.size+1+1) (by(try simp)<;>omega)
 simp(maxDischargeDepth:=6) [go_sem, *]at k3_0 q3_0 k3_1 q3_1
 have HB3:=Zh hb3
 clear hb3
 have HO3:Hid (OwnL (w.heap.size+1+1+1) w3 A3 n c3 b.cache):=Zh (ho3.low (by simp;omega))
 have HP3:=Zh (Xat ho3.2.2.2)
 clear ho3 k2_0 q2_0 l2_0 k2_1 q2_1 l2_1
 go_wp2_with fail
 refine(Xfa _ _).mono ?_
 rw[show rdoV v=.tuple #[.agg #[.int .i64 (rdoF v (v % 4)),.int .i64 (rdoF v (v / 4 % 8)),.int .i64 (rdoF v (v / 32))],.int .i64 (rdoE v)]from rfl]
 rintro e w4 ⟨rfl,hb4⟩
 have hz4:=hb4.size
 (try simp only[Zs]at hz4)
 have k4_0_0:=(Xa9 hb4).1 (w.heap.size+1) 0 (by(try simp)<;>omega)
 have k4_0_1:=(Xa9 hb4).1 (w.heap.size+1) 1 (by(try simp)<;>omega)
 have k4_0_2:=(Xa9 hb4).1 (w.heap.size+1) 2 (by(try simp)<;>omega)
 have k4_0_3:=(Xa9 hb4).1 (w.heap.size+1) 3 (by(try simp)<;>omega)
 have k4_0_4:=(Xa9 hb4).1 (w.heap.size+1) 4 (by(try simp)<;>omega)
 have k4_0_5:=(Xa9 hb4).1 (w.heap.size+1) 5 (by(try simp)<;>omega)
 have k4_0_6:=(Xa9 hb4).1 (w.heap.size+1) 6 (by(try simp)<;>omega)
 have k4_0_7:=(Xa9 hb4).1 (w.heap.size+1) 7 (by(try simp)<;>omega)
 have k4_0_8:=(Xa9 hb4).1 (w.heap.size+1) 8 (by(try simp)<;>omega)
 have k4_0_9:=(Xa9 hb4).1 (w.heap.size+1) 9 (by(try simp)<;>omega)
 have k4_0_10:=(Xa9 hb4).1 (w.heap.size+1) 10 (by(try simp)<;>omega)
 have k4_0_11:=(Xa9 hb4).1 (w.heap.size+1) 11 (by(try simp)<;>omega)
 obtain⟨l4_0,q4_0⟩:=(aft hb4 (w.heap.size+1) (by(try simp)<;>omega)).2
 obtain⟨k4_1,l4_1,q4_1⟩:=aft hb4 (w.heap.size+1+1) (by(try simp)<;>omega)
 simp(maxDischargeDepth:=6) [go_sem, *]at k4_0_0 k4_0_1 k4_0_2 k4_0_3 k4_0_4 k4_0_5 k4_0_6 k4_0_7 k4_0_8 k4_0_9 k4_0_10 k4_0_11 q4_0 k4_1 q4_1
 have HB4:=Zh hb4
 clear hb4
 clear k3_0 q3_0 l3_0 k3_1 q3_1 l3_1
 go_wp2
 refine bodyPost_ret (v:=.tuple #[.agg (B_.b ({ b with stopped:=true }:Brg) A3 n c3),.int .i64 0]) ?_ rfl ⟨A3,n,c3,rfl, ?_, ?_, ?_⟩
 ·simp(maxDischargeDepth:=8) [results,Tryz.results14,go_sem, *]
 ·refine OwnL.lines (B:=w.heap.size+1+1+1) ?_
  (repeat(first|((with_reducible refine OwnL.set ?_ ?_ _);rotate_left;exact(by(try simp)<;>omega))|(with_reducible refine OwnL.alloc ?_ _)|(with_reducible exact HO3.out)|(with_reducible refine OwnL.below ?_ HB4.out)))
 ·(refine bl ?_;repeat' first|with_reducible(first|assumption|constructor)|((try simp)<;>omega))
 ·intro ad e;have:=(HP3.out ad e).1;simp at this;omega
end
end
section
def obB (b:Brg) (ms:List Line) (F:Int):Brg:=⟨b.mode,b.base,ms,⟨b.orders.page,(b.orders.head+1) % 8,b.orders.tail⟩,b.stopped,F,b.faults,b.lost⟩
section
variable (xs:List Int) (m:Option Addr) (cm':Nat) (b:Brg) (A:Option Addr) (n c:Nat) (w:World) (hx:Ints w w.heap.size m 512 xs) (hl:Lines w w.heap.size A n c b.cache) (h0:cm xs=0) (hb:ckB b=0) (hs:b.stopped=false) (hp:popE xs b.orders=0) (v:Int) (hv:popV xs b.orders=v)
include hx hl h0 hb hs hp hv in
theorem Xuh (ms:List Line) (F:Int) (rb:Brg) (hr:rdoE v=0) (hm:Xfn b.cache (v % 4) (v / 4 % 8) (v / 32)=ms) (hF:F=if v % 4=0 then(b.fences+1) % 1000 else b.fences) (hrb:rb=obB b ms F) :
  Calls Tryz.prog 14 #[.agg #[.slice m 512 cm'],.agg (B_.b b A n c)] w (Xon w rb 0):=by
 have HX:=Zh hx
 have HL:=Zh hl
 have HE:=Zh (Xnm h0 hb)
 have HS:=Zh hs
 have HP:=Zh (show popE xs ⟨b.orders.page,b.orders.head,b.orders.tail⟩=0 from hp)
 have HV:=Zh (show popV xs ⟨b.orders.page,b.orders.head,b.orders.tail⟩=v from hv)
 have HN:=Zh (show n≤1000 by have:=((Xcm _).1 ((Xbn b).1 hb).2.1).1;have:=hl.1;omega)
 have HM:=Zh hm
 have HRR:=Zh (show rdoV v=.tuple #[.agg #[.int .i64 (v % 4),.int .i64 (v / 4 % 8),.int .i64 (v / 32)],.int .i64 0] by simp[rdoV,rdoF,hr])
 have hk:=(Xn3 hr).2
 unfold OrdR at hk
 have HWF:=Zh (show(Lit.int .i64 (v % 4)).wf=true by
  have:v % 4=0∨v % 4=1∨v % 4=2∨v % 4=3:=by omega
  rcases this with e|e|e|e<;>rw[e]<;>rfl)
 have HDE:=Zh (show Xes b.cache (v % 4)=0 from Xgc ((Xbn b).1 hb).2.1 (by omega))
 have hf:=((Xbn b).1 hb).1.2.2
 obtain⟨hf1,hf2⟩:=hf
 have HRB:=Zh hrb
 have HFF:=Zh hF
 have HPR:=Zh (show popR b.orders=⟨b.orders.page,(b.orders.head+1) % 8,b.orders.tail⟩from rfl)
 obtain⟨vk,hvk⟩:∃ k,v % 4=k:=⟨_,rfl⟩
 obtain⟨vd,hvd⟩:∃ k,v / 4 % 8=k:=⟨_,rfl⟩
 obtain⟨vp,hvp⟩:∃ k,v / 32=k:=⟨_,rfl⟩
 rw[hvk]at HM HRR HWF HDE HFF
 rw[hvd]at HM HRR
 rw[hvp]at HM HRR
 rw[HRB.out]
 clear hx hl hs hp h0 hb hv hr hm hF hrb hk hvk hvd hvp
 by_cases hq:vk=0
 ·have HQ:=Zh (show(b.fences+1) % 1000=F by rw[HFF.out,if_pos hq])
  have t2:(vk==0)=true:=by rw[beq_iff_eq];exact hq
  have e1:IntKind.i64.wrap (b.fences+1)=b.fences+1:=IntWalk.i64_in _ (by omega)
  have e2:(b.fences+1).tmod 1000=(b.fences+1) % 1000:=Int.tmod_eq_emod_of_nonneg (by omega)
  clear hq
  go_enter Tryz.func14,Tryz.ntmps14
  go_wp2_with fail
  refine(Xd2 xs _ _ _ b _ _ _ _ (Xaf HX.out (bl (by repeat' first|with_reducible(first|assumption|constructor)|((try simp)<;>omega)))) (Xah HL.out (bl (by repeat' first|with_reducible(first|assumption|constructor)|((try simp)<;>omega))))).mono ?_
  rw[HE.out]
  rintro e w1 ⟨rfl,hb1⟩
  have hz1:=hb1.size
  (try simp only[Zs]at hz1)
  obtain⟨k1_0,l1_0,q1_0⟩:=aft hb1 (w.heap.size) (by(try simp)<;>omega)
  obtain⟨k1_1,l1_1,q1_1⟩:=aft hb1 (w.heap.size+1) (by(try simp)<;>omega)
  obtain⟨k1_2,l1_2,q1_2⟩:=aft hb1 (w.heap.size+1+1) (by(try simp)<;>omega)
  simp(maxDischargeDepth:=6) [go_sem, *]at k1_0 q1_0 k1_1 q1_1 k1_2 q1_2
  have HB1:=Zh hb1
  clear hb1
  have hs:=HS.out
  go_wp2_with fail
  refine(Xkv _ _ _ xs _ _ _ _ (Xaf HX.out (bl (by repeat' first|with_reducible(first|assumption|constructor)|((try simp)<;>omega)))) HP.out).mono ?_
  rw[HV.out]
  rintro e w2 ⟨rfl,hb2⟩
  have hz2:=hb2.size
  (try simp only[Zs]at hz2)
  obtain⟨k2_0,l2_0,q2_0⟩:=aft hb2 (w.heap.size+1) (by(try simp)<;>omega)
  obtain⟨k2_1,l2_1,q2_1⟩:=aft hb2 (w.heap.size+1+1) (by(try simp)<;>omega)
  simp(maxDischargeDepth:=6) [go_sem, *]at k2_0 q2_0 k2_1 q2_1
  have HB2:=Zh hb2
  clear hb2
  clear k1_0 q1_0 l1_0 k1_1 q1_1 l1_1 k1_2 q1_2 l1_2
  go_wp2_with fail
  have hcp:=fun W h=>Xdd b A n c W h HN.out
  simp only[HS.out]at hcp
  refine(hcp _ (Xah HL.out (bl (by repeat' first|with_reducible(first|assumption|constructor)|((try simp)<;>omega))))).mono ?_
  clear hcp
  rintro e w3 ⟨A3,c3,rfl,ho3,hb3⟩
  have hz3:=hb3.size
  (try simp only[Zs]at hz3)
  obtain⟨k3_0,l3_0,q3_0⟩:=aft hb3 (w.heap.size+1) (by(try simp)<;>omega)
  obtain⟨k3_1,l3_1,q3_1⟩:=aft hb3 (w.heap.size+1+1) (by(try simp)<;>omega)
  obtain⟨k3_2,l3_2,q3_2⟩:=aft hb3 (w2.heap.size) (by(try simp)<;>omega)
  simp(maxDischargeDepth:=6) [go_sem, *]at k3_0 q3_0 k3_1 q3_1 k3_2 q3_2
  have HB3:=Zh hb3
  clear hb3
  have HO3:Hid (OwnL (w.heap.size+1+1+1) w3 A3 n c3 b.cache):=Zh (ho3.low (by simp;omega))
  clear ho3 k2_0 q2_0 l2_0 k2_1 q2_1 l2_1
  go_wp2_with fail
  refine(Xfa _ _).mono ?_
  rw[HRR.out]
  rintro e w4 ⟨rfl,hb4⟩
  have hz4:=hb4.size
  (try simp only[Zs]at hz4)
  have k4_0_0:=(Xa9 hb4).1 (w.heap.size+1) 0 (by(try simp)<;>omega)
  have k4_0_1:=(Xa9 hb4).1 (w.heap.size+1) 1 (by(try simp)<;>omega)
  have k4_0_2:=(Xa9 hb4).1 (w.heap.size+1) 2 (by(try simp)<;>omega)
  have k4_0_3:=(Xa9 hb4).1 (w.heap.size+1) 3 (by(try simp)<;>omega)
  have k4_0_4:=(Xa9 hb4).1 (w.heap.size+1) 4 (by(try simp)<;>omega)
  have k4_0_5:=(Xa9 hb4).1 (w.heap.size+1) 5 (by(try simp)<;>omega)
  have k4_0_6:=(Xa9 hb4).1 (w.heap.size+1) 6 (by(try simp)<;>omega)
  have k4_0_7:=(Xa9 hb4).1 (w.heap.size+1) 7 (by(try simp)<;>omega)
  have k4_0_8:=(Xa9 hb4).1 (w.heap.size+1) 8 (by(try simp)<;>omega)
  have k4_0_9:=(Xa9 hb4).1 (w.heap.size+1) 9 (by(try simp)<;>omega)
  have k4_0_10:=(Xa9 hb4).1 (w.heap.size+1) 10 (by(try simp)<;>omega)
  have k4_0_11:=(Xa9 hb4).1 (w.heap.size+1) 11 (by(try simp)<;>omega)
  obtain⟨l4_0,q4_0⟩:=(aft hb4 (w.heap.size+1) (by(try simp)<;>omega)).2
  obtain⟨k4_1,l4_1,q4_1⟩:=aft hb4 (w.heap.size+1+1) (by(try simp)<;>omega)
  obtain⟨k4_2,l4_2,q4_2⟩:=aft hb4 (w2.heap.size) (by(try simp)<;>omega)
  simp(maxDischargeDepth:=6) [go_sem, *]at k4_0_0 k4_0_1 k4_0_2 k4_0_3 k4_0_4 k4_0_5 k4_0_6 k4_0_7 k4_0_8 k4_0_9 k4_0_10 k4_0_11 q4_0 k4_1 q4_1 k4_2 q4_2
  have HB4:=Zh hb4
  clear hb4
  clear k3_0 q3_0 l3_0 k3_1 q3_1 l3_1 k3_2 q3_2 l3_2
  have HO4:Hid (OwnL (w.heap.size+1+1+1) w4 A3 n c3 b.cache):=Zh (by
   (refine OwnL.below ?_ HB4.out);(repeat(first|((with_reducible refine OwnL.set ?_ ?_ _);rotate_left;exact(by(try simp)<;>omega))|(with_reducible exact HO3.out))))
  go_wp2_with fail
  refine(Xph A3 n c3 b.cache ms vk vd vp 0 _ (by exact(OwnL.lines (OwnL.alloc HO4.out _))) HWF.out HDE.out HM.out).mono ?_
  rintro e w5 ⟨A5,c5,rfl,hl5,hb5,hn5⟩
  have hz5:=hb5.size
  (try simp only[Zs]at hz5)
  have k5_0_0:=(Xa9 hb5).1 (w.heap.size+1) 0 (by(try simp)<;>omega)
  have k5_0_1:=(Xa9 hb5).1 (w.heap.size+1) 1 (by(try simp)<;>omega)
  have k5_0_2:=(Xa9 hb5).1 (w.heap.size+1) 2 (by(try simp)<;>omega)
  have k5_0_3:=(Xa9 hb5).1 (w.heap.size+1) 3 (by(try simp)<;>omega)
  have k5_0_4:=(Xa9 hb5).1 (w.heap.size+1) 4 (by(try simp)<;>omega)
  have k5_0_5:=(Xa9 hb5).1 (w.heap.size+1) 5 (by(try simp)<;>omega)
  have k5_0_6:=(Xa9 hb5).1 (w.heap.size+1) 6 (by(try simp)<;>omega)
  have k5_0_7:=(Xa9 hb5).1 (w.heap.size+1) 7 (by(try simp)<;>omega)
  have k5_0_8:=(Xa9 hb5).1 (w.heap.size+1) 8 (by(try simp)<;>omega)
  have k5_0_9:=(Xa9 hb5).1 (w.heap.size+1) 9 (by(try simp)<;>omega)
  have k5_0_10:=(Xa9 hb5).1 (w.heap.size+1) 10 (by(try simp)<;>omega)
  have k5_0_11:=(Xa9 hb5).1 (w.heap.size+1) 11 (by(try simp)<;>omega)
  obtain⟨l5_0,q5_0⟩:=(aft hb5 (w.heap.size+1) (by(try simp)<;>omega)).2
  obtain⟨k5_1,l5_1,q5_1⟩:=aft hb5 (w.heap.size+1+1) (by(try simp)<;>omega)
  obtain⟨k5_2,l5_2,q5_2⟩:=aft hb5 (w2.heap.size) (by(try simp)<;>omega)
  obtain⟨k5_3,l5_3,q5_3⟩:=aft hb5 (w4.heap.size) (by(try simp)<;>omega)
  simp(maxDischargeDepth:=6) [go_sem, *]at k5_0_0 k5_0_1 k5_0_2 k5_0_3 k5_0_4 k5_0_5 k5_0_6 k5_0_7 k5_0_8 k5_0_9 k5_0_10 k5_0_11 q5_0 k5_1 q5_1 k5_2 q5_2 k5_3 q5_3
  have HB5:=Zh hb5
  clear hb5
  (try simp only[Zs]at hn5)
  have HL5:=Zh hl5
  have HN5:=Zh (show ∀ ad,A5=some ad→w.heap.size+1+1<ad.block from fun ad e=>by have:=hn5 ad e;omega)
  have u1:¬w.heap.size+1=w4.heap.size:=by omega
  have u2:¬w4.heap.size=w.heap.size+1:=by omega
  have u3:¬w.heap.size+1=w2.heap.size:=by omega
  have u4:¬w2.heap.size=w.heap.size+1:=by omega
  clear hl5 hn5 k4_0_0 k4_0_1 k4_0_2 k4_0_3 k4_0_4 k4_0_5 k4_0_6 k4_0_7 k4_0_8 k4_0_9 k4_0_10 k4_0_11 q4_0 l4_0 k4_1 q4_1 l4_1 k4_2 q4_2 l4_2
  go_wp2
  refine bodyPost_ret (v:=.tuple #[.agg (B_.b (obB b ms F) A5 ms.length c5),.int .i64 0]) ?_ rfl ⟨A5,ms.length,c5,rfl, ?_, ?_, ?_⟩
  ·simp(maxDischargeDepth:=8) [results,Tryz.results14,go_sem,obB,←HQ.out, *]
  ·refine Lines.more (B:=w5.heap.size) ?_ (by simp)
   show Lines _ _ _ _ _ ms
   (repeat(first|((with_reducible refine Xb5 ?_ ?_ _);rotate_left;exact(by intro ad e h;have:=HN5.out ad e;dsimp only at h;omega))|(with_reducible exact HL5.out)))
  ·(refine bl ?_;repeat' first|with_reducible(first|assumption|constructor)|((try simp)<;>omega))
  ·intro ad e;have:=HN5.out ad e;omega
 ·have HQ:=Zh (show b.fences=F by rw[HFF.out,if_neg hq])
  have t2:(vk==0)=false:=by rw[beq_eq_false_iff_ne];exact hq
  clear hq
  go_enter Tryz.func14,Tryz.ntmps14
  go_wp2_with fail
  refine(Xd2 xs _ _ _ b _ _ _ _ (Xaf HX.out (bl (by repeat' first|with_reducible(first|assumption|constructor)|((try simp)<;>omega)))) (Xah HL.out (bl (by repeat' first|with_reducible(first|assumption|constructor)|((try simp)<;>omega))))).mono ?_
  rw[HE.out]
  rintro e w1 ⟨rfl,hb1⟩
  have hz1:=hb1.size
  (try simp only[Zs]at hz1)
  obtain⟨k1_0,l1_0,q1_0⟩:=aft hb1 (w.heap.size) (by(try simp)<;>omega)
  obtain⟨k1_1,l1_1,q1_1⟩:=aft hb1 (w.heap.size+1) (by(try simp)<;>omega)
  obtain⟨k1_2,l1_2,q1_2⟩:=aft hb1 (w.heap.size+1+1) (by(try simp)<;>omega)
  simp(maxDischargeDepth:=6) [go_sem, *]at k1_0 q1_0 k1_1 q1_1 k1_2 q1_2
  have HB1:=Zh hb1
  clear hb1
  have hs:=HS.out
  go_wp2_with fail
  refine(Xkv _ _ _ xs _ _ _ _ (Xaf HX.out (bl (by repeat' first|with_reducible(first|assumption|constructor)|((try simp)<;>omega)))) HP.out).mono ?_
  rw[HV.out]
  rintro e w2 ⟨rfl,hb2⟩
  have hz2:=hb2.size
  (try simp only[Zs]at hz2)
  obtain⟨k2_0,l2_0,q2_0⟩:=aft hb2 (w.heap.size+1) (by(try simp)<;>omega)
  obtain⟨k2_1,l2_1,q2_1⟩:=aft hb2 (w.heap.size+1+1) (by(try simp)<;>omega)
  simp(maxDischargeDepth:=6) [go_sem, *]at k2_0 q2_0 k2_1 q2_1
  have HB2:=Zh hb2
  clear hb2
  clear k1_0 q1_0 l1_0 k1_1 q1_1 l1_1 k1_2 q1_2 l1_2
  go_wp2_with fail
  have hcp:=fun W h=>Xdd b A n c W h HN.out
  simp only[HS.out]at hcp
  refine(hcp _ (Xah HL.out (bl (by repeat' first|with_reducible(first|assumption|constructor)|((try simp)<;>omega))))).mono ?_
  clear hcp
  rintro e w3 ⟨A3,c3,rfl,ho3,hb3⟩
  have hz3:=hb3.size
  (try simp only[Zs]at hz3)
  obtain⟨k3_0,l3_0,q3_0⟩:=aft hb3 (w.heap.size+1) (by(try simp)<;>omega)
  obtain⟨k3_1,l3_1,q3_1⟩:=aft hb3 (w.heap.size+1+1) (by(try simp)<;>omega)
  obtain⟨k3_2,l3_2,q3_2⟩:=aft hb3 (w2.heap.size) (by(try simp)<;>omega)
  simp(maxDischargeDepth:=6) [go_sem, *]at k3_0 q3_0 k3_1 q3_1 k3_2 q3_2
  have HB3:=Zh hb3
  clear hb3
  have HO3:Hid (OwnL (w.heap.size+1+1+1) w3 A3 n c3 b.cache):=Zh (ho3.low (by simp;omega))
  clear ho3 k2_0 q2_0 l2_0 k2_1 q2_1 l2_1
  go_wp2_with fail
  refine(Xfa _ _).mono ?_
  rw[HRR.out]
  rintro e w4 ⟨rfl,hb4⟩
  have hz4:=hb4.size
  (try simp only[Zs]at hz4)
  have k4_0_0:=(Xa9 hb4).1 (w.heap.size+1) 0 (by(try simp)<;>omega)
  have k4_0_1:=(Xa9 hb4).1 (w.heap.size+1) 1 (by(try simp)<;>omega)
  have k4_0_2:=(Xa9 hb4).1 (w.heap.size+1) 2 (by(try simp)<;>omega)
  have k4_0_3:=(Xa9 hb4).1 (w.heap.size+1) 3 (by(try simp)<;>omega)
  have k4_0_4:=(Xa9 hb4).1 (w.heap.size+1) 4 (by(try simp)<;>omega)
  have k4_0_5:=(Xa9 hb4).1 (w.heap.size+1) 5 (by(try simp)<;>omega)
  have k4_0_6:=(Xa9 hb4).1 (w.heap.size+1) 6 (by(try simp)<;>omega)
  have k4_0_7:=(Xa9 hb4).1 (w.heap.size+1) 7 (by(try simp)<;>omega)
  have k4_0_8:=(Xa9 hb4).1 (w.heap.size+1) 8 (by(try simp)<;>omega)
  have k4_0_9:=(Xa9 hb4).1 (w.heap.size+1) 9 (by(try simp)<;>omega)
  have k4_0_10:=(Xa9 hb4).1 (w.heap.size+1) 10 (by(try simp)<;>omega)
  have k4_0_11:=(Xa9 hb4).1 (w.heap.size+1) 11 (by(try simp)<;>omega)
  obtain⟨l4_0,q4_0⟩:=(aft hb4 (w.heap.size+1) (by(try simp)<;>omega)).2
  obtain⟨k4_1,l4_1,q4_1⟩:=aft hb4 (w.heap.size+1+1) (by(try simp)<;>omega)
  obtain⟨k4_2,l4_2,q4_2⟩:=aft hb4 (w2.heap.size) (by(try simp)<;>omega)
  simp(maxDischargeDepth:=6) [go_sem, *]at k4_0_0 k4_0_1 k4_0_2 k4_0_3 k4_0_4 k4_0_5 k4_0_6 k4_0_7 k4_0_8 k4_0_9 k4_0_10 k4_0_11 q4_0 k4_1 q4_1 k4_2 q4_2
  have HB4:=Zh hb4
  clear hb4
  clear k3_0 q3_0 l3_0 k3_1 q3_1 l3_1 k3_2 q3_2 l3_2
  have HO4:Hid (OwnL (w.heap.size+1+1+1) w4 A3 n c3 b.cache):=Zh (by
   (refine OwnL.below ?_ HB4.out);(repeat(first|((with_reducible refine OwnL.set ?_ ?_ _);rotate_left;exact(by(try simp)<;>omega))|(with_reducible exact HO3.out))))
  go_wp2_with fail
  refine(Xph A3 n c3 b.cache ms vk vd vp 0 _ (by exact(OwnL.lines (OwnL.alloc HO4.out _))) HWF.out HDE.out HM.out).mono ?_
  rintro e w5 ⟨A5,c5,rfl,hl5,hb5,hn5⟩
  have hz5:=hb5.size
  (try simp only[Zs]at hz5)
  have k5_0_0:=(Xa9 hb5).1 (w.heap.size+1) 0 (by(try simp)<;>omega)
  have k5_0_1:=(Xa9 hb5).1 (w.heap.size+1) 1 (by(try simp)<;>omega)
  have k5_0_2:=(Xa9 hb5).1 (w.heap.size+1) 2 (by(try simp)<;>omega)
  have k5_0_3:=(Xa9 hb5).1 (w.heap.size+1) 3 (by(try simp)<;>omega)
  have k5_0_4:=(Xa9 hb5).1 (w.heap.size+1) 4 (by(try simp)<;>omega)
  have k5_0_5:=(Xa9 hb5).1 (w.heap.size+1) 5 (by(try simp)<;>omega)
  have k5_0_6:=(Xa9 hb5).1 (w.heap.size+1) 6 (by(try simp)<;>omega)
  have k5_0_7:=(Xa9 hb5).1 (w.heap.size+1) 7 (by(try simp)<;>omega)
  have k5_0_8:=(Xa9 hb5).1 (w.heap.size+1) 8 (by(try simp)<;>omega)
  have k5_0_9:=(Xa9 hb5).1 (w.heap.size+1) 9 (by(try simp)<;>omega)
  have k5_0_10:=(Xa9 hb5).1 (w.heap.size+1) 10 (by(try simp)<;>omega)
  have k5_0_11:=(Xa9 hb5).1 (w.heap.size+1) 11 (by(try simp)<;>omega)
  obtain⟨l5_0,q5_0⟩:=(aft hb5 (w.heap.size+1) (by(try simp)<;>omega)).2
  obtain⟨k5_1,l5_1,q5_1⟩:=aft hb5 (w.heap.size+1+1) (by(try simp)<;>omega)
  obtain⟨k5_2,l5_2,q5_2⟩:=aft hb5 (w2.heap.size) (by(try simp)<;>omega)
  obtain⟨k5_3,l5_3,q5_3⟩:=aft hb5 (w4.heap.size) (by(try simp)<;>omega)
  simp(maxDischargeDepth:=6) [go_sem, *]at k5_0_0 k5_0_1 k5_0_2 k5_0_3 k5_0_4 k5_0_5 k5_0_6 k5_0_7 k5_0_8 k5_0_9 k5_0_10 k5_0_11 q5_0 k5_1 q5_1 k5_2 q5_2 k5_3 q5_3
  have HB5:=Zh hb5
  clear hb5
  (try simp only[Zs]at hn5)
  have HL5:=Zh hl5
  have HN5:=Zh (show ∀ ad,A5=some ad→w.heap.size+1+1<ad.block from fun ad e=>by have:=hn5 ad e;omega)
  have u1:¬w.heap.size+1=w4.heap.size:=by omega
  have u2:¬w4.heap.size=w.heap.size+1:=by omega
  have u3:¬w.heap.size+1=w2.heap.size:=by omega
  have u4:¬w2.heap.size=w.heap.size+1:=by omega
  clear hl5 hn5 k4_0_0 k4_0_1 k4_0_2 k4_0_3 k4_0_4 k4_0_5 k4_0_6 k4_0_7 k4_0_8 k4_0_9 k4_0_10 k4_0_11 q4_0 l4_0 k4_1 q4_1 l4_1 k4_2 q4_2 l4_2
  go_wp2
  refine bodyPost_ret (v:=.tuple #[.agg (B_.b (obB b ms F) A5 ms.length c5),.int .i64 0]) ?_ rfl ⟨A5,ms.length,c5,rfl, ?_, ?_, ?_⟩
  ·simp(maxDischargeDepth:=8) [results,Tryz.results14,go_sem,obB,←HQ.out, *]
  ·refine Lines.more (B:=w5.heap.size) ?_ (by simp)
   show Lines _ _ _ _ _ ms
   (repeat(first|((with_reducible refine Xb5 ?_ ?_ _);rotate_left;exact(by intro ad e h;have:=HN5.out ad e;dsimp only at h;omega))|(with_reducible exact HL5.out)))
  ·(refine bl ?_;repeat' first|with_reducible(first|assumption|constructor)|((try simp)<;>omega))
  ·intro ad e;have:=HN5.out ad e;omega
end
end
section
theorem Xso {xs:List Int} {b:Brg} (h:rdoE (popV xs b.orders)≠0):Xga xs b={ b with stopped:=true }:=by unfold Xga;rw[if_neg h]
theorem Xqi {xs:List Int} {b:Brg} (h:rdoE (popV xs b.orders)=0):Xga xs b=obB b (Xfn b.cache (popV xs b.orders % 4) (popV xs b.orders / 4 % 8) (popV xs b.orders / 32)) (if popV xs b.orders % 4=0 then(b.fences+1) % 1000 else b.fences):=by
 unfold Xga;rw[if_pos h];rfl
theorem Xva (xs:List Int) (m:Option Addr) (nm cm':Nat) (b:Brg) (A:Option Addr) (n c:Nat) (rb:Brg) (E:Int) (w:World) (hx:Ints w w.heap.size m nm xs) (hl:Lines w w.heap.size A n c b.cache) (hr:Xep xs b=rb) (hE:Xe1 xs b=E) :
  Calls Tryz.prog 14 #[.agg #[.slice m nm cm'],.agg (B_.b b A n c)] w (Xon w rb E):=by
 subst hE
 subst hr
 by_cases hA:allE xs b=0
 ·obtain⟨h0,hb⟩:=Xhs hA
  have hn:nm=512:=by rw[←hx.len];exact(Xaz h0).1
  subst hn
  by_cases hs:b.stopped=true
  ·have e:Xe1 xs b=6:=by unfold Xe1;rw[if_pos hA,if_pos hs]
   have e2:Xep xs b=.no:=by unfold Xep;rw[if_neg (by rw[e];decide)]
   rw[e,e2]
   exact Xwk xs m 512 cm' b A n c w hx hl hA hs
  ·have hs':b.stopped=false:=by simpa using hs
   have e:Xe1 xs b=popE xs b.orders:=by unfold Xe1;rw[if_pos hA,if_neg hs]
   by_cases hp:popE xs b.orders=0
   ·have e2:Xep xs b=Xga xs b:=by unfold Xep;rw[if_pos (by rw[e];exact hp)]
    rw[e,hp,e2]
    by_cases hr:rdoE (popV xs b.orders)=0
    ·exact Xuh xs m cm' b A n c w hx hl h0 hb hs' hp _ rfl _ _ (Xga xs b) hr rfl rfl (Xqi hr)
    ·rw[Xso hr]
     exact Xwm xs m cm' b A n c w hx hl h0 hb hs' hp _ rfl hr
   ·have e2:Xep xs b=.no:=by unfold Xep;rw[if_neg (by rw[e];exact hp)]
    rw[e,e2]
    exact Xwj xs m 512 cm' b A n c w hx hl hA hs' hp
 ·have e:Xe1 xs b=allE xs b:=by unfold Xe1;rw[if_neg hA]
  have e2:Xep xs b=.no:=by unfold Xep;rw[if_neg (by rw[e];exact hA)]
  rw[e,e2]
  exact Xwl xs m nm cm' b A n c w hx hl hA
end
end Go.Proofs.YtbopdijnojaaiadGreat
