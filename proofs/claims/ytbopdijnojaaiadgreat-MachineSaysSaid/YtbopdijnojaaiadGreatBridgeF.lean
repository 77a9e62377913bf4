/- The bridge: the walk of the program's fresh. No statement of the seat is proved here. -/
import Derived.Test.YtbopdijnojaaiadGreatBridgeC
import Derived.Test.YtbopdijnojaaiadGreatWalkW
import Derived.Test.YtbopdijnojaaiadGreatEntryX
namespace Go.Proofs.YtbopdijnojaaiadGreat
set_option maxRecDepth 100000
set_option maxHeartbeats 4000000
open Go.RowKit
set_option linter.unusedSimpArgs false
set_option linter.unusedVariables false
def LineV (x:Line):Value:=.agg #[.int .i64 x.dev,.int .i64 x.page,.int .i64 x.at_,.bool x.rd,.bool x.wr]
theorem Xy5 (x:Int) (w:World) (h:cxK x=false):Calls Tryz.prog 102 #[.int .i64 x] w fun e w'=>e=.returned (.tuple #[.agg #[.bool false,.bool false,.int .i64 0],.bool false])∧Below w.heap.size w w':=
 (Xea x w).mono fun e w' ⟨he,hb⟩=>⟨by
  have hg:cxG x=false:=by
   cases h':cxG x with
   |false=>rfl
   |true=>rw[Xod h']at h;cases h
  rw[he,Xki,hg,h];simp[cxR,hg],hb⟩
theorem Xy4 (x:Int) (w:World) (h:cxK x=true) (hg:cxG x=false):Calls Tryz.prog 102 #[.int .i64 x] w fun e w'=>e=.returned (.tuple #[.agg #[.bool false,.bool false,.int .i64 0],.bool true])∧Below w.heap.size w w':=
 (Xea x w).mono fun e w' ⟨he,hb⟩=>⟨by rw[he,Xki,hg,h];simp[cxR,hg],hb⟩
theorem Xt5 (x:Int) (s:Bool) (r:Int) (w:World) (hg:cxG x=true) (hs:bitI x 1=s) (hr:cxR x=r):Calls Tryz.prog 102 #[.int .i64 x] w fun e w'=>e=.returned (.tuple #[.agg #[.bool true,.bool s,.int .i64 r],.bool true])∧Below w.heap.size w w':=
 (Xea x w).mono fun e w' ⟨he,hb⟩=>⟨by rw[he,Xki,hg,Xod hg,hs,hr];simp,hb⟩
theorem Xto (xs:List Int) (m:Option Addr) (cm':Nat) (b:Brg) (A:Option Addr) (n c:Nat) (d p:Int) (wr:Bool) (w:World) (hm:Ints w w.heap.size m 512 xs) (h0:cm xs=0) (hbase:0≤b.base∧b.base<64) (hin:inD d p) (x:Int) (hx:rd xs (b.base * 8+d)=x) (hK:cxK x=false) :
  Calls Tryz.prog 93 #[.agg #[.slice m 512 cm'],.agg (B_.b b A n c),.int .i64 d,.int .i64 p,.bool wr] w fun e w'=>e=.returned (.tuple #[.agg #[.int .i64 0,.int .i64 0,.int .i64 0,.bool false,.bool false],.bool false,.int .i64 2])∧Below w.heap.size w w':=by
 have HM:=Zh hm
 have H0:=Zh h0
 have HK:=Zh hK
 unfold inD at hin
 obtain⟨⟨d1,d2⟩,d3,d4⟩:=hin
 obtain⟨g1,g2⟩:=hbase
 obtain⟨mb,moff,rfl,hmb,hmc⟩:=hm.at_ (by omega)
 have hcx:=hmc _ _ (Xc7 (i:=b.base * 8+d) (Xaz h0).1 (by omega))
 rw[hx]at hcx
 have hb2:mb<w.heap.size+1:=by omega
 have hb3:mb<w.heap.size+1+1:=by omega
 clear hm h0 hmc hx hK
 go_enter Tryz.func93,Tryz.ntmps93
 go_wp2_with fail
 refine(Xy5 _ _ HK.out).mono ?_
 rintro e w1 ⟨rfl,hb1⟩
 have hz1:=hb1.size
 (try simp only[Zs]at hz1)
 obtain⟨k1_0,l1_0,q1_0⟩:=aft hb1 (w.heap.size) (by(try simp)<;>omega)
 obtain⟨k1_1,l1_1,q1_1⟩:=aft hb1 (w.heap.size+1+1) (by(try simp)<;>omega)
 simp(maxDischargeDepth:=6) [go_sem, *]at k1_0 q1_0 k1_1 q1_1
 have HB1:=Zh hb1
 clear hb1
 go_wp2
 refine bodyPost_ret (v:=.tuple #[.agg #[.int .i64 0,.int .i64 0,.int .i64 0,.bool false,.bool false],.bool false,.int .i64 2]) ?_ rfl ⟨rfl, ?_⟩
 ·simp(maxDischargeDepth:=8) [results,Tryz.results93,go_sem, *]
 ·(refine bl ?_;repeat' first|with_reducible(first|assumption|constructor)|((try simp)<;>omega))
theorem Xtn (xs:List Int) (m:Option Addr) (cm':Nat) (b:Brg) (A:Option Addr) (n c:Nat) (d p:Int) (wr:Bool) (w:World) (hm:Ints w w.heap.size m 512 xs) (h0:cm xs=0) (hbase:0≤b.base∧b.base<64) (hin:inD d p) (x:Int) (hx:rd xs (b.base * 8+d)=x) (hK:cxK x=true) (hG:cxG x=false) :
  Calls Tryz.prog 93 #[.agg #[.slice m 512 cm'],.agg (B_.b b A n c),.int .i64 d,.int .i64 p,.bool wr] w fun e w'=>e=.returned (.tuple #[.agg #[.int .i64 0,.int .i64 0,.int .i64 0,.bool false,.bool false],.bool false,.int .i64 2])∧Below w.heap.size w w':=by
 have HM:=Zh hm
 have H0:=Zh h0
 have HK:=Zh hK
 have HG:=Zh hG
 unfold inD at hin
 obtain⟨⟨d1,d2⟩,d3,d4⟩:=hin
 obtain⟨g1,g2⟩:=hbase
 obtain⟨mb,moff,rfl,hmb,hmc⟩:=hm.at_ (by omega)
 have hcx:=hmc _ _ (Xc7 (i:=b.base * 8+d) (Xaz h0).1 (by omega))
 rw[hx]at hcx
 have hb2:mb<w.heap.size+1:=by omega
 have hb3:mb<w.heap.size+1+1:=by omega
 clear hm h0 hmc hx hK hG
 go_enter Tryz.func93,Tryz.ntmps93
 go_wp2_with fail
 refine(Xy4 _ _ HK.out HG.out).mono ?_
 rintro e w1 ⟨rfl,hb1⟩
 have hz1:=hb1.size
 (try simp only[Zs]at hz1)
 obtain⟨k1_0,l1_0,q1_0⟩:=aft hb1 (w.heap.size) (by(try simp)<;>omega)
 obtain⟨k1_1,l1_1,q1_1⟩:=aft hb1 (w.heap.size+1+1) (by(try simp)<;>omega)
 simp(maxDischargeDepth:=6) [go_sem, *]at k1_0 q1_0 k1_1 q1_1
 have HB1:=Zh hb1
 clear hb1
 go_wp2
 refine bodyPost_ret (v:=.tuple #[.agg #[.int .i64 0,.int .i64 0,.int .i64 0,.bool false,.bool false],.bool false,.int .i64 2]) ?_ rfl ⟨rfl, ?_⟩
 ·simp(maxDischargeDepth:=8) [results,Tryz.results93,go_sem, *]
 ·(refine bl ?_;repeat' first|with_reducible(first|assumption|constructor)|((try simp)<;>omega))
theorem Xqv (xs:List Int) (m:Option Addr) (cm':Nat) (b:Brg) (A:Option Addr) (n c:Nat) (d p:Int) (wr:Bool) (w:World) (hm:Ints w w.heap.size m 512 xs) (h0:cm xs=0) (hbase:0≤b.base∧b.base<64) (hin:inD d p) (x:Int) (hx:rd xs (b.base * 8+d)=x) (r:Int) (hG:cxG x=true) (hs:bitI x 1=true) (hr:cxR x=r) :
  Calls Tryz.prog 93 #[.agg #[.slice m 512 cm'],.agg (B_.b b A n c),.int .i64 d,.int .i64 p,.bool wr] w fun e w'=>e=.returned (.tuple #[.agg #[.int .i64 d,.int .i64 p,.int .i64 p,.bool true,.bool true],.bool false,.int .i64 0])∧Below w.heap.size w w':=by
 have HM:=Zh hm
 have H0:=Zh h0
 have HG:=Zh hG
 have HS:=Zh hs
 have HR:=Zh hr
 unfold inD at hin
 obtain⟨⟨d1,d2⟩,d3,d4⟩:=hin
 obtain⟨g1,g2⟩:=hbase
 obtain⟨mb,moff,rfl,hmb,hmc⟩:=hm.at_ (by omega)
 have hcx:=hmc _ _ (Xc7 (i:=b.base * 8+d) (Xaz h0).1 (by omega))
 rw[hx]at hcx
 have hb2:mb<w.heap.size+1:=by omega
 have hb3:mb<w.heap.size+1+1:=by omega
 clear hm h0 hmc hx hG hs hr
 go_enter Tryz.func93,Tryz.ntmps93
 go_wp2_with fail
 refine(Xt5 _ _ _ _ HG.out HS.out HR.out).mono ?_
 rintro e w1 ⟨rfl,hb1⟩
 have hz1:=hb1.size
 (try simp only[Zs]at hz1)
 obtain⟨k1_0,l1_0,q1_0⟩:=aft hb1 (w.heap.size) (by(try simp)<;>omega)
 obtain⟨k1_1,l1_1,q1_1⟩:=aft hb1 (w.heap.size+1+1) (by(try simp)<;>omega)
 simp(maxDischargeDepth:=6) [go_sem, *]at k1_0 q1_0 k1_1 q1_1
 have HB1:=Zh hb1
 clear hb1
 go_wp2
 refine bodyPost_ret (v:=.tuple #[.agg #[.int .i64 d,.int .i64 p,.int .i64 p,.bool true,.bool true],.bool false,.int .i64 0]) ?_ rfl ⟨rfl, ?_⟩
 ·simp(maxDischargeDepth:=8) [results,Tryz.results93,go_sem, *]
 ·(refine bl ?_;repeat' first|with_reducible(first|assumption|constructor)|((try simp)<;>omega))
theorem Xn7 (xs:List Int) (m:Option Addr) (cm':Nat) (b:Brg) (A:Option Addr) (n c:Nat) (d p:Int) (wr:Bool) (w:World) (hm:Ints w w.heap.size m 512 xs) (h0:cm xs=0) (hbase:0≤b.base∧b.base<64) (hin:inD d p) (x:Int) (hx:rd xs (b.base * 8+d)=x) (r:Int) (hG:cxG x=true) (hs:bitI x 1=false) (hr:cxR x=r) (v r' u l:Bool) (q f:Int) (hq:Xhc xs r p wr=(⟨v,r',u,l,q⟩,f,0)) (hf:f≠0) :
  Calls Tryz.prog 93 #[.agg #[.slice m 512 cm'],.agg (B_.b b A n c),.int .i64 d,.int .i64 p,.bool wr] w fun e w'=>e=.returned (.tuple #[.agg #[.int .i64 0,.int .i64 0,.int .i64 0,.bool false,.bool false],.bool false,.int .i64 f])∧Below w.heap.size w w':=by
 have HM:=Zh hm
 have H0:=Zh h0
 have HG:=Zh hG
 have HS:=Zh hs
 have HR:=Zh hr
 have HQ:=Zh hq
 have tf:(f != 0)=true:=by rw[bne_iff_ne];exact hf
 unfold inD at hin
 obtain⟨⟨d1,d2⟩,d3,d4⟩:=hin
 obtain⟨g1,g2⟩:=hbase
 obtain⟨mb,moff,rfl,hmb,hmc⟩:=hm.at_ (by omega)
 have hcx:=hmc _ _ (Xc7 (i:=b.base * 8+d) (Xaz h0).1 (by omega))
 rw[hx]at hcx
 have hb2:mb<w.heap.size+1:=by omega
 have hb3:mb<w.heap.size+1+1:=by omega
 clear hm h0 hmc hx hG hs hr hq hf
 go_enter Tryz.func93,Tryz.ntmps93
 go_wp2_with fail
 refine(Xt5 _ _ _ _ HG.out HS.out HR.out).mono ?_
 rintro e w1 ⟨rfl,hb1⟩
 have hz1:=hb1.size
 (try simp only[Zs]at hz1)
 obtain⟨k1_0,l1_0,q1_0⟩:=aft hb1 (w.heap.size) (by(try simp)<;>omega)
 obtain⟨k1_1,l1_1,q1_1⟩:=aft hb1 (w.heap.size+1+1) (by(try simp)<;>omega)
 simp(maxDischargeDepth:=6) [go_sem, *]at k1_0 q1_0 k1_1 q1_1
 have HB1:=Zh hb1
 clear hb1
 have M1:=Zh (((HM.out.alloc (Nat.le_refl _) (.cells #[.slice (some ⟨mb,moff,none⟩) 512 cm'] 24) |>.alloc (by simp) (.cells (B_.b b A n c) 31) |>.alloc (by simp;omega) (.cells #[.int .i64 0,.int .i64 0,.int .i64 0,.bool false,.bool false] 58)).below (HB1.out.mono (by simp;omega))).more (B':=w1.heap.size) (by omega))
 go_wp2_with fail
 refine(Xrb _ _ _ xs _ _ _ _ _ _ _ _ _ _ _ ((M1.out.alloc (Nat.le_refl _) _).more (by simp)) HQ.out).mono ?_
 rintro e w2 ⟨rfl,hb2⟩
 have hz2:=hb2.size
 (try simp only[Zs]at hz2)
 obtain⟨k2_0,l2_0,q2_0⟩:=aft hb2 (w.heap.size+1+1) (by(try simp)<;>omega)
 obtain⟨k2_1,l2_1,q2_1⟩:=aft hb2 (w1.heap.size) (by(try simp)<;>omega)
 simp(maxDischargeDepth:=6) [go_sem, *]at k2_0 q2_0 k2_1 q2_1
 have HB2:=Zh hb2
 clear hb2
 go_wp2
 refine bodyPost_ret (v:=.tuple #[.agg #[.int .i64 0,.int .i64 0,.int .i64 0,.bool false,.bool false],.bool false,.int .i64 f]) ?_ rfl ⟨rfl, ?_⟩
 ·simp(maxDischargeDepth:=8) [results,Tryz.results93,go_sem, *]
 ·(refine bl ?_;repeat' first|with_reducible(first|assumption|constructor)|((try simp)<;>omega))
theorem Xqw (xs:List Int) (m:Option Addr) (cm':Nat) (b:Brg) (A:Option Addr) (n c:Nat) (d p:Int) (wr:Bool) (w:World) (hm:Ints w w.heap.size m 512 xs) (h0:cm xs=0) (hbase:0≤b.base∧b.base<64) (hin:inD d p) (x:Int) (hx:rd xs (b.base * 8+d)=x) (r:Int) (hG:cxG x=true) (hs:bitI x 1=false) (hr:cxR x=r) (v r' u l:Bool) (q f:Int) (hq:Xhc xs r p wr=(⟨v,r',u,l,q⟩,f,0)) (hf:f=0) :
  Calls Tryz.prog 93 #[.agg #[.slice m 512 cm'],.agg (B_.b b A n c),.int .i64 d,.int .i64 p,.bool wr] w fun e w'=>e=.returned (.tuple #[.agg #[.int .i64 d,.int .i64 p,.int .i64 q,.bool true,.bool u],.bool true,.int .i64 0])∧Below w.heap.size w w':=by
 have HM:=Zh hm
 have H0:=Zh h0
 have HG:=Zh hG
 have HS:=Zh hs
 have HR:=Zh hr
 subst hf
 have HQ:=Zh hq
 unfold inD at hin
 obtain⟨⟨d1,d2⟩,d3,d4⟩:=hin
 obtain⟨g1,g2⟩:=hbase
 obtain⟨mb,moff,rfl,hmb,hmc⟩:=hm.at_ (by omega)
 have hcx:=hmc _ _ (Xc7 (i:=b.base * 8+d) (Xaz h0).1 (by omega))
 rw[hx]at hcx
 have hb2:mb<w.heap.size+1:=by omega
 have hb3:mb<w.heap.size+1+1:=by omega
 clear hm h0 hmc hx hG hs hr hq
 go_enter Tryz.func93,Tryz.ntmps93
 go_wp2_with fail
 refine(Xt5 _ _ _ _ HG.out HS.out HR.out).mono ?_
 rintro e w1 ⟨rfl,hb1⟩
 have hz1:=hb1.size
 (try simp only[Zs]at hz1)
 obtain⟨k1_0,l1_0,q1_0⟩:=aft hb1 (w.heap.size) (by(try simp)<;>omega)
 obtain⟨k1_1,l1_1,q1_1⟩:=aft hb1 (w.heap.size+1+1) (by(try simp)<;>omega)
 simp(maxDischargeDepth:=6) [go_sem, *]at k1_0 q1_0 k1_1 q1_1
 have HB1:=Zh hb1
 clear hb1
 have M1:=Zh (((HM.out.alloc (Nat.le_refl _) (.cells #[.slice (some ⟨mb,moff,none⟩) 512 cm'] 24) |>.alloc (by simp) (.cells (B_.b b A n c) 31) |>.alloc (by simp;omega) (.cells #[.int .i64 0,.int .i64 0,.int .i64 0,.bool false,.bool false] 58)).below (HB1.out.mono (by simp;omega))).more (B':=w1.heap.size) (by omega))
 go_wp2_with fail
 refine(Xrb _ _ _ xs _ _ _ _ _ _ _ _ _ _ _ ((M1.out.alloc (Nat.le_refl _) _).more (by simp)) HQ.out).mono ?_
 rintro e w2 ⟨rfl,hb2⟩
 have hz2:=hb2.size
 (try simp only[Zs]at hz2)
 obtain⟨k2_0,l2_0,q2_0⟩:=aft hb2 (w.heap.size+1+1) (by(try simp)<;>omega)
 obtain⟨k2_1,l2_1,q2_1⟩:=aft hb2 (w1.heap.size) (by(try simp)<;>omega)
 simp(maxDischargeDepth:=6) [go_sem, *]at k2_0 q2_0 k2_1 q2_1
 have HB2:=Zh hb2
 clear hb2
 go_wp2
 refine bodyPost_ret (v:=.tuple #[.agg #[.int .i64 d,.int .i64 p,.int .i64 q,.bool true,.bool u],.bool true,.int .i64 0]) ?_ rfl ⟨rfl, ?_⟩
 ·simp(maxDischargeDepth:=8) [results,Tryz.results93,go_sem, *]
 ·(refine bl ?_;repeat' first|with_reducible(first|assumption|constructor)|((try simp)<;>omega))
theorem Xnh (xs:List Int) (m:Option Addr) (cm':Nat) (b:Brg) (A:Option Addr) (n c:Nat) (d p:Int) (wr:Bool) (w:World) (hm:Ints w w.heap.size m 512 xs) (h0:cm xs=0) (hbase:0≤b.base∧b.base<64) (hin:inD d p) :
  Calls Tryz.prog 93 #[.agg #[.slice m 512 cm'],.agg (B_.b b A n c),.int .i64 d,.int .i64 p,.bool wr] w fun e w'=>e=.returned (.tuple #[LineV (Xca xs b d p wr).1,.bool (Xca xs b d p wr).2.1,.int .i64 (Xca xs b d p wr).2.2])∧Below w.heap.size w w':=by
 by_cases hG:cxG (rd xs (b.base * 8+d))=true
 ·cases hs:bitI (rd xs (b.base * 8+d)) 1
  ·have hin':inP (cxR (rd xs (b.base * 8+d))) p:=by have:=Xw2 (rd xs (b.base * 8+d));unfold inP;unfold inD at hin;omega
   have ea:Xhc xs (cxR (rd xs (b.base * 8+d))) p wr=((Xck xs (cxR (rd xs (b.base * 8+d))) p wr).1,(Xck xs (cxR (rd xs (b.base * 8+d))) p wr).2,0):=by unfold Xhc;rw[if_pos h0,if_pos hin']
   have ef:Xca xs b d p wr=if(Xck xs (cxR (rd xs (b.base * 8+d))) p wr).2=0 then(⟨d,p,(Xck xs (cxR (rd xs (b.base * 8+d))) p wr).1.p,true,(Xck xs (cxR (rd xs (b.base * 8+d))) p wr).1.u⟩,true,0)else(.no,false,(Xck xs (cxR (rd xs (b.base * 8+d))) p wr).2):=by
    unfold Xca;simp only[hG,hs,if_true];rfl
   generalize Xck xs (cxR (rd xs (b.base * 8+d))) p wr=q at *
   obtain⟨⟨v,r,u,l,pp⟩,f⟩:=q
   dsimp only at ea ef
   by_cases hf:f=0
   ·rw[ef,if_pos hf]
    exact Xqw xs m cm' b A n c d p wr w hm h0 hbase hin _ rfl _ hG hs rfl v r u l pp f ea hf
   ·rw[ef,if_neg hf]
    exact Xn7 xs m cm' b A n c d p wr w hm h0 hbase hin _ rfl _ hG hs rfl v r u l pp f ea hf
  ·have ef:Xca xs b d p wr=(⟨d,p,p,true,true⟩,false,0):=by unfold Xca;simp only[hG,hs,if_true]
   rw[ef]
   exact Xqv xs m cm' b A n c d p wr w hm h0 hbase hin _ rfl _ hG hs rfl
 ·have ef:Xca xs b d p wr=(.no,false,2):=by unfold Xca;simp only[hG];rfl
  rw[ef]
  by_cases hK:cxK (rd xs (b.base * 8+d))=true
  ·exact Xtn xs m cm' b A n c d p wr w hm h0 hbase hin _ rfl hK (by simpa using hG)
  ·exact Xto xs m cm' b A n c d p wr w hm h0 hbase hin _ rfl (by simpa using hK)
end Go.Proofs.YtbopdijnojaaiadGreat
