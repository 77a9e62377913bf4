/- The hart: the walk of the program's Step where it is refused. No statement of the seat is proved here. -/
import Derived.Test.YtbopdijnojaaiadGreatHart5
import Derived.BigRegion
import Derived.BigQuiet
import Derived.StillTailTactics
import Derived.Test.YtbopdijnojaaiadGreatHart1
namespace Go.Proofs.YtbopdijnojaaiadGreat
set_option maxRecDepth 100000
set_option maxHeartbeats 4000000
open Go.RowKit
set_option linter.unusedSimpArgs false
set_option linter.unusedVariables false
section
section
variable {w:World} {gm gh gb:Nat} {M:Option Addr} {mc:Nat} {R:Option Addr} {rc:Nat} {L:Option Addr} {n c:Nat} {xs:List Int} {h:Hrt} {b:Brg} {gM gR:Nat}
theorem Xdr {w w' w1:World} {gm gh gb:Nat} {M R L:Option Addr} {mc rc n c:Nat} {r:List Int×Hrt×Brg×Bool} {e:Ending} (hd:Xeh w gm gh gb M mc R rc L n c r e w') (lM:∀ ad,M=some ad→ad.block<w.heap.size) (lR:∀ ad,R=some ad→ad.block<w.heap.size) (lh:gh<w.heap.size) (lb:gb<w.heap.size) (hs:Xan w' w1):Xeh w gm gh gb M mc R rc L n c r e w1:=by
 obtain⟨h1,h2,g,hg,ho⟩:=hd
 refine⟨h1,h2.since hs,g,hg,Xdy ho ?_ hs⟩
 rcases hg with hg|hg|hg|hg
 ·exact lM _ hg
 ·exact lR _ hg
 ·rw[hg];exact lh
 ·rw[hg];exact lb
theorem Xv5 {w w' w1:World} {gm gh gb:Nat} {M R L:Option Addr} {mc rc n c:Nat} {xs:List Int} {h:Hrt} {b b':Brg} (hC:Crd w gm gh gb M mc R rc L n c xs h b) (hS:Sep gm gh gb M R L) (hs:Xan w w1) (ho:Only gb w1 w') (h1:Xbj w' gb b' L n c) (h2:Lines w' w'.heap.size L n c b'.cache) (ok:Bool) :
  Xeh w gm gh gb M mc R rc L n c (xs,h,b',ok) (.returned (.bool ok)) w':=
 ⟨rfl,(hC.since hs).brg hS ho h1 h2,gb,Or.inr (Or.inr (Or.inr rfl)),⟨Below.trans (Below.mono hs (Nat.le_of_lt (Xb9 hC.b0))) ho.1,Nat.le_trans hs.size ho.2.1,fun q j hq hl=>(ho.2.2.1 q j hq (Nat.lt_of_lt_of_le hl hs.size)).trans (Below.cell (p:=⟨q,j,none⟩) hs hl),fun q j hl=>(ho.2.2.2 q j (Nat.lt_of_lt_of_le hl hs.size)).trans (Below.frozen (p:=⟨q,j,none⟩) hs hl)⟩⟩
theorem shl_lo {u i:Int} (hu:0≤u∧u≤65535) (hi:0≤i∧i≤16):wrap64 (u * 2 ^ i.toNat)=u * 2 ^ i.toNat∧(u * 2 ^ i.toNat).tmod 65536=shM u i:=by
 have e:min i 16=i:=by omega
 unfold shM
 rw[e]
 have hm:i.toNat≤16:=by omega
 have h1:(2:Int) ^ i.toNat≤2 ^ 16:=by
  have:=Nat.pow_le_pow_right (n:=2) (by decide) hm
  exact_mod_cast this
 have h0:(0:Int)≤2 ^ i.toNat:=Int.pow_nonneg (by decide)
 generalize (2:Int) ^ i.toNat=p at *
 have h2:0≤u * p:=Int.mul_nonneg hu.1 h0
 have h3:u * p≤65535 * 65536:=Int.le_trans (Int.mul_le_mul_of_nonneg_right hu.2 h0) (Int.mul_le_mul_of_nonneg_left (by omega) (by decide))
 exact⟨IntWalk.wrap64_in (u * p) (by omega),Int.tmod_eq_emod_of_nonneg h2⟩
theorem shl_hi {u i:Int} (hi:16<i):shM u i=0:=by
 have e:min i 16=16:=by omega
 unfold shM
 rw[e]
 show u * 65536 % 65536=0
 omega
theorem does_0 (hP:Xjx w gm gh gb M mc R rc L n c xs h b gM gR) (a d i:Int) (ha:0≤a∧a<8) (hd:0≤d∧d<8) (hi:0≤i∧i≤63) :
  Calls Tryz.prog 44 #[.pointer (some ⟨gm,0,none⟩),.pointer (some ⟨gh,0,none⟩),.pointer (some ⟨gb,0,none⟩),insV 0 a d i] w (Xeh w gm gh gb M mc R rc L n c (Xcb xs h b 0 a d i)):=by
 obtain⟨crd,sep,⟨B1,om⟩,⟨B2,or⟩,rfl,rfl,cM,cR,fM,fR,fh,fb,lM,lR,ck,hcm⟩:=hP
 have HC:=Zh crd
 have HS:=Zh (Xal w)
 have h1:=crd.h1
 have lh:gh<w.heap.size:=Xbm h1
 have lb:=Xb9 crd.b0
 have lm:gm<w.heap.size:=Xbm crd.m0
 have hx:=cR _ _ (Xc2 (Xap ck).1 ha.1 ha.2)
 have hy:=cR _ _ (Xc2 (Xap ck).1 hd.1 hd.2)
 have b1:=Xd8 (k:=a) (Xap ck).2.2
 have b2:=Xd8 (k:=d) (Xap ck).2.2
 have HT:=Zh (fun(r:List Int×Hrt×Brg×Bool) (e:Ending) (w' w1:World) (hd:Xeh w gm gh gb (some ⟨gM,0,none⟩) mc (some ⟨gR,0,none⟩) rc L n c r e w') (hs:Xan w' w1)=>Xdr (w:=w) (w':=w') (w1:=w1) (r:=r) (e:=e) hd (fun ad (e:some ⟨gM,0,none⟩=some ad)=>by injection e with e;subst e;exact lM) (fun ad (e:some ⟨gR,0,none⟩=some ad)=>by injection e with e;subst e;exact lR) lh lb hs)
 rw[show Xcb xs h b 0 a d i=(xs,h,b,false)from rfl]
 have HD:=Zh (fun(w':World) (hs:Xan w w')=>Xhq crd hs false)
 obtain⟨a1,a2⟩:=ha
 obtain⟨d1,d2⟩:=hd
 obtain⟨i1,i2⟩:=hi
 clear crd sep om or cM cR ck hcm
 unfold insV
 go_enter Tryz.func44,Tryz.ntmps44
 go_wp2
 go_ret
 first|exact HD.out _ (Xae HS.out _)|exact HT.out _ _ _ _ (HD.out _ HS.out) (Xar (Xae (Xal _) _))|exact HT.out _ _ _ _ (HD.out _ HS.out) (Xae (Xal _) _)
theorem does_1 (hP:Xjx w gm gh gb M mc R rc L n c xs h b gM gR) (a d i:Int) (ha:0≤a∧a<8) (hd:0≤d∧d<8) (hi:0≤i∧i≤63) :
  Calls Tryz.prog 44 #[.pointer (some ⟨gm,0,none⟩),.pointer (some ⟨gh,0,none⟩),.pointer (some ⟨gb,0,none⟩),insV 1 a d i] w (Xeh w gm gh gb M mc R rc L n c (Xcb xs h b 1 a d i)):=by
 obtain⟨crd,sep,⟨B1,om⟩,⟨B2,or⟩,rfl,rfl,cM,cR,fM,fR,fh,fb,lM,lR,ck,hcm⟩:=hP
 have HC:=Zh crd
 have HS:=Zh (Xal w)
 have h1:=crd.h1
 have lh:gh<w.heap.size:=Xbm h1
 have lb:=Xb9 crd.b0
 have lm:gm<w.heap.size:=Xbm crd.m0
 have hx:=cR _ _ (Xc2 (Xap ck).1 ha.1 ha.2)
 have hy:=cR _ _ (Xc2 (Xap ck).1 hd.1 hd.2)
 have b1:=Xd8 (k:=a) (Xap ck).2.2
 have b2:=Xd8 (k:=d) (Xap ck).2.2
 have HT:=Zh (fun(r:List Int×Hrt×Brg×Bool) (e:Ending) (w' w1:World) (hd:Xeh w gm gh gb (some ⟨gM,0,none⟩) mc (some ⟨gR,0,none⟩) rc L n c r e w') (hs:Xan w' w1)=>Xdr (w:=w) (w':=w') (w1:=w1) (r:=r) (e:=e) hd (fun ad (e:some ⟨gM,0,none⟩=some ad)=>by injection e with e;subst e;exact lM) (fun ad (e:some ⟨gR,0,none⟩=some ad)=>by injection e with e;subst e;exact lR) lh lb hs)
 rw[show Xcb xs h b 1 a d i=(xs,h.setR a i,b,true)from rfl]
 have HD:=Zh (fun(w':World) (hs:Xan w w')=>Xgo crd sep or rfl lR hs (v:=i) ha.1 ha.2)
 obtain⟨a1,a2⟩:=ha
 obtain⟨d1,d2⟩:=hd
 obtain⟨i1,i2⟩:=hi
 clear crd sep om or cM cR ck hcm
 unfold insV
 go_enter Tryz.func44,Tryz.ntmps44
 go_wp2
 go_ret
 first|exact HD.out _ (Xae HS.out _)|exact HT.out _ _ _ _ (HD.out _ HS.out) (Xar (Xae (Xal _) _))|exact HT.out _ _ _ _ (HD.out _ HS.out) (Xae (Xal _) _)
theorem does_2 (hP:Xjx w gm gh gb M mc R rc L n c xs h b gM gR) (a d i:Int) (ha:0≤a∧a<8) (hd:0≤d∧d<8) (hi:0≤i∧i≤63) :
  Calls Tryz.prog 44 #[.pointer (some ⟨gm,0,none⟩),.pointer (some ⟨gh,0,none⟩),.pointer (some ⟨gb,0,none⟩),insV 2 a d i] w (Xeh w gm gh gb M mc R rc L n c (Xcb xs h b 2 a d i)):=by
 obtain⟨crd,sep,⟨B1,om⟩,⟨B2,or⟩,rfl,rfl,cM,cR,fM,fR,fh,fb,lM,lR,ck,hcm⟩:=hP
 have HC:=Zh crd
 have HS:=Zh (Xal w)
 have h1:=crd.h1
 have lh:gh<w.heap.size:=Xbm h1
 have lb:=Xb9 crd.b0
 have lm:gm<w.heap.size:=Xbm crd.m0
 have hx:=cR _ _ (Xc2 (Xap ck).1 ha.1 ha.2)
 have hy:=cR _ _ (Xc2 (Xap ck).1 hd.1 hd.2)
 have b1:=Xd8 (k:=a) (Xap ck).2.2
 have b2:=Xd8 (k:=d) (Xap ck).2.2
 have HT:=Zh (fun(r:List Int×Hrt×Brg×Bool) (e:Ending) (w' w1:World) (hd:Xeh w gm gh gb (some ⟨gM,0,none⟩) mc (some ⟨gR,0,none⟩) rc L n c r e w') (hs:Xan w' w1)=>Xdr (w:=w) (w':=w') (w1:=w1) (r:=r) (e:=e) hd (fun ad (e:some ⟨gM,0,none⟩=some ad)=>by injection e with e;subst e;exact lM) (fun ad (e:some ⟨gR,0,none⟩=some ad)=>by injection e with e;subst e;exact lR) lh lb hs)
 rw[show Xcb xs h b 2 a d i=(xs,h.setR a ((rd h.regs a+rd h.regs d) % 65536),b,true)from rfl]
 have HD:=Zh (fun(w':World) (hs:Xan w w')=>Xgo crd sep or rfl lR hs (v:=(rd h.regs a+rd h.regs d) % 65536) ha.1 ha.2)
 obtain⟨a1,a2⟩:=ha
 obtain⟨d1,d2⟩:=hd
 obtain⟨i1,i2⟩:=hi
 generalize rd h.regs a=u at *
 generalize rd h.regs d=v at *
 have e1:IntKind.i64.wrap (u+v)=u+v:=IntWalk.i64_in _ (by omega)
 have e2:(u+v).tmod 65536=(u+v) % 65536:=Int.tmod_eq_emod_of_nonneg (by omega)
 clear crd sep om or cM cR ck hcm
 unfold insV
 go_enter Tryz.func44,Tryz.ntmps44
 go_upto_region 6 with(fail)
 go_region
 go_wp2
 go_ret
 first|exact HD.out _ (Xae HS.out _)|exact HT.out _ _ _ _ (HD.out _ HS.out) (Xar (Xae (Xal _) _))|exact HT.out _ _ _ _ (HD.out _ HS.out) (Xae (Xal _) _)
theorem does_3 (hP:Xjx w gm gh gb M mc R rc L n c xs h b gM gR) (a d i:Int) (ha:0≤a∧a<8) (hd:0≤d∧d<8) (hi:0≤i∧i≤63) :
  Calls Tryz.prog 44 #[.pointer (some ⟨gm,0,none⟩),.pointer (some ⟨gh,0,none⟩),.pointer (some ⟨gb,0,none⟩),insV 3 a d i] w (Xeh w gm gh gb M mc R rc L n c (Xcb xs h b 3 a d i)):=by
 obtain⟨crd,sep,⟨B1,om⟩,⟨B2,or⟩,rfl,rfl,cM,cR,fM,fR,fh,fb,lM,lR,ck,hcm⟩:=hP
 have HC:=Zh crd
 have HS:=Zh (Xal w)
 have h1:=crd.h1
 have lh:gh<w.heap.size:=Xbm h1
 have lb:=Xb9 crd.b0
 have lm:gm<w.heap.size:=Xbm crd.m0
 have hx:=cR _ _ (Xc2 (Xap ck).1 ha.1 ha.2)
 have hy:=cR _ _ (Xc2 (Xap ck).1 hd.1 hd.2)
 have b1:=Xd8 (k:=a) (Xap ck).2.2
 have b2:=Xd8 (k:=d) (Xap ck).2.2
 have HT:=Zh (fun(r:List Int×Hrt×Brg×Bool) (e:Ending) (w' w1:World) (hd:Xeh w gm gh gb (some ⟨gM,0,none⟩) mc (some ⟨gR,0,none⟩) rc L n c r e w') (hs:Xan w' w1)=>Xdr (w:=w) (w':=w') (w1:=w1) (r:=r) (e:=e) hd (fun ad (e:some ⟨gM,0,none⟩=some ad)=>by injection e with e;subst e;exact lM) (fun ad (e:some ⟨gR,0,none⟩=some ad)=>by injection e with e;subst e;exact lR) lh lb hs)
 rw[show Xcb xs h b 3 a d i=(xs,h.setR a (shM (rd h.regs a) i),b,true)from rfl]
 by_cases hq:i≤16
 ·have HD:=Zh (fun(w':World) (hs:Xan w w')=>Xgo crd sep or rfl lR hs (v:=shM (rd h.regs a) i) ha.1 ha.2)
  have HE:=Zh (shl_lo b1 ⟨hi.1,hq⟩)
  obtain⟨a1,a2⟩:=ha
  obtain⟨d1,d2⟩:=hd
  obtain⟨i1,i2⟩:=hi
  generalize rd h.regs a=u at *
  clear crd sep om or cM cR ck hcm
  unfold insV
  go_enter Tryz.func44,Tryz.ntmps44
  go_upto_region 8 with(fail)
  go_region
  go_wp2
  go_ret
  rw[HE.out.1,HE.out.2]
  first|exact HD.out _ (Xae HS.out _)|exact HT.out _ _ _ _ (HD.out _ HS.out) (Xar (Xae (Xal _) _))|exact HT.out _ _ _ _ (HD.out _ HS.out) (Xae (Xal _) _)
 ·rw[shl_hi (Int.not_le.1 hq)]
  have HD:=Zh (fun(w':World) (hs:Xan w w')=>Xgo crd sep or rfl lR hs (v:=0) ha.1 ha.2)
  obtain⟨a1,a2⟩:=ha
  obtain⟨d1,d2⟩:=hd
  obtain⟨i1,i2⟩:=hi
  generalize rd h.regs a=u at *
  have hq2:16<i:=Int.not_le.1 hq
  clear hq crd sep om or cM cR ck hcm
  unfold insV
  go_enter Tryz.func44,Tryz.ntmps44
  go_upto_region 8 with(fail)
  go_region
  go_wp2
  go_ret
  first|exact HD.out _ (Xae HS.out _)|exact HT.out _ _ _ _ (HD.out _ HS.out) (Xar (Xae (Xal _) _))|exact HT.out _ _ _ _ (HD.out _ HS.out) (Xae (Xal _) _)
theorem Xci {w0 W:World} (h:Xan w0 W) (q:Nat):Xan w0 (W.drewN q):=Xbs h q
theorem does_4 (hP:Xjx w gm gh gb M mc R rc L n c xs h b gM gR) (a d i:Int) (ha:0≤a∧a<8) (hd:0≤d∧d<8) (hi:0≤i∧i≤63) :
  Calls Tryz.prog 44 #[.pointer (some ⟨gm,0,none⟩),.pointer (some ⟨gh,0,none⟩),.pointer (some ⟨gb,0,none⟩),insV 4 a d i] w (Xeh w gm gh gb M mc R rc L n c (Xcb xs h b 4 a d i)):=by
 obtain⟨crd,sep,⟨B1,om⟩,⟨B2,or⟩,rfl,rfl,cM,cR,fM,fR,fh,fb,lM,lR,ck,hcm⟩:=hP
 have HC:=Zh crd
 have HS:=Zh (Xal w)
 have h1:=crd.h1
 have lh:gh<w.heap.size:=Xbm h1
 have lb:=Xb9 crd.b0
 have lm:gm<w.heap.size:=Xbm crd.m0
 have hx:=cR _ _ (Xc2 (Xap ck).1 ha.1 ha.2)
 have hy:=cR _ _ (Xc2 (Xap ck).1 hd.1 hd.2)
 have b1:=Xd8 (k:=a) (Xap ck).2.2
 have b2:=Xd8 (k:=d) (Xap ck).2.2
 have HT:=Zh (fun(r:List Int×Hrt×Brg×Bool) (e:Ending) (w' w1:World) (hd:Xeh w gm gh gb (some ⟨gM,0,none⟩) mc (some ⟨gR,0,none⟩) rc L n c r e w') (hs:Xan w' w1)=>Xdr (w:=w) (w':=w') (w1:=w1) (r:=r) (e:=e) hd (fun ad (e:some ⟨gM,0,none⟩=some ad)=>by injection e with e;subst e;exact lM) (fun ad (e:some ⟨gR,0,none⟩=some ad)=>by injection e with e;subst e;exact lR) lh lb hs)
 have m0:=crd.m0
 by_cases hq:rd h.regs d+i<512
 ·rw[show Xcb xs h b 4 a d i=(xs,h.setR a (rd xs (rd h.regs d+i)),b,true) by unfold Xcb;rw[if_neg (by decide),if_neg (by decide),if_neg (by decide),if_pos rfl,if_pos hq]]
  have HD:=Zh (fun(w':World) (hs:Xan w w')=>Xgo crd sep or rfl lR hs (v:=rd xs (rd h.regs d+i)) ha.1 ha.2)
  have hz:=cM _ _ (Xc2 (k:=rd h.regs d+i) (Xaz hcm).1 (by omega) hq)
  obtain⟨a1,a2⟩:=ha
  obtain⟨d1,d2⟩:=hd
  obtain⟨i1,i2⟩:=hi
  generalize rd xs (rd h.regs d+i)=z at *
  generalize rd h.regs a=u at *
  generalize rd h.regs d=v at *
  have e1:IntKind.i64.wrap (v+i)=v+i:=IntWalk.i64_in _ (by omega)
  have e2:0≤v+i:=by omega
  clear crd sep om or cM cR ck hcm
  unfold insV
  go_enter Tryz.func44,Tryz.ntmps44
  go_upto_region 11 with(fail)
  go_quiet (fail)
  go_upto_region 15 with(fail)
  go_region
  go_wp2
  go_ret
  first | exact HD.out _ (Xci (Xae HS.out _) _) | exact HT.out _ _ _ _ (HD.out _ HS.out) (Xar (Xci (Xae (Xal _) _) _)) | exact HT.out _ _ _ _ (HD.out _ HS.out) (Xci (Xar (Xae (Xal _) _)) _) | exact HT.out _ _ _ _ (HD.out _ (Xci HS.out _)) (Xar (Xae (Xal _) _)) | (trace_state; fail "w45")
 ·rw[show Xcb xs h b 4 a d i=(xs,h,b,false) by unfold Xcb;rw[if_neg (by decide),if_neg (by decide),if_neg (by decide),if_pos rfl,if_neg hq]]
  have HD:=Zh (fun(w':World) (hs:Xan w w')=>Xhq crd hs false)
  obtain⟨a1,a2⟩:=ha
  obtain⟨d1,d2⟩:=hd
  obtain⟨i1,i2⟩:=hi
  generalize rd h.regs a=u at *
  generalize rd h.regs d=v at *
  have e1:IntKind.i64.wrap (v+i)=v+i:=IntWalk.i64_in _ (by omega)
  clear crd sep om or cM cR ck hcm
  unfold insV
  go_enter Tryz.func44,Tryz.ntmps44
  go_upto_region 11 with(fail)
  go_quiet (fail)
  go_wp2
  go_ret
  first | exact HD.out _ (Xci (Xae HS.out _) _) | (trace_state; fail "w45")
theorem does_5 (hP:Xjx w gm gh gb M mc R rc L n c xs h b gM gR) (a d i:Int) (ha:0≤a∧a<8) (hd:0≤d∧d<8) (hi:0≤i∧i≤63) :
  Calls Tryz.prog 44 #[.pointer (some ⟨gm,0,none⟩),.pointer (some ⟨gh,0,none⟩),.pointer (some ⟨gb,0,none⟩),insV 5 a d i] w (Xeh w gm gh gb M mc R rc L n c (Xcb xs h b 5 a d i)):=by
 obtain⟨crd,sep,⟨B1,om⟩,⟨B2,or⟩,rfl,rfl,cM,cR,fM,fR,fh,fb,lM,lR,ck,hcm⟩:=hP
 have HC:=Zh crd
 have HS:=Zh (Xal w)
 have h1:=crd.h1
 have lh:gh<w.heap.size:=Xbm h1
 have lb:=Xb9 crd.b0
 have lm:gm<w.heap.size:=Xbm crd.m0
 have hx:=cR _ _ (Xc2 (Xap ck).1 ha.1 ha.2)
 have hy:=cR _ _ (Xc2 (Xap ck).1 hd.1 hd.2)
 have b1:=Xd8 (k:=a) (Xap ck).2.2
 have b2:=Xd8 (k:=d) (Xap ck).2.2
 have HT:=Zh (fun(r:List Int×Hrt×Brg×Bool) (e:Ending) (w' w1:World) (hd:Xeh w gm gh gb (some ⟨gM,0,none⟩) mc (some ⟨gR,0,none⟩) rc L n c r e w') (hs:Xan w' w1)=>Xdr (w:=w) (w':=w') (w1:=w1) (r:=r) (e:=e) hd (fun ad (e:some ⟨gM,0,none⟩=some ad)=>by injection e with e;subst e;exact lM) (fun ad (e:some ⟨gR,0,none⟩=some ad)=>by injection e with e;subst e;exact lR) lh lb hs)
 have m0:=crd.m0
 by_cases hq:rd h.regs d+i<512
 ·rw[show Xcb xs h b 5 a d i=(xs.set (rd h.regs d+i).toNat (rd h.regs a),h,b,true) by unfold Xcb;rw[if_neg (by decide),if_neg (by decide),if_neg (by decide),if_neg (by decide),if_pos rfl,if_pos hq]]
  have HD:=Zh (fun(w':World) (hs:Xan w w')=>Xv4 crd sep om rfl lM hs (a:=rd h.regs d+i) (v:=rd h.regs a) (by omega) hq)
  have hz:=cM _ _ (Xc2 (k:=rd h.regs d+i) (Xaz hcm).1 (by omega) hq)
  obtain⟨a1,a2⟩:=ha
  obtain⟨d1,d2⟩:=hd
  obtain⟨i1,i2⟩:=hi
  generalize rd xs (rd h.regs d+i)=z at *
  generalize rd h.regs a=u at *
  generalize rd h.regs d=v at *
  have e1:IntKind.i64.wrap (v+i)=v+i:=IntWalk.i64_in _ (by omega)
  have e2:0≤v+i:=by omega
  clear crd sep om or cM cR ck hcm
  unfold insV
  go_enter Tryz.func44,Tryz.ntmps44
  go_upto_region 11 with(fail)
  go_quiet (fail)
  go_upto_region 16 with(fail)
  go_region
  go_wp2
  go_ret
  first | exact HD.out _ (Xci (Xae HS.out _) _) | exact HT.out _ _ _ _ (HD.out _ HS.out) (Xar (Xci (Xae (Xal _) _) _)) | exact HT.out _ _ _ _ (HD.out _ HS.out) (Xci (Xar (Xae (Xal _) _)) _) | exact HT.out _ _ _ _ (HD.out _ (Xci HS.out _)) (Xar (Xae (Xal _) _)) | (trace_state; fail "w45")
 ·rw[show Xcb xs h b 5 a d i=(xs,h,b,false) by unfold Xcb;rw[if_neg (by decide),if_neg (by decide),if_neg (by decide),if_neg (by decide),if_pos rfl,if_neg hq]]
  have HD:=Zh (fun(w':World) (hs:Xan w w')=>Xhq crd hs false)
  obtain⟨a1,a2⟩:=ha
  obtain⟨d1,d2⟩:=hd
  obtain⟨i1,i2⟩:=hi
  generalize rd h.regs a=u at *
  generalize rd h.regs d=v at *
  have e1:IntKind.i64.wrap (v+i)=v+i:=IntWalk.i64_in _ (by omega)
  clear crd sep om or cM cR ck hcm
  unfold insV
  go_enter Tryz.func44,Tryz.ntmps44
  go_upto_region 11 with(fail)
  go_quiet (fail)
  go_wp2
  go_ret
  first | exact HD.out _ (Xci (Xae HS.out _) _) | (trace_state; fail "w45")
theorem does_6 (hP:Xjx w gm gh gb M mc R rc L n c xs h b gM gR) (a d i:Int) (ha:0≤a∧a<8) (hd:0≤d∧d<8) (hi:0≤i∧i≤63) :
  Calls Tryz.prog 44 #[.pointer (some ⟨gm,0,none⟩),.pointer (some ⟨gh,0,none⟩),.pointer (some ⟨gb,0,none⟩),insV 6 a d i] w (Xeh w gm gh gb M mc R rc L n c (Xcb xs h b 6 a d i)):=by
 obtain⟨crd,sep,⟨B1,om⟩,⟨B2,or⟩,rfl,rfl,cM,cR,fM,fR,fh,fb,lM,lR,ck,hcm⟩:=hP
 have HC:=Zh crd
 have HS:=Zh (Xal w)
 have h1:=crd.h1
 have lh:gh<w.heap.size:=Xbm h1
 have lb:=Xb9 crd.b0
 have lm:gm<w.heap.size:=Xbm crd.m0
 have hx:=cR _ _ (Xc2 (Xap ck).1 ha.1 ha.2)
 have hy:=cR _ _ (Xc2 (Xap ck).1 hd.1 hd.2)
 have b1:=Xd8 (k:=a) (Xap ck).2.2
 have b2:=Xd8 (k:=d) (Xap ck).2.2
 have HT:=Zh (fun(r:List Int×Hrt×Brg×Bool) (e:Ending) (w' w1:World) (hd:Xeh w gm gh gb (some ⟨gM,0,none⟩) mc (some ⟨gR,0,none⟩) rc L n c r e w') (hs:Xan w' w1)=>Xdr (w:=w) (w':=w') (w1:=w1) (r:=r) (e:=e) hd (fun ad (e:some ⟨gM,0,none⟩=some ad)=>by injection e with e;subst e;exact lM) (fun ad (e:some ⟨gR,0,none⟩=some ad)=>by injection e with e;subst e;exact lR) lh lb hs)
 have h0:=crd.h0
 by_cases hq:rd h.regs a=rd h.regs d
 ·rw[show Xcb xs h b 6 a d i=(xs,{ h with at_:=i },b,true) by unfold Xcb;rw[if_neg (by decide),if_neg (by decide),if_neg (by decide),if_neg (by decide),if_neg (by decide),if_pos rfl,if_pos hq]]
  have HD:=Zh (fun(w':World) (hs:Xan w w')=>Xyu crd sep hs i)
  have hqe:(rd h.regs a==rd h.regs d)=true:=by rw[beq_iff_eq];exact hq
  clear hq
  obtain⟨a1,a2⟩:=ha
  obtain⟨d1,d2⟩:=hd
  obtain⟨i1,i2⟩:=hi
  generalize rd h.regs a=u at *
  generalize rd h.regs d=v at *
  clear crd sep om or cM cR ck hcm
  unfold insV
  go_enter Tryz.func44,Tryz.ntmps44
  go_upto_region 18 with(fail)
  go_quiet (fail)
  go_wp2
  go_ret
  first | exact HD.out _ (Xci (Xae HS.out _) _) | exact HT.out _ _ _ _ (HD.out _ HS.out) (Xci (Xae (Xal _) _) _) | (trace_state; fail "w6")
 ·rw[show Xcb xs h b 6 a d i=(xs,h,b,true) by unfold Xcb;rw[if_neg (by decide),if_neg (by decide),if_neg (by decide),if_neg (by decide),if_neg (by decide),if_pos rfl,if_neg hq]]
  have HD:=Zh (fun(w':World) (hs:Xan w w')=>Xhq crd hs true)
  have hqe:(rd h.regs a==rd h.regs d)=false:=by rw[beq_eq_false_iff_ne];exact hq
  clear hq
  obtain⟨a1,a2⟩:=ha
  obtain⟨d1,d2⟩:=hd
  obtain⟨i1,i2⟩:=hi
  generalize rd h.regs a=u at *
  generalize rd h.regs d=v at *
  clear crd sep om or cM cR ck hcm
  unfold insV
  go_enter Tryz.func44,Tryz.ntmps44
  go_upto_region 18 with(fail)
  go_quiet (fail)
  go_wp2
  go_ret
  first | exact HD.out _ (Xci (Xae HS.out _) _) | (trace_state; fail "w6")
theorem does_7 (hP:Xjx w gm gh gb M mc R rc L n c xs h b gM gR) (a d i:Int) (ha:0≤a∧a<8) (hd:0≤d∧d<8) (hi:0≤i∧i≤63) :
  Calls Tryz.prog 44 #[.pointer (some ⟨gm,0,none⟩),.pointer (some ⟨gh,0,none⟩),.pointer (some ⟨gb,0,none⟩),insV 7 a d i] w (Xeh w gm gh gb M mc R rc L n c (Xcb xs h b 7 a d i)):=by
 obtain⟨crd,sep,⟨B1,om⟩,⟨B2,or⟩,rfl,rfl,cM,cR,fM,fR,fh,fb,lM,lR,ck,hcm⟩:=hP
 have HC:=Zh crd
 have HS:=Zh (Xal w)
 have h1:=crd.h1
 have lh:gh<w.heap.size:=Xbm h1
 have lb:=Xb9 crd.b0
 have lm:gm<w.heap.size:=Xbm crd.m0
 have hx:=cR _ _ (Xc2 (Xap ck).1 ha.1 ha.2)
 have hy:=cR _ _ (Xc2 (Xap ck).1 hd.1 hd.2)
 have b1:=Xd8 (k:=a) (Xap ck).2.2
 have b2:=Xd8 (k:=d) (Xap ck).2.2
 have HT:=Zh (fun(r:List Int×Hrt×Brg×Bool) (e:Ending) (w' w1:World) (hd:Xeh w gm gh gb (some ⟨gM,0,none⟩) mc (some ⟨gR,0,none⟩) rc L n c r e w') (hs:Xan w' w1)=>Xdr (w:=w) (w':=w') (w1:=w1) (r:=r) (e:=e) hd (fun ad (e:some ⟨gM,0,none⟩=some ad)=>by injection e with e;subst e;exact lM) (fun ad (e:some ⟨gR,0,none⟩=some ad)=>by injection e with e;subst e;exact lR) lh lb hs)
 rw[show Xcb xs h b 7 a d i=(xs,h,(Xbi b i (rd h.regs a)).1,(Xbi b i (rd h.regs a)).2)from rfl]
 have HD:=Zh (fun(w' w1:World) (hs:Xan w w1) (ho:Only gb w1 w') (h1:Xbj w' gb (Xbi b i (rd h.regs a)).1 L n c) (h2:Lines w' w'.heap.size L n c (Xbi b i (rd h.regs a)).1.cache)=>Xv5 crd sep hs ho h1 h2 (Xbi b i (rd h.regs a)).2)
 have HO:=Zh sep.l3
 have HI:=Zh hi
 obtain⟨a1,a2⟩:=ha
 obtain⟨d1,d2⟩:=hd
 obtain⟨i1,i2⟩:=hi
 have sb:=sep.r3 ⟨gR,0,none⟩ rfl
 generalize rd h.regs a=u at *
 clear crd sep om or cM cR ck hcm
 unfold insV
 go_enter Tryz.func44,Tryz.ntmps44
 go_upto_region 21 with(fail)
 go_region_held3 (fun W=>W.cell? ⟨w.heap.size,1,none⟩=some (.int .i64 a)∧W.cell? ⟨w.heap.size,3,none⟩=some (.int .i64 i)∧W.cell? ⟨gR,a.toNat,none⟩=some (.int .i64 u)) (first|(simp[go_sem, *];done)|exact⟨‹_›,‹_›,‹_›⟩) (first
  |(go_at_call 68;refine(Xvr b L n c gb i u _ (Xa0 HC.out.b0 (Xar (Xae HS.out _))) (by intro o;simp[go_sem, *]) (Xb0 HC.out.lb (Xar (Xae HS.out _))) HO.out HI.out).mono ?_;rintro e w1 ⟨rfl,hb1,hl1,ho1⟩;have k1:=Xcd (g':=w.heap.size) (o:=1) (v:=.int .i64 a) (by simp[go_sem, *]) ho1 (by omega);have k2:=Xcd (g':=w.heap.size) (o:=3) (v:=.int .i64 i) (by simp[go_sem, *]) ho1 (by omega);have k3:=Xcd (g':=gR) (o:=a.toNat) (v:=.int .i64 u) (by simp[go_sem, *]) ho1 sb;have HE1:=Zh hb1;have HE2:=Zh hl1;have HE3:=Zh ho1;clear hb1 hl1 ho1))
 go_wp2
 go_ret
 exact HD.out _ _ (Xar (Xae HS.out _)) HE3.out HE1.out HE2.out
theorem keepX {w1 W:World} {g mb o:Nat} {mv:Value} {b:Brg} {A:Option Addr} {n c:Nat} (h:Xan w1 W) (hm:w1.cell? ⟨mb,o,none⟩=some mv) (hb:Xbj w1 g b A n c) :
  W.cell? ⟨mb,o,none⟩=some mv∧W.cell? ⟨g,0,none⟩=some (.int .i64 b.mode)∧W.cell? ⟨g,1,none⟩=some (.int .i64 b.base)∧W.cell? ⟨g,2,none⟩=some (.slice A n c)∧W.cell? ⟨g,3,none⟩=some (.int .i64 b.orders.page)∧W.cell? ⟨g,4,none⟩=some (.int .i64 b.orders.head)∧W.cell? ⟨g,5,none⟩=some (.int .i64 b.orders.tail)∧W.cell? ⟨g,6,none⟩=some (.bool b.stopped)∧W.cell? ⟨g,7,none⟩=some (.int .i64 b.fences)∧W.cell? ⟨g,8,none⟩=some (.int .i64 b.faults.page)∧W.cell? ⟨g,9,none⟩=some (.int .i64 b.faults.head)∧W.cell? ⟨g,10,none⟩=some (.int .i64 b.faults.tail)∧W.cell? ⟨g,11,none⟩=some (.bool b.lost)∧Hid (Xan w1 W):=by
 obtain⟨h0,h1,h2,h3,h4,h5,h6,h7,h8,h9,h10,h11⟩:=Xa0 hb h
 exact⟨Xak h hm,h0,h1,h2,h3,h4,h5,h6,h7,h8,h9,h10,h11,h⟩
theorem does_8 (hP:Xjx w gm gh gb M mc R rc L n c xs h b gM gR) (a d i:Int) (ha:0≤a∧a<8) (hd:0≤d∧d<8) (hi:0≤i∧i≤63) :
  Calls Tryz.prog 44 #[.pointer (some ⟨gm,0,none⟩),.pointer (some ⟨gh,0,none⟩),.pointer (some ⟨gb,0,none⟩),insV 8 a d i] w (Xeh w gm gh gb M mc R rc L n c (Xcb xs h b 8 a d i)):=by
 obtain⟨crd,sep,⟨B1,om⟩,⟨B2,or⟩,rfl,rfl,cM,cR,fM,fR,fh,fb,lM,lR,ck,hcm⟩:=hP
 have HC:=Zh crd
 have HS:=Zh (Xal w)
 have h1:=crd.h1
 have lh:gh<w.heap.size:=Xbm h1
 have lb:=Xb9 crd.b0
 have lm:gm<w.heap.size:=Xbm crd.m0
 have hx:=cR _ _ (Xc2 (Xap ck).1 ha.1 ha.2)
 have hy:=cR _ _ (Xc2 (Xap ck).1 hd.1 hd.2)
 have b1:=Xd8 (k:=a) (Xap ck).2.2
 have b2:=Xd8 (k:=d) (Xap ck).2.2
 have HT:=Zh (fun(r:List Int×Hrt×Brg×Bool) (e:Ending) (w' w1:World) (hd:Xeh w gm gh gb (some ⟨gM,0,none⟩) mc (some ⟨gR,0,none⟩) rc L n c r e w') (hs:Xan w' w1)=>Xdr (w:=w) (w':=w') (w1:=w1) (r:=r) (e:=e) hd (fun ad (e:some ⟨gM,0,none⟩=some ad)=>by injection e with e;subst e;exact lM) (fun ad (e:some ⟨gR,0,none⟩=some ad)=>by injection e with e;subst e;exact lR) lh lb hs)
 obtain⟨c0,c1,c2,c3,c4,c5,c6,c7,c8,c9,c10,c11⟩:=crd.b0
 by_cases hq:i<10
 ·rw[show Xcb xs h b 8 a d i=(xs,h.setR a (Xf4 b i),b,true) by unfold Xcb;rw[if_neg (by decide),if_neg (by decide),if_neg (by decide),if_neg (by decide),if_neg (by decide),if_neg (by decide),if_neg (by decide),if_pos rfl,if_pos hq]]
  have HV:=Zh (show inV b i=Xf4 b i by unfold inV;rw[if_pos hq])
  have HD:=Zh (fun(w':World) (hs:Xan w w')=>Xgo crd sep or rfl lR hs (v:=Xf4 b i) ha.1 ha.2)
  have hdq:decide (i<10)=true:=by simp[hq]
  have HM1:Hid ((w.alloc (.cells #[.int .i64 8,.int .i64 a,.int .i64 d,.int .i64 i] 89)).cell? ⟨w.heap.size,3,none⟩=some (.int .i64 i)):=Zh (by simp[go_sem])
  have HG1:Hid (Xbj (w.alloc (.cells #[.int .i64 8,.int .i64 a,.int .i64 d,.int .i64 i] 89)) gb b L n c):=Zh (Xa0 crd.b0 (Xae (Xal _) _))
  obtain⟨a1,a2⟩:=ha
  obtain⟨d1,d2⟩:=hd
  obtain⟨i1,i2⟩:=hi
  clear crd sep om or cM cR ck hcm
  unfold insV
  go_enter Tryz.func44,Tryz.ntmps44
  go_upto_region 23 with(fail)
  go_region_held3 (fun W=>W.cell? ⟨w.heap.size,3,none⟩=some (.int .i64 i)∧W.cell? ⟨gb,0,none⟩=some (.int .i64 b.mode)∧W.cell? ⟨gb,1,none⟩=some (.int .i64 b.base)∧W.cell? ⟨gb,2,none⟩=some (.slice L n c)∧W.cell? ⟨gb,3,none⟩=some (.int .i64 b.orders.page)∧W.cell? ⟨gb,4,none⟩=some (.int .i64 b.orders.head)∧W.cell? ⟨gb,5,none⟩=some (.int .i64 b.orders.tail)∧W.cell? ⟨gb,6,none⟩=some (.bool b.stopped)∧W.cell? ⟨gb,7,none⟩=some (.int .i64 b.fences)∧W.cell? ⟨gb,8,none⟩=some (.int .i64 b.faults.page)∧W.cell? ⟨gb,9,none⟩=some (.int .i64 b.faults.head)∧W.cell? ⟨gb,10,none⟩=some (.int .i64 b.faults.tail)∧W.cell? ⟨gb,11,none⟩=some (.bool b.lost)∧Hid (Xan (w.alloc (.cells #[.int .i64 8,.int .i64 a,.int .i64 d,.int .i64 i] 89)) W))
   (((with_reducible refine keepX ?_ HM1.out HG1.out);(repeat(first|(with_reducible assumption)|(with_reducible exact Xal _)|(with_reducible exact Xdi (by assumption))|(with_reducible exact Xax (by assumption) (Xdi (by assumption)))|(with_reducible refine Xar ?_)|(with_reducible refine Xae ?_ _)|((with_reducible refine Xa3 ?_ ?_ _);rotate_left;exact(by(try simp)<;>omega))));done))
   (first
    |(go_at_call 69;refine(Xte b L n c i _ i1).mono ?_;rintro e w2 ⟨rfl,hb2⟩;have hs2:=Xax hb2 (Xdi (by assumption))))
  all_goals
   rename_i hHeld
   have HS2:=Zh (Xdi hHeld)
   clear hHeld
   have e0:=Xak HS2.out (p:=⟨w.heap.size,0,none⟩) (v:=.int .i64 8) (by simp[go_sem])
   have e1:=Xak HS2.out (p:=⟨w.heap.size,1,none⟩) (v:=.int .i64 a) (by simp[go_sem])
   have e2:=Xak HS2.out (p:=⟨gR,a.toNat,none⟩) (v:=.int .i64 (rd h.regs a)) (Xak (Xae (Xal w) _) hx)
   have e3:=(Below.frozen (p:=⟨gR,a.toNat,none⟩) HS2.out (by simp;omega)).trans ((Below.frozen (p:=⟨gR,a.toNat,none⟩) (Xag w _) lR).trans (fR _))
   have HS1:=Zh (show Xan w _ from Below.trans (Xag w (.cells #[.int .i64 8,.int .i64 a,.int .i64 d,.int .i64 i] 89)) (Below.mono HS2.out (by simp)))
   go_upto_region 25 with(fail)
   rw[HV.out]
   go_wp2
   go_ret
   first | exact HD.out _ HS1.out | (trace_state; fail "w8a")
 ·rw[show Xcb xs h b 8 a d i=(xs,h,b,false) by unfold Xcb;rw[if_neg (by decide),if_neg (by decide),if_neg (by decide),if_neg (by decide),if_neg (by decide),if_neg (by decide),if_neg (by decide),if_pos rfl,if_neg hq]]
  have HD:=Zh (fun(w':World) (hs:Xan w w')=>Xhq crd hs false)
  have hdq:decide (i<10)=false:=by simp[hq]
  have HM1:Hid ((w.alloc (.cells #[.int .i64 8,.int .i64 a,.int .i64 d,.int .i64 i] 89)).cell? ⟨w.heap.size,3,none⟩=some (.int .i64 i)):=Zh (by simp[go_sem])
  have HG1:Hid (Xbj (w.alloc (.cells #[.int .i64 8,.int .i64 a,.int .i64 d,.int .i64 i] 89)) gb b L n c):=Zh (Xa0 crd.b0 (Xae (Xal _) _))
  obtain⟨a1,a2⟩:=ha
  obtain⟨d1,d2⟩:=hd
  obtain⟨i1,i2⟩:=hi
  clear crd sep om or cM cR ck hcm
  unfold insV
  go_enter Tryz.func44,Tryz.ntmps44
  go_upto_region 23 with(fail)
  go_region_held3 (fun W=>W.cell? ⟨w.heap.size,3,none⟩=some (.int .i64 i)∧W.cell? ⟨gb,0,none⟩=some (.int .i64 b.mode)∧W.cell? ⟨gb,1,none⟩=some (.int .i64 b.base)∧W.cell? ⟨gb,2,none⟩=some (.slice L n c)∧W.cell? ⟨gb,3,none⟩=some (.int .i64 b.orders.page)∧W.cell? ⟨gb,4,none⟩=some (.int .i64 b.orders.head)∧W.cell? ⟨gb,5,none⟩=some (.int .i64 b.orders.tail)∧W.cell? ⟨gb,6,none⟩=some (.bool b.stopped)∧W.cell? ⟨gb,7,none⟩=some (.int .i64 b.fences)∧W.cell? ⟨gb,8,none⟩=some (.int .i64 b.faults.page)∧W.cell? ⟨gb,9,none⟩=some (.int .i64 b.faults.head)∧W.cell? ⟨gb,10,none⟩=some (.int .i64 b.faults.tail)∧W.cell? ⟨gb,11,none⟩=some (.bool b.lost)∧Hid (Xan (w.alloc (.cells #[.int .i64 8,.int .i64 a,.int .i64 d,.int .i64 i] 89)) W))
   (((with_reducible refine keepX ?_ HM1.out HG1.out);(repeat(first|(with_reducible assumption)|(with_reducible exact Xal _)|(with_reducible exact Xdi (by assumption))|(with_reducible exact Xax (by assumption) (Xdi (by assumption)))|(with_reducible refine Xar ?_)|(with_reducible refine Xae ?_ _)|((with_reducible refine Xa3 ?_ ?_ _);rotate_left;exact(by(try simp)<;>omega))));done))
   (first
    |(go_at_call 69;refine(Xte b L n c i _ i1).mono ?_;rintro e w2 ⟨rfl,hb2⟩;have hs2:=Xax hb2 (Xdi (by assumption))))
  all_goals
   rename_i hHeld
   have HS2:=Zh (Xdi hHeld)
   clear hHeld
   have e0:=Xak HS2.out (p:=⟨w.heap.size,0,none⟩) (v:=.int .i64 8) (by simp[go_sem])
   have e1:=Xak HS2.out (p:=⟨w.heap.size,1,none⟩) (v:=.int .i64 a) (by simp[go_sem])
   have e2:=Xak HS2.out (p:=⟨gR,a.toNat,none⟩) (v:=.int .i64 (rd h.regs a)) (Xak (Xae (Xal w) _) hx)
   have e3:=(Below.frozen (p:=⟨gR,a.toNat,none⟩) HS2.out (by simp;omega)).trans ((Below.frozen (p:=⟨gR,a.toNat,none⟩) (Xag w _) lR).trans (fR _))
   have HS1:=Zh (show Xan w _ from Below.trans (Xag w (.cells #[.int .i64 8,.int .i64 a,.int .i64 d,.int .i64 i] 89)) (Below.mono HS2.out (by simp)))
   go_wp2
   go_ret
   first | exact HD.out _ HS1.out | (trace_state; fail "w8b")
theorem Xtf (hP:Xjx w gm gh gb M mc R rc L n c xs h b gM gR) (k a d i:Int) (hk:0≤k∧k≤8) (ha:0≤a∧a<8) (hd:0≤d∧d<8) (hi:0≤i∧i≤63) :
  Calls Tryz.prog 44 #[.pointer (some ⟨gm,0,none⟩),.pointer (some ⟨gh,0,none⟩),.pointer (some ⟨gb,0,none⟩),insV k a d i] w (Xeh w gm gh gb M mc R rc L n c (Xcb xs h b k a d i)):=by
 have hk':k=0∨k=1∨k=2∨k=3∨k=4∨k=5∨k=6∨k=7∨k=8:=by omega
 rcases hk' with rfl|rfl|rfl|rfl|rfl|rfl|rfl|rfl|rfl
 ·exact does_0 hP a d i ha hd hi
 ·exact does_1 hP a d i ha hd hi
 ·exact does_2 hP a d i ha hd hi
 ·exact does_3 hP a d i ha hd hi
 ·exact does_4 hP a d i ha hd hi
 ·exact does_5 hP a d i ha hd hi
 ·exact does_6 hP a d i ha hd hi
 ·exact does_7 hP a d i ha hd hi
 ·exact does_8 hP a d i ha hd hi
end
end
section
def StepC (w:World) (r:List Int×Hrt×Brg) (E:Int) (e:Ending) (w':World):Prop:=
 ∃ A d P q Q m k,e=.returned (.tuple #[.agg #[.slice A 512 d],.agg #[.int .i64 r.2.1.at_,.slice P 8 q,.bool r.2.1.done],.agg (B_.b r.2.2 Q m k),.int .i64 E]) ∧
  Ints w' w'.heap.size A 512 r.1∧Ints w' w'.heap.size P 8 r.2.1.regs∧Lines w' w'.heap.size Q m k r.2.2.cache∧Below w.heap.size w w' ∧
  (∀ ad,A=some ad→w.heap.size≤ad.block)∧(∀ ad,P=some ad→w.heap.size≤ad.block)∧∀ ad,Q=some ad→w.heap.size≤ad.block
section
variable (xs:List Int) (h:Hrt) (b:Brg) (M R L:Option Addr) (nm mc nr rc n c:Nat) (w:World)
theorem Xuu (hm:Ints w w.heap.size M nm xs) (hc:cm xs≠0) :
  Calls Tryz.prog 13 #[.agg #[.slice M nm mc],.agg #[.int .i64 h.at_,.slice R nr rc,.bool h.done],.agg (B_.b b L n c)] w fun e w'=>e=.returned (.tuple #[.agg #[.slice none 0 0],.agg #[.int .i64 0,.slice none 0 0,.bool false],.agg (B_.b Brg.no none 0 0),.int .i64 (cm xs)])∧Below w.heap.size w w':=by
 have HM:=Zh hm
 have t0:(cm xs==0)=false:=by rw[beq_eq_false_iff_ne];exact hc
 have t1:(cm xs != 0)=true:=by rw[bne_iff_ne];exact hc
 clear hm hc
 go_enter Tryz.func13,Tryz.ntmps13
 go_wp2_with fail
 refine(Xb4 _ _ _ xs _ (Xaf HM.out (bl (by repeat' first|with_reducible(first|assumption|constructor)|((try simp)<;>omega))))).mono ?_
 rintro e w1 ⟨rfl,hb1⟩
 have hz1:=hb1.size
 (try simp only[Zs]at hz1)
 obtain⟨k1_0,l1_0,q1_0⟩:=aft hb1 (w.heap.size) (by(try simp)<;>omega)
 obtain⟨k1_1,l1_1,q1_1⟩:=aft hb1 (w.heap.size+1) (by(try simp)<;>omega)
 obtain⟨k1_2,l1_2,q1_2⟩:=aft hb1 (w.heap.size+1+1) (by(try simp)<;>omega)
 obtain⟨k1_3,l1_3,q1_3⟩:=aft hb1 (w.heap.size+1+1+1) (by(try simp)<;>omega)
 obtain⟨k1_4,l1_4,q1_4⟩:=aft hb1 (w.heap.size+1+1+1+1) (by(try simp)<;>omega)
 obtain⟨k1_5,l1_5,q1_5⟩:=aft hb1 (w.heap.size+1+1+1+1+1) (by(try simp)<;>omega)
 simp(maxDischargeDepth:=6) [go_sem, *]at k1_0 q1_0 k1_1 q1_1 k1_2 q1_2 k1_3 q1_3 k1_4 q1_4 k1_5 q1_5
 have HB1:=Zh hb1
 clear hb1
 go_wp2
 refine bodyPost_ret (v:=.tuple #[.agg #[.slice none 0 0],.agg #[.int .i64 0,.slice none 0 0,.bool false],.agg (B_.b Brg.no none 0 0),.int .i64 (cm xs)]) ?_ rfl ⟨rfl, ?_⟩
 ·simp(maxDischargeDepth:=8) [results,Tryz.results13,go_sem,Brg.no,Ring.no, *]
 ·(refine bl ?_;repeat' first|with_reducible(first|assumption|constructor)|((try simp)<;>omega))
theorem Xut (hm:Ints w w.heap.size M nm xs) (hr:Ints w w.heap.size R nr h.regs) (c1:cm xs=0) (hc:ckH h≠0) :
  Calls Tryz.prog 13 #[.agg #[.slice M nm mc],.agg #[.int .i64 h.at_,.slice R nr rc,.bool h.done],.agg (B_.b b L n c)] w fun e w'=>e=.returned (.tuple #[.agg #[.slice none 0 0],.agg #[.int .i64 0,.slice none 0 0,.bool false],.agg (B_.b Brg.no none 0 0),.int .i64 (ckH h)])∧Below w.heap.size w w':=by
 have HM:=Zh hm
 have HR:=Zh hr
 have Hc1:=Zh c1
 have t0:(ckH h==0)=false:=by rw[beq_eq_false_iff_ne];exact hc
 have t1:(ckH h != 0)=true:=by rw[bne_iff_ne];exact hc
 clear hm hr c1 hc
 go_enter Tryz.func13,Tryz.ntmps13
 go_wp2_with fail
 refine(Xb4 _ _ _ xs _ (Xaf HM.out (bl (by repeat' first|with_reducible(first|assumption|constructor)|((try simp)<;>omega))))).mono ?_
 rw[Hc1.out]
 rintro e w1 ⟨rfl,hb1⟩
 have hz1:=hb1.size
 (try simp only[Zs]at hz1)
 obtain⟨k1_0,l1_0,q1_0⟩:=aft hb1 (w.heap.size) (by(try simp)<;>omega)
 obtain⟨k1_1,l1_1,q1_1⟩:=aft hb1 (w.heap.size+1) (by(try simp)<;>omega)
 obtain⟨k1_2,l1_2,q1_2⟩:=aft hb1 (w.heap.size+1+1) (by(try simp)<;>omega)
 obtain⟨k1_3,l1_3,q1_3⟩:=aft hb1 (w.heap.size+1+1+1) (by(try simp)<;>omega)
 obtain⟨k1_4,l1_4,q1_4⟩:=aft hb1 (w.heap.size+1+1+1+1) (by(try simp)<;>omega)
 obtain⟨k1_5,l1_5,q1_5⟩:=aft hb1 (w.heap.size+1+1+1+1+1) (by(try simp)<;>omega)
 simp(maxDischargeDepth:=6) [go_sem, *]at k1_0 q1_0 k1_1 q1_1 k1_2 q1_2 k1_3 q1_3 k1_4 q1_4 k1_5 q1_5
 have HB1:=Zh hb1
 clear hb1
 go_wp2_with fail
 refine(Xew h _ _ _ _ (Xaf HR.out (bl (by repeat' first|with_reducible(first|assumption|constructor)|((try simp)<;>omega))))).mono ?_
 rintro e w2 ⟨rfl,hb2⟩
 have hz2:=hb2.size
 (try simp only[Zs]at hz2)
 obtain⟨k2_0,l2_0,q2_0⟩:=aft hb2 (w.heap.size) (by(try simp)<;>omega)
 obtain⟨k2_1,l2_1,q2_1⟩:=aft hb2 (w.heap.size+1) (by(try simp)<;>omega)
 obtain⟨k2_2,l2_2,q2_2⟩:=aft hb2 (w.heap.size+1+1) (by(try simp)<;>omega)
 obtain⟨k2_3,l2_3,q2_3⟩:=aft hb2 (w.heap.size+1+1+1) (by(try simp)<;>omega)
 obtain⟨k2_4,l2_4,q2_4⟩:=aft hb2 (w.heap.size+1+1+1+1) (by(try simp)<;>omega)
 obtain⟨k2_5,l2_5,q2_5⟩:=aft hb2 (w.heap.size+1+1+1+1+1) (by(try simp)<;>omega)
 simp(maxDischargeDepth:=6) [go_sem, *]at k2_0 q2_0 k2_1 q2_1 k2_2 q2_2 k2_3 q2_3 k2_4 q2_4 k2_5 q2_5
 have HB2:=Zh hb2
 clear hb2
 go_wp2
 refine bodyPost_ret (v:=.tuple #[.agg #[.slice none 0 0],.agg #[.int .i64 0,.slice none 0 0,.bool false],.agg (B_.b Brg.no none 0 0),.int .i64 (ckH h)]) ?_ rfl ⟨rfl, ?_⟩
 ·simp(maxDischargeDepth:=8) [results,Tryz.results13,go_sem,Brg.no,Ring.no, *]
 ·(refine bl ?_;repeat' first|with_reducible(first|assumption|constructor)|((try simp)<;>omega))
theorem Xus (hm:Ints w w.heap.size M nm xs) (hr:Ints w w.heap.size R nr h.regs) (hl:Lines w w.heap.size L n c b.cache) (c1:cm xs=0) (c2:ckH h=0) (hc:ckB b≠0) :
  Calls Tryz.prog 13 #[.agg #[.slice M nm mc],.agg #[.int .i64 h.at_,.slice R nr rc,.bool h.done],.agg (B_.b b L n c)] w fun e w'=>e=.returned (.tuple #[.agg #[.slice none 0 0],.agg #[.int .i64 0,.slice none 0 0,.bool false],.agg (B_.b Brg.no none 0 0),.int .i64 (ckB b)])∧Below w.heap.size w w':=by
 have HM:=Zh hm
 have HR:=Zh hr
 have HL:=Zh hl
 have Hc1:=Zh c1
 have Hc2:=Zh c2
 have t0:(ckB b==0)=false:=by rw[beq_eq_false_iff_ne];exact hc
 have t1:(ckB b != 0)=true:=by rw[bne_iff_ne];exact hc
 clear hm hr hl c1 c2 hc
 go_enter Tryz.func13,Tryz.ntmps13
 go_wp2_with fail
 refine(Xb4 _ _ _ xs _ (Xaf HM.out (bl (by repeat' first|with_reducible(first|assumption|constructor)|((try simp)<;>omega))))).mono ?_
 rw[Hc1.out]
 rintro e w1 ⟨rfl,hb1⟩
 have hz1:=hb1.size
 (try simp only[Zs]at hz1)
 obtain⟨k1_0,l1_0,q1_0⟩:=aft hb1 (w.heap.size) (by(try simp)<;>omega)
 obtain⟨k1_1,l1_1,q1_1⟩:=aft hb1 (w.heap.size+1) (by(try simp)<;>omega)
 obtain⟨k1_2,l1_2,q1_2⟩:=aft hb1 (w.heap.size+1+1) (by(try simp)<;>omega)
 obtain⟨k1_3,l1_3,q1_3⟩:=aft hb1 (w.heap.size+1+1+1) (by(try simp)<;>omega)
 obtain⟨k1_4,l1_4,q1_4⟩:=aft hb1 (w.heap.size+1+1+1+1) (by(try simp)<;>omega)
 obtain⟨k1_5,l1_5,q1_5⟩:=aft hb1 (w.heap.size+1+1+1+1+1) (by(try simp)<;>omega)
 simp(maxDischargeDepth:=6) [go_sem, *]at k1_0 q1_0 k1_1 q1_1 k1_2 q1_2 k1_3 q1_3 k1_4 q1_4 k1_5 q1_5
 have HB1:=Zh hb1
 clear hb1
 go_wp2_with fail
 refine(Xew h _ _ _ _ (Xaf HR.out (bl (by repeat' first|with_reducible(first|assumption|constructor)|((try simp)<;>omega))))).mono ?_
 rw[Hc2.out]
 rintro e w2 ⟨rfl,hb2⟩
 have hz2:=hb2.size
 (try simp only[Zs]at hz2)
 obtain⟨k2_0,l2_0,q2_0⟩:=aft hb2 (w.heap.size) (by(try simp)<;>omega)
 obtain⟨k2_1,l2_1,q2_1⟩:=aft hb2 (w.heap.size+1) (by(try simp)<;>omega)
 obtain⟨k2_2,l2_2,q2_2⟩:=aft hb2 (w.heap.size+1+1) (by(try simp)<;>omega)
 obtain⟨k2_3,l2_3,q2_3⟩:=aft hb2 (w.heap.size+1+1+1) (by(try simp)<;>omega)
 obtain⟨k2_4,l2_4,q2_4⟩:=aft hb2 (w.heap.size+1+1+1+1) (by(try simp)<;>omega)
 obtain⟨k2_5,l2_5,q2_5⟩:=aft hb2 (w.heap.size+1+1+1+1+1) (by(try simp)<;>omega)
 simp(maxDischargeDepth:=6) [go_sem, *]at k2_0 q2_0 k2_1 q2_1 k2_2 q2_2 k2_3 q2_3 k2_4 q2_4 k2_5 q2_5
 have HB2:=Zh hb2
 clear hb2
 go_wp2_with fail
 refine(Xbh b _ _ _ _ (Xah HL.out (bl (by repeat' first|with_reducible(first|assumption|constructor)|((try simp)<;>omega))))).mono ?_
 rintro e w3 ⟨rfl,hb3⟩
 have hz3:=hb3.size
 (try simp only[Zs]at hz3)
 obtain⟨k3_0,l3_0,q3_0⟩:=aft hb3 (w.heap.size) (by(try simp)<;>omega)
 obtain⟨k3_1,l3_1,q3_1⟩:=aft hb3 (w.heap.size+1) (by(try simp)<;>omega)
 obtain⟨k3_2,l3_2,q3_2⟩:=aft hb3 (w.heap.size+1+1) (by(try simp)<;>omega)
 obtain⟨k3_3,l3_3,q3_3⟩:=aft hb3 (w.heap.size+1+1+1) (by(try simp)<;>omega)
 obtain⟨k3_4,l3_4,q3_4⟩:=aft hb3 (w.heap.size+1+1+1+1) (by(try simp)<;>omega)
 obtain⟨k3_5,l3_5,q3_5⟩:=aft hb3 (w.heap.size+1+1+1+1+1) (by(try simp)<;>omega)
 simp(maxDischargeDepth:=6) [go_sem, *]at k3_0 q3_0 k3_1 q3_1 k3_2 q3_2 k3_3 q3_3 k3_4 q3_4 k3_5 q3_5
 have HB3:=Zh hb3
 clear hb3
 go_wp2
 refine bodyPost_ret (v:=.tuple #[.agg #[.slice none 0 0],.agg #[.int .i64 0,.slice none 0 0,.bool false],.agg (B_.b Brg.no none 0 0),.int .i64 (ckB b)]) ?_ rfl ⟨rfl, ?_⟩
 ·simp(maxDischargeDepth:=8) [results,Tryz.results13,go_sem,Brg.no,Ring.no, *]
 ·(refine bl ?_;repeat' first|with_reducible(first|assumption|constructor)|((try simp)<;>omega))
theorem Xur (hm:Ints w w.heap.size M nm xs) (hr:Ints w w.heap.size R nr h.regs) (hl:Lines w w.heap.size L n c b.cache) (c1:cm xs=0) (c2:ckH h=0) (c3:ckB b=0) :
  Calls Tryz.prog 13 #[.agg #[.slice M nm mc],.agg #[.int .i64 h.at_,.slice R nr rc,.bool true],.agg (B_.b b L n c)] w fun e w'=>e=.returned (.tuple #[.agg #[.slice none 0 0],.agg #[.int .i64 0,.slice none 0 0,.bool false],.agg (B_.b Brg.no none 0 0),.int .i64 6])∧Below w.heap.size w w':=by
 have HM:=Zh hm
 have HR:=Zh hr
 have HL:=Zh hl
 have Hc1:=Zh c1
 have Hc2:=Zh c2
 have Hc3:=Zh c3
 clear hm hr hl c1 c2 c3
 go_enter Tryz.func13,Tryz.ntmps13
 go_wp2_with fail
 refine(Xb4 _ _ _ xs _ (Xaf HM.out (bl (by repeat' first|with_reducible(first|assumption|constructor)|((try simp)<;>omega))))).mono ?_
 rw[Hc1.out]
 rintro e w1 ⟨rfl,hb1⟩
 have hz1:=hb1.size
 (try simp only[Zs]at hz1)
 obtain⟨k1_0,l1_0,q1_0⟩:=aft hb1 (w.heap.size) (by(try simp)<;>omega)
 obtain⟨k1_1,l1_1,q1_1⟩:=aft hb1 (w.heap.size+1) (by(try simp)<;>omega)
 obtain⟨k1_2,l1_2,q1_2⟩:=aft hb1 (w.heap.size+1+1) (by(try simp)<;>omega)
 obtain⟨k1_3,l1_3,q1_3⟩:=aft hb1 (w.heap.size+1+1+1) (by(try simp)<;>omega)
 obtain⟨k1_4,l1_4,q1_4⟩:=aft hb1 (w.heap.size+1+1+1+1) (by(try simp)<;>omega)
 obtain⟨k1_5,l1_5,q1_5⟩:=aft hb1 (w.heap.size+1+1+1+1+1) (by(try simp)<;>omega)
 simp(maxDischargeDepth:=6) [go_sem, *]at k1_0 q1_0 k1_1 q1_1 k1_2 q1_2 k1_3 q1_3 k1_4 q1_4 k1_5 q1_5
 have HB1:=Zh hb1
 clear hb1
 go_wp2_with fail
 refine(Xew ⟨h.at_,h.regs,true⟩ _ _ _ _ (Xaf HR.out (bl (by repeat' first|with_reducible(first|assumption|constructor)|((try simp)<;>omega))))).mono ?_
 rw[show ckH ⟨h.at_,h.regs,true⟩=0 from Hc2.out]
 rintro e w2 ⟨rfl,hb2⟩
 have hz2:=hb2.size
 (try simp only[Zs]at hz2)
 obtain⟨k2_0,l2_0,q2_0⟩:=aft hb2 (w.heap.size) (by(try simp)<;>omega)
 obtain⟨k2_1,l2_1,q2_1⟩:=aft hb2 (w.heap.size+1) (by(try simp)<;>omega)
 obtain⟨k2_2,l2_2,q2_2⟩:=aft hb2 (w.heap.size+1+1) (by(try simp)<;>omega)
 obtain⟨k2_3,l2_3,q2_3⟩:=aft hb2 (w.heap.size+1+1+1) (by(try simp)<;>omega)
 obtain⟨k2_4,l2_4,q2_4⟩:=aft hb2 (w.heap.size+1+1+1+1) (by(try simp)<;>omega)
 obtain⟨k2_5,l2_5,q2_5⟩:=aft hb2 (w.heap.size+1+1+1+1+1) (by(try simp)<;>omega)
 simp(maxDischargeDepth:=6) [go_sem, *]at k2_0 q2_0 k2_1 q2_1 k2_2 q2_2 k2_3 q2_3 k2_4 q2_4 k2_5 q2_5
 have HB2:=Zh hb2
 clear hb2
 go_wp2_with fail
 refine(Xbh b _ _ _ _ (Xah HL.out (bl (by repeat' first|with_reducible(first|assumption|constructor)|((try simp)<;>omega))))).mono ?_
 rw[Hc3.out]
 rintro e w3 ⟨rfl,hb3⟩
 have hz3:=hb3.size
 (try simp only[Zs]at hz3)
 obtain⟨k3_0,l3_0,q3_0⟩:=aft hb3 (w.heap.size) (by(try simp)<;>omega)
 obtain⟨k3_1,l3_1,q3_1⟩:=aft hb3 (w.heap.size+1) (by(try simp)<;>omega)
 obtain⟨k3_2,l3_2,q3_2⟩:=aft hb3 (w.heap.size+1+1) (by(try simp)<;>omega)
 obtain⟨k3_3,l3_3,q3_3⟩:=aft hb3 (w.heap.size+1+1+1) (by(try simp)<;>omega)
 obtain⟨k3_4,l3_4,q3_4⟩:=aft hb3 (w.heap.size+1+1+1+1) (by(try simp)<;>omega)
 obtain⟨k3_5,l3_5,q3_5⟩:=aft hb3 (w.heap.size+1+1+1+1+1) (by(try simp)<;>omega)
 simp(maxDischargeDepth:=6) [go_sem, *]at k3_0 q3_0 k3_1 q3_1 k3_2 q3_2 k3_3 q3_3 k3_4 q3_4 k3_5 q3_5
 have HB3:=Zh hb3
 clear hb3
 go_wp2
 refine bodyPost_ret (v:=.tuple #[.agg #[.slice none 0 0],.agg #[.int .i64 0,.slice none 0 0,.bool false],.agg (B_.b Brg.no none 0 0),.int .i64 6]) ?_ rfl ⟨rfl, ?_⟩
 ·simp(maxDischargeDepth:=8) [results,Tryz.results13,go_sem,Brg.no,Ring.no, *]
 ·(refine bl ?_;repeat' first|with_reducible(first|assumption|constructor)|((try simp)<;>omega))
end
end
end Go.Proofs.YtbopdijnojaaiadGreat
