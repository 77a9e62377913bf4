/- The devices: the walk of the document's Asked. No statement of the seat is proved here. -/
import Derived.Test.YtbopdijnojaaiadGreatDmaI
import Derived.Test.YtbopdijnojaaiadGreatRefG
import Derived.Test.YtbopdijnojaaiadGreatRefO
import Derived.Test.YtbopdijnojaaiadGreatAsk
import Derived.Deep.RegionHeld3
import Derived.Deep.DrawnRows
import Derived.Deep.DeepCutAuto
namespace Go.Proofs.YtbopdijnojaaiadGreat
set_option maxRecDepth 100000
set_option maxHeartbeats 8000000
open Go.RowKit
set_option linter.unusedSimpArgs false
set_option linter.unusedVariables false
attribute [local go_sem ↓] Go.wp_at_zero Go.wp_at_succ
def Xq7 (w:World) (A0:Option Addr) (n0:Nat) (r:List Int×Brg×Tld) (e:Ending) (w':World):Prop:=
 ∃ M mc L n c D dn dc T tn tc,e=.returned (.tuple #[.agg #[.slice M 512 mc],.agg (B_.b r.2.1 L n c),.agg #[.bool r.2.2.done,.slice D dn dc,.int .i64 r.2.2.fault,.slice T tn tc]]) ∧
  Ints w' w'.heap.size M 512 r.1∧Lines w' w'.heap.size L n c r.2.1.cache∧Ints w' w'.heap.size D dn r.2.2.data∧Tchs w' w'.heap.size T tn tc r.2.2.touched∧Below w.heap.size w w' ∧
  (∀ ad,M=some ad→w.heap.size≤ad.block)∧NewN w A0 n0 L n∧(∀ ad,D=some ad→w.heap.size≤ad.block)∧∀ ad,T=some ad→w.heap.size≤ad.block
def AskL (w:World) (a:Ask) (AD:Option Addr) (nd cd gt:Nat) (A0:Option Addr) (n0:Nat) (R:List Int×Brg×Tld) (s10 s11 s23:Value) (W:World):Prop:=
 ∃(i:Nat) (s:Dst) (gM mc:Nat) (L:Option Addr) (n c:Nat) (D:Option Addr) (dn dc:Nat) (T:Option Addr) (tn tc:Nat),s23=.int .i64 i∧s10=.int .i64 s.at_∧s11=.int .i64 s.page∧(i:Int)≤a.count∧DOk a i s∧dGo a (a.count.toNat - i) i s=R∧s.touched.length=i∧s.data.length≤i∧DmaI w a AD nd cd gt gM mc L n c D dn dc T tn tc s W∧NewN w A0 n0 L n
theorem Xhl {w W:World} {A0 L L':Option Addr} {n0 n n':Nat} (h:NewN w A0 n0 L n) (h':NewN W L n L' n') (hz:w.heap.size≤W.heap.size):NewN w A0 n0 L' n':=by
 rcases h' with⟨rfl,rfl⟩|h'
 ·exact h
 ·exact Or.inr (fun ad e=>Nat.le_trans hz (h' ad e))
theorem Xst {w W:World} {A0 L L':Option Addr} {n0 n n':Nat} (h:NewN w A0 n0 L n) (h':Xj6 W L L') (hn:n'=n) (hz:w.heap.size≤W.heap.size):NewN w A0 n0 L' n':=by
 rcases h with⟨rfl,rfl⟩|h
 ·cases L' with
  |none=>exact Or.inr (fun ad e=>nomatch e)
  |some ad=>
   rcases h' ad rfl with e|e
   ·exact Or.inl ⟨e.symm,hn⟩
   ·exact Or.inr (fun ad' e'=>by injection e' with e';subst e';omega)
 ·refine Or.inr (fun ad e=>?_)
  rcases h' ad e with e|e
  ·exact h ad e
  ·omega
theorem Xpr {w W W':World} {a:Ask} {AD L D T A0:Option Addr} {nd cd gt gM mc n c dn dc tn tc n0:Nat} {s:Dst} (h:DmaI w a AD nd cd gt gM mc L n c D dn dc T tn tc s W) (hC:Chg (Xbe w.heap.size gt) W W') (hN:NewN w A0 n0 L n) (d:Bool) (f:Int) :
  Xq7 w A0 n0 (s.xs,s.b,⟨d,s.data,f,s.touched⟩) (.returned (.tuple #[.agg #[.slice (some ⟨gM,0,none⟩) 512 mc],.agg (B_.b s.b L n c),.agg #[.bool d,.slice D dn dc,.int .i64 f,.slice T tn tc]])) W':=by
 obtain⟨h1,h2,h3,h4,h5⟩:=h.done hC
 exact⟨_,_,_,_,_,_,_,_,_,_,_,rfl,h1,h2,h3,h4,h5,fun ad e=>(by have:=h.gM1;injection e with e;subst e;show w.heap.size≤gM;omega),hN,fun ad e=>(by have:=h.bD ad e;omega),fun ad e=>(by have:=h.bT ad e;omega)⟩
theorem Xpq {w W W':World} {a:Ask} {AD L D T A0 M4 L4:Option Addr} {nd cd gt gM mc n c dn dc tn tc n0 d4 n4 c4:Nat} {s:Dst} {ys:List Int} {b':Brg} (h:DmaI w a AD nd cd gt gM mc L n c D dn dc T tn tc s W) (hC:Chg (Xbe w.heap.size gt) W W') (hx:Ints W W.heap.size M4 512 ys) (hl:Lines W W.heap.size L4 n4 c4 b'.cache)
  (hM:∀ ad,M4=some ad→¬Xbe w.heap.size gt ad.block) (hL:0<n4→∀ ad,L4=some ad→¬Xbe w.heap.size gt ad.block) (hMF:∀ ad,M4=some ad→w.heap.size≤ad.block) (hN:NewN w A0 n0 L4 n4) (f:Int) :
  Xq7 w A0 n0 (ys,b',⟨false,s.data,f,s.touched⟩) (.returned (.tuple #[.agg #[.slice M4 512 d4],.agg (B_.b b' L4 n4 c4),.agg #[.bool false,.slice D dn dc,.int .i64 f,.slice T tn tc]])) W':=by
 obtain⟨_,_,h3,h4,h5⟩:=h.done hC
 exact⟨_,_,_,_,_,_,_,_,_,_,_,rfl,Xfy hx hC hM,Xc9 hl hC hL,h3,h4,h5,hMF,hN,fun ad e=>(by have:=h.bD ad e;omega),fun ad e=>(by have:=h.bT ad e;omega)⟩
theorem rd_get {xs:List Int} {k:Int} {n:Nat} (hl:xs.length=n) (h0:0≤k) (h1:k<n):xs[k.toNat]?=some (rd xs k):=by
 unfold rd;rw[List.getElem?_eq_getElem (by omega)];rfl
theorem Xi4 {xs:List Int} {b:Brg} {v:Int}:(Xdu xs b v).2.cache=b.cache:=by
 unfold Xdu
 split
 ·rfl
 ·split<;>rfl
theorem Xos (xs ys:List Int) (m:Option Addr) (cm':Nat) (b b':Brg) (A:Option Addr) (n c:Nat) (fc fd fp:Int) (fw:Bool) (w:World) (hx:Ints w w.heap.size m 512 xs) (hl:Lines w w.heap.size A n c b.cache) (h0:cm xs=0) (hb:ckB b=0) (hE:fltE fc fd fp=0) (hr:Xdu xs b (fltW fc fd fp fw)=(ys,b')) :
  Calls Tryz.prog 64 #[.agg #[.slice m 512 cm'],.agg (B_.b b A n c),.agg #[.int .i64 fc,.int .i64 fd,.int .i64 fp,.bool fw]] w (TolC w m A 512 (ys,b') 0):=by
 have h:=Xqa xs m cm' b A n c fc fd fp fw w hx hl h0 hb 0 ys b' hE (by rw[if_pos rfl];exact hr)
 rw[if_pos rfl]at h
 exact h
def AskP (w:World) (a:Ask) (AD:Option Addr) (nd cd gt:Nat) (A0:Option Addr) (n0:Nat) (R:List Int×Brg×Tld) (i:Nat) (s10 s11:Value) (W:World):Prop:=
 ∃(s:Dst) (gM mc:Nat) (L:Option Addr) (n c:Nat) (D:Option Addr) (dn dc:Nat) (T:Option Addr) (tn tc:Nat),s10=.int .i64 s.at_∧s11=.int .i64 s.page∧(0≤s.at_∧s.at_≤63)∧DOk a i s∧s.page=Xet a i∧dGo a (a.count.toNat - (i+1)) (i+1) (Xf3 a i s)=R∧s.touched.length=i∧s.data.length≤i∧DmaI w a AD nd cd gt gM mc L n c D dn dc T tn tc s W∧NewN w A0 n0 L n
section
variable (xs:List Int) (m:Option Addr) (mc:Nat) (b:Brg) (A0:Option Addr) (n0 c0:Nat) (dv at_ ct:Int) (data:List Int) (AD:Option Addr) (nd cd:Nat) (w:World) (hx:Ints w w.heap.size m 512 xs) (hl:Lines w w.heap.size A0 n0 c0 b.cache) (hd:Ints w w.heap.size AD nd data) (h0:cm xs=0) (hb:ckB b=0)
include hx hl hd h0 hb
theorem Xy8 (hq:reqE ⟨dv,at_,ct,true,data⟩=0) (R:List Int×Brg×Tld) (hR:dmaM xs b ⟨dv,at_,ct,true,data⟩=R) :
  Calls Tryz.prog 37 #[.agg #[.slice m 512 mc],.agg (B_.b b A0 n0 c0),.agg #[.int .i64 dv,.int .i64 at_,.int .i64 ct,.bool true,.slice AD nd cd]] w (Xq7 w A0 n0 R):=by
 obtain⟨i0,hi,hz0,hz1,hz2⟩:=info_parts Tryz.infoInt
 obtain⟨j0,hj,hj0,hj1,hj2⟩:=info_parts Tryz.infoTch
 have HX:=Zh hx
 have HL:=Zh hl
 have HD:=Zh hd
 have HQ:=Zh hq
 have HR:=Zh hR
 have HC0:=Zh h0
 have HCB:=Zh hb
 have HLN:=Zh hx.len
 obtain⟨mb,moff,rfl,hmb,hmc⟩:=hx.at_ (by decide)
 have HMC:=Zh hmc
 have HI:=Zh hi;clear hi
 have HZ0:=Zh hz0;clear hz0
 have HZ1:=Zh hz1;clear hz1
 have HZ2:=Zh hz2;clear hz2
 have HJ:=Zh hj;clear hj
 have HJ0:=Zh hj0;clear hj0
 have HJ1:=Zh hj1;clear hj1
 have HJ2:=Zh hj2;clear hj2
 have HONE:=Zh (Xcu xs)
 have HNW:Hid (∀ W:World,Below w.heap.size w W→∀ j u,(xs.map (Value.int .i64))[j]?=some u→W.cell? ((⟨mb,moff,none⟩:Addr).add j)=some u):=Zh (fun W hW j u hu=>by
  rw[List.getElem?_map,Option.map_eq_some_iff]at hu
  obtain⟨x,hx,rfl⟩:=hu
  rw[Xdx]
  exact(hW.cell (p:=⟨mb,moff+j,none⟩) hmb).trans (HMC.out j x hx))
 clear hx hl hd hq hR h0 hb hmc
 go_enter Tryz.func37,Tryz.ntmps37
 go_upto_region 2 with(at_builtin;refine wpList_append_lies _ rfl (.tmp 16) (.tmp 18) 22 rfl (w.heap.size+6) 3 i0 (.int .i64 0) 1 8 Tryz.underlying22 HI.out HZ0.out HZ1.out HZ2.out rfl (by decide) (.slice (some ⟨w.heap.size+1+1+1+1+1+1,0,none⟩) 0 0) 0 [] rfl (Xkb _ 3 1 _ _ (by simp) (by omega)) ⟨mb,moff,none⟩ 512 mc (xs.map (Value.int .i64)) rfl (by rw[List.length_map,HLN.out]) (HNW.out _ (bl (by repeat' first|with_reducible(first|assumption|constructor)|((try simp)<;>omega)))) HONE.out (by decide) (by unfold maxLen;decide) (by decide) (by simp) _ rfl ?_;intro gM cap w1 hown hgrow hat hlt;have hb1:=Xnl (Below.grown (B:=w.heap.size+6) (Below.refl _ _) (World.grownBy.trans (World.grownBy_alloc _ _ _) hgrow) (by simp) (by intro k hk;simp[Value.ownBlock]at hk;omega)) (by simp);have HO1:Hid (OwnI (w.heap.size+6) w1 (some ⟨gM,0,none⟩) 512 cap xs):=Zh ⟨HLN.out,by simpa using hown⟩;clear hown hgrow hat;have hz1:=hb1.size;(try simp only[Zs]at hz1);have k1_0_0:=(Xa9 hb1).1 (w.heap.size) 0 (by(try simp)<;>omega);obtain⟨l1_0,q1_0⟩:=(aft hb1 (w.heap.size) (by(try simp)<;>omega)).2;obtain⟨k1_1,l1_1,q1_1⟩:=aft hb1 (w.heap.size+1) (by(try simp)<;>omega);obtain⟨k1_2,l1_2,q1_2⟩:=aft hb1 (w.heap.size+1+1) (by(try simp)<;>omega);have k1_3_0:=(Xa9 hb1).1 (w.heap.size+1+1+1) 0 (by(try simp)<;>omega);obtain⟨l1_3,q1_3⟩:=(aft hb1 (w.heap.size+1+1+1) (by(try simp)<;>omega)).2;obtain⟨k1_4,l1_4,q1_4⟩:=aft hb1 (w.heap.size+1+1+1+1) (by(try simp)<;>omega);obtain⟨k1_5,l1_5,q1_5⟩:=aft hb1 (w.heap.size+1+1+1+1+1) (by(try simp)<;>omega);simp(maxDischargeDepth:=6) [go_sem, *]at k1_0_0 q1_0 k1_1 q1_1 k1_2 q1_2 k1_3_0 q1_3 k1_4 q1_4 k1_5 q1_5;have HB1:=Zh hb1;clear hb1)
 go_wp2
 have hG:=(Xat HO1.out.2 _ rfl)
 simp only[]at hG
 have HDI:Hid (DmaI w ⟨dv,at_,ct,true,data⟩ AD nd cd w1.heap.size gM cap A0 n0 c0 none 0 0 none 0 0 ⟨xs,b,[],[],0,-1⟩ ((w1.setCell ⟨w.heap.size,0,none⟩ (.slice (some ⟨gM,0,none⟩) 512 cap)).alloc (.cells B_.t 40))):=Zh (by
  have h:=DmaI.start (w:=w) (W:=w1.setCell ⟨w.heap.size,0,none⟩ (.slice (some ⟨gM,0,none⟩) 512 cap)) (a:=⟨dv,at_,ct,true,data⟩) (AD:=AD) (nd:=nd) (cd:=cd) (gM:=gM) (mc:=cap) (L:=A0) (n:=n0) (c:=c0) (xs:=xs) (b:=b) (bl (by repeat' first|with_reducible(first|assumption|constructor)|((try simp)<;>omega))) (by simp;omega) (by simp[go_sem,k1_0_0])
   (by unfold Xbj;simp[go_sem,k1_1]) (by unfold Xq8;simp[go_sem,k1_2]) (by simp[go_sem,k1_3_0]) (by unfold Xbj;simp[go_sem,k1_4,Brg.no,Ring.no]) (by unfold Xgt;simp[go_sem,k1_5,Tld.no])
   (fun q o h1 h2=>by
    have hq:q=w.heap.size∨q=w.heap.size+1∨q=w.heap.size+1+1∨q=w.heap.size+1+1+1∨q=w.heap.size+1+1+1+1∨q=w.heap.size+1+1+1+1+1:=by omega
    rcases hq with rfl|rfl|rfl|rfl|rfl|rfl<;>simp[go_sem,q1_0,q1_1,q1_2,q1_3,q1_4,q1_5])
   (HO1.out.set (by show w.heap.size<_;omega) _) (by refine Xah HL.out ?_;(refine bl ?_;repeat' first|with_reducible(first|assumption|constructor)|((try simp)<;>omega)))
   (fun h0 ad e=>by obtain⟨b',off,e',hb',_⟩:=HL.out.at_ h0;rw[e]at e';injection e' with e';subst e';simp only[]at hb' ⊢;omega)
  simp only[World.size_setCell]at h
  exact h)
 have HQI:=Zh (Xft HQ.out)
 have HGT:=Zh (show dGo ⟨dv,at_,ct,true,data⟩ ct.toNat 0 ⟨xs,b,[],[],0,-1⟩=R from HR.out)
 clear HB1 k1_0_0 k1_1 k1_2 k1_3_0 k1_4 k1_5 q1_0 q1_1 q1_2 q1_3 q1_4 q1_5 l1_0 l1_1 l1_2 l1_3 l1_4 l1_5 hz1 HO1 hG hlt HONE HMC HNW hmb
 go_loopw [10,11,23] (fun s10 s11 s23 wr=>AskL w ⟨dv,at_,ct,true,data⟩ AD nd cd w1.heap.size A0 n0 R s10 s11 s23 wr) (fun _ _ s23 _=>ct.toNat - (intOf s23).toNat)
 case atStart=>exact⟨0,_,_,_,_,_,_,_,_,_,_,_,_,rfl,rfl,rfl,by have h:=HQI.out.1;simp only[]at h;show(0:Int)≤ct;omega,Xgd HC0.out HCB.out,HGT.out,rfl,Nat.le_refl _,HDI.out,Xdk _ _ _⟩
 case round=>
  clear HDI HGT HX HL HC0 HCB HR
  obtain⟨i,s,gM,mcc,L,n,c,D,dn,dc,T,tn,tc,rfl,rfl,rfl,hi,hok,hgo,hlt1,hld,hI,hNw⟩:=hrel
  have HNw:=Zh hNw
  clear hNw
  have hqi:=HQI.out
  have hrq:=hqi.2.1
  unfold reqR at hrq
  simp only[]at hi hqi hrq
  obtain⟨⟨hc1,hc2⟩,_,hdl,_⟩:=hqi
  obtain⟨⟨hd1,hd2⟩,ha1,ha2⟩:=hrq
  have HOK:=Zh hok
  have HGO:=Zh hgo
  have HTL:=Zh hlt1
  have HDL:=Zh hld
  have HI2:=Zh hI
  obtain⟨hgt1,hgt2⟩:=And.intro hI.gt1 hI.gt2
  obtain⟨hgM1,hgM2⟩:=hI.gM1
  have hfM:=hI.fM
  have hzz:=Below.size hI.below
  have m0:=hI.m0
  obtain⟨a0,a1,a2,a3,a4⟩:=hI.ask
  obtain⟨t0,t1,t2,t3⟩:=hI.tl
  obtain⟨b0,b1,b2,b3,b4,b5,b6,b7,b8,b9,b10,b11⟩:=hI.br
  simp only[]at a0 a1 a2 a3 a4 t0 t1 t2 t3
  have f0:=fun o=>hI.fz (w.heap.size) o (Or.inl (by omega))
  have f1:=fun o=>hI.fz (w.heap.size+1) o (Or.inl (by omega))
  have f3:=fun o=>hI.fz (w.heap.size+1+1+1) o (Or.inl (by omega))
  have f4:=fun o=>hI.fz (w.heap.size+1+1+1+1) o (Or.inl (by omega))
  have f5:=fun o=>hI.fz (w.heap.size+1+1+1+1+1) o (Or.inl (by omega))
  have f6:=fun o=>hI.fz w1.heap.size o (Or.inr rfl)
  have x0:w.heap.size<wr.heap.size:=by omega
  have y0a:¬w.heap.size=gM:=by omega
  have y0b:¬gM=w.heap.size:=by omega
  have z0a:¬w.heap.size=w1.heap.size:=by omega
  have z0b:¬w1.heap.size=w.heap.size:=by omega
  have x1:w.heap.size+1<wr.heap.size:=by omega
  have y1a:¬w.heap.size+1=gM:=by omega
  have y1b:¬gM=w.heap.size+1:=by omega
  have z1a:¬w.heap.size+1=w1.heap.size:=by omega
  have z1b:¬w1.heap.size=w.heap.size+1:=by omega
  have x2:w.heap.size+1+1<wr.heap.size:=by omega
  have y2a:¬w.heap.size+1+1=gM:=by omega
  have y2b:¬gM=w.heap.size+1+1:=by omega
  have z2a:¬w.heap.size+1+1=w1.heap.size:=by omega
  have z2b:¬w1.heap.size=w.heap.size+1+1:=by omega
  have x3:w.heap.size+1+1+1<wr.heap.size:=by omega
  have y3a:¬w.heap.size+1+1+1=gM:=by omega
  have y3b:¬gM=w.heap.size+1+1+1:=by omega
  have z3a:¬w.heap.size+1+1+1=w1.heap.size:=by omega
  have z3b:¬w1.heap.size=w.heap.size+1+1+1:=by omega
  have x4:w.heap.size+1+1+1+1<wr.heap.size:=by omega
  have y4a:¬w.heap.size+1+1+1+1=gM:=by omega
  have y4b:¬gM=w.heap.size+1+1+1+1:=by omega
  have z4a:¬w.heap.size+1+1+1+1=w1.heap.size:=by omega
  have z4b:¬w1.heap.size=w.heap.size+1+1+1+1:=by omega
  have x5:w.heap.size+1+1+1+1+1<wr.heap.size:=by omega
  have y5a:¬w.heap.size+1+1+1+1+1=gM:=by omega
  have y5b:¬gM=w.heap.size+1+1+1+1+1:=by omega
  have z5a:¬w.heap.size+1+1+1+1+1=w1.heap.size:=by omega
  have z5b:¬w1.heap.size=w.heap.size+1+1+1+1+1:=by omega
  have z6a:¬gM=w1.heap.size:=hfM
  have z6b:¬w1.heap.size=gM:=fun e=>hfM e.symm
  by_cases hlt:(i:Int)<ct
  rotate_left
  ·have hie:(i:Int)=ct:=by omega
   have HRE:Hid ((s.xs,s.b,(⟨true,s.data,0,s.touched⟩:Tld))=R):=Zh (by
    have h:=HGO.out
    rw[show(⟨dv,at_,ct,true,data⟩:Ask).count.toNat - i=0 by show ct.toNat - i=0;omega]at h
    exact h)
   have hnl:¬(i:Int)<ct:=hlt
   have z3:=hI.z3
   obtain⟨c0,c1,c2,c3,c4,c5,c6,c7,c8,c9,c10,c11⟩:=hI.z4
   obtain⟨d0,d1,d2,d3⟩:=hI.z5
   simp only[Brg.no,Ring.no,Tld.no]at c0 c1 c2 c3 c4 c5 c6 c7 c8 c9 c10 c11 d0 d1 d2 d3
   clear hI hok hgo hlt1 hld hlt hfM hie a0 a1 a3 a4
   go_wp2
   go_region
   all_goals
    go_wp2
    rw[←HRE.out]
    refine bodyPost_ret (v:=.tuple #[.agg #[.slice (some ⟨gM,0,none⟩) 512 mcc],.agg (B_.b s.b L n c),.agg #[.bool true,.slice D dn dc,.int .i64 0,.slice T tn tc]]) ?_ rfl (Xpr HI2.out ?_ HNw.out true 0)
    ·simp(maxDischargeDepth:=8) [results,Tryz.results37,go_sem, *]
    ·(repeat(first|(with_reducible exact Xaq _)|(with_reducible refine Xa7 ?_ _)|(with_reducible refine Xa5 ?_)|(with_reducible refine Xay ?_ _)|((with_reducible refine Xbb ?_ ?_ _);rotate_left;exact(by first|(simp;done)|(simp[Xbe];done)|(simp[Xbe];omega)|omega))))
  have hin:=d_in (a:=⟨dv,at_,ct,true,data⟩) (i:=i) HQ.out hlt
  obtain⟨hin1,hin2⟩:=hin
  have HIN:=Zh hin1
  have hdp:Xet ⟨dv,at_,ct,true,data⟩ i=(at_+i) / 8:=rfl
  have e1:(at_+(i:Int)).tdiv 8=(at_+i) / 8:=Int.tdiv_eq_ediv_of_nonneg (by omega)
  have e2:(at_+(i:Int)).tmod 8=(at_+i) % 8:=Int.tmod_eq_emod_of_nonneg (by omega)
  have hcnt:ct.toNat - i=(ct.toNat - (i+1))+1:=by omega
  have HCN:=Zh hcnt
  have HLT:=Zh hlt
  clear hI hok hgo hlt1 hld hcnt hin1 hin2
  go_upto_if 33 with(fail)
  go_cut [10,11] (fun s10 s11 wd=>AskP w ⟨dv,at_,ct,true,data⟩ AD nd cd w1.heap.size A0 n0 R i s10 s11 wd)
  case first=>
   by_cases hp:Xet ⟨dv,at_,ct,true,data⟩ i=s.page
   ·have tp:((at_+(i:Int)) / 8 != s.page)=false:=by rw[bne_eq_false_iff_eq,←hdp];exact hp
    have HP:=Zh hp
    clear hp hdp
    go_wp2
    go_meet
    exact⟨s,_,_,_,_,_,_,_,_,_,_,_,rfl,rfl,HOK.out.kp (by rw[←HP.out];have:=HIN.out;unfold inD at this;omega),HOK.out,HP.out.symm,Xi0 HGO.out HCN.out HP.out,HTL.out,HDL.out,HI2.out,HNw.out⟩
   ·have tp:((at_+(i:Int)) / 8 != s.page)=true:=by rw[bne_iff_ne,←hdp];exact hp
    have HP:=Zh hp
    obtain⟨rb,ra,rf,hr⟩:∃ rb ra rf,Xdh s.xs s.b dv ((at_+i) / 8) true=(rb,ra,rf):=⟨_,_,_,rfl⟩
    have HTR:=Zh (show Xdb ⟨dv,at_,ct,true,data⟩ i s=(rb,ra,rf)from hr)
    have HKB:=Zh (show ckB rb=0 by have h:=(HOK.out.next HQ.out HLT.out).kb;rw[show(Xg8 ⟨dv,at_,ct,true,data⟩ i s).b=rb by show(Xdb ⟨dv,at_,ct,true,data⟩ i s).1=rb;rw[HTR.out]]at h;exact h)
    clear hp hdp
    go_wp2_with fail
    refine(Xmp s.xs (some ⟨gM,0,none⟩) mcc s.b L n c dv ((at_+i) / 8) true rb ra rf wr (HI2.out.rm.ints (by decide)) HI2.out.rl HOK.out.km HOK.out.kb HIN.out hr).mono ?_
    rintro e w2 ⟨L',n',c',rfl,hl2,hb2,hn2⟩
    have HI3:=Zh (HI2.out.since hb2)
    have HL2:=Zh hl2
    have HN2:=Zh hn2
    have HB2:=Zh hb2
    have hI3:=HI3.out
    have hz2:=Below.size hb2
    clear hl2 hn2 hb2 hr m0 a0 a1 a2 a3 a4 t1 t2 t3 b0 b1 b2 b3 b4 b5 b6 b7 b8 b9 b10 b11 f0 f1 f3 f4 f5 f6
    have m0:=hI3.m0
    obtain⟨a0,a1,a2,a3,a4⟩:=hI3.ask
    obtain⟨t0,t1,t2,t3⟩:=hI3.tl
    obtain⟨b0,b1,b2,b3,b4,b5,b6,b7,b8,b9,b10,b11⟩:=hI3.br
    simp only[]at a0 a1 a2 a3 a4 t0 t1 t2 t3
    have f0:=fun o=>hI3.fz (w.heap.size) o (Or.inl (by omega))
    have f1:=fun o=>hI3.fz (w.heap.size+1) o (Or.inl (by omega))
    have f3:=fun o=>hI3.fz (w.heap.size+1+1+1) o (Or.inl (by omega))
    have f4:=fun o=>hI3.fz (w.heap.size+1+1+1+1) o (Or.inl (by omega))
    have f5:=fun o=>hI3.fz (w.heap.size+1+1+1+1+1) o (Or.inl (by omega))
    have f6:=fun o=>hI3.fz w1.heap.size o (Or.inr rfl)
    have xx0:w.heap.size<w2.heap.size:=by omega
    have xx1:w.heap.size+1<w2.heap.size:=by omega
    have xx2:w.heap.size+1+1<w2.heap.size:=by omega
    have xx3:w.heap.size+1+1+1<w2.heap.size:=by omega
    have xx4:w.heap.size+1+1+1+1<w2.heap.size:=by omega
    have xx5:w.heap.size+1+1+1+1+1<w2.heap.size:=by omega
    have xx6:w1.heap.size<w2.heap.size:=by omega
    clear hI3
    by_cases hf:rf=0
    ·subst hf
     go_wp2
     go_meet
     refine⟨Xg8 ⟨dv,at_,ct,true,data⟩ i s,gM,mcc,L',n',c',D,dn,dc,T,tn,tc, ?_,rfl, ?_,HOK.out.next HQ.out HLT.out,rfl,Xla HGO.out HCN.out HP.out (by rw[HTR.out]),HTL.out,HDL.out, ?_,Xhl HNw.out HN2.out (Below.size HI2.out.below)⟩
     ·show _=Value.int .i64 (Xdb ⟨dv,at_,ct,true,data⟩ i s).2.1;rw[HTR.out]
     ·exact(Xgf HOK.out.kb HIN.out).1
     ·have e:Xg8 ⟨dv,at_,ct,true,data⟩ i s=⟨s.xs,rb,s.data,s.touched,ra,(at_+i) / 8⟩:=by show(⟨s.xs,(Xdb ⟨dv,at_,ct,true,data⟩ i s).1,s.data,s.touched,(Xdb ⟨dv,at_,ct,true,data⟩ i s).2.1,(at_+i) / 8⟩:Dst)=_;rw[HTR.out]
      rw[e]
      refine HI2.out.brgL HB2.out HL2.out HN2.out ?_ ?_ ?_ _ _
      ·(repeat(first|(with_reducible exact Xaq _)|(with_reducible refine Xa7 ?_ _)|(with_reducible refine Xa5 ?_)|(with_reducible refine Xay ?_ _)|((with_reducible refine Xbb ?_ ?_ _);rotate_left;exact(by first|(simp;done)|(simp[Xbe];done)|(simp[Xbe];omega)|omega))))
      ·intro o;simp[go_sem,f1]
      ·unfold Xbj;simp(maxDischargeDepth:=8) [go_sem, *]
    ·have t1':(rf != 0)=true:=by rw[bne_iff_ne];exact hf
     have HF:=Zh (Xt3 HQ.out HLT.out HOK.out (by rw[HTR.out];exact hf))
     obtain⟨ys,b',hys⟩:∃ ys b',Xdu s.xs rb (fltW rf dv ((at_+i) / 8) true)=(ys,b'):=⟨_,_,rfl⟩
     have HBC:=Zh (show b'.cache=rb.cache by have h:=Xi4 (xs:=s.xs) (b:=rb) (v:=fltW rf dv ((at_+i) / 8) true);rw[hys]at h;exact h)
     have HRE:Hid ((ys,b',(⟨false,s.data,rf,s.touched⟩:Tld))=R):=Zh (by
      rw[←Xiz HGO.out HCN.out HP.out (by rw[HTR.out];exact hf)]
      have e:Xdu s.xs rb (dFlt ⟨dv,at_,ct,true,data⟩ i s).w=(ys,b'):=by
       rw[show(dFlt ⟨dv,at_,ct,true,data⟩ i s).w=fltW rf dv ((at_+i) / 8) true by show fltW (Xdb ⟨dv,at_,ct,true,data⟩ i s).2.2 dv ((at_+i) / 8) true=_;rw[HTR.out]]
       exact hys
      unfold Xmu
      rw[HTR.out]
      simp only[]
      rw[e])
     have HYS:=Zh hys
     clear hf hys
     go_wp2_with fail
     refine(Xos s.xs ys (some ⟨gM,0,none⟩) mcc rb b' L' n' c' rf dv ((at_+i) / 8) true _ ?_ ?_ HOK.out.km HKB.out (by have h:=HF.out;rw[show(dFlt ⟨dv,at_,ct,true,data⟩ i s).e=fltE rf dv ((at_+i) / 8) by show fltE (Xdb ⟨dv,at_,ct,true,data⟩ i s).2.2 dv ((at_+i) / 8)=_;rw[HTR.out]]at h;exact h) HYS.out).mono ?_
     ·refine Xfy (P:=fun q=>q=w.heap.size+1) (HI3.out.rm.ints (by decide)) ?_ (fun ad e=>by injection e with e;subst e;show ¬gM=_;omega)
      (repeat(first|(with_reducible exact Xaq _)|(with_reducible refine Xa7 ?_ _)|(with_reducible refine Xa5 ?_)|(with_reducible refine Xay ?_ _)|((with_reducible refine Xbb ?_ ?_ _);rotate_left;exact(by first|(simp;done)|(simp[Xbe];done)|(simp[Xbe];omega)|omega))))
     ·refine Xc9 (P:=fun q=>q=w.heap.size+1) HL2.out ?_ (fun h0 ad e hq=>?_)
      ·(repeat(first|(with_reducible exact Xaq _)|(with_reducible refine Xa7 ?_ _)|(with_reducible refine Xa5 ?_)|(with_reducible refine Xay ?_ _)|((with_reducible refine Xbb ?_ ?_ _);rotate_left;exact(by first|(simp;done)|(simp[Xbe];done)|(simp[Xbe];omega)|omega))))
      ·rcases HN2.out with⟨rfl,rfl⟩|hn
       ·have:=HI2.out.fL h0 ad e;omega
       ·have:=hn ad e;omega
     rintro e w4 ⟨M4,d4,L4,n4,c4,rfl,hx4,hl4,hb4,hnM,hnL⟩
     have HI5:=Zh (DmaI.since (HI2.out.brgL HB2.out HL2.out HN2.out (by(repeat(first|(with_reducible exact Xaq _)|(with_reducible refine Xa7 ?_ _)|(with_reducible refine Xa5 ?_)|(with_reducible refine Xay ?_ _)|((with_reducible refine Xbb ?_ ?_ _);rotate_left;exact(by first|(simp;done)|(simp[Xbe];done)|(simp[Xbe];omega)|omega))))) (by intro o;simp[go_sem,f1]) (by unfold Xbj;simp(maxDischargeDepth:=8) [go_sem, *]) ra ((at_+i) / 8)) hb4)
     have hz4:=hb4.size
     (try simp only[Zs]at hz4)
     have HM4:Hid (∀ ad,M4=some ad→¬Xbe w.heap.size w1.heap.size ad.block):=Zh (fun ad e hq=>by
      rcases hnM ad e with e'|e'
      ·injection e' with e';subst e';rcases hq with hq|hq<;>simp only[]at hq<;>omega
      ·simp only[World.size_setCell]at e';rcases hq with hq|hq<;>omega)
     have HL4:Hid (0<n4→∀ ad,L4=some ad→¬Xbe w.heap.size w1.heap.size ad.block):=Zh (fun h0 ad e hq=>by
      have hn4:n4=n':=by rw[←hl4.len,HBC.out,HL2.out.len]
      rw[hn4]at h0
      rcases hnL ad e with e'|e'
      ·have hf5:=HI5.out.fL h0 ad e';rcases hq with hq|hq<;>omega
      ·simp only[World.size_setCell]at e';rcases hq with hq|hq<;>omega)
     have HMF:Hid (∀ ad,M4=some ad→w.heap.size≤ad.block):=Zh (fun ad e=>by
      rcases hnM ad e with e'|e'
      ·injection e' with e';subst e';show w.heap.size≤gM;omega
      ·simp only[World.size_setCell]at e';omega)
     have HNf:Hid (NewN w A0 n0 L4 n4):=Zh (Xst (Xhl HNw.out HN2.out (Below.size HI2.out.below)) hnL (by rw[←hl4.len,HBC.out,HL2.out.len]) (by(try simp only[World.size_setCell]);omega))
     have HX4:=Zh hx4
     have HLL4:=Zh hl4
     clear hx4 hl4 hb4 hnM hnL m0 a0 a1 a2 a3 a4 t0 t1 t2 t3 b0 b1 b2 b3 b4 b5 b6 b7 b8 b9 b10 b11 f0 f1 f3 f4 f5 f6 xx0 xx1 xx2 xx3 xx4 xx5 xx6
     have hI5:=HI5.out
     have m0:=hI5.m0
     obtain⟨a0,a1,a2,a3,a4⟩:=hI5.ask
     obtain⟨t0,t1,t2,t3⟩:=hI5.tl
     obtain⟨b0,b1,b2,b3,b4,b5,b6,b7,b8,b9,b10,b11⟩:=hI5.br
     simp only[]at a0 a1 a2 a3 a4 t0 t1 t2 t3
     have f0:=fun o=>hI5.fz (w.heap.size) o (Or.inl (by omega))
     have f1:=fun o=>hI5.fz (w.heap.size+1) o (Or.inl (by omega))
     have f3:=fun o=>hI5.fz (w.heap.size+1+1+1) o (Or.inl (by omega))
     have f4:=fun o=>hI5.fz (w.heap.size+1+1+1+1) o (Or.inl (by omega))
     have f5:=fun o=>hI5.fz (w.heap.size+1+1+1+1+1) o (Or.inl (by omega))
     have f6:=fun o=>hI5.fz w1.heap.size o (Or.inr rfl)
     have xx0:w.heap.size<w4.heap.size:=by omega
     have xx1:w.heap.size+1<w4.heap.size:=by omega
     have xx2:w.heap.size+1+1<w4.heap.size:=by omega
     have xx3:w.heap.size+1+1+1<w4.heap.size:=by omega
     have xx4:w.heap.size+1+1+1+1<w4.heap.size:=by omega
     have xx5:w.heap.size+1+1+1+1+1<w4.heap.size:=by omega
     have xx6:w1.heap.size<w4.heap.size:=by omega
     clear hI5
     have z3:=HI5.out.z3
     obtain⟨c0,c1,c2,c3,c4',c5,c6,c7,c8,c9,c10,c11⟩:=HI5.out.z4
     obtain⟨d0,d1,d2,d3⟩:=HI5.out.z5
     simp only[Brg.no,Ring.no,Tld.no]at c0 c1 c2 c3 c4' c5 c6 c7 c8 c9 c10 c11 d0 d1 d2 d3
     go_wp2
     go_region
     all_goals
      go_wp2
      rw[←HRE.out]
      refine bodyPost_ret (v:=.tuple #[.agg #[.slice M4 512 d4],.agg (B_.b b' L4 n4 c4),.agg #[.bool false,.slice D dn dc,.int .i64 rf,.slice T tn tc]]) ?_ rfl (Xpq HI5.out ?_ HX4.out HLL4.out HM4.out HL4.out HMF.out HNf.out rf)
      ·simp(maxDischargeDepth:=8) [results,Tryz.results37,go_sem, *]
      ·(repeat(first|(with_reducible exact Xaq _)|(with_reducible refine Xa7 ?_ _)|(with_reducible refine Xa5 ?_)|(with_reducible refine Xay ?_ _)|((with_reducible refine Xbb ?_ ?_ _);rotate_left;exact(by first|(simp;done)|(simp[Xbe];done)|(simp[Xbe];omega)|omega))))
  case rest=>
   clear HOK HGO HTL HDL HI2 HNw m0 a0 a1 a2 a3 a4 t0 t1 t2 t3 b0 b1 b2 b3 b4 b5 b6 b7 b8 b9 b10 b11 f0 f1 f3 f4 f5 f6 x0 y0a y0b z0a z0b x1 y1a y1b z1a z1b x2 y2a y2b z2a z2b x3 y3a y3b z3a z3b x4 y4a y4b z4a z4b x5 y5a y5b z5a z5b hgt2 hgM1 hgM2 hfM hzz z6a z6b hlt
   obtain⟨s,gM,mcc,L,n,c,D,dn,dc,T,tn,tc,rfl,rfl,hat,hok,hpg,hgo,htl,hdl2,hI,hNw⟩:=hcut
   have HNw:=Zh hNw
   clear hNw
   obtain⟨hat1,hat2⟩:=hat
   have hi2:(i:Int)<ct:=HLT.out
   have HOK:=Zh hok
   have HGO:=Zh hgo
   have HPG:=Zh hpg
   have HTL:=Zh htl
   have HDL:=Zh hdl2
   have HI2:=Zh hI
   have hgt2:=hI.gt2
   obtain⟨hgM1,hgM2⟩:=hI.gM1
   have hfM:=hI.fM
   have hzz:=Below.size hI.below
   obtain⟨K,hK⟩:∃ K,K=s.at_ * 8+(at_+(i:Int)) % 8:=⟨_,rfl⟩
   have HK:=Zh (show dAt ⟨dv,at_,ct,true,data⟩ i s=K from hK.symm)
   have k1:(0:Int)≤K:=by omega
   have k2:K<512:=by omega
   have e8:8 * s.at_+(at_+(i:Int)) % 8=K:=by omega
   have m8:IntKind.i64.wrap (8 * s.at_)=8 * s.at_:=IntWalk.i64_in _ (by omega)
   have m9:IntKind.i64.wrap K=K:=IntWalk.i64_in _ (by omega)
   obtain⟨_,eg,_,_,hgc,hgf,hgs⟩:=Xb3 hI.rm (by decide)
   injection eg with eg
   injection eg with eg
   subst eg
   have hcM:=hgc _ _ (Xc7 (i:=K) (Xaz hok.km).1 ⟨k1,k2⟩)
   have HRT:=Zh hI.rt.2.2.2
   have HFT:=Zh hI.fT
   have HRD:=Zh hI.rd.2
   have HFD:=Zh hI.fD
   have HTN:=Zh (show tn=i by rw[←hI.rt.1];exact htl)
   have hdn:dn≤i:=by rw[←hI.rd.1];exact hdl2
   have m0:=hI.m0
   obtain⟨a0,a1,a2,a3,a4⟩:=hI.ask
   obtain⟨t0,t1,t2,t3⟩:=hI.tl
   obtain⟨b0,b1,b2,b3,b4,b5,b6,b7,b8,b9,b10,b11⟩:=hI.br
   simp only[]at a0 a1 a2 a3 a4 t0 t1 t2 t3
   have f0:=fun o=>hI.fz (w.heap.size) o (Or.inl (by omega))
   have f1:=fun o=>hI.fz (w.heap.size+1) o (Or.inl (by omega))
   have f3:=fun o=>hI.fz (w.heap.size+1+1+1) o (Or.inl (by omega))
   have f4:=fun o=>hI.fz (w.heap.size+1+1+1+1) o (Or.inl (by omega))
   have f5:=fun o=>hI.fz (w.heap.size+1+1+1+1+1) o (Or.inl (by omega))
   have f6:=fun o=>hI.fz w1.heap.size o (Or.inr rfl)
   have xx0:w.heap.size<wc.heap.size:=by omega
   have xx1:w.heap.size+1<wc.heap.size:=by omega
   have xx2:w.heap.size+1+1<wc.heap.size:=by omega
   have xx3:w.heap.size+1+1+1<wc.heap.size:=by omega
   have xx4:w.heap.size+1+1+1+1<wc.heap.size:=by omega
   have xx5:w.heap.size+1+1+1+1+1<wc.heap.size:=by omega
   have xx6:w1.heap.size<wc.heap.size:=by omega
   have y0a:¬w.heap.size=gM:=by omega
   have y0b:¬gM=w.heap.size:=by omega
   have z0a:¬w.heap.size=w1.heap.size:=by omega
   have z0b:¬w1.heap.size=w.heap.size:=by omega
   have y1a:¬w.heap.size+1=gM:=by omega
   have y1b:¬gM=w.heap.size+1:=by omega
   have z1a:¬w.heap.size+1=w1.heap.size:=by omega
   have z1b:¬w1.heap.size=w.heap.size+1:=by omega
   have y2a:¬w.heap.size+1+1=gM:=by omega
   have y2b:¬gM=w.heap.size+1+1:=by omega
   have z2a:¬w.heap.size+1+1=w1.heap.size:=by omega
   have z2b:¬w1.heap.size=w.heap.size+1+1:=by omega
   have y3a:¬w.heap.size+1+1+1=gM:=by omega
   have y3b:¬gM=w.heap.size+1+1+1:=by omega
   have z3a:¬w.heap.size+1+1+1=w1.heap.size:=by omega
   have z3b:¬w1.heap.size=w.heap.size+1+1+1:=by omega
   have y4a:¬w.heap.size+1+1+1+1=gM:=by omega
   have y4b:¬gM=w.heap.size+1+1+1+1:=by omega
   have z4a:¬w.heap.size+1+1+1+1=w1.heap.size:=by omega
   have z4b:¬w1.heap.size=w.heap.size+1+1+1+1:=by omega
   have y5a:¬w.heap.size+1+1+1+1+1=gM:=by omega
   have y5b:¬gM=w.heap.size+1+1+1+1+1:=by omega
   have z5a:¬w.heap.size+1+1+1+1+1=w1.heap.size:=by omega
   have z5b:¬w1.heap.size=w.heap.size+1+1+1+1+1:=by omega
   have z6a:¬gM=w1.heap.size:=hfM
   have z6b:¬w1.heap.size=gM:=fun e=>hfM e.symm
   have z7a:¬wc.heap.size=gM:=by omega
   have z7b:¬gM=wc.heap.size:=by omega
   have z8a:¬wc.heap.size=w1.heap.size:=by omega
   have z8b:¬w1.heap.size=wc.heap.size:=by omega
   clear hI hok hgo hpg htl hdl2 hgc hgs hK b0 b1 b2 b3 b4 b5 b6 b7 b8 b9 b10 b11
   obtain⟨v,hv⟩:∃ v,v=rd data (i:Int):=⟨_,rfl⟩
   have hnd:(nd:Int)=ct:=by rw[←HD.out.len];exact hdl
   have n1:(0:Int)≤(i:Int):=by omega
   have n2:(i:Int)<(nd:Int):=by omega
   obtain⟨db,doff,rfl,hdb,hdc⟩:=HD.out.at_ (by omega)
   have hdx:data[i]?=some v:=by rw[hv];have:=rd_get (xs:=data) (k:=(i:Int)) (n:=nd) HD.out.len n1 n2;simpa using this
   have hdW:=(HI2.out.below.cell (p:=⟨db,doff+i,none⟩) hdb).trans (hdc i v hdx)
   have HV:=Zh hv
   have HDW:Hid (Xf3 ⟨dv,at_,ct,true,data⟩ i s=⟨s.xs.set K.toNat v,s.b,s.data,s.touched ++ [⟨dv,at_+i,K,true,v⟩],s.at_,s.page⟩):=Zh (by
    have e1:dPut ⟨dv,at_,ct,true,data⟩ i s=s.xs.set K.toNat v:=by show s.xs.set (dAt ⟨dv,at_,ct,true,data⟩ i s).toNat (rd data (i:Int))=_;rw[HK.out,HV.out]
    unfold Xf3 dTch
    rw[e1,HK.out,Xse (Xaz HOK.out.km).1 ⟨k1,k2⟩]
    rfl)
   have hld:i<data.length:=by rw[HD.out.len];omega
   have hdl3:db<wc.heap.size:=by omega
   clear hdc hdb hv hdx HD hnd
   go_wp2
   go_region
   all_goals
    go_wp2_with (at_builtin;go_loud (refine wpList_append_lies _ rfl (.tmp 110) (.tmp 112) 38 rfl (w.heap.size+6) 76 j0 (.agg #[.int .i64 0,.int .i64 0,.int .i64 0,.bool false,.int .i64 0]) 5 40 Tryz.underlying38 HJ.out HJ0.out HJ1.out HJ2.out rfl (by decide) (.slice T tn tc) tn (Xd0 s.touched) rfl (Xdc HRT.out (P:=fun q=>q=gM) (by(repeat(first|(with_reducible exact Xaq _)|(with_reducible refine Xa7 ?_ _)|(with_reducible refine Xa5 ?_)|(with_reducible refine Xay ?_ _)|((with_reducible refine Xbb ?_ ?_ _);rotate_left;exact(by first|(simp;done)|(simp[Xbe];done)|(simp[Xbe];omega)|omega))))) (fun ad e=>(HFT.out ad e).2.1)) ⟨wc.heap.size+1,0,none⟩ 1 1 (Tch.vals ⟨dv,at_+i,K,true,v⟩) rfl rfl (Xcz (by simp) rfl) (Xkq _) (by decide) (by have:=HTN.out;unfold maxLen;omega) (by have:=HTN.out;omega) (by simp;omega) _ rfl ?_;intro g cap W5 hown hgrow hat5 hlt5;have HT5:=Zh (HI2.out.tchg (by(repeat(first|(with_reducible exact Xaq _)|(with_reducible refine Xa7 ?_ _)|(with_reducible refine Xa5 ?_)|(with_reducible refine Xay ?_ _)|((with_reducible refine Xbb ?_ ?_ _);rotate_left;exact(by first|(simp;done)|(simp[Xbe];done)|(simp[Xbe];omega)|omega))))) (Xbu (P:=fun q=>q=wc.heap.size) (Xh2 (k:=K.toNat) (Xbu (P:=fun _=>False) HI2.out.rm (by(repeat(first|(with_reducible exact Xaq _)|(with_reducible refine Xa7 ?_ _)|(with_reducible refine Xa5 ?_)|(with_reducible refine Xay ?_ _)|((with_reducible refine Xbb ?_ ?_ _);rotate_left;exact(by first|(simp;done)|(simp[Xbe];done)|(simp[Xbe];omega)|omega))))) (fun _ _ h=>h)) (by omega) v) (by(repeat(first|(with_reducible exact Xaq _)|(with_reducible refine Xa7 ?_ _)|(with_reducible refine Xa5 ?_)|(with_reducible refine Xay ?_ _)|((with_reducible refine Xbb ?_ ?_ _);rotate_left;exact(by first|(simp;done)|(simp[Xbe];done)|(simp[Xbe];omega)|omega))))) (fun ad e=>by injection e with e;subst e;show ¬gM=_;omega)) hgrow hown hat5);clear hown hgrow hat5 hlt5;obtain⟨⟨q0,q1,q2,q3⟩,f5t,lt5,_⟩:=HT5.out;(try simp only[]at q3)))
    go_roundw
    case rel=>
     refine⟨i+1,Xf3 ⟨dv,at_,ct,true,data⟩ i s,gM,mcc,L,n,c,D,dn,dc,some ⟨g,0,none⟩,tn+1,cap,by go_num,by rw[HDW.out],by rw[HDW.out],by show((i+1:Nat):Int)≤ct;omega,HOK.out.word HQ.out HLT.out,HGO.out, ?_, ?_, ?_,HNw.out⟩
     ·rw[HDW.out];simp[HTL.out]
     ·rw[HDW.out];exact Nat.le_succ_of_le HDL.out
     ·rw[HDW.out];exact HT5.out.2.2.2
    case measure=>simp[intOf];omega
theorem Xy9 (hq:reqE ⟨dv,at_,ct,false,data⟩=0) (R:List Int×Brg×Tld) (hR:dmaM xs b ⟨dv,at_,ct,false,data⟩=R) :
  Calls Tryz.prog 37 #[.agg #[.slice m 512 mc],.agg (B_.b b A0 n0 c0),.agg #[.int .i64 dv,.int .i64 at_,.int .i64 ct,.bool false,.slice AD nd cd]] w (Xq7 w A0 n0 R):=by
 obtain⟨i0,hi,hz0,hz1,hz2⟩:=info_parts Tryz.infoInt
 obtain⟨j0,hj,hj0,hj1,hj2⟩:=info_parts Tryz.infoTch
 have HX:=Zh hx
 have HL:=Zh hl
 have HD:=Zh hd
 have HQ:=Zh hq
 have HR:=Zh hR
 have HC0:=Zh h0
 have HCB:=Zh hb
 have HLN:=Zh hx.len
 obtain⟨mb,moff,rfl,hmb,hmc⟩:=hx.at_ (by decide)
 have HMC:=Zh hmc
 have HI:=Zh hi;clear hi
 have HZ0:=Zh hz0;clear hz0
 have HZ1:=Zh hz1;clear hz1
 have HZ2:=Zh hz2;clear hz2
 have HJ:=Zh hj;clear hj
 have HJ0:=Zh hj0;clear hj0
 have HJ1:=Zh hj1;clear hj1
 have HJ2:=Zh hj2;clear hj2
 have HONE:=Zh (Xcu xs)
 have HNW:Hid (∀ W:World,Below w.heap.size w W→∀ j u,(xs.map (Value.int .i64))[j]?=some u→W.cell? ((⟨mb,moff,none⟩:Addr).add j)=some u):=Zh (fun W hW j u hu=>by
  rw[List.getElem?_map,Option.map_eq_some_iff]at hu
  obtain⟨x,hx,rfl⟩:=hu
  rw[Xdx]
  exact(hW.cell (p:=⟨mb,moff+j,none⟩) hmb).trans (HMC.out j x hx))
 clear hx hl hd hq hR h0 hb hmc
 go_enter Tryz.func37,Tryz.ntmps37
 go_upto_region 2 with(at_builtin;refine wpList_append_lies _ rfl (.tmp 16) (.tmp 18) 22 rfl (w.heap.size+6) 3 i0 (.int .i64 0) 1 8 Tryz.underlying22 HI.out HZ0.out HZ1.out HZ2.out rfl (by decide) (.slice (some ⟨w.heap.size+1+1+1+1+1+1,0,none⟩) 0 0) 0 [] rfl (Xkb _ 3 1 _ _ (by simp) (by omega)) ⟨mb,moff,none⟩ 512 mc (xs.map (Value.int .i64)) rfl (by rw[List.length_map,HLN.out]) (HNW.out _ (bl (by repeat' first|with_reducible(first|assumption|constructor)|((try simp)<;>omega)))) HONE.out (by decide) (by unfold maxLen;decide) (by decide) (by simp) _ rfl ?_;intro gM cap w1 hown hgrow hat hlt;have hb1:=Xnl (Below.grown (B:=w.heap.size+6) (Below.refl _ _) (World.grownBy.trans (World.grownBy_alloc _ _ _) hgrow) (by simp) (by intro k hk;simp[Value.ownBlock]at hk;omega)) (by simp);have HO1:Hid (OwnI (w.heap.size+6) w1 (some ⟨gM,0,none⟩) 512 cap xs):=Zh ⟨HLN.out,by simpa using hown⟩;clear hown hgrow hat;have hz1:=hb1.size;(try simp only[Zs]at hz1);have k1_0_0:=(Xa9 hb1).1 (w.heap.size) 0 (by(try simp)<;>omega);obtain⟨l1_0,q1_0⟩:=(aft hb1 (w.heap.size) (by(try simp)<;>omega)).2;obtain⟨k1_1,l1_1,q1_1⟩:=aft hb1 (w.heap.size+1) (by(try simp)<;>omega);obtain⟨k1_2,l1_2,q1_2⟩:=aft hb1 (w.heap.size+1+1) (by(try simp)<;>omega);have k1_3_0:=(Xa9 hb1).1 (w.heap.size+1+1+1) 0 (by(try simp)<;>omega);obtain⟨l1_3,q1_3⟩:=(aft hb1 (w.heap.size+1+1+1) (by(try simp)<;>omega)).2;obtain⟨k1_4,l1_4,q1_4⟩:=aft hb1 (w.heap.size+1+1+1+1) (by(try simp)<;>omega);obtain⟨k1_5,l1_5,q1_5⟩:=aft hb1 (w.heap.size+1+1+1+1+1) (by(try simp)<;>omega);simp(maxDischargeDepth:=6) [go_sem, *]at k1_0_0 q1_0 k1_1 q1_1 k1_2 q1_2 k1_3_0 q1_3 k1_4 q1_4 k1_5 q1_5;have HB1:=Zh hb1;clear hb1)
 go_wp2
 have hG:=(Xat HO1.out.2 _ rfl)
 simp only[]at hG
 have HDI:Hid (DmaI w ⟨dv,at_,ct,false,data⟩ AD nd cd w1.heap.size gM cap A0 n0 c0 none 0 0 none 0 0 ⟨xs,b,[],[],0,-1⟩ ((w1.setCell ⟨w.heap.size,0,none⟩ (.slice (some ⟨gM,0,none⟩) 512 cap)).alloc (.cells B_.t 40))):=Zh (by
  have h:=DmaI.start (w:=w) (W:=w1.setCell ⟨w.heap.size,0,none⟩ (.slice (some ⟨gM,0,none⟩) 512 cap)) (a:=⟨dv,at_,ct,false,data⟩) (AD:=AD) (nd:=nd) (cd:=cd) (gM:=gM) (mc:=cap) (L:=A0) (n:=n0) (c:=c0) (xs:=xs) (b:=b) (bl (by repeat' first|with_reducible(first|assumption|constructor)|((try simp)<;>omega))) (by simp;omega) (by simp[go_sem,k1_0_0])
   (by unfold Xbj;simp[go_sem,k1_1]) (by unfold Xq8;simp[go_sem,k1_2]) (by simp[go_sem,k1_3_0]) (by unfold Xbj;simp[go_sem,k1_4,Brg.no,Ring.no]) (by unfold Xgt;simp[go_sem,k1_5,Tld.no])
   (fun q o h1 h2=>by
    have hq:q=w.heap.size∨q=w.heap.size+1∨q=w.heap.size+1+1∨q=w.heap.size+1+1+1∨q=w.heap.size+1+1+1+1∨q=w.heap.size+1+1+1+1+1:=by omega
    rcases hq with rfl|rfl|rfl|rfl|rfl|rfl<;>simp[go_sem,q1_0,q1_1,q1_2,q1_3,q1_4,q1_5])
   (HO1.out.set (by show w.heap.size<_;omega) _) (by refine Xah HL.out ?_;(refine bl ?_;repeat' first|with_reducible(first|assumption|constructor)|((try simp)<;>omega)))
   (fun h0 ad e=>by obtain⟨b',off,e',hb',_⟩:=HL.out.at_ h0;rw[e]at e';injection e' with e';subst e';simp only[]at hb' ⊢;omega)
  simp only[World.size_setCell]at h
  exact h)
 have HQI:=Zh (Xft HQ.out)
 have HGT:=Zh (show dGo ⟨dv,at_,ct,false,data⟩ ct.toNat 0 ⟨xs,b,[],[],0,-1⟩=R from HR.out)
 clear HB1 k1_0_0 k1_1 k1_2 k1_3_0 k1_4 k1_5 q1_0 q1_1 q1_2 q1_3 q1_4 q1_5 l1_0 l1_1 l1_2 l1_3 l1_4 l1_5 hz1 HO1 hG hlt HONE HMC HNW hmb
 go_loopw [10,11,23] (fun s10 s11 s23 wr=>AskL w ⟨dv,at_,ct,false,data⟩ AD nd cd w1.heap.size A0 n0 R s10 s11 s23 wr) (fun _ _ s23 _=>ct.toNat - (intOf s23).toNat)
 case atStart=>exact⟨0,_,_,_,_,_,_,_,_,_,_,_,_,rfl,rfl,rfl,by have h:=HQI.out.1;simp only[]at h;show(0:Int)≤ct;omega,Xgd HC0.out HCB.out,HGT.out,rfl,Nat.le_refl _,HDI.out,Xdk _ _ _⟩
 case round=>
  clear HDI HGT HX HL HC0 HCB HR
  obtain⟨i,s,gM,mcc,L,n,c,D,dn,dc,T,tn,tc,rfl,rfl,rfl,hi,hok,hgo,hlt1,hld,hI,hNw⟩:=hrel
  have HNw:=Zh hNw
  clear hNw
  have hqi:=HQI.out
  have hrq:=hqi.2.1
  unfold reqR at hrq
  simp only[]at hi hqi hrq
  obtain⟨⟨hc1,hc2⟩,_,hdl,_⟩:=hqi
  obtain⟨⟨hd1,hd2⟩,ha1,ha2⟩:=hrq
  have HOK:=Zh hok
  have HGO:=Zh hgo
  have HTL:=Zh hlt1
  have HDL:=Zh hld
  have HI2:=Zh hI
  obtain⟨hgt1,hgt2⟩:=And.intro hI.gt1 hI.gt2
  obtain⟨hgM1,hgM2⟩:=hI.gM1
  have hfM:=hI.fM
  have hzz:=Below.size hI.below
  have m0:=hI.m0
  obtain⟨a0,a1,a2,a3,a4⟩:=hI.ask
  obtain⟨t0,t1,t2,t3⟩:=hI.tl
  obtain⟨b0,b1,b2,b3,b4,b5,b6,b7,b8,b9,b10,b11⟩:=hI.br
  simp only[]at a0 a1 a2 a3 a4 t0 t1 t2 t3
  have f0:=fun o=>hI.fz (w.heap.size) o (Or.inl (by omega))
  have f1:=fun o=>hI.fz (w.heap.size+1) o (Or.inl (by omega))
  have f3:=fun o=>hI.fz (w.heap.size+1+1+1) o (Or.inl (by omega))
  have f4:=fun o=>hI.fz (w.heap.size+1+1+1+1) o (Or.inl (by omega))
  have f5:=fun o=>hI.fz (w.heap.size+1+1+1+1+1) o (Or.inl (by omega))
  have f6:=fun o=>hI.fz w1.heap.size o (Or.inr rfl)
  have x0:w.heap.size<wr.heap.size:=by omega
  have y0a:¬w.heap.size=gM:=by omega
  have y0b:¬gM=w.heap.size:=by omega
  have z0a:¬w.heap.size=w1.heap.size:=by omega
  have z0b:¬w1.heap.size=w.heap.size:=by omega
  have x1:w.heap.size+1<wr.heap.size:=by omega
  have y1a:¬w.heap.size+1=gM:=by omega
  have y1b:¬gM=w.heap.size+1:=by omega
  have z1a:¬w.heap.size+1=w1.heap.size:=by omega
  have z1b:¬w1.heap.size=w.heap.size+1:=by omega
  have x2:w.heap.size+1+1<wr.heap.size:=by omega
  have y2a:¬w.heap.size+1+1=gM:=by omega
  have y2b:¬gM=w.heap.size+1+1:=by omega
  have z2a:¬w.heap.size+1+1=w1.heap.size:=by omega
  have z2b:¬w1.heap.size=w.heap.size+1+1:=by omega
  have x3:w.heap.size+1+1+1<wr.heap.size:=by omega
  have y3a:¬w.heap.size+1+1+1=gM:=by omega
  have y3b:¬gM=w.heap.size+1+1+1:=by omega
  have z3a:¬w.heap.size+1+1+1=w1.heap.size:=by omega
  have z3b:¬w1.heap.size=w.heap.size+1+1+1:=by omega
  have x4:w.heap.size+1+1+1+1<wr.heap.size:=by omega
  have y4a:¬w.heap.size+1+1+1+1=gM:=by omega
  have y4b:¬gM=w.heap.size+1+1+1+1:=by omega
  have z4a:¬w.heap.size+1+1+1+1=w1.heap.size:=by omega
  have z4b:¬w1.heap.size=w.heap.size+1+1+1+1:=by omega
  have x5:w.heap.size+1+1+1+1+1<wr.heap.size:=by omega
  have y5a:¬w.heap.size+1+1+1+1+1=gM:=by omega
  have y5b:¬gM=w.heap.size+1+1+1+1+1:=by omega
  have z5a:¬w.heap.size+1+1+1+1+1=w1.heap.size:=by omega
  have z5b:¬w1.heap.size=w.heap.size+1+1+1+1+1:=by omega
  have z6a:¬gM=w1.heap.size:=hfM
  have z6b:¬w1.heap.size=gM:=fun e=>hfM e.symm
  by_cases hlt:(i:Int)<ct
  rotate_left
  ·have hie:(i:Int)=ct:=by omega
   have HRE:Hid ((s.xs,s.b,(⟨true,s.data,0,s.touched⟩:Tld))=R):=Zh (by
    have h:=HGO.out
    rw[show(⟨dv,at_,ct,false,data⟩:Ask).count.toNat - i=0 by show ct.toNat - i=0;omega]at h
    exact h)
   have hnl:¬(i:Int)<ct:=hlt
   have z3:=hI.z3
   obtain⟨c0,c1,c2,c3,c4,c5,c6,c7,c8,c9,c10,c11⟩:=hI.z4
   obtain⟨d0,d1,d2,d3⟩:=hI.z5
   simp only[Brg.no,Ring.no,Tld.no]at c0 c1 c2 c3 c4 c5 c6 c7 c8 c9 c10 c11 d0 d1 d2 d3
   clear hI hok hgo hlt1 hld hlt hfM hie a0 a1 a3 a4
   go_wp2
   go_region
   all_goals
    go_wp2
    rw[←HRE.out]
    refine bodyPost_ret (v:=.tuple #[.agg #[.slice (some ⟨gM,0,none⟩) 512 mcc],.agg (B_.b s.b L n c),.agg #[.bool true,.slice D dn dc,.int .i64 0,.slice T tn tc]]) ?_ rfl (Xpr HI2.out ?_ HNw.out true 0)
    ·simp(maxDischargeDepth:=8) [results,Tryz.results37,go_sem, *]
    ·(repeat(first|(with_reducible exact Xaq _)|(with_reducible refine Xa7 ?_ _)|(with_reducible refine Xa5 ?_)|(with_reducible refine Xay ?_ _)|((with_reducible refine Xbb ?_ ?_ _);rotate_left;exact(by first|(simp;done)|(simp[Xbe];done)|(simp[Xbe];omega)|omega))))
  have hin:=d_in (a:=⟨dv,at_,ct,false,data⟩) (i:=i) HQ.out hlt
  obtain⟨hin1,hin2⟩:=hin
  have HIN:=Zh hin1
  have hdp:Xet ⟨dv,at_,ct,false,data⟩ i=(at_+i) / 8:=rfl
  have e1:(at_+(i:Int)).tdiv 8=(at_+i) / 8:=Int.tdiv_eq_ediv_of_nonneg (by omega)
  have e2:(at_+(i:Int)).tmod 8=(at_+i) % 8:=Int.tmod_eq_emod_of_nonneg (by omega)
  have hcnt:ct.toNat - i=(ct.toNat - (i+1))+1:=by omega
  have HCN:=Zh hcnt
  have HLT:=Zh hlt
  clear hI hok hgo hlt1 hld hcnt hin1 hin2
  go_upto_if 33 with(fail)
  go_cut [10,11] (fun s10 s11 wd=>AskP w ⟨dv,at_,ct,false,data⟩ AD nd cd w1.heap.size A0 n0 R i s10 s11 wd)
  case first=>
   by_cases hp:Xet ⟨dv,at_,ct,false,data⟩ i=s.page
   ·have tp:((at_+(i:Int)) / 8 != s.page)=false:=by rw[bne_eq_false_iff_eq,←hdp];exact hp
    have HP:=Zh hp
    clear hp hdp
    go_wp2
    go_meet
    exact⟨s,_,_,_,_,_,_,_,_,_,_,_,rfl,rfl,HOK.out.kp (by rw[←HP.out];have:=HIN.out;unfold inD at this;omega),HOK.out,HP.out.symm,Xi0 HGO.out HCN.out HP.out,HTL.out,HDL.out,HI2.out,HNw.out⟩
   ·have tp:((at_+(i:Int)) / 8 != s.page)=true:=by rw[bne_iff_ne,←hdp];exact hp
    have HP:=Zh hp
    obtain⟨rb,ra,rf,hr⟩:∃ rb ra rf,Xdh s.xs s.b dv ((at_+i) / 8) false=(rb,ra,rf):=⟨_,_,_,rfl⟩
    have HTR:=Zh (show Xdb ⟨dv,at_,ct,false,data⟩ i s=(rb,ra,rf)from hr)
    have HKB:=Zh (show ckB rb=0 by have h:=(HOK.out.next HQ.out HLT.out).kb;rw[show(Xg8 ⟨dv,at_,ct,false,data⟩ i s).b=rb by show(Xdb ⟨dv,at_,ct,false,data⟩ i s).1=rb;rw[HTR.out]]at h;exact h)
    clear hp hdp
    go_wp2_with fail
    refine(Xmp s.xs (some ⟨gM,0,none⟩) mcc s.b L n c dv ((at_+i) / 8) false rb ra rf wr (HI2.out.rm.ints (by decide)) HI2.out.rl HOK.out.km HOK.out.kb HIN.out hr).mono ?_
    rintro e w2 ⟨L',n',c',rfl,hl2,hb2,hn2⟩
    have HI3:=Zh (HI2.out.since hb2)
    have HL2:=Zh hl2
    have HN2:=Zh hn2
    have HB2:=Zh hb2
    have hI3:=HI3.out
    have hz2:=Below.size hb2
    clear hl2 hn2 hb2 hr m0 a0 a1 a2 a3 a4 t1 t2 t3 b0 b1 b2 b3 b4 b5 b6 b7 b8 b9 b10 b11 f0 f1 f3 f4 f5 f6
    have m0:=hI3.m0
    obtain⟨a0,a1,a2,a3,a4⟩:=hI3.ask
    obtain⟨t0,t1,t2,t3⟩:=hI3.tl
    obtain⟨b0,b1,b2,b3,b4,b5,b6,b7,b8,b9,b10,b11⟩:=hI3.br
    simp only[]at a0 a1 a2 a3 a4 t0 t1 t2 t3
    have f0:=fun o=>hI3.fz (w.heap.size) o (Or.inl (by omega))
    have f1:=fun o=>hI3.fz (w.heap.size+1) o (Or.inl (by omega))
    have f3:=fun o=>hI3.fz (w.heap.size+1+1+1) o (Or.inl (by omega))
    have f4:=fun o=>hI3.fz (w.heap.size+1+1+1+1) o (Or.inl (by omega))
    have f5:=fun o=>hI3.fz (w.heap.size+1+1+1+1+1) o (Or.inl (by omega))
    have f6:=fun o=>hI3.fz w1.heap.size o (Or.inr rfl)
    have xx0:w.heap.size<w2.heap.size:=by omega
    have xx1:w.heap.size+1<w2.heap.size:=by omega
    have xx2:w.heap.size+1+1<w2.heap.size:=by omega
    have xx3:w.heap.size+1+1+1<w2.heap.size:=by omega
    have xx4:w.heap.size+1+1+1+1<w2.heap.size:=by omega
    have xx5:w.heap.size+1+1+1+1+1<w2.heap.size:=by omega
    have xx6:w1.heap.size<w2.heap.size:=by omega
    clear hI3
    by_cases hf:rf=0
    ·subst hf
     go_wp2
     go_meet
     refine⟨Xg8 ⟨dv,at_,ct,false,data⟩ i s,gM,mcc,L',n',c',D,dn,dc,T,tn,tc, ?_,rfl, ?_,HOK.out.next HQ.out HLT.out,rfl,Xla HGO.out HCN.out HP.out (by rw[HTR.out]),HTL.out,HDL.out, ?_,Xhl HNw.out HN2.out (Below.size HI2.out.below)⟩
     ·show _=Value.int .i64 (Xdb ⟨dv,at_,ct,false,data⟩ i s).2.1;rw[HTR.out]
     ·exact(Xgf HOK.out.kb HIN.out).1
     ·have e:Xg8 ⟨dv,at_,ct,false,data⟩ i s=⟨s.xs,rb,s.data,s.touched,ra,(at_+i) / 8⟩:=by show(⟨s.xs,(Xdb ⟨dv,at_,ct,false,data⟩ i s).1,s.data,s.touched,(Xdb ⟨dv,at_,ct,false,data⟩ i s).2.1,(at_+i) / 8⟩:Dst)=_;rw[HTR.out]
      rw[e]
      refine HI2.out.brgL HB2.out HL2.out HN2.out ?_ ?_ ?_ _ _
      ·(repeat(first|(with_reducible exact Xaq _)|(with_reducible refine Xa7 ?_ _)|(with_reducible refine Xa5 ?_)|(with_reducible refine Xay ?_ _)|((with_reducible refine Xbb ?_ ?_ _);rotate_left;exact(by first|(simp;done)|(simp[Xbe];done)|(simp[Xbe];omega)|omega))))
      ·intro o;simp[go_sem,f1]
      ·unfold Xbj;simp(maxDischargeDepth:=8) [go_sem, *]
    ·have t1':(rf != 0)=true:=by rw[bne_iff_ne];exact hf
     have HF:=Zh (Xt3 HQ.out HLT.out HOK.out (by rw[HTR.out];exact hf))
     obtain⟨ys,b',hys⟩:∃ ys b',Xdu s.xs rb (fltW rf dv ((at_+i) / 8) false)=(ys,b'):=⟨_,_,rfl⟩
     have HBC:=Zh (show b'.cache=rb.cache by have h:=Xi4 (xs:=s.xs) (b:=rb) (v:=fltW rf dv ((at_+i) / 8) false);rw[hys]at h;exact h)
     have HRE:Hid ((ys,b',(⟨false,s.data,rf,s.touched⟩:Tld))=R):=Zh (by
      rw[←Xiz HGO.out HCN.out HP.out (by rw[HTR.out];exact hf)]
      have e:Xdu s.xs rb (dFlt ⟨dv,at_,ct,false,data⟩ i s).w=(ys,b'):=by
       rw[show(dFlt ⟨dv,at_,ct,false,data⟩ i s).w=fltW rf dv ((at_+i) / 8) false by show fltW (Xdb ⟨dv,at_,ct,false,data⟩ i s).2.2 dv ((at_+i) / 8) false=_;rw[HTR.out]]
       exact hys
      unfold Xmu
      rw[HTR.out]
      simp only[]
      rw[e])
     have HYS:=Zh hys
     clear hf hys
     go_wp2_with fail
     refine(Xos s.xs ys (some ⟨gM,0,none⟩) mcc rb b' L' n' c' rf dv ((at_+i) / 8) false _ ?_ ?_ HOK.out.km HKB.out (by have h:=HF.out;rw[show(dFlt ⟨dv,at_,ct,false,data⟩ i s).e=fltE rf dv ((at_+i) / 8) by show fltE (Xdb ⟨dv,at_,ct,false,data⟩ i s).2.2 dv ((at_+i) / 8)=_;rw[HTR.out]]at h;exact h) HYS.out).mono ?_
     ·refine Xfy (P:=fun q=>q=w.heap.size+1) (HI3.out.rm.ints (by decide)) ?_ (fun ad e=>by injection e with e;subst e;show ¬gM=_;omega)
      (repeat(first|(with_reducible exact Xaq _)|(with_reducible refine Xa7 ?_ _)|(with_reducible refine Xa5 ?_)|(with_reducible refine Xay ?_ _)|((with_reducible refine Xbb ?_ ?_ _);rotate_left;exact(by first|(simp;done)|(simp[Xbe];done)|(simp[Xbe];omega)|omega))))
     ·refine Xc9 (P:=fun q=>q=w.heap.size+1) HL2.out ?_ (fun h0 ad e hq=>?_)
      ·(repeat(first|(with_reducible exact Xaq _)|(with_reducible refine Xa7 ?_ _)|(with_reducible refine Xa5 ?_)|(with_reducible refine Xay ?_ _)|((with_reducible refine Xbb ?_ ?_ _);rotate_left;exact(by first|(simp;done)|(simp[Xbe];done)|(simp[Xbe];omega)|omega))))
      ·rcases HN2.out with⟨rfl,rfl⟩|hn
       ·have:=HI2.out.fL h0 ad e;omega
       ·have:=hn ad e;omega
     rintro e w4 ⟨M4,d4,L4,n4,c4,rfl,hx4,hl4,hb4,hnM,hnL⟩
     have HI5:=Zh (DmaI.since (HI2.out.brgL HB2.out HL2.out HN2.out (by(repeat(first|(with_reducible exact Xaq _)|(with_reducible refine Xa7 ?_ _)|(with_reducible refine Xa5 ?_)|(with_reducible refine Xay ?_ _)|((with_reducible refine Xbb ?_ ?_ _);rotate_left;exact(by first|(simp;done)|(simp[Xbe];done)|(simp[Xbe];omega)|omega))))) (by intro o;simp[go_sem,f1]) (by unfold Xbj;simp(maxDischargeDepth:=8) [go_sem, *]) ra ((at_+i) / 8)) hb4)
     have hz4:=hb4.size
     (try simp only[Zs]at hz4)
     have HM4:Hid (∀ ad,M4=some ad→¬Xbe w.heap.size w1.heap.size ad.block):=Zh (fun ad e hq=>by
      rcases hnM ad e with e'|e'
      ·injection e' with e';subst e';rcases hq with hq|hq<;>simp only[]at hq<;>omega
      ·simp only[World.size_setCell]at e';rcases hq with hq|hq<;>omega)
     have HL4:Hid (0<n4→∀ ad,L4=some ad→¬Xbe w.heap.size w1.heap.size ad.block):=Zh (fun h0 ad e hq=>by
      have hn4:n4=n':=by rw[←hl4.len,HBC.out,HL2.out.len]
      rw[hn4]at h0
      rcases hnL ad e with e'|e'
      ·have hf5:=HI5.out.fL h0 ad e';rcases hq with hq|hq<;>omega
      ·simp only[World.size_setCell]at e';rcases hq with hq|hq<;>omega)
     have HMF:Hid (∀ ad,M4=some ad→w.heap.size≤ad.block):=Zh (fun ad e=>by
      rcases hnM ad e with e'|e'
      ·injection e' with e';subst e';show w.heap.size≤gM;omega
      ·simp only[World.size_setCell]at e';omega)
     have HNf:Hid (NewN w A0 n0 L4 n4):=Zh (Xst (Xhl HNw.out HN2.out (Below.size HI2.out.below)) hnL (by rw[←hl4.len,HBC.out,HL2.out.len]) (by(try simp only[World.size_setCell]);omega))
     have HX4:=Zh hx4
     have HLL4:=Zh hl4
     clear hx4 hl4 hb4 hnM hnL m0 a0 a1 a2 a3 a4 t0 t1 t2 t3 b0 b1 b2 b3 b4 b5 b6 b7 b8 b9 b10 b11 f0 f1 f3 f4 f5 f6 xx0 xx1 xx2 xx3 xx4 xx5 xx6
     have hI5:=HI5.out
     have m0:=hI5.m0
     obtain⟨a0,a1,a2,a3,a4⟩:=hI5.ask
     obtain⟨t0,t1,t2,t3⟩:=hI5.tl
     obtain⟨b0,b1,b2,b3,b4,b5,b6,b7,b8,b9,b10,b11⟩:=hI5.br
     simp only[]at a0 a1 a2 a3 a4 t0 t1 t2 t3
     have f0:=fun o=>hI5.fz (w.heap.size) o (Or.inl (by omega))
     have f1:=fun o=>hI5.fz (w.heap.size+1) o (Or.inl (by omega))
     have f3:=fun o=>hI5.fz (w.heap.size+1+1+1) o (Or.inl (by omega))
     have f4:=fun o=>hI5.fz (w.heap.size+1+1+1+1) o (Or.inl (by omega))
     have f5:=fun o=>hI5.fz (w.heap.size+1+1+1+1+1) o (Or.inl (by omega))
     have f6:=fun o=>hI5.fz w1.heap.size o (Or.inr rfl)
     have xx0:w.heap.size<w4.heap.size:=by omega
     have xx1:w.heap.size+1<w4.heap.size:=by omega
     have xx2:w.heap.size+1+1<w4.heap.size:=by omega
     have xx3:w.heap.size+1+1+1<w4.heap.size:=by omega
     have xx4:w.heap.size+1+1+1+1<w4.heap.size:=by omega
     have xx5:w.heap.size+1+1+1+1+1<w4.heap.size:=by omega
     have xx6:w1.heap.size<w4.heap.size:=by omega
     clear hI5
     have z3:=HI5.out.z3
     obtain⟨c0,c1,c2,c3,c4',c5,c6,c7,c8,c9,c10,c11⟩:=HI5.out.z4
     obtain⟨d0,d1,d2,d3⟩:=HI5.out.z5
     simp only[Brg.no,Ring.no,Tld.no]at c0 c1 c2 c3 c4' c5 c6 c7 c8 c9 c10 c11 d0 d1 d2 d3
     go_wp2
     go_region
     all_goals
      go_wp2
      rw[←HRE.out]
      refine bodyPost_ret (v:=.tuple #[.agg #[.slice M4 512 d4],.agg (B_.b b' L4 n4 c4),.agg #[.bool false,.slice D dn dc,.int .i64 rf,.slice T tn tc]]) ?_ rfl (Xpq HI5.out ?_ HX4.out HLL4.out HM4.out HL4.out HMF.out HNf.out rf)
      ·simp(maxDischargeDepth:=8) [results,Tryz.results37,go_sem, *]
      ·(repeat(first|(with_reducible exact Xaq _)|(with_reducible refine Xa7 ?_ _)|(with_reducible refine Xa5 ?_)|(with_reducible refine Xay ?_ _)|((with_reducible refine Xbb ?_ ?_ _);rotate_left;exact(by first|(simp;done)|(simp[Xbe];done)|(simp[Xbe];omega)|omega))))
  case rest=>
   clear HOK HGO HTL HDL HI2 HNw m0 a0 a1 a2 a3 a4 t0 t1 t2 t3 b0 b1 b2 b3 b4 b5 b6 b7 b8 b9 b10 b11 f0 f1 f3 f4 f5 f6 x0 y0a y0b z0a z0b x1 y1a y1b z1a z1b x2 y2a y2b z2a z2b x3 y3a y3b z3a z3b x4 y4a y4b z4a z4b x5 y5a y5b z5a z5b hgt2 hgM1 hgM2 hfM hzz z6a z6b hlt
   obtain⟨s,gM,mcc,L,n,c,D,dn,dc,T,tn,tc,rfl,rfl,hat,hok,hpg,hgo,htl,hdl2,hI,hNw⟩:=hcut
   have HNw:=Zh hNw
   clear hNw
   obtain⟨hat1,hat2⟩:=hat
   have hi2:(i:Int)<ct:=HLT.out
   have HOK:=Zh hok
   have HGO:=Zh hgo
   have HPG:=Zh hpg
   have HTL:=Zh htl
   have HDL:=Zh hdl2
   have HI2:=Zh hI
   have hgt2:=hI.gt2
   obtain⟨hgM1,hgM2⟩:=hI.gM1
   have hfM:=hI.fM
   have hzz:=Below.size hI.below
   obtain⟨K,hK⟩:∃ K,K=s.at_ * 8+(at_+(i:Int)) % 8:=⟨_,rfl⟩
   have HK:=Zh (show dAt ⟨dv,at_,ct,false,data⟩ i s=K from hK.symm)
   have k1:(0:Int)≤K:=by omega
   have k2:K<512:=by omega
   have e8:8 * s.at_+(at_+(i:Int)) % 8=K:=by omega
   have m8:IntKind.i64.wrap (8 * s.at_)=8 * s.at_:=IntWalk.i64_in _ (by omega)
   have m9:IntKind.i64.wrap K=K:=IntWalk.i64_in _ (by omega)
   obtain⟨_,eg,_,_,hgc,hgf,hgs⟩:=Xb3 hI.rm (by decide)
   injection eg with eg
   injection eg with eg
   subst eg
   have hcM:=hgc _ _ (Xc7 (i:=K) (Xaz hok.km).1 ⟨k1,k2⟩)
   have HRT:=Zh hI.rt.2.2.2
   have HFT:=Zh hI.fT
   have HRD:=Zh hI.rd.2
   have HFD:=Zh hI.fD
   have HTN:=Zh (show tn=i by rw[←hI.rt.1];exact htl)
   have hdn:dn≤i:=by rw[←hI.rd.1];exact hdl2
   have m0:=hI.m0
   obtain⟨a0,a1,a2,a3,a4⟩:=hI.ask
   obtain⟨t0,t1,t2,t3⟩:=hI.tl
   obtain⟨b0,b1,b2,b3,b4,b5,b6,b7,b8,b9,b10,b11⟩:=hI.br
   simp only[]at a0 a1 a2 a3 a4 t0 t1 t2 t3
   have f0:=fun o=>hI.fz (w.heap.size) o (Or.inl (by omega))
   have f1:=fun o=>hI.fz (w.heap.size+1) o (Or.inl (by omega))
   have f3:=fun o=>hI.fz (w.heap.size+1+1+1) o (Or.inl (by omega))
   have f4:=fun o=>hI.fz (w.heap.size+1+1+1+1) o (Or.inl (by omega))
   have f5:=fun o=>hI.fz (w.heap.size+1+1+1+1+1) o (Or.inl (by omega))
   have f6:=fun o=>hI.fz w1.heap.size o (Or.inr rfl)
   have xx0:w.heap.size<wc.heap.size:=by omega
   have xx1:w.heap.size+1<wc.heap.size:=by omega
   have xx2:w.heap.size+1+1<wc.heap.size:=by omega
   have xx3:w.heap.size+1+1+1<wc.heap.size:=by omega
   have xx4:w.heap.size+1+1+1+1<wc.heap.size:=by omega
   have xx5:w.heap.size+1+1+1+1+1<wc.heap.size:=by omega
   have xx6:w1.heap.size<wc.heap.size:=by omega
   have y0a:¬w.heap.size=gM:=by omega
   have y0b:¬gM=w.heap.size:=by omega
   have z0a:¬w.heap.size=w1.heap.size:=by omega
   have z0b:¬w1.heap.size=w.heap.size:=by omega
   have y1a:¬w.heap.size+1=gM:=by omega
   have y1b:¬gM=w.heap.size+1:=by omega
   have z1a:¬w.heap.size+1=w1.heap.size:=by omega
   have z1b:¬w1.heap.size=w.heap.size+1:=by omega
   have y2a:¬w.heap.size+1+1=gM:=by omega
   have y2b:¬gM=w.heap.size+1+1:=by omega
   have z2a:¬w.heap.size+1+1=w1.heap.size:=by omega
   have z2b:¬w1.heap.size=w.heap.size+1+1:=by omega
   have y3a:¬w.heap.size+1+1+1=gM:=by omega
   have y3b:¬gM=w.heap.size+1+1+1:=by omega
   have z3a:¬w.heap.size+1+1+1=w1.heap.size:=by omega
   have z3b:¬w1.heap.size=w.heap.size+1+1+1:=by omega
   have y4a:¬w.heap.size+1+1+1+1=gM:=by omega
   have y4b:¬gM=w.heap.size+1+1+1+1:=by omega
   have z4a:¬w.heap.size+1+1+1+1=w1.heap.size:=by omega
   have z4b:¬w1.heap.size=w.heap.size+1+1+1+1:=by omega
   have y5a:¬w.heap.size+1+1+1+1+1=gM:=by omega
   have y5b:¬gM=w.heap.size+1+1+1+1+1:=by omega
   have z5a:¬w.heap.size+1+1+1+1+1=w1.heap.size:=by omega
   have z5b:¬w1.heap.size=w.heap.size+1+1+1+1+1:=by omega
   have z6a:¬gM=w1.heap.size:=hfM
   have z6b:¬w1.heap.size=gM:=fun e=>hfM e.symm
   have z7a:¬wc.heap.size=gM:=by omega
   have z7b:¬gM=wc.heap.size:=by omega
   have z8a:¬wc.heap.size=w1.heap.size:=by omega
   have z8b:¬w1.heap.size=wc.heap.size:=by omega
   clear hI hok hgo hpg htl hdl2 hgc hgs hK b0 b1 b2 b3 b4 b5 b6 b7 b8 b9 b10 b11
   obtain⟨v,hv⟩:∃ v,v=rd s.xs K:=⟨_,rfl⟩
   rw[←hv]at hcM
   have HDW:Hid (Xf3 ⟨dv,at_,ct,false,data⟩ i s=⟨s.xs,s.b,s.data ++ [v],s.touched ++ [⟨dv,at_+i,K,false,v⟩],s.at_,s.page⟩):=Zh (by
    have e1:dPut ⟨dv,at_,ct,false,data⟩ i s=s.xs:=rfl
    unfold Xf3 dTch
    rw[e1,HK.out,hv]
    rfl)
   have HBD:=Zh HI2.out.bD
   clear hv HD
   go_wp2_with (at_builtin;first|(refine wpList_append_lies _ rfl (.tmp 103) (.tmp 106) 22 rfl (w.heap.size+6) 3 i0 (.int .i64 0) 1 8 Tryz.underlying22 HI.out HZ0.out HZ1.out HZ2.out rfl (by decide) (.slice D dn dc) dn (s.data.map (Value.int .i64)) rfl (Xdc HRD.out (P:=fun _=>False) (by(repeat(first|(with_reducible exact Xaq _)|(with_reducible refine Xa7 ?_ _)|(with_reducible refine Xa5 ?_)|(with_reducible refine Xay ?_ _)|((with_reducible refine Xbb ?_ ?_ _);rotate_left;exact(by first|(simp;done)|(simp[Xbe];done)|(simp[Xbe];omega)|omega))))) (fun _ _ h=>h)) ⟨wc.heap.size+1,0,none⟩ 1 1 [.int .i64 v] rfl rfl (Xcz (by simp) rfl) (Xh8 _) (by decide) (by unfold maxLen;omega) (by omega) (by simp;omega) _ rfl ?_;intro gd capd W4 hownd hgrowd hatd hltd;have HT4:=Zh (HI2.out.datag (by unfold Xan;(refine bl ?_;repeat' first|with_reducible(first|assumption|constructor)|((try simp)<;>omega))) hgrowd hownd hatd);have hne:some wc.heap.size≠(Value.slice D dn dc).ownBlock:=(fun e=>by obtain⟨ad,e1,e2⟩:=Xc5 e.symm;have:=HBD.out ad e1;omega);have kx0:=hgrowd.cell_far ⟨wc.heap.size,0,none⟩ (by simp;omega) hne;have kx1:=hgrowd.cell_far ⟨wc.heap.size,1,none⟩ (by simp;omega) hne;have kx2:=hgrowd.cell_far ⟨wc.heap.size,2,none⟩ (by simp;omega) hne;have kx3:=hgrowd.cell_far ⟨wc.heap.size,3,none⟩ (by simp;omega) hne;have kx4:=hgrowd.cell_far ⟨wc.heap.size,4,none⟩ (by simp;omega) hne;simp(maxDischargeDepth:=6) [go_sem]at kx0 kx1 kx2 kx3 kx4;have hzx:=hgrowd.size;(try simp only[Zs]at hzx);have zx1:wc.heap.size<W4.heap.size:=(by omega);clear hownd hgrowd hatd hltd hne;obtain⟨⟨p0,p1,p2,p3⟩,f4t,lt4,_⟩:=HT4.out;(try simp only[]at p0 p1 p2 p3))|(refine wpList_append_lies _ rfl (.tmp 110) (.tmp 112) 38 rfl (w.heap.size+6) 76 j0 (.agg #[.int .i64 0,.int .i64 0,.int .i64 0,.bool false,.int .i64 0]) 5 40 Tryz.underlying38 HJ.out HJ0.out HJ1.out HJ2.out rfl (by decide) (.slice T tn tc) tn (Xd0 s.touched) rfl (Xdc HT4.out.2.2.2.rt.2.2.2 (P:=fun _=>False) (by(repeat(first|(with_reducible exact Xaq _)|(with_reducible refine Xa7 ?_ _)|(with_reducible refine Xa5 ?_)|(with_reducible refine Xay ?_ _)|((with_reducible refine Xbb ?_ ?_ _);rotate_left;exact(by first|(simp;done)|(simp[Xbe];done)|(simp[Xbe];omega)|omega))))) (fun _ _ h=>h)) ⟨W4.heap.size,0,none⟩ 1 1 (Tch.vals ⟨dv,at_+i,K,false,v⟩) rfl rfl (Xcz (by simp) rfl) (Xkq _) (by decide) (by have:=HTN.out;unfold maxLen;omega) (by have:=HTN.out;omega) (by simp;omega) _ rfl ?_;intro g cap W5 hown hgrow hat5 hlt5;have HT5:=Zh (HT4.out.2.2.2.tchg (by(repeat(first|(with_reducible exact Xaq _)|(with_reducible refine Xa7 ?_ _)|(with_reducible refine Xa5 ?_)|(with_reducible refine Xay ?_ _)|((with_reducible refine Xbb ?_ ?_ _);rotate_left;exact(by first|(simp;done)|(simp[Xbe];done)|(simp[Xbe];omega)|omega))))) (Xbu (P:=fun _=>False) HT4.out.2.2.2.rm (by(repeat(first|(with_reducible exact Xaq _)|(with_reducible refine Xa7 ?_ _)|(with_reducible refine Xa5 ?_)|(with_reducible refine Xay ?_ _)|((with_reducible refine Xbb ?_ ?_ _);rotate_left;exact(by first|(simp;done)|(simp[Xbe];done)|(simp[Xbe];omega)|omega))))) (fun _ _ h=>h)) hgrow hown hat5);clear hown hgrow hat5 hlt5;obtain⟨⟨q0,q1,q2,q3⟩,f5t,lt5,_⟩:=HT5.out;(try simp only[]at q3)))
   go_roundw
   case rel=>
    refine⟨i+1,Xf3 ⟨dv,at_,ct,false,data⟩ i s,gM,mcc,L,n,c,some ⟨gd,0,none⟩,dn+1,capd,some ⟨g,0,none⟩,tn+1,cap,by go_num,by rw[HDW.out],by rw[HDW.out],by show((i+1:Nat):Int)≤ct;omega,HOK.out.word HQ.out HLT.out,HGO.out, ?_, ?_, ?_,HNw.out⟩
    ·rw[HDW.out];simp[HTL.out]
    ·rw[HDW.out];have:=HDL.out;simp;omega
    ·rw[HDW.out];exact HT5.out.2.2.2
   case measure=>simp[intOf];omega
theorem Xqd (wr:Bool) (hq:reqE ⟨dv,at_,ct,wr,data⟩=0) (R:List Int×Brg×Tld) (hR:dmaM xs b ⟨dv,at_,ct,wr,data⟩=R) :
  Calls Tryz.prog 37 #[.agg #[.slice m 512 mc],.agg (B_.b b A0 n0 c0),.agg #[.int .i64 dv,.int .i64 at_,.int .i64 ct,.bool wr,.slice AD nd cd]] w (Xq7 w A0 n0 R):=by
 cases wr with
 |true=>exact Xy8 xs m mc b A0 n0 c0 dv at_ ct data AD nd cd w hx hl hd h0 hb hq R hR
 |false=>exact Xy9 xs m mc b A0 n0 c0 dv at_ ct data AD nd cd w hx hl hd h0 hb hq R hR
end
theorem Xsc (xs:List Int) (m:Option Addr) (mc:Nat) (b:Brg) (A0:Option Addr) (n0 c0:Nat) (a:Ask) (AD:Option Addr) (nd cd:Nat) (w:World) (hx:Ints w w.heap.size m 512 xs) (hl:Lines w w.heap.size A0 n0 c0 b.cache) (hd:Ints w w.heap.size AD nd a.data) (h0:cm xs=0) (hb:ckB b=0) (hq:reqE a=0) (R:List Int×Brg×Tld) (hR:dmaM xs b a=R) :
  Calls Tryz.prog 37 #[.agg #[.slice m 512 mc],.agg (B_.b b A0 n0 c0),.agg #[.int .i64 a.dev,.int .i64 a.at_,.int .i64 a.count,.bool a.wr,.slice AD nd cd]] w (Xq7 w A0 n0 R):=
 Xqd xs m mc b A0 n0 c0 a.dev a.at_ a.count a.data AD nd cd w hx hl hd h0 hb a.wr hq R hR
end Go.Proofs.YtbopdijnojaaiadGreat
