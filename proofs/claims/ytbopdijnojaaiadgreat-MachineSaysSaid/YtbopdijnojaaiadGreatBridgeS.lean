/- Blocks that stay as they were, whatever else turns. No statement of the seat is proved here. -/
import Derived.Test.YtbopdijnojaaiadGreatBridgeC
import Derived.Test.YtbopdijnojaaiadGreatFillZ
import Derived.Deep.RegionHeld3
import Derived.Deep.DrawnRows
import Derived.Test.YtbopdijnojaaiadGreatBridgeF
import Derived.Test.YtbopdijnojaaiadGreatBase
import Derived.Deep.DeepCutAuto
import Derived.Test.YtbopdijnojaaiadGreatSlices
namespace Go.Proofs.YtbopdijnojaaiadGreat
set_option maxRecDepth 100000
set_option maxHeartbeats 8000000
open Go.RowKit
set_option linter.unusedSimpArgs false
set_option linter.unusedVariables false
section
section
attribute [local go_sem ↓] Go.wp_at_zero Go.wp_at_succ
def Xbj (w:World) (g:Nat) (b:Brg) (A:Option Addr) (n c:Nat):Prop:=
 w.cell? ⟨g,0,none⟩=some (.int .i64 b.mode)∧w.cell? ⟨g,1,none⟩=some (.int .i64 b.base)∧w.cell? ⟨g,2,none⟩=some (.slice A n c) ∧
 w.cell? ⟨g,3,none⟩=some (.int .i64 b.orders.page)∧w.cell? ⟨g,4,none⟩=some (.int .i64 b.orders.head)∧w.cell? ⟨g,5,none⟩=some (.int .i64 b.orders.tail) ∧
 w.cell? ⟨g,6,none⟩=some (.bool b.stopped)∧w.cell? ⟨g,7,none⟩=some (.int .i64 b.fences) ∧
 w.cell? ⟨g,8,none⟩=some (.int .i64 b.faults.page)∧w.cell? ⟨g,9,none⟩=some (.int .i64 b.faults.head)∧w.cell? ⟨g,10,none⟩=some (.int .i64 b.faults.tail)∧w.cell? ⟨g,11,none⟩=some (.bool b.lost)
theorem Xa0 {w w':World} {g:Nat} {b:Brg} {A:Option Addr} {n c:Nat} (h:Xbj w g b A n c) (hs:Xan w w'):Xbj w' g b A n c:=by
 obtain⟨h0,h1,h2,h3,h4,h5,h6,h7,h8,h9,h10,h11⟩:=h
 exact⟨Xak hs h0,Xak hs h1,Xak hs h2,Xak hs h3,Xak hs h4,Xak hs h5,Xak hs h6,Xak hs h7,Xak hs h8,Xak hs h9,Xak hs h10,Xak hs h11⟩
theorem Xb9 {w:World} {g:Nat} {b:Brg} {A:Option Addr} {n c:Nat} (h:Xbj w g b A n c):g<w.heap.size:=Xbm h.1
def Only (g:Nat) (w w':World):Prop:=
 Below g w w'∧w.heap.size≤w'.heap.size∧(∀ q o,q≠g→q<w.heap.size→w'.cell? ⟨q,o,none⟩=w.cell? ⟨q,o,none⟩)∧∀ q o,q<w.heap.size→w'.frozen? ⟨q,o,none⟩=w.frozen? ⟨q,o,none⟩
theorem Xdo {g:Nat} {w w':World} (hg:g<w.heap.size) (h:Xan w w'):Only g w w':=
 ⟨Below.mono h (Nat.le_of_lt hg),h.size,fun q o _ hq=>Below.cell (p:=⟨q,o,none⟩) h hq,fun q o hq=>Below.frozen (p:=⟨q,o,none⟩) h hq⟩
def Xj6 (w:World) (A A':Option Addr):Prop:=∀ ad,A'=some ad→A=some ad∨w.heap.size≤ad.block
theorem Xbo (w:World) (A:Option Addr):Xj6 w A A:=fun _ h=>Or.inl h
def Xnn (g:Nat) (A0:Option Addr) (w:World) (r:Brg×Int×Int) (e:Ending) (w':World):Prop:=
 ∃ A n c,e=.returned (.tuple #[.int .i64 r.2.1,.int .i64 r.2.2])∧Xbj w' g r.1 A n c∧Lines w' w'.heap.size A n c r.1.cache∧Only g w w'∧Xj6 w A0 A
theorem Xlr (xs:List Int) (m:Option Addr) (cm':Nat) (b:Brg) (A:Option Addr) (n c g:Nat) (d p:Int) (wr:Bool) (w:World) (hb:Xbj w g b A n c) (hl:Lines w w.heap.size A n c b.cache) (hm:b.mode=0) :
  Calls Tryz.prog 79 #[.agg #[.slice m 512 cm'],.pointer (some ⟨g,0,none⟩),.int .i64 d,.int .i64 p,.bool wr] w (Xnn g A w (b,0,1)):=by
 have HB:=Zh hb
 have HL:=Zh hl
 have hg:=Xb9 hb
 have h0:=hb.1
 rw[hm]at h0
 have S0:=Zh (Xae (Xal w))
 clear hb hl hm
 go_enter Tryz.func79,Tryz.ntmps79
 go_wp2
 go_ret2
 exact⟨A,n,c,rfl,Xa0 HB.out (S0.out _),(HL.out.alloc (Nat.le_refl _) _).more (by simp),Xdo hg (S0.out _),Xbo _ _⟩
theorem Xlt (xs:List Int) (m:Option Addr) (cm':Nat) (b:Brg) (A:Option Addr) (n c g:Nat) (d p:Int) (wr:Bool) (w:World) (hb:Xbj w g b A n c) (hl:Lines w w.heap.size A n c b.cache) (hm:b.mode=1) :
  Calls Tryz.prog 79 #[.agg #[.slice m 512 cm'],.pointer (some ⟨g,0,none⟩),.int .i64 d,.int .i64 p,.bool wr] w (Xnn g A w (b,p,0)):=by
 have HB:=Zh hb
 have HL:=Zh hl
 have hg:=Xb9 hb
 have h0:=hb.1
 rw[hm]at h0
 have S0:=Zh (Xae (Xal w))
 clear hb hl hm
 go_enter Tryz.func79,Tryz.ntmps79
 go_wp2
 go_ret2
 exact⟨A,n,c,rfl,Xa0 HB.out (S0.out _),(HL.out.alloc (Nat.le_refl _) _).more (by simp),Xdo hg (S0.out _),Xbo _ _⟩
theorem Xj1 (xs:List Int) (m:Option Addr) (cm':Nat) (b:Brg) (A:Option Addr) (n c g:Nat) (d p:Int) (wr:Bool) (w:World) (hb:Xbj w g b A n c) (hl:Lines w w.heap.size A n c b.cache) (hm:b.mode=2) (k:Nat) (x:Line) (hf:Xb7 b.cache d p=(k:Int)) (hk:b.cache[k]?=some x) (hw:wr=true) (hx:x.wr=false) :
  Calls Tryz.prog 79 #[.agg #[.slice m 512 cm'],.pointer (some ⟨g,0,none⟩),.int .i64 d,.int .i64 p,.bool wr] w (Xnn g A w (b,0,5)):=by
 have HB:=Zh hb
 have HL:=Zh hl
 have HF:=Zh hf
 have hg:=Xb9 hb
 have h0:=hb.1
 rw[hm]at h0
 have h2:=hb.2.2.1
 have hkn:k<n:=by rw[←hl.len];exact(List.getElem?_eq_some_iff.1 hk).1
 obtain⟨q,off,rfl,hq,hc⟩:=hl.at_ (by omega)
 obtain⟨e0,e1,e2,e3,e4⟩:=hc k x hk
 have S0:=Zh (Xae (Xal w))
 have i0:(0:Int)≤(k:Int):=by omega
 have i1:(k:Int)<(n:Int):=by omega
 have t1:decide ((0:Int)≤(k:Int))=true:=by simp
 subst hw
 rw[hx]at e4
 clear hx
 clear hb hl hm hf hc hk
 go_enter Tryz.func79,Tryz.ntmps79
 go_wp2_with fail
 refine(Xcf _ _ _ b.cache d p _ ((HL.out.alloc (Nat.le_refl _) _).more (by simp))).mono ?_
 rw[HF.out]
 rintro e w1 ⟨rfl,hb1⟩
 have hz1:=hb1.size
 (try simp only[Zs]at hz1)
 obtain⟨k1_0,l1_0,q1_0⟩:=aft hb1 (g) (by(try simp)<;>omega)
 obtain⟨k1_1,l1_1,q1_1⟩:=aft hb1 (q) (by(try simp)<;>omega)
 simp(maxDischargeDepth:=6) [go_sem, *]at k1_0 q1_0 k1_1 q1_1
 have HB1:=Zh hb1
 clear hb1
 go_wp2
 go_ret2
 have S1:=Xax HB1.out (S0.out _)
 exact⟨_,n,c,rfl,Xa0 HB.out S1,(HL.out.below S1).more S1.size,Xdo hg S1,Xbo _ _⟩
theorem Xj0 (xs:List Int) (m:Option Addr) (cm':Nat) (b:Brg) (A:Option Addr) (n c g:Nat) (d p:Int) (wr:Bool) (w:World) (hb:Xbj w g b A n c) (hl:Lines w w.heap.size A n c b.cache) (hm:b.mode=2) (k:Nat) (x:Line) (hf:Xb7 b.cache d p=(k:Int)) (hk:b.cache[k]?=some x) (hw:wr=false) :
  Calls Tryz.prog 79 #[.agg #[.slice m 512 cm'],.pointer (some ⟨g,0,none⟩),.int .i64 d,.int .i64 p,.bool wr] w (Xnn g A w (b,x.at_,0)):=by
 have HB:=Zh hb
 have HL:=Zh hl
 have HF:=Zh hf
 have hg:=Xb9 hb
 have h0:=hb.1
 rw[hm]at h0
 have h2:=hb.2.2.1
 have hkn:k<n:=by rw[←hl.len];exact(List.getElem?_eq_some_iff.1 hk).1
 obtain⟨q,off,rfl,hq,hc⟩:=hl.at_ (by omega)
 obtain⟨e0,e1,e2,e3,e4⟩:=hc k x hk
 have S0:=Zh (Xae (Xal w))
 have i0:(0:Int)≤(k:Int):=by omega
 have i1:(k:Int)<(n:Int):=by omega
 have t1:decide ((0:Int)≤(k:Int))=true:=by simp
 subst hw
 clear hb hl hm hf hc hk
 go_enter Tryz.func79,Tryz.ntmps79
 go_wp2_with fail
 refine(Xcf _ _ _ b.cache d p _ ((HL.out.alloc (Nat.le_refl _) _).more (by simp))).mono ?_
 rw[HF.out]
 rintro e w1 ⟨rfl,hb1⟩
 have hz1:=hb1.size
 (try simp only[Zs]at hz1)
 obtain⟨k1_0,l1_0,q1_0⟩:=aft hb1 (g) (by(try simp)<;>omega)
 obtain⟨k1_1,l1_1,q1_1⟩:=aft hb1 (q) (by(try simp)<;>omega)
 simp(maxDischargeDepth:=6) [go_sem, *]at k1_0 q1_0 k1_1 q1_1
 have HB1:=Zh hb1
 clear hb1
 go_wp2
 go_ret2
 have S1:=Xax HB1.out (S0.out _)
 exact⟨_,n,c,rfl,Xa0 HB.out S1,(HL.out.below S1).more S1.size,Xdo hg S1,Xbo _ _⟩
theorem Xjz (xs:List Int) (m:Option Addr) (cm':Nat) (b:Brg) (A:Option Addr) (n c g:Nat) (d p:Int) (wr:Bool) (w:World) (hb:Xbj w g b A n c) (hl:Lines w w.heap.size A n c b.cache) (hm:b.mode=2) (k:Nat) (x:Line) (hf:Xb7 b.cache d p=(k:Int)) (hk:b.cache[k]?=some x) (hw:wr=true) (hx:x.wr=true) :
  Calls Tryz.prog 79 #[.agg #[.slice m 512 cm'],.pointer (some ⟨g,0,none⟩),.int .i64 d,.int .i64 p,.bool wr] w (Xnn g A w (b,x.at_,0)):=by
 have HB:=Zh hb
 have HL:=Zh hl
 have HF:=Zh hf
 have hg:=Xb9 hb
 have h0:=hb.1
 rw[hm]at h0
 have h2:=hb.2.2.1
 have hkn:k<n:=by rw[←hl.len];exact(List.getElem?_eq_some_iff.1 hk).1
 obtain⟨q,off,rfl,hq,hc⟩:=hl.at_ (by omega)
 obtain⟨e0,e1,e2,e3,e4⟩:=hc k x hk
 have S0:=Zh (Xae (Xal w))
 have i0:(0:Int)≤(k:Int):=by omega
 have i1:(k:Int)<(n:Int):=by omega
 have t1:decide ((0:Int)≤(k:Int))=true:=by simp
 subst hw
 rw[hx]at e4
 clear hx
 clear hb hl hm hf hc hk
 go_enter Tryz.func79,Tryz.ntmps79
 go_wp2_with fail
 refine(Xcf _ _ _ b.cache d p _ ((HL.out.alloc (Nat.le_refl _) _).more (by simp))).mono ?_
 rw[HF.out]
 rintro e w1 ⟨rfl,hb1⟩
 have hz1:=hb1.size
 (try simp only[Zs]at hz1)
 obtain⟨k1_0,l1_0,q1_0⟩:=aft hb1 (g) (by(try simp)<;>omega)
 obtain⟨k1_1,l1_1,q1_1⟩:=aft hb1 (q) (by(try simp)<;>omega)
 simp(maxDischargeDepth:=6) [go_sem, *]at k1_0 q1_0 k1_1 q1_1
 have HB1:=Zh hb1
 clear hb1
 go_wp2
 go_ret2
 have S1:=Xax HB1.out (S0.out _)
 exact⟨_,n,c,rfl,Xa0 HB.out S1,(HL.out.below S1).more S1.size,Xdo hg S1,Xbo _ _⟩
end
section
attribute [local go_sem ↓] Go.wp_at_zero Go.wp_at_succ
theorem Xpe (xs:List Int) (m:Option Addr) (cm':Nat) (b:Brg) (A:Option Addr) (n c:Nat) (d p:Int) (wr:Bool) (x1 x2 x3:Int) (x4 x5 kp:Bool) (f:Int) (w:World) (hm:Ints w w.heap.size m 512 xs) (h0:cm xs=0) (hbase:0≤b.base∧b.base<64) (hin:inD d p) (hq:Xca xs b d p wr=(⟨x1,x2,x3,x4,x5⟩,kp,f)) :
  Calls Tryz.prog 93 #[.agg #[.slice m 512 cm'],.agg (B_.b b A n c),.int .i64 d,.int .i64 p,.bool wr] w fun e w'=>e=.returned (.tuple #[.agg #[.int .i64 x1,.int .i64 x2,.int .i64 x3,.bool x4,.bool x5],.bool kp,.int .i64 f])∧Below w.heap.size w w':=by
 have:=Xnh xs m cm' b A n c d p wr w hm h0 hbase hin
 rw[hq]at this
 exact this
theorem Xd6 {w W:World} {A:Option Addr} {n:Nat} {xs:List Int} (hx:Ints w w.heap.size A n xs) (h:Xan w W):Ints W W.heap.size A n xs:=Xaf hx h
theorem Xb0 {w W:World} {A:Option Addr} {n c:Nat} {ls:List Line} (hx:Lines w w.heap.size A n c ls) (h:Xan w W):Lines W W.heap.size A n c ls:=Xah hx h
theorem keepB {w1 W:World} {g mb:Nat} {mv:Value} {b:Brg} {A:Option Addr} {n c:Nat} (h:Xan w1 W) (hm:w1.cell? ⟨mb,0,none⟩=some mv) (hb:Xbj w1 g b A n c) :
  W.cell? ⟨mb,0,none⟩=some mv∧W.cell? ⟨g,0,none⟩=some (.int .i64 b.mode)∧W.cell? ⟨g,1,none⟩=some (.int .i64 b.base)∧W.cell? ⟨g,2,none⟩=some (.slice A n c)∧W.cell? ⟨g,3,none⟩=some (.int .i64 b.orders.page)∧W.cell? ⟨g,4,none⟩=some (.int .i64 b.orders.head)∧W.cell? ⟨g,5,none⟩=some (.int .i64 b.orders.tail)∧W.cell? ⟨g,6,none⟩=some (.bool b.stopped)∧W.cell? ⟨g,7,none⟩=some (.int .i64 b.fences)∧W.cell? ⟨g,8,none⟩=some (.int .i64 b.faults.page)∧W.cell? ⟨g,9,none⟩=some (.int .i64 b.faults.head)∧W.cell? ⟨g,10,none⟩=some (.int .i64 b.faults.tail)∧W.cell? ⟨g,11,none⟩=some (.bool b.lost)∧Hid (Xan w1 W):=by
 obtain⟨h0,h1,h2,h3,h4,h5,h6,h7,h8,h9,h10,h11⟩:=Xa0 hb h
 exact⟨Xak h hm,h0,h1,h2,h3,h4,h5,h6,h7,h8,h9,h10,h11,h⟩
theorem Xdi {w1 W:World} {c0 c1 c2 c3 c4 c5 c6 c7 c8 c9 c10 c11 c12:Prop} (h:c0∧c1∧c2∧c3∧c4∧c5∧c6∧c7∧c8∧c9∧c10∧c11∧c12∧Hid (Xan w1 W)):Xan w1 W:=h.2.2.2.2.2.2.2.2.2.2.2.2.2
theorem Xa3 {w1 W:World} {p:Addr} (h:Xan w1 W) (hp:w1.heap.size≤p.block) (u:Value):Xan w1 (W.setCell p u):=Below.setCell h hp u
theorem keepL {w1 W:World} {g gx:Nat} {x:Line} {v:Value} (h:Xan w1 W) (hc:w1.cell? ⟨g,2,none⟩=some v) (hx:Xkl w1 gx 0 x) :
  W.cell? ⟨g,2,none⟩=some v∧W.cell? ⟨gx,0,none⟩=some (.int .i64 x.dev)∧W.cell? ⟨gx,1,none⟩=some (.int .i64 x.page)∧W.cell? ⟨gx,2,none⟩=some (.int .i64 x.at_)∧W.cell? ⟨gx,3,none⟩=some (.bool x.rd)∧W.cell? ⟨gx,4,none⟩=some (.bool x.wr)∧Hid (Xan w1 W):=by
 obtain⟨h0,h1,h2,h3,h4⟩:=hx
 exact⟨Xak h hc,Xak h h0,Xak h h1,Xak h h2,Xak h h3,Xak h h4,h⟩
theorem Xi5 {w1 W:World} {c0 c1 c2 c3 c4 c5:Prop} (h:c0∧c1∧c2∧c3∧c4∧c5∧Hid (Xan w1 W)):Xan w1 W:=h.2.2.2.2.2.2
def Xw7 (w1:World) (x1 x2 x3:Int) (x4 x5 kp:Bool) (f:Int) (s13 s14 s15:Value) (wd:World):Prop:=
 ∃ gx,s13=.pointer (some ⟨gx,0,none⟩)∧s14=.bool kp∧s15=.int .i64 f∧Hid (w1.heap.size≤gx∧gx<wd.heap.size)∧Hid (Xan w1 wd)∧Hid (Xkl wd gx 0 ⟨x1,x2,x3,x4,x5⟩)
theorem Xnt (xs:List Int) (m:Option Addr) (cm':Nat) (b:Brg) (A:Option Addr) (n c g:Nat) (d p:Int) (wr:Bool) (w:World) (hb:Xbj w g b A n c) (hl:Lines w w.heap.size A n c b.cache) (hx:Ints w w.heap.size m 512 xs) (h0':cm xs=0) (hbase:0≤b.base∧b.base<64) (hin:inD d p) (hm:b.mode=2) (hf:Xb7 b.cache d p = -1) (x1 x2 x3:Int) (x4 x5:Bool) (f:Int) (hq:Xca xs b d p wr=(⟨x1,x2,x3,x4,x5⟩,false,f)) :
  Calls Tryz.prog 79 #[.agg #[.slice m 512 cm'],.pointer (some ⟨g,0,none⟩),.int .i64 d,.int .i64 p,.bool wr] w (Xnn g A w (b,x3,f)):=by
 have HB:=Zh hb
 have HL:=Zh hl
 have HF:=Zh hf
 have HX:=Zh hx
 have HQ:=Zh hq
 have H0:=Zh h0'
 have HBS:=Zh hbase
 have HIN:=Zh hin
 have hg:=Xb9 hb
 have m0:(b.mode==0)=false:=by rw[hm];rfl
 have m1:(b.mode==1)=false:=by rw[hm];rfl
 obtain⟨h0,h1,h2,h3,h4,h5,h6,h7,h8,h9,h10,h11⟩:=hb
 have S0:=Zh (Xae (Xal w) (.cells #[.slice m 512 cm'] 24))
 clear hl hf hx hq h0' hbase hin hm
 go_enter Tryz.func79,Tryz.ntmps79
 go_wp2_with fail
 refine(Xcf _ _ _ b.cache d p _ ((HL.out.alloc (Nat.le_refl _) _).more (by simp))).mono ?_
 rw[HF.out]
 rintro e w1 ⟨rfl,hb1⟩
 have HS1:=Zh (Xax hb1 S0.out)
 have HG1:=Zh (Xa0 HB.out HS1.out)
 have HX1:=Zh (Xaf HX.out HS1.out)
 have hz1:=hb1.size
 (try simp only[Zs]at hz1)
 obtain⟨k1_0,l1_0,q1_0⟩:=aft hb1 (g) (by(try simp)<;>omega)
 obtain⟨k1_1,l1_1,q1_1⟩:=aft hb1 (w.heap.size) (by(try simp)<;>omega)
 simp(maxDischargeDepth:=6) [go_sem, *]at k1_0 q1_0 k1_1 q1_1
 have HB1:=Zh hb1
 clear hb1
 have HM1:Hid (w1.cell? ⟨w.heap.size,0,none⟩=some (.slice m 512 cm')):=Zh (k1_1 0)
 go_upto_region 11 with(fail)
 go_cut [13,14,15] (fun s13 s14 s15 wd=>Xw7 w1 x1 x2 x3 x4 x5 false f s13 s14 s15 wd)
 case first=>
  go_region_held3 (fun W=>W.cell? ⟨w.heap.size,0,none⟩=some (.slice m 512 cm')∧W.cell? ⟨g,0,none⟩=some (.int .i64 b.mode)∧W.cell? ⟨g,1,none⟩=some (.int .i64 b.base)∧W.cell? ⟨g,2,none⟩=some (.slice A n c)∧W.cell? ⟨g,3,none⟩=some (.int .i64 b.orders.page)∧W.cell? ⟨g,4,none⟩=some (.int .i64 b.orders.head)∧W.cell? ⟨g,5,none⟩=some (.int .i64 b.orders.tail)∧W.cell? ⟨g,6,none⟩=some (.bool b.stopped)∧W.cell? ⟨g,7,none⟩=some (.int .i64 b.fences)∧W.cell? ⟨g,8,none⟩=some (.int .i64 b.faults.page)∧W.cell? ⟨g,9,none⟩=some (.int .i64 b.faults.head)∧W.cell? ⟨g,10,none⟩=some (.int .i64 b.faults.tail)∧W.cell? ⟨g,11,none⟩=some (.bool b.lost)∧Hid (Xan w1 W))
   (((with_reducible refine keepB ?_ HM1.out HG1.out);(repeat(first|(with_reducible assumption)|(with_reducible exact Xal _)|(with_reducible exact Xdi (by assumption))|(with_reducible exact Xax (by assumption) (Xdi (by assumption)))|(with_reducible refine Xar ?_)|(with_reducible refine Xae ?_ _)|((with_reducible refine Xa3 ?_ ?_ _);rotate_left;exact(by(try simp)<;>omega))));done))
   (first
    |(go_at_call 93;refine(Xpe xs _ _ b _ _ _ d p wr x1 x2 x3 x4 x5 false f _ ?_ H0.out HBS.out HIN.out HQ.out).mono ?_;(with_reducible exact Xd6 HX1.out (Xdi (by assumption)));rintro e w2 ⟨rfl,hb2⟩;have hs2:=Xax hb2 (Xdi (by assumption));have hz2:=hb2.size;(try simp only[Zs]at hz2);(try(have l2_5:(w1.heap.size)<w2.heap.size:=(by omega);have k2_5:=fun o=>(Xa9 hb2).1 (w1.heap.size) o (by(try simp)<;>omega);have q2_5:=fun o=>(Xa9 hb2).2 (w1.heap.size) o (by(try simp)<;>omega);simp(maxDischargeDepth:=6) [go_sem, *]at k2_5 q2_5))))
  all_goals
   go_wp2
   go_meet
   rename_i hHeld
   have HS:=Zh (Xdi hHeld)
   have hz:=hs2.size
   clear hHeld
   refine⟨_,rfl,rfl,rfl, ?_,HS.out, ?_⟩
   ·show _∧_
    refine⟨?_, ?_⟩<;>first|(simp;done)|(simp;omega)|omega
   ·show Xkl _ _ _ _
    refine⟨?_, ?_, ?_, ?_, ?_⟩<;>simp(maxDischargeDepth:=8) [go_sem, *]
 case rest=>
  obtain⟨gx,rfl,rfl,rfl,hgx,hs2,hx2⟩:=hcut
  obtain⟨hx0,hx1,hxa,hx3,hx4⟩:=hx2.out
  go_wp2
  go_ret2
  have S2:Xan w wc:=Below.trans HS1.out (Below.mono hs2.out HS1.out.size)
  exact⟨A,n,c,rfl,Xa0 HB.out S2,Xah HL.out S2,Xdo hg S2,Xbo _ _⟩
theorem Xy7 {w:World} {g:Nat} {b:Brg} {A:Option Addr} {n c:Nat} (h:Xbj w g b A n c) (ls:List Line) (A':Option Addr) (n' c':Nat):Xbj (w.setCell ⟨g,2,none⟩ (.slice A' n' c')) g { b with cache:=ls } A' n' c':=by
 obtain⟨h0,h1,h2,h3,h4,h5,h6,h7,h8,h9,h10,h11⟩:=h
 unfold Xbj
 simp[go_sem, *]
theorem Xdj {w W:World} {g o:Nat} (hg:g<w.heap.size) (h:Xan w W) (u:Value):Only g w (W.setCell ⟨g,o,none⟩ u):=
 ⟨(Below.mono h (Nat.le_of_lt hg)).setCell (Nat.le_refl _) _,by have:=h.size;simpa using this,fun q j hq hl=>by
  rw[World.cell?_setCell_other _ _ _ _ (by intro e;exact hq (by have:=congrArg Addr.block e;simp at this;omega))];exact Below.cell (p:=⟨q,j,none⟩) h hl,fun q j hl=>by
  rw[World.frozen?_setCell];exact Below.frozen (p:=⟨q,j,none⟩) h hl⟩
theorem Xls (xs:List Int) (m:Option Addr) (cm':Nat) (b:Brg) (A:Option Addr) (n c g:Nat) (d p:Int) (wr:Bool) (w:World) (hb:Xbj w g b A n c) (hfz:∀ o,w.frozen? ⟨g,o,none⟩=false) (hl:Lines w w.heap.size A n c b.cache) (hx:Ints w w.heap.size m 512 xs) (h0':cm xs=0) (hbase:0≤b.base∧b.base<64) (hin:inD d p) (hm:b.mode=2) (hf:Xb7 b.cache d p = -1) (x1 x2 x3:Int) (x4 x5:Bool) (hq:Xca xs b d p wr=(⟨x1,x2,x3,x4,x5⟩,true,0)) (hE:Xfk b.cache ⟨x1,x2,x3,x4,x5⟩=0) :
  Calls Tryz.prog 79 #[.agg #[.slice m 512 cm'],.pointer (some ⟨g,0,none⟩),.int .i64 d,.int .i64 p,.bool wr] w (Xnn g A w ({ b with cache:=Xfc b.cache ⟨x1,x2,x3,x4,x5⟩ },x3,0)):=by
 have HE:=Zh hE
 clear hE
 have HB:=Zh hb
 have HL:=Zh hl
 have HFZ:=Zh hfz
 clear hfz
 have HF:=Zh hf
 have HX:=Zh hx
 have HQ:=Zh hq
 have H0:=Zh h0'
 have HBS:=Zh hbase
 have HIN:=Zh hin
 have hg:=Xb9 hb
 have m0:(b.mode==0)=false:=by rw[hm];rfl
 have m1:(b.mode==1)=false:=by rw[hm];rfl
 obtain⟨h0,h1,h2,h3,h4,h5,h6,h7,h8,h9,h10,h11⟩:=hb
 have S0:=Zh (Xae (Xal w) (.cells #[.slice m 512 cm'] 24))
 clear hl hf hx hq h0' hbase hin hm
 go_enter Tryz.func79,Tryz.ntmps79
 go_wp2_with fail
 refine(Xcf _ _ _ b.cache d p _ ((HL.out.alloc (Nat.le_refl _) _).more (by simp))).mono ?_
 rw[HF.out]
 rintro e w1 ⟨rfl,hb1⟩
 have HS1:=Zh (Xax hb1 S0.out)
 have HG1:=Zh (Xa0 HB.out HS1.out)
 have HX1:=Zh (Xaf HX.out HS1.out)
 have hz1:=hb1.size
 (try simp only[Zs]at hz1)
 obtain⟨k1_0,l1_0,q1_0⟩:=aft hb1 (g) (by(try simp)<;>omega)
 obtain⟨k1_1,l1_1,q1_1⟩:=aft hb1 (w.heap.size) (by(try simp)<;>omega)
 simp(maxDischargeDepth:=6) [go_sem, *]at k1_0 q1_0 k1_1 q1_1
 have HB1:=Zh hb1
 clear hb1
 have HM1:Hid (w1.cell? ⟨w.heap.size,0,none⟩=some (.slice m 512 cm')):=Zh (k1_1 0)
 go_upto_region 11 with(fail)
 go_cut [13,14,15] (fun s13 s14 s15 wd=>Xw7 w1 x1 x2 x3 x4 x5 true 0 s13 s14 s15 wd)
 case first=>
  go_region_held3 (fun W=>W.cell? ⟨w.heap.size,0,none⟩=some (.slice m 512 cm')∧W.cell? ⟨g,0,none⟩=some (.int .i64 b.mode)∧W.cell? ⟨g,1,none⟩=some (.int .i64 b.base)∧W.cell? ⟨g,2,none⟩=some (.slice A n c)∧W.cell? ⟨g,3,none⟩=some (.int .i64 b.orders.page)∧W.cell? ⟨g,4,none⟩=some (.int .i64 b.orders.head)∧W.cell? ⟨g,5,none⟩=some (.int .i64 b.orders.tail)∧W.cell? ⟨g,6,none⟩=some (.bool b.stopped)∧W.cell? ⟨g,7,none⟩=some (.int .i64 b.fences)∧W.cell? ⟨g,8,none⟩=some (.int .i64 b.faults.page)∧W.cell? ⟨g,9,none⟩=some (.int .i64 b.faults.head)∧W.cell? ⟨g,10,none⟩=some (.int .i64 b.faults.tail)∧W.cell? ⟨g,11,none⟩=some (.bool b.lost)∧Hid (Xan w1 W))
   (((with_reducible refine keepB ?_ HM1.out HG1.out);(repeat(first|(with_reducible assumption)|(with_reducible exact Xal _)|(with_reducible exact Xdi (by assumption))|(with_reducible exact Xax (by assumption) (Xdi (by assumption)))|(with_reducible refine Xar ?_)|(with_reducible refine Xae ?_ _)|((with_reducible refine Xa3 ?_ ?_ _);rotate_left;exact(by(try simp)<;>omega))));done))
   (first
    |(go_at_call 93;refine(Xpe xs _ _ b _ _ _ d p wr x1 x2 x3 x4 x5 true 0 _ ?_ H0.out HBS.out HIN.out HQ.out).mono ?_;(with_reducible exact Xd6 HX1.out (Xdi (by assumption)));rintro e w2 ⟨rfl,hb2⟩;have hs2:=Xax hb2 (Xdi (by assumption));have hz2:=hb2.size;(try simp only[Zs]at hz2);(try(have l2_5:(w1.heap.size)<w2.heap.size:=(by omega);have k2_5:=fun o=>(Xa9 hb2).1 (w1.heap.size) o (by(try simp)<;>omega);have q2_5:=fun o=>(Xa9 hb2).2 (w1.heap.size) o (by(try simp)<;>omega);simp(maxDischargeDepth:=6) [go_sem, *]at k2_5 q2_5))))
  all_goals
   go_wp2
   go_meet
   rename_i hHeld
   have HS:=Zh (Xdi hHeld)
   have hz:=hs2.size
   clear hHeld
   refine⟨_,rfl,rfl,rfl, ?_,HS.out, ?_⟩
   ·show _∧_
    refine⟨?_, ?_⟩<;>first|(simp;done)|(simp;omega)|omega
   ·show Xkl _ _ _ _
    refine⟨?_, ?_, ?_, ?_, ?_⟩<;>simp(maxDischargeDepth:=8) [go_sem, *]
 case rest=>
  obtain⟨gx,rfl,rfl,rfl,hgx,hs2,hx2⟩:=hcut
  obtain⟨hgx1,hgx2⟩:=hgx.out
  obtain⟨hx0,hx1',hxa,hx3,hx4⟩:=hx2.out
  have HWC:=Zh (show Xan w wc from Below.trans HS1.out (Below.mono hs2.out HS1.out.size))
  have HL1:=Zh (Xah HL.out HWC.out)
  have HGC:=Zh (Xa0 HB.out HWC.out)
  have HG2:=Zh HGC.out.2.2.1
  go_upto_region 13 with(fail)
  go_cut [16,17] (fun s16 s17 wd=>∃ A' c',s16=.slice A' (Xfc b.cache ⟨x1,x2,x3,x4,x5⟩).length c'∧s17=.int .i64 0∧Hid (OwnL wc.heap.size wd A' (Xfc b.cache ⟨x1,x2,x3,x4,x5⟩).length c' (Xfc b.cache ⟨x1,x2,x3,x4,x5⟩))∧Hid (Xan wc wd))
  case first=>
   go_region_held3 (fun W=>W.cell? ⟨g,2,none⟩=some (.slice A n c)∧W.cell? ⟨gx,0,none⟩=some (.int .i64 x1)∧W.cell? ⟨gx,1,none⟩=some (.int .i64 x2)∧W.cell? ⟨gx,2,none⟩=some (.int .i64 x3)∧W.cell? ⟨gx,3,none⟩=some (.bool x4)∧W.cell? ⟨gx,4,none⟩=some (.bool x5)∧Hid (Xan wc W))
    (((with_reducible refine keepL (x:=⟨x1,x2,x3,x4,x5⟩) ?_ HG2.out hx2.out);(repeat(first|(with_reducible assumption)|(with_reducible exact Xal _)|(with_reducible exact Xi5 (by assumption))|(with_reducible exact Xax (by assumption) (Xi5 (by assumption)))|(with_reducible refine Xar ?_)|(with_reducible refine Xae ?_ _)|((with_reducible refine Xa3 ?_ ?_ _);rotate_left;exact(by(try simp)<;>omega))));done))
    (first
     |(go_at_call 94;refine(Xqz _ _ _ b.cache ⟨x1,x2,x3,x4,x5⟩ _ ?_ HE.out).mono ?_;(with_reducible exact Xb0 HL1.out (Xi5 (by assumption)));rintro e w3 ⟨A',c',rfl,ho,hb3⟩;have hs3:=Xax hb3 (Xi5 (by assumption));have HO:Hid (OwnL wc.heap.size w3 A' (Xfc b.cache ⟨x1,x2,x3,x4,x5⟩).length c' (Xfc b.cache ⟨x1,x2,x3,x4,x5⟩)):=Zh (ho.low (Below.size (Xi5 (by assumption))));clear ho))
   all_goals
    go_wp2
    go_meet
    exact⟨_,_,rfl,rfl,HO.out,hs3⟩
  case rest=>
   obtain⟨A',c',rfl,rfl,ho,hs3⟩:=hcut
   have HG3:=Zh (Xa0 HGC.out hs3.out)
   have k3:=HG3.out.2.2.1
   have f3:=(Below.frozen (p:=⟨g,2,none⟩) hs3.out (Nat.lt_of_lt_of_le hg (Below.size HWC.out))).trans ((Below.frozen (p:=⟨g,2,none⟩) HWC.out hg).trans (HFZ.out 2))
   have hne:¬gx=g:=by have:=Below.size HS1.out;omega
   have hne':¬g=gx:=fun e=>hne e.symm
   have k4:=Xak hs3.out hxa
   simp only[Nat.zero_add]at k4
   have SS:=Zh (show Xan w _ from Below.trans HWC.out (Below.mono hs3.out (Below.size HWC.out)))
   go_wp2
   go_ret2
   refine⟨A',_,c',rfl,Xy7 HG3.out _ _ _ _, ?_,Xdj hg SS.out _,fun ad h=>Or.inr (Nat.le_trans (Below.size HWC.out) (Xbg ho.out.2.2.2 _ (by rw[h];rfl)))⟩
   exact(ho.out.set (Nat.lt_of_lt_of_le hg (Below.size HWC.out)) _).lines
end
section
attribute [local go_sem ↓] Go.wp_at_zero Go.wp_at_succ
theorem Xb5 {w:World} {B n c:Nat} {A:Option Addr} {ls:List Line} (h:Lines w B A n c ls) {p:Addr} (hp:∀ ad,A=some ad→ad.block≠p.block) (u:Value):Lines (w.setCell p u) B A n c ls:=by
 obtain⟨h1,h2,h3,h4,h5⟩:=h
 refine⟨h1,h2,h3,h4,fun h0=>?_⟩
 obtain⟨b,off,e,hb,hc⟩:=h5 h0
 exact⟨b,off,e,hb,fun j v hv=>(World.cell?_setCell_other _ _ _ _ (fun e'=>hp _ e (by have:=congrArg Addr.block e';simpa using this.symm))).trans (hc j v hv)⟩
theorem Xnu (xs:List Int) (m:Option Addr) (cm':Nat) (b:Brg) (A:Option Addr) (n c g:Nat) (d p:Int) (wr:Bool) (w:World) (hb:Xbj w g b A n c) (hfz:∀ o,w.frozen? ⟨g,o,none⟩=false) (hl:Lines w w.heap.size A n c b.cache) (hx:Ints w w.heap.size m 512 xs) (h0:cm xs=0) (hck:ckB b=0) (hin:inD d p) :
  Calls Tryz.prog 79 #[.agg #[.slice m 512 cm'],.pointer (some ⟨g,0,none⟩),.int .i64 d,.int .i64 p,.bool wr] w (Xnn g A w (Xdh xs b d p wr)):=by
 obtain⟨hr,hc,_,_⟩:=(Xbn b).1 hck
 have hbase:0≤b.base∧b.base<64:=hr.2.1
 by_cases hm0:b.mode=0
 ·rw[show Xdh xs b d p wr=(b,0,1) by unfold Xdh;rw[if_pos hm0]]
  exact Xlr xs m cm' b A n c g d p wr w hb hl hm0
 ·by_cases hm1:b.mode=1
  ·rw[show Xdh xs b d p wr=(b,p,0) by unfold Xdh;rw[if_neg hm0,if_pos hm1]]
   exact Xlt xs m cm' b A n c g d p wr w hb hl hm1
  ·have hm2:b.mode=2:=by have:=hr.1;omega
   cases hf:b.cache.find? (hitL d p)with
   |some x=>
    obtain⟨k,e,hk⟩:=Xtr hf
    by_cases hx5:wr=true∧x.wr=false
    ·rw[show Xdh xs b d p wr=(b,0,5) by unfold Xdh;rw[if_neg hm0,if_neg hm1,hf];simp[hx5.1,hx5.2]]
     exact Xj1 xs m cm' b A n c g d p wr w hb hl hm2 k x e hk hx5.1 hx5.2
    ·have ex:Xdh xs b d p wr=(b,x.at_,0):=by
      unfold Xdh;rw[if_neg hm0,if_neg hm1,hf]
      cases wr<;>cases hxw:x.wr<;>simp_all
     rw[ex]
     cases wr with
     |false=>exact Xj0 xs m cm' b A n c g d p false w hb hl hm2 k x e hk rfl
     |true=>exact Xjz xs m cm' b A n c g d p true w hb hl hm2 k x e hk rfl (by cases h:x.wr<;>simp_all)
   |none=>
    have e:=Xjj hf
    have et:Xdh xs b d p wr=((if(Xca xs b d p wr).2.1 then{ b with cache:=Xfc b.cache (Xca xs b d p wr).1 }else b),(Xca xs b d p wr).1.at_,(Xca xs b d p wr).2.2):=by
     unfold Xdh;rw[if_neg hm0,if_neg hm1,hf]
    rw[et]
    have hline:=Xia (xs:=xs) (b:=b) (wr:=wr) hin
    cases hq:Xca xs b d p wr with
    |mk x r=>
     obtain⟨kp,f⟩:=r
     obtain⟨x1,x2,x3,x4,x5⟩:=x
     cases kp with
     |false=>exact Xnt xs m cm' b A n c g d p wr w hb hl hx h0 hbase hin hm2 e x1 x2 x3 x4 x5 f hq
     |true=>
      rw[hq]at hline
      obtain⟨q1,q2,q3,q4⟩:=hline rfl
      simp only[]at q2 q3 q4
      subst q2 q3 q4
      exact Xls xs m cm' b A n c g x1 x2 wr w hb hfz hl hx h0 hbase hin hm2 e x1 x2 x3 x4 x5 hq (Xk8 hc q1 (by rw[e];decide))
theorem Xpy (xs:List Int) (m:Option Addr) (cm':Nat) (b:Brg) (A:Option Addr) (n c g:Nat) (d p:Int) (wr:Bool) (rb:Brg) (ra rf:Int) (w:World) (hb:Xbj w g b A n c) (hfz:∀ o,w.frozen? ⟨g,o,none⟩=false) (hl:Lines w w.heap.size A n c b.cache) (hx:Ints w w.heap.size m 512 xs) (h0:cm xs=0) (hck:ckB b=0) (hin:inD d p) (hr:Xdh xs b d p wr=(rb,ra,rf)) :
  Calls Tryz.prog 79 #[.agg #[.slice m 512 cm'],.pointer (some ⟨g,0,none⟩),.int .i64 d,.int .i64 p,.bool wr] w fun e w'=>∃ A' n c,e=.returned (.tuple #[.int .i64 ra,.int .i64 rf])∧Xbj w' g rb A' n c∧Lines w' w'.heap.size A' n c rb.cache∧Only g w w'∧Xj6 w A A':=by
 have:=Xnu xs m cm' b A n c g d p wr w hb hfz hl hx h0 hck hin
 rw[hr]at this
 exact this
def Xwi (w:World) (r:Brg×Int×Int) (E:Int) (e:Ending) (w':World):Prop:=
 ∃ A n c,e=.returned (.tuple #[.agg (B_.b r.1 A n c),.int .i64 r.2.1,.int .i64 r.2.2,.int .i64 E])∧Lines w' w'.heap.size A n c r.1.cache∧Below w.heap.size w w'∧∀ ad,A=some ad→w.heap.size≤ad.block
theorem Xkk (xs:List Int) (m:Option Addr) (cm':Nat) (b:Brg) (A:Option Addr) (n c:Nat) (d p:Int) (wr:Bool) (w:World) (hx:Ints w w.heap.size m 512 xs) (hl:Lines w w.heap.size A n c b.cache) (h0:cm xs=0) (hb:ckB b=0) (hin:inD d p) (rb:Brg) (ra rf:Int) (hr:Xdh xs b d p wr=(rb,ra,rf)) :
  Calls Tryz.prog 50 #[.agg #[.slice m 512 cm'],.agg (B_.b b A n c),.int .i64 d,.int .i64 p,.bool wr] w (Xwi w (rb,ra,rf) 0):=by
 have HT:=Zh hr
 have HX:=Zh hx
 have HL:=Zh hl
 have HE:=Zh (show allE xs b=0 by unfold allE;rw[if_pos h0];exact hb)
 have HA:=Zh (show askE d p=0 by unfold askE;rw[if_pos hin])
 have H0:=Zh h0
 have HCK:=Zh hb
 have HIN:=Zh hin
 have hn6:n≤1000:=by
  have:=((Xcm b.cache).1 ((Xbn b).1 hb).2.1).1
  have:=hl.len
  omega
 clear hx hl h0 hb hin hr
 go_enter Tryz.func50,Tryz.ntmps50
 go_wp2_with fail
 refine(Xd2 xs _ _ _ b _ _ _ _ (Xaf HX.out (bl (by repeat' first|with_reducible(first|assumption|constructor)|((try simp)<;>omega)))) (Xah HL.out (bl (by repeat' first|with_reducible(first|assumption|constructor)|((try simp)<;>omega))))).mono ?_
 rw[HE.out]
 rintro e w1 ⟨rfl,hb1⟩
 have hz1:=hb1.size
 (try simp only[Zs]at hz1)
 obtain⟨k1_0,l1_0,q1_0⟩:=aft hb1 (w.heap.size) (by(try simp)<;>omega)
 obtain⟨k1_1,l1_1,q1_1⟩:=aft hb1 (w.heap.size+1) (by(try simp)<;>omega)
 obtain⟨k1_2,l1_2,q1_2⟩:=aft hb1 (w.heap.size+1+1) (by(try simp)<;>omega)
 simp(maxDischargeDepth:=6) [go_sem, *]at k1_0 q1_0 k1_1 q1_1 k1_2 q1_2
 have HB1:=Zh hb1
 clear hb1
 go_wp2_with fail
 refine(Xni _ _ _).mono ?_
 rw[HA.out]
 rintro e w' ⟨rfl,rfl⟩
 go_wp2_with fail
 refine(Xdd b _ _ _ _ (Xah HL.out (bl (by repeat' first|with_reducible(first|assumption|constructor)|((try simp)<;>omega)))) hn6).mono ?_
 rintro e w2 ⟨A2,c2,rfl,ho2,hb2⟩
 have HO2:=Zh ho2
 clear ho2
 have hz2:=hb2.size
 (try simp only[Zs]at hz2)
 obtain⟨k2_0,l2_0,q2_0⟩:=aft hb2 (w.heap.size) (by(try simp)<;>omega)
 obtain⟨k2_1,l2_1,q2_1⟩:=aft hb2 (w.heap.size+1) (by(try simp)<;>omega)
 obtain⟨k2_2,l2_2,q2_2⟩:=aft hb2 (w.heap.size+1+1) (by(try simp)<;>omega)
 simp(maxDischargeDepth:=6) [go_sem, *]at k2_0 q2_0 k2_1 q2_1 k2_2 q2_2
 have HB2:=Zh hb2
 clear hb2
 go_wp2_with fail
 refine(Xpy xs _ _ b A2 n c2 (w.heap.size+1) _ _ _ rb ra rf _ ?_ ?_ ?_ ?_ H0.out HCK.out HIN.out HT.out).mono ?_
 ·unfold Xbj
  simp(maxDischargeDepth:=8) [go_sem, *]
 ·intro o
  simp(maxDischargeDepth:=8) [go_sem, *]
 ·refine OwnL.lines (B:=w1.heap.size) ?_
  (repeat(first|(with_reducible exact HO2.out)|(with_reducible refine OwnL.set ?_ (by first|(simp;done)|(simp;omega)) _)))
 ·refine Xaf HX.out ?_
  (refine bl ?_;repeat' first|with_reducible(first|assumption|constructor)|((try simp)<;>omega))
 rintro e w3 ⟨A3,n3,c3,rfl,hb3,hl3,ho3,hnw3⟩
 have HNW:=Zh (show ∀ ad,A3=some ad→w.heap.size+1+1<ad.block from fun ad h=>by
  rcases hnw3 ad h with h|h
  ·have:=Xbg HO2.out.2.2.2 _ (by rw[h];rfl);omega
  ·simp only[World.size_setCell]at h;omega)
 have HBW:=Zh ((bl (by repeat' first|with_reducible(first|assumption|constructor)|((try simp)<;>omega)):Below w.heap.size w _).trans (ho3.1.mono (by omega)))
 have hz3:=ho3.2.1
 simp only[World.size_setCell]at hz3
 have kr:=fun o=>ho3.2.2.1 (w.heap.size+1+1) o (by omega) (by simp;omega)
 have qr:=fun o=>ho3.2.2.2 (w.heap.size+1+1) o (by simp;omega)
 simp(maxDischargeDepth:=8) [go_sem, *]at kr qr
 have lr:w.heap.size+1+1<w3.heap.size:=by omega
 obtain⟨g0,g1,g2,g3,g4,g5,g6,g7,g8,g9,g10,g11⟩:=hb3
 have HL3:=Zh hl3
 clear ho3 hl3 hnw3
 go_wp2
 refine bodyPost_ret (v:=.tuple #[.agg (B_.b rb A3 n3 c3),.int .i64 ra,.int .i64 rf,.int .i64 0]) ?_ rfl ⟨A3,n3,c3,rfl, ?_, ?_,fun ad h=>by have:=HNW.out ad h;omega⟩
 ·simp(maxDischargeDepth:=8) [results,Tryz.results50,go_sem, *]
 ·have hq:∀ ad,A3=some ad→ad.block≠w.heap.size+1+1:=fun ad h=>Nat.ne_of_gt (HNW.out ad h)
  refine Lines.more (B:=w3.heap.size) ?_ (by simp)
  repeat(first|(with_reducible exact HL3.out)|((with_reducible refine Xb5 ?_ ?_ _);rotate_left;exact hq))
 ·(repeat(first|(with_reducible exact Below.refl _ _)|(with_reducible refine Below.drew ?_)|(with_reducible refine Xbs ?_ _)|((with_reducible refine Below.setCell ?_ ?_ _);rotate_left;exact(by(try simp)<;>omega))|((with_reducible refine Below.alloc ?_ ?_ _);rotate_left;exact(by(try simp)<;>omega))))
  exact HBW.out
end
section
def Xih (r s:Ring):Bool:=r.page==s.page&&r.head==s.head&&r.tail==s.tail
theorem Tryz.eqlRing (x y:Ring) (w:World):(binOp .eql 29 (.agg #[.int .i64 x.page,.int .i64 x.head,.int .i64 x.tail]) (.agg #[.int .i64 y.page,.int .i64 y.head,.int .i64 y.tail])).run Tryz.prog w=.ok (.bool (Xih x y)) w:=by
 unfold Xih
 simp[go_sem]
 repeat' split
 all_goals simp_all
theorem Xrz (a b:Brg):Xp6 a b=(a.mode==b.mode&&a.base==b.base&&eqL a.cache b.cache&&Xih a.orders b.orders&&a.stopped==b.stopped&&a.fences==b.fences&&Xih a.faults b.faults&&a.lost==b.lost):=by
 unfold Xp6
 by_cases h:a=b
 ·subst h;simp[eqL,Xih]
 ·rw[decide_eq_false h]
  symm
  rw[Bool.eq_false_iff]
  intro hh
  simp only[Bool.and_eq_true,beq_iff_eq,eqL,Xih,decide_eq_true_eq]at hh
  obtain⟨⟨⟨⟨⟨⟨⟨h1,h2⟩,h3⟩,⟨h4,h5⟩,h6⟩,h7⟩,h8⟩,⟨h9,h10⟩,h11⟩,h12⟩:=hh
  exact h (Brg.ext' h1 h2 h3 (Ring.ext' h4 h5 h6) h7 h8 (Ring.ext' h9 h10 h11) h12)
theorem Xzp (a b:Brg) (A B:Option Addr) (n c n2 c2:Nat) (w:World) (h1:Lines w w.heap.size A n c a.cache) (h2:Lines w w.heap.size B n2 c2 b.cache) :
  Calls Tryz.prog 28 #[.agg (B_.b a A n c),.agg (B_.b b B n2 c2)] w fun e w'=>e=.returned (.bool (Xp6 a b))∧Below w.heap.size w w':=by
 have H1:=Zh h1
 have H2:=Zh h2
 have HB:=Zh (fun o o'=>((Xag w o).alloc (by simp) o'))
 rw[Xrz]
 clear h1 h2
 cases t1:(a.mode==b.mode)
 ·go_enter Tryz.func28,Tryz.ntmps28
  go_wp2
  go_ret
  exact⟨rfl,HB.out _ _⟩
 cases t2:(a.base==b.base)
 ·go_enter Tryz.func28,Tryz.ntmps28
  go_wp2
  go_ret
  exact⟨rfl,HB.out _ _⟩
 cases t3:eqL a.cache b.cache
 ·have HQ:=Zh t3
  clear t3
  go_enter Tryz.func28,Tryz.ntmps28
  go_wp2_with fail
  refine(Xlx _ _ _ _ _ _ a.cache b.cache _ (Xah H1.out (bl (by repeat' first|with_reducible(first|assumption|constructor)|((try simp)<;>omega)))) (Xah H2.out (bl (by repeat' first|with_reducible(first|assumption|constructor)|((try simp)<;>omega))))).mono ?_
  rw[HQ.out]
  rintro e w1 ⟨rfl,hb1⟩
  have hz1:=hb1.size
  (try simp only[Zs]at hz1)
  obtain⟨k1_0,l1_0,q1_0⟩:=aft hb1 (w.heap.size) (by(try simp)<;>omega)
  obtain⟨k1_1,l1_1,q1_1⟩:=aft hb1 (w.heap.size+1) (by(try simp)<;>omega)
  simp(maxDischargeDepth:=6) [go_sem, *]at k1_0 q1_0 k1_1 q1_1
  have HB1:=Zh hb1
  clear hb1
  go_wp2
  go_ret
  exact⟨rfl,bl (by repeat' first|with_reducible(first|assumption|constructor)|((try simp)<;>omega))⟩
 have HQ:=Zh t3
 clear t3
 go_enter Tryz.func28,Tryz.ntmps28
 go_wp2_with fail
 refine(Xlx _ _ _ _ _ _ a.cache b.cache _ (Xah H1.out (bl (by repeat' first|with_reducible(first|assumption|constructor)|((try simp)<;>omega)))) (Xah H2.out (bl (by repeat' first|with_reducible(first|assumption|constructor)|((try simp)<;>omega))))).mono ?_
 rw[HQ.out]
 rintro e w1 ⟨rfl,hb1⟩
 have hz1:=hb1.size
 (try simp only[Zs]at hz1)
 obtain⟨k1_0,l1_0,q1_0⟩:=aft hb1 (w.heap.size) (by(try simp)<;>omega)
 obtain⟨k1_1,l1_1,q1_1⟩:=aft hb1 (w.heap.size+1) (by(try simp)<;>omega)
 simp(maxDischargeDepth:=6) [go_sem, *]at k1_0 q1_0 k1_1 q1_1
 have HB1:=Zh hb1
 clear hb1
 have r1:=fun w=>Tryz.eqlRing a.orders b.orders w
 have r2:=fun w=>Tryz.eqlRing a.faults b.faults w
 cases t4:(Xih a.orders b.orders)
 ·rw[t4]at r1
  go_wp2
  go_ret
  exact⟨Xbr (by simp[t4]),bl (by repeat' first|with_reducible(first|assumption|constructor)|((try simp)<;>omega))⟩
 rw[t4]at r1
 cases t5:(a.stopped==b.stopped)
 ·skip
  go_wp2
  go_ret
  exact⟨Xbr (by simp[t4,t5]),bl (by repeat' first|with_reducible(first|assumption|constructor)|((try simp)<;>omega))⟩
 cases t6:(a.fences==b.fences)
 ·skip
  go_wp2
  go_ret
  exact⟨Xbr (by simp[t4,t5,t6]),bl (by repeat' first|with_reducible(first|assumption|constructor)|((try simp)<;>omega))⟩
 cases t7:(Xih a.faults b.faults)
 ·rw[t7]at r2
  go_wp2
  go_ret
  exact⟨Xbr (by simp[t4,t5,t6,t7]),bl (by repeat' first|with_reducible(first|assumption|constructor)|((try simp)<;>omega))⟩
 rw[t7]at r2
 go_wp2
 go_ret
 exact⟨Xbr (by simp[t4,t5,t6,t7]),bl (by repeat' first|with_reducible(first|assumption|constructor)|((try simp)<;>omega))⟩
end
end
section
def Xig (g g':Nat) (w w':World):Prop:=
 w.heap.size≤w'.heap.size∧(∀ q o,q≠g→q≠g'→q<w.heap.size→w'.cell? ⟨q,o,none⟩=w.cell? ⟨q,o,none⟩)∧∀ q o,q<w.heap.size→w'.frozen? ⟨q,o,none⟩=w.frozen? ⟨q,o,none⟩
theorem Xat {w:World} {B size n:Nat} {e:TypeId} {A:Option Addr} {m c:Nat} {ys:List Value} (h:w.ownsRow B e size (.slice A m c) n ys):∀ ad,A=some ad→B≤ad.block∧ad.block<w.heap.size:=by
 intro ad e
 rcases h.2 with⟨hv,_⟩|⟨g,cap,cur,hv,hb,hg,_⟩
 ·injection hv with h1;rw[h1]at e;cases e
 ·injection hv with h1;rw[h1]at e;injection e with e;subst e
  refine⟨hb, ?_⟩
  rcases Nat.lt_or_ge g w.heap.size with hlt|hge
  ·exact hlt
  ·rw[Array.getElem?_eq_none hge]at hg;cases hg
theorem OwnI.drew_ {B:Nat} {w:World} {A:Option Addr} {n c:Nat} {xs:List Int} (h:OwnI B w A n c xs):OwnI B w.drew A n c xs:=h
theorem Xg0 {g g':Nat} (w:World):Xig g g' w w:=⟨Nat.le_refl _,fun _ _ _ _ _=>rfl,fun _ _ _=>rfl⟩
theorem Xh5 {g g':Nat} {w W:World} (h:Xig g g' w W):Xig g g' w W.drew:=h
theorem Xd9 {g g':Nat} {w W W':World} (hb:Below W.heap.size W W') (h:Xig g g' w W):Xig g g' w W':=
 ⟨Nat.le_trans h.1 hb.size,fun q o h1 h2 hl=>(hb.cell (p:=⟨q,o,none⟩) (Nat.lt_of_lt_of_le hl h.1)).trans (h.2.1 q o h1 h2 hl),fun q o hl=>(hb.frozen (p:=⟨q,o,none⟩) (Nat.lt_of_lt_of_le hl h.1)).trans (h.2.2 q o hl)⟩
theorem Xkd {g g':Nat} {w W:World} {p:Addr} (h:Xig g g' w W) (hp:p.block=g∨p.block=g') (u:Value):Xig g g' w (W.setCell p u):=
 ⟨by have:=h.1;simpa using this,fun q o h1 h2 hl=>by
  rw[World.cell?_setCell_other _ _ _ _ (by intro e;have:=congrArg Addr.block e;simp at this;omega)];exact h.2.1 q o h1 h2 hl,fun q o hl=>by
  rw[World.frozen?_setCell];exact h.2.2 q o hl⟩
def Xno (P:Nat→Prop) (w w':World):Prop:=w.heap.size≤w'.heap.size∧∀ q o,¬P q→q<w.heap.size→w'.cell? ⟨q,o,none⟩=w.cell? ⟨q,o,none⟩
theorem Xfq {P:Nat→Prop} (w:World):Xno P w w:=⟨Nat.le_refl _,fun _ _ _ _=>rfl⟩
theorem Xfr {P:Nat→Prop} {w W:World} (h:Xno P w W):Xno P w W.drew:=h
theorem Xhe {P:Nat→Prop} {w W:World} {p:Addr} (h:Xno P w W) (hp:P p.block) (u:Value):Xno P w (W.setCell p u):=
 ⟨by have:=h.1;simpa using this,fun q o h1 hl=>by
  rw[World.cell?_setCell_other _ _ _ _ (by intro e;have:=congrArg Addr.block e;simp at this;rw[←this]at h1;exact h1 hp)];exact h.2 q o h1 hl⟩
theorem Xhy {P:Nat→Prop} {w w':World} {A:Option Addr} {k:Nat} {ys:List Int} (hx:Ints w w.heap.size A k ys) (ho:Xno P w w') (hf:∀ ad,A=some ad→¬P ad.block):Ints w' w'.heap.size A k ys:=by
 refine⟨hx.1,hx.2.1,fun hn=>?_⟩
 obtain⟨b,off,e,hb,hc⟩:=hx.2.2 hn
 exact⟨b,off,e,Nat.lt_of_lt_of_le hb ho.1,fun j v hv=>(ho.2 b _ (hf _ e) hb).trans (hc j v hv)⟩
theorem Xiv {P:Nat→Prop} {w w':World} {A:Option Addr} {k d:Nat} {ls:List Line} (hx:Lines w w.heap.size A k d ls) (ho:Xno P w w') (hf:∀ ad,A=some ad→¬P ad.block):Lines w' w'.heap.size A k d ls:=by
 obtain⟨h1,h2,h3,h4,h5⟩:=hx
 refine⟨h1,h2,h3,h4,fun h0=>?_⟩
 obtain⟨b,off,e,hb,hc⟩:=h5 h0
 exact⟨b,off,e,Nat.lt_of_lt_of_le hb ho.1,fun j v hv=>(ho.2 b _ (hf _ e) hb).trans (hc j v hv)⟩
theorem Xxx {g g':Nat} {w w':World} (h:Xig g g' w w'):Xno (fun q=>q=g∨q=g') w w':=⟨h.1,fun q o hq hl=>h.2.1 q o (fun e=>hq (Or.inl e)) (fun e=>hq (Or.inr e)) hl⟩
theorem Xvc {g g':Nat} {w w':World} {A:Option Addr} {k d:Nat} {ls:List Line} (hx:Lines w w.heap.size A k d ls) (ho:Xig g g' w w') (hf:∀ ad,A=some ad→ad.block≠g∧ad.block≠g'):Lines w' w'.heap.size A k d ls:=
 Xiv hx (Xxx ho) (fun ad e h=>h.elim (hf ad e).1 (hf ad e).2)
end
end Go.Proofs.YtbopdijnojaaiadGreat
