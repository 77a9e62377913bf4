/- The laws' closed fact 'driven': a device is let through, dropped, and isn't any more. No statement of the seat is proved here. -/
import Derived.Test.YtbopdijnojaaiadGreatHart1
import Derived.Test.YtbopdijnojaaiadGreatRefB
import Derived.Test.YtbopdijnojaaiadGreatDmaP
import Derived.Test.YtbopdijnojaaiadGreatMachY
import Derived.Test.YtbopdijnojaaiadGreatHart9
import Derived.Test.YtbopdijnojaaiadGreatObey
import Derived.Test.YtbopdijnojaaiadGreatDmaO
import Derived.Test.YtbopdijnojaaiadGreatG1
import Derived.Test.YtbopdijnojaaiadGreatWhole
import Derived.Deep.RegionHeld3
import Derived.Deep.MidRow
import Derived.Test.YtbopdijnojaaiadGreatWh2
import Derived.Deep.AppendLies
import Derived.Test.YtbopdijnojaaiadGreatBridgeS
import Derived.Test.YtbopdijnojaaiadGreatMemZ
import Derived.Test.YtbopdijnojaaiadGreatSlices
import Derived.Deep.DeepCutAuto
namespace Go.Proofs.YtbopdijnojaaiadGreat
section
set_option maxRecDepth 100000
set_option maxHeartbeats 2000000
open Go.RowKit
set_option linter.unusedSimpArgs false
set_option linter.unusedVariables false
section
variable (x:Mch) (M R L:Option Addr) (nm mc nr rc n c:Nat) (w:World) (hm:Ints w w.heap.size M nm x.m) (hr:Ints w w.heap.size R nr x.h.regs) (hl:Lines w w.heap.size L n c x.b.cache)
include hm hr hl in
theorem Xd5:Calls Tryz.prog 7 #[.agg (M_.m x M nm mc R nr rc L n c)] w fun e w'=>e=.returned (.int .i64 (ckM x))∧Below w.heap.size w w':=by
 have HM:=Zh hm
 have HR:=Zh hr
 have HL:=Zh hl
 by_cases h0:cm x.m=0
 ·have t0:(cm x.m != 0)=false:=by rw[bne_eq_false_iff_eq];assumption
  by_cases h1:ckH x.h=0
  ·have t1:(ckH x.h != 0)=false:=by rw[bne_eq_false_iff_eq];assumption
   rw[show ckM x=ckB x.b by unfold ckM;rw[if_pos h0,if_pos h1]]
   clear hm hr hl h0 h1
   go_enter Tryz.func7,Tryz.ntmps7
   go_wp2_with fail
   refine(Xb4 _ _ _ x.m _ (Xaf HM.out (bl (by repeat' first|with_reducible(first|assumption|constructor)|((try simp)<;>omega))))).mono ?_
   rintro e w1 ⟨rfl,hb1⟩
   have hz1:=hb1.size
   (try simp only[Zs]at hz1)
   obtain⟨k1_0,l1_0,q1_0⟩:=aft hb1 (w.heap.size) (by(try simp)<;>omega)
   simp(maxDischargeDepth:=6) [go_sem, *]at k1_0 q1_0
   have HB1:=Zh hb1
   clear hb1
   go_wp2_with fail
   refine(Xew x.h _ _ _ _ (Xaf HR.out (bl (by repeat' first|with_reducible(first|assumption|constructor)|((try simp)<;>omega))))).mono ?_
   rintro e w2 ⟨rfl,hb2⟩
   have hz2:=hb2.size
   (try simp only[Zs]at hz2)
   obtain⟨k2_0,l2_0,q2_0⟩:=aft hb2 (w.heap.size) (by(try simp)<;>omega)
   simp(maxDischargeDepth:=6) [go_sem, *]at k2_0 q2_0
   have HB2:=Zh hb2
   clear hb2
   go_wp2_with fail
   refine(Xbh x.b _ _ _ _ (Xah HL.out (bl (by repeat' first|with_reducible(first|assumption|constructor)|((try simp)<;>omega))))).mono ?_
   rintro e w3 ⟨rfl,hb3⟩
   have hz3:=hb3.size
   (try simp only[Zs]at hz3)
   have HB3:=Zh hb3
   clear hb3
   go_wp2
   go_ret
   exact⟨rfl,bl (by repeat' first|with_reducible(first|assumption|constructor)|((try simp)<;>omega))⟩
  ·have t1:(ckH x.h != 0)=true:=by rw[bne_iff_ne];assumption
   rw[show ckM x=ckH x.h by unfold ckM;rw[if_pos h0,if_neg h1]]
   clear hm hr hl h0 h1
   go_enter Tryz.func7,Tryz.ntmps7
   go_wp2_with fail
   refine(Xb4 _ _ _ x.m _ (Xaf HM.out (bl (by repeat' first|with_reducible(first|assumption|constructor)|((try simp)<;>omega))))).mono ?_
   rintro e w1 ⟨rfl,hb1⟩
   have hz1:=hb1.size
   (try simp only[Zs]at hz1)
   obtain⟨k1_0,l1_0,q1_0⟩:=aft hb1 (w.heap.size) (by(try simp)<;>omega)
   simp(maxDischargeDepth:=6) [go_sem, *]at k1_0 q1_0
   have HB1:=Zh hb1
   clear hb1
   go_wp2_with fail
   refine(Xew x.h _ _ _ _ (Xaf HR.out (bl (by repeat' first|with_reducible(first|assumption|constructor)|((try simp)<;>omega))))).mono ?_
   rintro e w2 ⟨rfl,hb2⟩
   have hz2:=hb2.size
   (try simp only[Zs]at hz2)
   have HB2:=Zh hb2
   clear hb2
   go_wp2
   go_ret
   exact⟨rfl,bl (by repeat' first|with_reducible(first|assumption|constructor)|((try simp)<;>omega))⟩
 ·have t0:(cm x.m != 0)=true:=by rw[bne_iff_ne];assumption
  rw[show ckM x=cm x.m by unfold ckM;rw[if_neg h0]]
  clear hm hr hl h0
  go_enter Tryz.func7,Tryz.ntmps7
  go_wp2_with fail
  refine(Xb4 _ _ _ x.m _ (Xaf HM.out (bl (by repeat' first|with_reducible(first|assumption|constructor)|((try simp)<;>omega))))).mono ?_
  rintro e w1 ⟨rfl,hb1⟩
  have hz1:=hb1.size
  (try simp only[Zs]at hz1)
  have HB1:=Zh hb1
  clear hb1
  go_wp2
  go_ret
  exact⟨rfl,bl (by repeat' first|with_reducible(first|assumption|constructor)|((try simp)<;>omega))⟩
include hm hr hl in
theorem Xf0:Calls Tryz.prog 5 #[.agg (M_.m x M nm mc R nr rc L n c)] w fun e w'=>e=.returned (.int .i64 (ckM x))∧Below w.heap.size w w':=by
 have HM:=Zh hm
 have HR:=Zh hr
 have HL:=Zh hl
 by_cases h0:cm x.m=0
 ·have t0:(cm x.m==0)=true:=by rw[beq_iff_eq];assumption
  by_cases h1:ckH x.h=0
  ·have t1:(ckH x.h==0)=true:=by rw[beq_iff_eq];assumption
   rw[show ckM x=ckB x.b by unfold ckM;rw[if_pos h0,if_pos h1]]
   clear hm hr hl h0 h1
   go_enter Tryz.func5,Tryz.ntmps5
   go_wp2_with fail
   refine(Xe7 _ _ _ x.m _ (Xaf HM.out (bl (by repeat' first|with_reducible(first|assumption|constructor)|((try simp)<;>omega))))).mono ?_
   rintro e w1 ⟨rfl,hb1⟩
   have hz1:=hb1.size
   (try simp only[Zs]at hz1)
   obtain⟨k1_0,l1_0,q1_0⟩:=aft hb1 (w.heap.size) (by(try simp)<;>omega)
   simp(maxDischargeDepth:=6) [go_sem, *]at k1_0 q1_0
   have HB1:=Zh hb1
   clear hb1
   go_wp2_with fail
   refine(Xhi x.h _ _ _ _ (Xaf HR.out (bl (by repeat' first|with_reducible(first|assumption|constructor)|((try simp)<;>omega))))).mono ?_
   rintro e w2 ⟨rfl,hb2⟩
   have hz2:=hb2.size
   (try simp only[Zs]at hz2)
   obtain⟨k2_0,l2_0,q2_0⟩:=aft hb2 (w.heap.size) (by(try simp)<;>omega)
   simp(maxDischargeDepth:=6) [go_sem, *]at k2_0 q2_0
   have HB2:=Zh hb2
   clear hb2
   go_wp2_with fail
   refine(Xjb x.b _ _ _ _ (Xah HL.out (bl (by repeat' first|with_reducible(first|assumption|constructor)|((try simp)<;>omega))))).mono ?_
   rintro e w3 ⟨rfl,hb3⟩
   have hz3:=hb3.size
   (try simp only[Zs]at hz3)
   have HB3:=Zh hb3
   clear hb3
   go_wp2
   go_ret
   exact⟨rfl,bl (by repeat' first|with_reducible(first|assumption|constructor)|((try simp)<;>omega))⟩
  ·have t1:(ckH x.h==0)=false:=by rw[beq_eq_false_iff_ne];assumption
   rw[show ckM x=ckH x.h by unfold ckM;rw[if_pos h0,if_neg h1]]
   clear hm hr hl h0 h1
   go_enter Tryz.func5,Tryz.ntmps5
   go_wp2_with fail
   refine(Xe7 _ _ _ x.m _ (Xaf HM.out (bl (by repeat' first|with_reducible(first|assumption|constructor)|((try simp)<;>omega))))).mono ?_
   rintro e w1 ⟨rfl,hb1⟩
   have hz1:=hb1.size
   (try simp only[Zs]at hz1)
   obtain⟨k1_0,l1_0,q1_0⟩:=aft hb1 (w.heap.size) (by(try simp)<;>omega)
   simp(maxDischargeDepth:=6) [go_sem, *]at k1_0 q1_0
   have HB1:=Zh hb1
   clear hb1
   go_wp2_with fail
   refine(Xhi x.h _ _ _ _ (Xaf HR.out (bl (by repeat' first|with_reducible(first|assumption|constructor)|((try simp)<;>omega))))).mono ?_
   rintro e w2 ⟨rfl,hb2⟩
   have hz2:=hb2.size
   (try simp only[Zs]at hz2)
   have HB2:=Zh hb2
   clear hb2
   go_wp2
   go_ret
   exact⟨rfl,bl (by repeat' first|with_reducible(first|assumption|constructor)|((try simp)<;>omega))⟩
 ·have t0:(cm x.m==0)=false:=by rw[beq_eq_false_iff_ne];assumption
  rw[show ckM x=cm x.m by unfold ckM;rw[if_neg h0]]
  clear hm hr hl h0
  go_enter Tryz.func5,Tryz.ntmps5
  go_wp2_with fail
  refine(Xe7 _ _ _ x.m _ (Xaf HM.out (bl (by repeat' first|with_reducible(first|assumption|constructor)|((try simp)<;>omega))))).mono ?_
  rintro e w1 ⟨rfl,hb1⟩
  have hz1:=hb1.size
  (try simp only[Zs]at hz1)
  have HB1:=Zh hb1
  clear hb1
  go_wp2
  go_ret
  exact⟨rfl,bl (by repeat' first|with_reducible(first|assumption|constructor)|((try simp)<;>omega))⟩
end
end
section
set_option maxRecDepth 100000
set_option maxHeartbeats 16000000
open Go.RowKit
set_option linter.unusedSimpArgs false
set_option linter.unusedVariables false
def MdoC (w:World) (r:Mch×Tld) (E:Int) (e:Ending) (w':World):Prop:=
 ∃ M nm mc R nr rc L n c D dn dc T tn tc,e=.returned (.tuple #[.agg (M_.m r.1 M nm mc R nr rc L n c),.agg #[.bool r.2.done,.slice D dn dc,.int .i64 r.2.fault,.slice T tn tc],.int .i64 E]) ∧
  MachV w' (fun q=>w.heap.size≤q) r.1 M nm R nr L n c∧TldV w' (fun q=>w.heap.size≤q) r.2 D dn T tn tc∧Below w.heap.size w w'
theorem Xk2 (w:World) (Av:Nat→Prop):MachV w Av .no none 0 none 0 none 0 0:=
 ⟨⟨rfl,by unfold maxLen;omega,Row.nil_⟩,⟨rfl,by unfold maxLen;omega,Row.nil_⟩,Xcl _ _,fun h=>absurd h (by decide),fun h=>absurd h (by decide),fun h=>absurd h (by decide)⟩
theorem Xed (w:World) (Av:Nat→Prop):TldV w Av .no none 0 none 0 0:=⟨⟨rfl,by unfold maxLen;omega,Row.nil_⟩,Xlu _ _,fun h=>absurd h (by decide),fun h=>absurd h (by decide)⟩
theorem Xo6 {w w':World} {E:Int} (hb:Below w.heap.size w w'):MdoC w (.no,.no) E (.returned (.tuple #[.agg B_.y,.agg B_.t,.int .i64 E])) w':=
 ⟨none,0,0,none,0,0,none,0,0,none,0,0,none,0,0,rfl,Xk2 _ _,Xed _ _,hb⟩
theorem Xfb {w:World} {g:Nat} {t:TypeId} {cs:Array Value} (h:Whl w g t cs):w.rangeAt g 0 cs.toList:=fun j v hv=>by
 rw[Xad h,Nat.zero_add];simpa using hv
def SwC (w:World) (r:Mch×Tld) (E:Int) (g8:Nat) (wd:World):Prop:=
 ∃(z:Mch) (t:Tld) (M:Option Addr) (nm mc:Nat) (R:Option Addr) (nr rc:Nat) (L:Option Addr) (n c:Nat) (D:Option Addr) (dn dc:Nat) (X:Option Addr) (tn tc:Nat),
  Whl wd w.heap.size 33 ((M_.m z M nm mc R nr rc L n c))∧Whl wd g8 40 #[.bool t.done,.slice D dn dc,.int .i64 t.fault,.slice X tn tc]∧Whl wd (w.heap.size+1+1) 33 B_.y∧Whl wd (w.heap.size+1+1+1) 40 B_.t ∧
  Below w.heap.size w wd∧(E=0→r=(z,t)∧MachV wd (fun q=>w.heap.size+4≤q) z M nm R nr L n c∧TldV wd (fun q=>w.heap.size+4≤q) t D dn X tn tc)
theorem do_1 {x:Mch} {y:Hap} {ys:List Int} {g:Hrt} {d:Brg} {E:Int} (h0:ckM x=0) (hk:y.kind=1) (hE:doE x y=E) (hA:Xrq x.m x.h x.b=(ys,g,d)):Xe3 x.m x.h x.b=E∧(E=0→doA x y=(⟨ys,g,d⟩,.no)):=by
 have e:doE x y=Xe3 x.m x.h x.b:=by rw[Xg7 h0,Xpd hk,Xrp h0]
 refine⟨by rw[←e];exact hE,fun h=>?_⟩
 unfold Xrq at hA
 rw[←e,hE,if_pos h]at hA
 unfold doA
 rw[hE,if_pos h,Xtk hk,hA]
theorem do_2 {x:Mch} {y:Hap} {rb:Brg} {E:Int} (h0:ckM x=0) (hk:y.kind=2) (hE:doE x y=E) (hA:Xep x.m x.b=rb):Xe1 x.m x.b=E∧(E=0→doA x y=(⟨x.m,x.h,rb⟩,.no)):=by
 have e:doE x y=Xe1 x.m x.b:=by rw[Xg7 h0,Xpc hk]
 refine⟨by rw[←e];exact hE,fun h=>?_⟩
 unfold Xep at hA
 rw[←e,hE,if_pos h]at hA
 unfold doA
 rw[hE,if_pos h,Xtj hk,hA]
theorem do_3e {x:Mch} {y:Hap} {ys:List Int} {d:Brg} {t:Tld} {E:Int} (h0:ckM x=0) (hk:y.kind=3) (hE:doE x y=E) (hA:dmaA x.m x.b y.a=(ys,d,t)):dmaE x.m x.b y.a=E∧(E=0→doA x y=(⟨ys,x.h,d⟩,t)):=by
 have e:doE x y=dmaE x.m x.b y.a:=by rw[Xg7 h0,Xpb hk,Xw1 h0]
 refine⟨by rw[←e];exact hE,fun h=>?_⟩
 unfold dmaA at hA
 rw[←e,hE,if_pos h]at hA
 unfold doA
 rw[hE,if_pos h,Xti hk,hA]
theorem do_4y {x:Mch} {y:Hap} {k:Nat} {E:Int} (h0:ckM x=0) (hk:y.kind=4) (hE:doE x y=E) (hn:y.n=(k:Int)) (hl:k<x.b.cache.length):E=0∧doA x y=(⟨x.m,x.h,{ x.b with cache:=x.b.cache.eraseIdx k }⟩,.no):=by
 have e:doE x y=0:=by rw[Xg7 h0,Xpa hk,hn,if_pos (by omega)]
 refine⟨by rw[←hE,e], ?_⟩
 unfold doA
 rw[e,if_pos rfl,Xth hk,hn]
 simp
theorem do_4n {x:Mch} {y:Hap} {E:Int} (h0:ckM x=0) (hk:y.kind=4) (hE:doE x y=E) (hn:¬(0≤y.n∧y.n<x.b.cache.length)):E=4:=by rw[←hE,Xg7 h0,Xpa hk,if_neg hn]
theorem do_5 {x:Mch} {y:Hap} {E:Int} (h0:ckM x=0) (h1:y.kind≠1) (h2:y.kind≠2) (h3:y.kind≠3) (h4:y.kind≠4) (hE:doE x y=E):E=3:=by rw[←hE,Xg7 h0,Xtl h1 h2 h3 h4]
theorem Xsl {B B':Nat} {w:World} {A L:Option Addr} {m c n c':Nat} {xs:List Int} {ls:List Line} (h:OwnI B w A m c xs) (h':OwnL B' w L n c' ls):∀ ad ad',A=some ad→L=some ad'→ad.block≠ad'.block:=by
 intro ad ad' e e'
 obtain⟨_,_,h⟩:=h
 obtain⟨_,_,_,_,h'⟩:=h'
 rcases h with⟨h,_⟩|⟨g,cap,cur,hv,_,hg,_⟩
 ·injection h with h1;rw[e]at h1;cases h1
 ·rcases h' with⟨h',_⟩|⟨g',cap',cur',hv',_,hg',_⟩
  ·injection h' with h1;rw[e']at h1;cases h1
  ·injection hv with h1;rw[e]at h1;injection h1 with h1;subst h1
   injection hv' with h1;rw[e']at h1;injection h1 with h1;subst h1
   intro hh
   simp only[]at hh
   subst hh
   rw[hg]at hg'
   injection hg' with hg'
   injection hg' with _ hty
   exact absurd hty (by decide)
theorem mdma_k (xs:List Int) (m:Option Addr) (nm mc:Nat) (b:Brg) (A0:Option Addr) (n0 c0:Nat) (AD:Option Addr) (nd cd:Nat) (w:World) (hx:Ints w w.heap.size m nm xs) (hl:Lines w w.heap.size A0 n0 c0 b.cache) (a:Ask) (hd:Ints w w.heap.size AD nd a.data) (R:List Int×Brg×Tld) (E:Int) (k:Nat) (hR:dmaA xs b a=R) (hE:dmaE xs b a=E) (hk:(if E=0 then 512 else 0)=k) :
  Calls Tryz.prog 15 #[.agg #[.slice m nm mc],.agg (B_.b b A0 n0 c0),.agg #[.int .i64 a.dev,.int .i64 a.at_,.int .i64 a.count,.bool a.wr,.slice AD nd cd]] w (DoC w k R E):=by
 subst hk;exact Xyx xs m nm mc b A0 n0 c0 AD nd cd w hx hl a hd R E hR hE
theorem Xu6 {B B':Nat} {w:World} {A L:Option Addr} {m c n c':Nat} {xs:List Int} {ls:List Line} (h:OwnI B w A m c xs) (h':OwnL B' w L n c' ls):∀ ad ad',A=some ad→L=some ad'→ad.block≠ad'.block:=Xsl h h'
theorem Xuv (xs:List Int) (h:Hrt) (b:Brg) (M R L:Option Addr) (nm mc nr rc n c:Nat) (w:World) (hm:Ints w w.heap.size M nm xs) (hr:Ints w w.heap.size R nr h.regs) (hl:Lines w w.heap.size L n c b.cache) (ys:List Int) (g:Hrt) (d:Brg) (E:Int) (hE:Xe3 xs h b=E) (he:Xrq xs h b=(ys,g,d)) :
  Calls Tryz.prog 13 #[.agg #[.slice M nm mc],.agg #[.int .i64 h.at_,.slice R nr rc,.bool h.done],.agg (B_.b b L n c)] w fun e w'=>∃ A na a P np p Q q k,e=.returned (.tuple #[.agg #[.slice A na a],.agg #[.int .i64 g.at_,.slice P np p,.bool g.done],.agg (B_.b d Q q k),.int .i64 E]) ∧
   Ints w' w'.heap.size A na ys∧Ints w' w'.heap.size P np g.regs∧Lines w' w'.heap.size Q q k d.cache∧Below w.heap.size w w'∧(∀ ad,A=some ad→w.heap.size≤ad.block)∧(∀ ad,P=some ad→w.heap.size≤ad.block)∧∀ ad,Q=some ad→w.heap.size≤ad.block:=by
 unfold Xrq at he
 by_cases h0:Xe3 xs h b=0
 ·rw[if_pos h0]at he
  rw[←hE,h0]
  exact(Xxg xs h b M R L nm mc nr rc n c w hm hr hl h0 ys g d he).mono fun e w' ⟨A,a,P,p,Q,q,k,h1,h2⟩=>⟨A,512,a,P,8,p,Q,q,k,h1,h2⟩
 ·rw[if_neg h0]at he
  injection he with e1 e2
  injection e2 with e2 e3
  subst e1 e2 e3
  rw[←hE]
  exact(Xup xs h b M R L nm mc nr rc n c w hm hr hl h0).mono fun e w' ⟨h1,h2⟩=>⟨none,0,0,none,0,0,none,0,0,h1,⟨rfl,by unfold maxLen;omega,Row.nil_⟩,⟨rfl,by unfold maxLen;omega,Row.nil_⟩,Xcl _ _,h2,(fun ad e=>nomatch e),(fun ad e=>nomatch e),fun ad e=>nomatch e⟩
section
variable (x:Mch) (y:Hap) (M R L AD:Option Addr) (nd cd:Nat) (w:World)
theorem Xxy (nm mc nr rc n c:Nat) (hm:Ints w w.heap.size M nm x.m) (hr:Ints w w.heap.size R nr x.h.regs) (hl:Lines w w.heap.size L n c x.b.cache) (h0:ckM x≠0) :
  Calls Tryz.prog 4 #[.agg (M_.m x M nm mc R nr rc L n c),.agg #[.int .i64 y.kind,.int .i64 y.n,.int .i64 y.a.dev,.int .i64 y.a.at_,.int .i64 y.a.count,.bool y.a.wr,.slice AD nd cd]] w (MdoC w (.no,.no) (ckM x)):=by
 have HM:=Zh hm
 have HR:=Zh hr
 have HL:=Zh hl
 have t0:(ckM x != 0)=true:=by rw[bne_iff_ne];exact h0
 clear hm hr hl h0
 go_enter Tryz.func4,Tryz.ntmps4
 go_upto_region 1 with(fail)
 generalize hw0:((((w.alloc (.cells (M_.m x M nm mc R nr rc L n c) 33)).alloc (.cells #[.int .i64 y.kind,.int .i64 y.n,.int .i64 y.a.dev,.int .i64 y.a.at_,.int .i64 y.a.count,.bool y.a.wr,.slice AD nd cd] 37)).alloc (.cells B_.y 33)).alloc (.cells B_.t 40))=w0
 have H2:=Zh (show Whl w0 (w.heap.size) 33 (M_.m x M nm mc R nr rc L n c) by rw[←hw0];exact Xab (Xab (Xab (Xac _ _ _ rfl) _) _) _)
 have H3:=Zh (show Whl w0 (w.heap.size+1) 37 #[.int .i64 y.kind,.int .i64 y.n,.int .i64 y.a.dev,.int .i64 y.a.at_,.int .i64 y.a.count,.bool y.a.wr,.slice AD nd cd] by rw[←hw0];exact Xab (Xab (Xac _ _ _ (by simp)) _) _)
 have H4:=Zh (show Whl w0 (w.heap.size+1+1) 33 B_.y by rw[←hw0];exact Xab (Xac _ _ _ (by simp)) _)
 have H5:=Zh (show Whl w0 (w.heap.size+1+1+1) 40 B_.t by rw[←hw0];exact Xac _ _ _ (by simp))
 have HW0:=Zh (show Below w.heap.size w w0 by rw[←hw0];(refine bl ?_;repeat' first|with_reducible(first|assumption|constructor)|((try simp)<;>omega)))
 have hz0:w0.heap.size=w.heap.size+1+1+1+1:=by rw[←hw0];simp
 clear hw0
 go_wp2_with (refine Xao rfl 33 (.tmp 2) rfl (w.heap.size) _ _ rfl H2.out _ Tryz.underlying33 rfl Tryz.sizeMach ?_)
 refine(Xd5 x M R L nm mc nr rc n c _ (Xaf HM.out HW0.out) (Xaf HR.out HW0.out) (Xah HL.out HW0.out)).mono ?_
 rintro e w1 ⟨rfl,hb1⟩
 have HB1:=Zh hb1
 have hz1:=hb1.size
 have H4a:=Zh (Xaa H4.out HB1.out)
 have H5a:=Zh (Xaa H5.out HB1.out)
 have HW1:=Zh (HW0.out.trans (hb1.mono (by omega)))
 clear hb1 H2 H3 H4 H5
 go_wp2_with (first
  |(refine Xaj rfl 33 (.tmp 4) (.tmp 14) rfl (w.heap.size+1+1) _ _ B_.y rfl rfl H4a.out Tryz.sizeMach rfl rfl ?_;intro w4 H4c T4;have H4b0:=H4c;have H5c:=Xam H5a.out T4 (by omega))
  |(refine Xaj rfl 40 (.tmp 5) (.tmp 15) rfl (w.heap.size+1+1+1) _ _ B_.t rfl rfl H5c Tryz.sizeTold rfl rfl ?_;intro w5 H5b T5;have H4b:=Xam H4b0 T5 (by omega)))
 go_wp2
 refine bodyPost_ret (v:=.tuple #[.agg B_.y,.agg B_.t,.int .i64 (ckM x)]) ?_ rfl (Xo6 ?_)
 ·exact Xc6 Tryz.results4 rfl rfl rfl (Xbx H4b _ Tryz.underlying33 rfl Tryz.sizeMach) (Xbx H5b _ Tryz.underlying40 rfl Tryz.sizeTold)
 ·exact Xaw (Xaw HW1.out (by omega) T4 (by omega)) (by have:=T4.2;omega) T5 (by omega)
theorem mdo_ok (mc rc n c:Nat) (hm:Ints w w.heap.size M 512 x.m) (hr:Ints w w.heap.size R 8 x.h.regs) (hl:Lines w w.heap.size L n c x.b.cache) (hd:Ints w w.heap.size AD nd y.a.data) (h0:ckM x=0) (r:Mch×Tld) (E:Int) (hrr:doA x y=r) (hEE:doE x y=E) :
  Calls Tryz.prog 4 #[.agg (M_.m x M 512 mc R 8 rc L n c),.agg #[.int .i64 y.kind,.int .i64 y.n,.int .i64 y.a.dev,.int .i64 y.a.at_,.int .i64 y.a.count,.bool y.a.wr,.slice AD nd cd]] w (MdoC w r E):=by
 have HM:=Zh hm
 have HR:=Zh hr
 have HL:=Zh hl
 have HD:=Zh hd
 have H0:=Zh h0
 have HRR:=Zh hrr
 have HEE:=Zh hEE
 have HN:=Zh (show n≤1000 by have:=((Xcm _).1 ((Xbn x.b).1 ((Xct x).1 h0).2.2).2.1).1;have:=hl.1;omega)
 clear hm hr hl hd h0 hrr hEE
 go_enter Tryz.func4,Tryz.ntmps4
 go_upto_region 1 with(fail)
 generalize hw0:((((w.alloc (.cells (M_.m x M 512 mc R 8 rc L n c) 33)).alloc (.cells #[.int .i64 y.kind,.int .i64 y.n,.int .i64 y.a.dev,.int .i64 y.a.at_,.int .i64 y.a.count,.bool y.a.wr,.slice AD nd cd] 37)).alloc (.cells B_.y 33)).alloc (.cells B_.t 40))=w0
 have H2:=Zh (show Whl w0 (w.heap.size) 33 (M_.m x M 512 mc R 8 rc L n c) by rw[←hw0];exact Xab (Xab (Xab (Xac _ _ _ rfl) _) _) _)
 have H3:=Zh (show Whl w0 (w.heap.size+1) 37 #[.int .i64 y.kind,.int .i64 y.n,.int .i64 y.a.dev,.int .i64 y.a.at_,.int .i64 y.a.count,.bool y.a.wr,.slice AD nd cd] by rw[←hw0];exact Xab (Xab (Xac _ _ _ (by simp)) _) _)
 have H4:=Zh (show Whl w0 (w.heap.size+1+1) 33 B_.y by rw[←hw0];exact Xab (Xac _ _ _ (by simp)) _)
 have H5:=Zh (show Whl w0 (w.heap.size+1+1+1) 40 B_.t by rw[←hw0];exact Xac _ _ _ (by simp))
 have HW0:=Zh (show Below w.heap.size w w0 by rw[←hw0];(refine bl ?_;repeat' first|with_reducible(first|assumption|constructor)|((try simp)<;>omega)))
 have hz0:w0.heap.size=w.heap.size+1+1+1+1:=by rw[←hw0];simp
 clear hw0
 go_wp2_with (refine Xao rfl 33 (.tmp 2) rfl (w.heap.size) _ _ rfl H2.out _ Tryz.underlying33 rfl Tryz.sizeMach ?_)
 refine(Xd5 x M R L 512 mc 8 rc n c _ (Xaf HM.out HW0.out) (Xaf HR.out HW0.out) (Xah HL.out HW0.out)).mono ?_
 rw[H0.out]
 rintro e w1 ⟨rfl,hb1⟩
 have HB1:=Zh hb1
 have hz1:=hb1.size
 have HW1:=Zh (HW0.out.trans (hb1.mono (by omega)))
 clear hb1
 have H2a:=Zh (Xaa H2.out HB1.out)
 clear H2
 have H3a:=Zh (Xaa H3.out HB1.out)
 clear H3
 have H4a:=Zh (Xaa H4.out HB1.out)
 clear H4
 have H5a:=Zh (Xaa H5.out HB1.out)
 clear H5
 go_wp2_with (refine Xao rfl 33 (.tmp 2) rfl (w.heap.size) _ _ rfl H2a.out _ Tryz.underlying33 rfl Tryz.sizeMach ?_)
 refine(Xim x M R L mc rc n c _ (Xaf HM.out HW1.out) (Xaf HR.out HW1.out) (Xah HL.out HW1.out) HN.out).mono ?_
 rintro e w2 ⟨M2,mc2,R2,rc2,L2,c2,rfl,ho2,hor2,hol2,hb2⟩
 have HB2:=Zh hb2
 have hz2:=hb2.size
 have HW2:=Zh (HW1.out.trans (hb2.mono (by omega)))
 have HOM:=Zh ho2
 have HOR:=Zh hor2
 have HOL:=Zh hol2
 clear hb2 ho2 hor2 hol2
 have H2b:=Zh (Xaa H2a.out HB2.out)
 clear H2a
 have H3b:=Zh (Xaa H3a.out HB2.out)
 clear H3a
 have H4b:=Zh (Xaa H4a.out HB2.out)
 clear H4a
 have H5b:=Zh (Xaa H5a.out HB2.out)
 clear H5a
 go_upto_region 5 with(refine Xaj rfl 33 (.tmp 2) (.tmp 18) rfl (w.heap.size) _ _ (M_.m x M2 512 mc2 R2 8 rc2 L2 n c2) rfl rfl H2b.out Tryz.sizeMach rfl rfl ?_;intro w3 h2c t3)
 have T3:=Zh t3
 have H2c:=Zh h2c
 have hz3a:w2.heap.size≤w3.heap.size:=Nat.le_of_eq t3.2.symm
 have hz3b:w3.heap.size≤w2.heap.size:=Nat.le_of_eq t3.2
 clear h2c t3
 have H3c:=Zh (Xam H3b.out T3.out (by omega))
 clear H3b
 have H4c:=Zh (Xam H4b.out T3.out (by omega))
 clear H4b
 have H5c:=Zh (Xam H5b.out T3.out (by omega))
 clear H5b
 have HW3:=Zh (Xaw HW2.out (by omega) T3.out (Nat.le_refl _))
 have OM:=Zh (Xe4 HOM.out T3.out (by omega))
 have OR:=Zh (Xe4 HOR.out T3.out (by omega))
 have OL:=Zh (Xiu HOL.out T3.out (by omega))
 clear HOM HOR HOL H2b
 have k3:w3.cell? ⟨w.heap.size+1,0,none⟩=some (.int .i64 y.kind):=Xad H3c.out 0
 have l3:w.heap.size+1<w3.heap.size:=by omega
 go_upto_region 6 with(fail)
 generalize hw4:w3.alloc (.cells B_.t 40)=w4
 have H8:=Zh (show Whl w4 w3.heap.size 40 B_.t by rw[←hw4];exact Xac _ _ _ rfl)
 have H2d:=Zh (show Whl w4 _ _ _ by rw[←hw4];exact Xab H2c.out _)
 clear H2c
 have H3d:=Zh (show Whl w4 _ _ _ by rw[←hw4];exact Xab H3c.out _)
 clear H3c
 have H4d:=Zh (show Whl w4 _ _ _ by rw[←hw4];exact Xab H4c.out _)
 clear H4c
 have H5d:=Zh (show Whl w4 _ _ _ by rw[←hw4];exact Xab H5c.out _)
 clear H5c
 have HW4:=Zh (show Below w.heap.size w w4 by rw[←hw4];exact HW3.out.alloc (by omega) _)
 have hz4a:w4.heap.size≤w3.heap.size+1:=by rw[←hw4];simp
 have hz4b:w3.heap.size+1≤w4.heap.size:=by rw[←hw4];simp
 have OM4:=Zh (show OwnI w1.heap.size w4 M2 512 mc2 x.m by rw[←hw4];exact OM.out.alloc _)
 have OR4:=Zh (show OwnI w1.heap.size w4 R2 8 rc2 x.h.regs by rw[←hw4];exact OR.out.alloc _)
 have OL4:=Zh (show OwnL w1.heap.size w4 L2 n c2 x.b.cache by rw[←hw4];exact OL.out.alloc _)
 have BR:=Zh (Xat OR.out.2)
 have BM:=Zh (Xat OM.out.2)
 have BL:=Zh (Xat OL.out.2.2.2)
 clear hw4 k3 l3 OM OR OL HW3 HW2 HW1 HW0 HB1 HB2 T3
 have k3:w4.cell? ⟨w.heap.size+1,0,none⟩=some (.int .i64 y.kind):=Xad H3d.out 0
 go_cut [9] (fun s9 wd=>s9=.int .i64 0∧wd=w4)
 case first=>
  go_wp2
  go_meet
  exact⟨rfl,rfl⟩
 case rest=>
 obtain⟨rfl,rfl⟩:=hcut
 obtain⟨w4,hw4⟩:∃ w4,w4=wc:=⟨_,rfl⟩
 subst hw4
 go_step
 go_step
 go_cut [9] (fun s9 wd=>s9=.int .i64 E∧SwC w r E w3.heap.size wd)
 case first=>
  by_cases h1:y.kind=1
  ·have t1:(y.kind==1)=true:=by rw[beq_iff_eq];exact h1
   obtain⟨ys,g,d,hA⟩:∃ ys g d,Xrq x.m x.h x.b=(ys,g,d):=⟨_,_,_,rfl⟩
   obtain⟨he,hz⟩:=do_1 H0.out h1 HEE.out hA
   have HA:=Zh hA
   have HE:=Zh he
   have HZ:=Zh hz
   clear hA he hz h1
   go_wp2_with (first
    |(refine Xa1 rfl 24 (.tmp 24) rfl (w.heap.size) 0 _ _ [.slice M2 512 mc2] rfl H2d.out rfl _ Tryz.underlying24 rfl Tryz.sizeMem ?_)
    |(refine Xa1 rfl 26 (.tmp 26) rfl (w.heap.size) 1 _ _ [.int .i64 x.h.at_,.slice R2 8 rc2,.bool x.h.done] rfl H2d.out rfl _ Tryz.underlying26 rfl Tryz.sizeHart ?_)
    |(refine Xa1 rfl 31 (.tmp 28) rfl (w.heap.size) 4 _ _ [.int .i64 x.b.mode,.int .i64 x.b.base,.slice L2 n c2,.int .i64 x.b.orders.page,.int .i64 x.b.orders.head,.int .i64 x.b.orders.tail,.bool x.b.stopped,.int .i64 x.b.fences,.int .i64 x.b.faults.page,.int .i64 x.b.faults.head,.int .i64 x.b.faults.tail,.bool x.b.lost] rfl H2d.out rfl _ Tryz.underlying31 rfl Tryz.sizeBrg ?_))
   refine(Xuv x.m x.h x.b M2 R2 L2 512 mc2 8 rc2 n c2 _ (OM4.out.ints (by decide)) (OR4.out.ints (by decide)) OL4.out.lines ys g d E HE.out HA.out).mono ?_
   rintro e w5 ⟨A,na,a,P,np,p,Q,q,k,rfl,hA5,hP5,hQ5,hb5,fA,fP,fQ⟩
   have HB5:=Zh hb5
   have HA5:=Zh hA5
   have HP5:=Zh hP5
   have HQ5:=Zh hQ5
   have FA:=Zh fA
   have FP:=Zh fP
   have FQ:=Zh fQ
   have hz5:=hb5.size
   clear hb5 hA5 hP5 hQ5 fA fP fQ
   have H2e:=Zh (Xaa H2d.out HB5.out)
   have H3e:=Zh (Xaa H3d.out HB5.out)
   have H4e:=Zh (Xaa H4d.out HB5.out)
   have H5e:=Zh (Xaa H5d.out HB5.out)
   have H8e:=Zh (Xaa H8.out HB5.out)
   go_wp2_with (first
    |(refine Xbl rfl 24 (.tmp 35) (.tmp 31) rfl (w.heap.size) 0 _ _ #[.slice A na a] (M_.m x A na a R2 8 rc2 L2 n c2) rfl rfl H2e.out Tryz.sizeMem (by kernel_rfl) rfl (by kernel_rfl) ?_;intro w6 h2f t6)
    |(refine Xbl rfl 26 (.tmp 36) (.tmp 32) rfl (w.heap.size) 1 _ _ #[.int .i64 g.at_,.slice P np p,.bool g.done] #[.slice A na a,.int .i64 g.at_,.slice P np p,.bool g.done,.int .i64 x.b.mode,.int .i64 x.b.base,.slice L2 n c2,.int .i64 x.b.orders.page,.int .i64 x.b.orders.head,.int .i64 x.b.orders.tail,.bool x.b.stopped,.int .i64 x.b.fences,.int .i64 x.b.faults.page,.int .i64 x.b.faults.head,.int .i64 x.b.faults.tail,.bool x.b.lost] rfl rfl h2f Tryz.sizeHart (by kernel_rfl) rfl (by kernel_rfl) ?_;intro w7 h2g t7)
    |(refine Xbl rfl 31 (.tmp 37) (.tmp 33) rfl (w.heap.size) 4 _ _ (B_.b d Q q k) #[.slice A na a,.int .i64 g.at_,.slice P np p,.bool g.done,.int .i64 d.mode,.int .i64 d.base,.slice Q q k,.int .i64 d.orders.page,.int .i64 d.orders.head,.int .i64 d.orders.tail,.bool d.stopped,.int .i64 d.fences,.int .i64 d.faults.page,.int .i64 d.faults.head,.int .i64 d.faults.tail,.bool d.lost] rfl rfl h2g Tryz.sizeBrg (by kernel_rfl) rfl (by kernel_rfl) ?_;intro w8 h2h t8))
   go_wp2
   go_meet
   have hw6:=t6.2
   have hw7:=t7.2
   have hw8:=t8.2
   have cc:=Xa4 (Xa4 t6.1 t7.1) t8.1
   refine⟨rfl,⟨ys,g,d⟩,.no,A,na,a,P,np,p,Q,q,k,none,0,0,none,0,0,h2h,Xa6 H8e.out cc (by omega),Xa6 H4e.out cc (by omega),Xa6 H5e.out cc (by omega), ?_,fun hE0=>⟨by rw[←HRR.out];exact HZ.out hE0, ?_,Xed _ _⟩⟩
   ·exact Xa8 (HW4.out.trans (HB5.out.mono (by omega))) (by omega) cc (fun q hq e=>by omega)
   ·exact(MachV.chg (x:=⟨ys,g,d⟩) (Av:=fun q=>w4.heap.size≤q) ⟨HA5.out,HP5.out,HQ5.out,fun _=>FA.out,fun _=>FP.out,fun _=>FQ.out⟩ cc (fun q e hq=>by omega)).av (fun q hq=>by omega)
  have t1:(y.kind==1)=false:=beq_eq_false_iff_ne.2 h1
  by_cases h2:y.kind=2
  ·have t2:(y.kind==2)=true:=by rw[beq_iff_eq];exact h2
   obtain⟨rb,hA⟩:∃ rb,Xep x.m x.b=rb:=⟨_,rfl⟩
   obtain⟨he,hz⟩:=do_2 H0.out h2 HEE.out hA
   have HA:=Zh hA
   have HE:=Zh he
   have HZ:=Zh hz
   clear hA he hz h2
   go_wp2_with (first
    |(refine Xa1 rfl 24 (.tmp 41) rfl (w.heap.size) 0 _ _ [.slice M2 512 mc2] rfl H2d.out rfl _ Tryz.underlying24 rfl Tryz.sizeMem ?_)
    |(refine Xa1 rfl 31 (.tmp 43) rfl (w.heap.size) 4 _ _ [.int .i64 x.b.mode,.int .i64 x.b.base,.slice L2 n c2,.int .i64 x.b.orders.page,.int .i64 x.b.orders.head,.int .i64 x.b.orders.tail,.bool x.b.stopped,.int .i64 x.b.fences,.int .i64 x.b.faults.page,.int .i64 x.b.faults.head,.int .i64 x.b.faults.tail,.bool x.b.lost] rfl H2d.out rfl _ Tryz.underlying31 rfl Tryz.sizeBrg ?_))
   refine(Xva x.m M2 512 mc2 x.b L2 n c2 rb E _ (OM4.out.ints (by decide)) OL4.out.lines HA.out HE.out).mono ?_
   rintro e w5 ⟨Q,q,k,rfl,hQ5,hb5,fQ⟩
   have HB5:=Zh hb5
   have HQ5:=Zh hQ5
   have FQ:=Zh fQ
   have hz5:=hb5.size
   clear hb5 hQ5 fQ
   have H2e:=Zh (Xaa H2d.out HB5.out)
   have H3e:=Zh (Xaa H3d.out HB5.out)
   have H4e:=Zh (Xaa H4d.out HB5.out)
   have H5e:=Zh (Xaa H5d.out HB5.out)
   have H8e:=Zh (Xaa H8.out HB5.out)
   go_wp2_with (refine Xbl rfl 31 (.tmp 48) (.tmp 46) rfl (w.heap.size) 4 _ _ (B_.b rb Q q k) #[.slice M2 512 mc2,.int .i64 x.h.at_,.slice R2 8 rc2,.bool x.h.done,.int .i64 rb.mode,.int .i64 rb.base,.slice Q q k,.int .i64 rb.orders.page,.int .i64 rb.orders.head,.int .i64 rb.orders.tail,.bool rb.stopped,.int .i64 rb.fences,.int .i64 rb.faults.page,.int .i64 rb.faults.head,.int .i64 rb.faults.tail,.bool rb.lost] rfl rfl H2e.out Tryz.sizeBrg (by kernel_rfl) rfl (by kernel_rfl) ?_;intro w6 h2f t6)
   go_wp2
   go_meet
   have hw6:=t6.2
   have cc:=t6.1
   have am:=BM.out
   have ar:=BR.out
   refine⟨rfl,⟨x.m,x.h,rb⟩,.no,M2,512,mc2,R2,8,rc2,Q,q,k,none,0,0,none,0,0,h2f,Xa6 H8e.out cc (by omega),Xa6 H4e.out cc (by omega),Xa6 H5e.out cc (by omega), ?_,fun hE0=>⟨by rw[←HRR.out];exact HZ.out hE0, ?_,Xed _ _⟩⟩
   ·exact Xa8 (HW4.out.trans (HB5.out.mono (by omega))) (by omega) cc (fun q hq e=>by omega)
   ·exact(MachV.chg (x:=⟨x.m,x.h,rb⟩) (Av:=fun q=>w1.heap.size≤q) ⟨Xaf (OM4.out.ints (by decide)) HB5.out,Xaf (OR4.out.ints (by decide)) HB5.out,HQ5.out,fun _ ad e=>(am ad e).1,fun _ ad e=>(ar ad e).1,fun _ ad e=>by have:=FQ.out ad e;omega⟩ cc (fun q e hq=>by omega)).av (fun q hq=>by omega)
  have t2:(y.kind==2)=false:=beq_eq_false_iff_ne.2 h2
  by_cases h3:y.kind=3
  ·have t3:(y.kind==3)=true:=by rw[beq_iff_eq];exact h3
   obtain⟨ys,d,tt,hA⟩:∃ ys d tt,dmaA x.m x.b y.a=(ys,d,tt):=⟨_,_,_,rfl⟩
   obtain⟨he,hz⟩:=do_3e H0.out h3 HEE.out hA
   obtain⟨na,hna⟩:∃ na,(if E=0 then 512 else 0)=na:=⟨_,rfl⟩
   have HNA:=Zh hna
   have HA:=Zh hA
   have HE:=Zh he
   have HZ:=Zh hz
   clear hA he hz h3 hna
   go_wp2_with (first
    |(refine Xa1 rfl 24 (.tmp 52) rfl (w.heap.size) 0 _ _ [.slice M2 512 mc2] rfl H2d.out rfl _ Tryz.underlying24 rfl Tryz.sizeMem ?_)
    |(refine Xa1 rfl 31 (.tmp 54) rfl (w.heap.size) 4 _ _ [.int .i64 x.b.mode,.int .i64 x.b.base,.slice L2 n c2,.int .i64 x.b.orders.page,.int .i64 x.b.orders.head,.int .i64 x.b.orders.tail,.bool x.b.stopped,.int .i64 x.b.fences,.int .i64 x.b.faults.page,.int .i64 x.b.faults.head,.int .i64 x.b.faults.tail,.bool x.b.lost] rfl H2d.out rfl _ Tryz.underlying31 rfl Tryz.sizeBrg ?_)
    |(refine Xa1 rfl 35 (.tmp 56) rfl (w.heap.size+1) 2 _ _ [.int .i64 y.a.dev,.int .i64 y.a.at_,.int .i64 y.a.count,.bool y.a.wr,.slice AD nd cd] rfl H3d.out rfl _ Tryz.underlying35 rfl Tryz.sizeAsk ?_))
   refine(mdma_k x.m M2 512 mc2 x.b L2 n c2 AD nd cd _ (OM4.out.ints (by decide)) OL4.out.lines y.a (Xaf HD.out HW4.out) (ys,d,tt) E na HA.out HE.out HNA.out).mono ?_
   rintro e w5 ⟨A,a,Q,q,k,D,dn,dc,X,tn,tc,rfl,hA5,hQ5,hD5,hT5,hb5,fA,fQ,fD,fT⟩
   have HB5:=Zh hb5
   have HA5:=Zh hA5
   have HQ5:=Zh hQ5
   have HD5:=Zh hD5
   have HT5:=Zh hT5
   have FA:=Zh fA
   have FQ:=Zh fQ
   have FD:=Zh fD
   have FT:=Zh fT
   have hz5:=hb5.size
   clear hb5 hA5 hQ5 hD5 hT5 fA fQ fD fT
   have H2e:=Zh (Xaa H2d.out HB5.out)
   have H3e:=Zh (Xaa H3d.out HB5.out)
   have H4e:=Zh (Xaa H4d.out HB5.out)
   have H5e:=Zh (Xaa H5d.out HB5.out)
   have H8e:=Zh (Xaa H8.out HB5.out)
   have n8:w3.heap.size≠w.heap.size:=by omega
   go_wp2_with (first
    |(refine Xbl rfl 24 (.tmp 63) (.tmp 59) rfl (w.heap.size) 0 _ _ #[.slice A na a] (M_.m x A na a R2 8 rc2 L2 n c2) rfl rfl H2e.out Tryz.sizeMem (by kernel_rfl) rfl (by kernel_rfl) ?_;intro w6 h2f t6;have h8a:=Xam H8e.out t6 n8)
    |(refine Xbl rfl 31 (.tmp 64) (.tmp 60) rfl (w.heap.size) 4 _ _ (B_.b d Q q k) #[.slice A na a,.int .i64 x.h.at_,.slice R2 8 rc2,.bool x.h.done,.int .i64 d.mode,.int .i64 d.base,.slice Q q k,.int .i64 d.orders.page,.int .i64 d.orders.head,.int .i64 d.orders.tail,.bool d.stopped,.int .i64 d.fences,.int .i64 d.faults.page,.int .i64 d.faults.head,.int .i64 d.faults.tail,.bool d.lost] rfl rfl h2f Tryz.sizeBrg (by kernel_rfl) rfl (by kernel_rfl) ?_;intro w7 h2g t7;have h8b:=Xam h8a t7 n8)
    |(refine Xaj rfl 40 (.tmp 8) (.tmp 61) rfl (w3.heap.size) _ _ #[.bool tt.done,.slice D dn dc,.int .i64 tt.fault,.slice X tn tc] rfl rfl h8b Tryz.sizeTold rfl rfl ?_;intro w8 h8f t8))
   go_wp2
   go_meet
   have hw6:=t6.2
   have hw7:=t7.2
   have hw8:=t8.2
   have cc:=Xa4 t6.1 t7.1
   have am:=BM.out
   have ar:=BR.out
   have c8:Chg (fun q=>q=w.heap.size∨q=w3.heap.size) w5 w8:=Xa4 (Xbp cc (fun q _ e=>Or.inl e)) (Xbp t8.1 (fun q _ e=>Or.inr e))
   refine⟨rfl,⟨ys,x.h,d⟩,tt,A,na,a,R2,8,rc2,Q,q,k,D,dn,dc,X,tn,tc,Xam h2g t8 (by omega),h8f,Xa6 H4e.out c8 (by omega),Xa6 H5e.out c8 (by omega), ?_,fun hE0=>⟨by rw[←HRR.out];exact HZ.out hE0, ?_, ?_⟩⟩
   ·exact Xa8 (HW4.out.trans (HB5.out.mono (by omega))) (by omega) c8 (fun q hq e=>by omega)
   ·exact(MachV.chg (x:=⟨ys,x.h,d⟩) (Av:=fun q=>w4.heap.size≤q∨(w1.heap.size≤q∧q<w3.heap.size)) ⟨HA5.out,Xaf (OR4.out.ints (by decide)) HB5.out,HQ5.out,fun _ ad e=>Or.inl (FA.out ad e),fun _ ad e=>Or.inr (ar ad e),fun _ ad e=>Or.inl (FQ.out ad e)⟩ c8 (fun q e hq=>by omega)).av (fun q hq=>by omega)
   ·exact(TldV.chg (t:=tt) (Av:=fun q=>w4.heap.size≤q) ⟨HD5.out,HT5.out,fun _=>FD.out,fun _=>FT.out⟩ c8 (fun q e hq=>by omega)).av (fun q hq=>by omega)
  have t3:(y.kind==3)=false:=beq_eq_false_iff_ne.2 h3
  by_cases h4:y.kind=4
  ·have t4:(y.kind==4)=true:=by rw[beq_iff_eq];exact h4
   have hln:x.b.cache.length=n:=OL4.out.1
   have k2:w4.cell? ⟨w.heap.size,6,none⟩=some (.slice L2 n c2):=Xad H2d.out 6
   by_cases hn:0≤y.n∧y.n<(n:Int)
   ·obtain⟨k,hk⟩:∃ k:Nat,y.n=(k:Int):=⟨y.n.toNat,by omega⟩
    obtain⟨hE4,hZ4⟩:=do_4y H0.out h4 HEE.out hk (by omega)
    have HE:=Zh hE4
    have HZ:=Zh hZ4
    have k3:w4.cell? ⟨w.heap.size+1,1,none⟩=some (.int .i64 (k:Int)):=by rw[←hk];exact Xad H3d.out 1
    have s0:(0:Int)≤(k:Int):=by omega
    have s1:(k:Int)<(n:Int):=by omega
    have s2:IntKind.i64.wrap ((k:Int)+1)=(k:Int)+1:=IntWalk.i64_in _ (by have:=HN.out;omega)
    have KN:=Zh (show k<n by omega)
    clear hn h4 hk hE4 hZ4 hln
    go_wp2_with fail
    refine(Xp3 w1.heap.size L2 n c2 k x.b.cache _ OL4.out KN.out HN.out).mono ?_
    rintro e w5 ⟨g6,rfl,rfl,hl5,hC5⟩
    have n6:w1.heap.size≤g6:=(BL.out _ rfl).1
    have n7:g6<w3.heap.size:=(BL.out _ rfl).2
    have HL5:=Zh hl5
    have HC5:=Zh hC5
    have hz5:=hC5.size
    have H2e:=Zh (Xa6 H2d.out hC5 (by omega))
    clear k2 k3 hl5 hC5
    go_wp2_with (refine Xau rfl 27 (.tmp 89) (.tmp 87) rfl (w.heap.size) 6 _ _ (M_.m x M2 512 mc2 R2 8 rc2 (some ⟨g6,0,none⟩) (n - 1) c2) (.slice (some ⟨g6,0,none⟩) (n - 1) c2) rfl rfl H2e.out Tryz.sizeLines (of_decide_eq_true rfl) rfl rfl ?_;intro w6 h2f t6)
    go_wp2
    go_meet
    have hw6:=t6.2
    have c8:Chg (fun q=>q=g6∨q=w.heap.size) w4 w6:=Xa4 (Xbp HC5.out (fun q _ e=>Or.inl e)) (Xbp t6.1 (fun q _ e=>Or.inr e))
    have am:=Xsl OM4.out OL4.out
    have ar:=Xu6 OR4.out OL4.out
    have bm:=BM.out
    have br:=BR.out
    have bl:=BL.out
    refine⟨by rw[HE.out],⟨x.m,x.h,{ x.b with cache:=x.b.cache.eraseIdx k }⟩,.no,M2,512,mc2,R2,8,rc2,some ⟨g6,0,none⟩,n - 1,c2,none,0,0,none,0,0,h2f,Xa6 H8.out c8 (by omega),Xa6 H4d.out c8 (by omega),Xa6 H5d.out c8 (by omega), ?_,fun hE0=>⟨by rw[←HRR.out];exact HZ.out, ?_,Xed _ _⟩⟩
    ·exact Xa8 HW4.out (by omega) c8 (fun q hq e=>by omega)
    ·refine⟨Xfp (OM4.out.ints (by decide)) c8 (Av:=fun q=>w1.heap.size≤q∧q≠g6) (fun _ ad e=>⟨(bm ad e).1,am ad _ e rfl⟩) (fun q e hq=>by omega),Xfp (OR4.out.ints (by decide)) c8 (Av:=fun q=>w1.heap.size≤q∧q≠g6) (fun _ ad e=>⟨(br ad e).1,ar ad _ e rfl⟩) (fun q e hq=>by omega),Xkj HL5.out t6.1 (Av:=fun q=>w1.heap.size≤q) (fun _ ad e=>by injection e with e;subst e;exact n6) (fun q e hq=>by omega),fun _ ad e=>by have:=(bm ad e).1;omega,fun _ ad e=>by have:=(br ad e).1;omega,fun _ ad e=>by injection e with e;subst e;show _≤g6;omega⟩
   ·have hE4:=do_4n H0.out h4 HEE.out (by rw[hln];exact hn)
    have k3:w4.cell? ⟨w.heap.size+1,1,none⟩=some (.int .i64 y.n):=Xad H3d.out 1
    have HE:=Zh hE4
    by_cases hn0:0≤y.n
    ·have s1:(n:Int)≤y.n:=by omega
     clear hn h4 hE4 hln
     go_wp2
     go_meet
     exact⟨by rw[HE.out],x,.no,M2,512,mc2,R2,8,rc2,L2,n,c2,none,0,0,none,0,0,H2d.out,H8.out,H4d.out,H5d.out,HW4.out,fun hE0=>absurd (hE0.symm.trans HE.out) (by decide)⟩
    ·have s1:y.n<0:=by omega
     clear hn h4 hE4 hln hn0
     go_wp2
     go_meet
     exact⟨by rw[HE.out],x,.no,M2,512,mc2,R2,8,rc2,L2,n,c2,none,0,0,none,0,0,H2d.out,H8.out,H4d.out,H5d.out,HW4.out,fun hE0=>absurd (hE0.symm.trans HE.out) (by decide)⟩
  have t4:(y.kind==4)=false:=beq_eq_false_iff_ne.2 h4
  have HE:=Zh (do_5 H0.out h1 h2 h3 h4 HEE.out)
  clear h1 h2 h3 h4
  go_wp2
  go_meet
  exact⟨by rw[HE.out],x,.no,M2,512,mc2,R2,8,rc2,L2,n,c2,none,0,0,none,0,0,H2d.out,H8.out,H4d.out,H5d.out,HW4.out,fun hE0=>absurd (hE0.symm.trans HE.out) (by decide)⟩
 case rest=>
  obtain⟨rfl,z,tt,M',nm',mc',R',nr',rc',L',n',c',D',dn',dc',X',tn',tc',v2,v8,v4,v5,hWc,hz⟩:=hcut
  have V2:=Zh v2
  have V8:=Zh v8
  have V4:=Zh v4
  have V5:=Zh v5
  have HWC:=Zh hWc
  have HZ:=Zh hz
  have hlt8:=Xgv v8
  have hzc:=hWc.size
  clear v2 v8 v4 v5 hWc hz
  by_cases hE0:E=0
  ·have t0:(E != 0)=false:=by rw[bne_eq_false_iff_eq];exact hE0
   have HE0:=Zh hE0
   clear hE0
   go_upto_region 21 with(fail)
   obtain⟨hr,hzv,hzt⟩:=HZ.out HE0.out
   have HV:=Zh hzv
   have HT:=Zh hzt
   have HRZ:=Zh hr
   have R4:Hid (wc.there (w.heap.size+1+1) 0 16):=Zh (Xc4 V4.out (of_decide_eq_true rfl))
   have R5:Hid (wc.there (w.heap.size+1+1+1) 0 4):=Zh (Xc4 V5.out (of_decide_eq_true rfl))
   clear hr hzv hzt
   refine Xfg (by kernel_rfl) _ _ _ _ _ rfl rfl rfl rfl rfl rfl (by kernel_rfl) (by kernel_rfl) (by kernel_rfl) (by kernel_rfl) (by kernel_rfl) (by kernel_rfl) (by kernel_rfl) (by kernel_rfl) (by kernel_rfl) rfl rfl rfl rfl rfl 33 40 (.tmp 2) (.tmp 8) (.tmp 4) (.tmp 5) (.tmp 95) (.tmp 96) rfl rfl rfl rfl (.int .i64 0) rfl w.heap.size w3.heap.size (w.heap.size+1+1) (w.heap.size+1+1+1) (M_.m z M' nm' mc' R' nr' rc' L' n' c') #[.bool tt.done,.slice D' dn' dc',.int .i64 tt.fault,.slice X' tn' tc'] _ _ Tryz.underlying33 Tryz.underlying40 rfl rfl Tryz.sizeMach Tryz.sizeTold rfl rfl rfl rfl rfl rfl rfl rfl (Xfb V2.out) (Xfb V8.out) R4.out R5.out (by omega) (by omega) (by omega) (by omega) (fun _ _ _ _ h=>h) (fun _ _ _ _ h=>h) ?_
   generalize hw9:(wc.drew.setCells (w.heap.size+1+1) 0 ([.slice M' nm' mc',.int .i64 z.h.at_,.slice R' nr' rc',.bool z.h.done,.int .i64 z.b.mode,.int .i64 z.b.base,.slice L' n' c',.int .i64 z.b.orders.page,.int .i64 z.b.orders.head,.int .i64 z.b.orders.tail,.bool z.b.stopped,.int .i64 z.b.fences,.int .i64 z.b.faults.page,.int .i64 z.b.faults.head,.int .i64 z.b.faults.tail,.bool z.b.lost]:List Value)).setCells (w.heap.size+1+1+1) 0 ([.bool tt.done,.slice D' dn' dc',.int .i64 tt.fault,.slice X' tn' tc']:List Value)=w9
   have C9:=Zh (show Chg (fun q=>q=w.heap.size+1+1∨q=w.heap.size+1+1+1) wc w9 by
    rw[←hw9]
    exact Xa4 (Xa4 (Xa5 (Xaq wc)) (Xbp (Xda _ _ 0 _) (fun q _ e=>Or.inl e))) (Xbp (Xda _ _ 0 _) (fun q _ e=>Or.inr e)))
   have hq1:=Zh (show w9.rangeAt (w.heap.size+1+1) 0 ([.slice M' nm' mc',.int .i64 z.h.at_,.slice R' nr' rc',.bool z.h.done,.int .i64 z.b.mode,.int .i64 z.b.base,.slice L' n' c',.int .i64 z.b.orders.page,.int .i64 z.b.orders.head,.int .i64 z.b.orders.tail,.bool z.b.stopped,.int .i64 z.b.fences,.int .i64 z.b.faults.page,.int .i64 z.b.faults.head,.int .i64 z.b.faults.tail,.bool z.b.lost]:List Value) by
    rw[←hw9]
    exact World.rangeAt_setCells_apart (World.rangeAt_setCells_same wc.drew (w.heap.size+1+1) 0 ([.slice M' nm' mc',.int .i64 z.h.at_,.slice R' nr' rc',.bool z.h.done,.int .i64 z.b.mode,.int .i64 z.b.base,.slice L' n' c',.int .i64 z.b.orders.page,.int .i64 z.b.orders.head,.int .i64 z.b.orders.tail,.bool z.b.stopped,.int .i64 z.b.fences,.int .i64 z.b.faults.page,.int .i64 z.b.faults.head,.int .i64 z.b.faults.tail,.bool z.b.lost]:List Value) R4.out) _ _ _ (Or.inl (by omega)))
   have hq2:=Zh (show w9.rangeAt (w.heap.size+1+1+1) 0 ([.bool tt.done,.slice D' dn' dc',.int .i64 tt.fault,.slice X' tn' tc']:List Value) by
    rw[←hw9]
    exact World.rangeAt_setCells_same (wc.drew.setCells (w.heap.size+1+1) 0 ([.slice M' nm' mc',.int .i64 z.h.at_,.slice R' nr' rc',.bool z.h.done,.int .i64 z.b.mode,.int .i64 z.b.base,.slice L' n' c',.int .i64 z.b.orders.page,.int .i64 z.b.orders.head,.int .i64 z.b.orders.tail,.bool z.b.stopped,.int .i64 z.b.fences,.int .i64 z.b.faults.page,.int .i64 z.b.faults.head,.int .i64 z.b.faults.tail,.bool z.b.lost]:List Value)) (w.heap.size+1+1+1) 0 ([.bool tt.done,.slice D' dn' dc',.int .i64 tt.fault,.slice X' tn' tc']:List Value) (World.there_setCells (w:=wc.drew) R5.out _ _ _))
   clear hw9
   go_wp2
   refine bodyPost_ret (v:=.tuple #[.agg (M_.m z M' nm' mc' R' nr' rc' L' n' c'),.agg #[.bool tt.done,.slice D' dn' dc',.int .i64 tt.fault,.slice X' tn' tc'],.int .i64 0]) ?_ rfl ?_
   ·exact Xc6 Tryz.results4 rfl rfl rfl (run_loadVar_mid w9 _ 0 33 ([.slice M' nm' mc',.int .i64 z.h.at_,.slice R' nr' rc',.bool z.h.done,.int .i64 z.b.mode,.int .i64 z.b.base,.slice L' n' c',.int .i64 z.b.orders.page,.int .i64 z.b.orders.head,.int .i64 z.b.orders.tail,.bool z.b.stopped,.int .i64 z.b.fences,.int .i64 z.b.faults.page,.int .i64 z.b.faults.head,.int .i64 z.b.faults.tail,.bool z.b.lost]:List Value) _ hq1.out Tryz.underlying33 rfl Tryz.sizeMach) (run_loadVar_mid w9 _ 0 40 ([.bool tt.done,.slice D' dn' dc',.int .i64 tt.fault,.slice X' tn' tc']:List Value) _ hq2.out Tryz.underlying40 rfl Tryz.sizeTold)
   ·have hr:=HRZ.out
    subst hr
    refine⟨M',nm',mc',R',nr',rc',L',n',c',D',dn',dc',X',tn',tc',by rw[HE0.out], ?_, ?_, ?_⟩
    ·exact(HV.out.chg C9.out (fun q e hq=>by omega)).av (fun q hq=>by omega)
    ·exact(HT.out.chg C9.out (fun q e hq=>by omega)).av (fun q hq=>by omega)
    ·exact Xa8 HWC.out (by omega) C9.out (fun q hq e=>by omega)
  ·have t0:(E != 0)=true:=by rw[bne_iff_ne];exact hE0
   have hr0:r=(.no,.no):=by rw[←HRR.out];unfold doA;rw[HEE.out,if_neg hE0]
   clear hE0
   subst hr0
   go_wp2_with (first
    |(refine Xaj rfl 33 (.tmp 4) (.tmp 92) rfl (w.heap.size+1+1) _ _ B_.y rfl rfl V4.out Tryz.sizeMach rfl rfl ?_;intro w5 h4a t4;have h5a:=Xam V5.out t4 (by omega))
    |(refine Xaj rfl 40 (.tmp 5) (.tmp 93) rfl (w.heap.size+1+1+1) _ _ B_.t rfl rfl h5a Tryz.sizeTold rfl rfl ?_;intro w6 h5b t5;have h4b:=Xam h4a t5 (by omega)))
   go_wp2
   refine bodyPost_ret (v:=.tuple #[.agg B_.y,.agg B_.t,.int .i64 E]) ?_ rfl (Xo6 ?_)
   ·exact Xc6 Tryz.results4 rfl rfl rfl (Xbx h4b _ Tryz.underlying33 rfl Tryz.sizeMach) (Xbx h5b _ Tryz.underlying40 rfl Tryz.sizeTold)
   ·exact Xaw (Xaw HWC.out (by omega) t4 (by omega)) (by have:=t4.2;omega) t5 (by omega)
theorem Xxz (nm mc nr rc n c:Nat) (hm:Ints w w.heap.size M nm x.m) (hr:Ints w w.heap.size R nr x.h.regs) (hl:Lines w w.heap.size L n c x.b.cache) (hd:Ints w w.heap.size AD nd y.a.data) (r:Mch×Tld) (E:Int) (hrr:doA x y=r) (hEE:doE x y=E) :
  Calls Tryz.prog 4 #[.agg (M_.m x M nm mc R nr rc L n c),.agg #[.int .i64 y.kind,.int .i64 y.n,.int .i64 y.a.dev,.int .i64 y.a.at_,.int .i64 y.a.count,.bool y.a.wr,.slice AD nd cd]] w (MdoC w r E):=by
 by_cases h0:ckM x=0
 ·obtain⟨c1,c2,_⟩:=(Xct x).1 h0
  obtain rfl:nm=512:=by rw[←hm.len];exact(Xaz c1).1
  obtain rfl:nr=8:=by rw[←hr.len];exact(Xap c2).1
  exact mdo_ok x y M R L AD nd cd w mc rc n c hm hr hl hd h0 r E hrr hEE
 ·have e:doE x y=ckM x:=by unfold doE;rw[if_neg h0]
  have e2:doA x y=(.no,.no):=by unfold doA;rw[e,if_neg h0]
  rw[←hrr,←hEE,e,e2]
  exact Xxy x y M R L AD nd cd w nm mc nr rc n c hm hr hl h0
end
end
section
open Go.RowKit
set_option linter.unusedSimpArgs false
set_option linter.unusedVariables false
structure Tle where
 t:Tld
 D:Option Addr
 dn:Nat
 dc:Nat
 X:Option Addr
 tn:Nat
 tc:Nat
def Tle.vals (e:Tle):List Value:=[.bool e.t.done,.slice e.D e.dn e.dc,.int .i64 e.t.fault,.slice e.X e.tn e.tc]
def Xdl (es:List Tle):List Value:=es.flatMap Tle.vals
theorem Xiq (es:List Tle) (e:Tle):Xdl (es ++ [e])=Xdl es ++ e.vals:=by unfold Xdl;rw[List.flatMap_append];simp
theorem Xfm:∀(ls:List Tle) (k:Nat) (x:Tle) (j:Nat),ls[k]?=some x→j<4→(Xdl ls)[k * 4+j]?=x.vals[j]?
 |[],k,x,j,h,_=>by simp at h
 |y :: r,0,x,j,h,hj=>by
  simp at h;subst h
  unfold Xdl
  rw[List.flatMap_cons,List.getElem?_append_left (by simp[Tle.vals];omega)]
  simp
 |y :: r,k+1,x,j,h,hj=>by
  simp at h
  unfold Xdl
  rw[List.flatMap_cons,List.getElem?_append_right (by simp[Tle.vals];omega)]
  have:=Xfm r k x j h hj
  unfold Xdl at this
  rw[←this];congr 1;simp[Tle.vals];omega
theorem Xko (e:Tle):∀ u∈e.vals,u.oneCell'=true:=by
 intro u hu
 simp[Tle.vals]at hu
 rcases hu with rfl|rfl|rfl|rfl<;>rfl
def OwnS (B:Nat) (w:World) (A:Option Addr) (n c:Nat) (es:List Tle):Prop:=es.length=n∧n≤c∧c≤maxLen∧w.ownsRow B 40 4 (.slice A n c) n (Xdl es)
def OwnE (B:Nat) (w:World) (A:Option Addr) (n c:Nat) (xs:List Int):Prop:=xs.length=n∧n≤c∧c≤maxLen∧w.ownsRow B 41 1 (.slice A n c) n (xs.map (Value.int .i64))
theorem Tryz.infoTold:(Tryz.prog.info? 40).map (fun i=>(i.zero,i.size,i.bytes))=some (some (.agg B_.t),4,64):=by kernel_rfl
theorem Tryz.infoErr:(Tryz.prog.info? 41).map (fun i=>(i.zero,i.size,i.bytes))=some (some (.int .i64 0),1,8):=by kernel_rfl
section
variable {B:Nat} {w w':World} {A:Option Addr} {n c:Nat}
theorem Xkz (w:World) (B:Nat):OwnS B w none 0 0 []:=⟨rfl,Nat.le_refl _,Nat.zero_le _,World.ownsRow_nil _ _ _ _⟩
theorem Xk0 (w:World) (B:Nat):OwnE B w none 0 0 []:=⟨rfl,Nat.le_refl _,Nat.zero_le _,World.ownsRow_nil _ _ _ _⟩
theorem OwnS.below {es:List Tle} (h:OwnS B w A n c es) (hb:Below w.heap.size w w'):OwnS B w' A n c es:=⟨h.1,h.2.1,h.2.2.1,Xbz h.2.2.2 hb⟩
theorem OwnE.below {xs:List Int} (h:OwnE B w A n c xs) (hb:Below w.heap.size w w'):OwnE B w' A n c xs:=⟨h.1,h.2.1,h.2.2.1,Xbz h.2.2.2 hb⟩
theorem OwnS.chg {P:Nat→Prop} {es:List Tle} (h:OwnS B w A n c es) (hC:Chg P w w') (hn:∀ ad,A=some ad→¬P ad.block):OwnS B w' A n c es:=⟨h.1,h.2.1,h.2.2.1,Xdc h.2.2.2 hC hn⟩
theorem OwnE.chg {P:Nat→Prop} {xs:List Int} (h:OwnE B w A n c xs) (hC:Chg P w w') (hn:∀ ad,A=some ad→¬P ad.block):OwnE B w' A n c xs:=⟨h.1,h.2.1,h.2.2.1,Xdc h.2.2.2 hC hn⟩
theorem Xhj {e:TypeId} {s n c:Nat} {xs:List Value} (h:w.ownsRow B e s (.slice A n c) n xs):n≤c∧c≤maxLen:=by
 rcases Xdn h with⟨hv,h0⟩|⟨g,cap,hv,h1,h2,_⟩
 ·injection hv with _ _ h3;subst h3;omega
 ·injection hv with _ _ h3;subst h3;exact⟨h1,h2⟩
end
def avt (B:Nat) (TA SA:Option Addr) (q:Nat):Prop:=B≤q∧(∀ ad,TA=some ad→q≠ad.block)∧∀ ad,SA=some ad→q≠ad.block
theorem Xku {w:World} {Av:Nat→Prop} {A:Option Addr} {n:Nat} {xs:List Int} (h:Ints w w.heap.size A n xs) (ha:RowIn Av A n):RowIn (fun q=>Av q∧q<w.heap.size) A n:=fun h0 ad e=>⟨ha h0 ad e,Xhz h h0 ad e⟩
theorem Xr5 {w:World} {Av:Nat→Prop} {A:Option Addr} {n c:Nat} {xs:List Line} (h:Lines w w.heap.size A n c xs) (ha:RowIn Av A n):RowIn (fun q=>Av q∧q<w.heap.size) A n:=fun h0 ad e=>⟨ha h0 ad e,Xi6 h h0 ad e⟩
theorem Xr4 {w:World} {Av:Nat→Prop} {A:Option Addr} {n c:Nat} {xs:List Tch} (h:Tchs w w.heap.size A n c xs) (ha:RowIn Av A n):RowIn (fun q=>Av q∧q<w.heap.size) A n:=fun h0 ad e=>⟨ha h0 ad e,Xp7 h h0 ad e⟩
theorem MachV.lt {w:World} {Av:Nat→Prop} {x:Mch} {M R L:Option Addr} {nm nr n c:Nat} (h:MachV w Av x M nm R nr L n c):MachV w (fun q=>Av q∧q<w.heap.size) x M nm R nr L n c:=⟨h.hm,h.hr,h.hl,Xku h.hm h.am,Xku h.hr h.ar,Xr5 h.hl h.al⟩
theorem TldV.lt {w:World} {Av:Nat→Prop} {t:Tld} {D T:Option Addr} {dn tn tc:Nat} (h:TldV w Av t D dn T tn tc):TldV w (fun q=>Av q∧q<w.heap.size) t D dn T tn tc:=⟨h.hd,h.ht,Xku h.hd h.ad,Xr4 h.ht h.at_⟩
structure RunI (w:World) (x:Mch) (es:List Tle) (rs:List Int) (TA:Option Addr) (tn tc:Nat) (SA:Option Addr) (sn sc:Nat) (M:Option Addr) (nm mc:Nat) (R:Option Addr) (nr rc:Nat) (L:Option Addr) (n c:Nat) (W:World):Prop where
 below:Below w.heap.size w W
 size:w.heap.size+2≤W.heap.size
 m:Whl W w.heap.size 33 ((M_.m x M nm mc R nr rc L n c))
 z:Whl W (w.heap.size+1) 33 B_.y
 mv:MachV W (avt (w.heap.size+2) TA SA) x M nm R nr L n c
 ot:OwnS (w.heap.size+2) W TA tn tc es
 os:OwnE (w.heap.size+2) W SA sn sc rs
 el:∀ e∈es,TldV W (avt (w.heap.size+2) TA SA) e.t e.D e.dn e.X e.tn e.tc
 ap:∀ ad ad',TA=some ad→SA=some ad'→ad.block≠ad'.block
section
variable {w W W':World} {x x':Mch} {es:List Tle} {rs:List Int} {TA SA M R L M' R' L':Option Addr} {tn tc sn sc nm mc nr rc n c nm' mc' nr' rc' n' c':Nat}
theorem RunI.since (h:RunI w x es rs TA tn tc SA sn sc M nm mc R nr rc L n c W) (hs:Below W.heap.size W W'):RunI w x es rs TA tn tc SA sn sc M nm mc R nr rc L n c W':=
 ⟨h.below.trans (hs.mono h.below.size),Nat.le_trans h.size hs.size,Xaa h.m hs,Xaa h.z hs,h.mv.since hs,h.ot.below hs,h.os.below hs,fun e he=>(h.el e he).since hs,h.ap⟩
theorem RunI.store (h:RunI w x es rs TA tn tc SA sn sc M nm mc R nr rc L n c W) (hw:Whl W' w.heap.size 33 ((M_.m x' M' nm' mc' R' nr' rc' L' n' c'))) (ht:Trn w.heap.size W W') (hv:MachV W (avt (w.heap.size+2) TA SA) x' M' nm' R' nr' L' n' c') :
  RunI w x' es rs TA tn tc SA sn sc M' nm' mc' R' nr' rc' L' n' c' W':=by
 have hav:∀ q,avt (w.heap.size+2) TA SA q→q≠w.heap.size:=fun q hq e=>by have:=hq.1;omega
 have ht':=(Xat h.ot.2.2.2)
 have hs':=(Xat h.os.2.2.2)
 exact⟨Xaw h.below (by have:=h.size;omega) ht (Nat.le_refl _),by rw[ht.2];exact h.size,hw,Xam h.z ht (by omega),hv.trn ht (fun hq=>hav _ hq rfl),h.ot.chg ht.1 (fun ad e hp=>by have:=(ht' ad e).1;omega),h.os.chg ht.1 (fun ad e hp=>by have:=(hs' ad e).1;omega),fun e he=>(h.el e he).trn ht (fun hq=>hav _ hq rfl),h.ap⟩
theorem RunI.told (h:RunI w x es rs TA tn tc SA sn sc M nm mc R nr rc L n c W) {g cap:Nat} {e:Tle} (hg:W.grownBy W' (Value.slice TA tn tc).ownBlock) (hown:W'.ownsRow (w.heap.size+2) 40 4 (.slice (some ⟨g,0,none⟩) (tn+1) cap) (tn+1) (Xdl es ++ e.vals)) (hat:(Value.slice TA tn tc).ownBlock=some g∨g=W.heap.size) (he:TldV W (avt (w.heap.size+2) TA SA) e.t e.D e.dn e.X e.tn e.tc) :
  RunI w x (es ++ [e]) rs (some ⟨g,0,none⟩) (tn+1) cap SA sn sc M nm mc R nr rc L n c W':=by
 have hC:Chg (fun q=>(Value.slice TA tn tc).ownBlock=some q) W W':=Xdm (Xaq W) hg (fun k e=>Or.inl e)
 have ht':=Xat h.ot.2.2.2
 have hs':=Xat h.os.2.2.2
 have hP:∀ q,(Value.slice TA tn tc).ownBlock=some q→∃ ad,TA=some ad∧ad.block=q:=fun q e=>Xc5 e
 have hn:∀ q,(Value.slice TA tn tc).ownBlock=some q→¬(avt (w.heap.size+2) TA SA q∧q<W.heap.size):=fun q e hq=>by
  obtain⟨ad,h1,h2⟩:=hP q e
  exact hq.1.2.1 ad h1 h2.symm
 have hv:∀ q,(avt (w.heap.size+2) TA SA q∧q<W.heap.size)→avt (w.heap.size+2) (some ⟨g,0,none⟩) SA q:=fun q hq=>⟨hq.1.1,fun ad e=>by
  injection e with e;subst e
  rcases hat with h1|h1
  ·obtain⟨ad,h2,h3⟩:=hP g h1
   intro hh
   exact hq.1.2.1 ad h2 (hh.trans h3.symm)
  ·intro hh
   have:=hq.2
   show False
   simp only[]at hh
   omega,hq.1.2.2⟩
 have hc:=Xhj hown
 refine⟨Xa8 h.below (by have:=h.size;omega) hC (fun q hq e=>by obtain⟨ad,h1,h2⟩:=hP q e;have:=(ht' ad h1).1;omega),Nat.le_trans h.size hC.size,Xa6 h.m hC (fun e=>by obtain⟨ad,h1,h2⟩:=hP _ e;have:=(ht' ad h1).1;omega),Xa6 h.z hC (fun e=>by obtain⟨ad,h1,h2⟩:=hP _ e;have:=(ht' ad h1).1;omega),
  (h.mv.lt.chg hC hn).av hv,⟨by rw[List.length_append,h.ot.1];rfl,hc.1,hc.2,by rw[Xiq];exact hown⟩,h.os.chg hC (fun ad e hp=>by obtain⟨ad2,h1,h2⟩:=hP _ hp;exact h.ap ad2 ad h1 e h2),fun e' he'=>?_,fun ad ad' e1 e2=>?_⟩
 ·rw[List.mem_append]at he'
  rcases he' with he'|he'
  ·exact((h.el e' he').lt.chg hC hn).av hv
  ·simp at he';subst he';exact(he.lt.chg hC hn).av hv
 ·injection e1 with e1;subst e1
  rcases hat with h1|h1
  ·obtain⟨ad2,h2,h3⟩:=hP g h1
   intro hh
   exact h.ap ad2 ad' h2 e2 (h3.trans hh)
  ·intro hh
   have:=(hs' ad' e2).2
   simp only[]at hh
   omega
theorem RunI.said (h:RunI w x es rs TA tn tc SA sn sc M nm mc R nr rc L n c W) {g cap:Nat} {v:Int} (hg:W.grownBy W' (Value.slice SA sn sc).ownBlock) (hown:W'.ownsRow (w.heap.size+2) 41 1 (.slice (some ⟨g,0,none⟩) (sn+1) cap) (sn+1) (rs.map (Value.int .i64) ++ [.int .i64 v])) (hat:(Value.slice SA sn sc).ownBlock=some g∨g=W.heap.size) :
  RunI w x es (rs ++ [v]) TA tn tc (some ⟨g,0,none⟩) (sn+1) cap M nm mc R nr rc L n c W':=by
 have hC:Chg (fun q=>(Value.slice SA sn sc).ownBlock=some q) W W':=Xdm (Xaq W) hg (fun k e=>Or.inl e)
 have ht':=Xat h.ot.2.2.2
 have hs':=Xat h.os.2.2.2
 have hP:∀ q,(Value.slice SA sn sc).ownBlock=some q→∃ ad,SA=some ad∧ad.block=q:=fun q e=>Xc5 e
 have hn:∀ q,(Value.slice SA sn sc).ownBlock=some q→¬(avt (w.heap.size+2) TA SA q∧q<W.heap.size):=fun q e hq=>by
  obtain⟨ad,h1,h2⟩:=hP q e
  exact hq.1.2.2 ad h1 h2.symm
 have hv:∀ q,(avt (w.heap.size+2) TA SA q∧q<W.heap.size)→avt (w.heap.size+2) TA (some ⟨g,0,none⟩) q:=fun q hq=>⟨hq.1.1,hq.1.2.1,fun ad e=>by
  injection e with e;subst e
  rcases hat with h1|h1
  ·obtain⟨ad,h2,h3⟩:=hP g h1
   intro hh
   exact hq.1.2.2 ad h2 (hh.trans h3.symm)
  ·intro hh
   have:=hq.2
   show False
   simp only[]at hh
   omega⟩
 have hc:=Xhj hown
 refine⟨Xa8 h.below (by have:=h.size;omega) hC (fun q hq e=>by obtain⟨ad,h1,h2⟩:=hP q e;have:=(hs' ad h1).1;omega),Nat.le_trans h.size hC.size,Xa6 h.m hC (fun e=>by obtain⟨ad,h1,h2⟩:=hP _ e;have:=(hs' ad h1).1;omega),Xa6 h.z hC (fun e=>by obtain⟨ad,h1,h2⟩:=hP _ e;have:=(hs' ad h1).1;omega),
  (h.mv.lt.chg hC hn).av hv,h.ot.chg hC (fun ad e hp=>by obtain⟨ad2,h1,h2⟩:=hP _ hp;exact h.ap ad ad2 e h1 h2.symm),⟨by rw[List.length_append,h.os.1];rfl,hc.1,hc.2,by rw[List.map_append];exact hown⟩,fun e' he'=>((h.el e' he').lt.chg hC hn).av hv,fun ad ad' e1 e2=>?_⟩
 injection e2 with e2;subst e2
 rcases hat with h1|h1
 ·obtain⟨ad2,h2,h3⟩:=hP g h1
  intro hh
  exact h.ap ad ad2 e1 h2 (hh.trans h3.symm)
 ·intro hh
  have:=(ht' ad e1).2
  simp only[]at hh
  omega
end
end
section
set_option maxRecDepth 100000
set_option maxHeartbeats 16000000
open Go.RowKit
set_option linter.unusedSimpArgs false
set_option linter.unusedVariables false
attribute [local go_sem ↓] Go.wp_at_zero Go.wp_at_succ
def Xq6 (w:World) (z:Mch) (ts:List Tld) (rs:List Int) (E:Int) (e:Ending) (w':World):Prop:=
 ∃ M nm mc R nr rc L n c es TA tn tc SA sn sc,e=.returned (.tuple #[.agg (M_.m z M nm mc R nr rc L n c),.slice TA tn tc,.slice SA sn sc,.int .i64 E]) ∧
  MachV w' (fun q=>w.heap.size≤q) z M nm R nr L n c∧OwnS w.heap.size w' TA tn tc es∧es.map Tle.t=ts∧OwnE w.heap.size w' SA sn sc rs∧(∀ e∈es,TldV w' (fun q=>w.heap.size≤q) e.t e.D e.dn e.X e.tn e.tc)∧Below w.heap.size w w'
theorem Xi7 {P:Program} {fn:Func} {p q u v:Tmp} {ty:TypeId} {tmps:Array Value} {w:World} {a:Addr} {v1 v2 v3 v4:Value} (h:fn.results=#[.cell p ty,.tmp q,.tmp u,.tmp v]) (hp:tmps.getD p undef=.pointer (some a)) (hq:tmps.getD q undef=v2) (hu:tmps.getD u undef=v3) (hv:tmps.getD v undef=v4)
  (e1:(loadVar ty a).run P w=.ok v1 w):(results fn tmps).run P w=.ok (.tuple #[v1,v2,v3,v4]) w:=by
 have hp':tmps[p]?.getD undef=.pointer (some a):=by simpa using hp
 have hq':tmps[q]?.getD undef=v2:=by simpa using hq
 have hu':tmps[u]?.getD undef=v3:=by simpa using hu
 have hv':tmps[v]?.getD undef=v4:=by simpa using hv
 simp[results,h,hp',hq',hu',hv',asAddr,e1]
theorem Xhg {x:Mch} {hs:List Hap} {k:Nat} {y:Hap} (hy:hs[k]?=some y):runS x (hs.take (k+1))=nxtM (runS x (hs.take k)) y∧runT x (hs.take (k+1))=runT x (hs.take k) ++ [(doA (runS x (hs.take k)) y).2]∧runR x (hs.take (k+1))=runR x (hs.take k) ++ [doE (runS x (hs.take k)) y]:=by
 have e:hs.take (k+1)=hs.take k ++ [y]:=by
  rw[List.take_add_one,hy];rfl
 rw[e]
 exact⟨Xr1,Xr0,Xr2⟩
theorem nxt_0 {x:Mch} {y:Hap} (h:doE x y=0):nxtM x y=(doA x y).1:=by unfold nxtM doA;rw[if_pos h,if_pos h]
theorem nxt_n {x:Mch} {y:Hap} (h:doE x y≠0):nxtM x y=x:=by unfold nxtM;rw[if_neg h]
section
variable (x:Mch) (hs:List Hap) (M R L HA:Option Addr) (hn hc:Nat) (w:World)
theorem Xsu (mc rc n c:Nat) (hm:Ints w w.heap.size M 512 x.m) (hr:Ints w w.heap.size R 8 x.h.regs) (hl:Lines w w.heap.size L n c x.b.cache) (hh:Haps w w.heap.size HA hn hc hs) (h0:ckM x=0) (hh1:hn≤120) :
  Calls Tryz.prog 21 #[.agg (M_.m x M 512 mc R 8 rc L n c),.slice HA hn hc] w (Xq6 w (runS x hs) (runT x hs) (runR x hs) 0):=by
 obtain⟨i0,hi,hi0,hi1,hi2⟩:=info_parts Tryz.infoErr
 obtain⟨j0,hj,hj0,hj1,hj2⟩:=info_parts Tryz.infoTold
 have HI:=Zh hi
 have HI0:=Zh hi0
 have HI1:=Zh hi1
 have HI2:=Zh hi2
 have HJ:=Zh hj
 have HJ0:=Zh hj0
 have HJ1:=Zh hj1
 have HJ2:=Zh hj2
 clear hi hi0 hi1 hi2 hj hj0 hj1 hj2
 have HM:=Zh hm
 have HR:=Zh hr
 have HL:=Zh hl
 have HH:=Zh hh
 have H0:=Zh h0
 have hcap:=hh.cap
 have HHL:=Zh hh.len
 have hh2:(hn:Int)≤120:=by omega
 have HN:=Zh (show n≤1000 by have:=((Xcm _).1 ((Xbn x.b).1 ((Xct x).1 h0).2.2).2.1).1;have:=hl.1;omega)
 clear hm hr hl hh h0
 go_enter Tryz.func21,Tryz.ntmps21
 go_upto_region 1 with(fail)
 generalize hw0:(w.alloc (.cells (M_.m x M 512 mc R 8 rc L n c) 33)).alloc (.cells B_.y 33)=w0
 have H2:=Zh (show Whl w0 (w.heap.size) 33 (M_.m x M 512 mc R 8 rc L n c) by rw[←hw0];exact Xab (Xac _ _ _ rfl) _)
 have H4:=Zh (show Whl w0 (w.heap.size+1) 33 B_.y by rw[←hw0];exact Xac _ _ _ (by simp))
 have HW0:=Zh (show Below w.heap.size w w0 by rw[←hw0];(refine bl ?_;repeat' first|with_reducible(first|assumption|constructor)|((try simp)<;>omega)))
 have hz0a:w0.heap.size≤w.heap.size+1+1:=by rw[←hw0];simp
 have hz0b:w.heap.size+1+1≤w0.heap.size:=by rw[←hw0];simp
 clear hw0
 go_wp2_with (refine Xao rfl 33 (.tmp 2) rfl (w.heap.size) _ _ rfl H2.out _ Tryz.underlying33 rfl Tryz.sizeMach ?_)
 refine(Xd5 x M R L 512 mc 8 rc n c _ (Xaf HM.out HW0.out) (Xaf HR.out HW0.out) (Xah HL.out HW0.out)).mono ?_
 rw[H0.out]
 rintro e w1 ⟨rfl,hb1⟩
 have HB1:=Zh hb1
 have hz1:=hb1.size
 have HW1:=Zh (HW0.out.trans (hb1.mono (by omega)))
 have H2a:=Zh (Xaa H2.out HB1.out)
 have H4a:=Zh (Xaa H4.out HB1.out)
 clear hb1 H2 H4
 go_wp2_with (refine Xao rfl 33 (.tmp 2) rfl (w.heap.size) _ _ rfl H2a.out _ Tryz.underlying33 rfl Tryz.sizeMach ?_)
 refine(Xim x M R L mc rc n c _ (Xaf HM.out HW1.out) (Xaf HR.out HW1.out) (Xah HL.out HW1.out) HN.out).mono ?_
 rintro e w2 ⟨M2,mc2,R2,rc2,L2,c2,rfl,ho2,hor2,hol2,hb2⟩
 have HB2:=Zh hb2
 have hz2:=hb2.size
 have HW2:=Zh (HW1.out.trans (hb2.mono (by omega)))
 have HOM:=Zh ho2
 have HOR:=Zh hor2
 have HOL:=Zh hol2
 have H2b:=Zh (Xaa H2a.out HB2.out)
 have H4b:=Zh (Xaa H4a.out HB2.out)
 clear hb2 ho2 hor2 hol2 H2a H4a
 go_upto_region 7 with(refine Xaj rfl 33 (.tmp 2) (.tmp 27) rfl (w.heap.size) _ _ (M_.m x M2 512 mc2 R2 8 rc2 L2 n c2) rfl rfl H2b.out Tryz.sizeMach rfl rfl ?_;intro w3 h2c t3)
 have J0:Hid (RunI w x [] [] none 0 0 none 0 0 M2 512 mc2 R2 8 rc2 L2 n c2 w3):=Zh (by
  have hz3:=t3.2
  have om:=Xe4 HOM.out t3 (by omega)
  have or:=Xe4 HOR.out t3 (by omega)
  have ol:=Xiu HOL.out t3 (by omega)
  exact⟨Xaw HW2.out (by omega) t3 (Nat.le_refl _),by omega,h2c,Xam H4b.out t3 (by omega),
   ⟨om.ints (by decide),or.ints (by decide),ol.lines,fun _ ad e=>⟨by have:=(Xat om.2 ad e).1;omega,(fun _ h=>nomatch h),(fun _ h=>nomatch h)⟩,fun _ ad e=>⟨by have:=(Xat or.2 ad e).1;omega,(fun _ h=>nomatch h),(fun _ h=>nomatch h)⟩,fun _ ad e=>⟨by have:=(Xat ol.2.2.2 ad e).1;omega,(fun _ h=>nomatch h),(fun _ h=>nomatch h)⟩⟩,
   Xkz _ _,Xk0 _ _,(fun e h=>nomatch h),(fun _ _ h=>nomatch h)⟩)
 clear h2c t3 HOM HOR HOL H2b H4b HW0 HW1 HW2 HB1 HB2 hz0a hz0b hz1 hz2
 go_wp2
 go_loopw [30,9,10] (fun s30 s9 s10 wr=>∃(k:Nat) (es:List Tle) (TA:Option Addr) (tc:Nat) (SA:Option Addr) (sc:Nat) (M:Option Addr) (nm mc:Nat) (R:Option Addr) (nr rc:Nat) (L:Option Addr) (n c:Nat),k≤hn∧s30=.int .i64 k∧s9=.slice TA k tc∧s10=.slice SA k sc∧Hid (es.map Tle.t=runT x (hs.take k))∧Hid (RunI w (runS x (hs.take k)) es (runR x (hs.take k)) TA k tc SA k sc M nm mc R nr rc L n c wr)) (fun s30 _ _ _=>hn - (intOf s30).toNat)
 case atStart=>exact⟨0,[],none,0,none,0,M2,512,mc2,R2,8,rc2,L2,n,c2,by omega,rfl,rfl,rfl,rfl,J0.out⟩
 case round=>
  clear HM HR HL HN J0
  obtain⟨k,es,TA,tc,SA,sc,M,nm,mc,R,nr,rc,L,n,c,hk,rfl,rfl,rfl,hes,I0⟩:=hrel
  have HES:=Zh hes.out
  have hws:=I0.out.size
  clear hes
  by_cases hlt:k<hn
  ·obtain⟨y,hyk⟩:=Xa2 hs (k:=k) (by rw[HHL.out];exact hlt)
   have HY:=Zh hyk
   obtain⟨b,off,rfl,hb,hcc⟩:=(Xiy HH.out I0.out.below).at_ (by omega)
   obtain⟨HD0,nd,cd,hcs,hda⟩:=hcc k y hyk
   have HRG:=Zh (Xmo hcs)
   have HDD:=Zh hda
   have q1:(0:Int)≤(k:Int):=by omega
   have q2:(k:Int)<(hn:Int):=by omega
   obtain⟨⟨z,t⟩,hDA⟩:∃ r,doA (runS x (hs.take k)) y=r:=⟨_,rfl⟩
   obtain⟨E,hDE⟩:∃ E,doE (runS x (hs.take k)) y=E:=⟨_,rfl⟩
   have HDA:=Zh hDA
   have HDE:=Zh hDE
   clear hcc hcs hda hyk hDA hDE
   go_wp2_with (first
    |(refine wpList_load_mid rfl 37 (.tmp 32) rfl b (off+k * 7) (by rfl) _ _ HRG.out Tryz.underlying37 rfl Tryz.sizeHap ?_)
    |(refine Xb6 rfl 37 (.tmp 12) (.tmp 33) rfl _ _ _ _ rfl rfl (by rfl) (by rfl) Tryz.sizeHap rfl (by rfl) ?_)
    |(refine Xao rfl 33 (.tmp 2) rfl w.heap.size _ _ rfl (Xab I0.out.m _) _ Tryz.underlying33 rfl Tryz.sizeMach ?_)
    |(refine Xao rfl 37 (.tmp 12) rfl wr.heap.size _ _ rfl (Xac wr _ _ rfl) _ Tryz.underlying37 rfl Tryz.sizeHap ?_))
   refine(Xxz (runS x (hs.take k)) y M R L HD0 nd cd _ nm mc nr rc n c (Xaf I0.out.mv.hm ((Below.refl _ _).alloc (Nat.le_refl _) _)) (Xaf I0.out.mv.hr ((Below.refl _ _).alloc (Nat.le_refl _) _)) (Xah I0.out.mv.hl ((Below.refl _ _).alloc (Nat.le_refl _) _)) (Xaf HDD.out ((Below.refl _ _).alloc (Nat.le_refl _) _)) (z,t) E HDA.out HDE.out).mono ?_
   rintro e w5 ⟨M5,nm5,mc5,R5,nr5,rc5,L5,n5,c5,D5,dn5,dc5,T5,tn5,tc5,rfl,hv5,ht5,hb5⟩
   have hz5:=hb5.size
   simp only[World.size_alloc]at hz5
   have HS5:=Zh (show Below wr.heap.size wr w5 from((Below.refl wr.heap.size wr).alloc (Nat.le_refl _) _).trans (hb5.mono (by simp)))
   have HV5:=Zh hv5
   have HT5:=Zh ht5
   clear hb5 hv5 ht5
   by_cases hE:E=0
   ·have t0:(E==0)=true:=by rw[beq_iff_eq];exact hE
    have HE:=Zh hE
    clear hE
    go_upto_region 14 with(first
     |(refine Xaj rfl 33 (.tmp 13) (.tmp 38) rfl (w5.heap.size) _ _ (M_.m z M5 nm5 mc5 R5 nr5 rc5 L5 n5 c5) rfl rfl (Xab (Xac w5 _ _ rfl) _) Tryz.sizeMach rfl rfl ?_;intro w6 h6 t6)
     |(refine Xaj rfl 40 (.tmp 14) (.tmp 39) rfl (w5.heap.size+1) _ _ #[.bool t.done,.slice D5 dn5 dc5,.int .i64 t.fault,.slice T5 tn5 tc5] rfl rfl (Xam (Xac (w5.alloc _) _ _ (by simp)) t6 (Nat.succ_ne_self _)) Tryz.sizeTold rfl rfl ?_;intro w7 h7 t7))
    have hw6:=t6.2
    have hw7:=t7.2
    (try simp only[World.size_alloc]at hw6)
    have hz7:wr.heap.size+1≤w5.heap.size:=hz5
    have hz7a:w7.heap.size≤w5.heap.size+1+1:=by omega
    have hz7b:w5.heap.size+1+1≤w7.heap.size:=by omega
    have C7:=Zh (Xa4 (Xbp (Q:=fun q=>w5.heap.size≤q) t6.1 (fun q _ e=>by omega)) (Xbp t7.1 (fun q _ e=>by omega)))
    have HS7:=Zh (show Below wr.heap.size wr w7 from Xa8 ((HS5.out.alloc (by omega) _).alloc (by simp;omega) _) (by simp;omega) C7.out (fun q hq e=>by omega))
    have I7:=Zh (I0.out.since HS7.out)
    have hB5:Below w5.heap.size w5 w7:=Xa8 (((Below.refl w5.heap.size w5).alloc (Nat.le_refl _) _).alloc (by simp) _) (by simp;omega) C7.out (fun q hq e=>by omega)
    have MV7:=Zh (MachV.av (x:=z) (HV5.out.since hB5) (Av':=fun q=>wr.heap.size+1≤q) (fun q hq=>by simp only[World.size_alloc]at hq;exact hq))
    have TV7:=Zh (TldV.av (t:=t) (HT5.out.since hB5) (Av':=fun q=>wr.heap.size+1≤q) (fun q hq=>by simp only[World.size_alloc]at hq;exact hq))
    have OT7:=Zh (Xat I0.out.ot.2.2.2)
    have OS7:=Zh (Xat I0.out.os.2.2.2)
    have H6:=Zh h6
    have H7:=Zh h7
    have T7:=Zh t7
    clear h6 h7 t6 t7 hw6 hw7 hB5
    go_upto_region 15 with(first
     |(refine Xao rfl 33 (.tmp 13) rfl w5.heap.size _ _ rfl (Xam H6.out T7.out (by omega)) _ Tryz.underlying33 rfl Tryz.sizeMach ?_)
     |(refine Xaj rfl 33 (.tmp 2) (.tmp 43) rfl (w.heap.size) _ _ (M_.m z M5 nm5 mc5 R5 nr5 rc5 L5 n5 c5) rfl rfl I7.out.m Tryz.sizeMach rfl rfl ?_;intro w8 h8 t8))
    have I8:=Zh (RunI.store I7.out h8 t8 (MachV.av (x:=z) MV7.out (fun q hq=>⟨by omega,fun ad e=>by have:=(OT7.out ad e).2;omega,fun ad e=>by have:=(OS7.out ad e).2;omega⟩)))
    have TV8:=Zh (TldV.av (TldV.trn TV7.out t8 (fun hq=>by omega)) (Av':=avt (w.heap.size+2) TA SA) (fun q hq=>⟨by omega,fun ad e=>by have:=(OT7.out ad e).2;omega,fun ad e=>by have:=(OS7.out ad e).2;omega⟩))
    have H14:=Zh (Xam H7.out t8 (by omega))
    have hw8:=t8.2
    have hz8:w.heap.size+2≤w8.heap.size:=by omega
    clear hw8
    go_wp2_with (first
     |(refine Xao rfl 40 (.tmp 14) rfl (w5.heap.size+1) _ _ rfl H14.out _ Tryz.underlying40 rfl Tryz.sizeTold ?_)
     |(at_builtin;refine wpList_append_lies _ rfl (.tmp 44) (.tmp 46) 64 rfl (w.heap.size+2) 40 j0 (.agg B_.t) 4 64 Tryz.underlying64 HJ.out HJ0.out HJ1.out HJ2.out rfl (by decide) (.slice TA k tc) k (Xdl es) rfl (RunI.since I8.out ((Below.refl _ _).alloc (Nat.le_refl _) _)).ot.2.2.2 ⟨w8.heap.size,0,none⟩ 1 1 (Tle.vals ⟨t,D5,dn5,dc5,T5,tn5,tc5⟩) rfl rfl (Xcz (by simp) rfl) (Xko _) (by decide) (by unfold maxLen;omega) (by omega) (by simp;omega) _ rfl ?_;intro g9 cap9 w9 hown9 hgrow9 hat9 hlt9;have I9:=RunI.told (e:=⟨t,D5,dn5,dc5,T5,tn5,tc5⟩) (RunI.since I8.out ((Below.refl _ _).alloc (Nat.le_refl _) _)) hgrow9 hown9 hat9 (TldV.since TV8.out ((Below.refl _ _).alloc (Nat.le_refl _) _));have hz9:=I9.size;have hi9:=I9.below.size;clear hown9 hgrow9 hat9 hlt9)
     |(at_builtin;refine wpList_append_lies _ rfl (.tmp 48) (.tmp 50) 65 rfl (w.heap.size+2) 41 i0 (.int .i64 0) 1 8 Tryz.underlying65 HI.out HI0.out HI1.out HI2.out rfl (by decide) (.slice SA k sc) k ((runR x (hs.take k)).map (Value.int .i64)) rfl (RunI.since I9 ((Below.refl _ _).alloc (Nat.le_refl _) _)).os.2.2.2 ⟨w9.heap.size,0,none⟩ 1 1 [.int .i64 E] rfl rfl (Xcz (by simp) rfl) (Xh8 _) (by decide) (by unfold maxLen;omega) (by omega) (by simp;omega) _ rfl ?_;intro g10 cap10 w10 hown10 hgrow10 hat10 hlt10;have I10:=RunI.said (v:=E) (RunI.since I9 ((Below.refl _ _).alloc (Nat.le_refl _) _)) hgrow10 hown10 hat10;clear hown10 hgrow10 hat10 hlt10))
    go_roundw
    case rel=>
     obtain⟨e1,e2,e3⟩:=Xhg (x:=x) HY.out
     refine⟨k+1,es ++ [⟨t,D5,dn5,dc5,T5,tn5,tc5⟩],some ⟨g9,0,none⟩,cap9,some ⟨g10,0,none⟩,cap10,M5,nm5,mc5,R5,nr5,rc5,L5,n5,c5,by omega,by go_num,rfl,rfl, ?_, ?_⟩
     ·show(es ++ [_]).map Tle.t=_
      rw[List.map_append,HES.out,e2,HDA.out];rfl
     ·show RunI _ _ _ _ _ _ _ _ _ _ _ _ _ _ _ _ _ _ _ _
      rw[e1,e3,nxt_0 (by rw[HDE.out];exact HE.out),HDA.out,HDE.out]
      exact I10
    case measure=>simp[intOf];omega
   ·have t0:(E==0)=false:=beq_eq_false_iff_ne.2 hE
    have HE:=Zh hE
    clear hE
    go_upto_region 15 with(first
     |(refine Xaj rfl 33 (.tmp 13) (.tmp 38) rfl (w5.heap.size) _ _ (M_.m z M5 nm5 mc5 R5 nr5 rc5 L5 n5 c5) rfl rfl (Xab (Xac w5 _ _ rfl) _) Tryz.sizeMach rfl rfl ?_;intro w6 h6 t6)
     |(refine Xaj rfl 40 (.tmp 14) (.tmp 39) rfl (w5.heap.size+1) _ _ #[.bool t.done,.slice D5 dn5 dc5,.int .i64 t.fault,.slice T5 tn5 tc5] rfl rfl (Xam (Xac (w5.alloc _) _ _ (by simp)) t6 (Nat.succ_ne_self _)) Tryz.sizeTold rfl rfl ?_;intro w7 h7 t7))
    have hw6:=t6.2
    have hw7:=t7.2
    (try simp only[World.size_alloc]at hw6)
    have hz7:wr.heap.size+1≤w5.heap.size:=hz5
    have hz7a:w7.heap.size≤w5.heap.size+1+1:=by omega
    have hz7b:w5.heap.size+1+1≤w7.heap.size:=by omega
    have C7:=Zh (Xa4 (Xbp (Q:=fun q=>w5.heap.size≤q) t6.1 (fun q _ e=>by omega)) (Xbp t7.1 (fun q _ e=>by omega)))
    have HS7:=Zh (show Below wr.heap.size wr w7 from Xa8 ((HS5.out.alloc (by omega) _).alloc (by simp;omega) _) (by simp;omega) C7.out (fun q hq e=>by omega))
    have I7:=Zh (I0.out.since HS7.out)
    have hB5:Below w5.heap.size w5 w7:=Xa8 (((Below.refl w5.heap.size w5).alloc (Nat.le_refl _) _).alloc (by simp) _) (by simp;omega) C7.out (fun q hq e=>by omega)
    have MV7:=Zh (MachV.av (x:=z) (HV5.out.since hB5) (Av':=fun q=>wr.heap.size+1≤q) (fun q hq=>by simp only[World.size_alloc]at hq;exact hq))
    have TV7:=Zh (TldV.av (t:=t) (HT5.out.since hB5) (Av':=fun q=>wr.heap.size+1≤q) (fun q hq=>by simp only[World.size_alloc]at hq;exact hq))
    have OT7:=Zh (Xat I0.out.ot.2.2.2)
    have OS7:=Zh (Xat I0.out.os.2.2.2)
    have H6:=Zh h6
    have H7:=Zh h7
    have T7:=Zh t7
    clear h6 h7 t6 t7 hw6 hw7 hB5
    obtain⟨w8,hw8⟩:∃ w8,w8=w7:=⟨_,rfl⟩
    subst hw8
    have I8:=I7
    have TV8:=Zh (TldV.av TV7.out (Av':=avt (w.heap.size+2) TA SA) (fun q hq=>⟨by omega,fun ad e=>by have:=(OT7.out ad e).2;omega,fun ad e=>by have:=(OS7.out ad e).2;omega⟩))
    have H14:=H7
    have hz8:w.heap.size+2≤w8.heap.size:=by omega
    go_wp2_with (first
     |(refine Xao rfl 40 (.tmp 14) rfl (w5.heap.size+1) _ _ rfl H14.out _ Tryz.underlying40 rfl Tryz.sizeTold ?_)
     |(at_builtin;refine wpList_append_lies _ rfl (.tmp 44) (.tmp 46) 64 rfl (w.heap.size+2) 40 j0 (.agg B_.t) 4 64 Tryz.underlying64 HJ.out HJ0.out HJ1.out HJ2.out rfl (by decide) (.slice TA k tc) k (Xdl es) rfl (RunI.since I8.out ((Below.refl _ _).alloc (Nat.le_refl _) _)).ot.2.2.2 ⟨w8.heap.size,0,none⟩ 1 1 (Tle.vals ⟨t,D5,dn5,dc5,T5,tn5,tc5⟩) rfl rfl (Xcz (by simp) rfl) (Xko _) (by decide) (by unfold maxLen;omega) (by omega) (by simp;omega) _ rfl ?_;intro g9 cap9 w9 hown9 hgrow9 hat9 hlt9;have I9:=RunI.told (e:=⟨t,D5,dn5,dc5,T5,tn5,tc5⟩) (RunI.since I8.out ((Below.refl _ _).alloc (Nat.le_refl _) _)) hgrow9 hown9 hat9 (TldV.since TV8.out ((Below.refl _ _).alloc (Nat.le_refl _) _));have hz9:=I9.size;have hi9:=I9.below.size;clear hown9 hgrow9 hat9 hlt9)
     |(at_builtin;refine wpList_append_lies _ rfl (.tmp 48) (.tmp 50) 65 rfl (w.heap.size+2) 41 i0 (.int .i64 0) 1 8 Tryz.underlying65 HI.out HI0.out HI1.out HI2.out rfl (by decide) (.slice SA k sc) k ((runR x (hs.take k)).map (Value.int .i64)) rfl (RunI.since I9 ((Below.refl _ _).alloc (Nat.le_refl _) _)).os.2.2.2 ⟨w9.heap.size,0,none⟩ 1 1 [.int .i64 E] rfl rfl (Xcz (by simp) rfl) (Xh8 _) (by decide) (by unfold maxLen;omega) (by omega) (by simp;omega) _ rfl ?_;intro g10 cap10 w10 hown10 hgrow10 hat10 hlt10;have I10:=RunI.said (v:=E) (RunI.since I9 ((Below.refl _ _).alloc (Nat.le_refl _) _)) hgrow10 hown10 hat10;clear hown10 hgrow10 hat10 hlt10))
    go_roundw
    case rel=>
     obtain⟨e1,e2,e3⟩:=Xhg (x:=x) HY.out
     refine⟨k+1,es ++ [⟨t,D5,dn5,dc5,T5,tn5,tc5⟩],some ⟨g9,0,none⟩,cap9,some ⟨g10,0,none⟩,cap10,M,nm,mc,R,nr,rc,L,n,c,by omega,by go_num,rfl,rfl, ?_, ?_⟩
     ·show(es ++ [_]).map Tle.t=_
      rw[List.map_append,HES.out,e2,HDA.out];rfl
     ·show RunI _ _ _ _ _ _ _ _ _ _ _ _ _ _ _ _ _ _ _ _
      rw[e1,e3,nxt_n (by rw[HDE.out];exact HE.out),HDE.out]
      exact I10
    case measure=>simp[intOf];omega
  ·obtain rfl:k=hn:=by omega
   have hh3:¬((k:Int)<(k:Int)):=by omega
   clear hlt
   go_wp2_with (first
    |(refine Xao rfl 33 (.tmp 2) rfl w.heap.size _ _ rfl I0.out.m _ Tryz.underlying33 rfl Tryz.sizeMach ?_)
    |(refine Xaj rfl 33 (.tmp 4) (.tmp 53) rfl (w.heap.size+1) _ _ (M_.m (runS x (hs.take k)) M nm mc R nr rc L n c) rfl rfl I0.out.z Tryz.sizeMach rfl rfl ?_;intro w9 h4e t4))
   go_wp2
   refine bodyPost_ret (v:=.tuple #[.agg (M_.m (runS x (hs.take k)) M nm mc R nr rc L n c),.slice TA k tc,.slice SA k sc,.int .i64 0]) ?_ rfl ?_
   ·exact Xi7 Tryz.results21 rfl rfl rfl rfl (Xbx h4e _ Tryz.underlying33 rfl Tryz.sizeMach)
   ·have ea:hs.take k=hs:=List.take_of_length_le (by rw[HHL.out];exact Nat.le_refl _)
    have es':=HES.out
    have I:=I0.out
    rw[ea]at es' I
    have ht:=Xat I.ot.2.2.2
    have hs':=Xat I.os.2.2.2
    have hzz:=t4.2
    refine⟨M,nm,mc,R,nr,rc,L,n,c,es,TA,k,tc,SA,k,sc,by rw[ea],(I.mv.trn t4 (fun hq=>by have:=hq.1;omega)).av (fun q hq=>by have:=hq.1;omega),⟨I.ot.1,I.ot.2.1,I.ot.2.2.1,Xcv (Xdc I.ot.2.2.2 t4.1 (fun ad e hp=>by have:=(ht ad e).1;omega)) (by omega)⟩,es',⟨I.os.1,I.os.2.1,I.os.2.2.1,Xcv (Xdc I.os.2.2.2 t4.1 (fun ad e hp=>by have:=(hs' ad e).1;omega)) (by omega)⟩,fun e he=>((I.el e he).trn t4 (fun hq=>by have:=hq.1;omega)).av (fun q hq=>by have:=hq.1;omega),Xaw I.below (by omega) t4 (by omega)⟩
end
end
section
set_option maxRecDepth 100000
set_option maxHeartbeats 4000000
open Go.RowKit
set_option linter.unusedSimpArgs false
set_option linter.unusedVariables false
def tabM:List Int:=Xll (List.replicate 512 0) [9,33,10,3,16,49,24,159,25,139]
theorem Xxe:Xll (List.replicate 512 0) [9,33,10,3,16,49,24,159,25,139]=tabM:=rfl
def tabB:Brg:=⟨2,1,[],⟨40,0,0⟩,false,0,⟨41,0,0⟩,false⟩
theorem Xqo (w:World):Calls Tryz.prog 20 #[] w fun e w'=>∃ A c,e=.returned (.tuple #[.agg #[.slice A 512 c],.agg (B_.b tabB none 0 0)])∧OwnI w.heap.size w' A 512 c tabM∧Below w.heap.size w w':=by
 go_enter Tryz.func20,Tryz.ntmps20
 go_wp2_with fail
 refine(Xvj _ _ _ [9,33,10,3,16,49,24,159,25,139] _ (Ints.of_cells rfl (by decide) (by simp) ?_) (by decide) (by simp[Xl9])).mono ?_
 ·intro k
  simp[go_sem]
 rintro e w1 ⟨A1,d1,rfl,ho1,hb1⟩
 rw[Xxe]at ho1
 have HO:Hid (OwnI (w.heap.size+1+1) w1 A1 512 d1 tabM):=Zh (ho1.low (by simp))
 clear ho1
 have hz1:=hb1.size
 (try simp only[Zs]at hz1)
 obtain⟨k1_0,l1_0,q1_0⟩:=aft hb1 (w.heap.size) (by(try simp)<;>omega)
 obtain⟨k1_1,l1_1,q1_1⟩:=aft hb1 (w.heap.size+1) (by(try simp)<;>omega)
 simp(maxDischargeDepth:=6) [go_sem, *]at k1_0 q1_0 k1_1 q1_1
 have HB1:=Zh hb1
 clear hb1
 go_wp2
 refine bodyPost_ret (v:=.tuple #[.agg #[.slice A1 512 d1],.agg (B_.b tabB none 0 0)]) ?_ rfl ⟨A1,d1,rfl, ?_, ?_⟩
 ·simp(maxDischargeDepth:=8) [results,Tryz.results20,go_sem,tabB, *]
 ·(refine OwnI.low (B:=w.heap.size+1+1) ?_ (by omega));(repeat(first|(with_reducible refine OwnI.drew ?_)|(with_reducible refine OwnI.drewN ?_ _)|(with_reducible refine OwnI.alloc ?_ _)|(with_reducible exact HO.out)|(with_reducible refine OwnI.set ?_ (by first|(simp;done)|(simp;omega)) _)))
 ·(refine bl ?_;repeat' first|with_reducible(first|assumption|constructor)|((try simp)<;>omega))
end
section
set_option maxRecDepth 100000
set_option maxHeartbeats 1000000
open Go.RowKit
set_option linter.unusedSimpArgs false
set_option linter.unusedVariables false
section
def drvM:List Int:=(((tabM.set 100 4096).set 101 4632).set 102 20544).set 320 1
def drvB:Brg:=⟨2,1,[],⟨40,0,1⟩,false,0,⟨41,0,0⟩,false⟩
def drvX:Mch:=⟨drvM,⟨100,List.replicate 8 0,false⟩,drvB⟩
def askH:Hap:=⟨3,0,⟨1,1,1,false,[]⟩⟩
def Xxi:Hap:=⟨1,0,⟨0,0,0,false,[]⟩⟩
def ordH:Hap:=⟨2,0,⟨0,0,0,false,[]⟩⟩
def drvL:List Hap:=[askH,Xxi,Xxi,Xxi,askH,ordH,askH,ordH]
theorem drv_ck:ckM drvX=0:=by kernel_rfl
theorem drv_R:runR drvX drvL=[0,0,0,0,0,0,0,6]:=by kernel_rfl
theorem drv_T:(runT drvX drvL)[0]?.map Tld.done=some true∧(runT drvX drvL)[4]?.map Tld.done=some true∧(runT drvX drvL)[6]?.map Tld.fault=some 3:=⟨by kernel_rfl,by kernel_rfl,by kernel_rfl⟩
theorem drv_S:(runS drvX drvL).m[328]?=some 11∧(runS drvX drvL).b.cache=[]:=⟨by kernel_rfl,by kernel_rfl⟩
end
section
theorem Xgj {P:Program} {ops:Array Oper} {rest:List Oper} {o:Oper} {a:Act} {w:World} {Q:Exit→Act→World→Prop} (hgd:o.guard=none) (ty:TypeId) (x y:Operand) (ho:o.op=.store ty x y) (B g k n c:Nat) (xs:List Int) (v:Int) (hx:a.eval x=.pointer (some ⟨g,k,none⟩)) (hy:a.eval y=.int .i64 v) (hg:OwnI B w (some ⟨g,0,none⟩) n c xs) (hk:k<n)
  (hi:(P.info? ty).map (·.size)=some 1) (h:∀ w',OwnI B w' (some ⟨g,0,none⟩) n c (xs.set k v)→Trn g w w'→wpList P ops Q rest (a.put o.dst undef) w'):wpList P ops Q (o :: rest) a w:=by
 refine wpList_plain hgd fun _ hK=>?_
 obtain⟨g',e,h1,h2,h3,h4,_⟩:=Xb3 hg (by omega)
 injection e with e;injection e with e;subst e
 obtain⟨xk,hxk⟩:=Xa2 xs (k:=k) (by rw[hg.1];exact hk)
 have hr:(storeVar ty ⟨g,k,none⟩ (.int .i64 v)).run P w=.ok () (w.setCell ⟨g,k,none⟩ (.int .i64 v)):=by
  have:=run_storeCells_cells (P:=P) g k [.int .i64 v] 0 w (fun j hj=>by
    have e:j=0:=by simpa using hj
    subst e;simp[h3 k xk hxk])
   (fun j hj=>h4 _) (fun u hu=>by simp at hu;subst hu;rfl)
  cases hq:P.info? ty with
  |none=>simp[hq]at hi
  |some i=>
   have hs:i.size=1:=by simpa[hq]using hi
   simp only[Nat.add_zero,World.setCells]at this
   simp[storeVar,sizeOf,typeInfo,hq,Value.cells,hs,this]
 unfold Oper.wp execOp
 simp only[ho,hx,hy,Instr.storeAt,Instr.sureAddr,Sem.run_bind,Sem.run_pure,Result.andThen_ok,hr]
 exact hK _ _ (h _ (Xh2 hg hk v) (Xhx h2 _ _))
theorem Xjy {P:Program} {ops:Array Oper} {rest:List Oper} {o:Oper} {a:Act} {w w':World} {Q:Exit→Act→World→Prop} (hgd:o.guard=none) (s0 s1 s2 s3 s4 s5 s6 s7:Operand) (t:TypeId) (ho:o.op=.buildSlice t 8 #[(0,s0),(1,s1),(2,s2),(3,s3),(4,s4),(5,s5),(6,s6),(7,s7)]) (v0 v1 v2 v3 v4 v5 v6 v7:Value) (h0:a.eval s0=v0) (h1:a.eval s1=v1) (h2:a.eval s2=v2) (h3:a.eval s3=v3) (h4:a.eval s4=v4) (h5:a.eval s5=v5) (h6:a.eval s6=v6) (h7:a.eval s7=v7) (r:Value)
  (hrun:(Instr.buildSlice t 8 #[(0,v0),(1,v1),(2,v2),(3,v3),(4,v4),(5,v5),(6,v6),(7,v7)]).run P w=.ok r w') (h:wpList P ops Q rest (a.put o.dst r) w'):wpList P ops Q (o :: rest) a w:=by
 refine wpList_plain hgd fun K hK=>?_
 unfold Oper.wp execOp
 simp only[ho,Sem.run_bind,Sem.run_pure,Result.andThen_ok,List.map_toArray,List.map_cons,List.map_nil,h0,h1,h2,h3,h4,h5,h6,h7,hrun]
 exact hK _ _ h
theorem Xhb {P:Program} {ops:Array Oper} {rest:List Oper} {o:Oper} {a:Act} {w w':World} {Q:Exit→Act→World→Prop} (hgd:o.guard=none) (s:Operand) (t:TypeId) (ho:o.op=.build t #[(0,s)]) (u:Value) (hs:a.eval s=u) (r:Value)
  (hrun:(Instr.build t #[(0,u)]).run P w=.ok r w') (h:wpList P ops Q rest (a.put o.dst r) w'):wpList P ops Q (o :: rest) a w:=by
 refine wpList_plain hgd fun K hK=>?_
 unfold Oper.wp execOp
 simp only[ho,Sem.run_bind,Sem.run_pure,Result.andThen_ok,List.map_toArray,List.map_cons,List.map_nil,hs,hrun]
 exact hK _ _ h
theorem Tryz.bd1 (w:World):(Instr.build 37 #[(0,.int .i64 2)]).run Tryz.prog w=.ok (.agg #[.int .i64 2,.int .i64 0,.int .i64 0,.int .i64 0,.int .i64 0,.bool false,.slice none 0 0]) w:=by kernel_rfl
theorem Tryz.bs8 (w:World):(Instr.buildSlice 68 8 #[(0,.agg #[.int .i64 3,.int .i64 0,.int .i64 1,.int .i64 1,.int .i64 1,.bool false,.slice none 0 0]),(1,.agg #[.int .i64 1,.int .i64 0,.int .i64 0,.int .i64 0,.int .i64 0,.bool false,.slice none 0 0]),(2,.agg #[.int .i64 1,.int .i64 0,.int .i64 0,.int .i64 0,.int .i64 0,.bool false,.slice none 0 0]),(3,.agg #[.int .i64 1,.int .i64 0,.int .i64 0,.int .i64 0,.int .i64 0,.bool false,.slice none 0 0]),(4,.agg #[.int .i64 3,.int .i64 0,.int .i64 1,.int .i64 1,.int .i64 1,.bool false,.slice none 0 0]),(5,.agg #[.int .i64 2,.int .i64 0,.int .i64 0,.int .i64 0,.int .i64 0,.bool false,.slice none 0 0]),(6,.agg #[.int .i64 3,.int .i64 0,.int .i64 1,.int .i64 1,.int .i64 1,.bool false,.slice none 0 0]),(7,.agg #[.int .i64 2,.int .i64 0,.int .i64 0,.int .i64 0,.int .i64 0,.bool false,.slice none 0 0])]).run Tryz.prog w=.ok (.slice (some ⟨w.heap.size,0,none⟩) 8 8) (w.alloc (.cells #[.int .i64 3,.int .i64 0,.int .i64 1,.int .i64 1,.int .i64 1,.bool false,.slice none 0 0,.int .i64 1,.int .i64 0,.int .i64 0,.int .i64 0,.int .i64 0,.bool false,.slice none 0 0,.int .i64 1,.int .i64 0,.int .i64 0,.int .i64 0,.int .i64 0,.bool false,.slice none 0 0,.int .i64 1,.int .i64 0,.int .i64 0,.int .i64 0,.int .i64 0,.bool false,.slice none 0 0,.int .i64 3,.int .i64 0,.int .i64 1,.int .i64 1,.int .i64 1,.bool false,.slice none 0 0,.int .i64 2,.int .i64 0,.int .i64 0,.int .i64 0,.int .i64 0,.bool false,.slice none 0 0,.int .i64 3,.int .i64 0,.int .i64 1,.int .i64 1,.int .i64 1,.bool false,.slice none 0 0,.int .i64 2,.int .i64 0,.int .i64 0,.int .i64 0,.int .i64 0,.bool false,.slice none 0 0] 37)):=by kernel_rfl
theorem Xvs {w:World} {B g:Nat} (hg:g<B) (h:Whl w g 37 #[.int .i64 3,.int .i64 0,.int .i64 1,.int .i64 1,.int .i64 1,.bool false,.slice none 0 0,.int .i64 1,.int .i64 0,.int .i64 0,.int .i64 0,.int .i64 0,.bool false,.slice none 0 0,.int .i64 1,.int .i64 0,.int .i64 0,.int .i64 0,.int .i64 0,.bool false,.slice none 0 0,.int .i64 1,.int .i64 0,.int .i64 0,.int .i64 0,.int .i64 0,.bool false,.slice none 0 0,.int .i64 3,.int .i64 0,.int .i64 1,.int .i64 1,.int .i64 1,.bool false,.slice none 0 0,.int .i64 2,.int .i64 0,.int .i64 0,.int .i64 0,.int .i64 0,.bool false,.slice none 0 0,.int .i64 3,.int .i64 0,.int .i64 1,.int .i64 1,.int .i64 1,.bool false,.slice none 0 0,.int .i64 2,.int .i64 0,.int .i64 0,.int .i64 0,.int .i64 0,.bool false,.slice none 0 0]):Haps w B (some ⟨g,0,none⟩) 8 8 drvL:=
 ⟨rfl,Nat.le_refl _,by unfold maxLen;omega,fun _=>⟨g,0,rfl,hg,fun k x hx=>by
  have hc:=Xad h
  have hn:Ints w B none 0 []:=⟨rfl,by unfold maxLen;omega,Row.nil_⟩
  match k,hx with
  |0,hx=>
   simp[drvL]at hx;subst hx
   exact⟨none,0,0,⟨hc 0,hc 1,hc 2,hc 3,hc 4,hc 5,hc 6⟩,hn⟩
  |1,hx=>
   simp[drvL]at hx;subst hx
   exact⟨none,0,0,⟨hc 7,hc 8,hc 9,hc 10,hc 11,hc 12,hc 13⟩,hn⟩
  |2,hx=>
   simp[drvL]at hx;subst hx
   exact⟨none,0,0,⟨hc 14,hc 15,hc 16,hc 17,hc 18,hc 19,hc 20⟩,hn⟩
  |3,hx=>
   simp[drvL]at hx;subst hx
   exact⟨none,0,0,⟨hc 21,hc 22,hc 23,hc 24,hc 25,hc 26,hc 27⟩,hn⟩
  |4,hx=>
   simp[drvL]at hx;subst hx
   exact⟨none,0,0,⟨hc 28,hc 29,hc 30,hc 31,hc 32,hc 33,hc 34⟩,hn⟩
  |5,hx=>
   simp[drvL]at hx;subst hx
   exact⟨none,0,0,⟨hc 35,hc 36,hc 37,hc 38,hc 39,hc 40,hc 41⟩,hn⟩
  |6,hx=>
   simp[drvL]at hx;subst hx
   exact⟨none,0,0,⟨hc 42,hc 43,hc 44,hc 45,hc 46,hc 47,hc 48⟩,hn⟩
  |7,hx=>
   simp[drvL]at hx;subst hx
   exact⟨none,0,0,⟨hc 49,hc 50,hc 51,hc 52,hc 53,hc 54,hc 55⟩,hn⟩
  |k+8,hx=>simp[drvL]at hx⟩⟩
theorem Tryz.mk8:∀ w:World,(Instr.makeSlice 22 (.int .i64 8) (.int .i64 8)).run Tryz.prog w=.ok (.slice (some ⟨w.heap.size,0,none⟩) 8 8) (w.alloc (.cells #[.int .i64 0,.int .i64 0,.int .i64 0,.int .i64 0,.int .i64 0,.int .i64 0,.int .i64 0,.int .i64 0] 3)):=fun _=>by kernel_rfl
theorem zr8 {w:World} {g:Nat} {B:Nat} (hg:g<B) (h:∀ o,w.cell? ⟨g,o,none⟩=([.int .i64 0,.int .i64 0,.int .i64 0,.int .i64 0,.int .i64 0,.int .i64 0,.int .i64 0,.int .i64 0]:List Value)[o]?):Ints w B (some ⟨g,0,none⟩) 8 (List.replicate 8 0):=
 Ints.of_cells rfl (by decide) hg (fun k=>by rw[h k];rfl)
theorem sx8 {w:World} {g:Nat} {B:Nat} (hg:g<B) (h:∀ o,w.cell? ⟨g,o,none⟩=([.int .i64 0,.int .i64 0,.int .i64 0,.int .i64 0,.int .i64 0,.int .i64 0,.int .i64 0,.int .i64 6]:List Value)[o]?):Ints w B (some ⟨g,0,none⟩) 8 [0,0,0,0,0,0,0,6]:=
 Ints.of_cells rfl (by decide) hg (fun k=>by rw[h k];rfl)
end
section
theorem Xly (A B:Option Addr) (n m c d:Nat) (xs ys:List Int) (w:World) (hx:Ints w w.heap.size A n xs) (hy:Ints w w.heap.size B m ys) :
  Calls Tryz.prog 22 #[.slice A n c,.slice B m d] w fun e w'=>e=.returned (.bool (eqI xs ys))∧Below w.heap.size w w':=by
 have hn:=hx.bd
 have HX:=Zh hx;clear hx
 have HY:=Zh hy;clear hy
 by_cases hnm:n=m
 ·subst hnm
  go_enter Tryz.func22,Tryz.ntmps22
  go_wp2
  go_loopw [13,5] (fun i _ wr=>∃ k:Nat,k≤n∧i=.int .i64 k∧Hid (xs.take k=ys.take k)∧∃ q,wr=w.drewN q) (fun i _ _=>n - (intOf i).toNat)
  case atStart=>exact⟨0,by omega,rfl,by simp[Hid],0,rfl⟩
  case round=>
   obtain⟨k,hk,rfl,hall,q,rfl⟩:=hrel
   by_cases hlt:k<n
   ·obtain⟨x,hxk⟩:=Xa2 xs (k:=k) (by rw[HX.out.len];exact hlt)
    obtain⟨y,hyk⟩:=Xa2 ys (k:=k) (by rw[HY.out.len];exact hlt)
    obtain⟨b,off,rfl,hb,hc⟩:=HX.out.at_ (by omega)
    obtain⟨b',off',rfl,hb',hc'⟩:=HY.out.at_ (by omega)
    have h1:=hc k x hxk
    have h2:=hc' k y hyk
    clear hc hc'
    have HXK:=Zh hxk;clear hxk
    have HYK:=Zh hyk;clear hyk
    go_wp2
    go_quiet (fail)
    go_wp2
    ·go_ret
     exact⟨Xbr (Xwx HXK.out HYK.out ‹_›),Xbs (Xbs (Below.refl _ _) _) _⟩
    ·go_roundw
     case rel=>exact⟨k+1,by omega,by go_num,Xe6 HXK.out HYK.out hall.out (by simpa using ‹(x != y)=false›),_,rfl⟩
     case measure=>simp[intOf];omega
   ·go_wp2
    go_ret
    obtain rfl:k=n:=by omega
    exact⟨Xbr (Xtv HX.out.len HY.out.len hall.out),Xbs (Below.refl _ _) _⟩
 ·have h3:((n:Int) != (m:Int))=true:=by simp;omega
  go_enter Tryz.func22,Tryz.ntmps22
  go_wp2
  go_ret
  exact⟨Xbr (Xtu (by rw[HX.out.len,HY.out.len];exact hnm)),Below.refl _ _⟩
end
section
theorem Xym (M R:Option Addr) (d1 c g:Nat) (w:World) (hm:Ints w w.heap.size M 512 drvM) (hr:Ints w w.heap.size R 8 (List.replicate 8 0)) (hh:Haps w w.heap.size (some ⟨g,0,none⟩) 8 8 drvL) :
  Calls Tryz.prog 21 #[.agg #[.slice M 512 d1,.int .i64 100,.slice R 8 c,.bool false,.int .i64 tabB.mode,.int .i64 tabB.base,.slice none 0 0,.int .i64 tabB.orders.page,.int .i64 tabB.orders.head,.int .i64 1,.bool tabB.stopped,.int .i64 tabB.fences,.int .i64 tabB.faults.page,.int .i64 tabB.faults.head,.int .i64 tabB.faults.tail,.bool tabB.lost],.slice (some ⟨g,0,none⟩) 8 8] w (Xq6 w (runS drvX drvL) (runT drvX drvL) (runR drvX drvL) 0):=by
 have h0:=drv_ck
 have H:∃ x,x=drvX:=⟨_,rfl⟩
 obtain⟨x,hx⟩:=H
 have e1:x.m=drvM:=by rw[hx];rfl
 have e2:x.h.regs=List.replicate 8 0:=by rw[hx];rfl
 have e3:x.b.cache=[]:=by rw[hx];rfl
 have e4:x.h.at_=100:=by rw[hx];rfl
 have e5:x.h.done=false:=by rw[hx];rfl
 have e6:x.b.mode=tabB.mode:=by rw[hx];rfl
 have e7:x.b.base=tabB.base:=by rw[hx];rfl
 have e8:x.b.orders.page=tabB.orders.page:=by rw[hx];rfl
 have e9:x.b.orders.head=tabB.orders.head:=by rw[hx];rfl
 have e10:x.b.orders.tail=1:=by rw[hx];rfl
 have e11:x.b.stopped=tabB.stopped:=by rw[hx];rfl
 have e12:x.b.fences=tabB.fences:=by rw[hx];rfl
 have e13:x.b.faults.page=tabB.faults.page:=by rw[hx];rfl
 have e14:x.b.faults.head=tabB.faults.head:=by rw[hx];rfl
 have e15:x.b.faults.tail=tabB.faults.tail:=by rw[hx];rfl
 have e16:x.b.lost=tabB.lost:=by rw[hx];rfl
 rw[←hx]at h0 ⊢
 have:=Xsu x drvL M R none (some ⟨g,0,none⟩) 8 8 w d1 c 0 0 (by rw[e1];exact hm) (by rw[e2];exact hr) (by rw[e3];exact Xcl _ _) hh h0 (by decide)
 rw[e4,e5,e6,e7,e8,e9,e10,e11,e12,e13,e14,e15,e16]at this
 exact this
def DrvC (w:World) (y:Mch) (e:Ending) (w':World):Prop:=
 ∃ mb mo nm mc R nr rc L c tb tn tc sb sc MBX,MBX=some ⟨mb,mo,none⟩∧e=.returned (.tuple #[.agg (M_.m y MBX nm mc R nr rc L 0 c),.slice (some ⟨tb,0,none⟩) tn tc,.slice (some ⟨sb,0,none⟩) 8 sc,.int .i64 0]) ∧
  328<nm∧w'.cell? ⟨mb,mo+328,none⟩=some (.int .i64 11)∧6<tn∧w'.cell? ⟨tb,0,none⟩=some (.bool true)∧w'.cell? ⟨tb,16,none⟩=some (.bool true)∧w'.cell? ⟨tb,26,none⟩=some (.int .i64 3)∧Ints w' w'.heap.size (some ⟨sb,0,none⟩) 8 [0,0,0,0,0,0,0,6]∧Below w.heap.size w w'
theorem Xx8 {es:List Tle} {k:Nat} {α:Type} {f:Tld→α} {v:α} (h:(es.map Tle.t)[k]?.map f=some v):∃ e,es[k]?=some e∧f e.t=v:=by
 rw[List.getElem?_map]at h
 cases he:es[k]? with
 |none=>simp[he]at h
 |some e=>simp[he]at h;exact⟨e,rfl,h⟩
theorem Xyn:∃ y:Mch,∀(M R:Option Addr) (d1 c g:Nat) (w:World) (_:Ints w w.heap.size M 512 drvM) (_:Ints w w.heap.size R 8 (List.replicate 8 0)) (_:Haps w w.heap.size (some ⟨g,0,none⟩) 8 8 drvL),
  Calls Tryz.prog 21 #[.agg #[.slice M 512 d1,.int .i64 100,.slice R 8 c,.bool false,.int .i64 tabB.mode,.int .i64 tabB.base,.slice none 0 0,.int .i64 tabB.orders.page,.int .i64 tabB.orders.head,.int .i64 1,.bool tabB.stopped,.int .i64 tabB.fences,.int .i64 tabB.faults.page,.int .i64 tabB.faults.head,.int .i64 tabB.faults.tail,.bool tabB.lost],.slice (some ⟨g,0,none⟩) 8 8] w (DrvC w y):=by
 have hS:=drv_S
 have hT:=drv_T
 have hR:=drv_R
 have H:=Xym
 rw[hR]at H
 generalize runS drvX drvL=y at hS H
 generalize runT drvX drvL=ts at hT H
 refine⟨y,fun M R d1 c g w hm hr hh=>(H M R d1 c g w hm hr hh).mono ?_⟩
 rintro e w' ⟨M5,nm,mc,R5,nr,rc,L5,n5,c5,es,TA,tn,tc,SA,sn,sc,rfl,mv,ot,rfl,os,_,hb⟩
 obtain rfl:n5=0:=by rw[←mv.hl.len,hS.2];rfl
 have h1:328<nm:=by have:=(List.getElem?_eq_some_iff.1 hS.1).1;rw[mv.hm.len]at this;exact this
 obtain⟨mb,mo,rfl,_,hc⟩:=mv.hm.at_ (by omega)
 obtain⟨e0,a0,b0⟩:=Xx8 hT.1
 obtain⟨e4,a4,b4⟩:=Xx8 hT.2.1
 obtain⟨e6,a6,b6⟩:=Xx8 hT.2.2
 have h6:6<tn:=by have:=(List.getElem?_eq_some_iff.1 a6).1;rw[ot.1]at this;exact this
 obtain rfl:sn=8:=os.1.symm
 rcases Xdn ot.2.2.2 with⟨_,h0⟩|⟨tb,cap,hv,_⟩
 ·omega
 rcases Xdn os.2.2.2 with⟨_,h0⟩|⟨sb,cap',hv',_,_,_,hlt⟩
 ·omega
 injection hv with hv _ _
 injection hv' with hv' _ _
 subst hv hv'
 refine⟨mb,mo,nm,mc,R5,nr,rc,L5,c5,tb,tn,tc,sb,sc,_,rfl,rfl,h1,hc _ _ hS.1,h6, ?_, ?_, ?_,⟨rfl,by unfold maxLen;omega,fun _=>⟨sb,0,rfl,hlt,fun k v hk=>?_⟩⟩,hb⟩
 ·refine(ot.2.2.2.cellAt 0 (by omega)).trans ((Xfm es 0 e0 0 a0 (by omega)).trans ?_)
  simp[Tle.vals,b0]
 ·refine(ot.2.2.2.cellAt 16 (by omega)).trans ((Xfm es 4 e4 0 a4 (by omega)).trans ?_)
  simp[Tle.vals,b4]
 ·refine(ot.2.2.2.cellAt 26 (by omega)).trans ((Xfm es 6 e6 2 a6 (by omega)).trans ?_)
  simp[Tle.vals,b6]
 ·have hk8:k<8:=(List.getElem?_eq_some_iff.1 hk).1
  have:=os.2.2.2.cellAt k (by omega)
  rw[Nat.zero_add,this];exact hk
end
end
section
set_option maxRecDepth 100000
set_option maxHeartbeats 8000000
open Go.RowKit
set_option linter.unusedSimpArgs false
set_option linter.unusedVariables false
attribute [local go_sem ↓] Go.wp_at_zero Go.wp_at_succ
def MkD (w8:World) (gM d1:Nat) (s4:Value) (wd:World):Prop:=
 ∃ g R c,s4=.pointer (some ⟨g,0,none⟩)∧Whl wd g 33 #[.slice (some ⟨gM,0,none⟩) 512 d1,.int .i64 100,.slice R 8 c,.bool false,.int .i64 tabB.mode,.int .i64 tabB.base,.slice none 0 0,.int .i64 tabB.orders.page,.int .i64 tabB.orders.head,.int .i64 1,.bool tabB.stopped,.int .i64 tabB.fences,.int .i64 tabB.faults.page,.int .i64 tabB.faults.head,.int .i64 tabB.faults.tail,.bool tabB.lost]∧Ints wd wd.heap.size R 8 (List.replicate 8 0)∧(w8.heap.size≤g∧g<wd.heap.size)∧Xan w8 wd
theorem Xfi (w:World):Calls Tryz.prog 6 #[] w fun e w'=>e=.returned (.bool true)∧Below w.heap.size w w':=by
 have hmk:=Tryz.mk8
 go_enter Tryz.func6,Tryz.ntmps6
 go_wp2_with fail
 refine(Xqo _).mono ?_
 rintro e w1 ⟨A1,d1,rfl,ho1,hb1⟩
 obtain⟨gM,rfl,hg1,hg2,q1,q2,q3⟩:=Xb3 ho1 (by decide)
 clear q1 q2 q3
 obtain⟨tm,htm⟩:∃ tm,tm=tabM:=⟨_,rfl⟩
 have HTM:=Zh htm
 rw[←htm]at ho1
 have HO:=Zh ho1
 have HB1:=Zh hb1
 have hz1:=hb1.size
 clear ho1 hb1 htm
 go_upto_region 3 with(fail)
 generalize hw3:((w1.alloc (.cells #[.slice (some ⟨gM,0,none⟩) 512 d1] 24)).alloc (.cells (B_.b tabB none 0 0) 31)).alloc (.cells #[.int .i64 3,.int .i64 0,.int .i64 1,.int .i64 1,.int .i64 1,.bool false,.slice none 0 0] 37)=w3
 have K1:=Zh (show Whl w3 w1.heap.size 24 #[.slice (some ⟨gM,0,none⟩) 512 d1] by rw[←hw3];exact Xab (Xab (Xac _ _ _ rfl) _) _)
 have K2:=Zh (show Whl w3 (w1.heap.size+1) 31 (B_.b tabB none 0 0) by rw[←hw3];exact Xab (Xac _ _ _ (by simp)) _)
 have K3:=Zh (show Whl w3 (w1.heap.size+1+1) 37 #[.int .i64 3,.int .i64 0,.int .i64 1,.int .i64 1,.int .i64 1,.bool false,.slice none 0 0] by rw[←hw3];exact Xac _ _ _ (by simp))
 have O3:=Zh (show OwnI w.heap.size w3 (some ⟨gM,0,none⟩) 512 d1 tm by rw[←hw3];exact((HO.out.alloc _).alloc _).alloc _)
 have HW3:=Zh (show Below w.heap.size w w3 by rw[←hw3];(refine bl ?_;repeat' first|with_reducible(first|assumption|constructor)|((try simp)<;>omega)))
 have hz3a:w3.heap.size≤w1.heap.size+3:=by rw[←hw3];simp
 have hz3b:w1.heap.size+3≤w3.heap.size:=by rw[←hw3];simp
 have k3:w3.cell? ⟨w1.heap.size,0,none⟩=some (.slice (some ⟨gM,0,none⟩) 512 d1):=Xad K1.out 0
 have n1:w1.heap.size≠gM:=by omega
 clear hw3 HO
 go_upto_region 4 with(refine Xgj rfl 3 (.tmp 18) (.const (.int .i64 4096)) rfl w.heap.size gM 100 512 d1 tm 4096 rfl rfl O3.out (by decide) Tryz.sizeInt ?_;intro w4 o4 t4;have k4:w4.cell? ⟨w1.heap.size,0,none⟩=some (.slice (some ⟨gM,0,none⟩) 512 d1):=Xad (Xam K1.out t4 n1) 0)
 go_upto_region 5 with(refine Xgj rfl 3 (.tmp 21) (.const (.int .i64 4632)) rfl w.heap.size gM 101 512 d1 _ 4632 rfl rfl o4 (by decide) Tryz.sizeInt ?_;intro w5 o5 t5;have k5:w5.cell? ⟨w1.heap.size,0,none⟩=some (.slice (some ⟨gM,0,none⟩) 512 d1):=Xad (Xam (Xam K1.out t4 n1) t5 n1) 0)
 go_upto_region 6 with(refine Xgj rfl 3 (.tmp 24) (.const (.int .i64 20544)) rfl w.heap.size gM 102 512 d1 _ 20544 rfl rfl o5 (by decide) Tryz.sizeInt ?_;intro w6 o6 t6;have k6:w6.cell? ⟨w1.heap.size,0,none⟩=some (.slice (some ⟨gM,0,none⟩) 512 d1):=Xad (Xam (Xam (Xam K1.out t4 n1) t5 n1) t6 n1) 0)
 go_upto_region 7 with(refine Xgj rfl 3 (.tmp 27) (.const (.int .i64 1)) rfl w.heap.size gM 320 512 d1 _ 1 rfl rfl o6 (by decide) Tryz.sizeInt ?_;intro w7 o7 t7;have c7:=Xa4 (Xa4 (Xa4 t4.1 t5.1) t6.1) t7.1;have l2:=Xa6 K2.out c7 (by omega))
 go_upto_region 8 with(refine Xau rfl 3 (.tmp 29) (.const (.int .i64 1)) rfl (w1.heap.size+1) 5 _ _ #[.int .i64 tabB.mode,.int .i64 tabB.base,.slice none 0 0,.int .i64 tabB.orders.page,.int .i64 tabB.orders.head,.int .i64 1,.bool tabB.stopped,.int .i64 tabB.fences,.int .i64 tabB.faults.page,.int .i64 tabB.faults.head,.int .i64 tabB.faults.tail,.bool tabB.lost] (.int .i64 1) rfl rfl l2 Tryz.sizeInt (of_decide_eq_true rfl) rfl rfl ?_;intro w8 h8 t8)
 have e8:w8.heap.size=w3.heap.size:=by rw[t8.2,t7.2,t6.2,t5.2,t4.2]
 have hz8a:w8.heap.size≤w3.heap.size:=Nat.le_of_eq e8
 have hz8b:w3.heap.size≤w8.heap.size:=Nat.le_of_eq e8.symm
 clear e8
 obtain⟨tx,htx⟩:∃ tx,tx=(((tm.set 100 4096).set 101 4632).set 102 20544).set 320 1:=⟨_,rfl⟩
 have HXM:=Zh (show drvX.m=tx by rw[htx,HTM.out];rfl)
 rw[←htx]at o7
 have O8:=Zh (Xbu o7 t8.1 (fun ad e hp=>by injection e with e;subst e;simp only[]at hp;omega))
 have J1:=Zh (Xam (Xa6 K1.out c7 n1) t8 (by omega))
 have J3:=Zh (Xam (Xa6 K3.out c7 (by omega)) t8 (by omega))
 have c8:Chg (fun q=>w.heap.size≤q) w3 w8:=Xa4 (Xbp c7 (fun q _ e=>by omega)) (Xbp t8.1 (fun q _ e=>by omega))
 have HW8:=Zh (Xa8 HW3.out (by omega) c8 (fun q hq e=>by omega))
 have k8a:=fun o=>Xad J1.out o
 have k8b:=fun o=>Xad h8 o
 have l8a:w1.heap.size<w8.heap.size:=by omega
 have l8b:w1.heap.size+1<w8.heap.size:=by omega
 have l8c:w1.heap.size+1+1<w8.heap.size:=by omega
 clear htx o7 o6 o5 o4 t4 t5 t6 t7 t8 k3 k4 k5 k6 l2 h8 c7 c8 HW3 K1 K2 K3 O3 HTM
 go_frame
 go_cut [4] (fun s4 wd=>MkD w8 gM d1 s4 wd)
 case first=>
  clear J1 J3 O8 HW8 HXM
  go_region
  all_goals
   go_wp2
   go_meet
   first
    |(refine⟨_,some ⟨w8.heap.size,0,none⟩,8,rfl, ?_,zr8 ?_ ?_, ?_, ?_⟩
      ·(repeat(first|with_reducible exact Xac _ _ _ (by simp)|with_reducible refine Xab ?_ _|with_reducible refine Xem ?_))
       done
      ·first|(simp;done)|(simp;omega)|omega
      ·intro o;simp[go_sem]
      ·refine⟨?_, ?_⟩<;>first|(simp;done)|(simp;omega)|omega
      ·(repeat(first|(with_reducible exact Xal _)|(with_reducible refine Xar ?_)|(with_reducible refine Xae ?_ _)|((with_reducible refine Xa3 ?_ ?_ _);rotate_left;exact(by(try simp)<;>omega)))))
    |(refine⟨_,some ⟨w8.heap.size+1,0,none⟩,8,rfl, ?_,zr8 ?_ ?_, ?_, ?_⟩
      ·(repeat(first|with_reducible exact Xac _ _ _ (by simp)|with_reducible refine Xab ?_ _|with_reducible refine Xem ?_))
       done
      ·first|(simp;done)|(simp;omega)|omega
      ·intro o;simp[go_sem]
      ·refine⟨?_, ?_⟩<;>first|(simp;done)|(simp;omega)|omega
      ·(repeat(first|(with_reducible exact Xal _)|(with_reducible refine Xar ?_)|(with_reducible refine Xae ?_ _)|((with_reducible refine Xa3 ?_ ?_ _);rotate_left;exact(by(try simp)<;>omega)))))
 case rest=>
  obtain⟨g,R,c,rfl,hk,hR,⟨hg3,hg4⟩,hS⟩:=hcut
  clear hmk
  have JW:=Zh hk
  have HR:=Zh hR
  have J3c:=Zh (Xaa J3.out hS)
  have HI:=Zh (Xd6 (O8.out.ints (by decide)) hS)
  have HWc:=Zh (show Below w.heap.size w wc from HW8.out.trans (Below.mono hS (by omega)))
  have hzc:w8.heap.size≤wc.heap.size:=Below.size hS
  clear hk hR hS k8a k8b J1 J3 O8 HW8
  go_upto_region 10 with(fail)
  generalize hw9:wc.alloc (.cells #[.int .i64 1,.int .i64 0,.int .i64 0,.int .i64 0,.int .i64 0,.bool false,.slice none 0 0] 37)=w9
  have L4:=Zh (show Whl w9 g 33 _ by rw[←hw9];exact Xab JW.out _)
  have L3:=Zh (show Whl w9 (w1.heap.size+1+1) 37 _ by rw[←hw9];exact Xab J3c.out _)
  have L5:=Zh (show Whl w9 wc.heap.size 37 #[.int .i64 1,.int .i64 0,.int .i64 0,.int .i64 0,.int .i64 0,.bool false,.slice none 0 0] by rw[←hw9];exact Xac _ _ _ rfl)
  have hb9:Below wc.heap.size wc w9:=by rw[←hw9];exact(Below.refl _ _).alloc (Nat.le_refl _) _
  have HI9:=Zh (Xaf HI.out hb9)
  have HR9:=Zh (Xaf HR.out hb9)
  have HW9:=Zh (HWc.out.trans (hb9.mono (by omega)))
  have hz9:=hb9.size
  clear hw9 hb9 JW J3c HI HR HWc
  go_step
  refine Xao rfl 33 (.tmp 4) rfl g _ _ rfl L4.out _ Tryz.underlying33 rfl Tryz.sizeMach ?_
  refine Xao rfl 37 (.tmp 3) rfl (w1.heap.size+1+1) _ _ rfl L3.out _ Tryz.underlying37 rfl Tryz.sizeHap ?_
  refine Xao rfl 37 (.tmp 5) rfl wc.heap.size _ _ rfl L5.out _ Tryz.underlying37 rfl Tryz.sizeHap ?_
  refine Xao rfl 37 (.tmp 5) rfl wc.heap.size _ _ rfl L5.out _ Tryz.underlying37 rfl Tryz.sizeHap ?_
  refine Xao rfl 37 (.tmp 5) rfl wc.heap.size _ _ rfl L5.out _ Tryz.underlying37 rfl Tryz.sizeHap ?_
  refine Xao rfl 37 (.tmp 3) rfl (w1.heap.size+1+1) _ _ rfl L3.out _ Tryz.underlying37 rfl Tryz.sizeHap ?_
  go_frame
  refine Xhb rfl (.const (.int .i64 2)) 37 rfl _ rfl _ (Tryz.bd1 _) ?_
  refine Xao rfl 37 (.tmp 3) rfl (w1.heap.size+1+1) _ _ rfl L3.out _ Tryz.underlying37 rfl Tryz.sizeHap ?_
  refine Xhb rfl (.const (.int .i64 2)) 37 rfl _ rfl _ (Tryz.bd1 _) ?_
  go_frame
  refine Xjy rfl (.tmp 38) (.tmp 39) (.tmp 40) (.tmp 41) (.tmp 42) (.tmp 43) (.tmp 44) (.tmp 45) 68 rfl _ _ _ _ _ _ _ _ rfl rfl rfl rfl rfl rfl rfl rfl _ (Tryz.bs8 _) ?_
  go_frame
  go_wp2_with fail
  have hal:=(Below.refl w9.heap.size w9).alloc (Nat.le_refl _) (.cells #[.int .i64 3,.int .i64 0,.int .i64 1,.int .i64 1,.int .i64 1,.bool false,.slice none 0 0,.int .i64 1,.int .i64 0,.int .i64 0,.int .i64 0,.int .i64 0,.bool false,.slice none 0 0,.int .i64 1,.int .i64 0,.int .i64 0,.int .i64 0,.int .i64 0,.bool false,.slice none 0 0,.int .i64 1,.int .i64 0,.int .i64 0,.int .i64 0,.int .i64 0,.bool false,.slice none 0 0,.int .i64 3,.int .i64 0,.int .i64 1,.int .i64 1,.int .i64 1,.bool false,.slice none 0 0,.int .i64 2,.int .i64 0,.int .i64 0,.int .i64 0,.int .i64 0,.bool false,.slice none 0 0,.int .i64 3,.int .i64 0,.int .i64 1,.int .i64 1,.int .i64 1,.bool false,.slice none 0 0,.int .i64 2,.int .i64 0,.int .i64 0,.int .i64 0,.int .i64 0,.bool false,.slice none 0 0] 37)
  obtain⟨y,hrun⟩:=Xyn
  refine(hrun (some ⟨gM,0,none⟩) R d1 c w9.heap.size _ (by rw[show drvM=tx from HXM.out];exact Xaf HI9.out hal) (Xaf HR9.out hal) (Xvs (by simp) (Xac _ _ _ rfl))).mono ?_
  clear hrun
  rintro e w10 ⟨mb,mo,nm5,mc5,R5,nr5,rc5,LX,c5,tb,tn,tc,sb,sc,_,rfl,rfl,q1,q2,q3,q4,q5,q6,q7,hb10⟩
  have hz10:=hb10.size
  simp only[World.size_alloc]at hz10
  have HW10:=Zh (HW9.out.trans ((((Below.refl w9.heap.size w9).alloc (Nat.le_refl _) _).trans (hb10.mono (by simp))).mono (by omega)))
  have Q2:=Zh q2
  have Q4:=Zh q4
  have Q5:=Zh q5
  have Q6:=Zh q6
  have Q7:=Zh q7
  clear hb10 hal q2 q4 q5 q6 q7 L4 L3 L5 HI9 HR9 HW9
  go_upto_region 11 with(refine Xb6 rfl 33 (.tmp 6) (.tmp 48) rfl _ _ _ _ rfl rfl (by rfl) (by rfl) Tryz.sizeMach rfl (by rfl) ?_)
  generalize hw11:World.alloc w10 _=w11
  have KM:=Zh (show Whl w11 w10.heap.size 33 _ by rw[←hw11];exact Xac _ _ _ rfl)
  have hb11:Below w10.heap.size w10 w11:=by rw[←hw11];exact(Below.refl _ _).alloc (Nat.le_refl _) _
  have hz11:=hb11.size
  have QQ:=Zh (Xaf Q7.out hb11)
  have U2:=Zh (Xak hb11 Q2.out)
  have U4:=Zh (Xak hb11 Q4.out)
  have U5:=Zh (Xak hb11 Q5.out)
  have U6:=Zh (Xak hb11 Q6.out)
  have HW11:=Zh (HW10.out.trans (hb11.mono (by omega)))
  clear hw11 hb11 Q2 Q4 Q5 Q6 Q7 HW10
  go_wp2_with fail
  have hal:=(Below.refl w11.heap.size w11).alloc (Nat.le_refl _) (.cells #[.int .i64 0,.int .i64 0,.int .i64 0,.int .i64 0,.int .i64 0,.int .i64 0,.int .i64 0,.int .i64 6] 41)
  refine(Xly _ _ 8 8 _ _ [0,0,0,0,0,0,0,6] [0,0,0,0,0,0,0,6] _ (Xaf QQ.out hal) (sx8 (by simp) (by intro o;simp[go_sem]))).mono ?_
  rintro e w12 ⟨rfl,hb12⟩
  have hb:Below w11.heap.size w11 w12:=hal.trans (hb12.mono (by simp))
  have k1:=Xad (Xaa KM.out hb) 0
  have k2:=Xad (Xaa KM.out hb) 6
  have u2:=Xak hb U2.out
  have u4:=Xak hb U4.out
  have u5:=Xak hb U5.out
  have u6:=Xak hb U6.out
  have HW12:=Zh (HW11.out.trans (hb.mono (by omega)))
  have r1:(0:Int)<(tn:Int):=by omega
  have r2:(4:Int)<(tn:Int):=by omega
  have r3:(6:Int)<(tn:Int):=by omega
  have r4:(328:Int)<(nm5:Int):=by omega
  clear hb hb12 hal KM QQ U2 U4 U5 U6 HW11
  go_wp2
  go_ret
  exact⟨rfl,HW12.out⟩
end
end Go.Proofs.YtbopdijnojaaiadGreat
