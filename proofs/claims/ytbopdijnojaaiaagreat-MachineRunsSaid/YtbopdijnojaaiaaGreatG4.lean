/- MachineRuns: any script does to any machine, happening by happening, what the document says, errors too. No condition. -/
import Derived.Test.YtbopdijnojaaiaaGreatTch
import Derived.Test.YtbopdijnojaaiaaGreatG2
import Derived.Deep.MidRow
import Derived.Test.YtbopdijnojaaiaaGreatWh2
import Derived.Test.YtbopdijnojaaiaaGreatHart1
import Derived.Test.YtbopdijnojaaiaaGreatRefB
import Derived.Test.YtbopdijnojaaiaaGreatMem
import Derived.Test.YtbopdijnojaaiaaGreatG3
import Derived.Test.YtbopdijnojaaiaaGreatG1
namespace Go.Proofs.YtbopdijnojaaiaaGreat
section
set_option maxRecDepth 100000
set_option maxHeartbeats 4000000
open Go.RowKit
set_option linter.unusedSimpArgs false
set_option linter.unusedVariables false
theorem Xrw (a b:Tld):Xis a b=(a.done==b.done&&eqI a.data b.data&&a.fault==b.fault&&eqT a.touched b.touched):=by
 unfold Xis eqT eqI
 rw[Bool.eq_iff_iff]
 simp only[decide_eq_true_eq,Bool.and_eq_true,beq_iff_eq]
 constructor
 ·rintro rfl;exact⟨⟨⟨rfl,rfl⟩,rfl⟩,rfl⟩
 ·rintro⟨⟨⟨h1,h2⟩,h3⟩,h4⟩;exact Tld.ext' h1 h2 h3 h4
theorem Xii (a b:Tld) (A B C D:Option Addr) (n c m d p q r s:Nat) (w:World) (hx:Ints w w.heap.size A n a.data) (hy:Ints w w.heap.size B m b.data) (h1:Tchs w w.heap.size C p q a.touched) (h2:Tchs w w.heap.size D r s b.touched) :
  Calls Tryz.prog 11 #[.agg #[.bool a.done,.slice A n c,.int .i64 a.fault,.slice C p q],.agg #[.bool b.done,.slice B m d,.int .i64 b.fault,.slice D r s]] w fun e w'=>e=.returned (.bool (Xis a b))∧Below w.heap.size w w':=by
 have HX:=Zh hx
 have HY:=Zh hy
 have HU:=Zh h1
 have HV:=Zh h2
 have HS:=Zh (Xrw a b)
 clear hx hy h1 h2
 by_cases h1:a.done=b.done
 rotate_left
 ·have t1:(a.done==b.done)=false:=by rw[beq_eq_false_iff_ne];exact h1
  have HR:=Zh (show false=Xis a b by rw[HS.out];simp[h1])
  clear h1
  go_enter Tryz.func11,Tryz.ntmps11
  go_wp2
  go_ret
  exact⟨Xbr HR.out,bl (by repeat' first|with_reducible(first|assumption|constructor)|((try simp)<;>omega))⟩
 ·have t1:(a.done==b.done)=true:=by rw[beq_iff_eq];exact h1
  by_cases h2:a.data=b.data
  rotate_left
  ·have HQ:=Zh (show eqI a.data b.data=false by simp[eqI,h2])
   have HR:=Zh (show false=Xis a b by rw[HS.out,HQ.out];simp)
   clear h1 h2
   go_enter Tryz.func11,Tryz.ntmps11
   go_wp2_with fail
   refine(Xgg _ _ _ _ _ _ a.data b.data _ (Xaf HX.out (bl (by repeat' first|with_reducible(first|assumption|constructor)|((try simp)<;>omega)))) (Xaf HY.out (bl (by repeat' first|with_reducible(first|assumption|constructor)|((try simp)<;>omega))))).mono ?_
   rw[HQ.out]
   rintro e w1 ⟨rfl,hb1⟩
   have hz1:=hb1.size
   (try simp only[Zs]at hz1)
   have HB1:=Zh hb1
   clear hb1
   go_wp2
   go_ret
   exact⟨Xbr HR.out,bl (by repeat' first|with_reducible(first|assumption|constructor)|((try simp)<;>omega))⟩
  ·have HQ:=Zh (show eqI a.data b.data=true by simp[eqI,h2])
   by_cases h3:a.fault=b.fault
   rotate_left
   ·have t3:(a.fault==b.fault)=false:=by rw[beq_eq_false_iff_ne];exact h3
    have HR:=Zh (show false=Xis a b by rw[HS.out,t3];simp)
    clear h1 h2 h3
    go_enter Tryz.func11,Tryz.ntmps11
    go_wp2_with fail
    refine(Xgg _ _ _ _ _ _ a.data b.data _ (Xaf HX.out (bl (by repeat' first|with_reducible(first|assumption|constructor)|((try simp)<;>omega)))) (Xaf HY.out (bl (by repeat' first|with_reducible(first|assumption|constructor)|((try simp)<;>omega))))).mono ?_
    rw[HQ.out]
    rintro e w1 ⟨rfl,hb1⟩
    have hz1:=hb1.size
    (try simp only[Zs]at hz1)
    obtain⟨k1_0,l1_0,q1_0⟩:=aft hb1 (w.heap.size) (by(try simp)<;>omega)
    obtain⟨k1_1,l1_1,q1_1⟩:=aft hb1 (w.heap.size+1) (by(try simp)<;>omega)
    simp(maxDischargeDepth:=6) [go_sem, *]at k1_0 q1_0 k1_1 q1_1
    have HB1:=Zh hb1
    clear hb1
    go_wp2
    go_ret
    exact⟨Xbr HR.out,bl (by repeat' first|with_reducible(first|assumption|constructor)|((try simp)<;>omega))⟩
   ·have t3:(a.fault==b.fault)=true:=by rw[beq_iff_eq];exact h3
    have HR:=Zh (show eqT a.touched b.touched=Xis a b by rw[HS.out,t1,t3,HQ.out];simp)
    clear h1 h2 h3
    go_enter Tryz.func11,Tryz.ntmps11
    go_wp2_with fail
    refine(Xgg _ _ _ _ _ _ a.data b.data _ (Xaf HX.out (bl (by repeat' first|with_reducible(first|assumption|constructor)|((try simp)<;>omega)))) (Xaf HY.out (bl (by repeat' first|with_reducible(first|assumption|constructor)|((try simp)<;>omega))))).mono ?_
    rw[HQ.out]
    rintro e w1 ⟨rfl,hb1⟩
    have hz1:=hb1.size
    (try simp only[Zs]at hz1)
    obtain⟨k1_0,l1_0,q1_0⟩:=aft hb1 (w.heap.size) (by(try simp)<;>omega)
    obtain⟨k1_1,l1_1,q1_1⟩:=aft hb1 (w.heap.size+1) (by(try simp)<;>omega)
    simp(maxDischargeDepth:=6) [go_sem, *]at k1_0 q1_0 k1_1 q1_1
    have HB1:=Zh hb1
    clear hb1
    go_wp2_with fail
    refine(Xru _ _ _ _ _ _ a.touched b.touched _ (Xe5 HU.out (bl (by repeat' first|with_reducible(first|assumption|constructor)|((try simp)<;>omega)))) (Xe5 HV.out (bl (by repeat' first|with_reducible(first|assumption|constructor)|((try simp)<;>omega))))).mono ?_
    rw[HR.out]
    rintro e w2 ⟨rfl,hb2⟩
    have hz2:=hb2.size
    (try simp only[Zs]at hz2)
    have HB2:=Zh hb2
    clear hb2
    go_wp2
    go_ret
    exact⟨rfl,bl (by repeat' first|with_reducible(first|assumption|constructor)|((try simp)<;>omega))⟩
end
section
set_option maxRecDepth 100000
set_option maxHeartbeats 4000000
open Go.RowKit
set_option linter.unusedSimpArgs false
set_option linter.unusedVariables false
attribute [local go_sem ↓] Go.wp_at_zero Go.wp_at_succ
def TelS (w:World) (A:Option Addr) (n c:Nat) (es:List Tle):Prop:=
 es.length=n∧n≤c∧c≤maxLen∧(0<n→∃ b off,A=some ⟨b,off,none⟩∧b<w.heap.size∧∀ k e,es[k]?=some e→w.rangeAt b (off+k * 4) e.vals∧Ints w w.heap.size e.D e.dn e.t.data∧Tchs w w.heap.size e.X e.tn e.tc e.t.touched)
theorem Xjc {w W:World} {b o:Nat} {vs:List Value} (h:w.rangeAt b o vs) (hb:b<w.heap.size) (hs:Below w.heap.size w W):W.rangeAt b o vs:=fun j v hv=>(hs.cell (p:=⟨b,o+j,none⟩) hb).trans (h j v hv)
theorem TelS.since {w W:World} {A:Option Addr} {n c:Nat} {es:List Tle} (h:TelS w A n c es) (hs:Below w.heap.size w W):TelS W A n c es:=⟨h.1,h.2.1,h.2.2.1,fun hn=>by
 obtain⟨b,off,e,hb,hc⟩:=h.2.2.2 hn
 refine⟨b,off,e,Nat.lt_of_lt_of_le hb hs.size,fun k x hx=>?_⟩
 obtain⟨h1,h2,h3⟩:=hc k x hx
 exact⟨Xjc h1 hb hs,Xaf h2 hs,Xe5 h3 hs⟩⟩
theorem Xkp {w:World} {B:Nat} {A:Option Addr} {n c:Nat} {es:List Tle} {Av:Nat→Prop} (h:OwnS B w A n c es) (ht:∀ e∈es,TldV w Av e.t e.D e.dn e.X e.tn e.tc):TelS w A n c es:=⟨h.1,h.2.1,h.2.2.1,fun hn=>by
 obtain⟨b,off,e,hb,hc⟩:=Row.of_own h.2.2.2 (by rw[Xjm,h.1];omega)
 refine⟨b,off,e,hb,fun k x hx=>⟨fun j v hv=>?_,(ht x (List.mem_of_getElem? hx)).hd,(ht x (List.mem_of_getElem? hx)).ht⟩⟩
 have hj:j<4:=by have:=(List.getElem?_eq_some_iff.1 hv).1;simpa[Tle.vals]using this
 rw[Nat.add_assoc]
 exact hc _ _ ((Xfm es k x j hx hj).trans hv)⟩
def eqE2 (es fs:List Tle):Bool:=decide (es.map Tle.t=fs.map Tle.t)
theorem Xvz {es fs:List Tle} (h:es.length≠fs.length):false=eqE2 es fs:=by
 symm;unfold eqE2;rw[decide_eq_false_iff_not];intro e;exact h (by simpa using congrArg List.length e)
theorem Xyj {es fs:List Tle} {k:Nat} {x y:Tle} (hx:es[k]?=some x) (hy:fs[k]?=some y) (h:Xis x.t y.t=false):false=eqE2 es fs:=by
 symm;unfold eqE2;rw[decide_eq_false_iff_not];intro e
 have e2:(es.map Tle.t)[k]?=(fs.map Tle.t)[k]?:=by rw[e]
 rw[List.getElem?_map,List.getElem?_map,hx,hy]at e2
 simp at e2
 unfold Xis at h
 simp[e2]at h
theorem Xv0 {es fs:List Tle} {k:Nat} (hx:es.length=k) (hy:fs.length=k) (h:(es.take k).map Tle.t=(fs.take k).map Tle.t):true=eqE2 es fs:=by
 rw[List.take_of_length_le (by omega),List.take_of_length_le (by omega)]at h;simp[eqE2,h]
theorem Xtw {es fs:List Tle} {k:Nat} {x y:Tle} (hx:es[k]?=some x) (hy:fs[k]?=some y) (h:(es.take k).map Tle.t=(fs.take k).map Tle.t) (hs:Xis x.t y.t=true):(es.take (k+1)).map Tle.t=(fs.take (k+1)).map Tle.t:=by
 rw[List.take_add_one,List.take_add_one,hx,hy,List.map_append,List.map_append,h]
 unfold Xis at hs
 simp[of_decide_eq_true hs]
theorem Xks (A B:Option Addr) (n m c d:Nat) (es fs:List Tle) (w:World) (hA:TelS w A n c es) (hB:TelS w B m d fs) :
  Calls Tryz.prog 10 #[.slice A n c,.slice B m d,.func (.func 11) #[] #[]] w fun e w'=>e=.returned (.bool (eqE2 es fs))∧Below w.heap.size w w':=by
 have HA:=Zh hA
 have HB:=Zh hB
 have hcap:n≤c∧c≤9223372036854775807:=⟨hA.2.1,by have:=hA.2.2.1;unfold maxLen at this;omega⟩
 have hcap2:m≤d∧d≤9223372036854775807:=⟨hB.2.1,by have:=hB.2.2.1;unfold maxLen at this;omega⟩
 obtain⟨hn1,hn2⟩:=hcap
 obtain⟨hm1,hm2⟩:=hcap2
 clear hA hB
 by_cases hnm:n=m
 rotate_left
 ·have h3:((n:Int) != (m:Int))=true:=by simp;omega
  go_enter Tryz.func10,Tryz.ntmps10
  go_wp2
  go_ret
  exact⟨Xbr (Xvz (by rw[HA.out.1,HB.out.1];exact hnm)),Below.refl _ _⟩
 subst hnm
 go_enter Tryz.func10,Tryz.ntmps10
 go_wp2
 go_loopw [17] (fun s17 wr=>∃ k:Nat,k≤n∧s17=.int .i64 k∧Hid ((es.take k).map Tle.t=(fs.take k).map Tle.t)∧Hid (Below w.heap.size w wr)) (fun s17 _=>n - (intOf s17).toNat)
 case atStart=>exact⟨0,by omega,rfl,by simp[Hid],Below.refl _ _⟩
 case round=>
  obtain⟨k,hk,rfl,hall,hbw⟩:=hrel
  have HAL:=Zh hall.out
  have HBW:=Zh hbw.out
  have hws:=hbw.out.size
  clear hall hbw
  by_cases hlt:k<n
  rotate_left
  ·obtain rfl:k=n:=by omega
   have hh3:¬((k:Int)<(k:Int)):=by omega
   clear hlt
   go_wp2
   go_ret
   exact⟨Xbr (Xv0 HA.out.1 HB.out.1 HAL.out),HBW.out⟩
  obtain⟨x,hxk⟩:=Xa2 es (k:=k) (by rw[HA.out.1];exact hlt)
  obtain⟨y,hyk⟩:=Xa2 fs (k:=k) (by rw[HB.out.1];exact hlt)
  obtain⟨b,off,rfl,hb,hcc⟩:=(HA.out.since HBW.out).2.2.2 (by omega)
  obtain⟨b',off',rfl,hb',hcc'⟩:=(HB.out.since HBW.out).2.2.2 (by omega)
  obtain⟨r1,i1,t1⟩:=hcc k x hxk
  obtain⟨r2,i2,t2⟩:=hcc' k y hyk
  have R1:=Zh (show wr.rangeAt b (off+k * 4) [.bool x.t.done,.slice x.D x.dn x.dc,.int .i64 x.t.fault,.slice x.X x.tn x.tc]from r1)
  have R2:=Zh (show wr.rangeAt b' (off'+k * 4) [.bool y.t.done,.slice y.D y.dn y.dc,.int .i64 y.t.fault,.slice y.X y.tn y.tc]from r2)
  have I1:=Zh i1
  have I2:=Zh i2
  have T1:=Zh t1
  have T2:=Zh t2
  have HX:=Zh hxk
  have HY:=Zh hyk
  have q1:(0:Int)≤(k:Int):=by omega
  have q2:(k:Int)<(n:Int):=by omega
  clear hcc hcc' r1 r2 i1 i2 t1 t2 hxk hyk
  go_upto_region 6 with(first
   |(refine wpList_load_mid rfl 49 (.tmp 20) rfl b (off+k * 4) (by rfl) _ _ R1.out Tryz.underlying49 rfl Tryz.sizeTold ?_)
   |(refine Xb6 rfl 49 (.tmp 8) (.tmp 21) rfl _ _ _ _ rfl rfl (by rfl) (by rfl) Tryz.sizeTold rfl (by rfl) ?_))
  generalize hwb:wr.alloc (.cells #[.bool x.t.done,.slice x.D x.dn x.dc,.int .i64 x.t.fault,.slice x.X x.tn x.tc] 49)=w1
  have H8:=Zh (show Whl w1 wr.heap.size 49 #[.bool x.t.done,.slice x.D x.dn x.dc,.int .i64 x.t.fault,.slice x.X x.tn x.tc] by rw[←hwb];exact Xac _ _ _ rfl)
  have hs:Below wr.heap.size wr w1:=by rw[←hwb];exact Xag _ _
  have hz1a:w1.heap.size≤wr.heap.size+1:=by rw[←hwb];simp
  have hz1b:wr.heap.size+1≤w1.heap.size:=by rw[←hwb];simp
  replace R2:=Zh (Xjc R2.out hb' hs)
  replace HBW:=Zh (HBW.out.trans (hs.mono hws))
  replace I1:=Zh (Xaf I1.out hs)
  replace I2:=Zh (Xaf I2.out hs)
  replace T1:=Zh (Xe5 T1.out hs)
  replace T2:=Zh (Xe5 T2.out hs)
  clear hwb hs R1
  go_upto_region 7 with(first
   |(refine wpList_load_mid rfl 49 (.tmp 24) rfl b' (off'+k * 4) (by rfl) _ _ R2.out Tryz.underlying49 rfl Tryz.sizeTold ?_)
   |(refine Xb6 rfl 49 (.tmp 9) (.tmp 25) rfl _ _ _ _ rfl rfl (by rfl) (by rfl) Tryz.sizeTold rfl (by rfl) ?_))
  generalize hwb:w1.alloc (.cells #[.bool y.t.done,.slice y.D y.dn y.dc,.int .i64 y.t.fault,.slice y.X y.tn y.tc] 49)=w2
  have H9:=Zh (show Whl w2 w1.heap.size 49 #[.bool y.t.done,.slice y.D y.dn y.dc,.int .i64 y.t.fault,.slice y.X y.tn y.tc] by rw[←hwb];exact Xac _ _ _ rfl)
  have hs:Below w1.heap.size w1 w2:=by rw[←hwb];exact Xag _ _
  have hz2:w1.heap.size+1≤w2.heap.size:=by rw[←hwb];simp
  replace H8:=Zh (Xaa H8.out hs)
  replace HBW:=Zh (HBW.out.trans (hs.mono (by omega)))
  replace I1:=Zh (Xaf I1.out hs)
  replace I2:=Zh (Xaf I2.out hs)
  replace T1:=Zh (Xe5 T1.out hs)
  replace T2:=Zh (Xe5 T2.out hs)
  clear hwb hs R2
  cases hq:Xis x.t y.t
  ·have HQ:=Zh hq
   clear hq
   go_wp2_with (first
    |(refine Xao rfl 49 (.tmp 8) rfl (wr.heap.size) _ _ rfl H8.out _ Tryz.underlying49 rfl Tryz.sizeTold ?_)
    |(refine Xao rfl 49 (.tmp 9) rfl (w1.heap.size) _ _ rfl H9.out _ Tryz.underlying49 rfl Tryz.sizeTold ?_))
   refine(Xii x.t y.t x.D y.D x.X y.X x.dn x.dc y.dn y.dc x.tn x.tc y.tn y.tc _ I1.out I2.out T1.out T2.out).mono ?_
   rw[HQ.out]
   rintro e w3 ⟨rfl,hs⟩
   have HE:=Zh (HBW.out.trans (hs.mono (by omega)))
   clear hs
   go_wp2
   go_ret
   exact⟨Xbr (Xyj HX.out HY.out HQ.out),HE.out⟩
  ·have HQ:=Zh hq
   clear hq
   go_wp2_with (first
    |(refine Xao rfl 49 (.tmp 8) rfl (wr.heap.size) _ _ rfl H8.out _ Tryz.underlying49 rfl Tryz.sizeTold ?_)
    |(refine Xao rfl 49 (.tmp 9) rfl (w1.heap.size) _ _ rfl H9.out _ Tryz.underlying49 rfl Tryz.sizeTold ?_))
   refine(Xii x.t y.t x.D y.D x.X y.X x.dn x.dc y.dn y.dc x.tn x.tc y.tn y.tc _ I1.out I2.out T1.out T2.out).mono ?_
   rw[HQ.out]
   rintro e w3 ⟨rfl,hs⟩
   have HE:=Zh (HBW.out.trans (hs.mono (by omega)))
   clear hs
   go_wp2
   go_roundw
   case rel=>exact⟨k+1,by omega,by go_num,Xtw HX.out HY.out HAL.out HQ.out,HE.out⟩
   case measure=>simp[intOf];omega
end
section
set_option maxRecDepth 100000
set_option maxHeartbeats 4000000
open Go.RowKit
set_option linter.unusedSimpArgs false
set_option linter.unusedVariables false
attribute [local go_sem ↓] Go.wp_at_zero Go.wp_at_succ
theorem Xez (a b:Mch) (M R L M' R' L':Option Addr) (nm mc nr rc n c nm' mc' nr' rc' n' c':Nat) (w:World) (h1:Ints w w.heap.size M nm a.m) (h2:Ints w w.heap.size R nr a.h.regs) (h3:Lines w w.heap.size L n c a.b.cache) (g1:Ints w w.heap.size M' nm' b.m) (g2:Ints w w.heap.size R' nr' b.h.regs) (g3:Lines w w.heap.size L' n' c' b.b.cache) :
  Calls Tryz.prog 7 #[.agg (M_.m a M nm mc R nr rc L n c),.agg (M_.m b M' nm' mc' R' nr' rc' L' n' c')] w fun e w'=>e=.returned (.bool (Xj2 a b))∧Below w.heap.size w w':=by
 have HS:=Zh (Xrx a b)
 have IM:=Zh h1
 have IR:=Zh h2
 have IL:=Zh h3
 have JM:=Zh g1
 have JR:=Zh g2
 have JL:=Zh g3
 clear h1 h2 h3 g1 g2 g3
 go_enter Tryz.func7,Tryz.ntmps7
 go_upto_region 1 with(fail)
 generalize hw0:(w.alloc (.cells (M_.m a M nm mc R nr rc L n c) 33)).alloc (.cells (M_.m b M' nm' mc' R' nr' rc' L' n' c') 33)=w0
 have H2:=Zh (show Whl w0 w.heap.size 33 (M_.m a M nm mc R nr rc L n c) by rw[←hw0];exact Xab (Xac _ _ _ rfl) _)
 have H3:=Zh (show Whl w0 (w.heap.size+1) 33 (M_.m b M' nm' mc' R' nr' rc' L' n' c') by rw[←hw0];exact Xac _ _ _ (by simp))
 have hb:Below w.heap.size w w0:=by rw[←hw0];(refine bl ?_;repeat' first|with_reducible(first|assumption|constructor)|((try simp)<;>omega))
 have HB:=Zh hb
 replace IM:=Zh (Xaf IM.out hb)
 replace IR:=Zh (Xaf IR.out hb)
 replace IL:=Zh (Xah IL.out hb)
 replace JM:=Zh (Xaf JM.out hb)
 replace JR:=Zh (Xaf JR.out hb)
 replace JL:=Zh (Xah JL.out hb)
 clear hw0 hb
 have k2:=fun o=>Xad H2.out o
 have k3:=fun o=>Xad H3.out o
 by_cases e1:a.m=b.m
 rotate_left
 ·have HQ:=Zh (show eqI a.m b.m=false by simp[eqI,e1])
  have HR:=Zh (show false=Xj2 a b by rw[HS.out];simp[e1])
  clear e1
  go_wp2_with fail
  refine(Xgg _ _ _ _ _ _ a.m b.m _ IM.out JM.out).mono ?_
  rw[HQ.out]
  rintro e w1 ⟨rfl,hb⟩
  replace HB:=Zh (HB.out.trans (hb.mono HB.out.size))
  clear hb
  go_wp2
  go_ret
  exact⟨Xbr HR.out,HB.out⟩
 have HQ:=Zh (show eqI a.m b.m=true by simp[eqI,e1])
 have HE1:=Zh e1
 clear e1
 go_wp2_with fail
 refine(Xgg _ _ _ _ _ _ a.m b.m _ IM.out JM.out).mono ?_
 rw[HQ.out]
 rintro e w1 ⟨rfl,hb⟩
 replace H2:=Zh (Xaa H2.out hb)
 replace H3:=Zh (Xaa H3.out hb)
 replace HB:=Zh (HB.out.trans (hb.mono HB.out.size))
 replace IM:=Zh (Xaf IM.out hb)
 replace IR:=Zh (Xaf IR.out hb)
 replace IL:=Zh (Xah IL.out hb)
 replace JM:=Zh (Xaf JM.out hb)
 replace JR:=Zh (Xaf JR.out hb)
 replace JL:=Zh (Xah JL.out hb)
 clear hb k2 k3
 have k2:=fun o=>Xad H2.out o
 have k3:=fun o=>Xad H3.out o
 cases e2:Xkt a.h b.h with
 |false=>
  have HQ2:=Zh e2
  have HR:=Zh (show false=Xj2 a b by rw[HS.out,HQ2.out];simp)
  clear e2
  go_wp2_with fail
  refine(Xij a.h b.h R R' nr rc nr' rc' _ IR.out JR.out).mono ?_
  rw[HQ2.out]
  rintro e w2 ⟨rfl,hb⟩
  replace HB:=Zh (HB.out.trans (hb.mono HB.out.size))
  clear hb
  go_wp2
  go_ret
  exact⟨Xbr HR.out,HB.out⟩
 |true=>
  have HQ2:=Zh e2
  have HR:=Zh (show Xp6 a.b b.b=Xj2 a b by rw[HS.out,HQ2.out,decide_eq_true HE1.out];simp)
  clear e2
  go_wp2_with fail
  refine(Xij a.h b.h R R' nr rc nr' rc' _ IR.out JR.out).mono ?_
  rw[HQ2.out]
  rintro e w2 ⟨rfl,hb⟩
  replace H2:=Zh (Xaa H2.out hb)
  replace H3:=Zh (Xaa H3.out hb)
  replace HB:=Zh (HB.out.trans (hb.mono HB.out.size))
  replace IM:=Zh (Xaf IM.out hb)
  replace IR:=Zh (Xaf IR.out hb)
  replace IL:=Zh (Xah IL.out hb)
  replace JM:=Zh (Xaf JM.out hb)
  replace JR:=Zh (Xaf JR.out hb)
  replace JL:=Zh (Xah JL.out hb)
  clear hb k2 k3
  have k2:=fun o=>Xad H2.out o
  have k3:=fun o=>Xad H3.out o
  go_wp2_with fail
  refine(Xj3 a.b b.b L L' n c n' c' _ IL.out JL.out).mono ?_
  rw[HR.out]
  rintro e w3 ⟨rfl,hb⟩
  replace HB:=Zh (HB.out.trans (hb.mono HB.out.size))
  clear hb
  go_wp2
  go_ret
  exact⟨rfl,HB.out⟩
end
section
open Go.RowKit
set_option linter.unusedSimpArgs false
set_option linter.unusedVariables false
def avk (g:Nat) (TA SA:Option Addr) (q:Nat):Prop:=q≠g∧(∀ ad,TA=some ad→q≠ad.block)∧∀ ad,SA=some ad→q≠ad.block
structure RunK (g:Nat) (wB:World) (x:Mch) (es:List Tle) (rs:List Int) (TA:Option Addr) (tn tc:Nat) (SA:Option Addr) (sn sc:Nat) (M:Option Addr) (nm mc:Nat) (R:Option Addr) (nr rc:Nat) (L:Option Addr) (n c:Nat) (W:World):Prop where
 chg:Chg (fun q=>q=g) wB W
 low:g<wB.heap.size
 m:Whl W g 33 ((M_.m x M nm mc R nr rc L n c))
 mv:MachV W (avk g TA SA) x M nm R nr L n c
 ot:OwnS wB.heap.size W TA tn tc es
 os:OwnE wB.heap.size W SA sn sc rs
 el:∀ e∈es,TldV W (avk g TA SA) e.t e.D e.dn e.X e.tn e.tc
 ap:∀ ad ad',TA=some ad→SA=some ad'→ad.block≠ad'.block
theorem Xm1 {P P':Nat→Prop} {w W W':World} (h:Chg P w W) (h':Chg P' W W') (hp:∀ q,q<w.heap.size→P' q→P q):Chg P w W':=
 ⟨h.1.trans h'.1,fun q hq hn=>(h'.2 q (Nat.lt_of_lt_of_le hq h.size) (fun e=>hn (hp q hq e))).trans (h.2 q hq hn)⟩
section
variable {wB W W':World} {g:Nat} {x x':Mch} {es:List Tle} {rs:List Int} {TA SA M R L M' R' L':Option Addr} {tn tc sn sc nm mc nr rc n c nm' mc' nr' rc' n' c':Nat}
theorem RunK.since (h:RunK g wB x es rs TA tn tc SA sn sc M nm mc R nr rc L n c W) (hs:Below W.heap.size W W'):RunK g wB x es rs TA tn tc SA sn sc M nm mc R nr rc L n c W':=
 ⟨Xoh h.chg hs,h.low,Xaa h.m hs,h.mv.since hs,h.ot.below hs,h.os.below hs,fun e he=>(h.el e he).since hs,h.ap⟩
theorem RunK.store (h:RunK g wB x es rs TA tn tc SA sn sc M nm mc R nr rc L n c W) (hw:Whl W' g 33 ((M_.m x' M' nm' mc' R' nr' rc' L' n' c'))) (ht:Trn g W W') (hv:MachV W (avk g TA SA) x' M' nm' R' nr' L' n' c') :
  RunK g wB x' es rs TA tn tc SA sn sc M' nm' mc' R' nr' rc' L' n' c' W':=by
 have hav:∀ q,avk g TA SA q→q≠g:=fun q hq=>hq.1
 have hl:=h.low
 have ht':=(Xat h.ot.2.2.2)
 have hs':=(Xat h.os.2.2.2)
 exact⟨Xa4 h.chg ht.1,h.low,hw,hv.trn ht (fun hq=>hav _ hq rfl),h.ot.chg ht.1 (fun ad e hp=>by have:=(ht' ad e).1;omega),h.os.chg ht.1 (fun ad e hp=>by have:=(hs' ad e).1;omega),fun e he=>(h.el e he).trn ht (fun hq=>hav _ hq rfl),h.ap⟩
theorem RunK.told (h:RunK g wB x es rs TA tn tc SA sn sc M nm mc R nr rc L n c W) {gg cap:Nat} {e:Tle} (hg:W.grownBy W' (Value.slice TA tn tc).ownBlock) (hown:W'.ownsRow wB.heap.size 49 4 (.slice (some ⟨gg,0,none⟩) (tn+1) cap) (tn+1) (Xdl es ++ e.vals)) (hat:(Value.slice TA tn tc).ownBlock=some gg∨gg=W.heap.size) (he:TldV W (avk g TA SA) e.t e.D e.dn e.X e.tn e.tc) :
  RunK g wB x (es ++ [e]) rs (some ⟨gg,0,none⟩) (tn+1) cap SA sn sc M nm mc R nr rc L n c W':=by
 have hC:Chg (fun q=>(Value.slice TA tn tc).ownBlock=some q) W W':=Xdm (Xaq W) hg (fun k e=>Or.inl e)
 have ht':=Xat h.ot.2.2.2
 have hs':=Xat h.os.2.2.2
 have hl:=h.low
 have hP:∀ q,(Value.slice TA tn tc).ownBlock=some q→∃ ad,TA=some ad∧ad.block=q:=fun q e=>Xc5 e
 have hn:∀ q,(Value.slice TA tn tc).ownBlock=some q→¬(avk g TA SA q∧q<W.heap.size):=fun q e hq=>by
  obtain⟨ad,h1,h2⟩:=hP q e
  exact hq.1.2.1 ad h1 h2.symm
 have hv:∀ q,(avk g TA SA q∧q<W.heap.size)→avk g (some ⟨gg,0,none⟩) SA q:=fun q hq=>⟨hq.1.1,fun ad e=>by
  injection e with e;subst e
  rcases hat with h1|h1
  ·obtain⟨ad,h2,h3⟩:=hP gg h1
   intro hh
   exact hq.1.2.1 ad h2 (hh.trans h3.symm)
  ·intro hh
   have:=hq.2
   show False
   simp only[]at hh
   omega,hq.1.2.2⟩
 have hc:=Xhj hown
 refine⟨Xm1 h.chg hC (fun q hq e=>by obtain⟨ad,h1,h2⟩:=hP q e;have:=(ht' ad h1).1;omega),h.low,Xa6 h.m hC (fun e=>by obtain⟨ad,h1,h2⟩:=hP _ e;have:=(ht' ad h1).1;omega),
  (h.mv.lt.chg hC hn).av hv,⟨by rw[List.length_append,h.ot.1];rfl,hc.1,hc.2,by rw[Xiq];exact hown⟩,h.os.chg hC (fun ad e hp=>by obtain⟨ad2,h1,h2⟩:=hP _ hp;exact h.ap ad2 ad h1 e h2),fun e' he'=>?_,fun ad ad' e1 e2=>?_⟩
 ·rw[List.mem_append]at he'
  rcases he' with he'|he'
  ·exact((h.el e' he').lt.chg hC hn).av hv
  ·simp at he';subst he';exact(he.lt.chg hC hn).av hv
 ·injection e1 with e1;subst e1
  rcases hat with h1|h1
  ·obtain⟨ad2,h2,h3⟩:=hP gg h1
   intro hh
   exact h.ap ad2 ad' h2 e2 (h3.trans hh)
  ·intro hh
   have:=(hs' ad' e2).2
   simp only[]at hh
   omega
theorem RunK.said (h:RunK g wB x es rs TA tn tc SA sn sc M nm mc R nr rc L n c W) {gg cap:Nat} {v:Int} (hg:W.grownBy W' (Value.slice SA sn sc).ownBlock) (hown:W'.ownsRow wB.heap.size 37 1 (.slice (some ⟨gg,0,none⟩) (sn+1) cap) (sn+1) (rs.map (Value.int .i64) ++ [.int .i64 v])) (hat:(Value.slice SA sn sc).ownBlock=some gg∨gg=W.heap.size) :
  RunK g wB x es (rs ++ [v]) TA tn tc (some ⟨gg,0,none⟩) (sn+1) cap M nm mc R nr rc L n c W':=by
 have hC:Chg (fun q=>(Value.slice SA sn sc).ownBlock=some q) W W':=Xdm (Xaq W) hg (fun k e=>Or.inl e)
 have ht':=Xat h.ot.2.2.2
 have hs':=Xat h.os.2.2.2
 have hl:=h.low
 have hP:∀ q,(Value.slice SA sn sc).ownBlock=some q→∃ ad,SA=some ad∧ad.block=q:=fun q e=>Xc5 e
 have hn:∀ q,(Value.slice SA sn sc).ownBlock=some q→¬(avk g TA SA q∧q<W.heap.size):=fun q e hq=>by
  obtain⟨ad,h1,h2⟩:=hP q e
  exact hq.1.2.2 ad h1 h2.symm
 have hv:∀ q,(avk g TA SA q∧q<W.heap.size)→avk g TA (some ⟨gg,0,none⟩) q:=fun q hq=>⟨hq.1.1,hq.1.2.1,fun ad e=>by
  injection e with e;subst e
  rcases hat with h1|h1
  ·obtain⟨ad,h2,h3⟩:=hP gg h1
   intro hh
   exact hq.1.2.2 ad h2 (hh.trans h3.symm)
  ·intro hh
   have:=hq.2
   show False
   simp only[]at hh
   omega⟩
 have hc:=Xhj hown
 refine⟨Xm1 h.chg hC (fun q hq e=>by obtain⟨ad,h1,h2⟩:=hP q e;have:=(hs' ad h1).1;omega),h.low,Xa6 h.m hC (fun e=>by obtain⟨ad,h1,h2⟩:=hP _ e;have:=(hs' ad h1).1;omega),
  (h.mv.lt.chg hC hn).av hv,h.ot.chg hC (fun ad e hp=>by obtain⟨ad2,h1,h2⟩:=hP _ hp;exact h.ap ad ad2 e h1 h2.symm),⟨by rw[List.length_append,h.os.1];rfl,hc.1,hc.2,by rw[List.map_append];exact hown⟩,fun e' he'=>((h.el e' he').lt.chg hC hn).av hv,fun ad ad' e1 e2=>?_⟩
 injection e2 with e2;subst e2
 rcases hat with h1|h1
 ·obtain⟨ad2,h2,h3⟩:=hP gg h1
  intro hh
  exact h.ap ad ad2 e1 h2 (hh.trans h3.symm)
 ·intro hh
  have:=(ht' ad e1).2
  simp only[]at hh
  omega
end
end
section
set_option maxRecDepth 100000
set_option maxHeartbeats 16000000
open Go.RowKit
set_option linter.unusedSimpArgs false
set_option linter.unusedVariables false
attribute [local go_sem ↓] Go.wp_at_zero Go.wp_at_succ
theorem Xot:Xj2 .no .no=true:=by simp[Xj2]
def Xzg (x:Mch) (hs:List Hap) (hn:Nat) (E:Int) (z:Mch) (ts:List Tld) (rs:List Int):Prop:=
 (ckM x≠0∧E=ckM x∧z=.no∧ts=[]∧rs=[])∨(ckM x=0∧120<hn∧E=1∧z=.no∧ts=[]∧rs=[])∨(ckM x=0∧hn≤120∧E=0∧z=runS x hs∧ts=runT x hs∧rs=runR x hs)
theorem Xo5 (x:Mch) (hs:List Hap) (M R L HA:Option Addr) (hn hc:Nat) (w:World) (nm mc nr rc n c:Nat) (hm:Ints w w.heap.size M nm x.m) (hr:Ints w w.heap.size R nr x.h.regs) (hl:Lines w w.heap.size L n c x.b.cache) (hh:Haps w w.heap.size HA hn hc hs) (E:Int) (z:Mch) (ts:List Tld) (rs:List Int)
  (h:Xzg x hs hn E z ts rs) :
  Calls Tryz.prog 4 #[.agg (M_.m x M nm mc R nr rc L n c),.slice HA hn hc] w (Xq6 w z ts rs E):=by
 rcases h with⟨h0,rfl,rfl,rfl,rfl⟩|⟨h0,h1,rfl,rfl,rfl,rfl⟩|⟨h0,h1,rfl,rfl,rfl,rfl⟩
 ·exact Xve x M R L HA hn hc w nm mc nr rc n c hm hr hl h0
 ·obtain⟨c1,c2,_⟩:=(Xct x).1 h0
  obtain rfl:nm=512:=by rw[←hm.len];exact(Xaz c1).1
  obtain rfl:nr=8:=by rw[←hr.len];exact(Xap c2).1
  exact Xsv x M R L HA hn hc w mc rc n c hm hr hl h0 h1
 ·obtain⟨c1,c2,_⟩:=(Xct x).1 h0
  obtain rfl:nm=512:=by rw[←hm.len];exact(Xaz c1).1
  obtain rfl:nr=8:=by rw[←hr.len];exact(Xap c2).1
  exact Xsu x hs M R L HA hn hc w mc rc n c hm hr hl hh h0 h1
theorem Xgm {w:World}:Ints w w.heap.size none 0 []:=⟨rfl,by unfold maxLen;omega,Row.nil_⟩
theorem Xmr {B:Nat} {w:World} {A:Option Addr} {n c:Nat} {xs:List Int} (h:OwnE B w A n c xs):Ints w w.heap.size A n xs:=⟨h.1,Nat.le_trans h.2.1 h.2.2.1,Row.of_own h.2.2.2⟩
theorem Xuo {w W:World} {g:Nat} {A:Option Addr} {n c:Nat} {es:List Tle} (h:TelS w A n c es) (hC:Chg (fun q=>q=g) w W) (hA:(∀ ad,A=some ad→g<ad.block)∧∀ e∈es,RowIn (fun q=>g<q) e.D e.dn∧RowIn (fun q=>g<q) e.X e.tn):TelS W A n c es:=⟨h.1,h.2.1,h.2.2.1,fun hn=>by
 obtain⟨b,off,e,hb,hc⟩:=h.2.2.2 hn
 have hg:=hA.1 _ e
 simp only[]at hg
 refine⟨b,off,e,Nat.lt_of_lt_of_le hb hC.size,fun k x hx=>?_⟩
 obtain⟨h1,h2,h3⟩:=hc k x hx
 obtain⟨a1,a2⟩:=hA.2 x (List.mem_of_getElem? hx)
 refine⟨fun j v hv=>?_,Xfp h2 hC a1 (fun q e hq=>by omega),Xm0 h3 hC a2 (fun q e hq=>by omega)⟩
 have hblk:=hC.2 b hb (by omega)
 have h4:=h1 j v hv
 unfold World.cell? at h4 ⊢
 simp only[]at h4 ⊢
 rw[hblk];exact h4⟩
theorem Xmi (x:Mch) (hs:List Hap) (M R L HA:Option Addr) (hn hc:Nat) (w:World) (nm mc nr rc n c:Nat) (hm:Ints w w.heap.size M nm x.m) (hr:Ints w w.heap.size R nr x.h.regs) (hl:Lines w w.heap.size L n c x.b.cache) (hh:Haps w w.heap.size HA hn hc hs) (hbad:ckM x≠0∨120<hn) :
  Calls Tryz.prog 3 #[.agg (M_.m x M nm mc R nr rc L n c),.slice HA hn hc] w fun e w'=>e=.returned (.bool true)∧Below w.heap.size w w':=by
 obtain⟨E,y1,ts,rs,hP,hy,hts0,hrs0,hE0,hEE⟩:∃ E y1 ts rs,Xzg x hs hn E y1 ts rs∧y1=Mch.no∧ts=[]∧rs=([]:List Int)∧E≠0∧((ckM x≠0∧E=ckM x)∨(ckM x=0∧120<hn∧E=1)):=by
  by_cases h0:ckM x=0
  ·have h1:=hbad.resolve_left (fun h=>h h0)
   exact⟨1,.no,[],[],Or.inr (Or.inl ⟨h0,h1,rfl,rfl,rfl,rfl⟩),rfl,rfl,rfl,by decide,Or.inr ⟨h0,h1,rfl⟩⟩
  ·exact⟨ckM x,.no,[],[],Or.inl ⟨h0,rfl,rfl,rfl,rfl⟩,rfl,rfl,rfl,h0,Or.inl ⟨h0,rfl⟩⟩
 have HY:=Zh hy
 have HT0:=Zh hts0
 have HR0:=Zh hrs0
 have HE0:=Zh hE0
 have HEE:=Zh hEE
 clear hbad hy hts0 hrs0 hE0 hEE
 have HMV:=Zh (Xmk hm hr hl)
 have HH:=Zh hh
 have hcap:=hh.cap
 have HHL:=Zh hh.len
 have HP:=Zh hP
 clear hm hr hl hh hP
 go_enter Tryz.func3,Tryz.ntmps3
 go_upto_region 1 with(fail)
 generalize hw0:w.alloc (.cells (M_.m x M nm mc R nr rc L n c) 33)=w0
 have H2:=Zh (show Whl w0 w.heap.size 33 (M_.m x M nm mc R nr rc L n c) by rw[←hw0];exact Xac _ _ _ rfl)
 have HB:=Zh (show Below w.heap.size w w0 by rw[←hw0];(refine bl ?_;repeat' first|with_reducible(first|assumption|constructor)|((try simp)<;>omega)))
 have hz0a:w0.heap.size≤w.heap.size+1:=by rw[←hw0];simp
 have hz0b:w.heap.size+1≤w0.heap.size:=by rw[←hw0];simp
 clear hw0
 go_wp2_with (first|(refine Xao rfl 33 (.tmp 2) rfl (w.heap.size) _ _ rfl H2.out _ Tryz.underlying33 rfl Tryz.sizeMach ?_))
 refine(Xo5 x hs M R L HA hn hc _ nm mc nr rc n c (Xaf HMV.out.hm HB.out) (Xaf HMV.out.hr HB.out) (Xah HMV.out.hl HB.out) (Xiy HH.out HB.out) E y1 ts rs HP.out).mono ?_
 rintro e w1 ⟨M1,nm1,mc1,R1,nr1,rc1,L1,n1,c1,fs,TA1,tn1,tc1,SA1,sn1,sc1,rfl,hv1,ho1,hts,hs1,htl,hb⟩
 have V1:=Zh (hv1.av (Av':=fun q=>w.heap.size<q) (fun q hq=>by omega))
 have O1:=Zh (Xkp ho1 htl)
 have HTS:=Zh hts
 have HS1:=Zh hs1
 have hz1:=hb.size
 replace H2:=Zh (Xaa H2.out hb)
 replace HB:=Zh (HB.out.trans (hb.mono HB.out.size))
 clear hb hv1 ho1 hts hs1 htl
 go_upto_region 2 with(first|(refine Xaj rfl 33 (.tmp 5) (.tmp 21) rfl (w1.heap.size) _ _ (M_.m y1 M1 nm1 mc1 R1 nr1 rc1 L1 n1 c1) rfl rfl (Xac w1 _ _ rfl) Tryz.sizeMach rfl rfl ?_;intro w2 h5 t5))
 have hb:Below w1.heap.size w1 w2:=Xa8 ((Below.refl w1.heap.size w1).alloc (Nat.le_refl _) _) (by simp) t5.1 (fun q hq e=>by omega)
 have hz2:=t5.2
 (try simp only[World.size_alloc]at hz2)
 have hz2a:w2.heap.size≤w1.heap.size+1:=Nat.le_of_eq hz2
 have hz2b:w1.heap.size+1≤w2.heap.size:=Nat.le_of_eq hz2.symm
 have H5:=Zh h5
 replace H2:=Zh (Xaa H2.out hb)
 replace HB:=Zh (HB.out.trans (hb.mono HB.out.size))
 replace V1:=Zh (V1.out.since hb)
 replace O1:=Zh (O1.out.since hb)
 replace HS1:=Zh (HS1.out.below hb)
 clear hb h5 t5 hz2
 go_wp2_with (first|(refine Xao rfl 33 (.tmp 2) rfl (w.heap.size) _ _ rfl H2.out _ Tryz.underlying33 rfl Tryz.sizeMach ?_))
 refine(Xf0 x M R L nm mc nr rc n c _ (Xaf HMV.out.hm HB.out) (Xaf HMV.out.hr HB.out) (Xah HMV.out.hl HB.out)).mono ?_
 rintro e w3 ⟨rfl,hb⟩
 replace H2:=Zh (Xaa H2.out hb)
 replace H5:=Zh (Xaa H5.out hb)
 replace HB:=Zh (HB.out.trans (hb.mono HB.out.size))
 replace V1:=Zh (V1.out.since hb)
 replace O1:=Zh (O1.out.since hb)
 replace HS1:=Zh (HS1.out.below hb)
 have hz3:=hb.size
 clear hb
 obtain rfl:tn1=0:=by have h:=HTS.out;rw[HT0.out]at h;have h2:=O1.out.1;rw[List.map_eq_nil_iff]at h;rw[h]at h2;exact h2.symm
 obtain rfl:sn1=0:=by have h:=HS1.out.1;rw[HR0.out]at h;exact h.symm
 go_upto_region 3 with(fail)
 rcases HEE.out with⟨q1,q2⟩|⟨q1,q2,q3⟩
 ·have t0:(ckM x==0)=false:=beq_eq_false_iff_ne.2 q1
  have tE:(ckM x != 0)=true:=by rw[bne_iff_ne];exact q1
  subst q2
  clear q1
  go_wp2_with fail
  refine(Xfi _).mono ?_
  rintro e w5 ⟨rfl,hb⟩
  replace H2:=Zh (Xaa H2.out hb)
  replace H5:=Zh (Xaa H5.out hb)
  replace HB:=Zh (HB.out.trans (hb.mono HB.out.size))
  replace V1:=Zh (V1.out.since hb)
  clear hb
  go_wp2_with fail
  refine(Xfi _).mono ?_
  rintro e w6 ⟨rfl,hb⟩
  replace H2:=Zh (Xaa H2.out hb)
  replace H5:=Zh (Xaa H5.out hb)
  replace HB:=Zh (HB.out.trans (hb.mono HB.out.size))
  replace V1:=Zh (V1.out.since hb)
  have hz6:=hb.size
  clear hb
  have k5:=fun o=>Xad H5.out o
  go_wp2_with fail
  clear k5
  refine(Xez y1 .no M1 R1 L1 none none none nm1 mc1 nr1 rc1 n1 c1 0 0 0 0 0 0 _ V1.out.hm V1.out.hr V1.out.hl Xgm Xgm (Xcl _ _)).mono ?_
  rw[HY.out,Xot]
  rintro e w7 ⟨rfl,hb⟩
  replace HB:=Zh (HB.out.trans (hb.mono HB.out.size))
  clear hb
  go_wp2
  go_ret
  exact⟨rfl,HB.out⟩
 ·have t0:(ckM x==0)=true:=by rw[beq_iff_eq];exact q1
  have t1:(120:Int)<(hn:Int):=by omega
  subst q3
  clear q1 q2
  go_wp2_with fail
  refine(Xfi _).mono ?_
  rintro e w5 ⟨rfl,hb⟩
  replace H2:=Zh (Xaa H2.out hb)
  replace H5:=Zh (Xaa H5.out hb)
  replace HB:=Zh (HB.out.trans (hb.mono HB.out.size))
  replace V1:=Zh (V1.out.since hb)
  clear hb
  go_wp2_with fail
  refine(Xfi _).mono ?_
  rintro e w6 ⟨rfl,hb⟩
  replace H2:=Zh (Xaa H2.out hb)
  replace H5:=Zh (Xaa H5.out hb)
  replace HB:=Zh (HB.out.trans (hb.mono HB.out.size))
  replace V1:=Zh (V1.out.since hb)
  have hz6:=hb.size
  clear hb
  have k5:=fun o=>Xad H5.out o
  go_wp2_with fail
  clear k5
  refine(Xez y1 .no M1 R1 L1 none none none nm1 mc1 nr1 rc1 n1 c1 0 0 0 0 0 0 _ V1.out.hm V1.out.hr V1.out.hl Xgm Xgm (Xcl _ _)).mono ?_
  rw[HY.out,Xot]
  rintro e w7 ⟨rfl,hb⟩
  replace HB:=Zh (HB.out.trans (hb.mono HB.out.size))
  clear hb
  go_wp2
  go_ret
  exact⟨rfl,HB.out⟩
theorem Xvd (x:Mch) (hs:List Hap) (M R L HA:Option Addr) (hn hc:Nat) (w:World) (nm mc nr rc n c:Nat) (hm:Ints w w.heap.size M nm x.m) (hr:Ints w w.heap.size R nr x.h.regs) (hl:Lines w w.heap.size L n c x.b.cache) (hh:Haps w w.heap.size HA hn hc hs) (h0:ckM x=0) (h1:hn≤120) :
  Calls Tryz.prog 3 #[.agg (M_.m x M nm mc R nr rc L n c),.slice HA hn hc] w fun e w'=>e=.returned (.bool true)∧Below w.heap.size w w':=by
 obtain⟨i0,hi,hi0,hi1,hi2⟩:=info_parts Tryz.infoErr
 obtain⟨j0,hj,hj0,hj1,hj2⟩:=info_parts Tryz.infoTold
 have HI:=Zh hi
 have HI0:=Zh hi0
 have HI1:=Zh hi1
 have HI2:=Zh hi2
 have HJ:=Zh hj
 have HJ0:=Zh hj0
 have HJ1:=Zh hj1
 have HJ2:=Zh hj2
 clear hi hi0 hi1 hi2 hj hj0 hj1 hj2
 obtain⟨E,y1,ts,rs,hP,hy,hts0,hrs0,hE0⟩:∃ E y1 ts rs,Xzg x hs hn E y1 ts rs∧y1=runS x hs∧ts=runT x hs∧rs=runR x hs∧E=0:=
  ⟨0,_,_,_,Or.inr (Or.inr ⟨h0,h1,rfl,rfl,rfl,rfl⟩),rfl,rfl,rfl,rfl⟩
 subst hE0
 have HY:=Zh hy
 have HT0:=Zh hts0
 have HR0:=Zh hrs0
 have H0:=Zh h0
 have h12:(hn:Int)≤120:=by omega
 clear hy hts0 hrs0 h0 h1
 have HMV:=Zh (Xmk hm hr hl)
 have HH:=Zh hh
 have hcap:=hh.cap
 have HHL:=Zh hh.len
 have HP:=Zh hP
 clear hm hr hl hh hP
 go_enter Tryz.func3,Tryz.ntmps3
 go_upto_region 1 with(fail)
 generalize hw0:w.alloc (.cells (M_.m x M nm mc R nr rc L n c) 33)=w0
 have H2:=Zh (show Whl w0 w.heap.size 33 (M_.m x M nm mc R nr rc L n c) by rw[←hw0];exact Xac _ _ _ rfl)
 have HB:=Zh (show Below w.heap.size w w0 by rw[←hw0];(refine bl ?_;repeat' first|with_reducible(first|assumption|constructor)|((try simp)<;>omega)))
 have hz0a:w0.heap.size≤w.heap.size+1:=by rw[←hw0];simp
 have hz0b:w.heap.size+1≤w0.heap.size:=by rw[←hw0];simp
 clear hw0
 go_wp2_with (first|(refine Xao rfl 33 (.tmp 2) rfl (w.heap.size) _ _ rfl H2.out _ Tryz.underlying33 rfl Tryz.sizeMach ?_))
 refine(Xo5 x hs M R L HA hn hc _ nm mc nr rc n c (Xaf HMV.out.hm HB.out) (Xaf HMV.out.hr HB.out) (Xah HMV.out.hl HB.out) (Xiy HH.out HB.out) 0 y1 ts rs HP.out).mono ?_
 rintro e w1 ⟨M1,nm1,mc1,R1,nr1,rc1,L1,n1,c1,fs,TA1,tn1,tc1,SA1,sn1,sc1,rfl,hv1,ho1,hts,hs1,htl,hb⟩
 have V1:=Zh (hv1.av (Av':=fun q=>w.heap.size<q) (fun q hq=>by omega))
 have O1:=Zh (Xkp ho1 htl)
 have HTS:=Zh hts
 have OG1:=Zh (show(∀ ad,TA1=some ad→w.heap.size<ad.block)∧∀ e∈fs,RowIn (fun q=>w.heap.size<q) e.D e.dn∧RowIn (fun q=>w.heap.size<q) e.X e.tn from⟨fun ad e=>by have:=(Xat ho1.2.2.2 ad e).1;omega,fun e he=>⟨(htl e he).ad.mono (fun q hq=>by omega),(htl e he).at_.mono (fun q hq=>by omega)⟩⟩)
 have HS1:=Zh hs1
 have hz1:=hb.size
 replace H2:=Zh (Xaa H2.out hb)
 replace HB:=Zh (HB.out.trans (hb.mono HB.out.size))
 clear hb hv1 ho1 hts hs1 htl
 go_upto_region 2 with(first|(refine Xaj rfl 33 (.tmp 5) (.tmp 21) rfl (w1.heap.size) _ _ (M_.m y1 M1 nm1 mc1 R1 nr1 rc1 L1 n1 c1) rfl rfl (Xac w1 _ _ rfl) Tryz.sizeMach rfl rfl ?_;intro w2 h5 t5))
 have hb:Below w1.heap.size w1 w2:=Xa8 ((Below.refl w1.heap.size w1).alloc (Nat.le_refl _) _) (by simp) t5.1 (fun q hq e=>by omega)
 have hz2:=t5.2
 (try simp only[World.size_alloc]at hz2)
 have hz2a:w2.heap.size≤w1.heap.size+1:=Nat.le_of_eq hz2
 have hz2b:w1.heap.size+1≤w2.heap.size:=Nat.le_of_eq hz2.symm
 have H5:=Zh h5
 replace H2:=Zh (Xaa H2.out hb)
 replace HB:=Zh (HB.out.trans (hb.mono HB.out.size))
 replace V1:=Zh (V1.out.since hb)
 replace O1:=Zh (O1.out.since hb)
 replace HS1:=Zh (HS1.out.below hb)
 clear hb h5 t5 hz2
 go_wp2_with (first|(refine Xao rfl 33 (.tmp 2) rfl (w.heap.size) _ _ rfl H2.out _ Tryz.underlying33 rfl Tryz.sizeMach ?_))
 refine(Xf0 x M R L nm mc nr rc n c _ (Xaf HMV.out.hm HB.out) (Xaf HMV.out.hr HB.out) (Xah HMV.out.hl HB.out)).mono ?_
 rw[H0.out]
 rintro e w3 ⟨rfl,hb⟩
 replace H2:=Zh (Xaa H2.out hb)
 replace H5:=Zh (Xaa H5.out hb)
 replace HB:=Zh (HB.out.trans (hb.mono HB.out.size))
 replace V1:=Zh (V1.out.since hb)
 replace O1:=Zh (O1.out.since hb)
 replace HS1:=Zh (HS1.out.below hb)
 have hz3:=hb.size
 clear hb
 go_wp2_with fail
 refine(Xfi _).mono ?_
 rintro e w4 ⟨rfl,hb⟩
 replace H2:=Zh (Xaa H2.out hb)
 replace HB:=Zh (HB.out.trans (hb.mono HB.out.size))
 replace V1:=Zh (V1.out.since hb)
 replace H5:=Zh (Xaa H5.out hb)
 replace O1:=Zh (O1.out.since hb)
 replace HS1:=Zh (HS1.out.below hb)
 have hz4:=hb.size
 clear hb
 have J0:Hid (RunK w.heap.size w4 x [] [] none 0 0 none 0 0 M nm mc R nr rc L n c w4):=Zh ⟨Xaq _,by omega,H2.out,MachV.av (HMV.out.since HB.out) (fun q hq=>⟨by omega,(fun _ h=>nomatch h),(fun _ h=>nomatch h)⟩),Xkz _ _,Xk0 _ _,(fun e h=>nomatch h),(fun _ _ h=>nomatch h)⟩
 go_upto_region 10 with(fail)
 go_loopw [61,10,11] (fun s61 s10 s11 wr=>∃(k:Nat) (es:List Tle) (TA:Option Addr) (tc:Nat) (SA:Option Addr) (sc:Nat) (M:Option Addr) (nm mc:Nat) (R:Option Addr) (nr rc:Nat) (L:Option Addr) (n c:Nat),k≤hn∧s61=.int .i64 k∧s10=.slice TA k tc∧s11=.slice SA k sc∧Hid (es.map Tle.t=runT x (hs.take k))∧Hid (RunK w.heap.size w4 (runS x (hs.take k)) es (runR x (hs.take k)) TA k tc SA k sc M nm mc R nr rc L n c wr)) (fun s61 _ _ _=>hn - (intOf s61).toNat)
 case atStart=>exact⟨0,[],none,0,none,0,M,nm,mc,R,nr,rc,L,n,c,by omega,rfl,rfl,rfl,rfl,J0.out⟩
 case round=>
  clear J0 HMV H2
  obtain⟨k,es,TA,tc,SA,sc,M,nm,mc,R,nr,rc,L,n,c,hk,rfl,rfl,rfl,hes,I0⟩:=hrel
  have HES:=Zh hes.out
  have hwc:=I0.out.chg.size
  have hwl:=I0.out.low
  have HBW:=Zh (Xa8 HB.out HB.out.size I0.out.chg (fun q hq e=>by omega))
  clear hes
  by_cases hlt:k<hn
  ·obtain⟨y,hyk⟩:=Xa2 hs (k:=k) (by rw[HHL.out];exact hlt)
   have HYK:=Zh hyk
   obtain⟨b,off,rfl,hb,hcc⟩:=(Xiy HH.out HBW.out).at_ (by omega)
   obtain⟨HD0,nd,cd,hcs,hda⟩:=hcc k y hyk
   have HRG:=Zh (Xmo hcs)
   have HDD:=Zh hda
   have HCK:=Zh (Xxl H0.out (hs.take k))
   have q1:(0:Int)≤(k:Int):=by omega
   have q2:(k:Int)<(hn:Int):=by omega
   obtain⟨⟨z,t⟩,hDA⟩:∃ r,doA (runS x (hs.take k)) y=r:=⟨_,rfl⟩
   obtain⟨E,hDE⟩:∃ E,doE (runS x (hs.take k)) y=E:=⟨_,rfl⟩
   have HDA:=Zh hDA
   have HDE:=Zh hDE
   clear hcc hcs hda hyk hDA hDE
   go_upto_region 12 with(first
    |(refine wpList_load_mid rfl 46 (.tmp 63) rfl b (off+k * 7) (by rfl) _ _ HRG.out Tryz.underlying46 rfl Tryz.sizeHap ?_)
    |(refine Xb6 rfl 46 (.tmp 13) (.tmp 64) rfl _ _ _ _ rfl rfl (by rfl) (by rfl) Tryz.sizeHap rfl (by rfl) ?_))
   generalize hwb:wr.alloc (.cells #[.int .i64 y.kind,.int .i64 y.n,.int .i64 y.a.dev,.int .i64 y.a.at_,.int .i64 y.a.count,.bool y.a.wr,.slice HD0 nd cd] 46)=w5
   have HA:=Zh (show Whl w5 wr.heap.size 46 #[.int .i64 y.kind,.int .i64 y.n,.int .i64 y.a.dev,.int .i64 y.a.at_,.int .i64 y.a.count,.bool y.a.wr,.slice HD0 nd cd] by rw[←hwb];exact Xac _ _ _ rfl)
   have hb:Below wr.heap.size wr w5:=by rw[←hwb];exact Xag _ _
   have hz5b:wr.heap.size+1≤w5.heap.size:=by rw[←hwb];simp
   replace HDD:=Zh (Xaf HDD.out hb)
   have I5:=Zh (I0.out.since hb)
   replace HBW:=Zh (HBW.out.trans (hb.mono (by omega)))
   clear hwb hb HRG I0
   go_wp2_with (first
    |(refine Xao rfl 33 (.tmp 2) rfl (w.heap.size) _ _ rfl I5.out.m _ Tryz.underlying33 rfl Tryz.sizeMach ?_)
    |(refine Xao rfl 46 (.tmp 13) rfl (wr.heap.size) _ _ rfl HA.out _ Tryz.underlying46 rfl Tryz.sizeHap ?_))
   have HE2:=Xl5 (runS x (hs.take k)) y M R L HD0 nm mc nr rc n c nd cd w5 (avk w.heap.size TA SA) I5.out.mv HDD.out HCK.out
   rw[HDA.out,HDE.out]at HE2
   refine HE2.mono ?_
   clear HE2
   rintro e w6 ⟨M5,nm5,mc5,R5,nr5,rc5,L5,n5,c5,D5,dn5,dc5,T5,tn5,tc5,rfl,hv5,ht5,hb⟩
   have VZ:=Zh hv5
   have VT:=Zh ht5
   have I6:=Zh (I5.out.since hb)
   have OTB:=Zh (Xat I5.out.ot.2.2.2)
   have OSB:=Zh (Xat I5.out.os.2.2.2)
   replace HBW:=Zh (HBW.out.trans (hb.mono HBW.out.size))
   have hz6:=hb.size
   clear hb hv5 ht5 HDD HA I5
   go_upto_region 13 with(first
    |(refine Xaj rfl 33 (.tmp 14) (.tmp 69) rfl (w6.heap.size) _ _ (M_.m z M5 nm5 mc5 R5 nr5 rc5 L5 n5 c5) rfl rfl (Xab (Xac w6 _ _ rfl) _) Tryz.sizeMach rfl rfl ?_;intro w8 h8 t8)
    |(refine Xaj rfl 49 (.tmp 15) (.tmp 70) rfl (w6.heap.size+1) _ _ #[.bool t.done,.slice D5 dn5 dc5,.int .i64 t.fault,.slice T5 tn5 tc5] rfl rfl (Xam (Xac (w6.alloc _) _ _ (by simp)) t8 (Nat.succ_ne_self _)) Tryz.sizeTold rfl rfl ?_;intro w9 h9 t9))
   have hw8:=t8.2
   have hw9:=t9.2
   (try simp only[World.size_alloc]at hw8)
   have hz9a:w9.heap.size≤w6.heap.size+2:=by omega
   have hz9b:w6.heap.size+2≤w9.heap.size:=by omega
   have C9:=Xa4 (Xbp (Q:=fun q=>w6.heap.size≤q) t8.1 (fun q _ e=>by omega)) (Xbp t9.1 (fun q _ e=>by omega))
   have hb:Below w6.heap.size w6 w9:=Xa8 (((Below.refl w6.heap.size w6).alloc (Nat.le_refl _) _).alloc (by simp) _) (by simp;omega) C9 (fun q hq e=>by omega)
   have H14:=Zh (Xam h8 t9 (Nat.ne_of_lt (Nat.lt_succ_self _)))
   have H15:=Zh h9
   have I9:=Zh (I6.out.since hb)
   replace HBW:=Zh (HBW.out.trans (hb.mono HBW.out.size))
   replace VZ:=Zh (MachV.since (x:=z) (MachV.lt VZ.out) hb)
   replace VT:=Zh (TldV.since (t:=t) (TldV.lt VT.out) hb)
   clear hb C9 t8 t9 h8 h9 hw8 hw9 I6
   by_cases hE:E=0
   ·have t0:(E==0)=true:=by rw[beq_iff_eq];exact hE
    have HE:=Zh hE
    clear hE
    go_upto_region 15 with(first
     |(refine Xao rfl 33 (.tmp 14) rfl (w6.heap.size) _ _ rfl H14.out _ Tryz.underlying33 rfl Tryz.sizeMach ?_)
     |(refine Xaj rfl 33 (.tmp 2) (.tmp 74) rfl (w.heap.size) _ _ (M_.m z M5 nm5 mc5 R5 nr5 rc5 L5 n5 c5) rfl rfl I9.out.m Tryz.sizeMach rfl rfl ?_;intro w11 h11 t11))
    have hw11:=t11.2
    have hz11:w9.heap.size≤w11.heap.size:=Nat.le_of_eq hw11.symm
    have HBX:=Zh (Xaw HBW.out HBW.out.size t11 (Nat.le_refl _))
    have IX:=Zh (RunK.store I9.out h11 t11 (MachV.av (x:=z) VZ.out (fun q hq=>by
     rcases hq with⟨hq|hq,hq2⟩
     ·exact hq
     ·exact⟨by omega,fun ad e=>by have:=(OTB.out ad e).2;omega,fun ad e=>by have:=(OSB.out ad e).2;omega⟩)))
    have TX:=Zh (TldV.av (TldV.trn VT.out t11 (fun hq=>by have:=hq.1;omega)) (Av':=avk w.heap.size TA SA) (fun q hq=>⟨by have:=hq.1;omega,fun ad e=>by have:=(OTB.out ad e).2;have:=hq.1;omega,fun ad e=>by have:=(OSB.out ad e).2;have:=hq.1;omega⟩))
    have HX15:=Zh (Xam H15.out t11 (by omega))
    clear h11 t11 hw11
    go_wp2_with (first
     |(refine Xao rfl 49 (.tmp 15) rfl ((w6.heap.size+1)) _ _ rfl HX15.out _ Tryz.underlying49 rfl Tryz.sizeTold ?_)
     |(at_builtin;refine wpList_append_lies _ rfl (.tmp 75) (.tmp 77) 35 rfl w4.heap.size 49 j0 (.agg B_.t) 4 64 Tryz.underlying35 HJ.out HJ0.out HJ1.out HJ2.out rfl (by decide) (.slice TA k tc) k (Xdl es) rfl (RunK.since IX.out ((Below.refl _ _).alloc (Nat.le_refl _) _)).ot.2.2.2 ⟨w11.heap.size,0,none⟩ 1 1 (Tle.vals ⟨t,D5,dn5,dc5,T5,tn5,tc5⟩) rfl rfl (Xcz (by simp) rfl) (Xko _) (by decide) (by unfold maxLen;omega) (by omega) (by simp;omega) _ rfl ?_;intro gt capt w20 hownt hgrowt hatt hltt;have I20:=RunK.told (e:=⟨t,D5,dn5,dc5,T5,tn5,tc5⟩) (RunK.since IX.out ((Below.refl _ _).alloc (Nat.le_refl _) _)) hgrowt hownt hatt (TldV.since TX.out ((Below.refl _ _).alloc (Nat.le_refl _) _));have hz20:=I20.chg.size)
     |(at_builtin;refine wpList_append_lies _ rfl (.tmp 79) (.tmp 81) 36 rfl w4.heap.size 37 i0 (.int .i64 0) 1 8 Tryz.underlying36 HI.out HI0.out HI1.out HI2.out rfl (by decide) (.slice SA k sc) k ((runR x (hs.take k)).map (Value.int .i64)) rfl (RunK.since I20 ((Below.refl _ _).alloc (Nat.le_refl _) _)).os.2.2.2 ⟨w20.heap.size,0,none⟩ 1 1 [.int .i64 E] rfl rfl (Xcz (by simp) rfl) (Xh8 _) (by decide) (by unfold maxLen;omega) (by omega) (by simp;omega) _ rfl ?_;intro gs caps w21 howns hgrows hats hlts;have I21:=RunK.said (v:=E) (RunK.since I20 ((Below.refl _ _).alloc (Nat.le_refl _) _)) hgrows howns hats))
    go_roundw
    case rel=>
     obtain⟨e1,e2,e3⟩:=Xhg (x:=x) HYK.out
     refine⟨k+1,es ++ [⟨t,D5,dn5,dc5,T5,tn5,tc5⟩],some ⟨gt,0,none⟩,capt,some ⟨gs,0,none⟩,caps,M5,nm5,mc5,R5,nr5,rc5,L5,n5,c5,by omega,by go_num,rfl,rfl, ?_, ?_⟩
     ·show(es ++ [_]).map Tle.t=_
      rw[List.map_append,HES.out,e2,HDA.out];rfl
     ·show RunK _ _ _ _ _ _ _ _ _ _ _ _ _ _ _ _ _ _ _ _ _
      rw[e1,e3,nxt_0 (by rw[HDE.out];exact HE.out),HDA.out,HDE.out]
      exact I21
    case measure=>simp[intOf];omega
   ·have t0:(E==0)=false:=beq_eq_false_iff_ne.2 hE
    have HE:=Zh hE
    clear hE
    go_upto_region 15 with(fail)
    obtain⟨w11,hw11⟩:∃ w11,w11=w9:=⟨_,rfl⟩
    subst hw11
    have hz11:w11.heap.size≤w11.heap.size:=Nat.le_refl _
    have IX:=I9
    have TX:=Zh (TldV.av VT.out (Av':=avk w.heap.size TA SA) (fun q hq=>⟨by have:=hq.1;omega,fun ad e=>by have:=(OTB.out ad e).2;have:=hq.1;omega,fun ad e=>by have:=(OSB.out ad e).2;have:=hq.1;omega⟩))
    have HX15:=H15
    go_wp2_with (first
     |(refine Xao rfl 49 (.tmp 15) rfl ((w6.heap.size+1)) _ _ rfl HX15.out _ Tryz.underlying49 rfl Tryz.sizeTold ?_)
     |(at_builtin;refine wpList_append_lies _ rfl (.tmp 75) (.tmp 77) 35 rfl w4.heap.size 49 j0 (.agg B_.t) 4 64 Tryz.underlying35 HJ.out HJ0.out HJ1.out HJ2.out rfl (by decide) (.slice TA k tc) k (Xdl es) rfl (RunK.since IX.out ((Below.refl _ _).alloc (Nat.le_refl _) _)).ot.2.2.2 ⟨w11.heap.size,0,none⟩ 1 1 (Tle.vals ⟨t,D5,dn5,dc5,T5,tn5,tc5⟩) rfl rfl (Xcz (by simp) rfl) (Xko _) (by decide) (by unfold maxLen;omega) (by omega) (by simp;omega) _ rfl ?_;intro gt capt w20 hownt hgrowt hatt hltt;have I20:=RunK.told (e:=⟨t,D5,dn5,dc5,T5,tn5,tc5⟩) (RunK.since IX.out ((Below.refl _ _).alloc (Nat.le_refl _) _)) hgrowt hownt hatt (TldV.since TX.out ((Below.refl _ _).alloc (Nat.le_refl _) _));have hz20:=I20.chg.size)
     |(at_builtin;refine wpList_append_lies _ rfl (.tmp 79) (.tmp 81) 36 rfl w4.heap.size 37 i0 (.int .i64 0) 1 8 Tryz.underlying36 HI.out HI0.out HI1.out HI2.out rfl (by decide) (.slice SA k sc) k ((runR x (hs.take k)).map (Value.int .i64)) rfl (RunK.since I20 ((Below.refl _ _).alloc (Nat.le_refl _) _)).os.2.2.2 ⟨w20.heap.size,0,none⟩ 1 1 [.int .i64 E] rfl rfl (Xcz (by simp) rfl) (Xh8 _) (by decide) (by unfold maxLen;omega) (by omega) (by simp;omega) _ rfl ?_;intro gs caps w21 howns hgrows hats hlts;have I21:=RunK.said (v:=E) (RunK.since I20 ((Below.refl _ _).alloc (Nat.le_refl _) _)) hgrows howns hats))
    go_roundw
    case rel=>
     obtain⟨e1,e2,e3⟩:=Xhg (x:=x) HYK.out
     refine⟨k+1,es ++ [⟨t,D5,dn5,dc5,T5,tn5,tc5⟩],some ⟨gt,0,none⟩,capt,some ⟨gs,0,none⟩,caps,M,nm,mc,R,nr,rc,L,n,c,by omega,by go_num,rfl,rfl, ?_, ?_⟩
     ·show(es ++ [_]).map Tle.t=_
      rw[List.map_append,HES.out,e2,HDA.out];rfl
     ·show RunK _ _ _ _ _ _ _ _ _ _ _ _ _ _ _ _ _ _ _ _ _
      rw[e1,e3,nxt_n (by rw[HDE.out];exact HE.out),HDE.out]
      exact I21
    case measure=>simp[intOf];omega
  ·obtain rfl:k=hn:=by omega
   have hh3:¬((k:Int)<(k:Int)):=by omega
   clear hlt
   have ea:hs.take k=hs:=List.take_of_length_le (by rw[HHL.out];exact Nat.le_refl _)
   have HES2:=Zh (show es.map Tle.t=runT x hs by rw[HES.out,ea])
   have I1:=Zh (show RunK w.heap.size w4 (runS x hs) es (runR x hs) TA k tc SA k sc M nm mc R nr rc L n c wr by have h:=I0.out;rw[ea]at h;exact h)
   clear ea I0 HES
   have TK:=Zh (Xkp I1.out.ot I1.out.el)
   have RV:=Zh (V1.out)
   have C1:=I1.out.chg
   have V1':=Zh (MachV.chg V1.out C1 (fun q e hq=>by omega))
   have O1':=Zh (Xuo O1.out C1 OG1.out)
   have S1':=Zh (HS1.out.chg C1 (fun ad e hp=>by have:=(Xat HS1.out.2.2.2 ad e).1;omega))
   have k2:=fun o=>Xad I1.out.m o
   have k5:=fun o=>Xad (Xa6 H5.out C1 (by omega)) o
   have HEQ:=Zh (show eqI rs (runR x hs)=true by rw[HR0.out];simp[eqI])
   have HEF:=Zh (show eqE2 fs es=true by unfold eqE2;rw[HTS.out,HES2.out,HT0.out];simp)
   have HEM:=Zh (show Xj2 y1 (runS x hs)=true by rw[HY.out];simp[Xj2])
   have I1s:=I1
   clear k2 k5
   go_wp2_with fail
   refine(Xly SA1 SA sn1 k sc1 sc rs (runR x hs) _ (Xmr S1'.out) (Xmr I1.out.os)).mono ?_
   rw[HEQ.out]
   rintro e w20 ⟨rfl,hb⟩
   replace V1':=Zh (V1'.out.since hb)
   replace O1':=Zh (O1'.out.since hb)
   replace I1:=Zh (I1.out.since hb)
   replace TK:=Zh (TK.out.since hb)
   replace HBW:=Zh (HBW.out.trans (hb.mono HBW.out.size))
   have H5':=Zh (Xaa (Xa6 H5.out C1 (by omega)) hb)
   clear hb C1
   go_wp2_with fail
   refine(Xks TA1 TA tn1 k tc1 tc fs es _ O1'.out TK.out).mono ?_
   rw[HEF.out]
   rintro e w21 ⟨rfl,hb⟩
   replace V1':=Zh (V1'.out.since hb)
   replace I1:=Zh (I1.out.since hb)
   replace HBW:=Zh (HBW.out.trans (hb.mono HBW.out.size))
   replace H5':=Zh (Xaa H5'.out hb)
   clear hb
   have k2:=fun o=>Xad I1.out.m o
   have k5:=fun o=>Xad H5'.out o
   go_wp2_with fail
   clear k2 k5
   refine(Xez y1 (runS x hs) M1 R1 L1 M R L nm1 mc1 nr1 rc1 n1 c1 nm mc nr rc n c _ V1'.out.hm V1'.out.hr V1'.out.hl I1.out.mv.hm I1.out.mv.hr I1.out.mv.hl).mono ?_
   rw[HEM.out]
   rintro e w22 ⟨rfl,hb⟩
   replace HBW:=Zh (HBW.out.trans (hb.mono HBW.out.size))
   clear hb
   go_wp2
   go_ret
   exact⟨rfl,HBW.out⟩
theorem Xjf (x:Mch) (hs:List Hap) (M R L HA:Option Addr) (hn hc:Nat) (w:World) (nm mc nr rc n c:Nat) (hm:Ints w w.heap.size M nm x.m) (hr:Ints w w.heap.size R nr x.h.regs) (hl:Lines w w.heap.size L n c x.b.cache) (hh:Haps w w.heap.size HA hn hc hs) :
  Calls Tryz.prog 3 #[.agg (M_.m x M nm mc R nr rc L n c),.slice HA hn hc] w fun e w'=>e=.returned (.bool true)∧Below w.heap.size w w':=by
 by_cases h0:ckM x=0
 ·by_cases h1:hn≤120
  ·exact Xvd x hs M R L HA hn hc w nm mc nr rc n c hm hr hl hh h0 h1
  ·exact Xmi x hs M R L HA hn hc w nm mc nr rc n c hm hr hl hh (Or.inr (by omega))
 ·exact Xmi x hs M R L HA hn hc w nm mc nr rc n c hm hr hl hh (Or.inl h0)
end
section
open Go.RowKit
set_option linter.unusedSimpArgs false
set_option linter.unusedVariables false
open Go.ChangeShapes Go.WideShapes Go.ChangeAt
set_option maxRecDepth 100000 in
theorem Xhm (os:Os) (started:os.Started) (H:Type) (enc:TypeId×Value→H) :
  ReturnsInHanded {} Tryz.checked os 3 .any (Rows.machineRunsSpec.pre6 enc Tryz.prog Tryz.f3 Rows.machineRunsRow.domain false) (Rows.machineRunsSpec.post enc Tryz.prog Tryz.f3 false true false false):=by
 refine returnsInHanded_of_change (C:=Tryz.checked) Tryz.own started (by kernel_rfl) Tryz.func3
  (ChangeSpec.witness6 (enc:=enc) (C:=Tryz.checked) false ⟨#[],#[.agg B_.y,.slice none 0 0],[]⟩ 8 (by kernel_rfl) (by kernel_rfl) (by kernel_rfl) (by kernel_rfl)) ?_
 intro W base args ds gs before hval0 hW hcnd _
 have hval:∀(j:Nat) t v,Tryz.f3.params[j]?=some t→args[j]?=some v→Value.okWide Tryz.prog W .any base t v:=hval0
 have hW':=hW
 obtain⟨p,q,hA0,hV,hps,hfz,hnd⟩:=hW
 have hA:DataW.TrodAll enc Tryz.prog W 0 (fun _=>true) true Tryz.f3.params.toList args.toList ds p:=hA0
 rw[Tryz.params3]at hA hval
 clear hA0 hval0 hcnd
 obtain⟨v0,vs0,d0,ds0,p0,q0,hargs,rfl,hp0,h0,r0⟩:=trodAll_cons hA
 obtain⟨v1,vs1,d1,ds1,p1,q1,rfl,rfl,hp1,h1,r1⟩:=trodAll_cons r0
 obtain⟨rfl,rfl,_⟩:=trodAll_nil r1
 obtain rfl:args=#[v0,v1]:=by cases args;simp_all
 obtain⟨rfl,rfl⟩:=trodVars_none hV
 obtain⟨x,M,R,L,nm,mc,nr,rc,n,c,rfl,hM,hR,hL⟩:=Xmh (hval 0 33 v0 rfl rfl) h0
 obtain⟨HA,hn,hc,hs,rfl,hH⟩:=Xsn (hval 1 34 v1 rfl rfl) h1
 refine(Xjf x hs M R L HA hn hc W nm mc nr rc n c hM hR hL hH).mono fun e W' ⟨he,hb⟩=>?_
 subst he
 exact⟨_,rfl,Xvk Tryz.laidOut (by kernel_rfl) rfl Tryz.underlying4 rfl hW' rfl rfl rfl hb⟩
theorem machineRuns_holds:Rows.MachineRunsSaid:=
 OpenClaim.holds_of_wide 3 Tryz.f3 rfl rfl rfl rfl rfl rfl rfl ⟨rfl,rfl,rfl,rfl,rfl⟩ rfl rfl rfl rfl rfl (by kernel_rfl) Tryz.func3 (by kernel_rfl)
  (of_decide_eq_true (by kernel_rfl)) (by unfold Func.isWrapper;first|(rw[if_pos (by decide +kernel)];kernel_rfl)|(rw[if_neg (by decide +kernel)];exact⟨rfl,rfl⟩))
  (fun os started H enc _=>Xhm os started H enc)
end
end Go.Proofs.YtbopdijnojaaiaaGreat
