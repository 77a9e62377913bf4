/- The document's bridge: the walks of CheckBridge and SameBridge. No statement of the seat is proved here. -/
import Derived.Test.YtbopdijnojaaiadGreatRefC
import Derived.Test.YtbopdijnojaaiadGreatRingR
import Derived.Test.YtbopdijnojaaiadGreatBridgeS
namespace Go.Proofs.YtbopdijnojaaiadGreat
set_option maxRecDepth 100000
set_option maxHeartbeats 8000000
open Go.RowKit
set_option linter.unusedSimpArgs false
set_option linter.unusedVariables false
theorem Xr9 (r:Ring) (w:World):Calls Tryz.prog 53 #[.agg #[.int .i64 r.page,.int .i64 r.head,.int .i64 r.tail]] w fun e w'=>e=.returned (.int .i64 (ckR r))∧Below w.heap.size w w':=Xhh r.page r.head r.tail w
theorem Xjb (b:Brg) (A:Option Addr) (n c:Nat) (w:World) (h:Lines w w.heap.size A n c b.cache) :
  Calls Tryz.prog 19 #[.agg (B_.b b A n c)] w fun e w'=>e=.returned (.int .i64 (ckB b))∧Below w.heap.size w w':=by
 have HB:=Zh (Xag w)
 have HL:=Zh h
 clear h
 by_cases hR:brgR b
 ·have HR:=Zh hR
  have i1:inB b.mode 0 2=true:=Xb2 hR.1
  have i2:inB b.base 0 63=true:=Xb2 (by have:=hR.2.1;omega)
  have i3:inB b.fences 0 999=true:=Xb2 (by have:=hR.2.2;omega)
  clear hR
  by_cases hc:ckC b.cache=0
  ·have hc0:(ckC b.cache==0)=true:=by rw[beq_iff_eq];exact hc
   by_cases ho:Xco b.orders
   ·have ho0:(ckR b.orders==0)=true:=by rw[beq_iff_eq];exact Xmy ho
    have HQ:=Zh (ckB_f HR.out hc ho)
    rw[HQ.out]
    have HCC:=Zh hc
    have HOO:=Zh (Xmy ho)
    clear hc ho hc0 ho0
    go_enter Tryz.func19,Tryz.ntmps19
    go_wp2_with (go_at_call 38;refine(Xbc _ _ _ _).mono ?_;rintro e w' ⟨rfl,rfl⟩)
    refine(Xbf _ _ _ _ _ (Xah HL.out (bl (by repeat' first|with_reducible(first|assumption|constructor)|((try simp)<;>omega))))).mono ?_
    rw[HCC.out]
    rintro e w1 ⟨rfl,hb1⟩
    have hz1:=hb1.size
    (try simp only[Zs]at hz1)
    obtain⟨k1_0,l1_0,q1_0⟩:=aft hb1 (w.heap.size) (by(try simp)<;>omega)
    simp(maxDischargeDepth:=6) [go_sem, *]at k1_0 q1_0
    have HB1:=Zh hb1
    clear hb1
    go_wp2_with fail
    refine(Xr9 _ _).mono ?_
    rw[HOO.out]
    rintro e w2 ⟨rfl,hb2⟩
    have hz2:=hb2.size
    (try simp only[Zs]at hz2)
    obtain⟨k2_0,l2_0,q2_0⟩:=aft hb2 (w.heap.size) (by(try simp)<;>omega)
    simp(maxDischargeDepth:=6) [go_sem, *]at k2_0 q2_0
    have HB2:=Zh hb2
    clear hb2
    go_wp2_with fail
    refine(Xr9 _ _).mono ?_
    rintro e w3 ⟨rfl,hb3⟩
    have hz3:=hb3.size
    (try simp only[Zs]at hz3)
    have HB3:=Zh hb3
    clear hb3
    go_wp2
    go_ret
    exact⟨rfl,bl (by repeat' first|with_reducible(first|assumption|constructor)|((try simp)<;>omega))⟩
   ·have HQ:=Zh (ckB_o HR.out hc ho)
    rw[HQ.out]
    have HCC:=Zh hc
    have HOO:=Zh (Xof ho)
    clear hc ho hc0
    go_enter Tryz.func19,Tryz.ntmps19
    go_wp2_with (go_at_call 38;refine(Xbc _ _ _ _).mono ?_;rintro e w' ⟨rfl,rfl⟩)
    refine(Xbf _ _ _ _ _ (Xah HL.out (bl (by repeat' first|with_reducible(first|assumption|constructor)|((try simp)<;>omega))))).mono ?_
    rw[HCC.out]
    rintro e w1 ⟨rfl,hb1⟩
    have hz1:=hb1.size
    (try simp only[Zs]at hz1)
    obtain⟨k1_0,l1_0,q1_0⟩:=aft hb1 (w.heap.size) (by(try simp)<;>omega)
    simp(maxDischargeDepth:=6) [go_sem, *]at k1_0 q1_0
    have HB1:=Zh hb1
    clear hb1
    go_wp2_with fail
    refine(Xr9 _ _).mono ?_
    rw[HOO.out]
    rintro e w2 ⟨rfl,hb2⟩
    have hz2:=hb2.size
    (try simp only[Zs]at hz2)
    obtain⟨k2_0,l2_0,q2_0⟩:=aft hb2 (w.heap.size) (by(try simp)<;>omega)
    simp(maxDischargeDepth:=6) [go_sem, *]at k2_0 q2_0
    have HB2:=Zh hb2
    clear hb2
    go_wp2
    go_ret
    exact⟨rfl,bl (by repeat' first|with_reducible(first|assumption|constructor)|((try simp)<;>omega))⟩
  ·have hc0:(ckC b.cache==0)=false:=beq_eq_false_iff_ne.2 hc
   have HQ:=Zh (ckB_c HR.out hc)
   rw[HQ.out]
   clear hc
   go_enter Tryz.func19,Tryz.ntmps19
   go_wp2_with (go_at_call 38;refine(Xbc _ _ _ _).mono ?_;rintro e w' ⟨rfl,rfl⟩)
   refine(Xbf _ _ _ _ _ (Xah HL.out (bl (by repeat' first|with_reducible(first|assumption|constructor)|((try simp)<;>omega))))).mono ?_
   rintro e w1 ⟨rfl,hb1⟩
   have hz1:=hb1.size
   (try simp only[Zs]at hz1)
   obtain⟨k1_0,l1_0,q1_0⟩:=aft hb1 (w.heap.size) (by(try simp)<;>omega)
   simp(maxDischargeDepth:=6) [go_sem, *]at k1_0 q1_0
   have HB1:=Zh hb1
   clear hb1
   go_wp2
   go_ret
   exact⟨rfl,bl (by repeat' first|with_reducible(first|assumption|constructor)|((try simp)<;>omega))⟩
 ·rw[ckB_r hR]
  have hr2:(¬(0≤b.mode∧b.mode≤2))∨((0≤b.mode∧b.mode≤2)∧¬(0≤b.base∧b.base≤63))∨((0≤b.mode∧b.mode≤2)∧(0≤b.base∧b.base≤63)∧¬(0≤b.fences∧b.fences≤999)):=by unfold brgR at hR;omega
  clear hR
  rcases hr2 with r1|⟨r1,r2⟩|⟨r1,r2,r3⟩
  ·have i1:inB b.mode 0 2=false:=Xgs r1
   clear r1
   go_enter Tryz.func19,Tryz.ntmps19
   go_wp2_with (go_at_call 38;refine(Xbc _ _ _ _).mono ?_;rintro e w' ⟨rfl,rfl⟩)
   go_ret
   exact⟨rfl,HB.out _⟩
  ·have i1:inB b.mode 0 2=true:=Xb2 r1
   have i2:inB b.base 0 63=false:=Xgs r2
   clear r1 r2
   go_enter Tryz.func19,Tryz.ntmps19
   go_wp2_with (go_at_call 38;refine(Xbc _ _ _ _).mono ?_;rintro e w' ⟨rfl,rfl⟩)
   go_ret
   exact⟨rfl,HB.out _⟩
  ·have i1:inB b.mode 0 2=true:=Xb2 r1
   have i2:inB b.base 0 63=true:=Xb2 r2
   have i3:inB b.fences 0 999=false:=Xgs r3
   clear r1 r2 r3
   go_enter Tryz.func19,Tryz.ntmps19
   go_wp2_with (go_at_call 38;refine(Xbc _ _ _ _).mono ?_;rintro e w' ⟨rfl,rfl⟩)
   go_ret
   exact⟨rfl,HB.out _⟩
theorem Xj3 (a b:Brg) (A B:Option Addr) (n c n2 c2:Nat) (w:World) (h1:Lines w w.heap.size A n c a.cache) (h2:Lines w w.heap.size B n2 c2 b.cache) :
  Calls Tryz.prog 31 #[.agg (B_.b a A n c),.agg (B_.b b B n2 c2)] w fun e w'=>e=.returned (.bool (Xp6 a b))∧Below w.heap.size w w':=by
 have H1:=Zh h1
 have H2:=Zh h2
 have HB:=Zh (fun o o'=>((Xag w o).alloc (by simp) o'))
 rw[Xrz]
 clear h1 h2
 cases t1:(a.mode==b.mode)
 ·go_enter Tryz.func31,Tryz.ntmps31
  go_wp2
  go_ret
  exact⟨rfl,HB.out _ _⟩
 cases t2:(a.base==b.base)
 ·go_enter Tryz.func31,Tryz.ntmps31
  go_wp2
  go_ret
  exact⟨rfl,HB.out _ _⟩
 cases t3:eqL a.cache b.cache
 ·have HQ:=Zh t3
  clear t3
  go_enter Tryz.func31,Tryz.ntmps31
  go_wp2_with fail
  refine(Xlx _ _ _ _ _ _ a.cache b.cache _ (Xah H1.out (bl (by repeat' first|with_reducible(first|assumption|constructor)|((try simp)<;>omega)))) (Xah H2.out (bl (by repeat' first|with_reducible(first|assumption|constructor)|((try simp)<;>omega))))).mono ?_
  rw[HQ.out]
  rintro e w1 ⟨rfl,hb1⟩
  have hz1:=hb1.size
  (try simp only[Zs]at hz1)
  obtain⟨k1_0,l1_0,q1_0⟩:=aft hb1 (w.heap.size) (by(try simp)<;>omega)
  obtain⟨k1_1,l1_1,q1_1⟩:=aft hb1 (w.heap.size+1) (by(try simp)<;>omega)
  simp(maxDischargeDepth:=6) [go_sem, *]at k1_0 q1_0 k1_1 q1_1
  have HB1:=Zh hb1
  clear hb1
  go_wp2
  go_ret
  exact⟨rfl,bl (by repeat' first|with_reducible(first|assumption|constructor)|((try simp)<;>omega))⟩
 have HQ:=Zh t3
 clear t3
 go_enter Tryz.func31,Tryz.ntmps31
 go_wp2_with fail
 refine(Xlx _ _ _ _ _ _ a.cache b.cache _ (Xah H1.out (bl (by repeat' first|with_reducible(first|assumption|constructor)|((try simp)<;>omega)))) (Xah H2.out (bl (by repeat' first|with_reducible(first|assumption|constructor)|((try simp)<;>omega))))).mono ?_
 rw[HQ.out]
 rintro e w1 ⟨rfl,hb1⟩
 have hz1:=hb1.size
 (try simp only[Zs]at hz1)
 obtain⟨k1_0,l1_0,q1_0⟩:=aft hb1 (w.heap.size) (by(try simp)<;>omega)
 obtain⟨k1_1,l1_1,q1_1⟩:=aft hb1 (w.heap.size+1) (by(try simp)<;>omega)
 simp(maxDischargeDepth:=6) [go_sem, *]at k1_0 q1_0 k1_1 q1_1
 have HB1:=Zh hb1
 clear hb1
 have r1:=fun w=>Tryz.eqlRing a.orders b.orders w
 have r2:=fun w=>Tryz.eqlRing a.faults b.faults w
 cases t4:(Xih a.orders b.orders)
 ·rw[t4]at r1
  go_wp2
  go_ret
  exact⟨Xbr (by simp[t4]),bl (by repeat' first|with_reducible(first|assumption|constructor)|((try simp)<;>omega))⟩
 rw[t4]at r1
 cases t5:(a.stopped==b.stopped)
 ·skip
  go_wp2
  go_ret
  exact⟨Xbr (by simp[t4,t5]),bl (by repeat' first|with_reducible(first|assumption|constructor)|((try simp)<;>omega))⟩
 cases t6:(a.fences==b.fences)
 ·skip
  go_wp2
  go_ret
  exact⟨Xbr (by simp[t4,t5,t6]),bl (by repeat' first|with_reducible(first|assumption|constructor)|((try simp)<;>omega))⟩
 cases t7:(Xih a.faults b.faults)
 ·rw[t7]at r2
  go_wp2
  go_ret
  exact⟨Xbr (by simp[t4,t5,t6,t7]),bl (by repeat' first|with_reducible(first|assumption|constructor)|((try simp)<;>omega))⟩
 rw[t7]at r2
 go_wp2
 go_ret
 exact⟨Xbr (by simp[t4,t5,t6,t7]),bl (by repeat' first|with_reducible(first|assumption|constructor)|((try simp)<;>omega))⟩
end Go.Proofs.YtbopdijnojaaiadGreat
