/- The bridge: the walks of the program's Copy, all and asked. No statement of the seat is proved here. -/
import Derived.Test.YtbopdijnojaaiadGreatBase
import Derived.Test.YtbopdijnojaaiadGreatFillZ
import Derived.Test.YtbopdijnojaaiadGreatRing
import Derived.Test.YtbopdijnojaaiadGreatSlices
namespace Go.Proofs.YtbopdijnojaaiadGreat
set_option maxRecDepth 100000
set_option maxHeartbeats 4000000
open Go.RowKit
set_option linter.unusedSimpArgs false
set_option linter.unusedVariables false
section
theorem Xnv (r:Ring) (w:World):Calls Tryz.prog 56 #[.agg #[.int .i64 r.page,.int .i64 r.head,.int .i64 r.tail]] w fun e w'=>e=.returned (.int .i64 (ckR r))∧Below w.heap.size w w':=Xj9 r.page r.head r.tail w
theorem ckB_r {b:Brg} (h:¬brgR b):ckB b=2:=by unfold ckB;rw[if_neg h]
theorem ckB_c {b:Brg} (h:brgR b) (h':ckC b.cache≠0):ckB b=ckC b.cache:=by unfold ckB;rw[if_pos h,if_neg h']
theorem ckB_o {b:Brg} (h:brgR b) (h':ckC b.cache=0) (h2:¬Xco b.orders):ckB b=2:=by unfold ckB;rw[if_pos h,if_pos h',if_neg h2]
theorem ckB_f {b:Brg} (h:brgR b) (h':ckC b.cache=0) (h2:Xco b.orders):ckB b=ckR b.faults:=by unfold ckB;rw[if_pos h,if_pos h',if_pos h2]
theorem Xbh (b:Brg) (A:Option Addr) (n c:Nat) (w:World) (h:Lines w w.heap.size A n c b.cache) :
  Calls Tryz.prog 25 #[.agg (B_.b b A n c)] w fun e w'=>e=.returned (.int .i64 (ckB b))∧Below w.heap.size w w':=by
 have HB:=Zh (Xag w)
 have HL:=Zh h
 clear h
 by_cases hR:brgR b
 ·have HR:=Zh hR
  unfold brgR at hR
  obtain⟨⟨r1,r2⟩,⟨r3,r4⟩,r5,r6⟩:=hR
  by_cases hc:ckC b.cache=0
  ·have hc0:(ckC b.cache != 0)=false:=by rw[bne_eq_false_iff_eq];exact hc
   by_cases ho:Xco b.orders
   ·have ho0:(ckR b.orders != 0)=false:=by rw[bne_eq_false_iff_eq];exact Xmy ho
    rw[ckB_f HR.out hc ho]
    clear hc ho
    go_enter Tryz.func25,Tryz.ntmps25
    go_wp2_with fail
    refine(Xba _ _ _ _ _ ((HL.out.alloc (Nat.le_refl _) _).more (by simp))).mono ?_
    rintro e w1 ⟨rfl,hb1⟩
    have hz1:=hb1.size
    (try simp only[Zs]at hz1)
    obtain⟨k1_0,l1_0,q1_0⟩:=aft hb1 (w.heap.size) (by(try simp)<;>omega)
    simp(maxDischargeDepth:=6) [go_sem, *]at k1_0 q1_0
    have HB1:=Zh hb1
    clear hb1
    go_wp2_with fail
    refine(Xnv _ _).mono ?_
    rintro e w2 ⟨rfl,hb2⟩
    have hz2:=hb2.size
    (try simp only[Zs]at hz2)
    obtain⟨k2_0,l2_0,q2_0⟩:=aft hb2 (w.heap.size) (by(try simp)<;>omega)
    simp(maxDischargeDepth:=6) [go_sem, *]at k2_0 q2_0
    have HB2:=Zh hb2
    clear hb2
    go_wp2_with fail
    refine(Xnv _ _).mono ?_
    rintro e w3 ⟨rfl,hb3⟩
    have hz3:=hb3.size
    (try simp only[Zs]at hz3)
    have HB3:=Zh hb3
    clear hb3
    go_wp2
    go_ret
    exact⟨rfl,bl (by repeat' first|with_reducible(first|assumption|constructor)|((try simp)<;>omega))⟩
   ·have ho0:(ckR b.orders != 0)=true:=by rw[Xof ho];rfl
    have HO:=Zh (Xof ho)
    rw[ckB_o HR.out hc ho]
    clear hc ho
    go_enter Tryz.func25,Tryz.ntmps25
    go_wp2_with fail
    refine(Xba _ _ _ _ _ ((HL.out.alloc (Nat.le_refl _) _).more (by simp))).mono ?_
    rintro e w1 ⟨rfl,hb1⟩
    have hz1:=hb1.size
    (try simp only[Zs]at hz1)
    obtain⟨k1_0,l1_0,q1_0⟩:=aft hb1 (w.heap.size) (by(try simp)<;>omega)
    simp(maxDischargeDepth:=6) [go_sem, *]at k1_0 q1_0
    have HB1:=Zh hb1
    clear hb1
    go_wp2_with fail
    refine(Xnv _ _).mono ?_
    rintro e w2 ⟨rfl,hb2⟩
    have hz2:=hb2.size
    (try simp only[Zs]at hz2)
    have HB2:=Zh hb2
    clear hb2
    go_wp2
    go_ret
    exact⟨Xbv HO.out,bl (by repeat' first|with_reducible(first|assumption|constructor)|((try simp)<;>omega))⟩
  ·have hc0:(ckC b.cache != 0)=true:=by rw[bne_iff_ne];exact hc
   rw[ckB_c HR.out hc]
   clear hc
   go_enter Tryz.func25,Tryz.ntmps25
   go_wp2_with fail
   refine(Xba _ _ _ _ _ ((HL.out.alloc (Nat.le_refl _) _).more (by simp))).mono ?_
   rintro e w1 ⟨rfl,hb1⟩
   have hz1:=hb1.size
   (try simp only[Zs]at hz1)
   have HB1:=Zh hb1
   clear hb1
   go_wp2
   go_ret
   exact⟨rfl,bl (by repeat' first|with_reducible(first|assumption|constructor)|((try simp)<;>omega))⟩
 ·rw[ckB_r hR]
  have hr2:b.mode<0∨(0≤b.mode∧2<b.mode)∨(0≤b.mode∧b.mode≤2∧b.base<0)∨(0≤b.mode∧b.mode≤2∧0≤b.base∧64≤b.base)∨(0≤b.mode∧b.mode≤2∧0≤b.base∧b.base<64∧b.fences<0)∨(0≤b.mode∧b.mode≤2∧0≤b.base∧b.base<64∧0≤b.fences∧1000≤b.fences):=by unfold brgR at hR;omega
  clear hR
  rcases hr2 with r1|⟨r1,r2⟩|⟨r1,r2,r3⟩|⟨r1,r2,r3,r4⟩|⟨r1,r2,r3,r4,r5⟩|⟨r1,r2,r3,r4,r5,r6⟩
  all_goals
   go_enter Tryz.func25,Tryz.ntmps25
   go_wp2
   go_ret
   exact⟨rfl,HB.out _⟩
end
section
theorem Xdd (b:Brg) (A:Option Addr) (n c:Nat) (w:World) (h:Lines w w.heap.size A n c b.cache) (hn:n≤1000) :
  Calls Tryz.prog 41 #[.agg (B_.b b A n c)] w fun e w'=>∃ A' c',e=.returned (.agg (B_.b b A' n c'))∧OwnL w.heap.size w' A' n c' b.cache∧Below w.heap.size w w':=by
 have HL:=Zh h
 clear h
 go_enter Tryz.func41,Tryz.ntmps41
 go_wp2_with fail
 refine(Xcx _ _ _ _ _ ((HL.out.alloc (Nat.le_refl _) _ |>.alloc (by simp) _).more (by simp;omega)) hn).mono ?_
 rintro e w1 ⟨A1,c1,rfl,ho,hb1⟩
 have hz1:=hb1.size
 (try simp only[Zs]at hz1)
 obtain⟨k1_0,l1_0,q1_0⟩:=aft hb1 (w.heap.size) (by(try simp)<;>omega)
 obtain⟨k1_1,l1_1,q1_1⟩:=aft hb1 (w.heap.size+1) (by(try simp)<;>omega)
 simp(maxDischargeDepth:=6) [go_sem, *]at k1_0 q1_0 k1_1 q1_1
 have HB1:=Zh hb1
 clear hb1
 have HO:Hid (OwnL (w.heap.size+1+1) w1 A1 n c1 b.cache):=Zh (ho.low (by simp))
 clear ho
 go_wp2
 refine bodyPost_ret (v:=.agg (B_.b b A1 n c1)) ?_ rfl ⟨_,_,rfl, ?_, ?_⟩
 ·simp(maxDischargeDepth:=8) [results,Tryz.results41,go_sem, *]
 ·refine OwnL.low (B:=w.heap.size+1+1) ?_ (by omega)
  (repeat(first|(with_reducible exact HO.out)|(with_reducible refine OwnL.set ?_ (by first|(simp;done)|(simp;omega)) _)))
 ·(refine bl ?_;repeat' first|with_reducible(first|assumption|constructor)|((try simp)<;>omega))
theorem Xd2 (xs:List Int) (M:Option Addr) (nm cm':Nat) (b:Brg) (A:Option Addr) (n c:Nat) (w:World) (hm:Ints w w.heap.size M nm xs) (h:Lines w w.heap.size A n c b.cache) :
  Calls Tryz.prog 45 #[.agg #[.slice M nm cm'],.agg (B_.b b A n c)] w fun e w'=>e=.returned (.int .i64 (allE xs b))∧Below w.heap.size w w':=by
 have HM:=Zh hm
 have HL:=Zh h
 clear h hm
 by_cases h0:cm xs=0
 ·have t0:(cm xs != 0)=false:=by rw[bne_eq_false_iff_eq];exact h0
  rw[show allE xs b=ckB b by unfold allE;rw[if_pos h0]]
  clear h0
  go_enter Tryz.func45,Tryz.ntmps45
  go_wp2_with fail
  refine(Xb4 _ _ _ xs _ ((HM.out.alloc (Nat.le_refl _) _ |>.alloc (by simp) _).more (by simp;omega))).mono ?_
  rintro e w1 ⟨rfl,hb1⟩
  have hz1:=hb1.size
  (try simp only[Zs]at hz1)
  obtain⟨k1_0,l1_0,q1_0⟩:=aft hb1 (w.heap.size+1) (by(try simp)<;>omega)
  simp(maxDischargeDepth:=6) [go_sem, *]at k1_0 q1_0
  have HB1:=Zh hb1
  clear hb1
  go_wp2_with fail
  refine(Xbh b _ _ _ _ ((HL.out.alloc (Nat.le_refl _) _ |>.alloc (by simp) _ |>.below (HB1.out.mono (by simp;omega))).more (by omega))).mono ?_
  rintro e w2 ⟨rfl,hb2⟩
  have hz2:=hb2.size
  (try simp only[Zs]at hz2)
  have HB2:=Zh hb2
  clear hb2
  go_wp2
  go_ret
  exact⟨rfl,bl (by repeat' first|with_reducible(first|assumption|constructor)|((try simp)<;>omega))⟩
 ·have t0:(cm xs != 0)=true:=by rw[bne_iff_ne];exact h0
  rw[show allE xs b=cm xs by unfold allE;rw[if_neg h0]]
  clear h0
  go_enter Tryz.func45,Tryz.ntmps45
  go_wp2_with fail
  refine(Xb4 _ _ _ xs _ ((HM.out.alloc (Nat.le_refl _) _ |>.alloc (by simp) _).more (by simp;omega))).mono ?_
  rintro e w1 ⟨rfl,hb1⟩
  have hz1:=hb1.size
  (try simp only[Zs]at hz1)
  have HB1:=Zh hb1
  clear hb1
  go_wp2
  go_ret
  exact⟨rfl,bl (by repeat' first|with_reducible(first|assumption|constructor)|((try simp)<;>omega))⟩
def askE (d p:Int):Int:=if inD d p then 0 else 4
theorem Xni (d p:Int) (w:World):Calls Tryz.prog 78 #[.int .i64 d,.int .i64 p] w fun e w'=>e=.returned (.int .i64 (askE d p))∧w=w':=by
 by_cases h:inD d p
 ·rw[show askE d p=0 by unfold askE;rw[if_pos h]]
  unfold inD at h
  obtain⟨⟨h1,h2⟩,h3,h4⟩:=h
  go_enter Tryz.func78,Tryz.ntmps78
  go_wp2
  go_ret
  exact⟨rfl,rfl⟩
 ·rw[show askE d p=4 by unfold askE;rw[if_neg h]]
  have h2:d<0∨(0≤d∧8≤d)∨(0≤d∧d<8∧p<0)∨(0≤d∧d<8∧0≤p∧64≤p):=by unfold inD at h;omega
  clear h
  rcases h2 with h1|⟨h1,h2⟩|⟨h1,h2,h3⟩|⟨h1,h2,h3,h4⟩
  all_goals
   go_enter Tryz.func78,Tryz.ntmps78
   go_wp2
   go_ret
   exact⟨rfl,rfl⟩
end
end Go.Proofs.YtbopdijnojaaiadGreat
