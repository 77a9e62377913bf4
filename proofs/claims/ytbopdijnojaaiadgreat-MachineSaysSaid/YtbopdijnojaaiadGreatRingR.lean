/- Rings: Push, Pop and the document's Pushed, Popped, each by one contract for good and bad asks alike. No statement of the seat is proved here. -/
import Derived.Test.YtbopdijnojaaiadGreatRing
import Derived.Test.YtbopdijnojaaiadGreatMemZ
import Derived.Test.YtbopdijnojaaiadGreatBase
import Derived.RegionTactic
import Derived.Deep.RegionHeld3
import Derived.Deep.DrawnRows
namespace Go.Proofs.YtbopdijnojaaiadGreat
set_option maxRecDepth 100000
set_option maxHeartbeats 4000000
open Go.RowKit
set_option linter.unusedSimpArgs false
set_option linter.unusedVariables false
section
attribute [local go_sem ↓] Go.wp_at_zero Go.wp_at_succ
theorem Xqb (A:Option Addr) (n c:Nat) (xs:List Int) (p h t v:Int) (w:World) (hx:Ints w w.heap.size A n xs) (hE:Xf9 xs ⟨p,h,t⟩ v=0) :
  Calls Tryz.prog 90 #[.agg #[.slice A n c],.agg #[.int .i64 p,.int .i64 h,.int .i64 t],.int .i64 v] w fun e w'=>∃ A' c',e=.returned (.tuple #[.agg #[.slice A' 512 c'],.agg #[.int .i64 p,.int .i64 h,.int .i64 ((t+1) % 8)],.int .i64 0])∧OwnI w.heap.size w' A' 512 c' (Xj4 xs ⟨p,h,t⟩ v)∧Below w.heap.size w w':=by
 obtain⟨hb,hv,hl⟩:=Xl8 hE
 obtain⟨h0,hr⟩:=Xge hb
 have hn:n=512:=by rw[←hx.len];exact(Xaz h0).1
 subst hn
 have HX:=Zh hx
 have HR:=Zh hr
 have t1:(cm xs==0)=true:=by rw[beq_iff_eq];exact h0
 have t2:(ckR ⟨p,h,t⟩ != 0)=false:=by rw[bne_eq_false_iff_eq];exact Xmy hr
 have t3:(lenR ⟨p,h,t⟩==7)=false:=by rw[beq_eq_false_iff_ne];exact hl
 have hi:=Xb2 hv
 unfold Xco at hr
 simp only[]at hr
 obtain⟨⟨h1,h2⟩,⟨h3,h4⟩,h5,h6⟩:=hr
 have HK:=Zh (show 0≤p * 8+t∧p * 8+t<512 by omega)
 have q1:IntKind.i64.wrap (p * 8)=p * 8:=IntWalk.i64_in _ (by omega)
 have q2:IntKind.i64.wrap (p * 8+t)=p * 8+t:=IntWalk.i64_in _ (by omega)
 have q3:IntKind.i64.wrap (t+1)=t+1:=IntWalk.i64_in _ (by omega)
 have q4:(t+1).tmod 8=(t+1) % 8:=Int.tmod_eq_emod_of_nonneg (by omega)
 have Q:=Zh (And.intro q1 (And.intro q2 (And.intro q3 q4)))
 clear hb hx h0 hv hl hE q1 q2 q3 q4
 go_enter Tryz.func90,Tryz.ntmps90
 go_wp2_with fail
 refine(Xe7 _ _ _ xs _ ((HX.out.alloc (Nat.le_refl _) _ |>.alloc (by simp) _ |>.alloc (by simp;omega) _ |>.alloc (by simp;omega) _).more (by simp;omega))).mono ?_
 rintro e w1 ⟨rfl,hb1⟩
 have hz1:=hb1.size
 (try simp only[Zs]at hz1)
 obtain⟨k1_0,l1_0,q1_0⟩:=aft hb1 (w.heap.size) (by(try simp)<;>omega)
 obtain⟨k1_1,l1_1,q1_1⟩:=aft hb1 (w.heap.size+1) (by(try simp)<;>omega)
 obtain⟨k1_2,l1_2,q1_2⟩:=aft hb1 (w.heap.size+1+1) (by(try simp)<;>omega)
 obtain⟨k1_3,l1_3,q1_3⟩:=aft hb1 (w.heap.size+1+1+1) (by(try simp)<;>omega)
 simp(maxDischargeDepth:=6) [go_sem, *]at k1_0 q1_0 k1_1 q1_1 k1_2 q1_2 k1_3 q1_3
 have HB1:=Zh hb1
 clear hb1
 go_wp2_with fail
 refine(Xhh p h t _).mono ?_
 rintro e w2 ⟨rfl,hb2⟩
 have hz2:=hb2.size
 (try simp only[Zs]at hz2)
 obtain⟨k2_0,l2_0,q2_0⟩:=aft hb2 (w.heap.size) (by(try simp)<;>omega)
 obtain⟨k2_1,l2_1,q2_1⟩:=aft hb2 (w.heap.size+1) (by(try simp)<;>omega)
 obtain⟨k2_2,l2_2,q2_2⟩:=aft hb2 (w.heap.size+1+1) (by(try simp)<;>omega)
 obtain⟨k2_3,l2_3,q2_3⟩:=aft hb2 (w.heap.size+1+1+1) (by(try simp)<;>omega)
 simp(maxDischargeDepth:=6) [go_sem, *]at k2_0 q2_0 k2_1 q2_1 k2_2 q2_2 k2_3 q2_3
 have HB2:=Zh hb2
 clear hb2
 go_wp2_with fail
 refine(Xbc _ _ _ _).mono ?_
 rintro e w' ⟨rfl,rfl⟩
 go_wp2_with fail
 refine(Xf7 p h t HR.out _).mono ?_
 rintro e w3 ⟨rfl,hb3⟩
 have hz3:=hb3.size
 (try simp only[Zs]at hz3)
 obtain⟨k3_0,l3_0,q3_0⟩:=aft hb3 (w.heap.size) (by(try simp)<;>omega)
 obtain⟨k3_1,l3_1,q3_1⟩:=aft hb3 (w.heap.size+1) (by(try simp)<;>omega)
 obtain⟨k3_2,l3_2,q3_2⟩:=aft hb3 (w.heap.size+1+1) (by(try simp)<;>omega)
 obtain⟨k3_3,l3_3,q3_3⟩:=aft hb3 (w.heap.size+1+1+1) (by(try simp)<;>omega)
 simp(maxDischargeDepth:=6) [go_sem, *]at k3_0 q3_0 k3_1 q3_1 k3_2 q3_2 k3_3 q3_3
 have HB3:=Zh hb3
 clear hb3
 have X3:=Zh ((((HX.out.alloc (Nat.le_refl _) (.cells #[.slice A 512 c] 24) |>.alloc (by simp) (.cells #[.int .i64 p,.int .i64 h,.int .i64 t] 29) |>.alloc (by simp;omega) (.cells #[.slice none 0 0] 24) |>.alloc (by simp;omega) (.cells #[.int .i64 0,.int .i64 0,.int .i64 0] 29)).below (HB1.out.mono (by simp;omega))).more (B':=w1.heap.size) (by omega)).below HB2.out |>.more (B':=w2.heap.size) (by omega) |>.below HB3.out |>.more (B':=w3.heap.size) (by omega))
 have C0:w3.cell? ⟨w.heap.size,0,none⟩=some (.slice A 512 c):=by simp[k3_0]
 have C1:w3.cell? ⟨w.heap.size+1,0,none⟩=some (.int .i64 p):=by simp[k3_1]
 have C2:w3.cell? ⟨w.heap.size+1,1,none⟩=some (.int .i64 h):=by simp[k3_1]
 have C3:w3.cell? ⟨w.heap.size+1,2,none⟩=some (.int .i64 t):=by simp[k3_1]
 have HC:=Zh (And.intro C0 (And.intro C1 (And.intro C2 C3)))
 go_wp2_with fail
 obtain⟨q1,q2,q3,q4⟩:=Q.out
 go_region_held3 (fun W=>W.cell? ⟨w.heap.size,0,none⟩=some (.slice A 512 c)∧W.cell? ⟨w.heap.size+1,0,none⟩=some (.int .i64 p)∧W.cell? ⟨w.heap.size+1,1,none⟩=some (.int .i64 h)∧W.cell? ⟨w.heap.size+1,2,none⟩=some (.int .i64 t))
  (first
   |exact⟨C0,C1,C2,C3⟩
   |(refine⟨?_, ?_, ?_, ?_⟩<;>simp(maxDischargeDepth:=8) [k5_0,k5_1])
   |(refine⟨?_, ?_, ?_, ?_⟩<;>simp(maxDischargeDepth:=8) [go_sem, *])
   |go_keep)
  (first
   |(go_at_call 60;refine(Xsb A c xs _ v _ ?_ HK.out).mono ?_;(exact X3.out.drew);rintro e w5 ⟨A5,c5,rfl,ho5,hb5⟩;have HO5:Hid (OwnI w3.heap.size w5 A5 512 c5 (Xj4 xs ⟨p,h,t⟩ v)):=Zh ho5;clear ho5;have hz5:=hb5.size;(try simp only[Zs]at hz5);obtain⟨k5_0,l5_0,q5_0⟩:=aft hb5 (w.heap.size) (by(try simp)<;>omega);obtain⟨k5_1,l5_1,q5_1⟩:=aft hb5 (w.heap.size+1) (by(try simp)<;>omega);obtain⟨k5_2,l5_2,q5_2⟩:=aft hb5 (w.heap.size+1+1) (by(try simp)<;>omega);obtain⟨k5_3,l5_3,q5_3⟩:=aft hb5 (w.heap.size+1+1+1) (by(try simp)<;>omega);simp(maxDischargeDepth:=6) [go_sem, *]at k5_0 q5_0 k5_1 q5_1 k5_2 q5_2 k5_3 q5_3;have HB5:=Zh hb5;clear hb5))
 all_goals
  clear q1 q2 q3 q4
  go_wp2
  refine bodyPost_ret (v:=.tuple #[.agg #[.slice A5 512 c5],.agg #[.int .i64 p,.int .i64 h,.int .i64 ((t+1) % 8)],.int .i64 0]) ?_ rfl ⟨_,_,rfl, ?_, ?_⟩
  ·simp(maxDischargeDepth:=8) [results,Tryz.results90,go_sem, *]
  ·(refine OwnI.low (B:=w3.heap.size) ?_ (by omega));(repeat(first|(with_reducible refine OwnI.drew ?_)|(with_reducible refine OwnI.drewN ?_ _)|(with_reducible refine OwnI.alloc ?_ _)|(with_reducible exact HO5.out)|(with_reducible refine OwnI.set ?_ (by first|(simp;done)|(simp;omega)) _)))
  ·(refine bl ?_;repeat' first|with_reducible(first|assumption|constructor)|((try simp)<;>omega))
end
section
theorem Xs6 (w:World) (B:Nat):Ints w B none 0 []:=⟨rfl,by unfold maxLen;omega,Row.nil_⟩
end
end Go.Proofs.YtbopdijnojaaiadGreat
