/- Tables: the walks of the program's functions of chapter 3. No statement of the seat is proved here. -/
import Derived.Test.YtbopdijnojaaiadGreatBase
import Derived.Test.YtbopdijnojaaiadGreatMem
import Derived.Test.YtbopdijnojaaiadGreatEntryX
namespace Go.Proofs.YtbopdijnojaaiadGreat
set_option maxRecDepth 100000
set_option maxHeartbeats 4000000
open Go.RowKit
set_option linter.unusedSimpArgs false
set_option linter.unusedVariables false
theorem Xox (x:Int) (w:World) (h:enK x=false):Calls Tryz.prog 107 #[.int .i64 x] w fun e w'=>e=.returned (.tuple #[.agg #[.bool false,.bool false,.bool false,.bool false,.int .i64 0],.bool false])∧Below w.heap.size w w':=
 (Xib x w).mono fun e w' ⟨he,hb⟩=>⟨by rw[he,Xtz h],hb⟩
theorem Xow (x:Int) (w:World) (h:enK x=true) (h':enG x=false):Calls Tryz.prog 107 #[.int .i64 x] w fun e w'=>e=.returned (.tuple #[.agg #[.bool false,.bool false,.bool false,.bool false,.int .i64 0],.bool true])∧Below w.heap.size w w':=
 (Xib x w).mono fun e w' ⟨he,hb⟩=>⟨by rw[he,Xty h h'],hb⟩
theorem Xf8 (x:Int) (b1 b2 b3:Bool) (p:Int) (w:World) (h:enG x=true) (h1:bitI x 1=b1) (h2:bitI x 2=b2) (h3:bitI x 3=b3) (hp:enP x=p):Calls Tryz.prog 107 #[.int .i64 x] w fun e w'=>e=.returned (.tuple #[.agg #[.bool true,.bool b1,.bool b2,.bool b3,.int .i64 p],.bool true])∧Below w.heap.size w w':=
 (Xib x w).mono fun e w' ⟨he,hb⟩=>⟨by rw[he,Xwy h,h1,h2,h3,hp],hb⟩
theorem Xmb:∀(a b:Int) (w:World),(Instr.index 172 (.agg #[.int .i64 a,.int .i64 b]) (.int .i64 0)).run Tryz.prog w=.ok (.int .i64 a) w:=fun _ _ _=>by kernel_rfl
theorem Xma:∀(a b:Int) (w:World),(Instr.index 172 (.agg #[.int .i64 a,.int .i64 b]) (.int .i64 1)).run Tryz.prog w=.ok (.int .i64 b) w:=fun _ _ _=>by kernel_rfl
theorem Xvh (A:Option Addr) (c:Nat) (xs:List Int) (root page:Int) (w:World) (h:Ints w w.heap.size A 512 xs) (h0:cm xs=0) (hin:inP root page) (x:Int) (hx:rd xs (root * 8+page / 8)=x) (hK:enK x=false) :
  Calls Tryz.prog 105 #[.agg #[.slice A 512 c],.int .i64 root,.int .i64 page] w fun e w'=>e=.returned (.tuple #[.agg #[.bool false,.bool false,.bool false,.bool false,.int .i64 0],.int .i64 4])∧Below w.heap.size w w':=by
 have HK:=Zh hK
 unfold inP at hin
 obtain⟨⟨h1,h2⟩,h3,h4⟩:=hin
 obtain⟨b,off,rfl,hb,hc⟩:=h.at_ (by omega)
 have hcx:=hc _ _ (Xc7 (i:=root * 8+page / 8) (Xaz h0).1 (by omega))
 rw[hx]at hcx
 have a7:=and7 page (by omega) (by omega)
 have p0:=Xmb
 have p1:=Xma
 clear hc hx h h0 hK
 go_enter Tryz.func105,Tryz.ntmps105
 go_wp2
 refine wp_loop_rounds 1 ?_
 rw[rounds_succ]
 go_wp2_with fail
 refine(Xox _ _ HK.out).mono ?_
 rintro e w1 ⟨rfl,hb1⟩
 have hz1:=hb1.size
 (try simp only[Zs]at hz1)
 obtain⟨k1_0,l1_0,q1_0⟩:=aft hb1 (w.heap.size) (by(try simp)<;>omega)
 obtain⟨k1_1,l1_1,q1_1⟩:=aft hb1 (w.heap.size+1) (by(try simp)<;>omega)
 simp(maxDischargeDepth:=6) [go_sem, *]at k1_0 q1_0 k1_1 q1_1
 have HB1:=Zh hb1
 clear hb1
 go_wp2
 refine bodyPost_ret (v:=.tuple #[.agg #[.bool false,.bool false,.bool false,.bool false,.int .i64 0],.int .i64 4]) ?_ rfl ⟨rfl, ?_⟩
 ·simp(maxDischargeDepth:=8) [results,Tryz.results105,go_sem, *]
 ·(refine bl ?_;repeat' first|with_reducible(first|assumption|constructor)|((try simp)<;>omega))
theorem Xvf (A:Option Addr) (c:Nat) (xs:List Int) (root page:Int) (w:World) (h:Ints w w.heap.size A 512 xs) (h0:cm xs=0) (hin:inP root page) (x:Int) (hx:rd xs (root * 8+page / 8)=x) (hK:enK x=true) (hG:enG x=false) :
  Calls Tryz.prog 105 #[.agg #[.slice A 512 c],.int .i64 root,.int .i64 page] w fun e w'=>e=.returned (.tuple #[.agg #[.bool false,.bool false,.bool false,.bool false,.int .i64 0],.int .i64 3])∧Below w.heap.size w w':=by
 have HK:=Zh hK
 have HG:=Zh hG
 unfold inP at hin
 obtain⟨⟨h1,h2⟩,h3,h4⟩:=hin
 obtain⟨b,off,rfl,hb,hc⟩:=h.at_ (by omega)
 have hcx:=hc _ _ (Xc7 (i:=root * 8+page / 8) (Xaz h0).1 (by omega))
 rw[hx]at hcx
 have a7:=and7 page (by omega) (by omega)
 have p0:=Xmb
 have p1:=Xma
 clear hc hx h h0 hK hG
 go_enter Tryz.func105,Tryz.ntmps105
 go_wp2
 refine wp_loop_rounds 1 ?_
 rw[rounds_succ]
 go_wp2_with fail
 refine(Xow _ _ HK.out HG.out).mono ?_
 rintro e w1 ⟨rfl,hb1⟩
 have hz1:=hb1.size
 (try simp only[Zs]at hz1)
 obtain⟨k1_0,l1_0,q1_0⟩:=aft hb1 (w.heap.size) (by(try simp)<;>omega)
 obtain⟨k1_1,l1_1,q1_1⟩:=aft hb1 (w.heap.size+1) (by(try simp)<;>omega)
 simp(maxDischargeDepth:=6) [go_sem, *]at k1_0 q1_0 k1_1 q1_1
 have HB1:=Zh hb1
 clear hb1
 go_wp2
 refine bodyPost_ret (v:=.tuple #[.agg #[.bool false,.bool false,.bool false,.bool false,.int .i64 0],.int .i64 3]) ?_ rfl ⟨rfl, ?_⟩
 ·simp(maxDischargeDepth:=8) [results,Tryz.results105,go_sem, *]
 ·(refine bl ?_;repeat' first|with_reducible(first|assumption|constructor)|((try simp)<;>omega))
theorem Xvg (A:Option Addr) (c:Nat) (xs:List Int) (root page:Int) (w:World) (h:Ints w w.heap.size A 512 xs) (h0:cm xs=0) (hin:inP root page) (x:Int) (hx:rd xs (root * 8+page / 8)=x) (b1 b2:Bool) (p:Int) (hG:enG x=true) (e1:bitI x 1=b1) (e2:bitI x 2=b2) (e3:bitI x 3=true) (ep:enP x=p) (hm:p % 8≠0) :
  Calls Tryz.prog 105 #[.agg #[.slice A 512 c],.int .i64 root,.int .i64 page] w fun e w'=>e=.returned (.tuple #[.agg #[.bool false,.bool false,.bool false,.bool false,.int .i64 0],.int .i64 4])∧Below w.heap.size w w':=by
 have HG:=Zh hG
 have H1:=Zh e1
 have H2:=Zh e2
 have H3:=Zh e3
 have HP:=Zh ep
 have hpb:=Xek x
 rw[ep]at hpb
 obtain⟨hp1,hp2⟩:=hpb
 have a8:=and7 p (by omega) (by omega)
 have hm1:(p % 8 != 0)=true:=by rw[bne_iff_ne];exact hm
 unfold inP at hin
 obtain⟨⟨h1,h2⟩,h3,h4⟩:=hin
 obtain⟨b,off,rfl,hb,hc⟩:=h.at_ (by omega)
 have hcx:=hc _ _ (Xc7 (i:=root * 8+page / 8) (Xaz h0).1 (by omega))
 rw[hx]at hcx
 have a7:=and7 page (by omega) (by omega)
 have p0:=Xmb
 have p1:=Xma
 clear hc hx h h0 hG e1 e2 e3 ep hm
 go_enter Tryz.func105,Tryz.ntmps105
 go_wp2
 refine wp_loop_rounds 1 ?_
 rw[rounds_succ]
 go_wp2_with fail
 refine(Xf8 _ _ _ _ _ _ HG.out H1.out H2.out H3.out HP.out).mono ?_
 rintro e w1 ⟨rfl,hb1⟩
 have hz1:=hb1.size
 (try simp only[Zs]at hz1)
 obtain⟨k1_0,l1_0,q1_0⟩:=aft hb1 (w.heap.size) (by(try simp)<;>omega)
 obtain⟨k1_1,l1_1,q1_1⟩:=aft hb1 (w.heap.size+1) (by(try simp)<;>omega)
 simp(maxDischargeDepth:=6) [go_sem, *]at k1_0 q1_0 k1_1 q1_1
 have HB1:=Zh hb1
 clear hb1
 go_wp2
 refine bodyPost_ret (v:=.tuple #[.agg #[.bool false,.bool false,.bool false,.bool false,.int .i64 0],.int .i64 4]) ?_ rfl ⟨rfl, ?_⟩
 ·simp(maxDischargeDepth:=8) [results,Tryz.results105,go_sem, *]
 ·(refine bl ?_;repeat' first|with_reducible(first|assumption|constructor)|((try simp)<;>omega))
theorem Xqm (A:Option Addr) (c:Nat) (xs:List Int) (root page:Int) (w:World) (h:Ints w w.heap.size A 512 xs) (h0:cm xs=0) (hin:inP root page) (x:Int) (hx:rd xs (root * 8+page / 8)=x) (b1 b2:Bool) (p:Int) (hG:enG x=true) (e1:bitI x 1=b1) (e2:bitI x 2=b2) (e3:bitI x 3=true) (ep:enP x=p) (hm:p % 8=0) :
  Calls Tryz.prog 105 #[.agg #[.slice A 512 c],.int .i64 root,.int .i64 page] w fun e w'=>e=.returned (.tuple #[.agg #[.bool true,.bool b1,.bool b2,.bool true,.int .i64 (p+page % 8)],.int .i64 0])∧Below w.heap.size w w':=by
 have HG:=Zh hG
 have H1:=Zh e1
 have H2:=Zh e2
 have H3:=Zh e3
 have HP:=Zh ep
 have hpb:=Xek x
 rw[ep]at hpb
 obtain⟨hp1,hp2⟩:=hpb
 have a8:=and7 p (by omega) (by omega)
 have hm1:(p % 8 != 0)=false:=by rw[bne_eq_false_iff_eq];exact hm
 have a9:=or8 p (page % 8) hm (by omega) (by omega) (by omega) (by omega)
 unfold inP at hin
 obtain⟨⟨h1,h2⟩,h3,h4⟩:=hin
 obtain⟨b,off,rfl,hb,hc⟩:=h.at_ (by omega)
 have hcx:=hc _ _ (Xc7 (i:=root * 8+page / 8) (Xaz h0).1 (by omega))
 rw[hx]at hcx
 have a7:=and7 page (by omega) (by omega)
 have p0:=Xmb
 have p1:=Xma
 clear hc hx h h0 hG e1 e2 e3 ep hm
 go_enter Tryz.func105,Tryz.ntmps105
 go_wp2
 refine wp_loop_rounds 1 ?_
 rw[rounds_succ]
 go_wp2_with fail
 refine(Xf8 _ _ _ _ _ _ HG.out H1.out H2.out H3.out HP.out).mono ?_
 rintro e w1 ⟨rfl,hb1⟩
 have hz1:=hb1.size
 (try simp only[Zs]at hz1)
 obtain⟨k1_0,l1_0,q1_0⟩:=aft hb1 (w.heap.size) (by(try simp)<;>omega)
 obtain⟨k1_1,l1_1,q1_1⟩:=aft hb1 (w.heap.size+1) (by(try simp)<;>omega)
 simp(maxDischargeDepth:=6) [go_sem, *]at k1_0 q1_0 k1_1 q1_1
 have HB1:=Zh hb1
 clear hb1
 go_wp2
 refine bodyPost_ret (v:=.tuple #[.agg #[.bool true,.bool b1,.bool b2,.bool true,.int .i64 (p+page % 8)],.int .i64 0]) ?_ rfl ⟨rfl, ?_⟩
 ·simp(maxDischargeDepth:=8) [results,Tryz.results105,go_sem, *]
 ·(refine bl ?_;repeat' first|with_reducible(first|assumption|constructor)|((try simp)<;>omega))
theorem Xs3 (A:Option Addr) (c:Nat) (xs:List Int) (root page:Int) (w:World) (h:Ints w w.heap.size A 512 xs) (h0:cm xs=0) (hin:inP root page) (x:Int) (hx:rd xs (root * 8+page / 8)=x) (b1 b2:Bool) (p:Int) (hG:enG x=true) (e1:bitI x 1=b1) (e2:bitI x 2=b2) (e3:bitI x 3=false) (ep:enP x=p) (y:Int) (hy:rd xs (p * 8+page % 8)=y) (gK:enK y=false) :
  Calls Tryz.prog 105 #[.agg #[.slice A 512 c],.int .i64 root,.int .i64 page] w fun e w'=>e=.returned (.tuple #[.agg #[.bool false,.bool false,.bool false,.bool false,.int .i64 0],.int .i64 4])∧Below w.heap.size w w':=by
 have HG:=Zh hG
 have H1:=Zh e1
 have H2:=Zh e2
 have H3:=Zh e3
 have HP:=Zh ep
 have hpb:=Xek x
 rw[ep]at hpb
 obtain⟨hp1,hp2⟩:=hpb
 have GK:=Zh gK
 unfold inP at hin
 obtain⟨⟨h1,h2⟩,h3,h4⟩:=hin
 obtain⟨b,off,rfl,hb,hc⟩:=h.at_ (by omega)
 have hcx:=hc _ _ (Xc7 (i:=root * 8+page / 8) (Xaz h0).1 (by omega))
 rw[hx]at hcx
 have a7:=and7 page (by omega) (by omega)
 have p0:=Xmb
 have p1:=Xma
 have hcy:=hc _ _ (Xc7 (i:=p * 8+page % 8) (Xaz h0).1 (by omega))
 rw[hy]at hcy
 clear hc hx h h0 hG e1 e2 e3 ep hy gK
 go_enter Tryz.func105,Tryz.ntmps105
 go_wp2
 refine wp_loop_rounds 2 ?_
 rw[rounds_succ]
 go_wp2_with fail
 refine(Xf8 _ _ _ _ _ _ HG.out H1.out H2.out H3.out HP.out).mono ?_
 rintro e w1 ⟨rfl,hb1⟩
 have hz1:=hb1.size
 (try simp only[Zs]at hz1)
 obtain⟨k1_0,l1_0,q1_0⟩:=aft hb1 (w.heap.size) (by(try simp)<;>omega)
 obtain⟨k1_1,l1_1,q1_1⟩:=aft hb1 (w.heap.size+1) (by(try simp)<;>omega)
 obtain⟨k1_2,l1_2,q1_2⟩:=aft hb1 (b) (by(try simp)<;>omega)
 simp(maxDischargeDepth:=6) [go_sem, *]at k1_0 q1_0 k1_1 q1_1 k1_2 q1_2
 have HB1:=Zh hb1
 clear hb1
 go_wp2_with fail
 rw[rounds_succ]
 go_wp2_with fail
 refine(Xox _ _ GK.out).mono ?_
 rintro e w2 ⟨rfl,hb2⟩
 have hz2:=hb2.size
 (try simp only[Zs]at hz2)
 obtain⟨k2_0,l2_0,q2_0⟩:=aft hb2 (w.heap.size) (by(try simp)<;>omega)
 obtain⟨k2_1,l2_1,q2_1⟩:=aft hb2 (w.heap.size+1) (by(try simp)<;>omega)
 simp(maxDischargeDepth:=6) [go_sem, *]at k2_0 q2_0 k2_1 q2_1
 have HB2:=Zh hb2
 clear hb2
 go_wp2
 refine bodyPost_ret (v:=.tuple #[.agg #[.bool false,.bool false,.bool false,.bool false,.int .i64 0],.int .i64 4]) ?_ rfl ⟨rfl, ?_⟩
 ·simp(maxDischargeDepth:=8) [results,Tryz.results105,go_sem, *]
 ·(refine bl ?_;repeat' first|with_reducible(first|assumption|constructor)|((try simp)<;>omega))
theorem Xs2 (A:Option Addr) (c:Nat) (xs:List Int) (root page:Int) (w:World) (h:Ints w w.heap.size A 512 xs) (h0:cm xs=0) (hin:inP root page) (x:Int) (hx:rd xs (root * 8+page / 8)=x) (b1 b2:Bool) (p:Int) (hG:enG x=true) (e1:bitI x 1=b1) (e2:bitI x 2=b2) (e3:bitI x 3=false) (ep:enP x=p) (y:Int) (hy:rd xs (p * 8+page % 8)=y) (gK:enK y=true) (gG:enG y=false) :
  Calls Tryz.prog 105 #[.agg #[.slice A 512 c],.int .i64 root,.int .i64 page] w fun e w'=>e=.returned (.tuple #[.agg #[.bool false,.bool false,.bool false,.bool false,.int .i64 0],.int .i64 3])∧Below w.heap.size w w':=by
 have HG:=Zh hG
 have H1:=Zh e1
 have H2:=Zh e2
 have H3:=Zh e3
 have HP:=Zh ep
 have hpb:=Xek x
 rw[ep]at hpb
 obtain⟨hp1,hp2⟩:=hpb
 have GK:=Zh gK
 have GG:=Zh gG
 unfold inP at hin
 obtain⟨⟨h1,h2⟩,h3,h4⟩:=hin
 obtain⟨b,off,rfl,hb,hc⟩:=h.at_ (by omega)
 have hcx:=hc _ _ (Xc7 (i:=root * 8+page / 8) (Xaz h0).1 (by omega))
 rw[hx]at hcx
 have a7:=and7 page (by omega) (by omega)
 have p0:=Xmb
 have p1:=Xma
 have hcy:=hc _ _ (Xc7 (i:=p * 8+page % 8) (Xaz h0).1 (by omega))
 rw[hy]at hcy
 clear hc hx h h0 hG e1 e2 e3 ep hy gK gG
 go_enter Tryz.func105,Tryz.ntmps105
 go_wp2
 refine wp_loop_rounds 2 ?_
 rw[rounds_succ]
 go_wp2_with fail
 refine(Xf8 _ _ _ _ _ _ HG.out H1.out H2.out H3.out HP.out).mono ?_
 rintro e w1 ⟨rfl,hb1⟩
 have hz1:=hb1.size
 (try simp only[Zs]at hz1)
 obtain⟨k1_0,l1_0,q1_0⟩:=aft hb1 (w.heap.size) (by(try simp)<;>omega)
 obtain⟨k1_1,l1_1,q1_1⟩:=aft hb1 (w.heap.size+1) (by(try simp)<;>omega)
 obtain⟨k1_2,l1_2,q1_2⟩:=aft hb1 (b) (by(try simp)<;>omega)
 simp(maxDischargeDepth:=6) [go_sem, *]at k1_0 q1_0 k1_1 q1_1 k1_2 q1_2
 have HB1:=Zh hb1
 clear hb1
 go_wp2_with fail
 rw[rounds_succ]
 go_wp2_with fail
 refine(Xow _ _ GK.out GG.out).mono ?_
 rintro e w2 ⟨rfl,hb2⟩
 have hz2:=hb2.size
 (try simp only[Zs]at hz2)
 obtain⟨k2_0,l2_0,q2_0⟩:=aft hb2 (w.heap.size) (by(try simp)<;>omega)
 obtain⟨k2_1,l2_1,q2_1⟩:=aft hb2 (w.heap.size+1) (by(try simp)<;>omega)
 simp(maxDischargeDepth:=6) [go_sem, *]at k2_0 q2_0 k2_1 q2_1
 have HB2:=Zh hb2
 clear hb2
 go_wp2
 refine bodyPost_ret (v:=.tuple #[.agg #[.bool false,.bool false,.bool false,.bool false,.int .i64 0],.int .i64 3]) ?_ rfl ⟨rfl, ?_⟩
 ·simp(maxDischargeDepth:=8) [results,Tryz.results105,go_sem, *]
 ·(refine bl ?_;repeat' first|with_reducible(first|assumption|constructor)|((try simp)<;>omega))
theorem Xs1 (A:Option Addr) (c:Nat) (xs:List Int) (root page:Int) (w:World) (h:Ints w w.heap.size A 512 xs) (h0:cm xs=0) (hin:inP root page) (x:Int) (hx:rd xs (root * 8+page / 8)=x) (b1 b2:Bool) (p:Int) (hG:enG x=true) (e1:bitI x 1=b1) (e2:bitI x 2=b2) (e3:bitI x 3=false) (ep:enP x=p) (y:Int) (hy:rd xs (p * 8+page % 8)=y) (c1 c2:Bool) (q:Int) (gG:enG y=true) (f1:bitI y 1=c1) (f2:bitI y 2=c2) (f3:bitI y 3=true) (fp:enP y=q) :
  Calls Tryz.prog 105 #[.agg #[.slice A 512 c],.int .i64 root,.int .i64 page] w fun e w'=>e=.returned (.tuple #[.agg #[.bool true,.bool c1,.bool c2,.bool true,.int .i64 q],.int .i64 0])∧Below w.heap.size w w':=by
 have HG:=Zh hG
 have H1:=Zh e1
 have H2:=Zh e2
 have H3:=Zh e3
 have HP:=Zh ep
 have hpb:=Xek x
 rw[ep]at hpb
 obtain⟨hp1,hp2⟩:=hpb
 have GG:=Zh gG
 have F1:=Zh f1
 have F2:=Zh f2
 have F3:=Zh f3
 have FP:=Zh fp
 unfold inP at hin
 obtain⟨⟨h1,h2⟩,h3,h4⟩:=hin
 obtain⟨b,off,rfl,hb,hc⟩:=h.at_ (by omega)
 have hcx:=hc _ _ (Xc7 (i:=root * 8+page / 8) (Xaz h0).1 (by omega))
 rw[hx]at hcx
 have a7:=and7 page (by omega) (by omega)
 have p0:=Xmb
 have p1:=Xma
 have hcy:=hc _ _ (Xc7 (i:=p * 8+page % 8) (Xaz h0).1 (by omega))
 rw[hy]at hcy
 clear hc hx h h0 hG e1 e2 e3 ep hy gG f1 f2 f3 fp
 go_enter Tryz.func105,Tryz.ntmps105
 go_wp2
 refine wp_loop_rounds 2 ?_
 rw[rounds_succ]
 go_wp2_with fail
 refine(Xf8 _ _ _ _ _ _ HG.out H1.out H2.out H3.out HP.out).mono ?_
 rintro e w1 ⟨rfl,hb1⟩
 have hz1:=hb1.size
 (try simp only[Zs]at hz1)
 obtain⟨k1_0,l1_0,q1_0⟩:=aft hb1 (w.heap.size) (by(try simp)<;>omega)
 obtain⟨k1_1,l1_1,q1_1⟩:=aft hb1 (w.heap.size+1) (by(try simp)<;>omega)
 obtain⟨k1_2,l1_2,q1_2⟩:=aft hb1 (b) (by(try simp)<;>omega)
 simp(maxDischargeDepth:=6) [go_sem, *]at k1_0 q1_0 k1_1 q1_1 k1_2 q1_2
 have HB1:=Zh hb1
 clear hb1
 go_wp2_with fail
 rw[rounds_succ]
 go_wp2_with fail
 refine(Xf8 _ _ _ _ _ _ GG.out F1.out F2.out F3.out FP.out).mono ?_
 rintro e w2 ⟨rfl,hb2⟩
 have hz2:=hb2.size
 (try simp only[Zs]at hz2)
 obtain⟨k2_0,l2_0,q2_0⟩:=aft hb2 (w.heap.size) (by(try simp)<;>omega)
 obtain⟨k2_1,l2_1,q2_1⟩:=aft hb2 (w.heap.size+1) (by(try simp)<;>omega)
 simp(maxDischargeDepth:=6) [go_sem, *]at k2_0 q2_0 k2_1 q2_1
 have HB2:=Zh hb2
 clear hb2
 go_wp2
 refine bodyPost_ret (v:=.tuple #[.agg #[.bool true,.bool c1,.bool c2,.bool true,.int .i64 q],.int .i64 0]) ?_ rfl ⟨rfl, ?_⟩
 ·simp(maxDischargeDepth:=8) [results,Tryz.results105,go_sem, *]
 ·(refine bl ?_;repeat' first|with_reducible(first|assumption|constructor)|((try simp)<;>omega))
theorem Xql (A:Option Addr) (c:Nat) (xs:List Int) (root page:Int) (w:World) (h:Ints w w.heap.size A 512 xs) (h0:cm xs=0) (hin:inP root page) (x:Int) (hx:rd xs (root * 8+page / 8)=x) (b1 b2:Bool) (p:Int) (hG:enG x=true) (e1:bitI x 1=b1) (e2:bitI x 2=b2) (e3:bitI x 3=false) (ep:enP x=p) (y:Int) (hy:rd xs (p * 8+page % 8)=y) (c1 c2:Bool) (q:Int) (gG:enG y=true) (f1:bitI y 1=c1) (f2:bitI y 2=c2) (f3:bitI y 3=false) (fp:enP y=q) :
  Calls Tryz.prog 105 #[.agg #[.slice A 512 c],.int .i64 root,.int .i64 page] w fun e w'=>e=.returned (.tuple #[.agg #[.bool false,.bool false,.bool false,.bool false,.int .i64 0],.int .i64 4])∧Below w.heap.size w w':=by
 have HG:=Zh hG
 have H1:=Zh e1
 have H2:=Zh e2
 have H3:=Zh e3
 have HP:=Zh ep
 have hpb:=Xek x
 rw[ep]at hpb
 obtain⟨hp1,hp2⟩:=hpb
 have GG:=Zh gG
 have F1:=Zh f1
 have F2:=Zh f2
 have F3:=Zh f3
 have FP:=Zh fp
 unfold inP at hin
 obtain⟨⟨h1,h2⟩,h3,h4⟩:=hin
 obtain⟨b,off,rfl,hb,hc⟩:=h.at_ (by omega)
 have hcx:=hc _ _ (Xc7 (i:=root * 8+page / 8) (Xaz h0).1 (by omega))
 rw[hx]at hcx
 have a7:=and7 page (by omega) (by omega)
 have p0:=Xmb
 have p1:=Xma
 have hcy:=hc _ _ (Xc7 (i:=p * 8+page % 8) (Xaz h0).1 (by omega))
 rw[hy]at hcy
 clear hc hx h h0 hG e1 e2 e3 ep hy gG f1 f2 f3 fp
 go_enter Tryz.func105,Tryz.ntmps105
 go_wp2
 refine wp_loop_rounds 3 ?_
 rw[rounds_succ]
 go_wp2_with fail
 refine(Xf8 _ _ _ _ _ _ HG.out H1.out H2.out H3.out HP.out).mono ?_
 rintro e w1 ⟨rfl,hb1⟩
 have hz1:=hb1.size
 (try simp only[Zs]at hz1)
 obtain⟨k1_0,l1_0,q1_0⟩:=aft hb1 (w.heap.size) (by(try simp)<;>omega)
 obtain⟨k1_1,l1_1,q1_1⟩:=aft hb1 (w.heap.size+1) (by(try simp)<;>omega)
 obtain⟨k1_2,l1_2,q1_2⟩:=aft hb1 (b) (by(try simp)<;>omega)
 simp(maxDischargeDepth:=6) [go_sem, *]at k1_0 q1_0 k1_1 q1_1 k1_2 q1_2
 have HB1:=Zh hb1
 clear hb1
 go_wp2_with fail
 rw[rounds_succ]
 go_wp2_with fail
 refine(Xf8 _ _ _ _ _ _ GG.out F1.out F2.out F3.out FP.out).mono ?_
 rintro e w2 ⟨rfl,hb2⟩
 have hz2:=hb2.size
 (try simp only[Zs]at hz2)
 obtain⟨k2_0,l2_0,q2_0⟩:=aft hb2 (w.heap.size) (by(try simp)<;>omega)
 obtain⟨k2_1,l2_1,q2_1⟩:=aft hb2 (w.heap.size+1) (by(try simp)<;>omega)
 simp(maxDischargeDepth:=6) [go_sem, *]at k2_0 q2_0 k2_1 q2_1
 have HB2:=Zh hb2
 clear hb2
 go_wp2
 rw[rounds_succ]
 go_wp2
 refine bodyPost_ret (v:=.tuple #[.agg #[.bool false,.bool false,.bool false,.bool false,.int .i64 0],.int .i64 4]) ?_ rfl ⟨rfl, ?_⟩
 ·simp(maxDischargeDepth:=8) [results,Tryz.results105,go_sem, *]
 ·(refine bl ?_;repeat' first|with_reducible(first|assumption|constructor)|((try simp)<;>omega))
theorem Xra (A:Option Addr) (c:Nat) (xs:List Int) (root page:Int) (w:World) (h:Ints w w.heap.size A 512 xs) (h0:cm xs=0) (hin:inP root page) :
  Calls Tryz.prog 105 #[.agg #[.slice A 512 c],.int .i64 root,.int .i64 page] w fun e w'=>e=.returned (.tuple #[(Xdq xs root page).1.val,.int .i64 (Xdq xs root page).2])∧Below w.heap.size w w':=by
 by_cases hK:enK (rd xs (root * 8+page / 8))=true
 ·by_cases hG:enG (rd xs (root * 8+page / 8))=true
  ·cases h3:bitI (rd xs (root * 8+page / 8)) 3
   ·have e:Xdq xs root page=Xf2 xs (enP (rd xs (root * 8+page / 8))) page:=by simp[Xdq,hK,hG,h3]
    rw[e]
    generalize hp:enP (rd xs (root * 8+page / 8))=p
    by_cases gK:enK (rd xs (p * 8+page % 8))=true
    ·by_cases gG:enG (rd xs (p * 8+page % 8))=true
     ·cases g3:bitI (rd xs (p * 8+page % 8)) 3
      ·have e:Xf2 xs p page=(.no,4):=by simp[Xf2,gK,gG,g3]
       rw[e]
       exact Xql A c xs root page w h h0 hin _ rfl _ _ p hG rfl rfl h3 hp _ rfl _ _ _ gG rfl rfl g3 rfl
      ·have e:Xf2 xs p page=(Xg6 (rd xs (p * 8+page % 8)),0):=by simp[Xf2,gK,gG,g3]
       rw[e]
       refine(Xs1 A c xs root page w h h0 hin _ rfl _ _ p hG rfl rfl h3 hp _ rfl _ _ _ gG rfl rfl g3 rfl).mono fun e w' ⟨he,hb⟩=>⟨?_,hb⟩
       rw[he];simp only[Ent.val,Xg6,g3]
     ·have e:Xf2 xs p page=(.no,3):=by simp[Xf2,gK,gG]
      rw[e]
      exact Xs2 A c xs root page w h h0 hin _ rfl _ _ p hG rfl rfl h3 hp _ rfl gK (by simpa using gG)
    ·have e:Xf2 xs p page=(.no,4):=by simp[Xf2,gK]
     rw[e]
     exact Xs3 A c xs root page w h h0 hin _ rfl _ _ p hG rfl rfl h3 hp _ rfl (by simpa using gK)
   ·generalize hp:enP (rd xs (root * 8+page / 8))=p
    by_cases hm:p % 8=0
    ·have e:Xdq xs root page=({ Xg6 (rd xs (root * 8+page / 8))with p:=p+page % 8 },0):=by simp[Xdq,hK,hG,h3,hp,hm]
     rw[e]
     refine(Xqm A c xs root page w h h0 hin _ rfl _ _ p hG rfl rfl h3 hp hm).mono fun e w' ⟨he,hb⟩=>⟨?_,hb⟩
     rw[he];simp only[Ent.val,Xg6,h3]
    ·have e:Xdq xs root page=(.no,4):=by simp[Xdq,hK,hG,h3,hp,hm]
     rw[e]
     exact Xvg A c xs root page w h h0 hin _ rfl _ _ p hG rfl rfl h3 hp hm
  ·have e:Xdq xs root page=(.no,3):=by simp[Xdq,hK,hG]
   rw[e]
   exact Xvf A c xs root page w h h0 hin _ rfl hK (by simpa using hG)
 ·have e:Xdq xs root page=(.no,4):=by simp[Xdq,hK]
  rw[e]
  exact Xvh A c xs root page w h h0 hin _ rfl (by simpa using hK)
end Go.Proofs.YtbopdijnojaaiadGreat
