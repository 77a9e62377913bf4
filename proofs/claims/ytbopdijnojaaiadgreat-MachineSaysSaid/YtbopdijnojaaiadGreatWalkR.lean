/- Tables: the walk of the document's Walked. No statement of the seat is proved here. -/
import Derived.Test.YtbopdijnojaaiadGreatWalkW
import Derived.Test.YtbopdijnojaaiadGreatEntryE
namespace Go.Proofs.YtbopdijnojaaiadGreat
set_option maxRecDepth 100000
set_option maxHeartbeats 8000000
open Go.RowKit
set_option linter.unusedSimpArgs false
set_option linter.unusedVariables false
theorem Xsa (x:Int) (w:World) (h:enK x=false):Calls Tryz.prog 100 #[.int .i64 x] w fun e w'=>e=.returned (.tuple #[.agg #[.bool false,.bool false,.bool false,.bool false,.int .i64 0],.bool false])∧Below w.heap.size w w':=
 (Xgy x w).mono fun e w' ⟨he,hb⟩=>⟨by rw[he,Xtz h],hb⟩
theorem Xr8 (x:Int) (w:World) (h:enK x=true) (h':enG x=false):Calls Tryz.prog 100 #[.int .i64 x] w fun e w'=>e=.returned (.tuple #[.agg #[.bool false,.bool false,.bool false,.bool false,.int .i64 0],.bool true])∧Below w.heap.size w w':=
 (Xgy x w).mono fun e w' ⟨he,hb⟩=>⟨by rw[he,Xty h h'],hb⟩
theorem Xf6 (x:Int) (b1 b2 b3:Bool) (p:Int) (w:World) (h:enG x=true) (h1:bitI x 1=b1) (h2:bitI x 2=b2) (h3:bitI x 3=b3) (hp:enP x=p):Calls Tryz.prog 100 #[.int .i64 x] w fun e w'=>e=.returned (.tuple #[.agg #[.bool true,.bool b1,.bool b2,.bool b3,.int .i64 p],.bool true])∧Below w.heap.size w w':=
 (Xgy x w).mono fun e w' ⟨he,hb⟩=>⟨by rw[he,Xwy h,h1,h2,h3,hp],hb⟩
def okW (r u wr:Bool):Bool:=r&&(!wr||u)
theorem Wd_bad (A:Option Addr) (c:Nat) (xs:List Int) (root page:Int) (wr:Bool) (w:World) (h:Ints w w.heap.size A 512 xs) (h0:cm xs=0) (hin:inP root page) (x:Int) (hx:rd xs (root * 8+page / 8)=x) (hK:enK x=false) :
  Calls Tryz.prog 86 #[.agg #[.slice A 512 c],.int .i64 root,.int .i64 page,.bool wr] w fun e w'=>e=.returned (.tuple #[.agg #[.bool false,.bool false,.bool false,.bool false,.int .i64 0],.int .i64 4,.int .i64 0])∧Below w.heap.size w w':=by
 have HK:=Zh hK
 unfold inP at hin
 obtain⟨⟨h1,h2⟩,h3,h4⟩:=hin
 have i1:=Xb2 (show 0≤root∧root≤63 by omega)
 have i2:=Xb2 (show 0≤page∧page≤63 by omega)
 obtain⟨b,off,rfl,hb,hc⟩:=h.at_ (by omega)
 have hb2:b<w.heap.size+1:=by omega
 have hb3:b<w.heap.size+1+1:=by omega
 have hcx:=hc _ _ (Xc7 (i:=root * 8+page / 8) (Xaz h0).1 (by omega))
 rw[hx,Int.mul_comm root 8]at hcx
 clear hc hx h h0 hK
 go_enter Tryz.func86,Tryz.ntmps86
 go_wp2_with (go_at_call 38;refine(Xbc _ _ _ _).mono ?_;rintro e w' ⟨rfl,rfl⟩)
 refine(Xsa _ _ HK.out).mono ?_
 rintro e w1 ⟨rfl,hb1⟩
 have hz1:=hb1.size
 (try simp only[Zs]at hz1)
 obtain⟨k1_0,l1_0,q1_0⟩:=aft hb1 (w.heap.size) (by(try simp)<;>omega)
 obtain⟨k1_1,l1_1,q1_1⟩:=aft hb1 (w.heap.size+1) (by(try simp)<;>omega)
 obtain⟨k1_2,l1_2,q1_2⟩:=aft hb1 (w.heap.size+1+1) (by(try simp)<;>omega)
 simp(maxDischargeDepth:=6) [go_sem, *]at k1_0 q1_0 k1_1 q1_1 k1_2 q1_2
 have HB1:=Zh hb1
 clear hb1
 go_wp2
 refine bodyPost_ret (v:=.tuple #[.agg #[.bool false,.bool false,.bool false,.bool false,.int .i64 0],.int .i64 4,.int .i64 0]) ?_ rfl ⟨rfl, ?_⟩
 ·simp(maxDischargeDepth:=8) [results,Tryz.results86,go_sem, *]
 ·(refine bl ?_;repeat' first|with_reducible(first|assumption|constructor)|((try simp)<;>omega))
theorem Wd_off (A:Option Addr) (c:Nat) (xs:List Int) (root page:Int) (wr:Bool) (w:World) (h:Ints w w.heap.size A 512 xs) (h0:cm xs=0) (hin:inP root page) (x:Int) (hx:rd xs (root * 8+page / 8)=x) (hK:enK x=true) (hG:enG x=false) :
  Calls Tryz.prog 86 #[.agg #[.slice A 512 c],.int .i64 root,.int .i64 page,.bool wr] w fun e w'=>e=.returned (.tuple #[.agg #[.bool false,.bool false,.bool false,.bool false,.int .i64 0],.int .i64 3,.int .i64 0])∧Below w.heap.size w w':=by
 have HK:=Zh hK
 have HG:=Zh hG
 unfold inP at hin
 obtain⟨⟨h1,h2⟩,h3,h4⟩:=hin
 have i1:=Xb2 (show 0≤root∧root≤63 by omega)
 have i2:=Xb2 (show 0≤page∧page≤63 by omega)
 obtain⟨b,off,rfl,hb,hc⟩:=h.at_ (by omega)
 have hb2:b<w.heap.size+1:=by omega
 have hb3:b<w.heap.size+1+1:=by omega
 have hcx:=hc _ _ (Xc7 (i:=root * 8+page / 8) (Xaz h0).1 (by omega))
 rw[hx,Int.mul_comm root 8]at hcx
 clear hc hx h h0 hK hG
 go_enter Tryz.func86,Tryz.ntmps86
 go_wp2_with (go_at_call 38;refine(Xbc _ _ _ _).mono ?_;rintro e w' ⟨rfl,rfl⟩)
 refine(Xr8 _ _ HK.out HG.out).mono ?_
 rintro e w1 ⟨rfl,hb1⟩
 have hz1:=hb1.size
 (try simp only[Zs]at hz1)
 obtain⟨k1_0,l1_0,q1_0⟩:=aft hb1 (w.heap.size) (by(try simp)<;>omega)
 obtain⟨k1_1,l1_1,q1_1⟩:=aft hb1 (w.heap.size+1) (by(try simp)<;>omega)
 obtain⟨k1_2,l1_2,q1_2⟩:=aft hb1 (w.heap.size+1+1) (by(try simp)<;>omega)
 simp(maxDischargeDepth:=6) [go_sem, *]at k1_0 q1_0 k1_1 q1_1 k1_2 q1_2
 have HB1:=Zh hb1
 clear hb1
 go_wp2
 refine bodyPost_ret (v:=.tuple #[.agg #[.bool false,.bool false,.bool false,.bool false,.int .i64 0],.int .i64 3,.int .i64 0]) ?_ rfl ⟨rfl, ?_⟩
 ·simp(maxDischargeDepth:=8) [results,Tryz.results86,go_sem, *]
 ·(refine bl ?_;repeat' first|with_reducible(first|assumption|constructor)|((try simp)<;>omega))
theorem Wd_odd (A:Option Addr) (c:Nat) (xs:List Int) (root page:Int) (wr:Bool) (w:World) (h:Ints w w.heap.size A 512 xs) (h0:cm xs=0) (hin:inP root page) (x:Int) (hx:rd xs (root * 8+page / 8)=x) (b1 b2:Bool) (p:Int) (hG:enG x=true) (e1:bitI x 1=b1) (e2:bitI x 2=b2) (e3:bitI x 3=true) (ep:enP x=p) (hm:p % 8≠0) :
  Calls Tryz.prog 86 #[.agg #[.slice A 512 c],.int .i64 root,.int .i64 page,.bool wr] w fun e w'=>e=.returned (.tuple #[.agg #[.bool false,.bool false,.bool false,.bool false,.int .i64 0],.int .i64 4,.int .i64 0])∧Below w.heap.size w w':=by
 have HG:=Zh hG
 have H1:=Zh e1
 have H2:=Zh e2
 have H3:=Zh e3
 have HP:=Zh ep
 have hpb:=Xek x
 rw[ep]at hpb
 obtain⟨hp1,hp2⟩:=hpb
 have hm1:(p % 8 != 0)=true:=by rw[bne_iff_ne];exact hm
 unfold inP at hin
 obtain⟨⟨h1,h2⟩,h3,h4⟩:=hin
 have i1:=Xb2 (show 0≤root∧root≤63 by omega)
 have i2:=Xb2 (show 0≤page∧page≤63 by omega)
 obtain⟨b,off,rfl,hb,hc⟩:=h.at_ (by omega)
 have hb2:b<w.heap.size+1:=by omega
 have hb3:b<w.heap.size+1+1:=by omega
 have hcx:=hc _ _ (Xc7 (i:=root * 8+page / 8) (Xaz h0).1 (by omega))
 rw[hx,Int.mul_comm root 8]at hcx
 clear hc hx h h0 hG e1 e2 e3 ep hm
 go_enter Tryz.func86,Tryz.ntmps86
 go_wp2_with (go_at_call 38;refine(Xbc _ _ _ _).mono ?_;rintro e w' ⟨rfl,rfl⟩)
 refine(Xf6 _ _ _ _ _ _ HG.out H1.out H2.out H3.out HP.out).mono ?_
 rintro e w1 ⟨rfl,hb1⟩
 have hz1:=hb1.size
 (try simp only[Zs]at hz1)
 obtain⟨k1_0,l1_0,q1_0⟩:=aft hb1 (w.heap.size) (by(try simp)<;>omega)
 obtain⟨k1_1,l1_1,q1_1⟩:=aft hb1 (w.heap.size+1) (by(try simp)<;>omega)
 obtain⟨k1_2,l1_2,q1_2⟩:=aft hb1 (w.heap.size+1+1) (by(try simp)<;>omega)
 simp(maxDischargeDepth:=6) [go_sem, *]at k1_0 q1_0 k1_1 q1_1 k1_2 q1_2
 have HB1:=Zh hb1
 clear hb1
 go_wp2
 refine bodyPost_ret (v:=.tuple #[.agg #[.bool false,.bool false,.bool false,.bool false,.int .i64 0],.int .i64 4,.int .i64 0]) ?_ rfl ⟨rfl, ?_⟩
 ·simp(maxDischargeDepth:=8) [results,Tryz.results86,go_sem, *]
 ·(refine bl ?_;repeat' first|with_reducible(first|assumption|constructor)|((try simp)<;>omega))
theorem Xli (A:Option Addr) (c:Nat) (xs:List Int) (root page:Int) (wr:Bool) (w:World) (h:Ints w w.heap.size A 512 xs) (h0:cm xs=0) (hin:inP root page) (x:Int) (hx:rd xs (root * 8+page / 8)=x) (b1 b2:Bool) (p:Int) (hG:enG x=true) (e1:bitI x 1=b1) (e2:bitI x 2=b2) (e3:bitI x 3=true) (ep:enP x=p) (hm:p % 8=0) (hr:okW b1 b2 wr=true) :
  Calls Tryz.prog 86 #[.agg #[.slice A 512 c],.int .i64 root,.int .i64 page,.bool wr] w fun e w'=>e=.returned (.tuple #[.agg #[.bool true,.bool b1,.bool b2,.bool true,.int .i64 (p+page % 8)],.int .i64 0,.int .i64 0])∧Below w.heap.size w w':=by
 have HG:=Zh hG
 have H1:=Zh e1
 have H2:=Zh e2
 have H3:=Zh e3
 have HP:=Zh ep
 have hpb:=Xek x
 rw[ep]at hpb
 obtain⟨hp1,hp2⟩:=hpb
 have hm1:(p % 8 != 0)=false:=by rw[bne_eq_false_iff_eq];exact hm
 unfold inP at hin
 obtain⟨⟨h1,h2⟩,h3,h4⟩:=hin
 have i1:=Xb2 (show 0≤root∧root≤63 by omega)
 have i2:=Xb2 (show 0≤page∧page≤63 by omega)
 obtain⟨b,off,rfl,hb,hc⟩:=h.at_ (by omega)
 have hb2:b<w.heap.size+1:=by omega
 have hb3:b<w.heap.size+1+1:=by omega
 have hcx:=hc _ _ (Xc7 (i:=root * 8+page / 8) (Xaz h0).1 (by omega))
 rw[hx,Int.mul_comm root 8]at hcx
 clear hc hx h h0 hG e1 e2 e3 ep hm
 cases b1<;>cases b2<;>cases wr
 all_goals first
  |(exact absurd hr (by decide))
  |skip
 all_goals
  clear hr
  go_enter Tryz.func86,Tryz.ntmps86
  go_wp2_with (go_at_call 38;refine(Xbc _ _ _ _).mono ?_;rintro e w' ⟨rfl,rfl⟩)
  refine(Xf6 _ _ _ _ _ _ HG.out H1.out H2.out H3.out HP.out).mono ?_
  rintro e w1 ⟨rfl,hb1⟩
  have hz1:=hb1.size
  (try simp only[Zs]at hz1)
  obtain⟨k1_0,l1_0,q1_0⟩:=aft hb1 (w.heap.size) (by(try simp)<;>omega)
  obtain⟨k1_1,l1_1,q1_1⟩:=aft hb1 (w.heap.size+1) (by(try simp)<;>omega)
  obtain⟨k1_2,l1_2,q1_2⟩:=aft hb1 (w.heap.size+1+1) (by(try simp)<;>omega)
  simp(maxDischargeDepth:=6) [go_sem, *]at k1_0 q1_0 k1_1 q1_1 k1_2 q1_2
  have HB1:=Zh hb1
  clear hb1
  go_wp2
  refine bodyPost_ret (v:=.tuple #[.agg #[.bool true,.bool _,.bool _,.bool true,.int .i64 (p+page % 8)],.int .i64 0,.int .i64 0]) ?_ rfl ⟨rfl, ?_⟩
  ·simp(maxDischargeDepth:=8) [results,Tryz.results86,go_sem, *]
  ·(refine bl ?_;repeat' first|with_reducible(first|assumption|constructor)|((try simp)<;>omega))
theorem Xj5 (A:Option Addr) (c:Nat) (xs:List Int) (root page:Int) (wr:Bool) (w:World) (h:Ints w w.heap.size A 512 xs) (h0:cm xs=0) (hin:inP root page) (x:Int) (hx:rd xs (root * 8+page / 8)=x) (b1 b2:Bool) (p:Int) (hG:enG x=true) (e1:bitI x 1=b1) (e2:bitI x 2=b2) (e3:bitI x 3=true) (ep:enP x=p) (hm:p % 8=0) (hr:okW b1 b2 wr=false) :
  Calls Tryz.prog 86 #[.agg #[.slice A 512 c],.int .i64 root,.int .i64 page,.bool wr] w fun e w'=>e=.returned (.tuple #[.agg #[.bool false,.bool false,.bool false,.bool false,.int .i64 0],.int .i64 5,.int .i64 0])∧Below w.heap.size w w':=by
 have HG:=Zh hG
 have H1:=Zh e1
 have H2:=Zh e2
 have H3:=Zh e3
 have HP:=Zh ep
 have hpb:=Xek x
 rw[ep]at hpb
 obtain⟨hp1,hp2⟩:=hpb
 have hm1:(p % 8 != 0)=false:=by rw[bne_eq_false_iff_eq];exact hm
 unfold inP at hin
 obtain⟨⟨h1,h2⟩,h3,h4⟩:=hin
 have i1:=Xb2 (show 0≤root∧root≤63 by omega)
 have i2:=Xb2 (show 0≤page∧page≤63 by omega)
 obtain⟨b,off,rfl,hb,hc⟩:=h.at_ (by omega)
 have hb2:b<w.heap.size+1:=by omega
 have hb3:b<w.heap.size+1+1:=by omega
 have hcx:=hc _ _ (Xc7 (i:=root * 8+page / 8) (Xaz h0).1 (by omega))
 rw[hx,Int.mul_comm root 8]at hcx
 clear hc hx h h0 hG e1 e2 e3 ep hm
 cases b1<;>cases b2<;>cases wr
 all_goals first
  |(exact absurd hr (by decide))
  |skip
 all_goals
  clear hr
  go_enter Tryz.func86,Tryz.ntmps86
  go_wp2_with (go_at_call 38;refine(Xbc _ _ _ _).mono ?_;rintro e w' ⟨rfl,rfl⟩)
  refine(Xf6 _ _ _ _ _ _ HG.out H1.out H2.out H3.out HP.out).mono ?_
  rintro e w1 ⟨rfl,hb1⟩
  have hz1:=hb1.size
  (try simp only[Zs]at hz1)
  obtain⟨k1_0,l1_0,q1_0⟩:=aft hb1 (w.heap.size) (by(try simp)<;>omega)
  obtain⟨k1_1,l1_1,q1_1⟩:=aft hb1 (w.heap.size+1) (by(try simp)<;>omega)
  obtain⟨k1_2,l1_2,q1_2⟩:=aft hb1 (w.heap.size+1+1) (by(try simp)<;>omega)
  simp(maxDischargeDepth:=6) [go_sem, *]at k1_0 q1_0 k1_1 q1_1 k1_2 q1_2
  have HB1:=Zh hb1
  clear hb1
  go_wp2
  refine bodyPost_ret (v:=.tuple #[.agg #[.bool false,.bool false,.bool false,.bool false,.int .i64 0],.int .i64 5,.int .i64 0]) ?_ rfl ⟨rfl, ?_⟩
  ·simp(maxDischargeDepth:=8) [results,Tryz.results86,go_sem, *]
  ·(refine bl ?_;repeat' first|with_reducible(first|assumption|constructor)|((try simp)<;>omega))
theorem Xzd (A:Option Addr) (c:Nat) (xs:List Int) (root page:Int) (wr:Bool) (w:World) (h:Ints w w.heap.size A 512 xs) (h0:cm xs=0) (hin:inP root page) (x:Int) (hx:rd xs (root * 8+page / 8)=x) (b1 b2:Bool) (p:Int) (hG:enG x=true) (e1:bitI x 1=b1) (e2:bitI x 2=b2) (e3:bitI x 3=false) (ep:enP x=p) (y:Int) (hy:rd xs (p * 8+page % 8)=y) (gK:enK y=false) :
  Calls Tryz.prog 86 #[.agg #[.slice A 512 c],.int .i64 root,.int .i64 page,.bool wr] w fun e w'=>e=.returned (.tuple #[.agg #[.bool false,.bool false,.bool false,.bool false,.int .i64 0],.int .i64 4,.int .i64 0])∧Below w.heap.size w w':=by
 have HG:=Zh hG
 have H1:=Zh e1
 have H2:=Zh e2
 have H3:=Zh e3
 have HP:=Zh ep
 have hpb:=Xek x
 rw[ep]at hpb
 obtain⟨hp1,hp2⟩:=hpb
 have GK:=Zh gK
 unfold inP at hin
 obtain⟨⟨h1,h2⟩,h3,h4⟩:=hin
 have i1:=Xb2 (show 0≤root∧root≤63 by omega)
 have i2:=Xb2 (show 0≤page∧page≤63 by omega)
 obtain⟨b,off,rfl,hb,hc⟩:=h.at_ (by omega)
 have hb2:b<w.heap.size+1:=by omega
 have hb3:b<w.heap.size+1+1:=by omega
 have hcx:=hc _ _ (Xc7 (i:=root * 8+page / 8) (Xaz h0).1 (by omega))
 rw[hx,Int.mul_comm root 8]at hcx
 have hcy:=hc _ _ (Xc7 (i:=p * 8+page % 8) (Xaz h0).1 (by omega))
 rw[hy,Int.mul_comm p 8]at hcy
 clear hc hx h h0 hG e1 e2 e3 ep hy gK
 go_enter Tryz.func86,Tryz.ntmps86
 go_wp2_with (go_at_call 38;refine(Xbc _ _ _ _).mono ?_;rintro e w' ⟨rfl,rfl⟩)
 refine(Xf6 _ _ _ _ _ _ HG.out H1.out H2.out H3.out HP.out).mono ?_
 rintro e w1 ⟨rfl,hb1⟩
 have hz1:=hb1.size
 (try simp only[Zs]at hz1)
 obtain⟨k1_0,l1_0,q1_0⟩:=aft hb1 (w.heap.size) (by(try simp)<;>omega)
 obtain⟨k1_1,l1_1,q1_1⟩:=aft hb1 (w.heap.size+1) (by(try simp)<;>omega)
 obtain⟨k1_2,l1_2,q1_2⟩:=aft hb1 (w.heap.size+1+1) (by(try simp)<;>omega)
 obtain⟨k1_3,l1_3,q1_3⟩:=aft hb1 (b) (by(try simp)<;>omega)
 simp(maxDischargeDepth:=6) [go_sem, *]at k1_0 q1_0 k1_1 q1_1 k1_2 q1_2 k1_3 q1_3
 have HB1:=Zh hb1
 clear hb1
 go_wp2_with fail
 refine(Xsa _ _ GK.out).mono ?_
 rintro e w2 ⟨rfl,hb2⟩
 have hz2:=hb2.size
 (try simp only[Zs]at hz2)
 obtain⟨k2_0,l2_0,q2_0⟩:=aft hb2 (w.heap.size) (by(try simp)<;>omega)
 obtain⟨k2_1,l2_1,q2_1⟩:=aft hb2 (w.heap.size+1) (by(try simp)<;>omega)
 obtain⟨k2_2,l2_2,q2_2⟩:=aft hb2 (w.heap.size+1+1) (by(try simp)<;>omega)
 obtain⟨k2_3,l2_3,q2_3⟩:=aft hb2 (w1.heap.size) (by(try simp)<;>omega)
 simp(maxDischargeDepth:=6) [go_sem, *]at k2_0 q2_0 k2_1 q2_1 k2_2 q2_2 k2_3 q2_3
 have HB2:=Zh hb2
 clear hb2
 go_wp2
 refine bodyPost_ret (v:=.tuple #[.agg #[.bool false,.bool false,.bool false,.bool false,.int .i64 0],.int .i64 4,.int .i64 0]) ?_ rfl ⟨rfl, ?_⟩
 ·simp(maxDischargeDepth:=8) [results,Tryz.results86,go_sem, *]
 ·(refine bl ?_;repeat' first|with_reducible(first|assumption|constructor)|((try simp)<;>omega))
theorem Xzc (A:Option Addr) (c:Nat) (xs:List Int) (root page:Int) (wr:Bool) (w:World) (h:Ints w w.heap.size A 512 xs) (h0:cm xs=0) (hin:inP root page) (x:Int) (hx:rd xs (root * 8+page / 8)=x) (b1 b2:Bool) (p:Int) (hG:enG x=true) (e1:bitI x 1=b1) (e2:bitI x 2=b2) (e3:bitI x 3=false) (ep:enP x=p) (y:Int) (hy:rd xs (p * 8+page % 8)=y) (gK:enK y=true) (gG:enG y=false) :
  Calls Tryz.prog 86 #[.agg #[.slice A 512 c],.int .i64 root,.int .i64 page,.bool wr] w fun e w'=>e=.returned (.tuple #[.agg #[.bool false,.bool false,.bool false,.bool false,.int .i64 0],.int .i64 3,.int .i64 0])∧Below w.heap.size w w':=by
 have HG:=Zh hG
 have H1:=Zh e1
 have H2:=Zh e2
 have H3:=Zh e3
 have HP:=Zh ep
 have hpb:=Xek x
 rw[ep]at hpb
 obtain⟨hp1,hp2⟩:=hpb
 have GK:=Zh gK
 have GG:=Zh gG
 unfold inP at hin
 obtain⟨⟨h1,h2⟩,h3,h4⟩:=hin
 have i1:=Xb2 (show 0≤root∧root≤63 by omega)
 have i2:=Xb2 (show 0≤page∧page≤63 by omega)
 obtain⟨b,off,rfl,hb,hc⟩:=h.at_ (by omega)
 have hb2:b<w.heap.size+1:=by omega
 have hb3:b<w.heap.size+1+1:=by omega
 have hcx:=hc _ _ (Xc7 (i:=root * 8+page / 8) (Xaz h0).1 (by omega))
 rw[hx,Int.mul_comm root 8]at hcx
 have hcy:=hc _ _ (Xc7 (i:=p * 8+page % 8) (Xaz h0).1 (by omega))
 rw[hy,Int.mul_comm p 8]at hcy
 clear hc hx h h0 hG e1 e2 e3 ep hy gK gG
 go_enter Tryz.func86,Tryz.ntmps86
 go_wp2_with (go_at_call 38;refine(Xbc _ _ _ _).mono ?_;rintro e w' ⟨rfl,rfl⟩)
 refine(Xf6 _ _ _ _ _ _ HG.out H1.out H2.out H3.out HP.out).mono ?_
 rintro e w1 ⟨rfl,hb1⟩
 have hz1:=hb1.size
 (try simp only[Zs]at hz1)
 obtain⟨k1_0,l1_0,q1_0⟩:=aft hb1 (w.heap.size) (by(try simp)<;>omega)
 obtain⟨k1_1,l1_1,q1_1⟩:=aft hb1 (w.heap.size+1) (by(try simp)<;>omega)
 obtain⟨k1_2,l1_2,q1_2⟩:=aft hb1 (w.heap.size+1+1) (by(try simp)<;>omega)
 obtain⟨k1_3,l1_3,q1_3⟩:=aft hb1 (b) (by(try simp)<;>omega)
 simp(maxDischargeDepth:=6) [go_sem, *]at k1_0 q1_0 k1_1 q1_1 k1_2 q1_2 k1_3 q1_3
 have HB1:=Zh hb1
 clear hb1
 go_wp2_with fail
 refine(Xr8 _ _ GK.out GG.out).mono ?_
 rintro e w2 ⟨rfl,hb2⟩
 have hz2:=hb2.size
 (try simp only[Zs]at hz2)
 obtain⟨k2_0,l2_0,q2_0⟩:=aft hb2 (w.heap.size) (by(try simp)<;>omega)
 obtain⟨k2_1,l2_1,q2_1⟩:=aft hb2 (w.heap.size+1) (by(try simp)<;>omega)
 obtain⟨k2_2,l2_2,q2_2⟩:=aft hb2 (w.heap.size+1+1) (by(try simp)<;>omega)
 obtain⟨k2_3,l2_3,q2_3⟩:=aft hb2 (w1.heap.size) (by(try simp)<;>omega)
 simp(maxDischargeDepth:=6) [go_sem, *]at k2_0 q2_0 k2_1 q2_1 k2_2 q2_2 k2_3 q2_3
 have HB2:=Zh hb2
 clear hb2
 go_wp2
 refine bodyPost_ret (v:=.tuple #[.agg #[.bool false,.bool false,.bool false,.bool false,.int .i64 0],.int .i64 3,.int .i64 0]) ?_ rfl ⟨rfl, ?_⟩
 ·simp(maxDischargeDepth:=8) [results,Tryz.results86,go_sem, *]
 ·(refine bl ?_;repeat' first|with_reducible(first|assumption|constructor)|((try simp)<;>omega))
theorem Xwf (A:Option Addr) (c:Nat) (xs:List Int) (root page:Int) (wr:Bool) (w:World) (h:Ints w w.heap.size A 512 xs) (h0:cm xs=0) (hin:inP root page) (x:Int) (hx:rd xs (root * 8+page / 8)=x) (b1 b2:Bool) (p:Int) (hG:enG x=true) (e1:bitI x 1=b1) (e2:bitI x 2=b2) (e3:bitI x 3=false) (ep:enP x=p) (y:Int) (hy:rd xs (p * 8+page % 8)=y) (c1 c2:Bool) (q:Int) (gG:enG y=true) (f1:bitI y 1=c1) (f2:bitI y 2=c2) (f3:bitI y 3=false) (fp:enP y=q) :
  Calls Tryz.prog 86 #[.agg #[.slice A 512 c],.int .i64 root,.int .i64 page,.bool wr] w fun e w'=>e=.returned (.tuple #[.agg #[.bool false,.bool false,.bool false,.bool false,.int .i64 0],.int .i64 4,.int .i64 0])∧Below w.heap.size w w':=by
 have HG:=Zh hG
 have H1:=Zh e1
 have H2:=Zh e2
 have H3:=Zh e3
 have HP:=Zh ep
 have hpb:=Xek x
 rw[ep]at hpb
 obtain⟨hp1,hp2⟩:=hpb
 have GG:=Zh gG
 have F1:=Zh f1
 have F2:=Zh f2
 have F3:=Zh f3
 have FP:=Zh fp
 unfold inP at hin
 obtain⟨⟨h1,h2⟩,h3,h4⟩:=hin
 have i1:=Xb2 (show 0≤root∧root≤63 by omega)
 have i2:=Xb2 (show 0≤page∧page≤63 by omega)
 obtain⟨b,off,rfl,hb,hc⟩:=h.at_ (by omega)
 have hb2:b<w.heap.size+1:=by omega
 have hb3:b<w.heap.size+1+1:=by omega
 have hcx:=hc _ _ (Xc7 (i:=root * 8+page / 8) (Xaz h0).1 (by omega))
 rw[hx,Int.mul_comm root 8]at hcx
 have hcy:=hc _ _ (Xc7 (i:=p * 8+page % 8) (Xaz h0).1 (by omega))
 rw[hy,Int.mul_comm p 8]at hcy
 clear hc hx h h0 hG e1 e2 e3 ep hy gG f1 f2 f3 fp
 go_enter Tryz.func86,Tryz.ntmps86
 go_wp2_with (go_at_call 38;refine(Xbc _ _ _ _).mono ?_;rintro e w' ⟨rfl,rfl⟩)
 refine(Xf6 _ _ _ _ _ _ HG.out H1.out H2.out H3.out HP.out).mono ?_
 rintro e w1 ⟨rfl,hb1⟩
 have hz1:=hb1.size
 (try simp only[Zs]at hz1)
 obtain⟨k1_0,l1_0,q1_0⟩:=aft hb1 (w.heap.size) (by(try simp)<;>omega)
 obtain⟨k1_1,l1_1,q1_1⟩:=aft hb1 (w.heap.size+1) (by(try simp)<;>omega)
 obtain⟨k1_2,l1_2,q1_2⟩:=aft hb1 (w.heap.size+1+1) (by(try simp)<;>omega)
 obtain⟨k1_3,l1_3,q1_3⟩:=aft hb1 (b) (by(try simp)<;>omega)
 simp(maxDischargeDepth:=6) [go_sem, *]at k1_0 q1_0 k1_1 q1_1 k1_2 q1_2 k1_3 q1_3
 have HB1:=Zh hb1
 clear hb1
 go_wp2_with fail
 refine(Xf6 _ _ _ _ _ _ GG.out F1.out F2.out F3.out FP.out).mono ?_
 rintro e w2 ⟨rfl,hb2⟩
 have hz2:=hb2.size
 (try simp only[Zs]at hz2)
 obtain⟨k2_0,l2_0,q2_0⟩:=aft hb2 (w.heap.size) (by(try simp)<;>omega)
 obtain⟨k2_1,l2_1,q2_1⟩:=aft hb2 (w.heap.size+1) (by(try simp)<;>omega)
 obtain⟨k2_2,l2_2,q2_2⟩:=aft hb2 (w.heap.size+1+1) (by(try simp)<;>omega)
 obtain⟨k2_3,l2_3,q2_3⟩:=aft hb2 (w1.heap.size) (by(try simp)<;>omega)
 simp(maxDischargeDepth:=6) [go_sem, *]at k2_0 q2_0 k2_1 q2_1 k2_2 q2_2 k2_3 q2_3
 have HB2:=Zh hb2
 clear hb2
 go_wp2
 refine bodyPost_ret (v:=.tuple #[.agg #[.bool false,.bool false,.bool false,.bool false,.int .i64 0],.int .i64 4,.int .i64 0]) ?_ rfl ⟨rfl, ?_⟩
 ·simp(maxDischargeDepth:=8) [results,Tryz.results86,go_sem, *]
 ·(refine bl ?_;repeat' first|with_reducible(first|assumption|constructor)|((try simp)<;>omega))
theorem Xzb (A:Option Addr) (c:Nat) (xs:List Int) (root page:Int) (wr:Bool) (w:World) (h:Ints w w.heap.size A 512 xs) (h0:cm xs=0) (hin:inP root page) (x:Int) (hx:rd xs (root * 8+page / 8)=x) (b1 b2:Bool) (p:Int) (hG:enG x=true) (e1:bitI x 1=b1) (e2:bitI x 2=b2) (e3:bitI x 3=false) (ep:enP x=p) (y:Int) (hy:rd xs (p * 8+page % 8)=y) (c1 c2:Bool) (q:Int) (gG:enG y=true) (f1:bitI y 1=c1) (f2:bitI y 2=c2) (f3:bitI y 3=true) (fp:enP y=q) (hr:okW c1 c2 wr=true) :
  Calls Tryz.prog 86 #[.agg #[.slice A 512 c],.int .i64 root,.int .i64 page,.bool wr] w fun e w'=>e=.returned (.tuple #[.agg #[.bool true,.bool c1,.bool c2,.bool true,.int .i64 q],.int .i64 0,.int .i64 0])∧Below w.heap.size w w':=by
 have HG:=Zh hG
 have H1:=Zh e1
 have H2:=Zh e2
 have H3:=Zh e3
 have HP:=Zh ep
 have hpb:=Xek x
 rw[ep]at hpb
 obtain⟨hp1,hp2⟩:=hpb
 have GG:=Zh gG
 have F1:=Zh f1
 have F2:=Zh f2
 have F3:=Zh f3
 have FP:=Zh fp
 unfold inP at hin
 obtain⟨⟨h1,h2⟩,h3,h4⟩:=hin
 have i1:=Xb2 (show 0≤root∧root≤63 by omega)
 have i2:=Xb2 (show 0≤page∧page≤63 by omega)
 obtain⟨b,off,rfl,hb,hc⟩:=h.at_ (by omega)
 have hb2:b<w.heap.size+1:=by omega
 have hb3:b<w.heap.size+1+1:=by omega
 have hcx:=hc _ _ (Xc7 (i:=root * 8+page / 8) (Xaz h0).1 (by omega))
 rw[hx,Int.mul_comm root 8]at hcx
 have hcy:=hc _ _ (Xc7 (i:=p * 8+page % 8) (Xaz h0).1 (by omega))
 rw[hy,Int.mul_comm p 8]at hcy
 clear hc hx h h0 hG e1 e2 e3 ep hy gG f1 f2 f3 fp
 cases c1<;>cases c2<;>cases wr
 all_goals first
  |(exact absurd hr (by decide))
  |skip
 all_goals
  clear hr
  go_enter Tryz.func86,Tryz.ntmps86
  go_wp2_with (go_at_call 38;refine(Xbc _ _ _ _).mono ?_;rintro e w' ⟨rfl,rfl⟩)
  refine(Xf6 _ _ _ _ _ _ HG.out H1.out H2.out H3.out HP.out).mono ?_
  rintro e w1 ⟨rfl,hb1⟩
  have hz1:=hb1.size
  (try simp only[Zs]at hz1)
  obtain⟨k1_0,l1_0,q1_0⟩:=aft hb1 (w.heap.size) (by(try simp)<;>omega)
  obtain⟨k1_1,l1_1,q1_1⟩:=aft hb1 (w.heap.size+1) (by(try simp)<;>omega)
  obtain⟨k1_2,l1_2,q1_2⟩:=aft hb1 (w.heap.size+1+1) (by(try simp)<;>omega)
  obtain⟨k1_3,l1_3,q1_3⟩:=aft hb1 (b) (by(try simp)<;>omega)
  simp(maxDischargeDepth:=6) [go_sem, *]at k1_0 q1_0 k1_1 q1_1 k1_2 q1_2 k1_3 q1_3
  have HB1:=Zh hb1
  clear hb1
  go_wp2_with fail
  refine(Xf6 _ _ _ _ _ _ GG.out F1.out F2.out F3.out FP.out).mono ?_
  rintro e w2 ⟨rfl,hb2⟩
  have hz2:=hb2.size
  (try simp only[Zs]at hz2)
  obtain⟨k2_0,l2_0,q2_0⟩:=aft hb2 (w.heap.size) (by(try simp)<;>omega)
  obtain⟨k2_1,l2_1,q2_1⟩:=aft hb2 (w.heap.size+1) (by(try simp)<;>omega)
  obtain⟨k2_2,l2_2,q2_2⟩:=aft hb2 (w.heap.size+1+1) (by(try simp)<;>omega)
  obtain⟨k2_3,l2_3,q2_3⟩:=aft hb2 (w1.heap.size) (by(try simp)<;>omega)
  simp(maxDischargeDepth:=6) [go_sem, *]at k2_0 q2_0 k2_1 q2_1 k2_2 q2_2 k2_3 q2_3
  have HB2:=Zh hb2
  clear hb2
  go_wp2
  refine bodyPost_ret (v:=.tuple #[.agg #[.bool true,.bool _,.bool _,.bool true,.int .i64 q],.int .i64 0,.int .i64 0]) ?_ rfl ⟨rfl, ?_⟩
  ·simp(maxDischargeDepth:=8) [results,Tryz.results86,go_sem, *]
  ·(refine bl ?_;repeat' first|with_reducible(first|assumption|constructor)|((try simp)<;>omega))
theorem Wd_no2 (A:Option Addr) (c:Nat) (xs:List Int) (root page:Int) (wr:Bool) (w:World) (h:Ints w w.heap.size A 512 xs) (h0:cm xs=0) (hin:inP root page) (x:Int) (hx:rd xs (root * 8+page / 8)=x) (b1 b2:Bool) (p:Int) (hG:enG x=true) (e1:bitI x 1=b1) (e2:bitI x 2=b2) (e3:bitI x 3=false) (ep:enP x=p) (y:Int) (hy:rd xs (p * 8+page % 8)=y) (c1 c2:Bool) (q:Int) (gG:enG y=true) (f1:bitI y 1=c1) (f2:bitI y 2=c2) (f3:bitI y 3=true) (fp:enP y=q) (hr:okW c1 c2 wr=false) :
  Calls Tryz.prog 86 #[.agg #[.slice A 512 c],.int .i64 root,.int .i64 page,.bool wr] w fun e w'=>e=.returned (.tuple #[.agg #[.bool false,.bool false,.bool false,.bool false,.int .i64 0],.int .i64 5,.int .i64 0])∧Below w.heap.size w w':=by
 have HG:=Zh hG
 have H1:=Zh e1
 have H2:=Zh e2
 have H3:=Zh e3
 have HP:=Zh ep
 have hpb:=Xek x
 rw[ep]at hpb
 obtain⟨hp1,hp2⟩:=hpb
 have GG:=Zh gG
 have F1:=Zh f1
 have F2:=Zh f2
 have F3:=Zh f3
 have FP:=Zh fp
 unfold inP at hin
 obtain⟨⟨h1,h2⟩,h3,h4⟩:=hin
 have i1:=Xb2 (show 0≤root∧root≤63 by omega)
 have i2:=Xb2 (show 0≤page∧page≤63 by omega)
 obtain⟨b,off,rfl,hb,hc⟩:=h.at_ (by omega)
 have hb2:b<w.heap.size+1:=by omega
 have hb3:b<w.heap.size+1+1:=by omega
 have hcx:=hc _ _ (Xc7 (i:=root * 8+page / 8) (Xaz h0).1 (by omega))
 rw[hx,Int.mul_comm root 8]at hcx
 have hcy:=hc _ _ (Xc7 (i:=p * 8+page % 8) (Xaz h0).1 (by omega))
 rw[hy,Int.mul_comm p 8]at hcy
 clear hc hx h h0 hG e1 e2 e3 ep hy gG f1 f2 f3 fp
 cases c1<;>cases c2<;>cases wr
 all_goals first
  |(exact absurd hr (by decide))
  |skip
 all_goals
  clear hr
  go_enter Tryz.func86,Tryz.ntmps86
  go_wp2_with (go_at_call 38;refine(Xbc _ _ _ _).mono ?_;rintro e w' ⟨rfl,rfl⟩)
  refine(Xf6 _ _ _ _ _ _ HG.out H1.out H2.out H3.out HP.out).mono ?_
  rintro e w1 ⟨rfl,hb1⟩
  have hz1:=hb1.size
  (try simp only[Zs]at hz1)
  obtain⟨k1_0,l1_0,q1_0⟩:=aft hb1 (w.heap.size) (by(try simp)<;>omega)
  obtain⟨k1_1,l1_1,q1_1⟩:=aft hb1 (w.heap.size+1) (by(try simp)<;>omega)
  obtain⟨k1_2,l1_2,q1_2⟩:=aft hb1 (w.heap.size+1+1) (by(try simp)<;>omega)
  obtain⟨k1_3,l1_3,q1_3⟩:=aft hb1 (b) (by(try simp)<;>omega)
  simp(maxDischargeDepth:=6) [go_sem, *]at k1_0 q1_0 k1_1 q1_1 k1_2 q1_2 k1_3 q1_3
  have HB1:=Zh hb1
  clear hb1
  go_wp2_with fail
  refine(Xf6 _ _ _ _ _ _ GG.out F1.out F2.out F3.out FP.out).mono ?_
  rintro e w2 ⟨rfl,hb2⟩
  have hz2:=hb2.size
  (try simp only[Zs]at hz2)
  obtain⟨k2_0,l2_0,q2_0⟩:=aft hb2 (w.heap.size) (by(try simp)<;>omega)
  obtain⟨k2_1,l2_1,q2_1⟩:=aft hb2 (w.heap.size+1) (by(try simp)<;>omega)
  obtain⟨k2_2,l2_2,q2_2⟩:=aft hb2 (w.heap.size+1+1) (by(try simp)<;>omega)
  obtain⟨k2_3,l2_3,q2_3⟩:=aft hb2 (w1.heap.size) (by(try simp)<;>omega)
  simp(maxDischargeDepth:=6) [go_sem, *]at k2_0 q2_0 k2_1 q2_1 k2_2 q2_2 k2_3 q2_3
  have HB2:=Zh hb2
  clear hb2
  go_wp2
  refine bodyPost_ret (v:=.tuple #[.agg #[.bool false,.bool false,.bool false,.bool false,.int .i64 0],.int .i64 5,.int .i64 0]) ?_ rfl ⟨rfl, ?_⟩
  ·simp(maxDischargeDepth:=8) [results,Tryz.results86,go_sem, *]
  ·(refine bl ?_;repeat' first|with_reducible(first|assumption|constructor)|((try simp)<;>omega))
theorem Xp9 (A:Option Addr) (c:Nat) (xs:List Int) (root page:Int) (wr:Bool) (w:World) (h:Ints w w.heap.size A 512 xs) (h0:cm xs=0) (hin:inP root page) :
  Calls Tryz.prog 86 #[.agg #[.slice A 512 c],.int .i64 root,.int .i64 page,.bool wr] w fun e w'=>e=.returned (.tuple #[(Xck xs root page wr).1.val,.int .i64 (Xck xs root page wr).2,.int .i64 0])∧Below w.heap.size w w':=by
 by_cases hK:enK (rd xs (root * 8+page / 8))=true
 ·by_cases hG:enG (rd xs (root * 8+page / 8))=true
  ·cases h3:bitI (rd xs (root * 8+page / 8)) 3
   ·generalize hp:enP (rd xs (root * 8+page / 8))=p
    have e0:Xdq xs root page=Xf2 xs p page:=by simp[Xdq,hK,hG,h3,hp]
    by_cases gK:enK (rd xs (p * 8+page % 8))=true
    ·by_cases gG:enG (rd xs (p * 8+page % 8))=true
     ·cases g3:bitI (rd xs (p * 8+page % 8)) 3
      ·have e:Xck xs root page wr=(.no,4):=by unfold Xck;rw[e0];simp[Xf2,gK,gG,g3]
       rw[e]
       exact Xwf A c xs root page wr w h h0 hin _ rfl _ _ p hG rfl rfl h3 hp _ rfl _ _ _ gG rfl rfl g3 rfl
      ·cases hr:okW (bitI (rd xs (p * 8+page % 8)) 1) (bitI (rd xs (p * 8+page % 8)) 2) wr
       ·have e:Xck xs root page wr=(.no,5):=by unfold Xck;rw[e0];unfold okW at hr;simp only[Xf2,gK,gG,g3,if_true,Xg6,hr];rfl
        rw[e]
        exact Wd_no2 A c xs root page wr w h h0 hin _ rfl _ _ p hG rfl rfl h3 hp _ rfl _ _ _ gG rfl rfl g3 rfl hr
       ·have e:Xck xs root page wr=(Xg6 (rd xs (p * 8+page % 8)),0):=by unfold Xck;rw[e0];unfold okW at hr;simp only[Xf2,gK,gG,g3,if_true,Xg6,hr]
        rw[e]
        refine(Xzb A c xs root page wr w h h0 hin _ rfl _ _ p hG rfl rfl h3 hp _ rfl _ _ _ gG rfl rfl g3 rfl hr).mono fun e w' ⟨he,hb⟩=>⟨?_,hb⟩
        rw[he];simp only[Ent.val,Xg6,g3]
     ·have e:Xck xs root page wr=(.no,3):=by unfold Xck;rw[e0];simp[Xf2,gK,gG]
      rw[e]
      exact Xzc A c xs root page wr w h h0 hin _ rfl _ _ p hG rfl rfl h3 hp _ rfl gK (by simpa using gG)
    ·have e:Xck xs root page wr=(.no,4):=by unfold Xck;rw[e0];simp[Xf2,gK]
     rw[e]
     exact Xzd A c xs root page wr w h h0 hin _ rfl _ _ p hG rfl rfl h3 hp _ rfl (by simpa using gK)
   ·generalize hp:enP (rd xs (root * 8+page / 8))=p
    by_cases hm:p % 8=0
    ·have e0:Xdq xs root page=({ Xg6 (rd xs (root * 8+page / 8))with p:=p+page % 8 },0):=by simp[Xdq,hK,hG,h3,hp,hm]
     cases hr:okW (bitI (rd xs (root * 8+page / 8)) 1) (bitI (rd xs (root * 8+page / 8)) 2) wr
     ·have e:Xck xs root page wr=(.no,5):=by unfold Xck;rw[e0];unfold okW at hr;simp only[Xg6,hr,if_true];rfl
      rw[e]
      exact Xj5 A c xs root page wr w h h0 hin _ rfl _ _ p hG rfl rfl h3 hp hm hr
     ·have e:Xck xs root page wr=({ Xg6 (rd xs (root * 8+page / 8))with p:=p+page % 8 },0):=by unfold Xck;rw[e0];unfold okW at hr;simp only[Xg6,hr,if_true]
      rw[e]
      refine(Xli A c xs root page wr w h h0 hin _ rfl _ _ p hG rfl rfl h3 hp hm hr).mono fun e w' ⟨he,hb⟩=>⟨?_,hb⟩
      rw[he];simp only[Ent.val,Xg6,h3]
    ·have e:Xck xs root page wr=(.no,4):=by unfold Xck;simp[Xdq,hK,hG,h3,hp,hm]
     rw[e]
     exact Wd_odd A c xs root page wr w h h0 hin _ rfl _ _ p hG rfl rfl h3 hp hm
  ·have e:Xck xs root page wr=(.no,3):=by unfold Xck;simp[Xdq,hK,hG]
   rw[e]
   exact Wd_off A c xs root page wr w h h0 hin _ rfl hK (by simpa using hG)
 ·have e:Xck xs root page wr=(.no,4):=by unfold Xck;simp[Xdq,hK]
  rw[e]
  exact Wd_bad A c xs root page wr w h h0 hin _ rfl (by simpa using hK)
end Go.Proofs.YtbopdijnojaaiadGreat
