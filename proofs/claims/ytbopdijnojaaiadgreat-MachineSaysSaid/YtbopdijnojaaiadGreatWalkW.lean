/- Tables: the walk of the laws' closed fact 'walked'. No statement of the seat is proved here. -/
import Derived.Test.YtbopdijnojaaiadGreatWalk
import Derived.Test.YtbopdijnojaaiadGreatMemZ
namespace Go.Proofs.YtbopdijnojaaiadGreat
set_option maxRecDepth 100000
set_option maxHeartbeats 4000000
open Go.RowKit
set_option linter.unusedSimpArgs false
set_option linter.unusedVariables false
section
theorem Xpt (v r u l:Bool) (p:Int) (wr:Bool) (w:World):Calls Tryz.prog 106 #[.agg #[.bool v,.bool r,.bool u,.bool l,.int .i64 p],.bool wr] w fun e w'=>e=.returned (.bool (r&&(!wr||u)))∧Below w.heap.size w w':=by
 have HB:=Zh (Xag w)
 cases r<;>cases u<;>cases wr
 all_goals
  go_enter Tryz.func106,Tryz.ntmps106
  go_wp2
  go_ret
  exact⟨rfl,HB.out _⟩
theorem Xi2 (v r u l:Bool) (p:Int) (wr b:Bool) (h:(r&&(!wr||u))=b) (w:World):Calls Tryz.prog 106 #[.agg #[.bool v,.bool r,.bool u,.bool l,.int .i64 p],.bool wr] w fun e w'=>e=.returned (.bool b)∧Below w.heap.size w w':=by
 rw[←h];exact Xpt v r u l p wr w
theorem Xhw (A:Option Addr) (c:Nat) (xs:List Int) (root page:Int) (v r u l:Bool) (p f:Int) (w:World) (h:Ints w w.heap.size A 512 xs) (h0:cm xs=0) (hin:inP root page) (hq:Xdq xs root page=(⟨v,r,u,l,p⟩,f)) :
  Calls Tryz.prog 105 #[.agg #[.slice A 512 c],.int .i64 root,.int .i64 page] w fun e w'=>e=.returned (.tuple #[.agg #[.bool v,.bool r,.bool u,.bool l,.int .i64 p],.int .i64 f])∧Below w.heap.size w w':=by
 have:=Xra A c xs root page w h h0 hin
 rw[hq]at this
 exact this
theorem Xzf (A:Option Addr) (n c:Nat) (xs:List Int) (root page:Int) (wr:Bool) (w:World) (h:Ints w w.heap.size A n xs) (h0:cm xs≠0) :
  Calls Tryz.prog 103 #[.agg #[.slice A n c],.int .i64 root,.int .i64 page,.bool wr] w fun e w'=>e=.returned (.tuple #[.agg #[.bool false,.bool false,.bool false,.bool false,.int .i64 0],.int .i64 0,.int .i64 (cm xs)])∧Below w.heap.size w w':=by
 have HX:=Zh h
 have hc0:(cm xs != 0)=true:=by rw[bne_iff_ne];exact h0
 clear h h0
 go_enter Tryz.func103,Tryz.ntmps103
 go_wp2_with fail
 refine(Xb4 _ _ _ xs _ (((HX.out.alloc (Nat.le_refl _) _).alloc (by simp) _).more (by simp;omega))).mono ?_
 rintro e w1 ⟨rfl,hb1⟩
 have hz1:=hb1.size
 (try simp only[Zs]at hz1)
 obtain⟨k1_0,l1_0,q1_0⟩:=aft hb1 (w.heap.size) (by(try simp)<;>omega)
 obtain⟨k1_1,l1_1,q1_1⟩:=aft hb1 (w.heap.size+1) (by(try simp)<;>omega)
 simp(maxDischargeDepth:=6) [go_sem, *]at k1_0 q1_0 k1_1 q1_1
 have HB1:=Zh hb1
 clear hb1
 go_wp2
 refine bodyPost_ret (v:=.tuple #[.agg #[.bool false,.bool false,.bool false,.bool false,.int .i64 0],.int .i64 0,.int .i64 (cm xs)]) ?_ rfl ⟨rfl, ?_⟩
 ·simp(maxDischargeDepth:=8) [results,Tryz.results103,go_sem, *]
 ·(refine bl ?_;repeat' first|with_reducible(first|assumption|constructor)|((try simp)<;>omega))
theorem Xwh (A:Option Addr) (n c:Nat) (xs:List Int) (root page:Int) (wr:Bool) (w:World) (h:Ints w w.heap.size A n xs) (h0:cm xs=0) (hin:¬inP root page) :
  Calls Tryz.prog 103 #[.agg #[.slice A n c],.int .i64 root,.int .i64 page,.bool wr] w fun e w'=>e=.returned (.tuple #[.agg #[.bool false,.bool false,.bool false,.bool false,.int .i64 0],.int .i64 0,.int .i64 4])∧Below w.heap.size w w':=by
 have HX:=Zh h
 have hc0:(cm xs != 0)=false:=by rw[bne_eq_false_iff_eq];exact h0
 have H0:=Zh h0
 unfold inP at hin
 have hr:root<0∨(0≤root∧64≤root)∨(0≤root∧root<64∧page<0)∨(0≤root∧root<64∧0≤page∧64≤page):=by omega
 clear h h0 hin
 have hc1:=H0.out
 clear hc1
 rcases hr with hr|⟨hr,hr2⟩|⟨hr,hr2,hr3⟩|⟨hr,hr2,hr3,hr4⟩
 all_goals
  go_enter Tryz.func103,Tryz.ntmps103
  go_wp2_with fail
  refine(Xb4 _ _ _ xs _ (((HX.out.alloc (Nat.le_refl _) _).alloc (by simp) _).more (by simp;omega))).mono ?_
  rintro e w1 ⟨rfl,hb1⟩
  have hz1:=hb1.size
  (try simp only[Zs]at hz1)
  obtain⟨k1_0,l1_0,q1_0⟩:=aft hb1 (w.heap.size) (by(try simp)<;>omega)
  obtain⟨k1_1,l1_1,q1_1⟩:=aft hb1 (w.heap.size+1) (by(try simp)<;>omega)
  simp(maxDischargeDepth:=6) [go_sem, *]at k1_0 q1_0 k1_1 q1_1
  have HB1:=Zh hb1
  clear hb1
  go_wp2
  refine bodyPost_ret (v:=.tuple #[.agg #[.bool false,.bool false,.bool false,.bool false,.int .i64 0],.int .i64 0,.int .i64 4]) ?_ rfl ⟨rfl, ?_⟩
  ·simp(maxDischargeDepth:=8) [results,Tryz.results103,go_sem, *]
  ·(refine bl ?_;repeat' first|with_reducible(first|assumption|constructor)|((try simp)<;>omega))
theorem Xq5 (A:Option Addr) (n c:Nat) (xs:List Int) (root page:Int) (wr:Bool) (w:World) (h:Ints w w.heap.size A n xs) (h0:cm xs=0) (hin:inP root page) (v r u l:Bool) (p f:Int) (hq:Xdq xs root page=(⟨v,r,u,l,p⟩,f)) (hf:f≠0) :
  Calls Tryz.prog 103 #[.agg #[.slice A n c],.int .i64 root,.int .i64 page,.bool wr] w fun e w'=>e=.returned (.tuple #[.agg #[.bool v,.bool r,.bool u,.bool l,.int .i64 p],.int .i64 f,.int .i64 0])∧Below w.heap.size w w':=by
 have HX:=Zh h
 have hc0:(cm xs != 0)=false:=by rw[bne_eq_false_iff_eq];exact h0
 have H0:=Zh h0
 have HIN:=Zh hin
 have HQ:=Zh hq
 have hn:n=512:=by rw[←HX.out.len];exact(Xaz h0).1
 subst hn
 unfold inP at hin
 obtain⟨⟨h1,h2⟩,h3,h4⟩:=hin
 have hf1:(f==0)=false:=by rw[beq_eq_false_iff_ne];exact hf
 clear h h0 hq hf
 go_enter Tryz.func103,Tryz.ntmps103
 go_wp2_with fail
 refine(Xb4 _ _ _ xs _ (((HX.out.alloc (Nat.le_refl _) _).alloc (by simp) _).more (by simp;omega))).mono ?_
 rintro e w1 ⟨rfl,hb1⟩
 have hz1:=hb1.size
 (try simp only[Zs]at hz1)
 obtain⟨k1_0,l1_0,q1_0⟩:=aft hb1 (w.heap.size) (by(try simp)<;>omega)
 obtain⟨k1_1,l1_1,q1_1⟩:=aft hb1 (w.heap.size+1) (by(try simp)<;>omega)
 simp(maxDischargeDepth:=6) [go_sem, *]at k1_0 q1_0 k1_1 q1_1
 have HB1:=Zh hb1
 clear hb1
 go_wp2_with fail
 refine(Xhw _ _ xs root page v r u l p f _ ((((HX.out.alloc (Nat.le_refl _) _).alloc (by simp) _).below (HB1.out.mono (by simp;omega))).more (by omega)) H0.out HIN.out HQ.out).mono ?_
 rintro e w2 ⟨rfl,hb2⟩
 have hz2:=hb2.size
 (try simp only[Zs]at hz2)
 obtain⟨k2_0,l2_0,q2_0⟩:=aft hb2 (w.heap.size) (by(try simp)<;>omega)
 obtain⟨k2_1,l2_1,q2_1⟩:=aft hb2 (w.heap.size+1) (by(try simp)<;>omega)
 simp(maxDischargeDepth:=6) [go_sem, *]at k2_0 q2_0 k2_1 q2_1
 have HB2:=Zh hb2
 clear hb2
 go_wp2
 refine bodyPost_ret (v:=.tuple #[.agg #[.bool v,.bool r,.bool u,.bool l,.int .i64 p],.int .i64 f,.int .i64 0]) ?_ rfl ⟨rfl, ?_⟩
 ·simp(maxDischargeDepth:=8) [results,Tryz.results103,go_sem, *]
 ·(refine bl ?_;repeat' first|with_reducible(first|assumption|constructor)|((try simp)<;>omega))
theorem Xze (A:Option Addr) (n c:Nat) (xs:List Int) (root page:Int) (wr:Bool) (w:World) (h:Ints w w.heap.size A n xs) (h0:cm xs=0) (hin:inP root page) (v r u l:Bool) (p f:Int) (hq:Xdq xs root page=(⟨v,r,u,l,p⟩,f)) (hf:f=0) (hr:(r&&(!wr||u))=false) :
  Calls Tryz.prog 103 #[.agg #[.slice A n c],.int .i64 root,.int .i64 page,.bool wr] w fun e w'=>e=.returned (.tuple #[.agg #[.bool false,.bool false,.bool false,.bool false,.int .i64 0],.int .i64 5,.int .i64 0])∧Below w.heap.size w w':=by
 have HX:=Zh h
 have hc0:(cm xs != 0)=false:=by rw[bne_eq_false_iff_eq];exact h0
 have H0:=Zh h0
 have HIN:=Zh hin
 have HQ:=Zh hq
 have hn:n=512:=by rw[←HX.out.len];exact(Xaz h0).1
 subst hn
 unfold inP at hin
 obtain⟨⟨h1,h2⟩,h3,h4⟩:=hin
 subst hf
 have HR:=Zh hr
 clear h h0 hq hr
 go_enter Tryz.func103,Tryz.ntmps103
 go_wp2_with fail
 refine(Xb4 _ _ _ xs _ (((HX.out.alloc (Nat.le_refl _) _).alloc (by simp) _).more (by simp;omega))).mono ?_
 rintro e w1 ⟨rfl,hb1⟩
 have hz1:=hb1.size
 (try simp only[Zs]at hz1)
 obtain⟨k1_0,l1_0,q1_0⟩:=aft hb1 (w.heap.size) (by(try simp)<;>omega)
 obtain⟨k1_1,l1_1,q1_1⟩:=aft hb1 (w.heap.size+1) (by(try simp)<;>omega)
 simp(maxDischargeDepth:=6) [go_sem, *]at k1_0 q1_0 k1_1 q1_1
 have HB1:=Zh hb1
 clear hb1
 go_wp2_with fail
 refine(Xhw _ _ xs root page v r u l p 0 _ ((((HX.out.alloc (Nat.le_refl _) _).alloc (by simp) _).below (HB1.out.mono (by simp;omega))).more (by omega)) H0.out HIN.out HQ.out).mono ?_
 rintro e w2 ⟨rfl,hb2⟩
 have hz2:=hb2.size
 (try simp only[Zs]at hz2)
 obtain⟨k2_0,l2_0,q2_0⟩:=aft hb2 (w.heap.size) (by(try simp)<;>omega)
 obtain⟨k2_1,l2_1,q2_1⟩:=aft hb2 (w.heap.size+1) (by(try simp)<;>omega)
 simp(maxDischargeDepth:=6) [go_sem, *]at k2_0 q2_0 k2_1 q2_1
 have HB2:=Zh hb2
 clear hb2
 go_wp2_with fail
 refine(Xi2 _ _ _ _ _ _ _ HR.out _).mono ?_
 rintro e w3 ⟨rfl,hb3⟩
 have hz3:=hb3.size
 (try simp only[Zs]at hz3)
 obtain⟨k3_0,l3_0,q3_0⟩:=aft hb3 (w.heap.size+1) (by(try simp)<;>omega)
 obtain⟨k3_1,l3_1,q3_1⟩:=aft hb3 (w2.heap.size) (by(try simp)<;>omega)
 simp(maxDischargeDepth:=6) [go_sem, *]at k3_0 q3_0 k3_1 q3_1
 have HB3:=Zh hb3
 clear hb3
 go_wp2
 refine bodyPost_ret (v:=.tuple #[.agg #[.bool false,.bool false,.bool false,.bool false,.int .i64 0],.int .i64 5,.int .i64 0]) ?_ rfl ⟨rfl, ?_⟩
 ·simp(maxDischargeDepth:=8) [results,Tryz.results103,go_sem, *]
 ·(refine bl ?_;repeat' first|with_reducible(first|assumption|constructor)|((try simp)<;>omega))
theorem Xwg (A:Option Addr) (n c:Nat) (xs:List Int) (root page:Int) (wr:Bool) (w:World) (h:Ints w w.heap.size A n xs) (h0:cm xs=0) (hin:inP root page) (v r u l:Bool) (p f:Int) (hq:Xdq xs root page=(⟨v,r,u,l,p⟩,f)) (hf:f=0) (hr:(r&&(!wr||u))=true) :
  Calls Tryz.prog 103 #[.agg #[.slice A n c],.int .i64 root,.int .i64 page,.bool wr] w fun e w'=>e=.returned (.tuple #[.agg #[.bool v,.bool r,.bool u,.bool l,.int .i64 p],.int .i64 0,.int .i64 0])∧Below w.heap.size w w':=by
 have HX:=Zh h
 have hc0:(cm xs != 0)=false:=by rw[bne_eq_false_iff_eq];exact h0
 have H0:=Zh h0
 have HIN:=Zh hin
 have HQ:=Zh hq
 have hn:n=512:=by rw[←HX.out.len];exact(Xaz h0).1
 subst hn
 unfold inP at hin
 obtain⟨⟨h1,h2⟩,h3,h4⟩:=hin
 subst hf
 have HR:=Zh hr
 clear h h0 hq hr
 go_enter Tryz.func103,Tryz.ntmps103
 go_wp2_with fail
 refine(Xb4 _ _ _ xs _ (((HX.out.alloc (Nat.le_refl _) _).alloc (by simp) _).more (by simp;omega))).mono ?_
 rintro e w1 ⟨rfl,hb1⟩
 have hz1:=hb1.size
 (try simp only[Zs]at hz1)
 obtain⟨k1_0,l1_0,q1_0⟩:=aft hb1 (w.heap.size) (by(try simp)<;>omega)
 obtain⟨k1_1,l1_1,q1_1⟩:=aft hb1 (w.heap.size+1) (by(try simp)<;>omega)
 simp(maxDischargeDepth:=6) [go_sem, *]at k1_0 q1_0 k1_1 q1_1
 have HB1:=Zh hb1
 clear hb1
 go_wp2_with fail
 refine(Xhw _ _ xs root page v r u l p 0 _ ((((HX.out.alloc (Nat.le_refl _) _).alloc (by simp) _).below (HB1.out.mono (by simp;omega))).more (by omega)) H0.out HIN.out HQ.out).mono ?_
 rintro e w2 ⟨rfl,hb2⟩
 have hz2:=hb2.size
 (try simp only[Zs]at hz2)
 obtain⟨k2_0,l2_0,q2_0⟩:=aft hb2 (w.heap.size) (by(try simp)<;>omega)
 obtain⟨k2_1,l2_1,q2_1⟩:=aft hb2 (w.heap.size+1) (by(try simp)<;>omega)
 simp(maxDischargeDepth:=6) [go_sem, *]at k2_0 q2_0 k2_1 q2_1
 have HB2:=Zh hb2
 clear hb2
 go_wp2_with fail
 refine(Xi2 _ _ _ _ _ _ _ HR.out _).mono ?_
 rintro e w3 ⟨rfl,hb3⟩
 have hz3:=hb3.size
 (try simp only[Zs]at hz3)
 obtain⟨k3_0,l3_0,q3_0⟩:=aft hb3 (w.heap.size+1) (by(try simp)<;>omega)
 obtain⟨k3_1,l3_1,q3_1⟩:=aft hb3 (w2.heap.size) (by(try simp)<;>omega)
 simp(maxDischargeDepth:=6) [go_sem, *]at k3_0 q3_0 k3_1 q3_1
 have HB3:=Zh hb3
 clear hb3
 go_wp2
 refine bodyPost_ret (v:=.tuple #[.agg #[.bool v,.bool r,.bool u,.bool l,.int .i64 p],.int .i64 0,.int .i64 0]) ?_ rfl ⟨rfl, ?_⟩
 ·simp(maxDischargeDepth:=8) [results,Tryz.results103,go_sem, *]
 ·(refine bl ?_;repeat' first|with_reducible(first|assumption|constructor)|((try simp)<;>omega))
theorem Xrc (A:Option Addr) (n c:Nat) (xs:List Int) (root page:Int) (wr:Bool) (w:World) (h:Ints w w.heap.size A n xs) :
  Calls Tryz.prog 103 #[.agg #[.slice A n c],.int .i64 root,.int .i64 page,.bool wr] w fun e w'=>e=.returned (.tuple #[(Xhc xs root page wr).1.val,.int .i64 (Xhc xs root page wr).2.1,.int .i64 (Xhc xs root page wr).2.2])∧Below w.heap.size w w':=by
 by_cases h0:cm xs=0
 ·by_cases hin:inP root page
  ·have e:Xhc xs root page wr=((Xck xs root page wr).1,(Xck xs root page wr).2,0):=by unfold Xhc;rw[if_pos h0,if_pos hin]
   rw[e]
   have hk:=Xiw xs root page
   unfold Xck
   generalize hq:Xdq xs root page=q at *
   obtain⟨⟨v,r,u,l,p⟩,f⟩:=q
   dsimp only at *
   by_cases hf:f=0
   ·rw[if_pos hf]
    by_cases hr:(r&&(!wr||u))=true
    ·rw[if_pos hr]
     subst hf
     exact Xwg A n c xs root page wr w h h0 hin v r u l p 0 hq rfl hr
    ·rw[if_neg hr]
     exact Xze A n c xs root page wr w h h0 hin v r u l p f hq hf (by simpa using hr)
   ·rw[if_neg hf]
    rcases hk with hk|⟨hk,_⟩
    ·exact absurd hk.1 hf
    ·simp only[]at hk
     rw[←hk]
     exact Xq5 A n c xs root page wr w h h0 hin v r u l p f hq hf
  ·have e:Xhc xs root page wr=(.no,0,4):=by unfold Xhc;rw[if_pos h0,if_neg hin]
   rw[e]
   exact Xwh A n c xs root page wr w h h0 hin
 ·have e:Xhc xs root page wr=(.no,0,cm xs):=by unfold Xhc;rw[if_neg h0]
  rw[e]
  exact Xzf A n c xs root page wr w h h0
end
section
theorem Xrb (A:Option Addr) (n c:Nat) (xs:List Int) (root page:Int) (wr:Bool) (v r u l:Bool) (p f e:Int) (w:World) (h:Ints w w.heap.size A n xs) (hq:Xhc xs root page wr=(⟨v,r,u,l,p⟩,f,e)) :
  Calls Tryz.prog 103 #[.agg #[.slice A n c],.int .i64 root,.int .i64 page,.bool wr] w fun e' w'=>e'=.returned (.tuple #[.agg #[.bool v,.bool r,.bool u,.bool l,.int .i64 p],.int .i64 f,.int .i64 e])∧Below w.heap.size w w':=by
 have:=Xrc A n c xs root page wr w h
 rw[hq]at this
 exact this
end
end Go.Proofs.YtbopdijnojaaiadGreat
