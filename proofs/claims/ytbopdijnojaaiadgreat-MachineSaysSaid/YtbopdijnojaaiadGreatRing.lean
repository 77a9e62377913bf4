/- Rings: the walks of the program's Push and Pop. No statement of the seat is proved here. -/
import Derived.Test.YtbopdijnojaaiadGreatBase
import Derived.Test.YtbopdijnojaaiadGreatMem
import Derived.Test.YtbopdijnojaaiadGreatSlices
import Derived.RegionTactic
namespace Go.Proofs.YtbopdijnojaaiadGreat
set_option maxRecDepth 100000
set_option maxHeartbeats 4000000
open Go.RowKit
set_option linter.unusedSimpArgs false
set_option linter.unusedVariables false
section
section
theorem OwnI.drew {B:Nat} {w:World} {A:Option Addr} {n c:Nat} {xs:List Int} (h:OwnI B w A n c xs):OwnI B w.drew A n c xs:=h
theorem OwnI.drewN {B:Nat} {w:World} {A:Option Addr} {n c:Nat} {xs:List Int} (h:OwnI B w A n c xs) (k:Nat):OwnI B (w.drewN k) A n c xs:=h
theorem tmod8 (d:Int) (h : -8<d∧d<8):d.tmod 8=d:=by
 rcases Int.le_total 0 d with h0|h0
 ·rw[Int.tmod_eq_emod_of_nonneg h0];omega
 ·obtain⟨m,rfl⟩:∃ m,d = -m:=⟨-d,by omega⟩
  rw[Int.neg_tmod,Int.tmod_eq_emod_of_nonneg (by omega)];omega
theorem Xj9 (p h t:Int) (w:World):Calls Tryz.prog 56 #[.agg #[.int .i64 p,.int .i64 h,.int .i64 t]] w fun e w'=>e=.returned (.int .i64 (ckR ⟨p,h,t⟩))∧Below w.heap.size w w':=by
 have HB:=Zh (Xag w)
 by_cases hr:Xco ⟨p,h,t⟩
 ·rw[Xmy hr]
  unfold Xco at hr
  simp only[]at hr
  obtain⟨⟨h1,h2⟩,⟨h3,h4⟩,h5,h6⟩:=hr
  go_enter Tryz.func56,Tryz.ntmps56
  go_wp2
  go_ret
  exact⟨rfl,HB.out _⟩
 ·rw[Xof hr]
  unfold Xco at hr
  simp only[]at hr
  have hr2:p<0∨(0≤p∧64≤p)∨(0≤p∧p<64∧h<0)∨(0≤p∧p<64∧0≤h∧8≤h)∨(0≤p∧p<64∧0≤h∧h<8∧t<0)∨(0≤p∧p<64∧0≤h∧h<8∧0≤t∧8≤t):=by omega
  clear hr
  rcases hr2 with hr|⟨h1,hr⟩|⟨h1,h2,hr⟩|⟨h1,h2,h3,hr⟩|⟨h1,h2,h3,h4,hr⟩|⟨h1,h2,h3,h4,h5,hr⟩
  all_goals
   go_enter Tryz.func56,Tryz.ntmps56
   go_wp2
   go_ret
   exact⟨rfl,HB.out _⟩
theorem Xfs (p h t:Int) (hr:Xco ⟨p,h,t⟩) (w:World):Calls Tryz.prog 71 #[.agg #[.int .i64 p,.int .i64 h,.int .i64 t]] w fun e w'=>e=.returned (.int .i64 (lenR ⟨p,h,t⟩))∧Below w.heap.size w w':=by
 have HB:=Zh (Xag w)
 unfold Xco at hr
 simp only[]at hr
 obtain⟨⟨h1,h2⟩,⟨h3,h4⟩,h5,h6⟩:=hr
 have ht:=tmod8 (t - h) (by omega)
 have HE:=Zh (show(t - h+8) % 8=lenR ⟨p,h,t⟩ by unfold lenR;simp only[];omega)
 go_enter Tryz.func71,Tryz.ntmps71
 go_wp2
 go_ret
 exact⟨Xbv HE.out,HB.out _⟩
theorem Xey (A:Option Addr) (n c:Nat) (xs:List Int) (p h t:Int) (w:World) (hx:Ints w w.heap.size A n xs) :
  Calls Tryz.prog 70 #[.agg #[.slice A n c],.agg #[.int .i64 p,.int .i64 h,.int .i64 t]] w fun e w'=>e=.returned (.int .i64 (Xds xs ⟨p,h,t⟩))∧Below w.heap.size w w':=by
 have HX:=Zh hx
 by_cases h0:cm xs=0
 ·have e:Xds xs ⟨p,h,t⟩=ckR ⟨p,h,t⟩:=by unfold Xds;rw[if_pos h0]
  rw[e]
  have hc0:(cm xs != 0)=false:=by rw[bne_eq_false_iff_eq];exact h0
  clear hx h0 e
  go_enter Tryz.func70,Tryz.ntmps70
  go_wp2_with fail
  refine(Xb4 _ _ _ xs _ (((HX.out.alloc (Nat.le_refl _) _).alloc (by simp) _).more (by simp;omega))).mono ?_
  rintro e w1 ⟨rfl,hb1⟩
  have hz1:=hb1.size
  (try simp only[Zs]at hz1)
  obtain⟨k1_0,l1_0,q1_0⟩:=aft hb1 (w.heap.size+1) (by(try simp)<;>omega)
  simp(maxDischargeDepth:=6) [go_sem, *]at k1_0 q1_0
  have HB1:=Zh hb1
  clear hb1
  go_wp2_with fail
  refine(Xj9 _ _ _ _).mono ?_
  rintro e w2 ⟨rfl,hb2⟩
  have hz2:=hb2.size
  (try simp only[Zs]at hz2)
  have HB2:=Zh hb2
  clear hb2
  go_wp2
  go_ret
  exact⟨rfl,bl (by repeat' first|with_reducible(first|assumption|constructor)|((try simp)<;>omega))⟩
 ·have e:Xds xs ⟨p,h,t⟩=cm xs:=by unfold Xds;rw[if_neg h0]
  rw[e]
  have hc0:(cm xs != 0)=true:=by rw[bne_iff_ne];exact h0
  clear hx h0 e
  go_enter Tryz.func70,Tryz.ntmps70
  go_wp2_with fail
  refine(Xb4 _ _ _ xs _ (((HX.out.alloc (Nat.le_refl _) _).alloc (by simp) _).more (by simp;omega))).mono ?_
  rintro e w1 ⟨rfl,hb1⟩
  have hz1:=hb1.size
  (try simp only[Zs]at hz1)
  obtain⟨k1_0,l1_0,q1_0⟩:=aft hb1 (w.heap.size+1) (by(try simp)<;>omega)
  simp(maxDischargeDepth:=6) [go_sem, *]at k1_0 q1_0
  have HB1:=Zh hb1
  clear hb1
  go_wp2
  go_ret
  exact⟨rfl,bl (by repeat' first|with_reducible(first|assumption|constructor)|((try simp)<;>omega))⟩
end
section
theorem Xnw (A:Option Addr) (n c:Nat) (xs:List Int) (p h t:Int) (w:World) (hx:Ints w w.heap.size A n xs) (hE:popE xs ⟨p,h,t⟩≠0) :
  Calls Tryz.prog 46 #[.agg #[.slice A n c],.agg #[.int .i64 p,.int .i64 h,.int .i64 t]] w fun e w'=>e=.returned (.tuple #[.int .i64 0,.agg #[.int .i64 0,.int .i64 0,.int .i64 0],.int .i64 (popE xs ⟨p,h,t⟩)])∧Below w.heap.size w w':=by
 have HX:=Zh hx
 have HE:=Zh hE
 clear hE
 by_cases hb:Xds xs ⟨p,h,t⟩=0
 ·have hb0:(Xds xs ⟨p,h,t⟩ != 0)=false:=by rw[bne_eq_false_iff_eq];exact hb
  have HR:=Zh (Xge hb).2
  by_cases hl:lenR ⟨p,h,t⟩=0
  ·rw[popE_6 hb hl]
   clear hb hx
   go_enter Tryz.func46,Tryz.ntmps46
   go_wp2_with fail
   refine(Xey _ _ _ xs p h t _ ((HX.out.alloc (Nat.le_refl _) _ |>.alloc (by simp) _ |>.alloc (by simp;omega) _).more (by simp;omega))).mono ?_
   rintro e w1 ⟨rfl,hb1⟩
   have hz1:=hb1.size
   (try simp only[Zs]at hz1)
   obtain⟨k1_0,l1_0,q1_0⟩:=aft hb1 (w.heap.size+1) (by(try simp)<;>omega)
   obtain⟨k1_1,l1_1,q1_1⟩:=aft hb1 (w.heap.size+1+1) (by(try simp)<;>omega)
   simp(maxDischargeDepth:=6) [go_sem, *]at k1_0 q1_0 k1_1 q1_1
   have HB1:=Zh hb1
   clear hb1
   go_wp2_with fail
   refine(Xfs p h t HR.out _).mono ?_
   rintro e w2 ⟨rfl,hb2⟩
   have hz2:=hb2.size
   (try simp only[Zs]at hz2)
   obtain⟨k2_0,l2_0,q2_0⟩:=aft hb2 (w.heap.size+1+1) (by(try simp)<;>omega)
   simp(maxDischargeDepth:=6) [go_sem, *]at k2_0 q2_0
   have HB2:=Zh hb2
   clear hb2
   go_wp2_with fail
   all_goals (try go_region)
   all_goals (try go_wp2)
   all_goals
    refine bodyPost_ret (v:=.tuple #[.int .i64 0,.agg #[.int .i64 0,.int .i64 0,.int .i64 0],.int .i64 6]) ?_ rfl ⟨rfl, ?_⟩
    ·simp(maxDischargeDepth:=8) [results,Tryz.results46,go_sem, *]
    ·(refine bl ?_;repeat' first|with_reducible(first|assumption|constructor)|((try simp)<;>omega))
  ·exact absurd (popE_0 hb hl) HE.out
 ·rw[popE_b hb]
  have hb0:(Xds xs ⟨p,h,t⟩ != 0)=true:=by rw[bne_iff_ne];exact hb
  clear hb hx
  go_enter Tryz.func46,Tryz.ntmps46
  go_wp2_with fail
  refine(Xey _ _ _ xs p h t _ ((HX.out.alloc (Nat.le_refl _) _ |>.alloc (by simp) _ |>.alloc (by simp;omega) _).more (by simp;omega))).mono ?_
  rintro e w1 ⟨rfl,hb1⟩
  have hz1:=hb1.size
  (try simp only[Zs]at hz1)
  obtain⟨k1_0,l1_0,q1_0⟩:=aft hb1 (w.heap.size+1+1) (by(try simp)<;>omega)
  simp(maxDischargeDepth:=6) [go_sem, *]at k1_0 q1_0
  have HB1:=Zh hb1
  clear hb1
  go_wp2_with fail
  all_goals (try go_region)
  all_goals (try go_wp2)
  all_goals
   refine bodyPost_ret (v:=.tuple #[.int .i64 0,.agg #[.int .i64 0,.int .i64 0,.int .i64 0],.int .i64 (Xds xs ⟨p,h,t⟩)]) ?_ rfl ⟨rfl, ?_⟩
   ·simp(maxDischargeDepth:=8) [results,Tryz.results46,go_sem, *]
   ·(refine bl ?_;repeat' first|with_reducible(first|assumption|constructor)|((try simp)<;>omega))
theorem Xkv (A:Option Addr) (n c:Nat) (xs:List Int) (p h t:Int) (w:World) (hx:Ints w w.heap.size A n xs) (hE:popE xs ⟨p,h,t⟩=0) :
  Calls Tryz.prog 46 #[.agg #[.slice A n c],.agg #[.int .i64 p,.int .i64 h,.int .i64 t]] w fun e w'=>e=.returned (.tuple #[.int .i64 (popV xs ⟨p,h,t⟩),.agg #[.int .i64 p,.int .i64 ((h+1) % 8),.int .i64 t],.int .i64 0])∧Below w.heap.size w w':=by
 obtain⟨hb,hl⟩:=Xo0 hE
 obtain⟨h0,hr⟩:=Xge hb
 have hn:n=512:=by rw[←hx.len];exact(Xaz h0).1
 subst hn
 have HX:=Zh hx
 have HR:=Zh hr
 have hb0:(Xds xs ⟨p,h,t⟩ != 0)=false:=by rw[bne_eq_false_iff_eq];exact hb
 have hl0:(lenR ⟨p,h,t⟩==0)=false:=by rw[beq_eq_false_iff_ne];exact hl
 unfold Xco at hr
 simp only[]at hr
 obtain⟨⟨h1,h2⟩,⟨h3,h4⟩,h5,h6⟩:=hr
 have hv:=Xc7 (xs:=xs) (i:=p * 8+h) (Xaz h0).1 (by omega)
 obtain⟨b,off,rfl,hbb,hc⟩:=hx.at_ (by omega)
 have hcv:=hc _ _ hv
 rw[show rd xs (p * 8+h)=popV xs ⟨p,h,t⟩from rfl]at hcv
 generalize popV xs ⟨p,h,t⟩=x at *
 clear hb h0 hx hE hl hv hc
 go_enter Tryz.func46,Tryz.ntmps46
 go_wp2_with fail
 refine(Xey _ _ _ xs p h t _ ((HX.out.alloc (Nat.le_refl _) _ |>.alloc (by simp) _ |>.alloc (by simp;omega) _).more (by simp;omega))).mono ?_
 rintro e w1 ⟨rfl,hb1⟩
 have hz1:=hb1.size
 (try simp only[Zs]at hz1)
 obtain⟨k1_0,l1_0,q1_0⟩:=aft hb1 (w.heap.size) (by(try simp)<;>omega)
 obtain⟨k1_1,l1_1,q1_1⟩:=aft hb1 (w.heap.size+1) (by(try simp)<;>omega)
 obtain⟨k1_2,l1_2,q1_2⟩:=aft hb1 (w.heap.size+1+1) (by(try simp)<;>omega)
 obtain⟨k1_3,l1_3,q1_3⟩:=aft hb1 (b) (by(try simp)<;>omega)
 simp(maxDischargeDepth:=6) [go_sem, *]at k1_0 q1_0 k1_1 q1_1 k1_2 q1_2 k1_3 q1_3
 have HB1:=Zh hb1
 clear hb1
 go_wp2_with fail
 refine(Xfs p h t HR.out _).mono ?_
 rintro e w2 ⟨rfl,hb2⟩
 have hz2:=hb2.size
 (try simp only[Zs]at hz2)
 obtain⟨k2_0,l2_0,q2_0⟩:=aft hb2 (w.heap.size) (by(try simp)<;>omega)
 obtain⟨k2_1,l2_1,q2_1⟩:=aft hb2 (w.heap.size+1) (by(try simp)<;>omega)
 obtain⟨k2_2,l2_2,q2_2⟩:=aft hb2 (w.heap.size+1+1) (by(try simp)<;>omega)
 obtain⟨k2_3,l2_3,q2_3⟩:=aft hb2 (b) (by(try simp)<;>omega)
 simp(maxDischargeDepth:=6) [go_sem, *]at k2_0 q2_0 k2_1 q2_1 k2_2 q2_2 k2_3 q2_3
 have HB2:=Zh hb2
 clear hb2
 go_wp2_with fail
 all_goals (try go_region)
 all_goals (try go_wp2)
 all_goals
  refine bodyPost_ret (v:=.tuple #[.int .i64 x,.agg #[.int .i64 p,.int .i64 ((h+1) % 8),.int .i64 t],.int .i64 0]) ?_ rfl ⟨rfl, ?_⟩
  ·simp(maxDischargeDepth:=8) [results,Tryz.results46,go_sem, *]
  ·(refine bl ?_;repeat' first|with_reducible(first|assumption|constructor)|((try simp)<;>omega))
theorem Xhh (p h t:Int) (w:World):Calls Tryz.prog 53 #[.agg #[.int .i64 p,.int .i64 h,.int .i64 t]] w fun e w'=>e=.returned (.int .i64 (ckR ⟨p,h,t⟩))∧Below w.heap.size w w':=by
 have HB:=Zh (Xag w)
 by_cases hp:0≤p∧p≤63
 ·by_cases hh:0≤h∧h≤7
  ·by_cases ht:0≤t∧t≤7
   ·rw[Xmy (show Xco ⟨p,h,t⟩ by unfold Xco;simp only[];omega)]
    have i1:=Xb2 hp
    have i2:=Xb2 hh
    have i3:=Xb2 ht
    clear hp hh ht
    go_enter Tryz.func53,Tryz.ntmps53
    go_wp2_with (go_at_call 38;refine(Xbc _ _ _ _).mono ?_;rintro e w' ⟨rfl,rfl⟩)
    go_ret
    exact⟨rfl,HB.out _⟩
   ·rw[Xof (show ¬Xco ⟨p,h,t⟩ by unfold Xco;simp only[];omega)]
    have i1:=Xb2 hp
    have i2:=Xb2 hh
    have i3:=Xgs ht
    clear hp hh ht
    go_enter Tryz.func53,Tryz.ntmps53
    go_wp2_with (go_at_call 38;refine(Xbc _ _ _ _).mono ?_;rintro e w' ⟨rfl,rfl⟩)
    go_ret
    exact⟨rfl,HB.out _⟩
  ·rw[Xof (show ¬Xco ⟨p,h,t⟩ by unfold Xco;simp only[];omega)]
   have i1:=Xb2 hp
   have i2:=Xgs hh
   clear hp hh
   go_enter Tryz.func53,Tryz.ntmps53
   go_wp2_with (go_at_call 38;refine(Xbc _ _ _ _).mono ?_;rintro e w' ⟨rfl,rfl⟩)
   go_ret
   exact⟨rfl,HB.out _⟩
 ·rw[Xof (show ¬Xco ⟨p,h,t⟩ by unfold Xco;simp only[];omega)]
  have i1:=Xgs hp
  clear hp
  go_enter Tryz.func53,Tryz.ntmps53
  go_wp2_with (go_at_call 38;refine(Xbc _ _ _ _).mono ?_;rintro e w' ⟨rfl,rfl⟩)
  go_ret
  exact⟨rfl,HB.out _⟩
theorem Xf7 (p h t:Int) (hr:Xco ⟨p,h,t⟩) (w:World):Calls Tryz.prog 89 #[.agg #[.int .i64 p,.int .i64 h,.int .i64 t]] w fun e w'=>e=.returned (.int .i64 (lenR ⟨p,h,t⟩))∧Below w.heap.size w w':=by
 have HB:=Zh (Xag w)
 unfold Xco at hr
 simp only[]at hr
 obtain⟨⟨h1,h2⟩,⟨h3,h4⟩,h5,h6⟩:=hr
 have hL:lenR ⟨p,h,t⟩=(t - h) % 8:=rfl
 obtain⟨L,hl⟩:=Int.eq_ofNat_of_zero_le (show 0≤(t - h) % 8 by omega)
 rw[hL,hl]
 have HL:=Zh hl
 clear hL hl
 have hL7:L≤7:=by have:=HL.out;omega
 go_enter Tryz.func89,Tryz.ntmps89
 go_wp2
 go_loop [3,4] (fun n k=>∃ j:Nat,j≤L∧n=.int .i64 j∧k=.int .i64 ((h+j) % 8)) (fun n _=>L - (intOf n).toNat)
 case atStart=>exact⟨0,by omega,rfl,by simp;omega⟩
 case round=>
  obtain⟨j,hj,rfl,rfl⟩:=hrel
  have hb1:0≤(h+(j:Int)) % 8:=by omega
  have hb2:(h+(j:Int)) % 8<8:=by omega
  by_cases hlt:j<L
  ·have ht:((h+(j:Int)) % 8 != t)=true:=by rw[bne_iff_ne];have:=HL.out;omega
   have HS:=Zh (show((h+(j:Int)) % 8+1) % 8=(h+((j+1:Nat):Int)) % 8 by omega)
   generalize (h+(j:Int)) % 8=y at *
   go_wp2
   go_round
   case rel=>exact⟨j+1,by omega,by go_num,by rw[HS.out]⟩
   case measure=>simp[intOf];omega
  ·obtain rfl:j=L:=by omega
   have ht:((h+(j:Int)) % 8 != t)=false:=by rw[bne_eq_false_iff_eq];have:=HL.out;omega
   generalize (h+(j:Int)) % 8=y at *
   go_wp2
   go_ret
   exact⟨rfl,HB.out _⟩
end
end
section
theorem Xl0 (A:Option Addr) (n c:Nat) (xs:List Int) (p h t v:Int) (w:World) (hx:Ints w w.heap.size A n xs) (hE:Xf9 xs ⟨p,h,t⟩ v≠0) :
  Calls Tryz.prog 95 #[.agg #[.slice A n c],.agg #[.int .i64 p,.int .i64 h,.int .i64 t],.int .i64 v] w fun e w'=>e=.returned (.tuple #[.agg #[.slice none 0 0],.agg #[.int .i64 0,.int .i64 0,.int .i64 0],.int .i64 (Xf9 xs ⟨p,h,t⟩ v)])∧Below w.heap.size w w':=by
 have HX:=Zh hx
 have HE:=Zh hE
 clear hE
 by_cases hb:Xds xs ⟨p,h,t⟩=0
 ·have hb0:(Xds xs ⟨p,h,t⟩ != 0)=false:=by rw[bne_eq_false_iff_eq];exact hb
  have HR:=Zh (Xge hb).2
  by_cases hv:0≤v∧v≤65535
  ·by_cases hl:lenR ⟨p,h,t⟩=7
   ·rw[Xsi hb hv hl]
    obtain⟨h1,h2⟩:=hv
    clear hb hx
    go_enter Tryz.func95,Tryz.ntmps95
    go_wp2_with fail
    refine(Xey _ _ _ xs p h t _ ((HX.out.alloc (Nat.le_refl _) _ |>.alloc (by simp) _ |>.alloc (by simp;omega) _ |>.alloc (by simp;omega) _).more (by simp;omega))).mono ?_
    rintro e w1 ⟨rfl,hb1⟩
    have hz1:=hb1.size
    (try simp only[Zs]at hz1)
    obtain⟨k1_0,l1_0,q1_0⟩:=aft hb1 (w.heap.size+1) (by(try simp)<;>omega)
    obtain⟨k1_1,l1_1,q1_1⟩:=aft hb1 (w.heap.size+1+1) (by(try simp)<;>omega)
    obtain⟨k1_2,l1_2,q1_2⟩:=aft hb1 (w.heap.size+1+1+1) (by(try simp)<;>omega)
    simp(maxDischargeDepth:=6) [go_sem, *]at k1_0 q1_0 k1_1 q1_1 k1_2 q1_2
    have HB1:=Zh hb1
    clear hb1
    go_wp2_with fail
    refine(Xfs p h t HR.out _).mono ?_
    rintro e w2 ⟨rfl,hb2⟩
    have hz2:=hb2.size
    (try simp only[Zs]at hz2)
    obtain⟨k2_0,l2_0,q2_0⟩:=aft hb2 (w.heap.size+1+1) (by(try simp)<;>omega)
    obtain⟨k2_1,l2_1,q2_1⟩:=aft hb2 (w.heap.size+1+1+1) (by(try simp)<;>omega)
    simp(maxDischargeDepth:=6) [go_sem, *]at k2_0 q2_0 k2_1 q2_1
    have HB2:=Zh hb2
    clear hb2
    go_wp2_with fail
    all_goals (try go_region)
    all_goals (try go_wp2)
    all_goals
     refine bodyPost_ret (v:=.tuple #[.agg #[.slice none 0 0],.agg #[.int .i64 0,.int .i64 0,.int .i64 0],.int .i64 1]) ?_ rfl ⟨rfl, ?_⟩
     ·simp(maxDischargeDepth:=8) [results,Tryz.results95,go_sem, *]
     ·(refine bl ?_;repeat' first|with_reducible(first|assumption|constructor)|((try simp)<;>omega))
   ·exact absurd (Xn2 hb hv hl) HE.out
  ·rw[Xxr hb hv]
   have hv2:v<0∨(0≤v∧65535<v):=by omega
   clear hb hx hv
   rcases hv2 with hv2|⟨hv2,hv3⟩
   all_goals
    go_enter Tryz.func95,Tryz.ntmps95
    go_wp2_with fail
    refine(Xey _ _ _ xs p h t _ ((HX.out.alloc (Nat.le_refl _) _ |>.alloc (by simp) _ |>.alloc (by simp;omega) _ |>.alloc (by simp;omega) _).more (by simp;omega))).mono ?_
    rintro e w1 ⟨rfl,hb1⟩
    have hz1:=hb1.size
    (try simp only[Zs]at hz1)
    obtain⟨k1_0,l1_0,q1_0⟩:=aft hb1 (w.heap.size+1+1) (by(try simp)<;>omega)
    obtain⟨k1_1,l1_1,q1_1⟩:=aft hb1 (w.heap.size+1+1+1) (by(try simp)<;>omega)
    simp(maxDischargeDepth:=6) [go_sem, *]at k1_0 q1_0 k1_1 q1_1
    have HB1:=Zh hb1
    clear hb1
    go_wp2_with fail
    all_goals (try go_region)
    all_goals (try go_wp2)
    all_goals
     refine bodyPost_ret (v:=.tuple #[.agg #[.slice none 0 0],.agg #[.int .i64 0,.int .i64 0,.int .i64 0],.int .i64 2]) ?_ rfl ⟨rfl, ?_⟩
     ·simp(maxDischargeDepth:=8) [results,Tryz.results95,go_sem, *]
     ·(refine bl ?_;repeat' first|with_reducible(first|assumption|constructor)|((try simp)<;>omega))
 ·rw[Xxs hb]
  have hb0:(Xds xs ⟨p,h,t⟩ != 0)=true:=by rw[bne_iff_ne];exact hb
  clear hb hx
  go_enter Tryz.func95,Tryz.ntmps95
  go_wp2_with fail
  refine(Xey _ _ _ xs p h t _ ((HX.out.alloc (Nat.le_refl _) _ |>.alloc (by simp) _ |>.alloc (by simp;omega) _ |>.alloc (by simp;omega) _).more (by simp;omega))).mono ?_
  rintro e w1 ⟨rfl,hb1⟩
  have hz1:=hb1.size
  (try simp only[Zs]at hz1)
  obtain⟨k1_0,l1_0,q1_0⟩:=aft hb1 (w.heap.size+1+1) (by(try simp)<;>omega)
  obtain⟨k1_1,l1_1,q1_1⟩:=aft hb1 (w.heap.size+1+1+1) (by(try simp)<;>omega)
  simp(maxDischargeDepth:=6) [go_sem, *]at k1_0 q1_0 k1_1 q1_1
  have HB1:=Zh hb1
  clear hb1
  go_wp2_with fail
  all_goals (try go_region)
  all_goals (try go_wp2)
  all_goals
   refine bodyPost_ret (v:=.tuple #[.agg #[.slice none 0 0],.agg #[.int .i64 0,.int .i64 0,.int .i64 0],.int .i64 (Xds xs ⟨p,h,t⟩)]) ?_ rfl ⟨rfl, ?_⟩
   ·simp(maxDischargeDepth:=8) [results,Tryz.results95,go_sem, *]
   ·(refine bl ?_;repeat' first|with_reducible(first|assumption|constructor)|((try simp)<;>omega))
theorem Xr6 (A:Option Addr) (n c:Nat) (xs:List Int) (p h t v:Int) (w:World) (hx:Ints w w.heap.size A n xs) (hE:Xf9 xs ⟨p,h,t⟩ v=0) :
  Calls Tryz.prog 95 #[.agg #[.slice A n c],.agg #[.int .i64 p,.int .i64 h,.int .i64 t],.int .i64 v] w fun e w'=>∃ A' c',e=.returned (.tuple #[.agg #[.slice A' 512 c'],.agg #[.int .i64 p,.int .i64 h,.int .i64 ((t+1) % 8)],.int .i64 0])∧OwnI w.heap.size w' A' 512 c' (Xj4 xs ⟨p,h,t⟩ v)∧Below w.heap.size w w':=by
 obtain⟨hb,hv,hl⟩:=Xl8 hE
 obtain⟨h0,hr⟩:=Xge hb
 have hn:n=512:=by rw[←hx.len];exact(Xaz h0).1
 subst hn
 have HX:=Zh hx
 have HL:=Zh (Xaz h0).1
 have HR:=Zh hr
 have hb0:(Xds xs ⟨p,h,t⟩ != 0)=false:=by rw[bne_eq_false_iff_eq];exact hb
 have hl0:(lenR ⟨p,h,t⟩==7)=false:=by rw[beq_eq_false_iff_ne];exact hl
 obtain⟨v1,v2⟩:=hv
 unfold Xco at hr
 simp only[]at hr
 obtain⟨⟨h1,h2⟩,⟨h3,h4⟩,h5,h6⟩:=hr
 clear hb h0 hx hE hl
 go_enter Tryz.func95,Tryz.ntmps95
 go_wp2_with fail
 refine(Xey _ _ _ xs p h t _ ((HX.out.alloc (Nat.le_refl _) _ |>.alloc (by simp) _ |>.alloc (by simp;omega) _ |>.alloc (by simp;omega) _).more (by simp;omega))).mono ?_
 rintro e w1 ⟨rfl,hb1⟩
 have hz1:=hb1.size
 (try simp only[Zs]at hz1)
 obtain⟨k1_0,l1_0,q1_0⟩:=aft hb1 (w.heap.size) (by(try simp)<;>omega)
 obtain⟨k1_1,l1_1,q1_1⟩:=aft hb1 (w.heap.size+1) (by(try simp)<;>omega)
 obtain⟨k1_2,l1_2,q1_2⟩:=aft hb1 (w.heap.size+1+1) (by(try simp)<;>omega)
 obtain⟨k1_3,l1_3,q1_3⟩:=aft hb1 (w.heap.size+1+1+1) (by(try simp)<;>omega)
 simp(maxDischargeDepth:=6) [go_sem, *]at k1_0 q1_0 k1_1 q1_1 k1_2 q1_2 k1_3 q1_3
 have HB1:=Zh hb1
 clear hb1
 have X1:=Zh ((((HX.out.alloc (Nat.le_refl _) (.cells #[.slice A 512 c] 24) |>.alloc (by simp) (.cells #[.int .i64 p,.int .i64 h,.int .i64 t] 29) |>.alloc (by simp;omega) (.cells #[.slice none 0 0] 24) |>.alloc (by simp;omega) (.cells #[.int .i64 0,.int .i64 0,.int .i64 0] 29)).below (HB1.out.mono (by simp;omega)))).more (B':=w1.heap.size) (by omega))
 go_wp2_with fail
 refine(Xfs p h t HR.out _).mono ?_
 rintro e w2 ⟨rfl,hb2⟩
 have hz2:=hb2.size
 (try simp only[Zs]at hz2)
 obtain⟨k2_0,l2_0,q2_0⟩:=aft hb2 (w.heap.size) (by(try simp)<;>omega)
 obtain⟨k2_1,l2_1,q2_1⟩:=aft hb2 (w.heap.size+1) (by(try simp)<;>omega)
 obtain⟨k2_2,l2_2,q2_2⟩:=aft hb2 (w.heap.size+1+1) (by(try simp)<;>omega)
 obtain⟨k2_3,l2_3,q2_3⟩:=aft hb2 (w.heap.size+1+1+1) (by(try simp)<;>omega)
 simp(maxDischargeDepth:=6) [go_sem, *]at k2_0 q2_0 k2_1 q2_1 k2_2 q2_2 k2_3 q2_3
 have HB2:=Zh hb2
 clear hb2
 have X2:=Zh ((X1.out.below HB2.out).more (B':=w2.heap.size) (by omega))
 go_wp2_with fail
 refine(Xgl _ _ _ xs _ X2.out (by decide) (by decide)).mono ?_
 rintro e w3 ⟨A3,c3,rfl,ho,hb3⟩
 have hz3:=hb3.size
 (try simp only[Zs]at hz3)
 obtain⟨k3_0,l3_0,q3_0⟩:=aft hb3 (w.heap.size) (by(try simp)<;>omega)
 obtain⟨k3_1,l3_1,q3_1⟩:=aft hb3 (w.heap.size+1) (by(try simp)<;>omega)
 obtain⟨k3_2,l3_2,q3_2⟩:=aft hb3 (w.heap.size+1+1) (by(try simp)<;>omega)
 obtain⟨k3_3,l3_3,q3_3⟩:=aft hb3 (w.heap.size+1+1+1) (by(try simp)<;>omega)
 simp(maxDischargeDepth:=6) [go_sem, *]at k3_0 q3_0 k3_1 q3_1 k3_2 q3_2 k3_3 q3_3
 have HB3:=Zh hb3
 clear hb3
 have ho1:OwnI w2.heap.size (w3.setCell ⟨w.heap.size,0,none⟩ (.slice A3 512 c3)) A3 512 c3 xs:=ho.set (by simp;omega) _
 obtain⟨g,rfl,hg1,hg2,hgc,hgf,hgs⟩:=Xb3 ho1 (by decide)
 have HGS:=Zh (hgs (p * 8+t).toNat v (by omega))
 obtain⟨x,hx⟩:=Xa2 xs (k:=(p * 8+t).toNat) (by rw[HL.out];omega)
 have hcx:=hgc _ _ hx
 have hne:¬g=w.heap.size:=by omega
 have hne2:¬g=w.heap.size+1:=by omega
 clear ho1 hgc hgs hx ho
 go_wp2_with fail
 all_goals (try go_region)
 all_goals (try go_wp2)
 all_goals
  refine bodyPost_ret (v:=.tuple #[.agg #[.slice (some ⟨g,0,none⟩) 512 c3],.agg #[.int .i64 p,.int .i64 h,.int .i64 ((t+1) % 8)],.int .i64 0]) ?_ rfl ⟨_,_,rfl, ?_, ?_⟩
  ·simp(maxDischargeDepth:=8) [results,Tryz.results95,go_sem, *]
  ·show OwnI _ _ _ _ _ (xs.set (p * 8+t).toNat v)
   (refine OwnI.low (B:=w2.heap.size) ?_ (by omega));(repeat(first|(with_reducible refine OwnI.drew ?_)|(with_reducible refine OwnI.drewN ?_ _)|(with_reducible refine OwnI.alloc ?_ _)|(with_reducible exact HGS.out)|(with_reducible refine OwnI.set ?_ (by first|(simp;done)|(simp;omega)) _)))
  ·(refine bl ?_;repeat' first|with_reducible(first|assumption|constructor)|((try simp)<;>omega))
end
end Go.Proofs.YtbopdijnojaaiadGreat
