/- The document's bridge: the walk of GoesTo. No statement of the seat is proved here. -/
import Derived.Test.YtbopdijnojaaiadGreatRefB
import Derived.Test.YtbopdijnojaaiadGreatRefD
import Derived.Test.YtbopdijnojaaiadGreatWalkR
import Derived.Test.YtbopdijnojaaiadGreatBase
import Derived.Test.YtbopdijnojaaiadGreatEntryF
namespace Go.Proofs.YtbopdijnojaaiadGreat
set_option maxRecDepth 100000
set_option maxHeartbeats 8000000
open Go.RowKit
set_option linter.unusedSimpArgs false
set_option linter.unusedVariables false
attribute [local go_sem ↓] Go.wp_at_zero Go.wp_at_succ
theorem Xuz (x:Int) (w:World) (h:cxK x=false):Calls Tryz.prog 85 #[.int .i64 x] w fun e w'=>e=.returned (.tuple #[.agg #[.bool false,.bool false,.int .i64 0],.bool false])∧Below w.heap.size w w':=
 (Xfv x w).mono fun e w' ⟨he,hb⟩=>⟨by
  have hg:cxG x=false:=by
   cases h':cxG x with
   |false=>rfl
   |true=>rw[Xod h']at h;cases h
  rw[he,Xki,hg,h];simp[cxR,hg],hb⟩
theorem Xuy (x:Int) (w:World) (h:cxK x=true) (hg:cxG x=false):Calls Tryz.prog 85 #[.int .i64 x] w fun e w'=>e=.returned (.tuple #[.agg #[.bool false,.bool false,.int .i64 0],.bool true])∧Below w.heap.size w w':=
 (Xfv x w).mono fun e w' ⟨he,hb⟩=>⟨by rw[he,Xki,hg,h];simp[cxR,hg],hb⟩
theorem Xn0 (x:Int) (s:Bool) (r:Int) (w:World) (hg:cxG x=true) (hs:bitI x 1=s) (hr:cxR x=r):Calls Tryz.prog 85 #[.int .i64 x] w fun e w'=>e=.returned (.tuple #[.agg #[.bool true,.bool s,.int .i64 r],.bool true])∧Below w.heap.size w w':=
 (Xfv x w).mono fun e w' ⟨he,hb⟩=>⟨by rw[he,Xki,hg,Xod hg,hs,hr];simp,hb⟩
theorem Xou (A:Option Addr) (c:Nat) (xs:List Int) (root page:Int) (wr:Bool) (v r u l:Bool) (p f:Int) (w:World) (h:Ints w w.heap.size A 512 xs) (h0:cm xs=0) (hin:inP root page) (hq:Xck xs root page wr=(⟨v,r,u,l,p⟩,f)) :
  Calls Tryz.prog 86 #[.agg #[.slice A 512 c],.int .i64 root,.int .i64 page,.bool wr] w fun e' w'=>e'=.returned (.tuple #[.agg #[.bool v,.bool r,.bool u,.bool l,.int .i64 p],.int .i64 f,.int .i64 0])∧Below w.heap.size w w':=by
 have:=Xp9 A c xs root page wr w h h0 hin
 rw[hq]at this
 exact this
def GoesC (w:World) (rb:Brg) (ra rf:Int) (e:Ending) (w':World):Prop:=
 ∃ A n c,e=.returned (.tuple #[.agg (B_.b rb A n c),.int .i64 ra,.int .i64 rf])∧Lines w' w'.heap.size A n c rb.cache∧Below w.heap.size w w'
def NewN (w:World) (A0:Option Addr) (n0:Nat) (A:Option Addr) (n:Nat):Prop:=(A=A0∧n=n0)∨∀ ad,A=some ad→w.heap.size≤ad.block
theorem Xdk (w:World) (A:Option Addr) (n:Nat):NewN w A n A n:=Or.inl ⟨rfl,rfl⟩
def GoesD (w:World) (A0:Option Addr) (n0:Nat) (rb:Brg) (ra rf:Int) (e:Ending) (w':World):Prop:=
 ∃ A n c,e=.returned (.tuple #[.agg (B_.b rb A n c),.int .i64 ra,.int .i64 rf])∧Lines w' w'.heap.size A n c rb.cache∧Below w.heap.size w w'∧NewN w A0 n0 A n
theorem GoesD.c {w w':World} {A0:Option Addr} {n0:Nat} {rb:Brg} {ra rf:Int} {e:Ending} (h:GoesD w A0 n0 rb ra rf e w'):GoesC w rb ra rf e w':=by
 obtain⟨A,n,c,h1,h2,h3,_⟩:=h
 exact⟨A,n,c,h1,h2,h3⟩
theorem Xqt (m:Option Addr) (nm cm':Nat) (b:Brg) (A:Option Addr) (n c:Nat) (d p:Int) (wr:Bool) (w:World) (hl:Lines w w.heap.size A n c b.cache) (hm:b.mode=0) :
  Calls Tryz.prog 63 #[.agg #[.slice m nm cm'],.agg (B_.b b A n c),.int .i64 d,.int .i64 p,.bool wr] w (GoesD w A n b 0 1):=by
 have HL:=Zh hl
 have m0:(b.mode==0)=true:=by rw[hm];rfl
 clear hl hm
 go_enter Tryz.func63,Tryz.ntmps63
 go_wp2
 refine bodyPost_ret (v:=.tuple #[.agg (B_.b b A n c),.int .i64 0,.int .i64 1]) ?_ rfl ⟨A,n,c,rfl,Xah HL.out ?_, ?_,Xdk _ _ _⟩
 ·simp(maxDischargeDepth:=8) [results,Tryz.results63,go_sem, *]
 ·(refine bl ?_;repeat' first|with_reducible(first|assumption|constructor)|((try simp)<;>omega))
 ·(refine bl ?_;repeat' first|with_reducible(first|assumption|constructor)|((try simp)<;>omega))
theorem Xqu (m:Option Addr) (nm cm':Nat) (b:Brg) (A:Option Addr) (n c:Nat) (d p:Int) (wr:Bool) (w:World) (hl:Lines w w.heap.size A n c b.cache) (hm:b.mode=1) :
  Calls Tryz.prog 63 #[.agg #[.slice m nm cm'],.agg (B_.b b A n c),.int .i64 d,.int .i64 p,.bool wr] w (GoesD w A n b p 0):=by
 have HL:=Zh hl
 have m0:(b.mode==0)=false:=by rw[hm];rfl
 have m1:(b.mode==1)=true:=by rw[hm];rfl
 clear hl hm
 go_enter Tryz.func63,Tryz.ntmps63
 go_wp2
 refine bodyPost_ret (v:=.tuple #[.agg (B_.b b A n c),.int .i64 p,.int .i64 0]) ?_ rfl ⟨A,n,c,rfl,Xah HL.out ?_, ?_,Xdk _ _ _⟩
 ·simp(maxDischargeDepth:=8) [results,Tryz.results63,go_sem, *]
 ·(refine bl ?_;repeat' first|with_reducible(first|assumption|constructor)|((try simp)<;>omega))
 ·(refine bl ?_;repeat' first|with_reducible(first|assumption|constructor)|((try simp)<;>omega))
theorem Xx9 {ls:List Line} {d p:Int} {k:Nat} {x:Line} (hk:ls[k]?=some x) (hx:hitL d p x=true) (h:∀ y∈ls.take k,hitL d p y=false):ls.find? (hitL d p)=some x:=by
 have e:ls=ls.take k ++ x :: ls.drop (k+1):=by
  have hlt:=(List.getElem?_eq_some_iff.1 hk).1
  have hx':=(List.getElem?_eq_some_iff.1 hk).2
  conv=>lhs;rw[←List.take_append_drop k ls,List.drop_eq_getElem_cons hlt,hx']
 rw[e,List.find?_append,List.find?_eq_none.2 (fun y hy=>by simp[h y hy]),List.find?_cons,hx]
 rfl
theorem Xk7 {ls:List Line} {d p:Int} (h:ls.find? (hitL d p)=none):Xb7 ls d p<0:=by rw[Xjj h];decide
theorem Xvt (xs:List Int) (m:Option Addr) (cm':Nat) (b:Brg) (A:Option Addr) (n c:Nat) (d p:Int) (wb:Bool) (rb:Brg) (ra rf:Int) (w:World) (hx:Ints w w.heap.size m 512 xs) (hl:Lines w w.heap.size A n c b.cache) (h0:cm xs=0) (hck:ckB b=0) (hin:inD d p) (hm:b.mode=2) (hr:Xdh xs b d p wb=(rb,ra,rf)) :
  Calls Tryz.prog 63 #[.agg #[.slice m 512 cm'],.agg (B_.b b A n c),.int .i64 d,.int .i64 p,.bool wb] w (GoesD w A n rb ra rf):=by
 have HX:=Zh hx
 have HL:=Zh hl
 have H0:=Zh h0
 have HCK:=Zh hck
 have HIN:=Zh hin
 have HM:=Zh hm
 have HR:=Zh hr
 have hcap:=hl.cap
 have m0:(b.mode==0)=false:=by rw[hm];rfl
 have m1:(b.mode==1)=false:=by rw[hm];rfl
 have hW0:=Zh (show Below w.heap.size w (((w.alloc (.cells #[.slice m 512 cm'] 24)).alloc (.cells (B_.b b A n c) 31)).alloc (.cells (B_.b Brg.no none 0 0) 31)) by(refine bl ?_;repeat' first|with_reducible(first|assumption|constructor)|((try simp)<;>omega)))
 obtain⟨W0,hW⟩:∃ W0,W0=((w.alloc (.cells #[.slice m 512 cm'] 24)).alloc (.cells (B_.b b A n c) 31)).alloc (.cells (B_.b Brg.no none 0 0) 31):=⟨_,rfl⟩
 have hz0:W0.heap.size=w.heap.size+1+1+1:=by rw[hW];simp
 have HZ0:=Zh hz0
 have c5:W0.cell? ⟨w.heap.size,0,none⟩=some (.slice m 512 cm'):=by rw[hW];simp(maxDischargeDepth:=8) [go_sem]
 have c6:Xbj W0 (w.heap.size+1) b A n c:=by rw[hW];unfold Xbj;simp(maxDischargeDepth:=8) [go_sem]
 have c10:Xbj W0 (w.heap.size+1+1) Brg.no none 0 0:=by rw[hW];unfold Xbj;simp(maxDischargeDepth:=8) [go_sem]
 have f10:∀ o,W0.frozen? ⟨w.heap.size+1+1,o,none⟩=false:=by intro o;rw[hW];simp(maxDischargeDepth:=8) [go_sem]
 have f6:∀ o,W0.frozen? ⟨w.heap.size+1,o,none⟩=false:=by intro o;rw[hW];simp(maxDischargeDepth:=8) [go_sem]
 have C5:=Zh c5
 have C6:=Zh c6
 have C10:=Zh c10
 have F10:=Zh f10
 have F6:=Zh f6
 have HW:=Zh hW
 rw[←hW]at hW0
 clear hx hl h0 hck hin hm hr c5 c6 c10 f10 f6 hW
 go_enter Tryz.func63,Tryz.ntmps63
 go_wp2
 go_loopw [32] (fun s32 wr'=>∃ i:Nat,s32=.int .i64 i∧i≤n∧Hid (∀ y∈b.cache.take i,hitL d p y=false)∧Hid (Xan W0 wr')) (fun i _=>n - (intOf i).toNat)
 case atStart=>exact⟨0,rfl,by omega,(fun y hy=>by simp at hy),by rw[HW.out];exact Xal _⟩
 case round=>
  obtain⟨i,rfl,hi,hno,hS⟩:=hrel
  have HSW:=Zh (show Below w.heap.size w wr from hW0.out.trans (Below.mono hS.out (Below.size hW0.out)))
  have hzr:=Below.size hS.out
  obtain⟨g0,g1,g2,g3,g4,g5,g6,g7,g8,g9,g10,g11⟩:=Xa0 C6.out hS.out
  obtain⟨z0,z1,z2,z3,z4,z5,z6,z7,z8,z9,z10,z11⟩:=Xa0 C10.out hS.out
  have zf:=fun o=>(Below.frozen (p:=⟨w.heap.size+1+1,o,none⟩) hS.out (by simp only[];have:=HZ0.out;omega)).trans (F10.out o)
  have gf:=fun o=>(Below.frozen (p:=⟨w.heap.size+1,o,none⟩) hS.out (by simp only[];have:=HZ0.out;omega)).trans (F6.out o)
  have gm:=Xak hS.out C5.out
  have l5:w.heap.size<wr.heap.size:=by have:=HZ0.out;omega
  have l6:w.heap.size+1<wr.heap.size:=by have:=HZ0.out;omega
  have l10:w.heap.size+1+1<wr.heap.size:=by have:=HZ0.out;omega
  by_cases hlt:i<n
  ·obtain⟨y,hy⟩:=Xa2 b.cache (k:=i) (by rw[HL.out.len];exact hlt)
   obtain⟨b1,off1,rfl,hb1',hcc⟩:=(Xah HL.out HSW.out).at_ (by omega)
   obtain⟨d0,d1,d2,d3,d4⟩:=hcc i y hy
   have HY:=Zh hy
   have n1:(0:Int)≤(i:Int):=by omega
   have n2:(i:Int)<(n:Int):=by omega
   clear hcc hy
   have HH:=Zh (show hitL d p y=(y.dev==d&&y.page==p)from rfl)
   cases h1:(y.dev==d)
   ·have HQ:=Zh (show hitL d p y=false by rw[HH.out,h1];rfl)
    clear g0 g1 g2 g3 g4 g5 g6 g7 g8 g9 g10 g11 z0 z1 z2 z3 z4 z5 z6 z7 z8 z9 z10 z11 zf gf gm
    go_wp2
    go_roundw
    case rel=>exact⟨i+1,by go_num,by omega,Xfj HY.out hno.out HQ.out,Xae hS.out _⟩
    case measure=>simp[intOf];omega
   ·cases h2:(y.page==p)
    ·have HQ:=Zh (show hitL d p y=false by rw[HH.out,h1,h2];rfl)
     clear g0 g1 g2 g3 g4 g5 g6 g7 g8 g9 g10 g11 z0 z1 z2 z3 z4 z5 z6 z7 z8 z9 z10 z11 zf gf gm
     go_wp2
     go_roundw
     case rel=>exact⟨i+1,by go_num,by omega,Xfj HY.out hno.out HQ.out,Xae hS.out _⟩
     case measure=>simp[intOf];omega
    ·have hq:hitL d p y=true:=by rw[HH.out,h1,h2];rfl
     have hfind:=Xx9 HY.out hq hno.out
     have e:Xdh xs b d p wb=if wb&&!y.wr then(b,0,5)else(b,y.at_,0):=by unfold Xdh;rw[if_neg (by have:=HM.out;omega),if_neg (by have:=HM.out;omega),hfind]
     rw[e]at HR
     clear e hfind hq
     cases wb with
     |false=>
      have hr:=HR.out
      simp only[Bool.false_and,Bool.false_eq_true,if_false,Prod.mk.injEq]at hr
      obtain⟨rfl,rfl,rfl⟩:=hr
      go_wp2_with fail
      go_region_with (fail)
      all_goals
       go_wp2
       refine bodyPost_ret (v:=.tuple #[.agg (B_.b b (some ⟨b1,off1,none⟩) n c),.int .i64 y.at_,.int .i64 0]) ?_ rfl ⟨some ⟨b1,off1,none⟩,n,c,rfl, ?_, ?_,Xdk _ _ _⟩
       ·simp(maxDischargeDepth:=8) [results,Tryz.results63,go_sem, *]
       ·(refine Xah HL.out ?_;((repeat(first|(with_reducible exact Below.refl _ _)|(with_reducible refine Below.drew ?_)|(with_reducible refine Xbs ?_ _)|((with_reducible refine Below.setCell ?_ ?_ _);rotate_left;exact(by(try simp)<;>omega))|((with_reducible refine Below.alloc ?_ ?_ _);rotate_left;exact(by(try simp)<;>omega)))));exact HSW.out)
       ·(repeat(first|(with_reducible exact Below.refl _ _)|(with_reducible refine Below.drew ?_)|(with_reducible refine Xbs ?_ _)|((with_reducible refine Below.setCell ?_ ?_ _);rotate_left;exact(by(try simp)<;>omega))|((with_reducible refine Below.alloc ?_ ?_ _);rotate_left;exact(by(try simp)<;>omega))))
        exact HSW.out
     |true=>
      cases hw:y.wr with
      |false=>
       have hr:=HR.out
       rw[hw]at hr d4
       simp only[Bool.not_false,Bool.and_self,if_true,Prod.mk.injEq]at hr
       obtain⟨rfl,rfl,rfl⟩:=hr
       clear hw
       go_wp2
       refine bodyPost_ret (v:=.tuple #[.agg (B_.b b (some ⟨b1,off1,none⟩) n c),.int .i64 0,.int .i64 5]) ?_ rfl ⟨some ⟨b1,off1,none⟩,n,c,rfl, ?_, ?_,Xdk _ _ _⟩
       ·simp(maxDischargeDepth:=8) [results,Tryz.results63,go_sem, *]
       ·(refine Xah HL.out ?_;((repeat(first|(with_reducible exact Below.refl _ _)|(with_reducible refine Below.drew ?_)|(with_reducible refine Xbs ?_ _)|((with_reducible refine Below.setCell ?_ ?_ _);rotate_left;exact(by(try simp)<;>omega))|((with_reducible refine Below.alloc ?_ ?_ _);rotate_left;exact(by(try simp)<;>omega)))));exact HSW.out)
       ·(repeat(first|(with_reducible exact Below.refl _ _)|(with_reducible refine Below.drew ?_)|(with_reducible refine Xbs ?_ _)|((with_reducible refine Below.setCell ?_ ?_ _);rotate_left;exact(by(try simp)<;>omega))|((with_reducible refine Below.alloc ?_ ?_ _);rotate_left;exact(by(try simp)<;>omega))))
        exact HSW.out
      |true=>
       have hr:=HR.out
       rw[hw]at hr d4
       simp only[Bool.not_true,Bool.and_false,Bool.false_eq_true,if_false,Prod.mk.injEq]at hr
       obtain⟨rfl,rfl,rfl⟩:=hr
       clear hw
       go_wp2_with fail
       go_region_with (fail)
       all_goals
        go_wp2
        refine bodyPost_ret (v:=.tuple #[.agg (B_.b b (some ⟨b1,off1,none⟩) n c),.int .i64 y.at_,.int .i64 0]) ?_ rfl ⟨some ⟨b1,off1,none⟩,n,c,rfl, ?_, ?_,Xdk _ _ _⟩
        ·simp(maxDischargeDepth:=8) [results,Tryz.results63,go_sem, *]
        ·(refine Xah HL.out ?_;((repeat(first|(with_reducible exact Below.refl _ _)|(with_reducible refine Below.drew ?_)|(with_reducible refine Xbs ?_ _)|((with_reducible refine Below.setCell ?_ ?_ _);rotate_left;exact(by(try simp)<;>omega))|((with_reducible refine Below.alloc ?_ ?_ _);rotate_left;exact(by(try simp)<;>omega)))));exact HSW.out)
        ·(repeat(first|(with_reducible exact Below.refl _ _)|(with_reducible refine Below.drew ?_)|(with_reducible refine Xbs ?_ _)|((with_reducible refine Below.setCell ?_ ?_ _);rotate_left;exact(by(try simp)<;>omega))|((with_reducible refine Below.alloc ?_ ?_ _);rotate_left;exact(by(try simp)<;>omega))))
         exact HSW.out
  ·obtain rfl:i=n:=by omega
   have hnone:b.cache.find? (hitL d p)=none:=Xqx (by rw[Xgn (fun y hy=>hno.out y (by rw[List.take_of_length_le (by rw[HL.out.len];omega)];exact hy))];decide)
   have e:Xdh xs b d p wb=((if(Xca xs b d p wb).2.1 then{ b with cache:=Xfc b.cache (Xca xs b d p wb).1 }else b),(Xca xs b d p wb).1.at_,(Xca xs b d p wb).2.2):=by
    unfold Xdh;rw[if_neg (by have:=HM.out;omega),if_neg (by have:=HM.out;omega),hnone]
   have hin:=HIN.out
   unfold inD at hin
   obtain⟨⟨q1,q2⟩,q3,q4⟩:=hin
   have hbs:=((Xbn b).1 HCK.out).1.2.1
   obtain⟨mb,moff,rfl,hmb,hmc⟩:=(Xaf HX.out HSW.out).at_ (by decide)
   have hcx:=hmc _ _ (Xc7 (i:=b.base * 8+d) (Xaz H0.out).1 (by omega))
   have e8:b.base * 8+d=8 * b.base+d:=by omega
   rw[e8]at hcx
   have m8:IntKind.i64.wrap (8 * b.base)=8 * b.base:=IntWalk.i64_in _ (by omega)
   have m9:IntKind.i64.wrap (8 * b.base+d)=8 * b.base+d:=IntWalk.i64_in _ (by omega)
   have x1:(0:Int)≤8 * b.base+d:=by omega
   have x2:8 * b.base+d<512:=by omega
   obtain⟨x,hxx⟩:∃ x,rd xs (8 * b.base+d)=x:=⟨_,rfl⟩
   rw[hxx]at hcx
   have HXX:=Zh (show rd xs (b.base * 8+d)=x by rw[e8];exact hxx)
   have HFL:=Zh (Xk7 hnone)
   have HE:=Zh e
   clear hmc hmb hxx hnone e e8 hbs
   cases hK:cxK x with
   |false=>
    have hG:cxG x=false:=by
     cases h':cxG x with
     |false=>rfl
     |true=>rw[Xod h']at hK;cases hK
    have ef:Xca xs b d p wb=(.no,false,2):=by unfold Xca;simp only[HXX.out,hG];rfl
    have hr:=HR.out
    rw[HE.out,ef]at hr
    simp only[Line.no,Bool.false_eq_true,if_false,Prod.mk.injEq]at hr
    obtain⟨rfl,rfl,rfl⟩:=hr
    have HK:=Zh hK
    clear hK hG ef
    go_wp2_with fail
    refine(Xuz _ _ HK.out).mono ?_
    rintro e w1 ⟨rfl,hb1⟩
    have hz1:=hb1.size
    (try simp only[Zs]at hz1)
    obtain⟨k1_0,l1_0,q1_0⟩:=aft hb1 (w.heap.size+1) (by(try simp)<;>omega)
    obtain⟨k1_1,l1_1,q1_1⟩:=aft hb1 (w.heap.size+1+1) (by(try simp)<;>omega)
    simp(maxDischargeDepth:=6) [go_sem, *]at k1_0 q1_0 k1_1 q1_1
    have HB1:=Zh hb1
    clear hb1
    go_wp2
    refine bodyPost_ret (v:=.tuple #[.agg (B_.b b A i c),.int .i64 0,.int .i64 2]) ?_ rfl ⟨A,i,c,rfl, ?_, ?_,Xdk _ _ _⟩
    ·simp(maxDischargeDepth:=8) [results,Tryz.results63,go_sem, *]
    ·(refine Xah HL.out ?_;((repeat(first|(with_reducible exact Below.refl _ _)|(with_reducible refine Below.drew ?_)|(with_reducible refine Xbs ?_ _)|((with_reducible refine Below.setCell ?_ ?_ _);rotate_left;exact(by(try simp)<;>omega))|((with_reducible refine Below.alloc ?_ ?_ _);rotate_left;exact(by(try simp)<;>omega))|((with_reducible refine Below.trans ?_ (HB1.out.mono ?_));rotate_left;exact(by(try simp)<;>omega)))));exact HSW.out)
    ·(repeat(first|(with_reducible exact Below.refl _ _)|(with_reducible refine Below.drew ?_)|(with_reducible refine Xbs ?_ _)|((with_reducible refine Below.setCell ?_ ?_ _);rotate_left;exact(by(try simp)<;>omega))|((with_reducible refine Below.alloc ?_ ?_ _);rotate_left;exact(by(try simp)<;>omega))|((with_reducible refine Below.trans ?_ (HB1.out.mono ?_));rotate_left;exact(by(try simp)<;>omega))))
     exact HSW.out
   |true=>
    cases hG:cxG x with
    |false=>
     have ef:Xca xs b d p wb=(.no,false,2):=by unfold Xca;simp only[HXX.out,hG];rfl
     have hr:=HR.out
     rw[HE.out,ef]at hr
     simp only[Line.no,Bool.false_eq_true,if_false,Prod.mk.injEq]at hr
     obtain⟨rfl,rfl,rfl⟩:=hr
     have HK:=Zh hK
     have HG:=Zh hG
     clear hK hG ef
     go_wp2_with fail
     refine(Xuy _ _ HK.out HG.out).mono ?_
     rintro e w1 ⟨rfl,hb1⟩
     have hz1:=hb1.size
     (try simp only[Zs]at hz1)
     obtain⟨k1_0,l1_0,q1_0⟩:=aft hb1 (w.heap.size+1) (by(try simp)<;>omega)
     obtain⟨k1_1,l1_1,q1_1⟩:=aft hb1 (w.heap.size+1+1) (by(try simp)<;>omega)
     simp(maxDischargeDepth:=6) [go_sem, *]at k1_0 q1_0 k1_1 q1_1
     have HB1:=Zh hb1
     clear hb1
     go_wp2
     refine bodyPost_ret (v:=.tuple #[.agg (B_.b b A i c),.int .i64 0,.int .i64 2]) ?_ rfl ⟨A,i,c,rfl, ?_, ?_,Xdk _ _ _⟩
     ·simp(maxDischargeDepth:=8) [results,Tryz.results63,go_sem, *]
     ·(refine Xah HL.out ?_;((repeat(first|(with_reducible exact Below.refl _ _)|(with_reducible refine Below.drew ?_)|(with_reducible refine Xbs ?_ _)|((with_reducible refine Below.setCell ?_ ?_ _);rotate_left;exact(by(try simp)<;>omega))|((with_reducible refine Below.alloc ?_ ?_ _);rotate_left;exact(by(try simp)<;>omega))|((with_reducible refine Below.trans ?_ (HB1.out.mono ?_));rotate_left;exact(by(try simp)<;>omega)))));exact HSW.out)
     ·(repeat(first|(with_reducible exact Below.refl _ _)|(with_reducible refine Below.drew ?_)|(with_reducible refine Xbs ?_ _)|((with_reducible refine Below.setCell ?_ ?_ _);rotate_left;exact(by(try simp)<;>omega))|((with_reducible refine Below.alloc ?_ ?_ _);rotate_left;exact(by(try simp)<;>omega))|((with_reducible refine Below.trans ?_ (HB1.out.mono ?_));rotate_left;exact(by(try simp)<;>omega))))
      exact HSW.out
    |true=>
     cases hs:bitI x 1 with
     |true=>
      have ef:Xca xs b d p wb=(⟨d,p,p,true,true⟩,false,0):=by unfold Xca;simp only[HXX.out,hG,hs,if_true]
      have hr:=HR.out
      rw[HE.out,ef]at hr
      simp only[Bool.false_eq_true,if_false,Prod.mk.injEq]at hr
      obtain⟨rfl,rfl,rfl⟩:=hr
      have HG:=Zh hG
      have HSS:=Zh hs
      clear hK hG hs ef
      go_wp2_with fail
      refine(Xn0 _ _ _ _ HG.out HSS.out rfl).mono ?_
      rintro e w1 ⟨rfl,hb1⟩
      have hz1:=hb1.size
      (try simp only[Zs]at hz1)
      obtain⟨k1_0,l1_0,q1_0⟩:=aft hb1 (w.heap.size+1) (by(try simp)<;>omega)
      obtain⟨k1_1,l1_1,q1_1⟩:=aft hb1 (w.heap.size+1+1) (by(try simp)<;>omega)
      simp(maxDischargeDepth:=6) [go_sem, *]at k1_0 q1_0 k1_1 q1_1
      have HB1:=Zh hb1
      clear hb1
      go_wp2
      refine bodyPost_ret (v:=.tuple #[.agg (B_.b b A i c),.int .i64 p,.int .i64 0]) ?_ rfl ⟨A,i,c,rfl, ?_, ?_,Xdk _ _ _⟩
      ·simp(maxDischargeDepth:=8) [results,Tryz.results63,go_sem, *]
      ·(refine Xah HL.out ?_;((repeat(first|(with_reducible exact Below.refl _ _)|(with_reducible refine Below.drew ?_)|(with_reducible refine Xbs ?_ _)|((with_reducible refine Below.setCell ?_ ?_ _);rotate_left;exact(by(try simp)<;>omega))|((with_reducible refine Below.alloc ?_ ?_ _);rotate_left;exact(by(try simp)<;>omega))|((with_reducible refine Below.trans ?_ (HB1.out.mono ?_));rotate_left;exact(by(try simp)<;>omega)))));exact HSW.out)
      ·(repeat(first|(with_reducible exact Below.refl _ _)|(with_reducible refine Below.drew ?_)|(with_reducible refine Xbs ?_ _)|((with_reducible refine Below.setCell ?_ ?_ _);rotate_left;exact(by(try simp)<;>omega))|((with_reducible refine Below.alloc ?_ ?_ _);rotate_left;exact(by(try simp)<;>omega))|((with_reducible refine Below.trans ?_ (HB1.out.mono ?_));rotate_left;exact(by(try simp)<;>omega))))
       exact HSW.out
     |false=>
      obtain⟨rt,hrt⟩:∃ r,cxR x=r:=⟨_,rfl⟩
      have hin':inP rt p:=by have:=Xw2 x;rw[hrt]at this;unfold inP;omega
      have ef:Xca xs b d p wb=if(Xck xs rt p wb).2=0 then(⟨d,p,(Xck xs rt p wb).1.p,true,(Xck xs rt p wb).1.u⟩,true,0)else(.no,false,(Xck xs rt p wb).2):=by
       unfold Xca;simp only[HXX.out,hG,hs,hrt,if_true];rfl
      have hno2:=Xoq (xs:=xs) (root:=rt) (page:=p) (wr:=wb)
      have hfl:=Xia (xs:=xs) (b:=b) (wr:=wb) HIN.out
      generalize hq:Xck xs rt p wb=qq at ef hno2
      obtain⟨⟨v,r',u,l,pp⟩,f⟩:=qq
      dsimp only at ef hno2
      have HG:=Zh hG
      have HSS:=Zh hs
      have HRT:=Zh hrt
      have HQ:=Zh hq
      have HIN':=Zh hin'
      by_cases hf:f=0
      ·subst hf
       rw[if_pos rfl]at ef
       rw[ef]at hfl
       have hr:=HR.out
       rw[HE.out,ef]at hr
       simp only[if_true,Prod.mk.injEq]at hr
       obtain⟨ms,hms⟩:∃ ms,Xfc b.cache ⟨d,p,pp,true,u⟩=ms:=⟨_,rfl⟩
       have HMS:=Zh hms
       rw[hms]at hr
       obtain⟨rfl,rfl,rfl⟩:=hr
       have HFE:=Zh (Xk8 ((Xbn b).1 HCK.out).2.1 (hfl rfl).1 HFL.out)
       clear hK hG hs ef hrt hq hin' hfl hno2 hms
       go_wp2_with fail
       refine(Xn0 _ _ _ _ HG.out HSS.out HRT.out).mono ?_
       rintro e w1 ⟨rfl,hb1⟩
       have hz1:=hb1.size
       (try simp only[Zs]at hz1)
       obtain⟨k1_0,l1_0,q1_0⟩:=aft hb1 (w.heap.size) (by(try simp)<;>omega)
       obtain⟨k1_1,l1_1,q1_1⟩:=aft hb1 (w.heap.size+1) (by(try simp)<;>omega)
       obtain⟨k1_2,l1_2,q1_2⟩:=aft hb1 (w.heap.size+1+1) (by(try simp)<;>omega)
       simp(maxDischargeDepth:=6) [go_sem, *]at k1_0 q1_0 k1_1 q1_1 k1_2 q1_2
       have HB1:=Zh hb1
       clear hb1
       go_wp2_with fail
       refine(Xou _ _ xs _ _ _ v r' u l pp 0 _ (Xaf HX.out (by(repeat(first|(with_reducible exact Below.refl _ _)|(with_reducible refine Below.drew ?_)|(with_reducible refine Xbs ?_ _)|((with_reducible refine Below.setCell ?_ ?_ _);rotate_left;exact(by(try simp)<;>omega))|((with_reducible refine Below.alloc ?_ ?_ _);rotate_left;exact(by(try simp)<;>omega))|((with_reducible refine Below.trans ?_ (HB1.out.mono ?_));rotate_left;exact(by(try simp)<;>omega))));exact HSW.out)) H0.out HIN'.out HQ.out).mono ?_
       rintro e w2 ⟨rfl,hb2⟩
       have hz2:=hb2.size
       (try simp only[Zs]at hz2)
       obtain⟨k2_0,l2_0,q2_0⟩:=aft hb2 (w.heap.size+1) (by(try simp)<;>omega)
       obtain⟨k2_1,l2_1,q2_1⟩:=aft hb2 (w.heap.size+1+1) (by(try simp)<;>omega)
       simp(maxDischargeDepth:=6) [go_sem, *]at k2_0 q2_0 k2_1 q2_1
       have HB2:=Zh hb2
       clear hb2
       go_wp2_with fail
       refine(Xqc _ _ _ b.cache ms d p pp true u 0 _ (Xah HL.out (by(repeat(first|(with_reducible exact Below.refl _ _)|(with_reducible refine Below.drew ?_)|(with_reducible refine Xbs ?_ _)|((with_reducible refine Below.setCell ?_ ?_ _);rotate_left;exact(by(try simp)<;>omega))|((with_reducible refine Below.alloc ?_ ?_ _);rotate_left;exact(by(try simp)<;>omega))|((with_reducible refine Below.trans ?_ (HB2.out.mono ?_));rotate_left;exact(by(try simp)<;>omega))|((with_reducible refine Below.trans ?_ (HB1.out.mono ?_));rotate_left;exact(by(try simp)<;>omega))));exact HSW.out)) HFE.out HMS.out).mono ?_
       rintro e w3 ⟨A3,c3,rfl,hl3,hb3,hn3⟩
       have hz3:=hb3.size
       (try simp only[Zs]at hz3 hn3)
       have HL3:=Zh hl3
       have HN3:=Zh (show ∀ ad,A3=some ad→w.heap.size+1+1<ad.block from fun ad h=>by have:=hn3 ad h;omega)
       clear hl3 hn3
       have hz3:=hb3.size
       (try simp only[Zs]at hz3)
       obtain⟨k3_0,l3_0,q3_0⟩:=aft hb3 (w.heap.size+1) (by(try simp)<;>omega)
       obtain⟨k3_1,l3_1,q3_1⟩:=aft hb3 (w.heap.size+1+1) (by(try simp)<;>omega)
       obtain⟨k3_2,l3_2,q3_2⟩:=aft hb3 (w2.heap.size) (by(try simp)<;>omega)
       simp(maxDischargeDepth:=6) [go_sem, *]at k3_0 q3_0 k3_1 q3_1 k3_2 q3_2
       have HB3:=Zh hb3
       clear hb3
       go_wp2_with fail
       go_region_with (fail)
       all_goals
        go_wp2
        refine bodyPost_ret (v:=.tuple #[.agg (B_.b b A3 ms.length c3),.int .i64 pp,.int .i64 0]) ?_ rfl ⟨A3,ms.length,c3,rfl, ?_, ?_,Or.inr (fun ad h=>by have:=HN3.out ad h;omega)⟩
        ·simp(maxDischargeDepth:=8) [results,Tryz.results63,go_sem, *]
        ·(have hq:∀ ad,A3=some ad→ad.block≠w.heap.size+1+1:=fun ad h=>by have:=HN3.out ad h;omega);(have hq2:∀ ad,A3=some ad→ad.block≠w.heap.size+1:=fun ad h=>by have:=HN3.out ad h;omega);(refine Lines.more (B:=w3.heap.size) ?_ (by simp));(repeat(first|(with_reducible exact HL3.out)|(with_reducible refine Lines.drew ?_)|((with_reducible refine Xb5 ?_ ?_ _);rotate_left;(first|exact hq|exact hq2))))
        ·(repeat(first|(with_reducible exact Below.refl _ _)|(with_reducible refine Below.drew ?_)|(with_reducible refine Xbs ?_ _)|((with_reducible refine Below.setCell ?_ ?_ _);rotate_left;exact(by(try simp)<;>omega))|((with_reducible refine Below.alloc ?_ ?_ _);rotate_left;exact(by(try simp)<;>omega))|((with_reducible refine Below.trans ?_ (HB3.out.mono ?_));rotate_left;exact(by(try simp)<;>omega))|((with_reducible refine Below.trans ?_ (HB2.out.mono ?_));rotate_left;exact(by(try simp)<;>omega))|((with_reducible refine Below.trans ?_ (HB1.out.mono ?_));rotate_left;exact(by(try simp)<;>omega))))
         exact HSW.out
      ·rw[if_neg hf]at ef
       have hpp:pp=0:=by have:=(hno2 hf).1;injection this
       subst hpp
       have hr:=HR.out
       rw[HE.out,ef]at hr
       simp only[Line.no,Bool.false_eq_true,if_false,Prod.mk.injEq]at hr
       obtain⟨rfl,rfl,rfl⟩:=hr
       have tf:(f==0)=false:=beq_eq_false_iff_ne.2 hf
       clear hK hG hs ef hrt hq hin' hfl hno2 hf
       go_wp2_with fail
       refine(Xn0 _ _ _ _ HG.out HSS.out HRT.out).mono ?_
       rintro e w1 ⟨rfl,hb1⟩
       have hz1:=hb1.size
       (try simp only[Zs]at hz1)
       obtain⟨k1_0,l1_0,q1_0⟩:=aft hb1 (w.heap.size) (by(try simp)<;>omega)
       obtain⟨k1_1,l1_1,q1_1⟩:=aft hb1 (w.heap.size+1) (by(try simp)<;>omega)
       obtain⟨k1_2,l1_2,q1_2⟩:=aft hb1 (w.heap.size+1+1) (by(try simp)<;>omega)
       simp(maxDischargeDepth:=6) [go_sem, *]at k1_0 q1_0 k1_1 q1_1 k1_2 q1_2
       have HB1:=Zh hb1
       clear hb1
       go_wp2_with fail
       refine(Xou _ _ xs _ _ _ v r' u l 0 f _ (Xaf HX.out (by(repeat(first|(with_reducible exact Below.refl _ _)|(with_reducible refine Below.drew ?_)|(with_reducible refine Xbs ?_ _)|((with_reducible refine Below.setCell ?_ ?_ _);rotate_left;exact(by(try simp)<;>omega))|((with_reducible refine Below.alloc ?_ ?_ _);rotate_left;exact(by(try simp)<;>omega))|((with_reducible refine Below.trans ?_ (HB1.out.mono ?_));rotate_left;exact(by(try simp)<;>omega))));exact HSW.out)) H0.out HIN'.out HQ.out).mono ?_
       rintro e w2 ⟨rfl,hb2⟩
       have hz2:=hb2.size
       (try simp only[Zs]at hz2)
       obtain⟨k2_0,l2_0,q2_0⟩:=aft hb2 (w.heap.size+1) (by(try simp)<;>omega)
       obtain⟨k2_1,l2_1,q2_1⟩:=aft hb2 (w.heap.size+1+1) (by(try simp)<;>omega)
       simp(maxDischargeDepth:=6) [go_sem, *]at k2_0 q2_0 k2_1 q2_1
       have HB2:=Zh hb2
       clear hb2
       go_wp2_with fail
       go_region_with (fail)
       all_goals
        go_wp2
        refine bodyPost_ret (v:=.tuple #[.agg (B_.b b A i c),.int .i64 0,.int .i64 f]) ?_ rfl ⟨A,i,c,rfl, ?_, ?_,Xdk _ _ _⟩
        ·simp(maxDischargeDepth:=8) [results,Tryz.results63,go_sem, *]
        ·(refine Xah HL.out ?_;((repeat(first|(with_reducible exact Below.refl _ _)|(with_reducible refine Below.drew ?_)|(with_reducible refine Xbs ?_ _)|((with_reducible refine Below.setCell ?_ ?_ _);rotate_left;exact(by(try simp)<;>omega))|((with_reducible refine Below.alloc ?_ ?_ _);rotate_left;exact(by(try simp)<;>omega))|((with_reducible refine Below.trans ?_ (HB2.out.mono ?_));rotate_left;exact(by(try simp)<;>omega))|((with_reducible refine Below.trans ?_ (HB1.out.mono ?_));rotate_left;exact(by(try simp)<;>omega)))));exact HSW.out)
        ·(repeat(first|(with_reducible exact Below.refl _ _)|(with_reducible refine Below.drew ?_)|(with_reducible refine Xbs ?_ _)|((with_reducible refine Below.setCell ?_ ?_ _);rotate_left;exact(by(try simp)<;>omega))|((with_reducible refine Below.alloc ?_ ?_ _);rotate_left;exact(by(try simp)<;>omega))|((with_reducible refine Below.trans ?_ (HB2.out.mono ?_));rotate_left;exact(by(try simp)<;>omega))|((with_reducible refine Below.trans ?_ (HB1.out.mono ?_));rotate_left;exact(by(try simp)<;>omega))))
         exact HSW.out
theorem Xmp (xs:List Int) (m:Option Addr) (cm':Nat) (b:Brg) (A:Option Addr) (n c:Nat) (d p:Int) (wb:Bool) (rb:Brg) (ra rf:Int) (w:World) (hx:Ints w w.heap.size m 512 xs) (hl:Lines w w.heap.size A n c b.cache) (h0:cm xs=0) (hck:ckB b=0) (hin:inD d p) (hr:Xdh xs b d p wb=(rb,ra,rf)) :
  Calls Tryz.prog 63 #[.agg #[.slice m 512 cm'],.agg (B_.b b A n c),.int .i64 d,.int .i64 p,.bool wb] w (GoesD w A n rb ra rf):=by
 by_cases hm0:b.mode=0
 ·rw[show Xdh xs b d p wb=(b,0,1) by unfold Xdh;rw[if_pos hm0]]at hr
  simp only[Prod.mk.injEq]at hr
  obtain⟨rfl,rfl,rfl⟩:=hr
  exact Xqt m 512 cm' b A n c d p wb w hl hm0
 ·by_cases hm1:b.mode=1
  ·rw[show Xdh xs b d p wb=(b,p,0) by unfold Xdh;rw[if_neg hm0,if_pos hm1]]at hr
   simp only[Prod.mk.injEq]at hr
   obtain⟨rfl,rfl,rfl⟩:=hr
   exact Xqu m 512 cm' b A n c d p wb w hl hm1
  ·have hm2:b.mode=2:=by have:=((Xbn b).1 hck).1.1;omega
   exact Xvt xs m cm' b A n c d p wb rb ra rf w hx hl h0 hck hin hm2 hr
end Go.Proofs.YtbopdijnojaaiadGreat
