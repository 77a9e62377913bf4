/- The cache: the walk of the program's Fill where nothing has to go. No statement of the seat is proved here. -/
import Derived.Test.YtbopdijnojaaiadGreatSlices
import Derived.Deep.RegionHeld3
import Derived.Deep.DrawnRows
import Derived.Deep.AppendLies
namespace Go.Proofs.YtbopdijnojaaiadGreat
set_option maxRecDepth 100000
set_option maxHeartbeats 8000000
open Go.RowKit
set_option linter.unusedSimpArgs false
set_option linter.unusedVariables false
section
attribute [local go_sem ↓] Go.wp_at_zero Go.wp_at_succ
theorem Xba (A:Option Addr) (n c:Nat) (ls:List Line) (w:World) (hl:Lines w w.heap.size A n c ls) :
  Calls Tryz.prog 55 #[.slice A n c] w fun e w'=>e=.returned (.int .i64 (ckC ls))∧Below w.heap.size w w':=by
 have HL:=Zh hl
 obtain⟨hn1,hn2⟩:=hl.cap
 have hlen:=hl.len
 clear hl
 by_cases h6:n≤6
 ·have H6:=Zh (Xld (show ls.length≤6 by omega))
  have HN:=Zh hlen
  clear hlen
  rw[H6.out]
  have h6':(n:Int)≤6:=by omega
  have n3:(n:Int)≤(c:Int):=by omega
  go_enter Tryz.func55,Tryz.ntmps55
  go_wp2
  go_loopw [10] (fun i wr=>∃ k:Nat,k≤n∧i=.int .i64 k∧Hid (ckL [] ls=ckL (ls.take k) (ls.drop k))∧Hid (Xan w wr)) (fun i _=>n - (intOf i).toNat)
  case atStart=>exact⟨0,by omega,rfl,by simp[Hid],Xal w⟩
  case round=>
   obtain⟨k,hk,rfl,hck,hs⟩:=hrel
   by_cases hlt:k<n
   ·obtain⟨x,hx⟩:=Xa2 ls (k:=k) (by rw[HL.out.len];exact hlt)
    have HX:=Zh hx
    have HT:=Zh ((HL.out.take (Nat.le_of_lt hlt)).below hs.out)
    obtain⟨b,off,hA,hb,hc⟩:=(HL.out.below hs.out).at_ (by omega)
    subst hA
    obtain⟨e0,e1,e2,e3,e4⟩:=hc k x hx
    have HS:=Zh hs.out
    have hzr:=hs.out.size
    clear hc hx hs
    have n1:(0:Int)≤(k:Int):=by omega
    have n2:(k:Int)≤(c:Int):=by omega
    by_cases hR:Xgb x
    ·have HR:=Zh hR
     unfold Xgb at hR
     obtain⟨⟨r1,r2⟩,⟨r3,r4⟩,r5,r6⟩:=hR
     cases hrd:x.rd
     ·have HRD:=Zh hrd
      clear hrd
      rw[HRD.out]at e3
      go_wp2
      go_ret
      exact⟨Xbv (hck.out.trans ((Xid HX.out (by rw[Xk3 HR.out HRD.out];decide)).trans (Xk3 HR.out HRD.out))).symm,by(repeat(first|(with_reducible exact Below.refl _ _)|(with_reducible refine Below.drew ?_)|(with_reducible refine Xbs ?_ _)|((with_reducible refine Below.setCell ?_ ?_ _);rotate_left;exact(by(try simp)<;>omega))|((with_reducible refine Below.alloc ?_ ?_ _);rotate_left;exact(by(try simp)<;>omega))));exact HS.out⟩
     ·have HRD:=Zh hrd
      clear hrd
      rw[HRD.out]at e3
      by_cases hf:0≤Xb7 (ls.take k) x.dev x.page
      ·have HF:=Zh hf
       have hf1:decide (0≤Xb7 (ls.take k) x.dev x.page)=true:=by simpa using hf
       clear hf
       go_wp2
       go_region_held3 (fun W=>W.cell? ⟨wr.heap.size,0,none⟩=some (.int .i64 x.dev)∧W.cell? ⟨wr.heap.size,1,none⟩=some (.int .i64 x.page))
        (first|(refine⟨?_, ?_⟩<;>(simp(maxDischargeDepth:=8) [go_sem];done))|(refine⟨?_, ?_⟩<;>(simp(maxDischargeDepth:=8) [go_sem,k1_0];done))|go_keep)
        (first
         |(go_at_call 82;refine(Xcf _ _ _ (ls.take k) _ _ _ ?_).mono ?_;(exact((HT.out.more hzr).alloc (Nat.le_refl _) _).more (by simp));(rintro e w1 ⟨rfl,hb1⟩;have hz1:=hb1.size;(try simp only[Zs]at hz1);obtain⟨k1_0,l1_0,q1_0⟩:=aft hb1 (wr.heap.size) (by(try simp)<;>omega);simp(maxDischargeDepth:=6) [go_sem, *]at k1_0 q1_0;have HB1:=Zh hb1;clear hb1)))
       go_wp2
       go_ret
       exact⟨Xbv (hck.out.trans (Xmz HX.out (Xg2 HR.out HRD.out) HF.out)).symm,by(repeat(first|(with_reducible exact Below.refl _ _)|(with_reducible refine Below.drew ?_)|(with_reducible refine Xbs ?_ _)|((with_reducible refine Below.setCell ?_ ?_ _);rotate_left;exact(by(try simp)<;>omega))|((with_reducible refine Below.alloc ?_ ?_ _);rotate_left;exact(by(try simp)<;>omega))|((with_reducible refine Below.trans ?_ (HB1.out.mono ?_));rotate_left;exact(by(try simp)<;>omega))));exact HS.out⟩
      ·have HF:=Zh (show Xb7 (ls.take k) x.dev x.page<0 by omega)
       have hf1:decide (0≤Xb7 (ls.take k) x.dev x.page)=false:=by simpa using hf
       clear hf
       go_wp2
       go_region_held3 (fun W=>W.cell? ⟨wr.heap.size,0,none⟩=some (.int .i64 x.dev)∧W.cell? ⟨wr.heap.size,1,none⟩=some (.int .i64 x.page))
        (first|(refine⟨?_, ?_⟩<;>(simp(maxDischargeDepth:=8) [go_sem];done))|(refine⟨?_, ?_⟩<;>(simp(maxDischargeDepth:=8) [go_sem,k1_0];done))|go_keep)
        (first
         |(go_at_call 82;refine(Xcf _ _ _ (ls.take k) _ _ _ ?_).mono ?_;(exact((HT.out.more hzr).alloc (Nat.le_refl _) _).more (by simp));(rintro e w1 ⟨rfl,hb1⟩;have hz1:=hb1.size;(try simp only[Zs]at hz1);obtain⟨k1_0,l1_0,q1_0⟩:=aft hb1 (wr.heap.size) (by(try simp)<;>omega);simp(maxDischargeDepth:=6) [go_sem, *]at k1_0 q1_0;have HB1:=Zh hb1;clear hb1)))
       go_wp2
       go_roundw
       case rel=>exact⟨k+1,by omega,by go_num,hck.out.trans (Xpj HX.out (Xg2 HR.out HRD.out) HF.out),by show Below _ _ _;(repeat(first|(with_reducible exact Below.refl _ _)|(with_reducible refine Below.drew ?_)|(with_reducible refine Xbs ?_ _)|((with_reducible refine Below.setCell ?_ ?_ _);rotate_left;exact(by(try simp)<;>omega))|((with_reducible refine Below.alloc ?_ ?_ _);rotate_left;exact(by(try simp)<;>omega))|((with_reducible refine Below.trans ?_ (HB1.out.mono ?_));rotate_left;exact(by(try simp)<;>omega))));exact HS.out⟩
       case measure=>simp[intOf];omega
    ·have HE:=Zh (Xs0 hR)
     have hr2:x.dev<0∨(0≤x.dev∧8≤x.dev)∨(0≤x.dev∧x.dev<8∧x.page<0)∨(0≤x.dev∧x.dev<8∧0≤x.page∧64≤x.page)∨(0≤x.dev∧x.dev<8∧0≤x.page∧x.page<64∧x.at_<0)∨(0≤x.dev∧x.dev<8∧0≤x.page∧x.page<64∧0≤x.at_∧64≤x.at_):=by unfold Xgb at hR;omega
     clear hR
     rcases hr2 with r1|⟨r1,r2⟩|⟨r1,r2,r3⟩|⟨r1,r2,r3,r4⟩|⟨r1,r2,r3,r4,r5⟩|⟨r1,r2,r3,r4,r5,r6⟩
     all_goals
      go_wp2
      go_ret
      exact⟨Xbv (hck.out.trans ((Xid HX.out (by rw[HE.out];decide)).trans HE.out)).symm,by(repeat(first|(with_reducible exact Below.refl _ _)|(with_reducible refine Below.drew ?_)|(with_reducible refine Xbs ?_ _)|((with_reducible refine Below.setCell ?_ ?_ _);rotate_left;exact(by(try simp)<;>omega))|((with_reducible refine Below.alloc ?_ ?_ _);rotate_left;exact(by(try simp)<;>omega))));exact HS.out⟩
   ·obtain rfl:k=n:=by omega
    go_wp2
    go_ret
    exact⟨Xbv (hck.out.trans (by rw[←HL.out.len];exact Xt8 ls)).symm,hs.out⟩
 ·have H6:=Zh (Xlc (show 6<ls.length by omega))
  rw[H6.out]
  clear hlen
  have h6':(6:Int)<(n:Int):=by omega
  go_enter Tryz.func55,Tryz.ntmps55
  go_wp2
  go_ret
  exact⟨rfl,Below.refl _ _⟩
end
section
section
attribute [local go_sem ↓] Go.wp_at_zero Go.wp_at_succ
theorem Xc0 (w:World) (x:Line):Lines (w.alloc (.cells #[.int .i64 x.dev,.int .i64 x.page,.int .i64 x.at_,.bool x.rd,.bool x.wr] 58)) (w.heap.size+1) (some ⟨w.heap.size,0,none⟩) 1 1 [x]:=
 ⟨rfl,Nat.le_refl _,by unfold maxLen;omega,(fun e=>by cases e),fun _=>⟨w.heap.size,0,rfl,by omega,fun k v hv=>by
  simp only[Xav,List.flatMap_cons,List.flatMap_nil,List.append_nil,Line.vals]at hv
  rw[Nat.zero_add,World.cell?_alloc_new]
  simpa using hv⟩⟩
end
section
attribute [local go_sem ↓] Go.wp_at_zero Go.wp_at_succ
theorem Lines.drop1 {w:World} {B n c b off:Nat} {ls:List Line} (h:Lines w B (some ⟨b,off,none⟩) (n+1) c ls):Lines w B (some ⟨b,off+5,none⟩) n (c - 1) (ls.drop 1):=
 ⟨by rw[List.length_drop,h.1];omega,by have:=h.2.1;omega,by have:=h.2.2.1;omega,(fun e=>by cases e),fun h0=>by
  have hl:0<(Xav ls).length:=by rw[Xbt,h.1];omega
  obtain⟨b',off',e,hb,hc⟩:=h.2.2.2.2 hl
  simp only[Option.some.injEq,Addr.mk.injEq,and_true]at e
  obtain⟨rfl,rfl⟩:=e
  refine⟨_,_,rfl,hb,fun j v hv=>?_⟩
  rw[←Xfw,List.getElem?_drop]at hv
  rw[Nat.add_assoc]
  exact hc _ v (by simpa using hv)⟩
theorem Xbg {B:Nat} {w:World} {e:TypeId} {size n:Nat} {v:Value} {ys:List Value} (h:w.ownsRow B e size v n ys):∀ k,v.ownBlock=some k→B≤k:=by
 intro k hk
 rcases Xdn h with⟨hv,_⟩|⟨g,cap,hv,_,_,hg,_⟩
 ·subst hv;simp[Value.ownBlock]at hk
 ·subst hv;simp[Value.ownBlock]at hk;omega
theorem Xd4 (w:World) (x:Line):∀ j u,x.vals[j]?=some u→(w.alloc (.cells #[.int .i64 x.dev,.int .i64 x.page,.int .i64 x.at_,.bool x.rd,.bool x.wr] 58)).cell? ((⟨w.heap.size,0,none⟩:Addr).add j)=some u:=by
 intro j u hu
 rw[Xdx,Nat.zero_add,World.cell?_alloc_new]
 simpa[Line.vals]using hu
theorem Xeq {w w':World} (x:Line) (hb:Below (w.alloc (.cells #[.int .i64 x.dev,.int .i64 x.page,.int .i64 x.at_,.bool x.rd,.bool x.wr] 58)).heap.size (w.alloc (.cells #[.int .i64 x.dev,.int .i64 x.page,.int .i64 x.at_,.bool x.rd,.bool x.wr] 58)) w') :
  ∀ j u,x.vals[j]?=some u→w'.cell? ((⟨w.heap.size,0,none⟩:Addr).add j)=some u:=by
 intro j u hu
 have:=Xd4 w x j u hu
 exact(Below.cell hb (Xbm this)).trans this
theorem Xby (x:Line):∀ u∈x.vals,u.oneCell'=true:=by
 intro u hu;simp[Line.vals]at hu;rcases hu with rfl|rfl|rfl|rfl|rfl<;>rfl
theorem Xu5 {B g cap m:Nat} {w:World} {ls:List Line} {x:Line} (hl:ls.length=m+1) (h:w.ownsRow B 58 5 (.slice (some ⟨g,0,none⟩) (m+1) cap) (m+1) (Xav (ls.drop 1) ++ x.vals)):OwnL B w (some ⟨g,0,none⟩) (m+1) cap (ls.drop 1 ++ [x]):=by
 have e:Xav (ls.drop 1 ++ [x])=Xav (ls.drop 1) ++ x.vals:=by rw[Xer];simp[Xav]
 rcases Xdn h with⟨hv,_⟩|⟨g',cap',hv,h1,h2,_⟩
 ·injection hv with e1;cases e1
 ·injection hv with e1 e2 e3
  subst e3
  exact⟨by simp[hl],h1,h2,by rw[e];exact h⟩
def Xlk (w:World) (n:Nat) (ls:List Line) (e:Ending) (w':World):Prop:=∃ A c,e=.returned (.tuple #[.slice A n c,.int .i64 0])∧OwnL w.heap.size w' A n c ls∧Below w.heap.size w w'
theorem Xm5 (b off c:Nat) (ls:List Line) (x:Line) (w:World) (hl:Lines w w.heap.size (some ⟨b,off,none⟩) 6 c ls) (h0:ckC ls=0) (h1:Xcc x=0) (h2:Xb7 ls x.dev x.page<0) :
  Calls Tryz.prog 94 #[.slice (some ⟨b,off,none⟩) 6 c,.agg #[.int .i64 x.dev,.int .i64 x.page,.int .i64 x.at_,.bool x.rd,.bool x.wr]] w (Xlk w 6 (ls.drop 1 ++ [x])):=by
 obtain⟨i0,hi,hz0,hz1,hz2⟩:=info_parts Tryz.infoLine
 have HI:=Zh hi;clear hi
 have HZ0:=Zh hz0;clear hz0
 have HZ1:=Zh hz1;clear hz1
 have HZ2:=Zh hz2;clear hz2
 have HL:=Zh hl
 have HL1:=Zh (Lines.drop1 hl)
 obtain⟨hc1,hc2⟩:=hl.cap
 have c1:(6:Int)≤(c:Int):=by omega
 have c2:¬c=1:=by omega
 have t0:(ckC ls != 0)=false:=by rw[bne_eq_false_iff_eq];exact h0
 have t1:(Xcc x != 0)=false:=by rw[bne_eq_false_iff_eq];exact h1
 have t2:decide (0≤Xb7 ls x.dev x.page)=false:=by simp;omega
 have HF:=Zh h2
 clear h0 h1 h2 hl
 go_enter Tryz.func94,Tryz.ntmps94
 go_wp2_with fail
 refine(Xba _ _ _ ls _ ((HL.out.alloc (Nat.le_refl _) _).more (by simp))).mono ?_
 rintro e w1 ⟨rfl,hb1⟩
 have hz1:=hb1.size
 (try simp only[Zs]at hz1)
 obtain⟨k1_0,l1_0,q1_0⟩:=aft hb1 (w.heap.size) (by(try simp)<;>omega)
 simp(maxDischargeDepth:=6) [go_sem, *]at k1_0 q1_0
 have HB1:=Zh hb1
 clear hb1
 go_wp2_with fail
 refine(Xba _ _ _ [x] _ ((Xc0 _ x).more (by simp))).mono ?_
 rw[Xd7]
 rintro e w2 ⟨rfl,hb2⟩
 have hz2:=hb2.size
 (try simp only[Zs]at hz2)
 obtain⟨k2_0,l2_0,q2_0⟩:=aft hb2 (w.heap.size) (by(try simp)<;>omega)
 simp(maxDischargeDepth:=6) [go_sem, *]at k2_0 q2_0
 have HB2:=Zh hb2
 clear hb2
 have L2:=Zh ((((HL.out.alloc (Nat.le_refl _) (.cells #[.int .i64 x.dev,.int .i64 x.page,.int .i64 x.at_,.bool x.rd,.bool x.wr] 58)).below (HB1.out.mono (by simp))).alloc (by omega) (.cells #[.int .i64 x.dev,.int .i64 x.page,.int .i64 x.at_,.bool x.rd,.bool x.wr] 58) |>.below (HB2.out.mono (by simp;omega))).more (B':=w2.heap.size) (by omega))
 have M2:=Zh ((((HL1.out.alloc (Nat.le_refl _) (.cells #[.int .i64 x.dev,.int .i64 x.page,.int .i64 x.at_,.bool x.rd,.bool x.wr] 58)).below (HB1.out.mono (by simp))).alloc (by omega) (.cells #[.int .i64 x.dev,.int .i64 x.page,.int .i64 x.at_,.bool x.rd,.bool x.wr] 58) |>.below (HB2.out.mono (by simp;omega))).more (B':=w2.heap.size) (by omega))
 go_wp2_with fail
 refine(Xcf _ _ _ ls _ _ _ L2.out).mono ?_
 rintro e w3 ⟨rfl,hb3⟩
 have hz3:=hb3.size
 (try simp only[Zs]at hz3)
 obtain⟨k3_0,l3_0,q3_0⟩:=aft hb3 (w.heap.size) (by(try simp)<;>omega)
 simp(maxDischargeDepth:=6) [go_sem, *]at k3_0 q3_0
 have HB3:=Zh hb3
 clear hb3
 have M3:=Zh ((M2.out.below HB3.out).more (B':=w3.heap.size) (by omega))
 have C0:w3.cell? ⟨w.heap.size,0,none⟩=some (.int .i64 x.dev):=by simp[k3_0]
 have C1:w3.cell? ⟨w.heap.size,1,none⟩=some (.int .i64 x.page):=by simp[k3_0]
 have C2:w3.cell? ⟨w.heap.size,2,none⟩=some (.int .i64 x.at_):=by simp[k3_0]
 have C3:w3.cell? ⟨w.heap.size,3,none⟩=some (.bool x.rd):=by simp[k3_0]
 have C4:w3.cell? ⟨w.heap.size,4,none⟩=some (.bool x.wr):=by simp[k3_0]
 have HC:=Zh (And.intro C0 (And.intro C1 (And.intro C2 (And.intro C3 C4))))
 clear C0 C1 C2 C3 C4
 go_wp2_with fail
 have e1:IntKind.i64.wrap 7=7:=by decide
 have e2:IntKind.i64.wrap (7 - 6)=1:=by decide
 have e3:IntKind.i64.wrap 1=1:=by decide
 go_region_held3 (fun W=>W.cell? ⟨w.heap.size,0,none⟩=some (.int .i64 x.dev)∧W.cell? ⟨w.heap.size,1,none⟩=some (.int .i64 x.page)∧W.cell? ⟨w.heap.size,2,none⟩=some (.int .i64 x.at_)∧W.cell? ⟨w.heap.size,3,none⟩=some (.bool x.rd)∧W.cell? ⟨w.heap.size,4,none⟩=some (.bool x.wr))
  (first
   |exact HC.out
   |(refine⟨?_, ?_, ?_, ?_, ?_⟩;(exact Eq.trans (hgrow.cell_far ⟨w.heap.size,0,none⟩ (by simp;omega) (fun e=>absurd (Xbg HO4.out.2.2.2 _ e.symm) (by simp;omega))) (by simp(maxDischargeDepth:=8) [go_sem,k4_0,l4_0]));(exact Eq.trans (hgrow.cell_far ⟨w.heap.size,1,none⟩ (by simp;omega) (fun e=>absurd (Xbg HO4.out.2.2.2 _ e.symm) (by simp;omega))) (by simp(maxDischargeDepth:=8) [go_sem,k4_0,l4_0]));(exact Eq.trans (hgrow.cell_far ⟨w.heap.size,2,none⟩ (by simp;omega) (fun e=>absurd (Xbg HO4.out.2.2.2 _ e.symm) (by simp;omega))) (by simp(maxDischargeDepth:=8) [go_sem,k4_0,l4_0]));(exact Eq.trans (hgrow.cell_far ⟨w.heap.size,3,none⟩ (by simp;omega) (fun e=>absurd (Xbg HO4.out.2.2.2 _ e.symm) (by simp;omega))) (by simp(maxDischargeDepth:=8) [go_sem,k4_0,l4_0]));(exact Eq.trans (hgrow.cell_far ⟨w.heap.size,4,none⟩ (by simp;omega) (fun e=>absurd (Xbg HO4.out.2.2.2 _ e.symm) (by simp;omega))) (by simp(maxDischargeDepth:=8) [go_sem,k4_0,l4_0])))
   |(refine⟨?_, ?_, ?_, ?_, ?_⟩<;>(simp(maxDischargeDepth:=8) [go_sem,k4_0];done))
   |(refine⟨?_, ?_, ?_, ?_, ?_⟩<;>(simp(maxDischargeDepth:=8) [go_sem,HC.out.1,HC.out.2.1,HC.out.2.2.1,HC.out.2.2.2.1,HC.out.2.2.2.2];done))
   |go_keep)
  (first
   |(go_at_call 66;refine(Xcx _ _ _ (ls.drop 1) _ ?_ (by decide)).mono ?_;(first|exact M3.out.drew|exact(M3.out.drew.alloc (Nat.le_refl _) _).more (by simp));rintro e w4 ⟨A4,c4,rfl,ho4,hb4⟩;have HO4:Hid (OwnL w3.heap.size w4 A4 5 c4 (ls.drop 1)):=Zh (ho4.low (by simp));clear ho4;have hb4':=hb4;have hz4:=hb4.size;(try simp only[Zs]at hz4);obtain⟨k4_0,l4_0,q4_0⟩:=aft hb4 (w.heap.size) (by(try simp)<;>omega);simp(maxDischargeDepth:=6) [go_sem, *]at k4_0 q4_0;have HB4:=Zh hb4;clear hb4)
   |(revert HO4;intro HO4;refine step_append_lies _ (by rfl) (.tmp 33) (.tmp 35) 27 (by rfl) w3.heap.size 58 i0 (.agg #[.int .i64 0,.int .i64 0,.int .i64 0,.bool false,.bool false]) 5 32 Tryz.underlying27 HI.out HZ0.out HZ1.out HZ2.out (by rfl) (by decide) (.slice A4 5 c4) 5 (Xav (ls.drop 1)) (by rfl) HO4.out.2.2.2 ⟨w3.heap.size,0,none⟩ 1 1 x.vals (by rfl) (by rfl) (Xeq (w:=w3.drew) x hb4') (Xby x) (by decide) (by unfold maxLen;omega) (by decide) (by omega) _ rfl ?_;intro g cap w5 hown5 hgrow hat hlt)
   |(revert HO4;intro HO4;refine step_append_lies _ (by rfl) (.tmp 33) (.tmp 35) 27 (by rfl) w3.heap.size 58 i0 (.agg #[.int .i64 0,.int .i64 0,.int .i64 0,.bool false,.bool false]) 5 32 Tryz.underlying27 HI.out HZ0.out HZ1.out HZ2.out (by rfl) (by decide) (.slice A4 5 c4) 5 (Xav (ls.drop 1)) (by rfl) (HO4.out.alloc _).2.2.2 ⟨w4.heap.size,0,none⟩ 1 1 x.vals (by rfl) (by rfl) (Xd4 w4 x) (Xby x) (by decide) (by unfold maxLen;omega) (by decide) (by simp;omega) _ rfl ?_;intro g cap w5 hown5 hgrow hat hlt))
 all_goals
  have hbw:Below w3.heap.size w3 w5:=by
   first
    |exact Below.grown (Below.alloc (B:=w3.heap.size) (bl (by repeat' first|with_reducible(first|assumption|constructor)|((try simp)<;>omega))) (by omega) _) hgrow (by simp;omega) (Xbg HO4.out.2.2.2)
    |exact Below.grown (bl (by repeat' first|with_reducible(first|assumption|constructor)|((try simp)<;>omega))) hgrow (by omega) (Xbg HO4.out.2.2.2)
  have HBW:=Zh hbw
  have HO5:=Zh (Xu5 (HL.out.len) hown5)
  clear hgrow hat hlt hown5 hbw e1 e2 e3
  go_wp2
  go_ret2
  exact⟨some ⟨g,0,none⟩,cap,rfl,HO5.out.low (by omega),(bl (by repeat' first|with_reducible(first|assumption|constructor)|((try simp)<;>omega)):Below w.heap.size w w3).trans (HBW.out.mono (by omega))⟩
end
section
attribute [local go_sem ↓] Go.wp_at_zero Go.wp_at_succ
theorem Xde {B g cap n:Nat} {w:World} {ls:List Line} {x:Line} (hl:ls.length=n) (h:w.ownsRow B 58 5 (.slice (some ⟨g,0,none⟩) (n+1) cap) (n+1) (Xav ls ++ x.vals)):OwnL B w (some ⟨g,0,none⟩) (n+1) cap (ls ++ [x]):=by
 have e:Xav (ls ++ [x])=Xav ls ++ x.vals:=by rw[Xer];simp[Xav]
 rcases Xdn h with⟨hv,_⟩|⟨g',cap',hv,h1,h2,_⟩
 ·injection hv with e1;cases e1
 ·injection hv with e1 e2 e3
  subst e3
  exact⟨by simp[hl],h1,h2,by rw[e];exact h⟩
theorem Xm3  (ls:List Line) (x:Line) (w:World) (hl:Lines w w.heap.size (none) 0 0 ls) (h0:ckC ls=0) (h1:Xcc x=0) (h2:Xb7 ls x.dev x.page<0) :
  Calls Tryz.prog 94 #[.slice (none) 0 0,.agg #[.int .i64 x.dev,.int .i64 x.page,.int .i64 x.at_,.bool x.rd,.bool x.wr]] w (Xlk w (0+1) (ls ++ [x])):=by
 obtain⟨i0,hi,hz0,hz1,hz2⟩:=info_parts Tryz.infoLine
 have HI:=Zh hi;clear hi
 have HZ0:=Zh hz0;clear hz0
 have HZ1:=Zh hz1;clear hz1
 have HZ2:=Zh hz2;clear hz2
 have HL:=Zh hl
 have HL1:=Zh hl
 have HLEN:=Zh hl.len
 obtain⟨hc1,hc2⟩:=hl.cap
 have HE:=Zh (show IntKind.i64.wrap 1=1∧IntKind.i64.wrap (1 - 6) = -5∧IntKind.i64.wrap (-5) = -5 by decide)
 have t0:(ckC ls != 0)=false:=by rw[bne_eq_false_iff_eq];exact h0
 have t1:(Xcc x != 0)=false:=by rw[bne_eq_false_iff_eq];exact h1
 have t2:decide (0≤Xb7 ls x.dev x.page)=false:=by simp;omega
 have HF:=Zh h2
 clear h0 h1 h2 hl
 go_enter Tryz.func94,Tryz.ntmps94
 go_wp2_with fail
 refine(Xba _ _ _ ls _ ((HL.out.alloc (Nat.le_refl _) _).more (by simp))).mono ?_
 rintro e w1 ⟨rfl,hb1⟩
 have hz1:=hb1.size
 (try simp only[Zs]at hz1)
 obtain⟨k1_0,l1_0,q1_0⟩:=aft hb1 (w.heap.size) (by(try simp)<;>omega)
 simp(maxDischargeDepth:=6) [go_sem, *]at k1_0 q1_0
 have HB1:=Zh hb1
 clear hb1
 go_wp2_with fail
 refine(Xba _ _ _ [x] _ ((Xc0 _ x).more (by simp))).mono ?_
 rw[Xd7]
 rintro e w2 ⟨rfl,hb2⟩
 have hz2:=hb2.size
 (try simp only[Zs]at hz2)
 obtain⟨k2_0,l2_0,q2_0⟩:=aft hb2 (w.heap.size) (by(try simp)<;>omega)
 simp(maxDischargeDepth:=6) [go_sem, *]at k2_0 q2_0
 have HB2:=Zh hb2
 clear hb2
 have L2:=Zh ((((HL.out.alloc (Nat.le_refl _) (.cells #[.int .i64 x.dev,.int .i64 x.page,.int .i64 x.at_,.bool x.rd,.bool x.wr] 58)).below (HB1.out.mono (by simp))).alloc (by omega) (.cells #[.int .i64 x.dev,.int .i64 x.page,.int .i64 x.at_,.bool x.rd,.bool x.wr] 58) |>.below (HB2.out.mono (by simp;omega))).more (B':=w2.heap.size) (by omega))
 have M2:=Zh ((((HL1.out.alloc (Nat.le_refl _) (.cells #[.int .i64 x.dev,.int .i64 x.page,.int .i64 x.at_,.bool x.rd,.bool x.wr] 58)).below (HB1.out.mono (by simp))).alloc (by omega) (.cells #[.int .i64 x.dev,.int .i64 x.page,.int .i64 x.at_,.bool x.rd,.bool x.wr] 58) |>.below (HB2.out.mono (by simp;omega))).more (B':=w2.heap.size) (by omega))
 go_wp2_with fail
 refine(Xcf _ _ _ ls _ _ _ L2.out).mono ?_
 rintro e w3 ⟨rfl,hb3⟩
 have hz3:=hb3.size
 (try simp only[Zs]at hz3)
 obtain⟨k3_0,l3_0,q3_0⟩:=aft hb3 (w.heap.size) (by(try simp)<;>omega)
 simp(maxDischargeDepth:=6) [go_sem, *]at k3_0 q3_0
 have HB3:=Zh hb3
 clear hb3
 have M3:=Zh ((M2.out.below HB3.out).more (B':=w3.heap.size) (by omega))
 have C0:w3.cell? ⟨w.heap.size,0,none⟩=some (.int .i64 x.dev):=by simp[k3_0]
 have C1:w3.cell? ⟨w.heap.size,1,none⟩=some (.int .i64 x.page):=by simp[k3_0]
 have C2:w3.cell? ⟨w.heap.size,2,none⟩=some (.int .i64 x.at_):=by simp[k3_0]
 have C3:w3.cell? ⟨w.heap.size,3,none⟩=some (.bool x.rd):=by simp[k3_0]
 have C4:w3.cell? ⟨w.heap.size,4,none⟩=some (.bool x.wr):=by simp[k3_0]
 have HC:=Zh (And.intro C0 (And.intro C1 (And.intro C2 (And.intro C3 C4))))
 clear C0 C1 C2 C3 C4
 go_wp2_with fail
 obtain⟨e1,e2,e3⟩:=HE.out
 go_region_held3 (fun W=>W.cell? ⟨w.heap.size,0,none⟩=some (.int .i64 x.dev)∧W.cell? ⟨w.heap.size,1,none⟩=some (.int .i64 x.page)∧W.cell? ⟨w.heap.size,2,none⟩=some (.int .i64 x.at_)∧W.cell? ⟨w.heap.size,3,none⟩=some (.bool x.rd)∧W.cell? ⟨w.heap.size,4,none⟩=some (.bool x.wr))
  (first
   |exact HC.out
   |(refine⟨?_, ?_, ?_, ?_, ?_⟩;(exact Eq.trans (hgrow.cell_far ⟨w.heap.size,0,none⟩ (by simp;omega) (fun e=>absurd (Xbg HO4.out.2.2.2 _ e.symm) (by simp;omega))) (by simp(maxDischargeDepth:=8) [go_sem,k4_0,l4_0]));(exact Eq.trans (hgrow.cell_far ⟨w.heap.size,1,none⟩ (by simp;omega) (fun e=>absurd (Xbg HO4.out.2.2.2 _ e.symm) (by simp;omega))) (by simp(maxDischargeDepth:=8) [go_sem,k4_0,l4_0]));(exact Eq.trans (hgrow.cell_far ⟨w.heap.size,2,none⟩ (by simp;omega) (fun e=>absurd (Xbg HO4.out.2.2.2 _ e.symm) (by simp;omega))) (by simp(maxDischargeDepth:=8) [go_sem,k4_0,l4_0]));(exact Eq.trans (hgrow.cell_far ⟨w.heap.size,3,none⟩ (by simp;omega) (fun e=>absurd (Xbg HO4.out.2.2.2 _ e.symm) (by simp;omega))) (by simp(maxDischargeDepth:=8) [go_sem,k4_0,l4_0]));(exact Eq.trans (hgrow.cell_far ⟨w.heap.size,4,none⟩ (by simp;omega) (fun e=>absurd (Xbg HO4.out.2.2.2 _ e.symm) (by simp;omega))) (by simp(maxDischargeDepth:=8) [go_sem,k4_0,l4_0])))
   |(refine⟨?_, ?_, ?_, ?_, ?_⟩<;>(simp(maxDischargeDepth:=8) [go_sem,k4_0];done))
   |(refine⟨?_, ?_, ?_, ?_, ?_⟩<;>(simp(maxDischargeDepth:=8) [go_sem,HC.out.1,HC.out.2.1,HC.out.2.2.1,HC.out.2.2.2.1,HC.out.2.2.2.2];done))
   |go_keep)
  (first
   |(go_at_call 66;refine(Xcx _ _ _ ls _ ?_ (by omega)).mono ?_;(first|exact M3.out.drew|exact(M3.out.drew.alloc (Nat.le_refl _) _).more (by simp));rintro e w4 ⟨A4,c4,rfl,ho4,hb4⟩;have HO4:Hid (OwnL w3.heap.size w4 A4 (0) c4 ls):=Zh (ho4.low (by simp));clear ho4;have hb4':=hb4;have hz4:=hb4.size;(try simp only[Zs]at hz4);obtain⟨k4_0,l4_0,q4_0⟩:=aft hb4 (w.heap.size) (by(try simp)<;>omega);simp(maxDischargeDepth:=6) [go_sem, *]at k4_0 q4_0;have HB4:=Zh hb4;clear hb4)
   |(revert HO4;intro HO4;refine step_append_lies _ (by rfl) (.tmp 33) (.tmp 35) 27 (by rfl) w3.heap.size 58 i0 (.agg #[.int .i64 0,.int .i64 0,.int .i64 0,.bool false,.bool false]) 5 32 Tryz.underlying27 HI.out HZ0.out HZ1.out HZ2.out (by rfl) (by decide) (.slice A4 (0) c4) (0) (Xav ls) (by rfl) HO4.out.2.2.2 ⟨w3.heap.size,0,none⟩ 1 1 x.vals (by rfl) (by rfl) (Xeq (w:=w3.drew) x hb4') (Xby x) (by decide) (by unfold maxLen;omega) (by omega) (by omega) _ rfl ?_;intro g cap w5 hown5 hgrow hat hlt)
   |(revert HO4;intro HO4;refine step_append_lies _ (by rfl) (.tmp 33) (.tmp 35) 27 (by rfl) w3.heap.size 58 i0 (.agg #[.int .i64 0,.int .i64 0,.int .i64 0,.bool false,.bool false]) 5 32 Tryz.underlying27 HI.out HZ0.out HZ1.out HZ2.out (by rfl) (by decide) (.slice A4 (0) c4) (0) (Xav ls) (by rfl) (HO4.out.alloc _).2.2.2 ⟨w4.heap.size,0,none⟩ 1 1 x.vals (by rfl) (by rfl) (Xd4 w4 x) (Xby x) (by decide) (by unfold maxLen;omega) (by omega) (by simp;omega) _ rfl ?_;intro g cap w5 hown5 hgrow hat hlt))
 all_goals
  have hbw:Below w3.heap.size w3 w5:=by
   first
    |exact Below.grown (Below.alloc (B:=w3.heap.size) (bl (by repeat' first|with_reducible(first|assumption|constructor)|((try simp)<;>omega))) (by omega) _) hgrow (by simp;omega) (Xbg HO4.out.2.2.2)
    |exact Below.grown (bl (by repeat' first|with_reducible(first|assumption|constructor)|((try simp)<;>omega))) hgrow (by omega) (Xbg HO4.out.2.2.2)
  have HBW:=Zh hbw
  have HO5:=Zh (Xde HLEN.out hown5)
  clear hgrow hat hlt hown5 hbw e1 e2 e3
  go_wp2
  go_ret2
  exact⟨some ⟨g,0,none⟩,cap,rfl,HO5.out.low (by omega),(bl (by repeat' first|with_reducible(first|assumption|constructor)|((try simp)<;>omega)):Below w.heap.size w w3).trans (HBW.out.mono (by omega))⟩
theorem Xm2 (ad:Addr) (ls:List Line) (x:Line) (w:World) (hl:Lines w w.heap.size (some ad) 0 0 ls) (h0:ckC ls=0) (h1:Xcc x=0) (h2:Xb7 ls x.dev x.page<0) :
  Calls Tryz.prog 94 #[.slice (some ad) 0 0,.agg #[.int .i64 x.dev,.int .i64 x.page,.int .i64 x.at_,.bool x.rd,.bool x.wr]] w (Xlk w (0+1) (ls ++ [x])):=by
 obtain⟨i0,hi,hz0,hz1,hz2⟩:=info_parts Tryz.infoLine
 have HI:=Zh hi;clear hi
 have HZ0:=Zh hz0;clear hz0
 have HZ1:=Zh hz1;clear hz1
 have HZ2:=Zh hz2;clear hz2
 have HL:=Zh hl
 have HL1:=Zh hl
 have HLEN:=Zh hl.len
 obtain⟨hc1,hc2⟩:=hl.cap
 have HE:=Zh (show IntKind.i64.wrap 1=1∧IntKind.i64.wrap (1 - 6) = -5∧IntKind.i64.wrap (-5) = -5 by decide)
 have t0:(ckC ls != 0)=false:=by rw[bne_eq_false_iff_eq];exact h0
 have t1:(Xcc x != 0)=false:=by rw[bne_eq_false_iff_eq];exact h1
 have t2:decide (0≤Xb7 ls x.dev x.page)=false:=by simp;omega
 have HF:=Zh h2
 clear h0 h1 h2 hl
 go_enter Tryz.func94,Tryz.ntmps94
 go_wp2_with fail
 refine(Xba _ _ _ ls _ ((HL.out.alloc (Nat.le_refl _) _).more (by simp))).mono ?_
 rintro e w1 ⟨rfl,hb1⟩
 have hz1:=hb1.size
 (try simp only[Zs]at hz1)
 obtain⟨k1_0,l1_0,q1_0⟩:=aft hb1 (w.heap.size) (by(try simp)<;>omega)
 simp(maxDischargeDepth:=6) [go_sem, *]at k1_0 q1_0
 have HB1:=Zh hb1
 clear hb1
 go_wp2_with fail
 refine(Xba _ _ _ [x] _ ((Xc0 _ x).more (by simp))).mono ?_
 rw[Xd7]
 rintro e w2 ⟨rfl,hb2⟩
 have hz2:=hb2.size
 (try simp only[Zs]at hz2)
 obtain⟨k2_0,l2_0,q2_0⟩:=aft hb2 (w.heap.size) (by(try simp)<;>omega)
 simp(maxDischargeDepth:=6) [go_sem, *]at k2_0 q2_0
 have HB2:=Zh hb2
 clear hb2
 have L2:=Zh ((((HL.out.alloc (Nat.le_refl _) (.cells #[.int .i64 x.dev,.int .i64 x.page,.int .i64 x.at_,.bool x.rd,.bool x.wr] 58)).below (HB1.out.mono (by simp))).alloc (by omega) (.cells #[.int .i64 x.dev,.int .i64 x.page,.int .i64 x.at_,.bool x.rd,.bool x.wr] 58) |>.below (HB2.out.mono (by simp;omega))).more (B':=w2.heap.size) (by omega))
 have M2:=Zh ((((HL1.out.alloc (Nat.le_refl _) (.cells #[.int .i64 x.dev,.int .i64 x.page,.int .i64 x.at_,.bool x.rd,.bool x.wr] 58)).below (HB1.out.mono (by simp))).alloc (by omega) (.cells #[.int .i64 x.dev,.int .i64 x.page,.int .i64 x.at_,.bool x.rd,.bool x.wr] 58) |>.below (HB2.out.mono (by simp;omega))).more (B':=w2.heap.size) (by omega))
 go_wp2_with fail
 refine(Xcf _ _ _ ls _ _ _ L2.out).mono ?_
 rintro e w3 ⟨rfl,hb3⟩
 have hz3:=hb3.size
 (try simp only[Zs]at hz3)
 obtain⟨k3_0,l3_0,q3_0⟩:=aft hb3 (w.heap.size) (by(try simp)<;>omega)
 simp(maxDischargeDepth:=6) [go_sem, *]at k3_0 q3_0
 have HB3:=Zh hb3
 clear hb3
 have M3:=Zh ((M2.out.below HB3.out).more (B':=w3.heap.size) (by omega))
 have C0:w3.cell? ⟨w.heap.size,0,none⟩=some (.int .i64 x.dev):=by simp[k3_0]
 have C1:w3.cell? ⟨w.heap.size,1,none⟩=some (.int .i64 x.page):=by simp[k3_0]
 have C2:w3.cell? ⟨w.heap.size,2,none⟩=some (.int .i64 x.at_):=by simp[k3_0]
 have C3:w3.cell? ⟨w.heap.size,3,none⟩=some (.bool x.rd):=by simp[k3_0]
 have C4:w3.cell? ⟨w.heap.size,4,none⟩=some (.bool x.wr):=by simp[k3_0]
 have HC:=Zh (And.intro C0 (And.intro C1 (And.intro C2 (And.intro C3 C4))))
 clear C0 C1 C2 C3 C4
 go_wp2_with fail
 obtain⟨e1,e2,e3⟩:=HE.out
 go_region_held3 (fun W=>W.cell? ⟨w.heap.size,0,none⟩=some (.int .i64 x.dev)∧W.cell? ⟨w.heap.size,1,none⟩=some (.int .i64 x.page)∧W.cell? ⟨w.heap.size,2,none⟩=some (.int .i64 x.at_)∧W.cell? ⟨w.heap.size,3,none⟩=some (.bool x.rd)∧W.cell? ⟨w.heap.size,4,none⟩=some (.bool x.wr))
  (first
   |exact HC.out
   |(refine⟨?_, ?_, ?_, ?_, ?_⟩;(exact Eq.trans (hgrow.cell_far ⟨w.heap.size,0,none⟩ (by simp;omega) (fun e=>absurd (Xbg HO4.out.2.2.2 _ e.symm) (by simp;omega))) (by simp(maxDischargeDepth:=8) [go_sem,k4_0,l4_0]));(exact Eq.trans (hgrow.cell_far ⟨w.heap.size,1,none⟩ (by simp;omega) (fun e=>absurd (Xbg HO4.out.2.2.2 _ e.symm) (by simp;omega))) (by simp(maxDischargeDepth:=8) [go_sem,k4_0,l4_0]));(exact Eq.trans (hgrow.cell_far ⟨w.heap.size,2,none⟩ (by simp;omega) (fun e=>absurd (Xbg HO4.out.2.2.2 _ e.symm) (by simp;omega))) (by simp(maxDischargeDepth:=8) [go_sem,k4_0,l4_0]));(exact Eq.trans (hgrow.cell_far ⟨w.heap.size,3,none⟩ (by simp;omega) (fun e=>absurd (Xbg HO4.out.2.2.2 _ e.symm) (by simp;omega))) (by simp(maxDischargeDepth:=8) [go_sem,k4_0,l4_0]));(exact Eq.trans (hgrow.cell_far ⟨w.heap.size,4,none⟩ (by simp;omega) (fun e=>absurd (Xbg HO4.out.2.2.2 _ e.symm) (by simp;omega))) (by simp(maxDischargeDepth:=8) [go_sem,k4_0,l4_0])))
   |(refine⟨?_, ?_, ?_, ?_, ?_⟩<;>(simp(maxDischargeDepth:=8) [go_sem,k4_0];done))
   |(refine⟨?_, ?_, ?_, ?_, ?_⟩<;>(simp(maxDischargeDepth:=8) [go_sem,HC.out.1,HC.out.2.1,HC.out.2.2.1,HC.out.2.2.2.1,HC.out.2.2.2.2];done))
   |go_keep)
  (first
   |(go_at_call 66;refine(Xcx _ _ _ ls _ ?_ (by omega)).mono ?_;(first|exact M3.out.drew|exact(M3.out.drew.alloc (Nat.le_refl _) _).more (by simp));rintro e w4 ⟨A4,c4,rfl,ho4,hb4⟩;have HO4:Hid (OwnL w3.heap.size w4 A4 (0) c4 ls):=Zh (ho4.low (by simp));clear ho4;have hb4':=hb4;have hz4:=hb4.size;(try simp only[Zs]at hz4);obtain⟨k4_0,l4_0,q4_0⟩:=aft hb4 (w.heap.size) (by(try simp)<;>omega);simp(maxDischargeDepth:=6) [go_sem, *]at k4_0 q4_0;have HB4:=Zh hb4;clear hb4)
   |(revert HO4;intro HO4;refine step_append_lies _ (by rfl) (.tmp 33) (.tmp 35) 27 (by rfl) w3.heap.size 58 i0 (.agg #[.int .i64 0,.int .i64 0,.int .i64 0,.bool false,.bool false]) 5 32 Tryz.underlying27 HI.out HZ0.out HZ1.out HZ2.out (by rfl) (by decide) (.slice A4 (0) c4) (0) (Xav ls) (by rfl) HO4.out.2.2.2 ⟨w3.heap.size,0,none⟩ 1 1 x.vals (by rfl) (by rfl) (Xeq (w:=w3.drew) x hb4') (Xby x) (by decide) (by unfold maxLen;omega) (by omega) (by omega) _ rfl ?_;intro g cap w5 hown5 hgrow hat hlt)
   |(revert HO4;intro HO4;refine step_append_lies _ (by rfl) (.tmp 33) (.tmp 35) 27 (by rfl) w3.heap.size 58 i0 (.agg #[.int .i64 0,.int .i64 0,.int .i64 0,.bool false,.bool false]) 5 32 Tryz.underlying27 HI.out HZ0.out HZ1.out HZ2.out (by rfl) (by decide) (.slice A4 (0) c4) (0) (Xav ls) (by rfl) (HO4.out.alloc _).2.2.2 ⟨w4.heap.size,0,none⟩ 1 1 x.vals (by rfl) (by rfl) (Xd4 w4 x) (Xby x) (by decide) (by unfold maxLen;omega) (by omega) (by simp;omega) _ rfl ?_;intro g cap w5 hown5 hgrow hat hlt))
 all_goals
  have hbw:Below w3.heap.size w3 w5:=by
   first
    |exact Below.grown (Below.alloc (B:=w3.heap.size) (bl (by repeat' first|with_reducible(first|assumption|constructor)|((try simp)<;>omega))) (by omega) _) hgrow (by simp;omega) (Xbg HO4.out.2.2.2)
    |exact Below.grown (bl (by repeat' first|with_reducible(first|assumption|constructor)|((try simp)<;>omega))) hgrow (by omega) (Xbg HO4.out.2.2.2)
  have HBW:=Zh hbw
  have HO5:=Zh (Xde HLEN.out hown5)
  clear hgrow hat hlt hown5 hbw e1 e2 e3
  go_wp2
  go_ret2
  exact⟨some ⟨g,0,none⟩,cap,rfl,HO5.out.low (by omega),(bl (by repeat' first|with_reducible(first|assumption|constructor)|((try simp)<;>omega)):Below w.heap.size w w3).trans (HBW.out.mono (by omega))⟩
theorem Xm4 (ad:Addr) (c:Nat) (hc0:c≠0) (ls:List Line) (x:Line) (w:World) (hl:Lines w w.heap.size (some ad) 0 c ls) (h0:ckC ls=0) (h1:Xcc x=0) (h2:Xb7 ls x.dev x.page<0) :
  Calls Tryz.prog 94 #[.slice (some ad) 0 c,.agg #[.int .i64 x.dev,.int .i64 x.page,.int .i64 x.at_,.bool x.rd,.bool x.wr]] w (Xlk w (0+1) (ls ++ [x])):=by
 obtain⟨i0,hi,hz0,hz1,hz2⟩:=info_parts Tryz.infoLine
 have HI:=Zh hi;clear hi
 have HZ0:=Zh hz0;clear hz0
 have HZ1:=Zh hz1;clear hz1
 have HZ2:=Zh hz2;clear hz2
 have HL:=Zh hl
 have HL1:=Zh hl
 have HLEN:=Zh hl.len
 obtain⟨hc1,hc2⟩:=hl.cap
 have HE:=Zh (show IntKind.i64.wrap 1=1∧IntKind.i64.wrap (1 - 6) = -5∧IntKind.i64.wrap (-5) = -5 by decide)
 have c2:¬c=0:=hc0
 clear hc0
 have t0:(ckC ls != 0)=false:=by rw[bne_eq_false_iff_eq];exact h0
 have t1:(Xcc x != 0)=false:=by rw[bne_eq_false_iff_eq];exact h1
 have t2:decide (0≤Xb7 ls x.dev x.page)=false:=by simp;omega
 have HF:=Zh h2
 clear h0 h1 h2 hl
 go_enter Tryz.func94,Tryz.ntmps94
 go_wp2_with fail
 refine(Xba _ _ _ ls _ ((HL.out.alloc (Nat.le_refl _) _).more (by simp))).mono ?_
 rintro e w1 ⟨rfl,hb1⟩
 have hz1:=hb1.size
 (try simp only[Zs]at hz1)
 obtain⟨k1_0,l1_0,q1_0⟩:=aft hb1 (w.heap.size) (by(try simp)<;>omega)
 simp(maxDischargeDepth:=6) [go_sem, *]at k1_0 q1_0
 have HB1:=Zh hb1
 clear hb1
 go_wp2_with fail
 refine(Xba _ _ _ [x] _ ((Xc0 _ x).more (by simp))).mono ?_
 rw[Xd7]
 rintro e w2 ⟨rfl,hb2⟩
 have hz2:=hb2.size
 (try simp only[Zs]at hz2)
 obtain⟨k2_0,l2_0,q2_0⟩:=aft hb2 (w.heap.size) (by(try simp)<;>omega)
 simp(maxDischargeDepth:=6) [go_sem, *]at k2_0 q2_0
 have HB2:=Zh hb2
 clear hb2
 have L2:=Zh ((((HL.out.alloc (Nat.le_refl _) (.cells #[.int .i64 x.dev,.int .i64 x.page,.int .i64 x.at_,.bool x.rd,.bool x.wr] 58)).below (HB1.out.mono (by simp))).alloc (by omega) (.cells #[.int .i64 x.dev,.int .i64 x.page,.int .i64 x.at_,.bool x.rd,.bool x.wr] 58) |>.below (HB2.out.mono (by simp;omega))).more (B':=w2.heap.size) (by omega))
 have M2:=Zh ((((HL1.out.alloc (Nat.le_refl _) (.cells #[.int .i64 x.dev,.int .i64 x.page,.int .i64 x.at_,.bool x.rd,.bool x.wr] 58)).below (HB1.out.mono (by simp))).alloc (by omega) (.cells #[.int .i64 x.dev,.int .i64 x.page,.int .i64 x.at_,.bool x.rd,.bool x.wr] 58) |>.below (HB2.out.mono (by simp;omega))).more (B':=w2.heap.size) (by omega))
 go_wp2_with fail
 refine(Xcf _ _ _ ls _ _ _ L2.out).mono ?_
 rintro e w3 ⟨rfl,hb3⟩
 have hz3:=hb3.size
 (try simp only[Zs]at hz3)
 obtain⟨k3_0,l3_0,q3_0⟩:=aft hb3 (w.heap.size) (by(try simp)<;>omega)
 simp(maxDischargeDepth:=6) [go_sem, *]at k3_0 q3_0
 have HB3:=Zh hb3
 clear hb3
 have M3:=Zh ((M2.out.below HB3.out).more (B':=w3.heap.size) (by omega))
 have C0:w3.cell? ⟨w.heap.size,0,none⟩=some (.int .i64 x.dev):=by simp[k3_0]
 have C1:w3.cell? ⟨w.heap.size,1,none⟩=some (.int .i64 x.page):=by simp[k3_0]
 have C2:w3.cell? ⟨w.heap.size,2,none⟩=some (.int .i64 x.at_):=by simp[k3_0]
 have C3:w3.cell? ⟨w.heap.size,3,none⟩=some (.bool x.rd):=by simp[k3_0]
 have C4:w3.cell? ⟨w.heap.size,4,none⟩=some (.bool x.wr):=by simp[k3_0]
 have HC:=Zh (And.intro C0 (And.intro C1 (And.intro C2 (And.intro C3 C4))))
 clear C0 C1 C2 C3 C4
 go_wp2_with fail
 obtain⟨e1,e2,e3⟩:=HE.out
 go_region_held3 (fun W=>W.cell? ⟨w.heap.size,0,none⟩=some (.int .i64 x.dev)∧W.cell? ⟨w.heap.size,1,none⟩=some (.int .i64 x.page)∧W.cell? ⟨w.heap.size,2,none⟩=some (.int .i64 x.at_)∧W.cell? ⟨w.heap.size,3,none⟩=some (.bool x.rd)∧W.cell? ⟨w.heap.size,4,none⟩=some (.bool x.wr))
  (first
   |exact HC.out
   |(refine⟨?_, ?_, ?_, ?_, ?_⟩;(exact Eq.trans (hgrow.cell_far ⟨w.heap.size,0,none⟩ (by simp;omega) (fun e=>absurd (Xbg HO4.out.2.2.2 _ e.symm) (by simp;omega))) (by simp(maxDischargeDepth:=8) [go_sem,k4_0,l4_0]));(exact Eq.trans (hgrow.cell_far ⟨w.heap.size,1,none⟩ (by simp;omega) (fun e=>absurd (Xbg HO4.out.2.2.2 _ e.symm) (by simp;omega))) (by simp(maxDischargeDepth:=8) [go_sem,k4_0,l4_0]));(exact Eq.trans (hgrow.cell_far ⟨w.heap.size,2,none⟩ (by simp;omega) (fun e=>absurd (Xbg HO4.out.2.2.2 _ e.symm) (by simp;omega))) (by simp(maxDischargeDepth:=8) [go_sem,k4_0,l4_0]));(exact Eq.trans (hgrow.cell_far ⟨w.heap.size,3,none⟩ (by simp;omega) (fun e=>absurd (Xbg HO4.out.2.2.2 _ e.symm) (by simp;omega))) (by simp(maxDischargeDepth:=8) [go_sem,k4_0,l4_0]));(exact Eq.trans (hgrow.cell_far ⟨w.heap.size,4,none⟩ (by simp;omega) (fun e=>absurd (Xbg HO4.out.2.2.2 _ e.symm) (by simp;omega))) (by simp(maxDischargeDepth:=8) [go_sem,k4_0,l4_0])))
   |(refine⟨?_, ?_, ?_, ?_, ?_⟩<;>(simp(maxDischargeDepth:=8) [go_sem,k4_0];done))
   |(refine⟨?_, ?_, ?_, ?_, ?_⟩<;>(simp(maxDischargeDepth:=8) [go_sem,HC.out.1,HC.out.2.1,HC.out.2.2.1,HC.out.2.2.2.1,HC.out.2.2.2.2];done))
   |go_keep)
  (first
   |(go_at_call 66;refine(Xcx _ _ _ ls _ ?_ (by omega)).mono ?_;(first|exact M3.out.drew|exact(M3.out.drew.alloc (Nat.le_refl _) _).more (by simp));rintro e w4 ⟨A4,c4,rfl,ho4,hb4⟩;have HO4:Hid (OwnL w3.heap.size w4 A4 (0) c4 ls):=Zh (ho4.low (by simp));clear ho4;have hb4':=hb4;have hz4:=hb4.size;(try simp only[Zs]at hz4);obtain⟨k4_0,l4_0,q4_0⟩:=aft hb4 (w.heap.size) (by(try simp)<;>omega);simp(maxDischargeDepth:=6) [go_sem, *]at k4_0 q4_0;have HB4:=Zh hb4;clear hb4)
   |(revert HO4;intro HO4;refine step_append_lies _ (by rfl) (.tmp 33) (.tmp 35) 27 (by rfl) w3.heap.size 58 i0 (.agg #[.int .i64 0,.int .i64 0,.int .i64 0,.bool false,.bool false]) 5 32 Tryz.underlying27 HI.out HZ0.out HZ1.out HZ2.out (by rfl) (by decide) (.slice A4 (0) c4) (0) (Xav ls) (by rfl) HO4.out.2.2.2 ⟨w3.heap.size,0,none⟩ 1 1 x.vals (by rfl) (by rfl) (Xeq (w:=w3.drew) x hb4') (Xby x) (by decide) (by unfold maxLen;omega) (by omega) (by omega) _ rfl ?_;intro g cap w5 hown5 hgrow hat hlt)
   |(revert HO4;intro HO4;refine step_append_lies _ (by rfl) (.tmp 33) (.tmp 35) 27 (by rfl) w3.heap.size 58 i0 (.agg #[.int .i64 0,.int .i64 0,.int .i64 0,.bool false,.bool false]) 5 32 Tryz.underlying27 HI.out HZ0.out HZ1.out HZ2.out (by rfl) (by decide) (.slice A4 (0) c4) (0) (Xav ls) (by rfl) (HO4.out.alloc _).2.2.2 ⟨w4.heap.size,0,none⟩ 1 1 x.vals (by rfl) (by rfl) (Xd4 w4 x) (Xby x) (by decide) (by unfold maxLen;omega) (by omega) (by simp;omega) _ rfl ?_;intro g cap w5 hown5 hgrow hat hlt))
 all_goals
  have hbw:Below w3.heap.size w3 w5:=by
   first
    |exact Below.grown (Below.alloc (B:=w3.heap.size) (bl (by repeat' first|with_reducible(first|assumption|constructor)|((try simp)<;>omega))) (by omega) _) hgrow (by simp;omega) (Xbg HO4.out.2.2.2)
    |exact Below.grown (bl (by repeat' first|with_reducible(first|assumption|constructor)|((try simp)<;>omega))) hgrow (by omega) (Xbg HO4.out.2.2.2)
  have HBW:=Zh hbw
  have HO5:=Zh (Xde HLEN.out hown5)
  clear hgrow hat hlt hown5 hbw e1 e2 e3
  go_wp2
  go_ret2
  exact⟨some ⟨g,0,none⟩,cap,rfl,HO5.out.low (by omega),(bl (by repeat' first|with_reducible(first|assumption|constructor)|((try simp)<;>omega)):Below w.heap.size w w3).trans (HBW.out.mono (by omega))⟩
theorem Xna (b off c:Nat) (hc0:c≠0) (ls:List Line) (x:Line) (w:World) (hl:Lines w w.heap.size (some ⟨b,off,none⟩) 1 c ls) (h0:ckC ls=0) (h1:Xcc x=0) (h2:Xb7 ls x.dev x.page<0) :
  Calls Tryz.prog 94 #[.slice (some ⟨b,off,none⟩) 1 c,.agg #[.int .i64 x.dev,.int .i64 x.page,.int .i64 x.at_,.bool x.rd,.bool x.wr]] w (Xlk w (1+1) (ls ++ [x])):=by
 obtain⟨i0,hi,hz0,hz1,hz2⟩:=info_parts Tryz.infoLine
 have HI:=Zh hi;clear hi
 have HZ0:=Zh hz0;clear hz0
 have HZ1:=Zh hz1;clear hz1
 have HZ2:=Zh hz2;clear hz2
 have HL:=Zh hl
 have HL1:=Zh hl
 have HLEN:=Zh hl.len
 obtain⟨hc1,hc2⟩:=hl.cap
 have HE:=Zh (show IntKind.i64.wrap 2=2∧IntKind.i64.wrap (2 - 6) = -4∧IntKind.i64.wrap (-4) = -4 by decide)
 have c2:¬c=0:=hc0
 clear hc0
 have t0:(ckC ls != 0)=false:=by rw[bne_eq_false_iff_eq];exact h0
 have t1:(Xcc x != 0)=false:=by rw[bne_eq_false_iff_eq];exact h1
 have t2:decide (0≤Xb7 ls x.dev x.page)=false:=by simp;omega
 have HF:=Zh h2
 clear h0 h1 h2 hl
 go_enter Tryz.func94,Tryz.ntmps94
 go_wp2_with fail
 refine(Xba _ _ _ ls _ ((HL.out.alloc (Nat.le_refl _) _).more (by simp))).mono ?_
 rintro e w1 ⟨rfl,hb1⟩
 have hz1:=hb1.size
 (try simp only[Zs]at hz1)
 obtain⟨k1_0,l1_0,q1_0⟩:=aft hb1 (w.heap.size) (by(try simp)<;>omega)
 simp(maxDischargeDepth:=6) [go_sem, *]at k1_0 q1_0
 have HB1:=Zh hb1
 clear hb1
 go_wp2_with fail
 refine(Xba _ _ _ [x] _ ((Xc0 _ x).more (by simp))).mono ?_
 rw[Xd7]
 rintro e w2 ⟨rfl,hb2⟩
 have hz2:=hb2.size
 (try simp only[Zs]at hz2)
 obtain⟨k2_0,l2_0,q2_0⟩:=aft hb2 (w.heap.size) (by(try simp)<;>omega)
 simp(maxDischargeDepth:=6) [go_sem, *]at k2_0 q2_0
 have HB2:=Zh hb2
 clear hb2
 have L2:=Zh ((((HL.out.alloc (Nat.le_refl _) (.cells #[.int .i64 x.dev,.int .i64 x.page,.int .i64 x.at_,.bool x.rd,.bool x.wr] 58)).below (HB1.out.mono (by simp))).alloc (by omega) (.cells #[.int .i64 x.dev,.int .i64 x.page,.int .i64 x.at_,.bool x.rd,.bool x.wr] 58) |>.below (HB2.out.mono (by simp;omega))).more (B':=w2.heap.size) (by omega))
 have M2:=Zh ((((HL1.out.alloc (Nat.le_refl _) (.cells #[.int .i64 x.dev,.int .i64 x.page,.int .i64 x.at_,.bool x.rd,.bool x.wr] 58)).below (HB1.out.mono (by simp))).alloc (by omega) (.cells #[.int .i64 x.dev,.int .i64 x.page,.int .i64 x.at_,.bool x.rd,.bool x.wr] 58) |>.below (HB2.out.mono (by simp;omega))).more (B':=w2.heap.size) (by omega))
 go_wp2_with fail
 refine(Xcf _ _ _ ls _ _ _ L2.out).mono ?_
 rintro e w3 ⟨rfl,hb3⟩
 have hz3:=hb3.size
 (try simp only[Zs]at hz3)
 obtain⟨k3_0,l3_0,q3_0⟩:=aft hb3 (w.heap.size) (by(try simp)<;>omega)
 simp(maxDischargeDepth:=6) [go_sem, *]at k3_0 q3_0
 have HB3:=Zh hb3
 clear hb3
 have M3:=Zh ((M2.out.below HB3.out).more (B':=w3.heap.size) (by omega))
 have C0:w3.cell? ⟨w.heap.size,0,none⟩=some (.int .i64 x.dev):=by simp[k3_0]
 have C1:w3.cell? ⟨w.heap.size,1,none⟩=some (.int .i64 x.page):=by simp[k3_0]
 have C2:w3.cell? ⟨w.heap.size,2,none⟩=some (.int .i64 x.at_):=by simp[k3_0]
 have C3:w3.cell? ⟨w.heap.size,3,none⟩=some (.bool x.rd):=by simp[k3_0]
 have C4:w3.cell? ⟨w.heap.size,4,none⟩=some (.bool x.wr):=by simp[k3_0]
 have HC:=Zh (And.intro C0 (And.intro C1 (And.intro C2 (And.intro C3 C4))))
 clear C0 C1 C2 C3 C4
 go_wp2_with fail
 obtain⟨e1,e2,e3⟩:=HE.out
 go_region_held3 (fun W=>W.cell? ⟨w.heap.size,0,none⟩=some (.int .i64 x.dev)∧W.cell? ⟨w.heap.size,1,none⟩=some (.int .i64 x.page)∧W.cell? ⟨w.heap.size,2,none⟩=some (.int .i64 x.at_)∧W.cell? ⟨w.heap.size,3,none⟩=some (.bool x.rd)∧W.cell? ⟨w.heap.size,4,none⟩=some (.bool x.wr))
  (first
   |exact HC.out
   |(refine⟨?_, ?_, ?_, ?_, ?_⟩;(exact Eq.trans (hgrow.cell_far ⟨w.heap.size,0,none⟩ (by simp;omega) (fun e=>absurd (Xbg HO4.out.2.2.2 _ e.symm) (by simp;omega))) (by simp(maxDischargeDepth:=8) [go_sem,k4_0,l4_0]));(exact Eq.trans (hgrow.cell_far ⟨w.heap.size,1,none⟩ (by simp;omega) (fun e=>absurd (Xbg HO4.out.2.2.2 _ e.symm) (by simp;omega))) (by simp(maxDischargeDepth:=8) [go_sem,k4_0,l4_0]));(exact Eq.trans (hgrow.cell_far ⟨w.heap.size,2,none⟩ (by simp;omega) (fun e=>absurd (Xbg HO4.out.2.2.2 _ e.symm) (by simp;omega))) (by simp(maxDischargeDepth:=8) [go_sem,k4_0,l4_0]));(exact Eq.trans (hgrow.cell_far ⟨w.heap.size,3,none⟩ (by simp;omega) (fun e=>absurd (Xbg HO4.out.2.2.2 _ e.symm) (by simp;omega))) (by simp(maxDischargeDepth:=8) [go_sem,k4_0,l4_0]));(exact Eq.trans (hgrow.cell_far ⟨w.heap.size,4,none⟩ (by simp;omega) (fun e=>absurd (Xbg HO4.out.2.2.2 _ e.symm) (by simp;omega))) (by simp(maxDischargeDepth:=8) [go_sem,k4_0,l4_0])))
   |(refine⟨?_, ?_, ?_, ?_, ?_⟩<;>(simp(maxDischargeDepth:=8) [go_sem,k4_0];done))
   |(refine⟨?_, ?_, ?_, ?_, ?_⟩<;>(simp(maxDischargeDepth:=8) [go_sem,HC.out.1,HC.out.2.1,HC.out.2.2.1,HC.out.2.2.2.1,HC.out.2.2.2.2];done))
   |go_keep)
  (first
   |(go_at_call 66;refine(Xcx _ _ _ ls _ ?_ (by omega)).mono ?_;(first|exact M3.out.drew|exact(M3.out.drew.alloc (Nat.le_refl _) _).more (by simp));rintro e w4 ⟨A4,c4,rfl,ho4,hb4⟩;have HO4:Hid (OwnL w3.heap.size w4 A4 1 c4 ls):=Zh (ho4.low (by simp));clear ho4;have hb4':=hb4;have hz4:=hb4.size;(try simp only[Zs]at hz4);obtain⟨k4_0,l4_0,q4_0⟩:=aft hb4 (w.heap.size) (by(try simp)<;>omega);simp(maxDischargeDepth:=6) [go_sem, *]at k4_0 q4_0;have HB4:=Zh hb4;clear hb4)
   |(revert HO4;intro HO4;refine step_append_lies _ (by rfl) (.tmp 33) (.tmp 35) 27 (by rfl) w3.heap.size 58 i0 (.agg #[.int .i64 0,.int .i64 0,.int .i64 0,.bool false,.bool false]) 5 32 Tryz.underlying27 HI.out HZ0.out HZ1.out HZ2.out (by rfl) (by decide) (.slice A4 1 c4) 1 (Xav ls) (by rfl) HO4.out.2.2.2 ⟨w3.heap.size,0,none⟩ 1 1 x.vals (by rfl) (by rfl) (Xeq (w:=w3.drew) x hb4') (Xby x) (by decide) (by unfold maxLen;omega) (by omega) (by omega) _ rfl ?_;intro g cap w5 hown5 hgrow hat hlt)
   |(revert HO4;intro HO4;refine step_append_lies _ (by rfl) (.tmp 33) (.tmp 35) 27 (by rfl) w3.heap.size 58 i0 (.agg #[.int .i64 0,.int .i64 0,.int .i64 0,.bool false,.bool false]) 5 32 Tryz.underlying27 HI.out HZ0.out HZ1.out HZ2.out (by rfl) (by decide) (.slice A4 1 c4) 1 (Xav ls) (by rfl) (HO4.out.alloc _).2.2.2 ⟨w4.heap.size,0,none⟩ 1 1 x.vals (by rfl) (by rfl) (Xd4 w4 x) (Xby x) (by decide) (by unfold maxLen;omega) (by omega) (by simp;omega) _ rfl ?_;intro g cap w5 hown5 hgrow hat hlt))
 all_goals
  have hbw:Below w3.heap.size w3 w5:=by
   first
    |exact Below.grown (Below.alloc (B:=w3.heap.size) (bl (by repeat' first|with_reducible(first|assumption|constructor)|((try simp)<;>omega))) (by omega) _) hgrow (by simp;omega) (Xbg HO4.out.2.2.2)
    |exact Below.grown (bl (by repeat' first|with_reducible(first|assumption|constructor)|((try simp)<;>omega))) hgrow (by omega) (Xbg HO4.out.2.2.2)
  have HBW:=Zh hbw
  have HO5:=Zh (Xde HLEN.out hown5)
  clear hgrow hat hlt hown5 hbw e1 e2 e3
  go_wp2
  go_ret2
  exact⟨some ⟨g,0,none⟩,cap,rfl,HO5.out.low (by omega),(bl (by repeat' first|with_reducible(first|assumption|constructor)|((try simp)<;>omega)):Below w.heap.size w w3).trans (HBW.out.mono (by omega))⟩
theorem Xm9 (b off c:Nat) (hc0:c≠0) (ls:List Line) (x:Line) (w:World) (hl:Lines w w.heap.size (some ⟨b,off,none⟩) 2 c ls) (h0:ckC ls=0) (h1:Xcc x=0) (h2:Xb7 ls x.dev x.page<0) :
  Calls Tryz.prog 94 #[.slice (some ⟨b,off,none⟩) 2 c,.agg #[.int .i64 x.dev,.int .i64 x.page,.int .i64 x.at_,.bool x.rd,.bool x.wr]] w (Xlk w (2+1) (ls ++ [x])):=by
 obtain⟨i0,hi,hz0,hz1,hz2⟩:=info_parts Tryz.infoLine
 have HI:=Zh hi;clear hi
 have HZ0:=Zh hz0;clear hz0
 have HZ1:=Zh hz1;clear hz1
 have HZ2:=Zh hz2;clear hz2
 have HL:=Zh hl
 have HL1:=Zh hl
 have HLEN:=Zh hl.len
 obtain⟨hc1,hc2⟩:=hl.cap
 have HE:=Zh (show IntKind.i64.wrap 3=3∧IntKind.i64.wrap (3 - 6) = -3∧IntKind.i64.wrap (-3) = -3 by decide)
 have c2:¬c=0:=hc0
 clear hc0
 have t0:(ckC ls != 0)=false:=by rw[bne_eq_false_iff_eq];exact h0
 have t1:(Xcc x != 0)=false:=by rw[bne_eq_false_iff_eq];exact h1
 have t2:decide (0≤Xb7 ls x.dev x.page)=false:=by simp;omega
 have HF:=Zh h2
 clear h0 h1 h2 hl
 go_enter Tryz.func94,Tryz.ntmps94
 go_wp2_with fail
 refine(Xba _ _ _ ls _ ((HL.out.alloc (Nat.le_refl _) _).more (by simp))).mono ?_
 rintro e w1 ⟨rfl,hb1⟩
 have hz1:=hb1.size
 (try simp only[Zs]at hz1)
 obtain⟨k1_0,l1_0,q1_0⟩:=aft hb1 (w.heap.size) (by(try simp)<;>omega)
 simp(maxDischargeDepth:=6) [go_sem, *]at k1_0 q1_0
 have HB1:=Zh hb1
 clear hb1
 go_wp2_with fail
 refine(Xba _ _ _ [x] _ ((Xc0 _ x).more (by simp))).mono ?_
 rw[Xd7]
 rintro e w2 ⟨rfl,hb2⟩
 have hz2:=hb2.size
 (try simp only[Zs]at hz2)
 obtain⟨k2_0,l2_0,q2_0⟩:=aft hb2 (w.heap.size) (by(try simp)<;>omega)
 simp(maxDischargeDepth:=6) [go_sem, *]at k2_0 q2_0
 have HB2:=Zh hb2
 clear hb2
 have L2:=Zh ((((HL.out.alloc (Nat.le_refl _) (.cells #[.int .i64 x.dev,.int .i64 x.page,.int .i64 x.at_,.bool x.rd,.bool x.wr] 58)).below (HB1.out.mono (by simp))).alloc (by omega) (.cells #[.int .i64 x.dev,.int .i64 x.page,.int .i64 x.at_,.bool x.rd,.bool x.wr] 58) |>.below (HB2.out.mono (by simp;omega))).more (B':=w2.heap.size) (by omega))
 have M2:=Zh ((((HL1.out.alloc (Nat.le_refl _) (.cells #[.int .i64 x.dev,.int .i64 x.page,.int .i64 x.at_,.bool x.rd,.bool x.wr] 58)).below (HB1.out.mono (by simp))).alloc (by omega) (.cells #[.int .i64 x.dev,.int .i64 x.page,.int .i64 x.at_,.bool x.rd,.bool x.wr] 58) |>.below (HB2.out.mono (by simp;omega))).more (B':=w2.heap.size) (by omega))
 go_wp2_with fail
 refine(Xcf _ _ _ ls _ _ _ L2.out).mono ?_
 rintro e w3 ⟨rfl,hb3⟩
 have hz3:=hb3.size
 (try simp only[Zs]at hz3)
 obtain⟨k3_0,l3_0,q3_0⟩:=aft hb3 (w.heap.size) (by(try simp)<;>omega)
 simp(maxDischargeDepth:=6) [go_sem, *]at k3_0 q3_0
 have HB3:=Zh hb3
 clear hb3
 have M3:=Zh ((M2.out.below HB3.out).more (B':=w3.heap.size) (by omega))
 have C0:w3.cell? ⟨w.heap.size,0,none⟩=some (.int .i64 x.dev):=by simp[k3_0]
 have C1:w3.cell? ⟨w.heap.size,1,none⟩=some (.int .i64 x.page):=by simp[k3_0]
 have C2:w3.cell? ⟨w.heap.size,2,none⟩=some (.int .i64 x.at_):=by simp[k3_0]
 have C3:w3.cell? ⟨w.heap.size,3,none⟩=some (.bool x.rd):=by simp[k3_0]
 have C4:w3.cell? ⟨w.heap.size,4,none⟩=some (.bool x.wr):=by simp[k3_0]
 have HC:=Zh (And.intro C0 (And.intro C1 (And.intro C2 (And.intro C3 C4))))
 clear C0 C1 C2 C3 C4
 go_wp2_with fail
 obtain⟨e1,e2,e3⟩:=HE.out
 go_region_held3 (fun W=>W.cell? ⟨w.heap.size,0,none⟩=some (.int .i64 x.dev)∧W.cell? ⟨w.heap.size,1,none⟩=some (.int .i64 x.page)∧W.cell? ⟨w.heap.size,2,none⟩=some (.int .i64 x.at_)∧W.cell? ⟨w.heap.size,3,none⟩=some (.bool x.rd)∧W.cell? ⟨w.heap.size,4,none⟩=some (.bool x.wr))
  (first
   |exact HC.out
   |(refine⟨?_, ?_, ?_, ?_, ?_⟩;(exact Eq.trans (hgrow.cell_far ⟨w.heap.size,0,none⟩ (by simp;omega) (fun e=>absurd (Xbg HO4.out.2.2.2 _ e.symm) (by simp;omega))) (by simp(maxDischargeDepth:=8) [go_sem,k4_0,l4_0]));(exact Eq.trans (hgrow.cell_far ⟨w.heap.size,1,none⟩ (by simp;omega) (fun e=>absurd (Xbg HO4.out.2.2.2 _ e.symm) (by simp;omega))) (by simp(maxDischargeDepth:=8) [go_sem,k4_0,l4_0]));(exact Eq.trans (hgrow.cell_far ⟨w.heap.size,2,none⟩ (by simp;omega) (fun e=>absurd (Xbg HO4.out.2.2.2 _ e.symm) (by simp;omega))) (by simp(maxDischargeDepth:=8) [go_sem,k4_0,l4_0]));(exact Eq.trans (hgrow.cell_far ⟨w.heap.size,3,none⟩ (by simp;omega) (fun e=>absurd (Xbg HO4.out.2.2.2 _ e.symm) (by simp;omega))) (by simp(maxDischargeDepth:=8) [go_sem,k4_0,l4_0]));(exact Eq.trans (hgrow.cell_far ⟨w.heap.size,4,none⟩ (by simp;omega) (fun e=>absurd (Xbg HO4.out.2.2.2 _ e.symm) (by simp;omega))) (by simp(maxDischargeDepth:=8) [go_sem,k4_0,l4_0])))
   |(refine⟨?_, ?_, ?_, ?_, ?_⟩<;>(simp(maxDischargeDepth:=8) [go_sem,k4_0];done))
   |(refine⟨?_, ?_, ?_, ?_, ?_⟩<;>(simp(maxDischargeDepth:=8) [go_sem,HC.out.1,HC.out.2.1,HC.out.2.2.1,HC.out.2.2.2.1,HC.out.2.2.2.2];done))
   |go_keep)
  (first
   |(go_at_call 66;refine(Xcx _ _ _ ls _ ?_ (by omega)).mono ?_;(first|exact M3.out.drew|exact(M3.out.drew.alloc (Nat.le_refl _) _).more (by simp));rintro e w4 ⟨A4,c4,rfl,ho4,hb4⟩;have HO4:Hid (OwnL w3.heap.size w4 A4 2 c4 ls):=Zh (ho4.low (by simp));clear ho4;have hb4':=hb4;have hz4:=hb4.size;(try simp only[Zs]at hz4);obtain⟨k4_0,l4_0,q4_0⟩:=aft hb4 (w.heap.size) (by(try simp)<;>omega);simp(maxDischargeDepth:=6) [go_sem, *]at k4_0 q4_0;have HB4:=Zh hb4;clear hb4)
   |(revert HO4;intro HO4;refine step_append_lies _ (by rfl) (.tmp 33) (.tmp 35) 27 (by rfl) w3.heap.size 58 i0 (.agg #[.int .i64 0,.int .i64 0,.int .i64 0,.bool false,.bool false]) 5 32 Tryz.underlying27 HI.out HZ0.out HZ1.out HZ2.out (by rfl) (by decide) (.slice A4 2 c4) 2 (Xav ls) (by rfl) HO4.out.2.2.2 ⟨w3.heap.size,0,none⟩ 1 1 x.vals (by rfl) (by rfl) (Xeq (w:=w3.drew) x hb4') (Xby x) (by decide) (by unfold maxLen;omega) (by omega) (by omega) _ rfl ?_;intro g cap w5 hown5 hgrow hat hlt)
   |(revert HO4;intro HO4;refine step_append_lies _ (by rfl) (.tmp 33) (.tmp 35) 27 (by rfl) w3.heap.size 58 i0 (.agg #[.int .i64 0,.int .i64 0,.int .i64 0,.bool false,.bool false]) 5 32 Tryz.underlying27 HI.out HZ0.out HZ1.out HZ2.out (by rfl) (by decide) (.slice A4 2 c4) 2 (Xav ls) (by rfl) (HO4.out.alloc _).2.2.2 ⟨w4.heap.size,0,none⟩ 1 1 x.vals (by rfl) (by rfl) (Xd4 w4 x) (Xby x) (by decide) (by unfold maxLen;omega) (by omega) (by simp;omega) _ rfl ?_;intro g cap w5 hown5 hgrow hat hlt))
 all_goals
  have hbw:Below w3.heap.size w3 w5:=by
   first
    |exact Below.grown (Below.alloc (B:=w3.heap.size) (bl (by repeat' first|with_reducible(first|assumption|constructor)|((try simp)<;>omega))) (by omega) _) hgrow (by simp;omega) (Xbg HO4.out.2.2.2)
    |exact Below.grown (bl (by repeat' first|with_reducible(first|assumption|constructor)|((try simp)<;>omega))) hgrow (by omega) (Xbg HO4.out.2.2.2)
  have HBW:=Zh hbw
  have HO5:=Zh (Xde HLEN.out hown5)
  clear hgrow hat hlt hown5 hbw e1 e2 e3
  go_wp2
  go_ret2
  exact⟨some ⟨g,0,none⟩,cap,rfl,HO5.out.low (by omega),(bl (by repeat' first|with_reducible(first|assumption|constructor)|((try simp)<;>omega)):Below w.heap.size w w3).trans (HBW.out.mono (by omega))⟩
theorem Xm8 (b off c:Nat) (hc0:c≠0) (ls:List Line) (x:Line) (w:World) (hl:Lines w w.heap.size (some ⟨b,off,none⟩) 3 c ls) (h0:ckC ls=0) (h1:Xcc x=0) (h2:Xb7 ls x.dev x.page<0) :
  Calls Tryz.prog 94 #[.slice (some ⟨b,off,none⟩) 3 c,.agg #[.int .i64 x.dev,.int .i64 x.page,.int .i64 x.at_,.bool x.rd,.bool x.wr]] w (Xlk w (3+1) (ls ++ [x])):=by
 obtain⟨i0,hi,hz0,hz1,hz2⟩:=info_parts Tryz.infoLine
 have HI:=Zh hi;clear hi
 have HZ0:=Zh hz0;clear hz0
 have HZ1:=Zh hz1;clear hz1
 have HZ2:=Zh hz2;clear hz2
 have HL:=Zh hl
 have HL1:=Zh hl
 have HLEN:=Zh hl.len
 obtain⟨hc1,hc2⟩:=hl.cap
 have HE:=Zh (show IntKind.i64.wrap 4=4∧IntKind.i64.wrap (4 - 6) = -2∧IntKind.i64.wrap (-2) = -2 by decide)
 have c2:¬c=0:=hc0
 clear hc0
 have t0:(ckC ls != 0)=false:=by rw[bne_eq_false_iff_eq];exact h0
 have t1:(Xcc x != 0)=false:=by rw[bne_eq_false_iff_eq];exact h1
 have t2:decide (0≤Xb7 ls x.dev x.page)=false:=by simp;omega
 have HF:=Zh h2
 clear h0 h1 h2 hl
 go_enter Tryz.func94,Tryz.ntmps94
 go_wp2_with fail
 refine(Xba _ _ _ ls _ ((HL.out.alloc (Nat.le_refl _) _).more (by simp))).mono ?_
 rintro e w1 ⟨rfl,hb1⟩
 have hz1:=hb1.size
 (try simp only[Zs]at hz1)
 obtain⟨k1_0,l1_0,q1_0⟩:=aft hb1 (w.heap.size) (by(try simp)<;>omega)
 simp(maxDischargeDepth:=6) [go_sem, *]at k1_0 q1_0
 have HB1:=Zh hb1
 clear hb1
 go_wp2_with fail
 refine(Xba _ _ _ [x] _ ((Xc0 _ x).more (by simp))).mono ?_
 rw[Xd7]
 rintro e w2 ⟨rfl,hb2⟩
 have hz2:=hb2.size
 (try simp only[Zs]at hz2)
 obtain⟨k2_0,l2_0,q2_0⟩:=aft hb2 (w.heap.size) (by(try simp)<;>omega)
 simp(maxDischargeDepth:=6) [go_sem, *]at k2_0 q2_0
 have HB2:=Zh hb2
 clear hb2
 have L2:=Zh ((((HL.out.alloc (Nat.le_refl _) (.cells #[.int .i64 x.dev,.int .i64 x.page,.int .i64 x.at_,.bool x.rd,.bool x.wr] 58)).below (HB1.out.mono (by simp))).alloc (by omega) (.cells #[.int .i64 x.dev,.int .i64 x.page,.int .i64 x.at_,.bool x.rd,.bool x.wr] 58) |>.below (HB2.out.mono (by simp;omega))).more (B':=w2.heap.size) (by omega))
 have M2:=Zh ((((HL1.out.alloc (Nat.le_refl _) (.cells #[.int .i64 x.dev,.int .i64 x.page,.int .i64 x.at_,.bool x.rd,.bool x.wr] 58)).below (HB1.out.mono (by simp))).alloc (by omega) (.cells #[.int .i64 x.dev,.int .i64 x.page,.int .i64 x.at_,.bool x.rd,.bool x.wr] 58) |>.below (HB2.out.mono (by simp;omega))).more (B':=w2.heap.size) (by omega))
 go_wp2_with fail
 refine(Xcf _ _ _ ls _ _ _ L2.out).mono ?_
 rintro e w3 ⟨rfl,hb3⟩
 have hz3:=hb3.size
 (try simp only[Zs]at hz3)
 obtain⟨k3_0,l3_0,q3_0⟩:=aft hb3 (w.heap.size) (by(try simp)<;>omega)
 simp(maxDischargeDepth:=6) [go_sem, *]at k3_0 q3_0
 have HB3:=Zh hb3
 clear hb3
 have M3:=Zh ((M2.out.below HB3.out).more (B':=w3.heap.size) (by omega))
 have C0:w3.cell? ⟨w.heap.size,0,none⟩=some (.int .i64 x.dev):=by simp[k3_0]
 have C1:w3.cell? ⟨w.heap.size,1,none⟩=some (.int .i64 x.page):=by simp[k3_0]
 have C2:w3.cell? ⟨w.heap.size,2,none⟩=some (.int .i64 x.at_):=by simp[k3_0]
 have C3:w3.cell? ⟨w.heap.size,3,none⟩=some (.bool x.rd):=by simp[k3_0]
 have C4:w3.cell? ⟨w.heap.size,4,none⟩=some (.bool x.wr):=by simp[k3_0]
 have HC:=Zh (And.intro C0 (And.intro C1 (And.intro C2 (And.intro C3 C4))))
 clear C0 C1 C2 C3 C4
 go_wp2_with fail
 obtain⟨e1,e2,e3⟩:=HE.out
 go_region_held3 (fun W=>W.cell? ⟨w.heap.size,0,none⟩=some (.int .i64 x.dev)∧W.cell? ⟨w.heap.size,1,none⟩=some (.int .i64 x.page)∧W.cell? ⟨w.heap.size,2,none⟩=some (.int .i64 x.at_)∧W.cell? ⟨w.heap.size,3,none⟩=some (.bool x.rd)∧W.cell? ⟨w.heap.size,4,none⟩=some (.bool x.wr))
  (first
   |exact HC.out
   |(refine⟨?_, ?_, ?_, ?_, ?_⟩;(exact Eq.trans (hgrow.cell_far ⟨w.heap.size,0,none⟩ (by simp;omega) (fun e=>absurd (Xbg HO4.out.2.2.2 _ e.symm) (by simp;omega))) (by simp(maxDischargeDepth:=8) [go_sem,k4_0,l4_0]));(exact Eq.trans (hgrow.cell_far ⟨w.heap.size,1,none⟩ (by simp;omega) (fun e=>absurd (Xbg HO4.out.2.2.2 _ e.symm) (by simp;omega))) (by simp(maxDischargeDepth:=8) [go_sem,k4_0,l4_0]));(exact Eq.trans (hgrow.cell_far ⟨w.heap.size,2,none⟩ (by simp;omega) (fun e=>absurd (Xbg HO4.out.2.2.2 _ e.symm) (by simp;omega))) (by simp(maxDischargeDepth:=8) [go_sem,k4_0,l4_0]));(exact Eq.trans (hgrow.cell_far ⟨w.heap.size,3,none⟩ (by simp;omega) (fun e=>absurd (Xbg HO4.out.2.2.2 _ e.symm) (by simp;omega))) (by simp(maxDischargeDepth:=8) [go_sem,k4_0,l4_0]));(exact Eq.trans (hgrow.cell_far ⟨w.heap.size,4,none⟩ (by simp;omega) (fun e=>absurd (Xbg HO4.out.2.2.2 _ e.symm) (by simp;omega))) (by simp(maxDischargeDepth:=8) [go_sem,k4_0,l4_0])))
   |(refine⟨?_, ?_, ?_, ?_, ?_⟩<;>(simp(maxDischargeDepth:=8) [go_sem,k4_0];done))
   |(refine⟨?_, ?_, ?_, ?_, ?_⟩<;>(simp(maxDischargeDepth:=8) [go_sem,HC.out.1,HC.out.2.1,HC.out.2.2.1,HC.out.2.2.2.1,HC.out.2.2.2.2];done))
   |go_keep)
  (first
   |(go_at_call 66;refine(Xcx _ _ _ ls _ ?_ (by omega)).mono ?_;(first|exact M3.out.drew|exact(M3.out.drew.alloc (Nat.le_refl _) _).more (by simp));rintro e w4 ⟨A4,c4,rfl,ho4,hb4⟩;have HO4:Hid (OwnL w3.heap.size w4 A4 3 c4 ls):=Zh (ho4.low (by simp));clear ho4;have hb4':=hb4;have hz4:=hb4.size;(try simp only[Zs]at hz4);obtain⟨k4_0,l4_0,q4_0⟩:=aft hb4 (w.heap.size) (by(try simp)<;>omega);simp(maxDischargeDepth:=6) [go_sem, *]at k4_0 q4_0;have HB4:=Zh hb4;clear hb4)
   |(revert HO4;intro HO4;refine step_append_lies _ (by rfl) (.tmp 33) (.tmp 35) 27 (by rfl) w3.heap.size 58 i0 (.agg #[.int .i64 0,.int .i64 0,.int .i64 0,.bool false,.bool false]) 5 32 Tryz.underlying27 HI.out HZ0.out HZ1.out HZ2.out (by rfl) (by decide) (.slice A4 3 c4) 3 (Xav ls) (by rfl) HO4.out.2.2.2 ⟨w3.heap.size,0,none⟩ 1 1 x.vals (by rfl) (by rfl) (Xeq (w:=w3.drew) x hb4') (Xby x) (by decide) (by unfold maxLen;omega) (by omega) (by omega) _ rfl ?_;intro g cap w5 hown5 hgrow hat hlt)
   |(revert HO4;intro HO4;refine step_append_lies _ (by rfl) (.tmp 33) (.tmp 35) 27 (by rfl) w3.heap.size 58 i0 (.agg #[.int .i64 0,.int .i64 0,.int .i64 0,.bool false,.bool false]) 5 32 Tryz.underlying27 HI.out HZ0.out HZ1.out HZ2.out (by rfl) (by decide) (.slice A4 3 c4) 3 (Xav ls) (by rfl) (HO4.out.alloc _).2.2.2 ⟨w4.heap.size,0,none⟩ 1 1 x.vals (by rfl) (by rfl) (Xd4 w4 x) (Xby x) (by decide) (by unfold maxLen;omega) (by omega) (by simp;omega) _ rfl ?_;intro g cap w5 hown5 hgrow hat hlt))
 all_goals
  have hbw:Below w3.heap.size w3 w5:=by
   first
    |exact Below.grown (Below.alloc (B:=w3.heap.size) (bl (by repeat' first|with_reducible(first|assumption|constructor)|((try simp)<;>omega))) (by omega) _) hgrow (by simp;omega) (Xbg HO4.out.2.2.2)
    |exact Below.grown (bl (by repeat' first|with_reducible(first|assumption|constructor)|((try simp)<;>omega))) hgrow (by omega) (Xbg HO4.out.2.2.2)
  have HBW:=Zh hbw
  have HO5:=Zh (Xde HLEN.out hown5)
  clear hgrow hat hlt hown5 hbw e1 e2 e3
  go_wp2
  go_ret2
  exact⟨some ⟨g,0,none⟩,cap,rfl,HO5.out.low (by omega),(bl (by repeat' first|with_reducible(first|assumption|constructor)|((try simp)<;>omega)):Below w.heap.size w w3).trans (HBW.out.mono (by omega))⟩
theorem Xm7 (b off c:Nat) (hc0:c≠0) (ls:List Line) (x:Line) (w:World) (hl:Lines w w.heap.size (some ⟨b,off,none⟩) 4 c ls) (h0:ckC ls=0) (h1:Xcc x=0) (h2:Xb7 ls x.dev x.page<0) :
  Calls Tryz.prog 94 #[.slice (some ⟨b,off,none⟩) 4 c,.agg #[.int .i64 x.dev,.int .i64 x.page,.int .i64 x.at_,.bool x.rd,.bool x.wr]] w (Xlk w (4+1) (ls ++ [x])):=by
 obtain⟨i0,hi,hz0,hz1,hz2⟩:=info_parts Tryz.infoLine
 have HI:=Zh hi;clear hi
 have HZ0:=Zh hz0;clear hz0
 have HZ1:=Zh hz1;clear hz1
 have HZ2:=Zh hz2;clear hz2
 have HL:=Zh hl
 have HL1:=Zh hl
 have HLEN:=Zh hl.len
 obtain⟨hc1,hc2⟩:=hl.cap
 have HE:=Zh (show IntKind.i64.wrap 5=5∧IntKind.i64.wrap (5 - 6) = -1∧IntKind.i64.wrap (-1) = -1 by decide)
 have c2:¬c=0:=hc0
 clear hc0
 have t0:(ckC ls != 0)=false:=by rw[bne_eq_false_iff_eq];exact h0
 have t1:(Xcc x != 0)=false:=by rw[bne_eq_false_iff_eq];exact h1
 have t2:decide (0≤Xb7 ls x.dev x.page)=false:=by simp;omega
 have HF:=Zh h2
 clear h0 h1 h2 hl
 go_enter Tryz.func94,Tryz.ntmps94
 go_wp2_with fail
 refine(Xba _ _ _ ls _ ((HL.out.alloc (Nat.le_refl _) _).more (by simp))).mono ?_
 rintro e w1 ⟨rfl,hb1⟩
 have hz1:=hb1.size
 (try simp only[Zs]at hz1)
 obtain⟨k1_0,l1_0,q1_0⟩:=aft hb1 (w.heap.size) (by(try simp)<;>omega)
 simp(maxDischargeDepth:=6) [go_sem, *]at k1_0 q1_0
 have HB1:=Zh hb1
 clear hb1
 go_wp2_with fail
 refine(Xba _ _ _ [x] _ ((Xc0 _ x).more (by simp))).mono ?_
 rw[Xd7]
 rintro e w2 ⟨rfl,hb2⟩
 have hz2:=hb2.size
 (try simp only[Zs]at hz2)
 obtain⟨k2_0,l2_0,q2_0⟩:=aft hb2 (w.heap.size) (by(try simp)<;>omega)
 simp(maxDischargeDepth:=6) [go_sem, *]at k2_0 q2_0
 have HB2:=Zh hb2
 clear hb2
 have L2:=Zh ((((HL.out.alloc (Nat.le_refl _) (.cells #[.int .i64 x.dev,.int .i64 x.page,.int .i64 x.at_,.bool x.rd,.bool x.wr] 58)).below (HB1.out.mono (by simp))).alloc (by omega) (.cells #[.int .i64 x.dev,.int .i64 x.page,.int .i64 x.at_,.bool x.rd,.bool x.wr] 58) |>.below (HB2.out.mono (by simp;omega))).more (B':=w2.heap.size) (by omega))
 have M2:=Zh ((((HL1.out.alloc (Nat.le_refl _) (.cells #[.int .i64 x.dev,.int .i64 x.page,.int .i64 x.at_,.bool x.rd,.bool x.wr] 58)).below (HB1.out.mono (by simp))).alloc (by omega) (.cells #[.int .i64 x.dev,.int .i64 x.page,.int .i64 x.at_,.bool x.rd,.bool x.wr] 58) |>.below (HB2.out.mono (by simp;omega))).more (B':=w2.heap.size) (by omega))
 go_wp2_with fail
 refine(Xcf _ _ _ ls _ _ _ L2.out).mono ?_
 rintro e w3 ⟨rfl,hb3⟩
 have hz3:=hb3.size
 (try simp only[Zs]at hz3)
 obtain⟨k3_0,l3_0,q3_0⟩:=aft hb3 (w.heap.size) (by(try simp)<;>omega)
 simp(maxDischargeDepth:=6) [go_sem, *]at k3_0 q3_0
 have HB3:=Zh hb3
 clear hb3
 have M3:=Zh ((M2.out.below HB3.out).more (B':=w3.heap.size) (by omega))
 have C0:w3.cell? ⟨w.heap.size,0,none⟩=some (.int .i64 x.dev):=by simp[k3_0]
 have C1:w3.cell? ⟨w.heap.size,1,none⟩=some (.int .i64 x.page):=by simp[k3_0]
 have C2:w3.cell? ⟨w.heap.size,2,none⟩=some (.int .i64 x.at_):=by simp[k3_0]
 have C3:w3.cell? ⟨w.heap.size,3,none⟩=some (.bool x.rd):=by simp[k3_0]
 have C4:w3.cell? ⟨w.heap.size,4,none⟩=some (.bool x.wr):=by simp[k3_0]
 have HC:=Zh (And.intro C0 (And.intro C1 (And.intro C2 (And.intro C3 C4))))
 clear C0 C1 C2 C3 C4
 go_wp2_with fail
 obtain⟨e1,e2,e3⟩:=HE.out
 go_region_held3 (fun W=>W.cell? ⟨w.heap.size,0,none⟩=some (.int .i64 x.dev)∧W.cell? ⟨w.heap.size,1,none⟩=some (.int .i64 x.page)∧W.cell? ⟨w.heap.size,2,none⟩=some (.int .i64 x.at_)∧W.cell? ⟨w.heap.size,3,none⟩=some (.bool x.rd)∧W.cell? ⟨w.heap.size,4,none⟩=some (.bool x.wr))
  (first
   |exact HC.out
   |(refine⟨?_, ?_, ?_, ?_, ?_⟩;(exact Eq.trans (hgrow.cell_far ⟨w.heap.size,0,none⟩ (by simp;omega) (fun e=>absurd (Xbg HO4.out.2.2.2 _ e.symm) (by simp;omega))) (by simp(maxDischargeDepth:=8) [go_sem,k4_0,l4_0]));(exact Eq.trans (hgrow.cell_far ⟨w.heap.size,1,none⟩ (by simp;omega) (fun e=>absurd (Xbg HO4.out.2.2.2 _ e.symm) (by simp;omega))) (by simp(maxDischargeDepth:=8) [go_sem,k4_0,l4_0]));(exact Eq.trans (hgrow.cell_far ⟨w.heap.size,2,none⟩ (by simp;omega) (fun e=>absurd (Xbg HO4.out.2.2.2 _ e.symm) (by simp;omega))) (by simp(maxDischargeDepth:=8) [go_sem,k4_0,l4_0]));(exact Eq.trans (hgrow.cell_far ⟨w.heap.size,3,none⟩ (by simp;omega) (fun e=>absurd (Xbg HO4.out.2.2.2 _ e.symm) (by simp;omega))) (by simp(maxDischargeDepth:=8) [go_sem,k4_0,l4_0]));(exact Eq.trans (hgrow.cell_far ⟨w.heap.size,4,none⟩ (by simp;omega) (fun e=>absurd (Xbg HO4.out.2.2.2 _ e.symm) (by simp;omega))) (by simp(maxDischargeDepth:=8) [go_sem,k4_0,l4_0])))
   |(refine⟨?_, ?_, ?_, ?_, ?_⟩<;>(simp(maxDischargeDepth:=8) [go_sem,k4_0];done))
   |(refine⟨?_, ?_, ?_, ?_, ?_⟩<;>(simp(maxDischargeDepth:=8) [go_sem,HC.out.1,HC.out.2.1,HC.out.2.2.1,HC.out.2.2.2.1,HC.out.2.2.2.2];done))
   |go_keep)
  (first
   |(go_at_call 66;refine(Xcx _ _ _ ls _ ?_ (by omega)).mono ?_;(first|exact M3.out.drew|exact(M3.out.drew.alloc (Nat.le_refl _) _).more (by simp));rintro e w4 ⟨A4,c4,rfl,ho4,hb4⟩;have HO4:Hid (OwnL w3.heap.size w4 A4 4 c4 ls):=Zh (ho4.low (by simp));clear ho4;have hb4':=hb4;have hz4:=hb4.size;(try simp only[Zs]at hz4);obtain⟨k4_0,l4_0,q4_0⟩:=aft hb4 (w.heap.size) (by(try simp)<;>omega);simp(maxDischargeDepth:=6) [go_sem, *]at k4_0 q4_0;have HB4:=Zh hb4;clear hb4)
   |(revert HO4;intro HO4;refine step_append_lies _ (by rfl) (.tmp 33) (.tmp 35) 27 (by rfl) w3.heap.size 58 i0 (.agg #[.int .i64 0,.int .i64 0,.int .i64 0,.bool false,.bool false]) 5 32 Tryz.underlying27 HI.out HZ0.out HZ1.out HZ2.out (by rfl) (by decide) (.slice A4 4 c4) 4 (Xav ls) (by rfl) HO4.out.2.2.2 ⟨w3.heap.size,0,none⟩ 1 1 x.vals (by rfl) (by rfl) (Xeq (w:=w3.drew) x hb4') (Xby x) (by decide) (by unfold maxLen;omega) (by omega) (by omega) _ rfl ?_;intro g cap w5 hown5 hgrow hat hlt)
   |(revert HO4;intro HO4;refine step_append_lies _ (by rfl) (.tmp 33) (.tmp 35) 27 (by rfl) w3.heap.size 58 i0 (.agg #[.int .i64 0,.int .i64 0,.int .i64 0,.bool false,.bool false]) 5 32 Tryz.underlying27 HI.out HZ0.out HZ1.out HZ2.out (by rfl) (by decide) (.slice A4 4 c4) 4 (Xav ls) (by rfl) (HO4.out.alloc _).2.2.2 ⟨w4.heap.size,0,none⟩ 1 1 x.vals (by rfl) (by rfl) (Xd4 w4 x) (Xby x) (by decide) (by unfold maxLen;omega) (by omega) (by simp;omega) _ rfl ?_;intro g cap w5 hown5 hgrow hat hlt))
 all_goals
  have hbw:Below w3.heap.size w3 w5:=by
   first
    |exact Below.grown (Below.alloc (B:=w3.heap.size) (bl (by repeat' first|with_reducible(first|assumption|constructor)|((try simp)<;>omega))) (by omega) _) hgrow (by simp;omega) (Xbg HO4.out.2.2.2)
    |exact Below.grown (bl (by repeat' first|with_reducible(first|assumption|constructor)|((try simp)<;>omega))) hgrow (by omega) (Xbg HO4.out.2.2.2)
  have HBW:=Zh hbw
  have HO5:=Zh (Xde HLEN.out hown5)
  clear hgrow hat hlt hown5 hbw e1 e2 e3
  go_wp2
  go_ret2
  exact⟨some ⟨g,0,none⟩,cap,rfl,HO5.out.low (by omega),(bl (by repeat' first|with_reducible(first|assumption|constructor)|((try simp)<;>omega)):Below w.heap.size w w3).trans (HBW.out.mono (by omega))⟩
theorem Xm6 (b off c:Nat) (hc0:c≠0) (ls:List Line) (x:Line) (w:World) (hl:Lines w w.heap.size (some ⟨b,off,none⟩) 5 c ls) (h0:ckC ls=0) (h1:Xcc x=0) (h2:Xb7 ls x.dev x.page<0) :
  Calls Tryz.prog 94 #[.slice (some ⟨b,off,none⟩) 5 c,.agg #[.int .i64 x.dev,.int .i64 x.page,.int .i64 x.at_,.bool x.rd,.bool x.wr]] w (Xlk w (5+1) (ls ++ [x])):=by
 obtain⟨i0,hi,hz0,hz1,hz2⟩:=info_parts Tryz.infoLine
 have HI:=Zh hi;clear hi
 have HZ0:=Zh hz0;clear hz0
 have HZ1:=Zh hz1;clear hz1
 have HZ2:=Zh hz2;clear hz2
 have HL:=Zh hl
 have HL1:=Zh hl
 have HLEN:=Zh hl.len
 obtain⟨hc1,hc2⟩:=hl.cap
 have HE:=Zh (show IntKind.i64.wrap 6=6∧IntKind.i64.wrap (6 - 6)=0∧IntKind.i64.wrap (0)=0 by decide)
 have c2:¬c=0:=hc0
 clear hc0
 have t0:(ckC ls != 0)=false:=by rw[bne_eq_false_iff_eq];exact h0
 have t1:(Xcc x != 0)=false:=by rw[bne_eq_false_iff_eq];exact h1
 have t2:decide (0≤Xb7 ls x.dev x.page)=false:=by simp;omega
 have HF:=Zh h2
 clear h0 h1 h2 hl
 go_enter Tryz.func94,Tryz.ntmps94
 go_wp2_with fail
 refine(Xba _ _ _ ls _ ((HL.out.alloc (Nat.le_refl _) _).more (by simp))).mono ?_
 rintro e w1 ⟨rfl,hb1⟩
 have hz1:=hb1.size
 (try simp only[Zs]at hz1)
 obtain⟨k1_0,l1_0,q1_0⟩:=aft hb1 (w.heap.size) (by(try simp)<;>omega)
 simp(maxDischargeDepth:=6) [go_sem, *]at k1_0 q1_0
 have HB1:=Zh hb1
 clear hb1
 go_wp2_with fail
 refine(Xba _ _ _ [x] _ ((Xc0 _ x).more (by simp))).mono ?_
 rw[Xd7]
 rintro e w2 ⟨rfl,hb2⟩
 have hz2:=hb2.size
 (try simp only[Zs]at hz2)
 obtain⟨k2_0,l2_0,q2_0⟩:=aft hb2 (w.heap.size) (by(try simp)<;>omega)
 simp(maxDischargeDepth:=6) [go_sem, *]at k2_0 q2_0
 have HB2:=Zh hb2
 clear hb2
 have L2:=Zh ((((HL.out.alloc (Nat.le_refl _) (.cells #[.int .i64 x.dev,.int .i64 x.page,.int .i64 x.at_,.bool x.rd,.bool x.wr] 58)).below (HB1.out.mono (by simp))).alloc (by omega) (.cells #[.int .i64 x.dev,.int .i64 x.page,.int .i64 x.at_,.bool x.rd,.bool x.wr] 58) |>.below (HB2.out.mono (by simp;omega))).more (B':=w2.heap.size) (by omega))
 have M2:=Zh ((((HL1.out.alloc (Nat.le_refl _) (.cells #[.int .i64 x.dev,.int .i64 x.page,.int .i64 x.at_,.bool x.rd,.bool x.wr] 58)).below (HB1.out.mono (by simp))).alloc (by omega) (.cells #[.int .i64 x.dev,.int .i64 x.page,.int .i64 x.at_,.bool x.rd,.bool x.wr] 58) |>.below (HB2.out.mono (by simp;omega))).more (B':=w2.heap.size) (by omega))
 go_wp2_with fail
 refine(Xcf _ _ _ ls _ _ _ L2.out).mono ?_
 rintro e w3 ⟨rfl,hb3⟩
 have hz3:=hb3.size
 (try simp only[Zs]at hz3)
 obtain⟨k3_0,l3_0,q3_0⟩:=aft hb3 (w.heap.size) (by(try simp)<;>omega)
 simp(maxDischargeDepth:=6) [go_sem, *]at k3_0 q3_0
 have HB3:=Zh hb3
 clear hb3
 have M3:=Zh ((M2.out.below HB3.out).more (B':=w3.heap.size) (by omega))
 have C0:w3.cell? ⟨w.heap.size,0,none⟩=some (.int .i64 x.dev):=by simp[k3_0]
 have C1:w3.cell? ⟨w.heap.size,1,none⟩=some (.int .i64 x.page):=by simp[k3_0]
 have C2:w3.cell? ⟨w.heap.size,2,none⟩=some (.int .i64 x.at_):=by simp[k3_0]
 have C3:w3.cell? ⟨w.heap.size,3,none⟩=some (.bool x.rd):=by simp[k3_0]
 have C4:w3.cell? ⟨w.heap.size,4,none⟩=some (.bool x.wr):=by simp[k3_0]
 have HC:=Zh (And.intro C0 (And.intro C1 (And.intro C2 (And.intro C3 C4))))
 clear C0 C1 C2 C3 C4
 go_wp2_with fail
 obtain⟨e1,e2,e3⟩:=HE.out
 go_region_held3 (fun W=>W.cell? ⟨w.heap.size,0,none⟩=some (.int .i64 x.dev)∧W.cell? ⟨w.heap.size,1,none⟩=some (.int .i64 x.page)∧W.cell? ⟨w.heap.size,2,none⟩=some (.int .i64 x.at_)∧W.cell? ⟨w.heap.size,3,none⟩=some (.bool x.rd)∧W.cell? ⟨w.heap.size,4,none⟩=some (.bool x.wr))
  (first
   |exact HC.out
   |(refine⟨?_, ?_, ?_, ?_, ?_⟩;(exact Eq.trans (hgrow.cell_far ⟨w.heap.size,0,none⟩ (by simp;omega) (fun e=>absurd (Xbg HO4.out.2.2.2 _ e.symm) (by simp;omega))) (by simp(maxDischargeDepth:=8) [go_sem,k4_0,l4_0]));(exact Eq.trans (hgrow.cell_far ⟨w.heap.size,1,none⟩ (by simp;omega) (fun e=>absurd (Xbg HO4.out.2.2.2 _ e.symm) (by simp;omega))) (by simp(maxDischargeDepth:=8) [go_sem,k4_0,l4_0]));(exact Eq.trans (hgrow.cell_far ⟨w.heap.size,2,none⟩ (by simp;omega) (fun e=>absurd (Xbg HO4.out.2.2.2 _ e.symm) (by simp;omega))) (by simp(maxDischargeDepth:=8) [go_sem,k4_0,l4_0]));(exact Eq.trans (hgrow.cell_far ⟨w.heap.size,3,none⟩ (by simp;omega) (fun e=>absurd (Xbg HO4.out.2.2.2 _ e.symm) (by simp;omega))) (by simp(maxDischargeDepth:=8) [go_sem,k4_0,l4_0]));(exact Eq.trans (hgrow.cell_far ⟨w.heap.size,4,none⟩ (by simp;omega) (fun e=>absurd (Xbg HO4.out.2.2.2 _ e.symm) (by simp;omega))) (by simp(maxDischargeDepth:=8) [go_sem,k4_0,l4_0])))
   |(refine⟨?_, ?_, ?_, ?_, ?_⟩<;>(simp(maxDischargeDepth:=8) [go_sem,k4_0];done))
   |(refine⟨?_, ?_, ?_, ?_, ?_⟩<;>(simp(maxDischargeDepth:=8) [go_sem,HC.out.1,HC.out.2.1,HC.out.2.2.1,HC.out.2.2.2.1,HC.out.2.2.2.2];done))
   |go_keep)
  (first
   |(go_at_call 66;refine(Xcx _ _ _ ls _ ?_ (by omega)).mono ?_;(first|exact M3.out.drew|exact(M3.out.drew.alloc (Nat.le_refl _) _).more (by simp));rintro e w4 ⟨A4,c4,rfl,ho4,hb4⟩;have HO4:Hid (OwnL w3.heap.size w4 A4 5 c4 ls):=Zh (ho4.low (by simp));clear ho4;have hb4':=hb4;have hz4:=hb4.size;(try simp only[Zs]at hz4);obtain⟨k4_0,l4_0,q4_0⟩:=aft hb4 (w.heap.size) (by(try simp)<;>omega);simp(maxDischargeDepth:=6) [go_sem, *]at k4_0 q4_0;have HB4:=Zh hb4;clear hb4)
   |(revert HO4;intro HO4;refine step_append_lies _ (by rfl) (.tmp 33) (.tmp 35) 27 (by rfl) w3.heap.size 58 i0 (.agg #[.int .i64 0,.int .i64 0,.int .i64 0,.bool false,.bool false]) 5 32 Tryz.underlying27 HI.out HZ0.out HZ1.out HZ2.out (by rfl) (by decide) (.slice A4 5 c4) 5 (Xav ls) (by rfl) HO4.out.2.2.2 ⟨w3.heap.size,0,none⟩ 1 1 x.vals (by rfl) (by rfl) (Xeq (w:=w3.drew) x hb4') (Xby x) (by decide) (by unfold maxLen;omega) (by omega) (by omega) _ rfl ?_;intro g cap w5 hown5 hgrow hat hlt)
   |(revert HO4;intro HO4;refine step_append_lies _ (by rfl) (.tmp 33) (.tmp 35) 27 (by rfl) w3.heap.size 58 i0 (.agg #[.int .i64 0,.int .i64 0,.int .i64 0,.bool false,.bool false]) 5 32 Tryz.underlying27 HI.out HZ0.out HZ1.out HZ2.out (by rfl) (by decide) (.slice A4 5 c4) 5 (Xav ls) (by rfl) (HO4.out.alloc _).2.2.2 ⟨w4.heap.size,0,none⟩ 1 1 x.vals (by rfl) (by rfl) (Xd4 w4 x) (Xby x) (by decide) (by unfold maxLen;omega) (by omega) (by simp;omega) _ rfl ?_;intro g cap w5 hown5 hgrow hat hlt))
 all_goals
  have hbw:Below w3.heap.size w3 w5:=by
   first
    |exact Below.grown (Below.alloc (B:=w3.heap.size) (bl (by repeat' first|with_reducible(first|assumption|constructor)|((try simp)<;>omega))) (by omega) _) hgrow (by simp;omega) (Xbg HO4.out.2.2.2)
    |exact Below.grown (bl (by repeat' first|with_reducible(first|assumption|constructor)|((try simp)<;>omega))) hgrow (by omega) (Xbg HO4.out.2.2.2)
  have HBW:=Zh hbw
  have HO5:=Zh (Xde HLEN.out hown5)
  clear hgrow hat hlt hown5 hbw e1 e2 e3
  go_wp2
  go_ret2
  exact⟨some ⟨g,0,none⟩,cap,rfl,HO5.out.low (by omega),(bl (by repeat' first|with_reducible(first|assumption|constructor)|((try simp)<;>omega)):Below w.heap.size w w3).trans (HBW.out.mono (by omega))⟩
theorem Xqz (A:Option Addr) (n c:Nat) (ls:List Line) (x:Line) (w:World) (hl:Lines w w.heap.size A n c ls) (hE:Xfk ls x=0) :
  Calls Tryz.prog 94 #[.slice A n c,.agg #[.int .i64 x.dev,.int .i64 x.page,.int .i64 x.at_,.bool x.rd,.bool x.wr]] w fun e w'=>∃ A' c',e=.returned (.tuple #[.slice A' (Xfc ls x).length c',.int .i64 0])∧OwnL w.heap.size w' A' (Xfc ls x).length c' (Xfc ls x)∧Below w.heap.size w w':=by
 obtain⟨h0,h1,h2⟩:=Xjk hE
 have hlen:=hl.len
 have h6:n≤6:=by have:=((Xcm ls).1 h0).1;omega
 rw[Xn8 hE]
 by_cases hn:n=6
 ·subst hn
  obtain⟨b,off,rfl,_,_⟩:=hl.at_ (by decide)
  have e:ls.length+1 - 6=1:=by omega
  rw[e,show(ls.drop 1 ++ [x]).length=6 by simp;omega]
  exact Xm5 b off c ls x w hl h0 h1 h2
 ·have e:ls.length+1 - 6=0:=by omega
  rw[e,List.drop_zero,show(ls ++ [x]).length=n+1 by simp;omega]
  by_cases hc:c=0
  ·subst hc
   have hn0:n=0:=by have:=hl.cap.1;omega
   subst hn0
   cases A with
   |none=>exact Xm3 ls x w hl h0 h1 h2
   |some ad=>exact Xm2 ad ls x w hl h0 h1 h2
  ·cases A with
   |none=>exact absurd (hl.2.2.2.1 rfl) hc
   |some ad=>
    rcases Nat.eq_zero_or_pos n with h|h
    ·subst h
     have hz:ls=[]:=List.length_eq_zero_iff.1 hlen
     subst hz
     exact Xm4 ad c hc [] x w hl h0 h1 h2
    ·obtain⟨b,off,e,_,_⟩:=hl.at_ h
     simp only[Option.some.injEq]at e
     subst e
     rcases(show n=1∨n=2∨n=3∨n=4∨n=5 by omega)with rfl|rfl|rfl|rfl|rfl
     ·exact Xna b off c hc ls x w hl h0 h1 h2
     ·exact Xm9 b off c hc ls x w hl h0 h1 h2
     ·exact Xm8 b off c hc ls x w hl h0 h1 h2
     ·exact Xm7 b off c hc ls x w hl h0 h1 h2
     ·exact Xm6 b off c hc ls x w hl h0 h1 h2
end
end
end Go.Proofs.YtbopdijnojaaiadGreat
