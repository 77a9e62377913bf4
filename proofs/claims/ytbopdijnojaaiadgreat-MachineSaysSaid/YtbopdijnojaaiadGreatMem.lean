/- Memory: the walks of Write, New, and of the document's CheckMem and Put. No statement of the seat is proved here. -/
import Derived.Test.YtbopdijnojaaiadGreatSlices
import Derived.Test.YtbopdijnojaaiadGreatBase
namespace Go.Proofs.YtbopdijnojaaiadGreat
set_option maxRecDepth 100000
set_option maxHeartbeats 1000000
open Go.RowKit
set_option linter.unusedSimpArgs false
set_option linter.unusedVariables false
section
theorem Xb4 (A:Option Addr) (n c:Nat) (xs:List Int) (w:World) (h:Ints w w.heap.size A n xs) :
  Calls Tryz.prog 23 #[.agg #[.slice A n c]] w fun e w'=>e=.returned (.int .i64 (cm xs))∧Below w.heap.size w w':=by
 have hl:=h.len
 have HL:=Zh hl
 have HB:=Zh (Xag w)
 by_cases h512:n=512
 ·subst h512
  obtain⟨b,off,rfl,hb,hc⟩:=h.at_ (by omega)
  have HC:=Zh hc
  clear hl hc h
  go_enter Tryz.func23,Tryz.ntmps23
  go_wp2
  go_loop [12,4] (fun i _=>∃ k:Nat,k≤512∧i=.int .i64 k∧(xs.take k).all Xch=true) (fun i _=>512 - (intOf i).toNat)
  case atStart=>exact⟨0,by omega,rfl,by simp⟩
  case round=>
   obtain⟨k,hk,rfl,hall⟩:=hrel
   have HA:=Zh hall;clear hall
   by_cases hlt:k<512
   ·obtain⟨x,hx⟩:=Xa2 xs (k:=k) (by rw[HL.out];exact hlt)
    have hcc:=HC.out k x hx
    have HX:=Zh hx;clear hx
    go_wp2
    all_goals first
     |(go_ret;exact⟨Xbv (Xw4 HL.out HX.out (by simp[Xch];omega)).symm,HB.out _⟩)
     |skip
    go_round
    case rel=>exact⟨k+1,by omega,by go_num,Xdt HX.out HA.out (by simp[Xch];omega)⟩
    case measure=>simp[intOf];omega
   ·go_wp2
    obtain rfl:k=512:=by omega
    go_ret
    exact⟨Xbv (cm_ok HL.out HA.out).symm,HB.out _⟩
 ·have h6:((n:Int) != 512)=true:=by simp;omega
  have H5:=Zh h512
  clear hl h512 h
  go_enter Tryz.func23,Tryz.ntmps23
  go_wp2
  go_ret
  exact⟨Xbv (Xw3 (by rw[HL.out];exact H5.out)).symm,HB.out _⟩
def CopyI (w:World) (n:Nat) (xs:List Int) (e:Ending) (w':World):Prop:=∃ A c,e=.returned (.agg #[.slice A n c])∧OwnI w.heap.size w' A n c xs∧Below w.heap.size w w'
theorem Xgl (A:Option Addr) (n c:Nat) (xs:List Int) (w:World) (hx:Ints w w.heap.size A n xs) (h0:0<n) (hn:n≤1000) :
  Calls Tryz.prog 40 #[.agg #[.slice A n c]] w (CopyI w n xs):=by
 have HX:=Zh hx;clear hx
 go_enter Tryz.func40,Tryz.ntmps40
 go_wp2_with fail
 refine(Xhf A n c xs _ ((HX.out.alloc (Nat.le_refl _) _ |>.alloc (by simp) _).more (by simp;omega)) h0 hn).mono ?_
 rintro e w1 ⟨A1,c1,rfl,ho,hb1⟩
 have hz1:=hb1.size
 (try simp only[Zs]at hz1)
 obtain⟨k1_0,l1_0,q1_0⟩:=aft hb1 (w.heap.size+1) (by(try simp)<;>omega)
 simp(maxDischargeDepth:=6) [go_sem, *]at k1_0 q1_0
 have HB1:=Zh hb1
 clear hb1
 have HO:=Zh ho;clear ho
 go_wp2
 refine bodyPost_ret (v:=.agg #[.slice A1 n c1]) ?_ rfl ⟨_,_,rfl,(HO.out.set (by simp) _).low (by simp;omega), ?_⟩
 ·simp(maxDischargeDepth:=8) [results,Tryz.results40,go_sem, *]
 ·(refine bl ?_;repeat' first|with_reducible(first|assumption|constructor)|((try simp)<;>omega))
end
section
theorem Xzq (A B:Option Addr) (n m c d:Nat) (xs ys:List Int) (w:World) (hx:Ints w w.heap.size A n xs) (hy:Ints w w.heap.size B m ys) :
  Calls Tryz.prog 26 #[.agg #[.slice A n c],.agg #[.slice B m d]] w fun e w'=>e=.returned (.bool (eqI xs ys))∧Below w.heap.size w w':=by
 have HX:=Zh hx;clear hx
 have HY:=Zh hy;clear hy
 go_enter Tryz.func26,Tryz.ntmps26
 go_wp2_with fail
 refine(Xgg _ _ _ _ _ _ xs ys _ (((HX.out.alloc (Nat.le_refl _) _).alloc (by simp) _).more (by simp;omega)) (((HY.out.alloc (Nat.le_refl _) _).alloc (by simp) _).more (by simp;omega))).mono ?_
 rintro e w1 ⟨rfl,hb1⟩
 have hz1:=hb1.size
 (try simp only[Zs]at hz1)
 have HB1:=Zh hb1
 clear hb1
 go_wp2
 go_ret
 exact⟨rfl,bl (by repeat' first|with_reducible(first|assumption|constructor)|((try simp)<;>omega))⟩
end
section
theorem Xb3 {B:Nat} {w:World} {A:Option Addr} {n c:Nat} {xs:List Int} (h:OwnI B w A n c xs) (h0:0<n) :
  ∃ g,A=some ⟨g,0,none⟩∧B≤g∧g<w.heap.size∧(∀(k:Nat) (x:Int),xs[k]?=some x→w.cell? ⟨g,k,none⟩=some (.int .i64 x))∧(∀ o,w.frozen? ⟨g,o,none⟩=false) ∧
   ∀(k:Nat) (x:Int),k<n→OwnI B (w.setCell ⟨g,k,none⟩ (.int .i64 x)) A n c (xs.set k x):=by
 obtain⟨hl,h1,h2⟩:=h
 rcases h2 with⟨_,h2⟩|⟨g,cap,cur,hv,hg,hh,hnc,hcm,hsz,hcur⟩
 ·omega
 ·injection hv with e1 e2 e3
  subst e1
  have hlt:g<w.heap.size:=by
   rcases Nat.lt_or_ge g w.heap.size with hlt|hge
   ·exact hlt
   ·rw[Array.getElem?_eq_none hge]at hh;cases hh
  refine⟨g,rfl,hg,hlt,fun k x hx=>?_,fun o=>?_,fun k x hk=>⟨by simp[hl],by simp[hl],Or.inr ⟨g,cap,cur.setIfInBounds k (.int .i64 x),by rw[e3],hg, ?_,hnc,hcm,by simp[hsz], ?_⟩⟩⟩
  ·have hk:k<xs.length:=(List.getElem?_eq_some_iff.1 hx).1
   have:(xs.map (Value.int .i64))[k]?=some (.int .i64 x):=by simp[hx]
   rw[←hcur,List.getElem?_take]at this
   simp only[World.cell?,hh]
   have hk2:k<n * 1:=by omega
   rw[if_pos hk2]at this
   simpa using this
  ·simp[World.frozen?,hh]
  ·simp[World.setCell,Array.getElem?_modify,hh]
  ·rw[Array.toList_setIfInBounds,List.take_set,hcur,List.map_set]
theorem Xe7 (A:Option Addr) (n c:Nat) (xs:List Int) (w:World) (h:Ints w w.heap.size A n xs) :
  Calls Tryz.prog 17 #[.agg #[.slice A n c]] w fun e w'=>e=.returned (.int .i64 (cm xs))∧Below w.heap.size w w':=by
 have hl:=h.len
 have HL:=Zh hl
 have HB:=Zh (Xag w)
 by_cases h512:n=512
 ·subst h512
  obtain⟨b,off,rfl,hb,hc⟩:=h.at_ (by omega)
  have HC:=Zh hc
  clear hl hc h
  go_enter Tryz.func17,Tryz.ntmps17
  go_wp2
  go_loop [12,4] (fun i _=>∃ k:Nat,k≤512∧i=.int .i64 k∧(xs.take k).all Xch=true) (fun i _=>512 - (intOf i).toNat)
  case atStart=>exact⟨0,by omega,rfl,by simp⟩
  case round=>
   obtain⟨k,hk,rfl,hall⟩:=hrel
   have HA:=Zh hall;clear hall
   by_cases hlt:k<512
   ·obtain⟨x,hx⟩:=Xa2 xs (k:=k) (by rw[HL.out];exact hlt)
    have hcc:=HC.out k x hx
    have HX:=Zh hx;clear hx
    cases hin:inB x 0 65535
    ·have HIN:=Zh (show Xch x=false from hin)
     go_wp2_with (go_at_call 38;refine(Xbc _ _ _ _).mono ?_;rintro e w' ⟨rfl,rfl⟩)
     go_ret
     exact⟨Xbv (Xw4 HL.out HX.out HIN.out).symm,HB.out _⟩
    ·have HIN:=Zh (show Xch x=true from hin)
     go_wp2_with (go_at_call 38;refine(Xbc _ _ _ _).mono ?_;rintro e w' ⟨rfl,rfl⟩)
     go_round
     case rel=>exact⟨k+1,by omega,by go_num,Xdt HX.out HA.out HIN.out⟩
     case measure=>simp[intOf];omega
   ·go_wp2
    obtain rfl:k=512:=by omega
    go_ret
    exact⟨Xbv (cm_ok HL.out HA.out).symm,HB.out _⟩
 ·have h6:((n:Int) != 512)=true:=by simp;omega
  have H5:=Zh h512
  clear hl h512 h
  go_enter Tryz.func17,Tryz.ntmps17
  go_wp2
  go_ret
  exact⟨Xbv (Xw3 (by rw[HL.out];exact H5.out)).symm,HB.out _⟩
end
end Go.Proofs.YtbopdijnojaaiadGreat
