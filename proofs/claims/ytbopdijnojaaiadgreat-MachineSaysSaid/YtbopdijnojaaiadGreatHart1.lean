/- The hart: the walks of the document's CheckHart and SameHart. No statement of the seat is proved here. -/
import Derived.Test.YtbopdijnojaaiadGreatHartP
import Derived.Test.YtbopdijnojaaiadGreatSlices
namespace Go.Proofs.YtbopdijnojaaiadGreat
set_option maxRecDepth 100000
set_option maxHeartbeats 2000000
open Go.RowKit
set_option linter.unusedSimpArgs false
set_option linter.unusedVariables false
section
theorem Xew (h:Hrt) (A:Option Addr) (n c:Nat) (w:World) (hx:Ints w w.heap.size A n h.regs) :
  Calls Tryz.prog 24 #[.agg #[.int .i64 h.at_,.slice A n c,.bool h.done]] w fun e w'=>e=.returned (.int .i64 (ckH h))∧Below w.heap.size w w':=by
 have hl:=hx.len
 have HL:=Zh hl
 have HB:=Zh (Xag w)
 by_cases h8:n=8
 ·subst h8
  obtain⟨b,off,rfl,hb,hc⟩:=hx.at_ (by omega)
  have HC:=Zh hc
  clear hl hc hx
  by_cases hA:0≤h.at_∧h.at_<512
  ·have HA:=Zh hA
   obtain⟨a1,a2⟩:=hA
   go_enter Tryz.func24,Tryz.ntmps24
   go_wp2
   go_loop [20,4] (fun i _=>∃ k:Nat,k≤8∧i=.int .i64 k∧(h.regs.take k).all Xch=true) (fun i _=>8 - (intOf i).toNat)
   case atStart=>exact⟨0,by omega,rfl,by simp⟩
   case round=>
    obtain⟨k,hk,rfl,hall⟩:=hrel
    have HAL:=Zh hall;clear hall
    by_cases hlt:k<8
    ·obtain⟨x,hx⟩:=Xa2 h.regs (k:=k) (by rw[HL.out];exact hlt)
     have hcc:=HC.out k x hx
     have HX:=Zh hx;clear hx
     go_wp2
     all_goals first
      |(go_ret;exact⟨Xbv (Xuc HL.out HA.out HX.out (by simp[Xch];omega)).symm,HB.out _⟩)
      |skip
     go_round
     case rel=>exact⟨k+1,by omega,by go_num,Xdt HX.out HAL.out (by simp[Xch];omega)⟩
     case measure=>simp[intOf];omega
    ·go_wp2
     obtain rfl:k=8:=by omega
     go_ret
     exact⟨Xbv (Xt9 HL.out HA.out HAL.out).symm,HB.out _⟩
  ·have HA:=Zh hA
   have h2:h.at_<0∨(0≤h.at_∧512≤h.at_):=by omega
   clear hA
   rcases h2 with a1|⟨a1,a2⟩
   all_goals
    go_enter Tryz.func24,Tryz.ntmps24
    go_wp2
    go_ret
    exact⟨Xbv (Xw6 HL.out HA.out).symm,HB.out _⟩
 ·have h6:((n:Int) != 8)=true:=by simp;omega
  have H5:=Zh h8
  clear hl h8 hx
  go_enter Tryz.func24,Tryz.ntmps24
  go_wp2
  go_ret
  exact⟨Xbv (Xub (by rw[HL.out];exact H5.out)).symm,HB.out _⟩
theorem Xqp {w:World} {B n:Nat} {A:Option Addr} {xs:List Int} (h:Ints w B A n xs) {p:Addr} (hp:∀ ad,A=some ad→ad.block≠p.block) (u:Value):Ints (w.setCell p u) B A n xs:=by
 refine⟨h.1,h.2.1,fun hn=>?_⟩
 obtain⟨b,off,e,hb,hc⟩:=h.2.2 hn
 exact⟨b,off,e,hb,fun k v hv=>(World.cell?_setCell_other _ _ _ _ (fun e'=>hp _ e (by have:=congrArg Addr.block e';simpa using this.symm))).trans (hc k v hv)⟩
theorem Xzo (a b:Hrt) (A B:Option Addr) (n c m d:Nat) (w:World) (hx:Ints w w.heap.size A n a.regs) (hy:Ints w w.heap.size B m b.regs) :
  Calls Tryz.prog 27 #[.agg #[.int .i64 a.at_,.slice A n c,.bool a.done],.agg #[.int .i64 b.at_,.slice B m d,.bool b.done]] w fun e w'=>e=.returned (.bool (Xkt a b))∧Below w.heap.size w w':=by
 have HX:=Zh hx;clear hx
 have HY:=Zh hy;clear hy
 have HB:=Zh (Xag w)
 have HS:=Zh (Xry a b)
 by_cases h1:a.at_=b.at_
 ·have t1:(a.at_==b.at_)=true:=by rw[beq_iff_eq];exact h1
  by_cases h2:a.regs=b.regs
  ·have HR:=Zh (show(a.done==b.done)=Xkt a b by rw[HS.out];cases a.done<;>cases b.done<;>simp[h1,h2])
   have H2:=Zh h2
   clear h1 h2
   go_enter Tryz.func27,Tryz.ntmps27
   go_wp2_with fail
   refine(Xgg _ _ _ _ _ _ a.regs b.regs _ (((HX.out.alloc (Nat.le_refl _) _).alloc (by simp) _).more (by simp;omega)) (((HY.out.alloc (Nat.le_refl _) _).alloc (by simp) _).more (by simp;omega))).mono ?_
   rw[show eqI a.regs b.regs=true by simp[eqI,H2.out]]
   rintro e w1 ⟨rfl,hb1⟩
   have hz1:=hb1.size
   (try simp only[Zs]at hz1)
   obtain⟨k1_0,l1_0,q1_0⟩:=aft hb1 (w.heap.size) (by(try simp)<;>omega)
   obtain⟨k1_1,l1_1,q1_1⟩:=aft hb1 (w.heap.size+1) (by(try simp)<;>omega)
   simp(maxDischargeDepth:=6) [go_sem, *]at k1_0 q1_0 k1_1 q1_1
   have HB1:=Zh hb1
   clear hb1
   go_wp2
   go_ret
   exact⟨Xbr HR.out,bl (by repeat' first|with_reducible(first|assumption|constructor)|((try simp)<;>omega))⟩
  ·have HR:=Zh (show false=Xkt a b by rw[HS.out];simp[h2])
   have H2:=Zh h2
   clear h1 h2
   go_enter Tryz.func27,Tryz.ntmps27
   go_wp2_with fail
   refine(Xgg _ _ _ _ _ _ a.regs b.regs _ (((HX.out.alloc (Nat.le_refl _) _).alloc (by simp) _).more (by simp;omega)) (((HY.out.alloc (Nat.le_refl _) _).alloc (by simp) _).more (by simp;omega))).mono ?_
   rw[show eqI a.regs b.regs=false by simp[eqI,H2.out]]
   rintro e w1 ⟨rfl,hb1⟩
   have hz1:=hb1.size
   (try simp only[Zs]at hz1)
   obtain⟨k1_0,l1_0,q1_0⟩:=aft hb1 (w.heap.size) (by(try simp)<;>omega)
   obtain⟨k1_1,l1_1,q1_1⟩:=aft hb1 (w.heap.size+1) (by(try simp)<;>omega)
   simp(maxDischargeDepth:=6) [go_sem, *]at k1_0 q1_0 k1_1 q1_1
   have HB1:=Zh hb1
   clear hb1
   go_wp2
   go_ret
   exact⟨Xbr HR.out,bl (by repeat' first|with_reducible(first|assumption|constructor)|((try simp)<;>omega))⟩
 ·have t1:(a.at_==b.at_)=false:=by rw[beq_eq_false_iff_ne];exact h1
  have HR:=Zh (show false=Xkt a b by rw[HS.out];simp[h1])
  clear h1
  go_enter Tryz.func27,Tryz.ntmps27
  go_wp2
  go_ret
  exact⟨Xbr HR.out,bl (by repeat' first|with_reducible(first|assumption|constructor)|((try simp)<;>omega))⟩
end
section
theorem Xhi (h:Hrt) (A:Option Addr) (n c:Nat) (w:World) (hx:Ints w w.heap.size A n h.regs) :
  Calls Tryz.prog 18 #[.agg #[.int .i64 h.at_,.slice A n c,.bool h.done]] w fun e w'=>e=.returned (.int .i64 (ckH h))∧Below w.heap.size w w':=by
 have hl:=hx.len
 have HL:=Zh hl
 have HB:=Zh (Xag w)
 by_cases h8:n=8
 ·subst h8
  obtain⟨b,off,rfl,hb,hc⟩:=hx.at_ (by omega)
  have HC:=Zh hc
  clear hl hc hx
  by_cases hA:0≤h.at_∧h.at_<512
  ·have HA:=Zh hA
   have t0:inB h.at_ 0 511=true:=by simp[inB];omega
   clear hA
   go_enter Tryz.func18,Tryz.ntmps18
   go_wp2_with (go_at_call 38;refine(Xbc _ _ _ _).mono ?_;rintro e w' ⟨rfl,rfl⟩)
   go_loop [16,4] (fun i _=>∃ k:Nat,k≤8∧i=.int .i64 k∧(h.regs.take k).all Xch=true) (fun i _=>8 - (intOf i).toNat)
   case atStart=>exact⟨0,by omega,rfl,by simp⟩
   case round=>
    obtain⟨k,hk,rfl,hall⟩:=hrel
    have HAL:=Zh hall;clear hall
    by_cases hlt:k<8
    ·obtain⟨x,hx⟩:=Xa2 h.regs (k:=k) (by rw[HL.out];exact hlt)
     have hcc:=HC.out k x hx
     have HX:=Zh hx;clear hx
     cases hi:inB x 0 65535
     ·have HI:=Zh (show Xch x=false by simp[inB]at hi;simp[Xch];omega)
      go_wp2_with (go_at_call 38;refine(Xbc _ _ _ _).mono ?_;rintro e w' ⟨rfl,rfl⟩)
      go_ret
      exact⟨Xbv (Xuc HL.out HA.out HX.out HI.out).symm,HB.out _⟩
     ·have HI:=Zh (show Xch x=true by simp[inB]at hi;simp[Xch];omega)
      go_wp2_with (go_at_call 38;refine(Xbc _ _ _ _).mono ?_;rintro e w' ⟨rfl,rfl⟩)
      go_round
      case rel=>exact⟨k+1,by omega,by go_num,Xdt HX.out HAL.out HI.out⟩
      case measure=>simp[intOf];omega
    ·go_wp2
     obtain rfl:k=8:=by omega
     go_ret
     exact⟨Xbv (Xt9 HL.out HA.out HAL.out).symm,HB.out _⟩
  ·have HA:=Zh hA
   have t0:inB h.at_ 0 511=false:=by simp[inB];omega
   clear hA
   go_enter Tryz.func18,Tryz.ntmps18
   go_wp2_with (go_at_call 38;refine(Xbc _ _ _ _).mono ?_;rintro e w' ⟨rfl,rfl⟩)
   go_ret
   exact⟨Xbv (Xw6 HL.out HA.out).symm,HB.out _⟩
 ·have h6:((n:Int) != 8)=true:=by simp;omega
  have H5:=Zh h8
  clear hl h8 hx
  go_enter Tryz.func18,Tryz.ntmps18
  go_wp2
  go_ret
  exact⟨Xbv (Xub (by rw[HL.out];exact H5.out)).symm,HB.out _⟩
theorem Xij (a b:Hrt) (A B:Option Addr) (n c m d:Nat) (w:World) (hx:Ints w w.heap.size A n a.regs) (hy:Ints w w.heap.size B m b.regs) :
  Calls Tryz.prog 30 #[.agg #[.int .i64 a.at_,.slice A n c,.bool a.done],.agg #[.int .i64 b.at_,.slice B m d,.bool b.done]] w fun e w'=>e=.returned (.bool (Xkt a b))∧Below w.heap.size w w':=by
 have HX:=Zh hx;clear hx
 have HY:=Zh hy;clear hy
 have HB:=Zh (Xag w)
 have HS:=Zh (Xry a b)
 by_cases h1:a.at_=b.at_
 ·have t1:(a.at_==b.at_)=true:=by rw[beq_iff_eq];exact h1
  by_cases h3:a.done=b.done
  ·have t3:(a.done==b.done)=true:=by rw[beq_iff_eq];exact h3
   have HR:=Zh (show eqI a.regs b.regs=Xkt a b by rw[HS.out,Bool.eq_iff_iff];simp[h1,h3,eqI])
   clear h1 h3
   go_enter Tryz.func30,Tryz.ntmps30
   go_wp2_with fail
   refine(Xgg _ _ _ _ _ _ a.regs b.regs _ (Xaf HX.out (bl (by repeat' first|with_reducible(first|assumption|constructor)|((try simp)<;>omega)))) (Xaf HY.out (bl (by repeat' first|with_reducible(first|assumption|constructor)|((try simp)<;>omega))))).mono ?_
   rw[HR.out]
   rintro e w1 ⟨rfl,hb1⟩
   have hz1:=hb1.size
   (try simp only[Zs]at hz1)
   have HB1:=Zh hb1
   clear hb1
   go_wp2
   go_ret
   exact⟨rfl,bl (by repeat' first|with_reducible(first|assumption|constructor)|((try simp)<;>omega))⟩
  ·have t3:(a.done==b.done)=false:=by rw[beq_eq_false_iff_ne];exact h3
   have HR:=Zh (show false=Xkt a b by rw[HS.out];simp[h3])
   clear h1 h3
   go_enter Tryz.func30,Tryz.ntmps30
   go_wp2
   go_ret
   exact⟨Xbr HR.out,bl (by repeat' first|with_reducible(first|assumption|constructor)|((try simp)<;>omega))⟩
 ·have t1:(a.at_==b.at_)=false:=by rw[beq_eq_false_iff_ne];exact h1
  have HR:=Zh (show false=Xkt a b by rw[HS.out];simp[h1])
  clear h1
  go_enter Tryz.func30,Tryz.ntmps30
  go_wp2
  go_ret
  exact⟨Xbr HR.out,bl (by repeat' first|with_reducible(first|assumption|constructor)|((try simp)<;>omega))⟩
end
end Go.Proofs.YtbopdijnojaaiadGreat
