/- Orders and faults as words: the walks of the document's OrderOf and FaultOf. No statement of the seat is proved here. -/
import Derived.Test.YtbopdijnojaaiadGreatWord
namespace Go.Proofs.YtbopdijnojaaiadGreat
set_option maxRecDepth 100000
set_option maxHeartbeats 1000000
open Go.RowKit
set_option linter.unusedSimpArgs false
set_option linter.unusedVariables false
section
theorem ordBad {k d p:Int} (h:¬OrdR k d p):inB k 0 3=false∨(inB k 0 3=true∧inB d 0 7=false)∨(inB k 0 3=true∧inB d 0 7=true∧inB p 0 63=false):=by
 unfold OrdR at h;unfold inB
 simp only[Bool.and_eq_true,Bool.and_eq_false_iff,decide_eq_true_eq,decide_eq_false_iff_not]
 omega
theorem fltBad {k d p:Int} (h:¬FltR k d p):inB k 1 5=false∨(inB k 1 5=true∧inB d 0 7=false)∨(inB k 1 5=true∧inB d 0 7=true∧inB p 0 63=false):=by
 unfold FltR at h;unfold inB
 simp only[Bool.and_eq_true,Bool.and_eq_false_iff,decide_eq_true_eq,decide_eq_false_iff_not]
 omega
theorem Xkw (k d p:Int) (w:World):Calls Tryz.prog 84 #[.agg #[.int .i64 k,.int .i64 d,.int .i64 p]] w fun e w'=>e=.returned (.tuple #[.int .i64 (ordW k d p),.int .i64 (ordE k d p)])∧Below w.heap.size w w':=by
 have HB:=Zh (Xag w)
 by_cases hR:OrdR k d p
 ·have HR:=Zh hR
  unfold OrdR at hR
  obtain⟨h1,h2,h3,h4,h5,h6⟩:=hR
  have i1:=Xb2 (n:=k) (a:=0) (b:=3) (by omega)
  have i2:=Xb2 (n:=d) (a:=0) (b:=7) (by omega)
  have i3:=Xb2 (n:=p) (a:=0) (b:=63) (by omega)
  by_cases hF:OrdF k d p
  ·have HF:=Zh hF
   have E:=(Xo2 (Xkc HR.out hF)).symm
   clear hF
   have E':=Zh E;clear E
   go_enter Tryz.func84,Tryz.ntmps84
   go_wp2_with (go_at_call 38;refine(Xbc _ _ _ _).mono ?_;rintro e w' ⟨rfl,rfl⟩)
   all_goals go_ret2
   all_goals go_tidy
   all_goals simp only[Array.getD_eq_getD_getElem?,List.getElem?_toArray,List.getElem?_cons_zero,List.getElem?_cons_succ,Option.getD_some]
   all_goals first
    |(with_reducible exact⟨Xcj ((by omega:_=k+4 * d+32 * p).trans E'.out) (Xkc HR.out HF.out).symm,HB.out _⟩)
    |(exfalso;have F:=HF.out;unfold OrdF at F;omega)
  ·have HF:=Zh hF;clear hF
   go_enter Tryz.func84,Tryz.ntmps84
   go_wp2_with (go_at_call 38;refine(Xbc _ _ _ _).mono ?_;rintro e w' ⟨rfl,rfl⟩)
   all_goals go_ret2
   all_goals go_tidy
   all_goals simp only[Array.getD_eq_getD_getElem?,List.getElem?_toArray,List.getElem?_cons_zero,List.getElem?_cons_succ,Option.getD_some]
   all_goals first
    |(with_reducible exact⟨Xcj (Xo1 (Xo4 HR.out HF.out) (by decide)).symm (Xo4 HR.out HF.out).symm,HB.out _⟩)
    |(exfalso;refine HF.out ⟨fun _=>?_,fun _=>?_⟩<;>omega)
 ·have HR:=Zh hR
  have hb:=ordBad hR
  clear hR
  rcases hb with h1|⟨h1,h2⟩|⟨h1,h2,h3⟩
  all_goals
   go_enter Tryz.func84,Tryz.ntmps84
   go_wp2_with (go_at_call 38;refine(Xbc _ _ _ _).mono ?_;rintro e w' ⟨rfl,rfl⟩)
   go_ret2
   exact⟨Xcj (Xo1 (Xo3 HR.out) (by decide)).symm (Xo3 HR.out).symm,HB.out _⟩
theorem Xeo (c d p:Int) (r:Bool) (w:World):Calls Tryz.prog 88 #[.agg #[.int .i64 c,.int .i64 d,.int .i64 p,.bool r]] w fun e w'=>e=.returned (.tuple #[.int .i64 (fltW c d p r),.int .i64 (fltE c d p)])∧Below w.heap.size w w':=by
 have HB:=Zh (Xag w)
 by_cases hR:FltR c d p
 ·have HR:=Zh hR
  unfold FltR at hR
  obtain⟨h1,h2,h3,h4,h5,h6⟩:=hR
  have i1:=Xb2 (n:=c) (a:=1) (b:=5) (by omega)
  have i2:=Xb2 (n:=d) (a:=0) (b:=7) (by omega)
  have i3:=Xb2 (n:=p) (a:=0) (b:=63) (by omega)
  cases r
  ·have E:=Zh (Xmq (r:=false) (Xhp HR.out))
   go_enter Tryz.func88,Tryz.ntmps88
   go_wp2_with (go_at_call 38;refine(Xbc _ _ _ _).mono ?_;rintro e w' ⟨rfl,rfl⟩)
   go_ret2
   exact⟨Xcj (by rw[E.out];simp;try omega) (Xhp HR.out).symm,HB.out _⟩
  ·have E:=Zh (Xmq (r:=true) (Xhp HR.out))
   go_enter Tryz.func88,Tryz.ntmps88
   go_wp2_with (go_at_call 38;refine(Xbc _ _ _ _).mono ?_;rintro e w' ⟨rfl,rfl⟩)
   go_ret2
   exact⟨Xcj (by rw[E.out];simp;try omega) (Xhp HR.out).symm,HB.out _⟩
 ·have HR:=Zh hR
  have hb:=fltBad hR
  clear hR
  rcases hb with h1|⟨h1,h2⟩|⟨h1,h2,h3⟩
  all_goals
   go_enter Tryz.func88,Tryz.ntmps88
   go_wp2_with (go_at_call 38;refine(Xbc _ _ _ _).mono ?_;rintro e w' ⟨rfl,rfl⟩)
   go_ret2
   exact⟨Xcj (Xwv (Xpf HR.out) (by decide)).symm (Xpf HR.out).symm,HB.out _⟩
end
section
theorem Xfu (v:Int) (w:World):Calls Tryz.prog 61 #[.int .i64 v] w fun e w'=>e=.returned (rdoV v)∧Below w.heap.size w w':=by
 have HB:=Zh (Xag w)
 by_cases hR:0≤v∧v≤65535
 ·have HR:=Zh hR
  have hin:=Xb2 hR
  obtain⟨h1,h2⟩:=hR
  go_enter Tryz.func61,Tryz.ntmps61
  go_wp2_with (go_at_call 38;refine(Xbc _ _ _ _).mono ?_;rintro e w' ⟨rfl,rfl⟩)
  refine(Xkw _ _ _ _).mono ?_
  rintro e w1 ⟨rfl,hb1⟩
  have hz1:=hb1.size
  (try simp only[Zs]at hz1)
  obtain⟨k1_0,l1_0,q1_0⟩:=aft hb1 (w.heap.size) (by(try simp)<;>omega)
  obtain⟨k1_1,l1_1,q1_1⟩:=aft hb1 (w.heap.size+1) (by(try simp)<;>omega)
  simp(maxDischargeDepth:=6) [go_sem, *]at k1_0 q1_0 k1_1 q1_1
  have HB1:=Zh hb1
  clear hb1
  by_cases hE:ordE (v % 4) (v / 4 % 8) (v / 32)=0
  ·have HE:=Zh hE
   have g1:(ordE (v % 4) (v / 4 % 8) (v / 32) != 0)=false:=by simp[hE]
   clear hE
   go_wp2
   refine bodyPost_ret (v:=.tuple #[.agg #[.int .i64 (v % 4),.int .i64 (v / 4 % 8),.int .i64 (v / 32)],.int .i64 0]) ?_ rfl ⟨Xwo (Xwq HR.out HE.out), ?_⟩
   ·simp(maxDischargeDepth:=8) [results,Tryz.results61,go_sem, *]
   ·(refine bl ?_;repeat' first|with_reducible(first|assumption|constructor)|((try simp)<;>omega))
  ·have HE:=Zh hE
   have g2:(ordE (v % 4) (v / 4 % 8) (v / 32) != 0)=true:=by simp[hE]
   clear hE
   go_wp2
   refine bodyPost_ret (v:=.tuple #[.agg #[.int .i64 0,.int .i64 0,.int .i64 0],.int .i64 3]) ?_ rfl ⟨Xl6 (Xsd HR.out HE.out) (by decide), ?_⟩
   ·simp(maxDischargeDepth:=8) [results,Tryz.results61,go_sem, *]
   ·(refine bl ?_;repeat' first|with_reducible(first|assumption|constructor)|((try simp)<;>omega))
 ·have HR:=Zh hR
  have hin:=Xgs hR
  clear hR
  go_enter Tryz.func61,Tryz.ntmps61
  go_wp2_with (go_at_call 38;refine(Xbc _ _ _ _).mono ?_;rintro e w' ⟨rfl,rfl⟩)
  all_goals refine bodyPost_ret (v:=.tuple #[.agg #[.int .i64 0,.int .i64 0,.int .i64 0],.int .i64 2]) ?_ rfl ⟨Xl6 (Xwp HR.out) (by decide),HB.out _⟩
  all_goals simp[results,Tryz.results61,go_sem]
end
end Go.Proofs.YtbopdijnojaaiadGreat
