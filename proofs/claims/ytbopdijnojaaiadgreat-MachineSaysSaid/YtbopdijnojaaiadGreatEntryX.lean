/- Contexts as words: the walk of the program's ReadContext. No statement of the seat is proved here. -/
import Derived.Test.YtbopdijnojaaiadGreatBits
namespace Go.Proofs.YtbopdijnojaaiadGreat
set_option maxRecDepth 100000
set_option maxHeartbeats 8000000
open Go.RowKit
set_option linter.unusedSimpArgs false
set_option linter.unusedVariables false
section
theorem Xio {v:Int} (h:0≤v∧v≤65535):enIn v=true:=by simp[enIn,h]
theorem Xip {v:Int} (h:¬(0≤v∧v≤65535)):enIn v=false:=by simp only[enIn,Bool.and_eq_false_iff,decide_eq_false_iff_not];omega
theorem Xib (v:Int) (w:World):Calls Tryz.prog 107 #[.int .i64 v] w fun e w'=>e=.returned (enV v)∧Below w.heap.size w w':=by
 have HB:=Zh (Xag w)
 by_cases hR:0≤v∧v≤65535
 ·have HR:=Zh hR
  obtain⟨h1,h2⟩:=hR
  have e1:=Xwe (v / 16) (by omega) (by omega)
  by_cases hb0:bitI v 0=true
  ·by_cases hbad:Xjl v=true
   ·have hG:=Zh (show enG v=false by unfold enG;rw[hbad];simp)
    have hK:=Zh (show enK v=false by unfold enK;rw[hbad,hb0];simp)
    by_cases ht:v / 1024=0<;>cases g1:bitI v 1<;>cases g2:bitI v 2<;>cases g3:bitI v 3
    all_goals first
     |(exfalso;simp[Xjl,g1,g2,g3,ht]at hbad;done)
     |skip
    all_goals
     clear hbad
     have ht':=ht
     clear ht
     go_enter Tryz.func107,Tryz.ntmps107
     go_wp2_with (go_at_call 104;refine(Xfl _ _ (by simp) HR.out _).mono ?_;rintro e w' ⟨rfl,rfl⟩)
     refine bodyPost_ret (v:=.tuple #[.agg #[.bool false,.bool false,.bool false,.bool false,.int .i64 0],.bool false]) ?_ rfl ⟨Xin hG.out false hK.out, ?_⟩
     ·simp(maxDischargeDepth:=8) [results,Tryz.results107,go_sem, *]
     ·(refine bl ?_;repeat' first|with_reducible(first|assumption|constructor)|((try simp)<;>omega))
   ·have hbad':Xjl v=false:=by simpa using hbad
    have hG:=Zh (show enG v=true by unfold enG;rw[hbad',hb0,Xio HR.out];rfl)
    clear hbad
    by_cases ht:v / 1024=0<;>cases g1:bitI v 1<;>cases g2:bitI v 2<;>cases g3:bitI v 3
    all_goals first
     |(exfalso;simp[Xjl,g1,g2,g3,ht]at hbad';done)
     |skip
    all_goals
     clear hbad'
     have G1:=Zh g1
     have G2:=Zh g2
     have G3:=Zh g3
     go_enter Tryz.func107,Tryz.ntmps107
     go_wp2_with (go_at_call 104;refine(Xfl _ _ (by simp) HR.out _).mono ?_;rintro e w' ⟨rfl,rfl⟩)
     refine bodyPost_ret (v:=.tuple #[.agg #[.bool true,.bool (bitI v 1),.bool (bitI v 2),.bool (bitI v 3),.int .i64 (v / 16 % 64)],.bool true]) ?_ rfl ⟨Xtx hG.out (Xv2 hG.out), ?_⟩
     ·rw[G1.out,G2.out,G3.out];simp(maxDischargeDepth:=8) [results,Tryz.results107,go_sem, *]
     ·(refine bl ?_;repeat' first|with_reducible(first|assumption|constructor)|((try simp)<;>omega))
  ·have hb0':bitI v 0=false:=by simpa using hb0
   have hG:=Zh (show enG v=false by unfold enG;rw[hb0'];simp)
   have hK:=Zh (show enK v=true by unfold enK;rw[hb0',Xio HR.out];simp)
   clear hb0
   go_enter Tryz.func107,Tryz.ntmps107
   go_wp2_with (go_at_call 104;refine(Xfl _ _ (by simp) HR.out _).mono ?_;rintro e w' ⟨rfl,rfl⟩)
   refine bodyPost_ret (v:=.tuple #[.agg #[.bool false,.bool false,.bool false,.bool false,.int .i64 0],.bool true]) ?_ rfl ⟨Xin hG.out true hK.out, ?_⟩
   ·simp(maxDischargeDepth:=8) [results,Tryz.results107,go_sem, *]
   ·(refine bl ?_;repeat' first|with_reducible(first|assumption|constructor)|((try simp)<;>omega))
 ·have HR:=Zh hR
  have hG:=Zh (show enG v=false by unfold enG;rw[Xip hR];simp)
  have hK:=Zh (show enK v=false by unfold enK;rw[Xip hR];simp)
  go_enter Tryz.func107,Tryz.ntmps107
  go_wp2
  all_goals refine bodyPost_ret (v:=.tuple #[.agg #[.bool false,.bool false,.bool false,.bool false,.int .i64 0],.bool false]) ?_ rfl ⟨Xin hG.out false hK.out,HB.out _⟩
  all_goals simp[results,Tryz.results107,go_sem]
end
section
theorem Xea (v:Int) (w:World):Calls Tryz.prog 102 #[.int .i64 v] w fun e w'=>e=.returned (cxV v)∧Below w.heap.size w w':=by
 have HB:=Zh (Xag w)
 by_cases hR:0≤v∧v≤65535
 ·have HR:=Zh hR
  obtain⟨h1,h2⟩:=hR
  have e1:=Xwe (v / 16) (by omega) (by omega)
  by_cases hb0:bitI v 0=true
  ·by_cases hbad:Xjq v=true
   ·have hG:=Zh (show cxG v=false by unfold cxG;rw[hbad];simp)
    have hK:=Zh (show cxK v=false by unfold cxK;rw[hbad,hb0];simp)
    by_cases ht:v / 1024=0<;>by_cases hr:v / 16 % 64=0<;>cases g1:bitI v 1<;>cases g2:bitI v 2<;>cases g3:bitI v 3
    all_goals first
     |(exfalso;simp[Xjq,g1,g2,g3,ht,hr]at hbad;done)
     |skip
    all_goals
     clear hbad
     go_enter Tryz.func102,Tryz.ntmps102
     go_wp2_with (go_at_call 104;refine(Xfl _ _ (by simp) HR.out _).mono ?_;rintro e w' ⟨rfl,rfl⟩)
     refine bodyPost_ret (v:=.tuple #[.agg #[.bool false,.bool false,.int .i64 0],.bool false]) ?_ rfl ⟨Xjp hG.out false hK.out, ?_⟩
     ·simp(maxDischargeDepth:=8) [results,Tryz.results102,go_sem, *]
     ·(refine bl ?_;repeat' first|with_reducible(first|assumption|constructor)|((try simp)<;>omega))
   ·have hbad':Xjq v=false:=by simpa using hbad
    have hG:=Zh (show cxG v=true by unfold cxG;rw[hbad',hb0,Xio HR.out];rfl)
    clear hbad
    by_cases ht:v / 1024=0<;>by_cases hr:v / 16 % 64=0<;>cases g1:bitI v 1<;>cases g2:bitI v 2<;>cases g3:bitI v 3
    all_goals first
     |(exfalso;simp[Xjq,g1,g2,g3,ht,hr]at hbad';done)
     |skip
    all_goals
     clear hbad'
     have G1:=Zh g1
     have hr':=Zh hr
     go_enter Tryz.func102,Tryz.ntmps102
     go_wp2_with (go_at_call 104;refine(Xfl _ _ (by simp) HR.out _).mono ?_;rintro e w' ⟨rfl,rfl⟩)
     refine bodyPost_ret (v:=.tuple #[.agg #[.bool true,.bool (bitI v 1),.int .i64 (v / 16 % 64)],.bool true]) ?_ rfl ⟨Xt4 hG.out (Xod hG.out), ?_⟩
     ·rw[G1.out];simp(maxDischargeDepth:=8) [results,Tryz.results102,go_sem, *]
     ·(refine bl ?_;repeat' first|with_reducible(first|assumption|constructor)|((try simp)<;>omega))
  ·have hb0':bitI v 0=false:=by simpa using hb0
   have hG:=Zh (show cxG v=false by unfold cxG;rw[hb0'];simp)
   have hK:=Zh (show cxK v=true by unfold cxK;rw[hb0',Xio HR.out];simp)
   clear hb0
   go_enter Tryz.func102,Tryz.ntmps102
   go_wp2_with (go_at_call 104;refine(Xfl _ _ (by simp) HR.out _).mono ?_;rintro e w' ⟨rfl,rfl⟩)
   refine bodyPost_ret (v:=.tuple #[.agg #[.bool false,.bool false,.int .i64 0],.bool true]) ?_ rfl ⟨Xjp hG.out true hK.out, ?_⟩
   ·simp(maxDischargeDepth:=8) [results,Tryz.results102,go_sem, *]
   ·(refine bl ?_;repeat' first|with_reducible(first|assumption|constructor)|((try simp)<;>omega))
 ·have HR:=Zh hR
  have hG:=Zh (show cxG v=false by unfold cxG;rw[Xip hR];simp)
  have hK:=Zh (show cxK v=false by unfold cxK;rw[Xip hR];simp)
  go_enter Tryz.func102,Tryz.ntmps102
  go_wp2
  all_goals refine bodyPost_ret (v:=.tuple #[.agg #[.bool false,.bool false,.int .i64 0],.bool false]) ?_ rfl ⟨Xjp hG.out false hK.out,HB.out _⟩
  all_goals simp[results,Tryz.results102,go_sem]
end
end Go.Proofs.YtbopdijnojaaiadGreat
