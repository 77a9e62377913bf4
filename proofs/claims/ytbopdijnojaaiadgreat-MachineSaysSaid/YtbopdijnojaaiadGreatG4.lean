/- MachineSays: any machine is checked, held against another one, and any happening does to it what the document says, errors too. No condition. -/
import Derived.Test.YtbopdijnojaaiadGreatTch
import Derived.Test.YtbopdijnojaaiadGreatWh2
import Derived.Test.YtbopdijnojaaiadGreatHart1
import Derived.Test.YtbopdijnojaaiadGreatRefB
import Derived.Test.YtbopdijnojaaiadGreatMem
import Derived.Test.YtbopdijnojaaiadGreatG2
import Derived.Test.YtbopdijnojaaiadGreatG3
import Derived.BigRegion
import Derived.Deep.RegionHeld3
import Derived.Deep.MidRow
import Derived.Test.YtbopdijnojaaiadGreatG1
namespace Go.Proofs.YtbopdijnojaaiadGreat
section
set_option maxRecDepth 100000
set_option maxHeartbeats 4000000
open Go.RowKit
set_option linter.unusedSimpArgs false
set_option linter.unusedVariables false
theorem Xrw (a b:Tld):Xis a b=(a.done==b.done&&eqI a.data b.data&&a.fault==b.fault&&eqT a.touched b.touched):=by
 unfold Xis eqT eqI
 rw[Bool.eq_iff_iff]
 simp only[decide_eq_true_eq,Bool.and_eq_true,beq_iff_eq]
 constructor
 ·rintro rfl;exact⟨⟨⟨rfl,rfl⟩,rfl⟩,rfl⟩
 ·rintro⟨⟨⟨h1,h2⟩,h3⟩,h4⟩;exact Tld.ext' h1 h2 h3 h4
theorem Xii (a b:Tld) (A B C D:Option Addr) (n c m d p q r s:Nat) (w:World) (hx:Ints w w.heap.size A n a.data) (hy:Ints w w.heap.size B m b.data) (h1:Tchs w w.heap.size C p q a.touched) (h2:Tchs w w.heap.size D r s b.touched) :
  Calls Tryz.prog 10 #[.agg #[.bool a.done,.slice A n c,.int .i64 a.fault,.slice C p q],.agg #[.bool b.done,.slice B m d,.int .i64 b.fault,.slice D r s]] w fun e w'=>e=.returned (.bool (Xis a b))∧Below w.heap.size w w':=by
 have HX:=Zh hx
 have HY:=Zh hy
 have HU:=Zh h1
 have HV:=Zh h2
 have HS:=Zh (Xrw a b)
 clear hx hy h1 h2
 by_cases h1:a.done=b.done
 rotate_left
 ·have t1:(a.done==b.done)=false:=by rw[beq_eq_false_iff_ne];exact h1
  have HR:=Zh (show false=Xis a b by rw[HS.out];simp[h1])
  clear h1
  go_enter Tryz.func10,Tryz.ntmps10
  go_wp2
  go_ret
  exact⟨Xbr HR.out,bl (by repeat' first|with_reducible(first|assumption|constructor)|((try simp)<;>omega))⟩
 ·have t1:(a.done==b.done)=true:=by rw[beq_iff_eq];exact h1
  by_cases h2:a.data=b.data
  rotate_left
  ·have HQ:=Zh (show eqI a.data b.data=false by simp[eqI,h2])
   have HR:=Zh (show false=Xis a b by rw[HS.out,HQ.out];simp)
   clear h1 h2
   go_enter Tryz.func10,Tryz.ntmps10
   go_wp2_with fail
   refine(Xgg _ _ _ _ _ _ a.data b.data _ (Xaf HX.out (bl (by repeat' first|with_reducible(first|assumption|constructor)|((try simp)<;>omega)))) (Xaf HY.out (bl (by repeat' first|with_reducible(first|assumption|constructor)|((try simp)<;>omega))))).mono ?_
   rw[HQ.out]
   rintro e w1 ⟨rfl,hb1⟩
   have hz1:=hb1.size
   (try simp only[Zs]at hz1)
   have HB1:=Zh hb1
   clear hb1
   go_wp2
   go_ret
   exact⟨Xbr HR.out,bl (by repeat' first|with_reducible(first|assumption|constructor)|((try simp)<;>omega))⟩
  ·have HQ:=Zh (show eqI a.data b.data=true by simp[eqI,h2])
   by_cases h3:a.fault=b.fault
   rotate_left
   ·have t3:(a.fault==b.fault)=false:=by rw[beq_eq_false_iff_ne];exact h3
    have HR:=Zh (show false=Xis a b by rw[HS.out,t3];simp)
    clear h1 h2 h3
    go_enter Tryz.func10,Tryz.ntmps10
    go_wp2_with fail
    refine(Xgg _ _ _ _ _ _ a.data b.data _ (Xaf HX.out (bl (by repeat' first|with_reducible(first|assumption|constructor)|((try simp)<;>omega)))) (Xaf HY.out (bl (by repeat' first|with_reducible(first|assumption|constructor)|((try simp)<;>omega))))).mono ?_
    rw[HQ.out]
    rintro e w1 ⟨rfl,hb1⟩
    have hz1:=hb1.size
    (try simp only[Zs]at hz1)
    obtain⟨k1_0,l1_0,q1_0⟩:=aft hb1 (w.heap.size) (by(try simp)<;>omega)
    obtain⟨k1_1,l1_1,q1_1⟩:=aft hb1 (w.heap.size+1) (by(try simp)<;>omega)
    simp(maxDischargeDepth:=6) [go_sem, *]at k1_0 q1_0 k1_1 q1_1
    have HB1:=Zh hb1
    clear hb1
    go_wp2
    go_ret
    exact⟨Xbr HR.out,bl (by repeat' first|with_reducible(first|assumption|constructor)|((try simp)<;>omega))⟩
   ·have t3:(a.fault==b.fault)=true:=by rw[beq_iff_eq];exact h3
    have HR:=Zh (show eqT a.touched b.touched=Xis a b by rw[HS.out,t1,t3,HQ.out];simp)
    clear h1 h2 h3
    go_enter Tryz.func10,Tryz.ntmps10
    go_wp2_with fail
    refine(Xgg _ _ _ _ _ _ a.data b.data _ (Xaf HX.out (bl (by repeat' first|with_reducible(first|assumption|constructor)|((try simp)<;>omega)))) (Xaf HY.out (bl (by repeat' first|with_reducible(first|assumption|constructor)|((try simp)<;>omega))))).mono ?_
    rw[HQ.out]
    rintro e w1 ⟨rfl,hb1⟩
    have hz1:=hb1.size
    (try simp only[Zs]at hz1)
    obtain⟨k1_0,l1_0,q1_0⟩:=aft hb1 (w.heap.size) (by(try simp)<;>omega)
    obtain⟨k1_1,l1_1,q1_1⟩:=aft hb1 (w.heap.size+1) (by(try simp)<;>omega)
    simp(maxDischargeDepth:=6) [go_sem, *]at k1_0 q1_0 k1_1 q1_1
    have HB1:=Zh hb1
    clear hb1
    go_wp2_with fail
    refine(Xru _ _ _ _ _ _ a.touched b.touched _ (Xe5 HU.out (bl (by repeat' first|with_reducible(first|assumption|constructor)|((try simp)<;>omega)))) (Xe5 HV.out (bl (by repeat' first|with_reducible(first|assumption|constructor)|((try simp)<;>omega))))).mono ?_
    rw[HR.out]
    rintro e w2 ⟨rfl,hb2⟩
    have hz2:=hb2.size
    (try simp only[Zs]at hz2)
    have HB2:=Zh hb2
    clear hb2
    go_wp2
    go_ret
    exact⟨rfl,bl (by repeat' first|with_reducible(first|assumption|constructor)|((try simp)<;>omega))⟩
end
section
set_option maxRecDepth 100000
set_option maxHeartbeats 4000000
open Go.RowKit
set_option linter.unusedSimpArgs false
set_option linter.unusedVariables false
attribute [local go_sem ↓] Go.wp_at_zero Go.wp_at_succ
theorem Xez (a b:Mch) (M R L M' R' L':Option Addr) (nm mc nr rc n c nm' mc' nr' rc' n' c':Nat) (w:World) (h1:Ints w w.heap.size M nm a.m) (h2:Ints w w.heap.size R nr a.h.regs) (h3:Lines w w.heap.size L n c a.b.cache) (g1:Ints w w.heap.size M' nm' b.m) (g2:Ints w w.heap.size R' nr' b.h.regs) (g3:Lines w w.heap.size L' n' c' b.b.cache) :
  Calls Tryz.prog 9 #[.agg (M_.m a M nm mc R nr rc L n c),.agg (M_.m b M' nm' mc' R' nr' rc' L' n' c')] w fun e w'=>e=.returned (.bool (Xj2 a b))∧Below w.heap.size w w':=by
 have HS:=Zh (Xrx a b)
 have IM:=Zh h1
 have IR:=Zh h2
 have IL:=Zh h3
 have JM:=Zh g1
 have JR:=Zh g2
 have JL:=Zh g3
 clear h1 h2 h3 g1 g2 g3
 go_enter Tryz.func9,Tryz.ntmps9
 go_upto_region 1 with(fail)
 generalize hw0:(w.alloc (.cells (M_.m a M nm mc R nr rc L n c) 33)).alloc (.cells (M_.m b M' nm' mc' R' nr' rc' L' n' c') 33)=w0
 have H2:=Zh (show Whl w0 w.heap.size 33 (M_.m a M nm mc R nr rc L n c) by rw[←hw0];exact Xab (Xac _ _ _ rfl) _)
 have H3:=Zh (show Whl w0 (w.heap.size+1) 33 (M_.m b M' nm' mc' R' nr' rc' L' n' c') by rw[←hw0];exact Xac _ _ _ (by simp))
 have hb:Below w.heap.size w w0:=by rw[←hw0];(refine bl ?_;repeat' first|with_reducible(first|assumption|constructor)|((try simp)<;>omega))
 have HB:=Zh hb
 replace IM:=Zh (Xaf IM.out hb)
 replace IR:=Zh (Xaf IR.out hb)
 replace IL:=Zh (Xah IL.out hb)
 replace JM:=Zh (Xaf JM.out hb)
 replace JR:=Zh (Xaf JR.out hb)
 replace JL:=Zh (Xah JL.out hb)
 clear hw0 hb
 have k2:=fun o=>Xad H2.out o
 have k3:=fun o=>Xad H3.out o
 by_cases e1:a.m=b.m
 rotate_left
 ·have HQ:=Zh (show eqI a.m b.m=false by simp[eqI,e1])
  have HR:=Zh (show false=Xj2 a b by rw[HS.out];simp[e1])
  clear e1
  go_wp2_with fail
  refine(Xgg _ _ _ _ _ _ a.m b.m _ IM.out JM.out).mono ?_
  rw[HQ.out]
  rintro e w1 ⟨rfl,hb⟩
  replace HB:=Zh (HB.out.trans (hb.mono HB.out.size))
  clear hb
  go_wp2
  go_ret
  exact⟨Xbr HR.out,HB.out⟩
 have HQ:=Zh (show eqI a.m b.m=true by simp[eqI,e1])
 have HE1:=Zh e1
 clear e1
 go_wp2_with fail
 refine(Xgg _ _ _ _ _ _ a.m b.m _ IM.out JM.out).mono ?_
 rw[HQ.out]
 rintro e w1 ⟨rfl,hb⟩
 replace H2:=Zh (Xaa H2.out hb)
 replace H3:=Zh (Xaa H3.out hb)
 replace HB:=Zh (HB.out.trans (hb.mono HB.out.size))
 replace IM:=Zh (Xaf IM.out hb)
 replace IR:=Zh (Xaf IR.out hb)
 replace IL:=Zh (Xah IL.out hb)
 replace JM:=Zh (Xaf JM.out hb)
 replace JR:=Zh (Xaf JR.out hb)
 replace JL:=Zh (Xah JL.out hb)
 clear hb k2 k3
 have k2:=fun o=>Xad H2.out o
 have k3:=fun o=>Xad H3.out o
 cases e2:Xkt a.h b.h with
 |false=>
  have HQ2:=Zh e2
  have HR:=Zh (show false=Xj2 a b by rw[HS.out,HQ2.out];simp)
  clear e2
  go_wp2_with fail
  refine(Xij a.h b.h R R' nr rc nr' rc' _ IR.out JR.out).mono ?_
  rw[HQ2.out]
  rintro e w2 ⟨rfl,hb⟩
  replace HB:=Zh (HB.out.trans (hb.mono HB.out.size))
  clear hb
  go_wp2
  go_ret
  exact⟨Xbr HR.out,HB.out⟩
 |true=>
  have HQ2:=Zh e2
  have HR:=Zh (show Xp6 a.b b.b=Xj2 a b by rw[HS.out,HQ2.out,decide_eq_true HE1.out];simp)
  clear e2
  go_wp2_with fail
  refine(Xij a.h b.h R R' nr rc nr' rc' _ IR.out JR.out).mono ?_
  rw[HQ2.out]
  rintro e w2 ⟨rfl,hb⟩
  replace H2:=Zh (Xaa H2.out hb)
  replace H3:=Zh (Xaa H3.out hb)
  replace HB:=Zh (HB.out.trans (hb.mono HB.out.size))
  replace IM:=Zh (Xaf IM.out hb)
  replace IR:=Zh (Xaf IR.out hb)
  replace IL:=Zh (Xah IL.out hb)
  replace JM:=Zh (Xaf JM.out hb)
  replace JR:=Zh (Xaf JR.out hb)
  replace JL:=Zh (Xah JL.out hb)
  clear hb k2 k3
  have k2:=fun o=>Xad H2.out o
  have k3:=fun o=>Xad H3.out o
  go_wp2_with fail
  refine(Xj3 a.b b.b L L' n c n' c' _ IL.out JL.out).mono ?_
  rw[HR.out]
  rintro e w3 ⟨rfl,hb⟩
  replace HB:=Zh (HB.out.trans (hb.mono HB.out.size))
  clear hb
  go_wp2
  go_ret
  exact⟨rfl,HB.out⟩
theorem Xzn (a b:Mch) (M R L M' R' L':Option Addr) (nm mc nr rc n c nm' mc' nr' rc' n' c':Nat) (w:World) (h1:Ints w w.heap.size M nm a.m) (h2:Ints w w.heap.size R nr a.h.regs) (h3:Lines w w.heap.size L n c a.b.cache) (g1:Ints w w.heap.size M' nm' b.m) (g2:Ints w w.heap.size R' nr' b.h.regs) (g3:Lines w w.heap.size L' n' c' b.b.cache) :
  Calls Tryz.prog 8 #[.agg (M_.m a M nm mc R nr rc L n c),.agg (M_.m b M' nm' mc' R' nr' rc' L' n' c')] w fun e w'=>e=.returned (.bool (Xj2 a b))∧Below w.heap.size w w':=by
 have HS:=Zh (Xrx a b)
 have IM:=Zh h1
 have IR:=Zh h2
 have IL:=Zh h3
 have JM:=Zh g1
 have JR:=Zh g2
 have JL:=Zh g3
 clear h1 h2 h3 g1 g2 g3
 go_enter Tryz.func8,Tryz.ntmps8
 go_upto_region 1 with(fail)
 generalize hw0:(w.alloc (.cells (M_.m a M nm mc R nr rc L n c) 33)).alloc (.cells (M_.m b M' nm' mc' R' nr' rc' L' n' c') 33)=w0
 have H2:=Zh (show Whl w0 w.heap.size 33 (M_.m a M nm mc R nr rc L n c) by rw[←hw0];exact Xab (Xac _ _ _ rfl) _)
 have H3:=Zh (show Whl w0 (w.heap.size+1) 33 (M_.m b M' nm' mc' R' nr' rc' L' n' c') by rw[←hw0];exact Xac _ _ _ (by simp))
 have hb:Below w.heap.size w w0:=by rw[←hw0];(refine bl ?_;repeat' first|with_reducible(first|assumption|constructor)|((try simp)<;>omega))
 have HB:=Zh hb
 replace IM:=Zh (Xaf IM.out hb)
 replace IR:=Zh (Xaf IR.out hb)
 replace IL:=Zh (Xah IL.out hb)
 replace JM:=Zh (Xaf JM.out hb)
 replace JR:=Zh (Xaf JR.out hb)
 replace JL:=Zh (Xah JL.out hb)
 clear hw0 hb
 have k2:=fun o=>Xad H2.out o
 have k3:=fun o=>Xad H3.out o
 by_cases e1:a.m=b.m
 rotate_left
 ·have HQ:=Zh (show eqI a.m b.m=false by simp[eqI,e1])
  have HR:=Zh (show false=Xj2 a b by rw[HS.out];simp[e1])
  clear e1
  go_wp2_with fail
  refine(Xzq _ _ _ _ _ _ a.m b.m _ IM.out JM.out).mono ?_
  rw[HQ.out]
  rintro e w1 ⟨rfl,hb⟩
  replace HB:=Zh (HB.out.trans (hb.mono HB.out.size))
  clear hb
  go_wp2
  go_ret
  exact⟨Xbr HR.out,HB.out⟩
 have HQ:=Zh (show eqI a.m b.m=true by simp[eqI,e1])
 have HE1:=Zh e1
 clear e1
 go_wp2_with fail
 refine(Xzq _ _ _ _ _ _ a.m b.m _ IM.out JM.out).mono ?_
 rw[HQ.out]
 rintro e w1 ⟨rfl,hb⟩
 replace H2:=Zh (Xaa H2.out hb)
 replace H3:=Zh (Xaa H3.out hb)
 replace HB:=Zh (HB.out.trans (hb.mono HB.out.size))
 replace IM:=Zh (Xaf IM.out hb)
 replace IR:=Zh (Xaf IR.out hb)
 replace IL:=Zh (Xah IL.out hb)
 replace JM:=Zh (Xaf JM.out hb)
 replace JR:=Zh (Xaf JR.out hb)
 replace JL:=Zh (Xah JL.out hb)
 clear hb k2 k3
 have k2:=fun o=>Xad H2.out o
 have k3:=fun o=>Xad H3.out o
 cases e2:Xkt a.h b.h with
 |false=>
  have HQ2:=Zh e2
  have HR:=Zh (show false=Xj2 a b by rw[HS.out,HQ2.out];simp)
  clear e2
  go_wp2_with fail
  refine(Xzo a.h b.h R R' nr rc nr' rc' _ IR.out JR.out).mono ?_
  rw[HQ2.out]
  rintro e w2 ⟨rfl,hb⟩
  replace HB:=Zh (HB.out.trans (hb.mono HB.out.size))
  clear hb
  go_wp2
  go_ret
  exact⟨Xbr HR.out,HB.out⟩
 |true=>
  have HQ2:=Zh e2
  have HR:=Zh (show Xp6 a.b b.b=Xj2 a b by rw[HS.out,HQ2.out,decide_eq_true HE1.out];simp)
  clear e2
  go_wp2_with fail
  refine(Xzo a.h b.h R R' nr rc nr' rc' _ IR.out JR.out).mono ?_
  rw[HQ2.out]
  rintro e w2 ⟨rfl,hb⟩
  replace H2:=Zh (Xaa H2.out hb)
  replace H3:=Zh (Xaa H3.out hb)
  replace HB:=Zh (HB.out.trans (hb.mono HB.out.size))
  replace IM:=Zh (Xaf IM.out hb)
  replace IR:=Zh (Xaf IR.out hb)
  replace IL:=Zh (Xah IL.out hb)
  replace JM:=Zh (Xaf JM.out hb)
  replace JR:=Zh (Xaf JR.out hb)
  replace JL:=Zh (Xah JL.out hb)
  clear hb k2 k3
  have k2:=fun o=>Xad H2.out o
  have k3:=fun o=>Xad H3.out o
  go_wp2_with fail
  refine(Xzp a.b b.b L L' n c n' c' _ IL.out JL.out).mono ?_
  rw[HR.out]
  rintro e w3 ⟨rfl,hb⟩
  replace HB:=Zh (HB.out.trans (hb.mono HB.out.size))
  clear hb
  go_wp2
  go_ret
  exact⟨rfl,HB.out⟩
end
section
set_option maxRecDepth 100000
set_option maxHeartbeats 8000000
open Go.RowKit
set_option linter.unusedSimpArgs false
set_option linter.unusedVariables false
attribute [local go_sem ↓] Go.wp_at_zero Go.wp_at_succ
theorem Xzm {w:World}:Ints w w.heap.size none 0 []:=⟨rfl,by unfold maxLen;omega,Row.nil_⟩
theorem Xzh {P:Program} {ops:Array Oper} {Q:Exit→Act→World→Prop} {md:Region.Mode} {S:World→Prop} {i:Nat} {d:Tmp} {oi:Oper} {v:Value} {fuel:Nat} {listed:Array Bool} {a:Act} {w:World} (hi:ops[i]?=some oi) (hd:oi.dst=some d)
  (hs:Region.noSelect ops=true) (hf:Region.free md ops listed i=true) (hr:(Region.ready md ops listed).contains i=true)
  (hQ:∀ c a w,Q (.panic c) (a.put oi.dst v) w→Q (.panic c) a w) (hy:YieldsIf P ops S oi v a) (hS:S w)
  (h:wpAnyH P md ops Q S fuel (listed.setIfInBounds i true) (a.put (some d) v) w):wpAnyH P md ops Q S (fuel+1) listed a w:=by
 rw[←hd]at h
 exact wpAnyH_take hi hs hf hr hQ hy hS h
theorem Xzk {P:Program} {S:World→Prop} {op:Oper} {a:Act} (ty:TypeId) (x:Operand) (g:Nat) (t:TypeId) (cs:Array Value) (ho:op.op=.load ty x) (hx:a.eval x=.pointer (some ⟨g,0,none⟩)) (hS:∀ W,S W→Whl W g t cs) (d:TypeDesc) (hu:P.underlying ty=some d) (hd:d.isRow=true) (hi:(P.info? ty).map (·.size)=some cs.size) :
  ∀ W,S W→(execOp a.eval op).run P W=.ok (.value (.agg cs)) W:=fun W hW=>by
 have h1:W.rangeAt g 0 cs.toList:=fun j v hv=>by
  rw[Xad (hS W hW),Nat.zero_add];simpa using hv
 have h2:=run_loadVar_mid (P:=P) W g 0 ty cs.toList d h1 hu hd (by rw[hi,Array.length_toList])
 rw[Array.toArray_toList]at h2
 unfold execOp
 simp only[ho,hx,Instr.loadAt,Instr.sureAddr,Sem.run_bind,Sem.run_pure,Result.andThen_ok,h2]
theorem Xzj {P:Program} {o:Oper} {a:Act} {w:World} {K:Act→World→Prop} {Q:Exit→Act→World→Prop} (f:FuncId) (args:Array Value) (hr:(execOp a.eval o).run P w=.ok (.enter f args) w) (d:Tmp) (hd:o.dst=some d) (h:Calls P f args w fun e w'=>∃ v,e=.returned v∧K (a.put (some d) v) w'):Oper.wp P o a w K Q:=by
 rw[←hd]at h
 unfold Oper.wp
 rw[hr,Oper.upon_enter]
 refine h.mono ?_
 rintro e w' ⟨v,rfl,hK⟩
 exact hK
theorem Xzs {x:Mch} {y:Hap} {r:Mch×Tld} {E:Int} (h:ckM x≠0) (h1:doA x y=r) (h2:doE x y=E):r=(.no,.no)∧E=ckM x:=by
 subst h1 h2
 unfold doA doE
 simp[h]
section
variable (x z:Mch) (y:Hap) (M R L MN RN LN AD:Option Addr) (nd cd:Nat) (w:World)
theorem Xzl (nm mc nr rc n c nmn mcn nrn rcn nn cn:Nat) (hm:Ints w w.heap.size M nm x.m) (hr:Ints w w.heap.size R nr x.h.regs) (hl:Lines w w.heap.size L n c x.b.cache) (hd:Ints w w.heap.size AD nd y.a.data)
  (gm:Ints w w.heap.size MN nmn z.m) (gr:Ints w w.heap.size RN nrn z.h.regs) (gl:Lines w w.heap.size LN nn cn z.b.cache) :
  Calls Tryz.prog 3 #[.agg (M_.m x M nm mc R nr rc L n c),.agg #[.int .i64 y.kind,.int .i64 y.n,.int .i64 y.a.dev,.int .i64 y.a.at_,.int .i64 y.a.count,.bool y.a.wr,.slice AD nd cd],.agg (M_.m z MN nmn mcn RN nrn rcn LN nn cn)] w fun e w'=>e=.returned (.bool true)∧Below w.heap.size w w':=by
 have VX:=Zh (Xmk hm hr hl)
 have VN:=Zh (Xmk gm gr gl)
 have HD:=Zh hd
 clear hm hr hl hd gm gr gl
 go_enter Tryz.func3,Tryz.ntmps3
 go_upto_region 1 with(fail)
 generalize hw0:((w.alloc (.cells (M_.m x M nm mc R nr rc L n c) 33)).alloc (.cells #[.int .i64 y.kind,.int .i64 y.n,.int .i64 y.a.dev,.int .i64 y.a.at_,.int .i64 y.a.count,.bool y.a.wr,.slice AD nd cd] 37)).alloc (.cells (M_.m z MN nmn mcn RN nrn rcn LN nn cn) 33)=w0
 have H0:=Zh (show Whl w0 w.heap.size 33 (M_.m x M nm mc R nr rc L n c) by rw[←hw0];exact Xab (Xab (Xac _ _ _ rfl) _) _)
 have H1:=Zh (show Whl w0 (w.heap.size+1) 37 #[.int .i64 y.kind,.int .i64 y.n,.int .i64 y.a.dev,.int .i64 y.a.at_,.int .i64 y.a.count,.bool y.a.wr,.slice AD nd cd] by rw[←hw0];exact Xab (Xac _ _ _ (by simp)) _)
 have H2:=Zh (show Whl w0 (w.heap.size+1+1) 33 (M_.m z MN nmn mcn RN nrn rcn LN nn cn) by rw[←hw0];exact Xac _ _ _ (by simp))
 have HB:=Zh (show Below w.heap.size w w0 by rw[←hw0];(refine bl ?_;repeat' first|with_reducible(first|assumption|constructor)|((try simp)<;>omega)))
 have hz0a:w0.heap.size≤w.heap.size+3:=by rw[←hw0];simp
 have hz0b:w.heap.size+3≤w0.heap.size:=by rw[←hw0];simp
 clear hw0
 replace VX:=Zh (VX.out.since HB.out)
 replace VN:=Zh (VN.out.since HB.out)
 replace HD:=Zh (Xaf HD.out HB.out)
 obtain⟨⟨z5,t⟩,hDA⟩:∃ r,doA x y=r:=⟨_,rfl⟩
 obtain⟨E,hDE⟩:∃ E,doE x y=E:=⟨_,rfl⟩
 obtain⟨kx,hkx⟩:∃ kx,ckM x=kx:=⟨_,rfl⟩
 obtain⟨bs,hbs⟩:∃ bs,Xj2 x z=bs:=⟨_,rfl⟩
 have HDA:=Zh hDA
 have HDE:=Zh hDE
 have HKX:=Zh hkx
 have HBS:=Zh hbs
 clear hDA hDE hkx hbs
 go_wp2_with (first|(refine Xao rfl 33 (.tmp 3) rfl (w.heap.size) _ _ rfl H0.out _ Tryz.underlying33 rfl Tryz.sizeMach ?_)|(refine Xao rfl 37 (.tmp 4) rfl (w.heap.size+1) _ _ rfl H1.out _ Tryz.underlying37 rfl Tryz.sizeHap ?_))
 refine(Xxz x y M R L AD nd cd _ nm mc nr rc n c VX.out.hm VX.out.hr VX.out.hl HD.out (z5,t) E HDA.out HDE.out).mono ?_
 rintro e w5 ⟨M5,nm5,mc5,R5,nr5,rc5,L5,n5,c5,D5,dn5,dc5,T5,tn5,tc5,rfl,hv5,ht5,hb⟩
 replace H0:=Zh (Xaa H0.out hb)
 replace H1:=Zh (Xaa H1.out hb)
 replace H2:=Zh (Xaa H2.out hb)
 replace VX:=Zh (VX.out.since hb)
 replace VN:=Zh (VN.out.since hb)
 replace HD:=Zh (Xaf HD.out hb)
 replace HB:=Zh (HB.out.trans (hb.mono HB.out.size))
 have VZ:=Zh (hv5.lt.av (Av':=fun q=>q<w5.heap.size) (fun q hq=>hq.2))
 have VT:=Zh (ht5.lt.av (Av':=fun q=>q<w5.heap.size) (fun q hq=>hq.2))
 have hz5:=hb.size
 clear hb hv5 ht5
 go_upto_region 2 with(first
  |(refine Xaj rfl 33 (.tmp 7) (.tmp 18) rfl (w5.heap.size) _ _ (M_.m z5 M5 nm5 mc5 R5 nr5 rc5 L5 n5 c5) rfl rfl (Xab (Xac w5 _ _ rfl) _) Tryz.sizeMach rfl rfl ?_;intro w6 h6 t6)
  |(refine Xaj rfl 40 (.tmp 8) (.tmp 19) rfl (w5.heap.size+1) _ _ #[.bool t.done,.slice D5 dn5 dc5,.int .i64 t.fault,.slice T5 tn5 tc5] rfl rfl (Xam (Xac (w5.alloc _) _ _ (by simp)) t6 (Nat.succ_ne_self _)) Tryz.sizeTold rfl rfl ?_;intro w7 h7 t7))
 have hw6:=t6.2
 have hw7:=t7.2
 (try simp only[World.size_alloc]at hw6)
 have hz7a:w7.heap.size≤w5.heap.size+2:=by omega
 have hz7b:w5.heap.size+2≤w7.heap.size:=by omega
 have Cx:=Xa4 (Xbp (Q:=fun q=>w5.heap.size≤q) t6.1 (fun q _ e=>by omega)) (Xbp t7.1 (fun q _ e=>by omega))
 have hb:Below w5.heap.size w5 w7:=Xa8 (((Below.refl w5.heap.size w5).alloc (Nat.le_refl _) _).alloc (by simp) _) (by simp;omega) Cx (fun q hq e=>by omega)
 have H7:=Zh (Xam h6 t7 (Nat.ne_of_lt (Nat.lt_succ_self _)))
 have H8:=Zh h7
 replace H0:=Zh (Xaa H0.out hb)
 replace H1:=Zh (Xaa H1.out hb)
 replace H2:=Zh (Xaa H2.out hb)
 replace VX:=Zh (VX.out.since hb)
 replace VN:=Zh (VN.out.since hb)
 replace HD:=Zh (Xaf HD.out hb)
 replace HB:=Zh (HB.out.trans (hb.mono HB.out.size))
 replace VZ:=Zh (VZ.out.since hb)
 replace VT:=Zh (VT.out.since hb)
 clear hb Cx t6 t7 h6 h7 hw6 hw7
 go_wp2_with (refine Xao rfl 33 (.tmp 3) rfl (w.heap.size) _ _ rfl H0.out _ Tryz.underlying33 rfl Tryz.sizeMach ?_)
 refine(Xf0 x M R L nm mc nr rc n c _ VX.out.hm VX.out.hr VX.out.hl).mono ?_
 rw[HKX.out]
 rintro e w8 ⟨rfl,hb⟩
 replace H0:=Zh (Xaa H0.out hb)
 replace H1:=Zh (Xaa H1.out hb)
 replace H2:=Zh (Xaa H2.out hb)
 replace VX:=Zh (VX.out.since hb)
 replace VN:=Zh (VN.out.since hb)
 replace HD:=Zh (Xaf HD.out hb)
 replace HB:=Zh (HB.out.trans (hb.mono HB.out.size))
 replace VZ:=Zh (VZ.out.since hb)
 replace VT:=Zh (VT.out.since hb)
 replace H7:=Zh (Xaa H7.out hb)
 replace H8:=Zh (Xaa H8.out hb)
 clear hb
 go_upto_region 3 with(fail)
 generalize (Value.tuple #[.agg (M_.m z5 M5 nm5 mc5 R5 nr5 rc5 L5 n5 c5),.agg #[.bool t.done,.slice D5 dn5 dc5,.int .i64 t.fault,.slice T5 tn5 tc5],.int .i64 E])=vt
 generalize (Value.agg (M_.m x M nm mc R nr rc L n c))=va
 generalize (Value.agg #[.int .i64 y.kind,.int .i64 y.n,.int .i64 y.a.dev,.int .i64 y.a.at_,.int .i64 y.a.count,.bool y.a.wr,.slice AD nd cd])=vb
 generalize (Value.agg (M_.m z MN nmn mcn RN nrn rcn LN nn cn))=vc
 generalize (Value.agg (M_.m z5 M5 nm5 mc5 R5 nr5 rc5 L5 n5 c5))=vz
 generalize (Value.agg #[.bool t.done,.slice D5 dn5 dc5,.int .i64 t.fault,.slice T5 tn5 tc5])=vd
 obtain⟨p0,p1,p2,p3,p4,p5,p6,p7,p8,p9,p10,p11,p12,p13,p14,p15,hX⟩:∃ p0 p1 p2 p3 p4 p5 p6 p7 p8 p9 p10 p11 p12 p13 p14 p15:Value,#[.slice M nm mc,.int .i64 x.h.at_,.slice R nr rc,.bool x.h.done,.int .i64 x.b.mode,.int .i64 x.b.base,.slice L n c,.int .i64 x.b.orders.page,.int .i64 x.b.orders.head,.int .i64 x.b.orders.tail,.bool x.b.stopped,.int .i64 x.b.fences,.int .i64 x.b.faults.page,.int .i64 x.b.faults.head,.int .i64 x.b.faults.tail,.bool x.b.lost]=#[p0,p1,p2,p3,p4,p5,p6,p7,p8,p9,p10,p11,p12,p13,p14,p15]:=⟨_,_,_,_,_,_,_,_,_,_,_,_,_,_,_,_,rfl⟩
 obtain⟨q0,q1,q2,q3,q4,q5,q6,q7,q8,q9,q10,q11,q12,q13,q14,q15,hN⟩:∃ q0 q1 q2 q3 q4 q5 q6 q7 q8 q9 q10 q11 q12 q13 q14 q15:Value,#[.slice MN nmn mcn,.int .i64 z.h.at_,.slice RN nrn rcn,.bool z.h.done,.int .i64 z.b.mode,.int .i64 z.b.base,.slice LN nn cn,.int .i64 z.b.orders.page,.int .i64 z.b.orders.head,.int .i64 z.b.orders.tail,.bool z.b.stopped,.int .i64 z.b.fences,.int .i64 z.b.faults.page,.int .i64 z.b.faults.head,.int .i64 z.b.faults.tail,.bool z.b.lost]=#[q0,q1,q2,q3,q4,q5,q6,q7,q8,q9,q10,q11,q12,q13,q14,q15]:=⟨_,_,_,_,_,_,_,_,_,_,_,_,_,_,_,_,rfl⟩
 have K0:=Zh (show Whl w8 w.heap.size 33 #[p0,p1,p2,p3,p4,p5,p6,p7,p8,p9,p10,p11,p12,p13,p14,p15] by rw[←hX];exact H0.out)
 have K2:=Zh (show Whl w8 (w.heap.size+1+1) 33 #[q0,q1,q2,q3,q4,q5,q6,q7,q8,q9,q10,q11,q12,q13,q14,q15] by rw[←hN];exact H2.out)
 have PC:Hid (∀ W,Xan w8 W→Calls Tryz.prog 7 #[.agg #[p0,p1,p2,p3,p4,p5,p6,p7,p8,p9,p10,p11,p12,p13,p14,p15]] W (fun e w'=>e=.returned (.int .i64 kx)∧Below W.heap.size W w')):=Zh (fun W hs=>by rw[←hX,←HKX.out];exact Xd5 x M R L nm mc nr rc n c W (Xd6 VX.out.hm hs) (Xd6 VX.out.hr hs) (Xb0 VX.out.hl hs))
 have PS:Hid (∀ W,Xan w8 W→Calls Tryz.prog 8 #[.agg #[p0,p1,p2,p3,p4,p5,p6,p7,p8,p9,p10,p11,p12,p13,p14,p15],.agg #[q0,q1,q2,q3,q4,q5,q6,q7,q8,q9,q10,q11,q12,q13,q14,q15]] W (fun e w'=>e=.returned (.bool bs)∧Below W.heap.size W w')):=Zh (fun W hs=>by rw[←hX,←hN,←HBS.out];exact Xzn x z M R L MN RN LN nm mc nr rc n c nmn mcn nrn rcn nn cn W (Xd6 VX.out.hm hs) (Xd6 VX.out.hr hs) (Xb0 VX.out.hl hs) (Xd6 VN.out.hm hs) (Xd6 VN.out.hr hs) (Xb0 VN.out.hl hs))
 have PR:Hid (∀ W,Xan w8 W→Calls Tryz.prog 9 #[.agg #[p0,p1,p2,p3,p4,p5,p6,p7,p8,p9,p10,p11,p12,p13,p14,p15],.agg #[q0,q1,q2,q3,q4,q5,q6,q7,q8,q9,q10,q11,q12,q13,q14,q15]] W (fun e w'=>e=.returned (.bool bs)∧Below W.heap.size W w')):=Zh (fun W hs=>by rw[←hX,←hN,←HBS.out];exact Xez x z M R L MN RN LN nm mc nr rc n c nmn mcn nrn rcn nn cn W (Xd6 VX.out.hm hs) (Xd6 VX.out.hr hs) (Xb0 VX.out.hl hs) (Xd6 VN.out.hm hs) (Xd6 VN.out.hr hs) (Xb0 VN.out.hl hs))
 clear hX hN
 go_cut [39] (fun s wd=>s=.bool false∧Hid (Xan w8 wd))
 case first=>
  as_aux_lemma=>
   clear VX VN HD H0 H1 H2 HB VZ VT H7 H8 HDA HDE HKX HBS
   refine wp_region_held_drew (S:=fun W'=>Below w8.heap.size w8 W') (by kernel_rfl) (Below.refl _ _).drew (fun hS0=>?_)
   have HS0:=Zh hS0
   clear hS0
   refine wpAnyH_ready (rs:=[0]) (by kernel_rfl) (by simp) ?_
   refine AllReadyH.cons rfl (fun KK hKK=>?_) AllReadyH.nil
   rw[if_pos (by rfl)]
   refine Xzj 6 #[] (by kernel_rfl) 23 rfl ((Xfi _).mono ?_)
   rintro e W1 ⟨rfl,hb⟩
   have HS1:=Zh (HS0.out.trans (hb.mono HS0.out.size))
   clear hb
   refine⟨_,rfl, ?_⟩
   refine hKK.out _ _ HS1.out (fun _=>?_)
   clear hKK KK
   (try simp only[Act.put,List.setIfInBounds_toArray,List.set_cons_zero,List.set_cons_succ])
   refine Xzh (i:=1) (d:=24) (v:=.bool false) rfl rfl (by kernel_rfl) (by kernel_rfl) (by kernel_rfl) (fun _ _ _ h=>h) (Or.inl ⟨by rfl,fun _ _=>rfl⟩) HS1.out ?_
   (try simp only[Act.put,List.setIfInBounds_toArray,List.set_cons_zero,List.set_cons_succ])
   refine Xzh (i:=2) (d:=25) (v:=.bool false) rfl rfl (by kernel_rfl) (by kernel_rfl) (by kernel_rfl) (fun _ _ _ h=>h) (Or.inl ⟨by rfl,fun _ _=>rfl⟩) HS1.out ?_
   (try simp only[Act.put,List.setIfInBounds_toArray,List.set_cons_zero,List.set_cons_succ])
   refine Xzh (i:=3) (d:=26) (v:=.agg #[p0,p1,p2,p3,p4,p5,p6,p7,p8,p9,p10,p11,p12,p13,p14,p15]) rfl rfl (by kernel_rfl) (by kernel_rfl) (by kernel_rfl) (fun _ _ _ h=>h) (Or.inl ⟨by rfl,Xzk 33 (.tmp 3) (w.heap.size) 33 #[p0,p1,p2,p3,p4,p5,p6,p7,p8,p9,p10,p11,p12,p13,p14,p15] rfl rfl (fun W' hS=>Xaa K0.out hS) _ Tryz.underlying33 rfl (by kernel_rfl)⟩) HS1.out ?_
   (try simp only[Act.put,List.setIfInBounds_toArray,List.set_cons_zero,List.set_cons_succ])
   refine Xzh (i:=5) (d:=28) (v:=.int .i64 kx) rfl rfl (by kernel_rfl) (by kernel_rfl) (by kernel_rfl) (fun _ _ _ h=>h) (Or.inl ⟨by rfl,fun _ _=>rfl⟩) HS1.out ?_
   (try simp only[Act.put,List.setIfInBounds_toArray,List.set_cons_zero,List.set_cons_succ])
   refine wpAnyH_ready (rs:=[4]) (by kernel_rfl) (by simp) ?_
   refine AllReadyH.cons rfl (fun KK hKK=>?_) AllReadyH.nil
   rw[if_pos (by rfl)]
   refine Xzj 7 #[.agg #[p0,p1,p2,p3,p4,p5,p6,p7,p8,p9,p10,p11,p12,p13,p14,p15]] (by kernel_rfl) 27 rfl ((PC.out _ HS1.out).mono ?_)
   rintro e W2 ⟨rfl,hb⟩
   have HS2:=Zh (HS1.out.trans (hb.mono HS1.out.size))
   clear hb
   refine⟨_,rfl, ?_⟩
   refine hKK.out _ _ HS2.out (fun _=>?_)
   clear hKK KK
   (try simp only[Act.put,List.setIfInBounds_toArray,List.set_cons_zero,List.set_cons_succ])
   refine Xzh (i:=6) (d:=29) (v:=.bool (kx != kx)) rfl rfl (by kernel_rfl) (by kernel_rfl) (by kernel_rfl) (fun _ _ _ h=>h) (Or.inl ⟨by rfl,fun _ _=>rfl⟩) HS2.out ?_
   (try simp only[Act.put,List.setIfInBounds_toArray,List.set_cons_zero,List.set_cons_succ])
   rw[show(kx != kx)=false by simp]
   refine Xzh (i:=7) (d:=30) (v:=.bool false) rfl rfl (by kernel_rfl) (by kernel_rfl) (by kernel_rfl) (fun _ _ _ h=>h) (Or.inl ⟨by rfl,fun _ _=>rfl⟩) HS2.out ?_
   (try simp only[Act.put,List.setIfInBounds_toArray,List.set_cons_zero,List.set_cons_succ])
   refine Xzh (i:=8) (d:=31) (v:=.bool false) rfl rfl (by kernel_rfl) (by kernel_rfl) (by kernel_rfl) (fun _ _ _ h=>h) (Or.inl ⟨by rfl,fun _ _=>rfl⟩) HS2.out ?_
   (try simp only[Act.put,List.setIfInBounds_toArray,List.set_cons_zero,List.set_cons_succ])
   refine Xzh (i:=9) (d:=32) (v:=.agg #[p0,p1,p2,p3,p4,p5,p6,p7,p8,p9,p10,p11,p12,p13,p14,p15]) rfl rfl (by kernel_rfl) (by kernel_rfl) (by kernel_rfl) (fun _ _ _ h=>h) (Or.inl ⟨by rfl,Xzk 33 (.tmp 3) (w.heap.size) 33 #[p0,p1,p2,p3,p4,p5,p6,p7,p8,p9,p10,p11,p12,p13,p14,p15] rfl rfl (fun W' hS=>Xaa K0.out hS) _ Tryz.underlying33 rfl (by kernel_rfl)⟩) HS2.out ?_
   (try simp only[Act.put,List.setIfInBounds_toArray,List.set_cons_zero,List.set_cons_succ])
   refine Xzh (i:=10) (d:=33) (v:=.agg #[q0,q1,q2,q3,q4,q5,q6,q7,q8,q9,q10,q11,q12,q13,q14,q15]) rfl rfl (by kernel_rfl) (by kernel_rfl) (by kernel_rfl) (fun _ _ _ h=>h) (Or.inl ⟨by rfl,Xzk 33 (.tmp 5) (w.heap.size+1+1) 33 #[q0,q1,q2,q3,q4,q5,q6,q7,q8,q9,q10,q11,q12,q13,q14,q15] rfl rfl (fun W' hS=>Xaa K2.out hS) _ Tryz.underlying33 rfl (by kernel_rfl)⟩) HS2.out ?_
   (try simp only[Act.put,List.setIfInBounds_toArray,List.set_cons_zero,List.set_cons_succ])
   refine Xzh (i:=12) (d:=35) (v:=.agg #[p0,p1,p2,p3,p4,p5,p6,p7,p8,p9,p10,p11,p12,p13,p14,p15]) rfl rfl (by kernel_rfl) (by kernel_rfl) (by kernel_rfl) (fun _ _ _ h=>h) (Or.inl ⟨by rfl,Xzk 33 (.tmp 3) (w.heap.size) 33 #[p0,p1,p2,p3,p4,p5,p6,p7,p8,p9,p10,p11,p12,p13,p14,p15] rfl rfl (fun W' hS=>Xaa K0.out hS) _ Tryz.underlying33 rfl (by kernel_rfl)⟩) HS2.out ?_
   (try simp only[Act.put,List.setIfInBounds_toArray,List.set_cons_zero,List.set_cons_succ])
   refine Xzh (i:=13) (d:=36) (v:=.agg #[q0,q1,q2,q3,q4,q5,q6,q7,q8,q9,q10,q11,q12,q13,q14,q15]) rfl rfl (by kernel_rfl) (by kernel_rfl) (by kernel_rfl) (fun _ _ _ h=>h) (Or.inl ⟨by rfl,Xzk 33 (.tmp 5) (w.heap.size+1+1) 33 #[q0,q1,q2,q3,q4,q5,q6,q7,q8,q9,q10,q11,q12,q13,q14,q15] rfl rfl (fun W' hS=>Xaa K2.out hS) _ Tryz.underlying33 rfl (by kernel_rfl)⟩) HS2.out ?_
   (try simp only[Act.put,List.setIfInBounds_toArray,List.set_cons_zero,List.set_cons_succ])
   refine wpAnyH_ready (rs:=[11]) (by kernel_rfl) (by simp) ?_
   refine AllReadyH.cons rfl (fun KK hKK=>?_) AllReadyH.nil
   rw[if_pos (by rfl)]
   refine Xzj 8 #[.agg #[p0,p1,p2,p3,p4,p5,p6,p7,p8,p9,p10,p11,p12,p13,p14,p15],.agg #[q0,q1,q2,q3,q4,q5,q6,q7,q8,q9,q10,q11,q12,q13,q14,q15]] (by kernel_rfl) 34 rfl ((PS.out _ HS2.out).mono ?_)
   rintro e W3 ⟨rfl,hb⟩
   have HS3:=Zh (HS2.out.trans (hb.mono HS2.out.size))
   clear hb
   refine⟨_,rfl, ?_⟩
   refine hKK.out _ _ HS3.out (fun _=>?_)
   clear hKK KK
   (try simp only[Act.put,List.setIfInBounds_toArray,List.set_cons_zero,List.set_cons_succ])
   refine wpAnyH_ready (rs:=[14]) (by kernel_rfl) (by simp) ?_
   refine AllReadyH.cons rfl (fun KK hKK=>?_) AllReadyH.nil
   rw[if_pos (by rfl)]
   refine Xzj 9 #[.agg #[p0,p1,p2,p3,p4,p5,p6,p7,p8,p9,p10,p11,p12,p13,p14,p15],.agg #[q0,q1,q2,q3,q4,q5,q6,q7,q8,q9,q10,q11,q12,q13,q14,q15]] (by kernel_rfl) 37 rfl ((PR.out _ HS3.out).mono ?_)
   rintro e W4 ⟨rfl,hb⟩
   have HS4:=Zh (HS3.out.trans (hb.mono HS3.out.size))
   clear hb
   refine⟨_,rfl, ?_⟩
   refine hKK.out _ _ HS4.out (fun _=>?_)
   clear hKK KK
   (try simp only[Act.put,List.setIfInBounds_toArray,List.set_cons_zero,List.set_cons_succ])
   refine Xzh (i:=15) (d:=38) (v:=.bool (bs != bs)) rfl rfl (by kernel_rfl) (by kernel_rfl) (by kernel_rfl) (fun _ _ _ h=>h) (Or.inl ⟨by rfl,fun _ _=>rfl⟩) HS4.out ?_
   (try simp only[Act.put,List.setIfInBounds_toArray,List.set_cons_zero,List.set_cons_succ])
   rw[show(bs != bs)=false by simp]
   refine Xzh (i:=16) (d:=39) (v:=.bool false) rfl rfl (by kernel_rfl) (by kernel_rfl) (by kernel_rfl) (fun _ _ _ h=>h) (Or.inl ⟨by rfl,fun _ _=>rfl⟩) HS4.out ?_
   (try simp only[Act.put,List.setIfInBounds_toArray,List.set_cons_zero,List.set_cons_succ])
   refine wpAnyH_done (by kernel_rfl) ?_ _
   go_wp2
   go_meet
   exact⟨rfl,HS4.out⟩
 case rest=>
 obtain⟨rfl,hb0⟩:=hcut
 have hb:=hb0.out
 change Below w8.heap.size w8 wc at hb
 clear K0 K2 PC PS PR
 replace H0:=Zh (Xaa H0.out hb)
 replace H1:=Zh (Xaa H1.out hb)
 replace H2:=Zh (Xaa H2.out hb)
 replace VX:=Zh (VX.out.since hb)
 replace VN:=Zh (VN.out.since hb)
 replace HD:=Zh (Xaf HD.out hb)
 replace HB:=Zh (HB.out.trans (hb.mono HB.out.size))
 replace VZ:=Zh (VZ.out.since hb)
 replace VT:=Zh (VT.out.since hb)
 replace H7:=Zh (Xaa H7.out hb)
 replace H8:=Zh (Xaa H8.out hb)
 clear hb hb0
 by_cases hk:kx=0
 rotate_left
 ·as_aux_lemma=>
   have t0:(kx != 0)=true:=by rw[bne_iff_ne];exact hk
   obtain⟨hq,rfl⟩:=Xzs (by rw[HKX.out];exact hk) HDA.out HDE.out
   injection hq with hq1 hq2
   have HQ1:=Zh (show Xj2 z5 .no=true by rw[hq1];simp[Xj2])
   have HQ2:=Zh (show Xis t .no=true by rw[hq2];simp[Xis])
   clear hk hq1 hq2
   rw[HKX.out]
   have tE:(kx==kx)=true:=by simp
   have f7:=fun o=>Xad H7.out o
   have f8:=fun o=>Xad H8.out o
   go_wp2_with fail
   clear f7 f8
   refine(Xez z5 .no M5 R5 L5 none none none nm5 mc5 nr5 rc5 n5 c5 0 0 0 0 0 0 _ VZ.out.hm VZ.out.hr VZ.out.hl Xzm Xzm (Xcl _ _)).mono ?_
   rw[HQ1.out]
   rintro e w13 ⟨rfl,hb⟩
   replace H0:=Zh (Xaa H0.out hb)
   replace H1:=Zh (Xaa H1.out hb)
   replace H2:=Zh (Xaa H2.out hb)
   replace VX:=Zh (VX.out.since hb)
   replace VN:=Zh (VN.out.since hb)
   replace HD:=Zh (Xaf HD.out hb)
   replace HB:=Zh (HB.out.trans (hb.mono HB.out.size))
   replace VZ:=Zh (VZ.out.since hb)
   replace VT:=Zh (VT.out.since hb)
   replace H7:=Zh (Xaa H7.out hb)
   replace H8:=Zh (Xaa H8.out hb)
   clear hb
   have f7:=fun o=>Xad H7.out o
   have f8:=fun o=>Xad H8.out o
   go_wp2_with fail
   clear f7 f8
   refine(Xii t .no D5 none T5 none dn5 dc5 0 0 tn5 tc5 0 0 _ VT.out.hd ⟨rfl,by unfold maxLen;omega,Row.nil_⟩ VT.out.ht (Xlu _ _)).mono ?_
   rw[HQ2.out]
   rintro e w16 ⟨rfl,hb⟩
   replace H0:=Zh (Xaa H0.out hb)
   replace H1:=Zh (Xaa H1.out hb)
   replace H2:=Zh (Xaa H2.out hb)
   replace VX:=Zh (VX.out.since hb)
   replace VN:=Zh (VN.out.since hb)
   replace HD:=Zh (Xaf HD.out hb)
   replace HB:=Zh (HB.out.trans (hb.mono HB.out.size))
   replace VZ:=Zh (VZ.out.since hb)
   replace VT:=Zh (VT.out.since hb)
   replace H7:=Zh (Xaa H7.out hb)
   replace H8:=Zh (Xaa H8.out hb)
   clear hb
   go_wp2
   go_ret
   exact⟨rfl,HB.out⟩
 ·as_aux_lemma=>
   have t0:(kx != 0)=false:=by rw[bne_eq_false_iff_eq];exact hk
   have HCK:=Zh (show ckM x=0 by rw[HKX.out];exact hk)
   clear hk
   go_upto_region 7 with(fail)
   go_wp2_with (first|(refine Xao rfl 33 (.tmp 3) rfl (w.heap.size) _ _ rfl H0.out _ Tryz.underlying33 rfl Tryz.sizeMach ?_)|(refine Xao rfl 37 (.tmp 4) rfl (w.heap.size+1) _ _ rfl H1.out _ Tryz.underlying37 rfl Tryz.sizeHap ?_))
   have HE2:=Xl5 x y M R L AD nm mc nr rc n c nd cd _ _ VX.out HD.out HCK.out
   rw[HDA.out,HDE.out]at HE2
   refine HE2.mono ?_
   clear HE2
   rintro e w13 ⟨M6,nm6,mc6,R6,nr6,rc6,L6,n6,c6,D6,dn6,dc6,T6,tn6,tc6,rfl,hv6,ht6,hb⟩
   replace H0:=Zh (Xaa H0.out hb)
   replace H1:=Zh (Xaa H1.out hb)
   replace H2:=Zh (Xaa H2.out hb)
   replace VX:=Zh (VX.out.since hb)
   replace VN:=Zh (VN.out.since hb)
   replace HD:=Zh (Xaf HD.out hb)
   replace HB:=Zh (HB.out.trans (hb.mono HB.out.size))
   replace VZ:=Zh (VZ.out.since hb)
   replace VT:=Zh (VT.out.since hb)
   replace H7:=Zh (Xaa H7.out hb)
   replace H8:=Zh (Xaa H8.out hb)
   have VY:=Zh (hv6.lt.av (Av':=fun q=>q<w13.heap.size) (fun q hq=>hq.2))
   have VU:=Zh (ht6.lt.av (Av':=fun q=>q<w13.heap.size) (fun q hq=>hq.2))
   have hz13:=hb.size
   clear hb hv6 ht6
   go_upto_region 8 with(first
    |(refine Xaj rfl 33 (.tmp 11) (.tmp 59) rfl (w13.heap.size) _ _ (M_.m z5 M6 nm6 mc6 R6 nr6 rc6 L6 n6 c6) rfl rfl (Xab (Xac w13 _ _ rfl) _) Tryz.sizeMach rfl rfl ?_;intro w14 h14 t14)
    |(refine Xaj rfl 40 (.tmp 12) (.tmp 60) rfl (w13.heap.size+1) _ _ #[.bool t.done,.slice D6 dn6 dc6,.int .i64 t.fault,.slice T6 tn6 tc6] rfl rfl (Xam (Xac (w13.alloc _) _ _ (by simp)) t14 (Nat.succ_ne_self _)) Tryz.sizeTold rfl rfl ?_;intro w15 h15 t15))
   have hw14:=t14.2
   have hw15:=t15.2
   (try simp only[World.size_alloc]at hw14)
   have hz15a:w15.heap.size≤w13.heap.size+2:=by omega
   have hz15b:w13.heap.size+2≤w15.heap.size:=by omega
   have Cx:=Xa4 (Xbp (Q:=fun q=>w13.heap.size≤q) t14.1 (fun q _ e=>by omega)) (Xbp t15.1 (fun q _ e=>by omega))
   have hb:Below w13.heap.size w13 w15:=Xa8 (((Below.refl w13.heap.size w13).alloc (Nat.le_refl _) _).alloc (by simp) _) (by simp;omega) Cx (fun q hq e=>by omega)
   have H11:=Zh (Xam h14 t15 (Nat.ne_of_lt (Nat.lt_succ_self _)))
   have H12:=Zh h15
   replace H0:=Zh (Xaa H0.out hb)
   replace H1:=Zh (Xaa H1.out hb)
   replace H2:=Zh (Xaa H2.out hb)
   replace VX:=Zh (VX.out.since hb)
   replace VN:=Zh (VN.out.since hb)
   replace HD:=Zh (Xaf HD.out hb)
   replace HB:=Zh (HB.out.trans (hb.mono HB.out.size))
   replace VZ:=Zh (VZ.out.since hb)
   replace VT:=Zh (VT.out.since hb)
   replace H7:=Zh (Xaa H7.out hb)
   replace H8:=Zh (Xaa H8.out hb)
   replace VY:=Zh (VY.out.since hb)
   replace VU:=Zh (VU.out.since hb)
   clear hb Cx t14 t15 h14 h15 hw14 hw15
   have tE:(E==E)=true:=by simp
   have HQ1:=Zh (show Xj2 z5 z5=true by simp[Xj2])
   have HQ2:=Zh (show Xis t t=true by simp[Xis])
   have f7:=fun o=>Xad H7.out o
   have f8:=fun o=>Xad H8.out o
   have f11:=fun o=>Xad H11.out o
   have f12:=fun o=>Xad H12.out o
   go_wp2_with fail
   clear f7 f8 f11 f12
   refine(Xez z5 z5 M5 R5 L5 M6 R6 L6 nm5 mc5 nr5 rc5 n5 c5 nm6 mc6 nr6 rc6 n6 c6 _ VZ.out.hm VZ.out.hr VZ.out.hl VY.out.hm VY.out.hr VY.out.hl).mono ?_
   rw[HQ1.out]
   rintro e w16 ⟨rfl,hb⟩
   replace H0:=Zh (Xaa H0.out hb)
   replace H1:=Zh (Xaa H1.out hb)
   replace H2:=Zh (Xaa H2.out hb)
   replace VX:=Zh (VX.out.since hb)
   replace VN:=Zh (VN.out.since hb)
   replace HD:=Zh (Xaf HD.out hb)
   replace HB:=Zh (HB.out.trans (hb.mono HB.out.size))
   replace VZ:=Zh (VZ.out.since hb)
   replace VT:=Zh (VT.out.since hb)
   replace H7:=Zh (Xaa H7.out hb)
   replace H8:=Zh (Xaa H8.out hb)
   replace VY:=Zh (VY.out.since hb)
   replace VU:=Zh (VU.out.since hb)
   replace H11:=Zh (Xaa H11.out hb)
   replace H12:=Zh (Xaa H12.out hb)
   clear hb
   have f7:=fun o=>Xad H7.out o
   have f8:=fun o=>Xad H8.out o
   have f11:=fun o=>Xad H11.out o
   have f12:=fun o=>Xad H12.out o
   go_wp2_with fail
   clear f7 f8 f11 f12
   refine(Xii t t D5 D6 T5 T6 dn5 dc5 dn6 dc6 tn5 tc5 tn6 tc6 _ VT.out.hd VU.out.hd VT.out.ht VU.out.ht).mono ?_
   rw[HQ2.out]
   rintro e w17 ⟨rfl,hb⟩
   replace H0:=Zh (Xaa H0.out hb)
   replace H1:=Zh (Xaa H1.out hb)
   replace H2:=Zh (Xaa H2.out hb)
   replace VX:=Zh (VX.out.since hb)
   replace VN:=Zh (VN.out.since hb)
   replace HD:=Zh (Xaf HD.out hb)
   replace HB:=Zh (HB.out.trans (hb.mono HB.out.size))
   replace VZ:=Zh (VZ.out.since hb)
   replace VT:=Zh (VT.out.since hb)
   replace H7:=Zh (Xaa H7.out hb)
   replace H8:=Zh (Xaa H8.out hb)
   replace VY:=Zh (VY.out.since hb)
   replace VU:=Zh (VU.out.since hb)
   replace H11:=Zh (Xaa H11.out hb)
   replace H12:=Zh (Xaa H12.out hb)
   clear hb
   go_wp2
   go_ret
   exact⟨rfl,HB.out⟩
end
end
section
open Go.RowKit
set_option linter.unusedSimpArgs false
set_option linter.unusedVariables false
open Go.ChangeShapes Go.WideShapes Go.ChangeAt
set_option maxRecDepth 100000 in
theorem Xzi (os:Os) (started:os.Started) (H:Type) (enc:TypeId×Value→H) :
  ReturnsInHanded {} Tryz.checked os 3 .any (Rows.machineSaysSpec.pre6 enc Tryz.prog Tryz.f3 Rows.machineSaysRow.domain false) (Rows.machineSaysSpec.post enc Tryz.prog Tryz.f3 false true false false):=by
 refine returnsInHanded_of_change (C:=Tryz.checked) Tryz.own started (by kernel_rfl) Tryz.func3
  (ChangeSpec.witness6 (enc:=enc) (C:=Tryz.checked) false ⟨#[],#[.agg B_.y,.agg #[.int .i64 0,.int .i64 0,.int .i64 0,.int .i64 0,.int .i64 0,.bool false,.slice none 0 0],.agg B_.y],[]⟩ 8 (by kernel_rfl) (by kernel_rfl) (by kernel_rfl) (by kernel_rfl)) ?_
 intro W base args ds gs before hval0 hW hcnd _
 have hval:∀(j:Nat) t v,Tryz.f3.params[j]?=some t→args[j]?=some v→Value.okWide Tryz.prog W .any base t v:=hval0
 have hW':=hW
 obtain⟨p,q,hA0,hV,hps,hfz,hnd⟩:=hW
 have hA:DataW.TrodAll enc Tryz.prog W 0 (fun _=>true) true Tryz.f3.params.toList args.toList ds p:=hA0
 rw[Tryz.params3]at hA hval
 clear hA0 hval0 hcnd
 obtain⟨v0,vs0,d0,ds0,p0,q0,hargs,rfl,hp0,h0,r0⟩:=trodAll_cons hA
 obtain⟨v1,vs1,d1,ds1,p1,q1,rfl,rfl,hp1,h1,r1⟩:=trodAll_cons r0
 obtain⟨v2,vs2,d2,ds2,p2,q2,rfl,rfl,hp2,h2,r2⟩:=trodAll_cons r1
 obtain⟨rfl,rfl,_⟩:=trodAll_nil r2
 obtain rfl:args=#[v0,v1,v2]:=by cases args;simp_all
 obtain⟨rfl,rfl⟩:=trodVars_none hV
 obtain⟨x,M,R,L,nm,mc,nr,rc,n,c,rfl,hM,hR,hL⟩:=Xmh (hval 0 33 v0 rfl rfl) h0
 obtain⟨y,AD,nd,cd,rfl,hD⟩:=Xzr (hval 1 37 v1 rfl rfl) h1
 obtain⟨z,MN,RN,LN,nmn,mcn,nrn,rcn,nn,cn,rfl,gM,gR,gL⟩:=Xmh (hval 2 33 v2 rfl rfl) h2
 refine(Xzl x z y M R L MN RN LN AD nd cd W nm mc nr rc n c nmn mcn nrn rcn nn cn hM hR hL hD gM gR gL).mono fun e W' ⟨he,hb⟩=>?_
 subst he
 exact⟨_,rfl,Xvk Tryz.laidOut (by kernel_rfl) rfl Tryz.underlying4 rfl hW' rfl rfl rfl hb⟩
theorem machineSays_holds:Rows.MachineSaysSaid:=
 OpenClaim.holds_of_wide 3 Tryz.f3 rfl rfl rfl rfl rfl rfl rfl ⟨rfl,rfl,rfl,rfl,rfl⟩ rfl rfl rfl rfl rfl (by kernel_rfl) Tryz.func3 (by kernel_rfl)
  (of_decide_eq_true (by kernel_rfl)) (by unfold Func.isWrapper;first|(rw[if_pos (by decide +kernel)];kernel_rfl)|(rw[if_neg (by decide +kernel)];exact⟨rfl,rfl⟩))
  (fun os started H enc _=>Xzi os started H enc)
end
end Go.Proofs.YtbopdijnojaaiadGreat
