/- The hart: a region of six names that are laid in whatever order. No statement of the seat is proved here. -/
import Derived.Test.YtbopdijnojaaiadGreatHartP
import Derived.Test.YtbopdijnojaaiadGreatBase
import Derived.Test.YtbopdijnojaaiadGreatDrop
import Derived.Deep.RegionHeld3
import Derived.Maps.Views
namespace Go.Proofs.YtbopdijnojaaiadGreat
set_option maxRecDepth 100000
set_option maxHeartbeats 4000000
open Go.RowKit
set_option linter.unusedSimpArgs false
set_option linter.unusedVariables false
section
theorem Xq2 (b:Brg) {k:Int} (h:0≤k∧k<10):[Value.int .i64 b.mode,.int .i64 b.base,.int .i64 b.orders.page,.int .i64 b.orders.tail,.int .i64 b.orders.head,.int .i64 b.faults.page,.int .i64 b.faults.head,.int .i64 b.faults.tail,.int .i64 b.fences,.int .i64 (stB b)][k.toNat]?=some (.int .i64 (Xf4 b k)):=by
 have hk:k=0∨k=1∨k=2∨k=3∨k=4∨k=5∨k=6∨k=7∨k=8∨k=9:=by omega
 rcases hk with rfl|rfl|rfl|rfl|rfl|rfl|rfl|rfl|rfl|rfl<;>rfl
def inV (b:Brg) (k:Int):Int:=if k<10 then Xf4 b k else 0
theorem Xte (b:Brg) (A:Option Addr) (n c:Nat) (k:Int) (w:World) (hk:0≤k) :
  Calls Tryz.prog 69 #[.agg (B_.b b A n c),.int .i64 k] w fun e w'=>e=.returned (.tuple #[.int .i64 (inV b k),.bool (decide (k<10))])∧Below w.heap.size w w':=by
 have HB:=Zh (Xag w)
 by_cases h:k<10
 ·have HS:=Xq2 b ⟨hk,h⟩
  rw[show inV b k=Xf4 b k by unfold inV;rw[if_pos h],show decide (k<10)=true by simp[h]]
  have e0:IntKind.i64.wrap (0+2)=2:=by decide
  have e1:IntKind.i64.wrap (1+2)=3:=by decide
  cases hs:b.stopped<;>cases hl:b.lost
  all_goals
   simp only[stB,hs,hl,if_true,if_false,Bool.false_eq_true,Int.add_zero,Int.zero_add]at HS
   obtain⟨hlt,hg⟩:=List.getElem?_eq_some_iff.1 HS
   have HG:=Zh hg
   clear hg HS
   go_enter Tryz.func69,Tryz.ntmps69
   go_wp2
   go_ret2
   simp only[Array.getD_eq_getD_getElem?,List.getElem?_toArray,List.getElem?_cons_zero,List.getElem?_cons_succ,Option.getD_some]
   exact⟨congrArg (fun v=>Ending.returned (.tuple #[v,.bool true])) HG.out,bl (by repeat' first|with_reducible(first|assumption|constructor)|((try simp)<;>omega))⟩
 ·rw[show inV b k=0 by unfold inV;rw[if_neg h],show decide (k<10)=false by simp[h]]
  cases hs:b.stopped<;>cases hl:b.lost
  all_goals
   go_enter Tryz.func69,Tryz.ntmps69
   go_wp2
   go_ret2
   exact⟨rfl,bl (by repeat' first|with_reducible(first|assumption|constructor)|((try simp)<;>omega))⟩
end
section
open Go.Maps
theorem Tryz.zeroPtr (w:World):(zeroValue 155).run Tryz.prog w=.ok (.pointer none) w:=by kernel_rfl
def ptr (g o:Nat):Value:=.pointer (some ⟨g,o,none⟩)
def ptrV (g:Nat) (k:Int):Value:=if k=0 then ptr g 0 else if k=1 then ptr g 1 else if k=2 then ptr g 3 else if k=3 then ptr g 5 else if k=5 then ptr g 8 else if k=6 then ptr g 9 else .pointer none
def bL (x0 x1 x2 x3 x4 x5:Bool):Array Bool:=#[true,true,true,true,x0,true,true,true,x1,true,true,true,true,x2,true,true,true,true,x3,true,true,true,true,x4,true,true,true,true,x5,false,true,false,false]
def bN (x:Bool) (i:Nat):List Nat:=if x then[]else[i]
def bR (x0 x1 x2 x3 x4 x5:Bool):List Nat:=bN x0 4 ++ (bN x1 8 ++ (bN x2 13 ++ (bN x3 18 ++ (bN x4 23 ++ bN x5 28))))
def bC (x0 x1 x2 x3 x4 x5:Bool):Nat:=(if x0 then 0 else 1)+(if x1 then 0 else 1)+(if x2 then 0 else 1)+(if x3 then 0 else 1)+(if x4 then 0 else 1)+(if x5 then 0 else 1)
def bK (g:Nat) (x0 x1 x2 x3 x4 x5:Bool) (k:Int) (z:DataW Value):DataW Value:=
 if k=0∧x0=true then .held (ptr g 0)else if k=1∧x1=true then .held (ptr g 1)else if k=2∧x2=true then .held (ptr g 3)else
 if k=3∧x3=true then .held (ptr g 5)else if k=5∧x4=true then .held (ptr g 8)else if k=6∧x5=true then .held (ptr g 9)else z
def BInv (g:Nat) (x0 x1 x2 x3 x4 x5:Bool) (D:DataW Value):Prop:=IsMap D∧∀ k z,D.atKey (.int .i64 k) z=bK g x0 x1 x2 x3 x4 x5 k z
theorem Xju (g:Nat) (k:Int):bK g true true true true true true k (.held (.pointer none))=.held (ptrV g k):=by
 unfold bK ptrV
 simp only[and_true]
 repeat' split
 all_goals rfl
theorem Xgr {g:Nat} {x0 x1 x2 x3 x4 x5 y0 y1 y2 y3 y4 y5:Bool} {D:DataW Value} {kk:Int} {p:Value} (h:BInv g x0 x1 x2 x3 x4 x5 D) (hk:WideAt.IsKeyLit (.int .i64 kk))
  (h1:∀ z,bK g y0 y1 y2 y3 y4 y5 kk z=.held p) (h2:∀ k z,k≠kk→bK g x0 x1 x2 x3 x4 x5 k z=bK g y0 y1 y2 y3 y4 y5 k z):BInv g y0 y1 y2 y3 y4 y5 (D.put (.int .i64 kk) (.held p)):=by
 refine⟨(by obtain⟨es,rfl⟩:=h.1;exact⟨_,rfl⟩),fun k z=>?_⟩
 by_cases e:k=kk
 ·subst e;rw[atKey_put_same h.1 hk,h1]
 ·rw[atKey_put_other (Xgw e),h.2,h2 _ _ e]
def Xoo (ops:Array Oper) (a:Act) (g H i:Nat) (kk:Int) (off:Nat):Prop:=
 ∃ o tt,ops[i]?=some o∧o.guard=none∧o.dst=none∧o.op=Op.insert 156 (.tmp 21) (.const (.int .i64 kk)) (.tmp tt)∧a.eval (.tmp tt)=ptr g off∧a.eval (.tmp 21)=.map (some H)
theorem Xh9 {ops:Array Oper} {Q:Exit→Act→World→Prop} {K:Act→World→Prop} {a:Act} {g H i off:Nat} {kk:Int} (hi:Xoo ops a g H i kk off) {W:World} {n:Nat} {D:DataW Value}
  (hown:W.ownsMap Tryz.prog 3 Xdw H n D) (hn:n<maxLen) (hkey:keyOf Tryz.prog 3 (.int .i64 kk)=some (.int .i64 kk))
  (hK:∀ W',W'.ownsMap Tryz.prog 3 Xdw H (n+1) (D.put (.int .i64 kk) (.held (ptr g off)))→W.grownBy W' (some H)→K a W'):wpOp Tryz.prog ops Q i K a W:=by
 obtain⟨o,tt,ho,hg,hd,hop,hv,hm⟩:=hi
 obtain⟨w',hrun,r1,r2⟩:=hown.update Tryz.keyInt Tryz.underlying156 hn hkey (show Xdw (ptr g off)=some (.held (ptr g off),[])from rfl)
 unfold wpOp
 rw[ho]
 dsimp only
 rw[if_pos (by simp[Region.wanted,hg])]
 left
 unfold Oper.wp
 have hx:a.eval (.const (.int .i64 kk))=.int .i64 kk:=rfl
 simp[execOp,hop,hm,hx,hv,hrun,Result.andThen]
 have h2:=hK _ r1 r2
 first
  |exact h2
  |(show K (a.put o.dst undef) w';rw[hd];exact h2)
theorem Xg4 {ops:Array Oper} {Q:Exit→Act→World→Prop} {a:Act} {g H:Nat} {w0:World} (hH:w0.heap.size≤H)
  (i0:Xoo ops a g H 4 0 0) (i1:Xoo ops a g H 8 1 1) (i2:Xoo ops a g H 13 2 3) (i3:Xoo ops a g H 18 3 5) (i4:Xoo ops a g H 23 5 8) (i5:Xoo ops a g H 28 6 9)
  (hr:∀ x0 x1 x2 x3 x4 x5,(x0&&x1&&x2&&x3&&x4&&x5)=false→Region.ready .any ops (bL x0 x1 x2 x3 x4 x5)=bR x0 x1 x2 x3 x4 x5)
  (hfin:∀ W D,W.ownsMap Tryz.prog 3 Xdw H 6 D→BInv g true true true true true true D→Xan w0 W→wpAnyH Tryz.prog .any ops Q (fun _=>True) 3 (bL true true true true true true) a W) :
  ∀(m:Nat) (x0 x1 x2 x3 x4 x5:Bool) (W:World) (n:Nat) (D:DataW Value),bC x0 x1 x2 x3 x4 x5=m→W.ownsMap Tryz.prog 3 Xdw H n D→n+m=6→BInv g x0 x1 x2 x3 x4 x5 D→Xan w0 W →
   wpAnyH Tryz.prog .any ops Q (fun _=>True) (3+m) (bL x0 x1 x2 x3 x4 x5) a W:=by
 intro m
 induction m with
 |zero=>
  intro x0 x1 x2 x3 x4 x5 W n D hm hown hn hD hS
  obtain⟨rfl,rfl,rfl,rfl,rfl,rfl⟩:x0=true∧x1=true∧x2=true∧x3=true∧x4=true∧x5=true:=by
   revert hm;unfold bC;cases x0<;>cases x1<;>cases x2<;>cases x3<;>cases x4<;>cases x5<;>simp
  have:n=6:=by omega
  subst this
  exact hfin W D hown hD hS
 |succ m ih=>
  intro x0 x1 x2 x3 x4 x5 W n D hm hown hn hD hS
  have hne:(x0&&x1&&x2&&x3&&x4&&x5)=false:=by
   revert hm;unfold bC;cases x0<;>cases x1<;>cases x2<;>cases x3<;>cases x4<;>cases x5<;>simp
  have hmx:n<maxLen:=by unfold maxLen;omega
  have key:∀(kk:Int),(Lit.int .i64 kk).wf=true→keyOf Tryz.prog 3 (.int .i64 kk)=some (.int .i64 kk):=fun kk hw=>keyOf_int_mk Tryz.underlying3 hw
  have hsn:∀{W':World},W.grownBy W' (some H)→Xan w0 W':=fun hg=>Below.grown hS hg hS.size (by intro k hk;cases hk;exact hH)
  refine wpAnyH_all (hr _ _ _ _ _ _ hne) ?_ ?_
  ·revert hne;unfold bR bN;cases x0<;>cases x1<;>cases x2<;>cases x3<;>cases x4<;>cases x5<;>simp
  ·intro i hi
   unfold bR bN at hi
   simp only[List.mem_append]at hi
   rcases hi with hi|hi|hi|hi|hi|hi
   ·cases x0
    ·simp at hi;subst hi
     refine Xh9 i0 hown hmx (key _ (by decide)) (fun W' ho hg=>⟨trivial, ?_⟩)
     exact ih true x1 x2 x3 x4 x5 W' (n+1) _ (by revert hm;unfold bC;simp;try omega) ho (by omega) (Xgr hD trivial (fun z=>rfl) (fun k z h=>by simp[bK,h])) (hsn hg)
    ·simp at hi
   ·cases x1
    ·simp at hi;subst hi
     refine Xh9 i1 hown hmx (key _ (by decide)) (fun W' ho hg=>⟨trivial, ?_⟩)
     exact ih x0 true x2 x3 x4 x5 W' (n+1) _ (by revert hm;unfold bC;simp;try omega) ho (by omega) (Xgr hD trivial (fun z=>by simp[bK]) (fun k z h=>by simp[bK,h])) (hsn hg)
    ·simp at hi
   ·cases x2
    ·simp at hi;subst hi
     refine Xh9 i2 hown hmx (key _ (by decide)) (fun W' ho hg=>⟨trivial, ?_⟩)
     exact ih x0 x1 true x3 x4 x5 W' (n+1) _ (by revert hm;unfold bC;simp;try omega) ho (by omega) (Xgr hD trivial (fun z=>by simp[bK]) (fun k z h=>by simp[bK,h])) (hsn hg)
    ·simp at hi
   ·cases x3
    ·simp at hi;subst hi
     refine Xh9 i3 hown hmx (key _ (by decide)) (fun W' ho hg=>⟨trivial, ?_⟩)
     exact ih x0 x1 x2 true x4 x5 W' (n+1) _ (by revert hm;unfold bC;simp;try omega) ho (by omega) (Xgr hD trivial (fun z=>by simp[bK]) (fun k z h=>by simp[bK,h])) (hsn hg)
    ·simp at hi
   ·cases x4
    ·simp at hi;subst hi
     refine Xh9 i4 hown hmx (key _ (by decide)) (fun W' ho hg=>⟨trivial, ?_⟩)
     exact ih x0 x1 x2 x3 true x5 W' (n+1) _ (by revert hm;unfold bC;simp;try omega) ho (by omega) (Xgr hD trivial (fun z=>by simp[bK]) (fun k z h=>by simp[bK,h])) (hsn hg)
    ·simp at hi
   ·cases x5
    ·simp at hi;subst hi
     refine Xh9 i5 hown hmx (key _ (by decide)) (fun W' ho hg=>⟨trivial, ?_⟩)
     exact ih x0 x1 x2 x3 x4 true W' (n+1) _ (by revert hm;unfold bC;simp;try omega) ho (by omega) (Xgr hD trivial (fun z=>by simp[bK]) (fun k z h=>by simp[bK,h])) (hsn hg)
    ·simp at hi
end
end Go.Proofs.YtbopdijnojaaiadGreat
