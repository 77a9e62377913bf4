/- Orders and faults as words: the walks of ReadOrder and ReadFault. No statement of the seat is proved here. -/
import Derived.Test.YtbopdijnojaaiadGreatProg
import Derived.Test.YtbopdijnojaaiadGreatBits
import Derived.Test.YtbopdijnojaaiadGreatSlices
import Derived.Test.YtbopdijnojaaiadGreatBase
namespace Go.Proofs.YtbopdijnojaaiadGreat
set_option maxRecDepth 100000
set_option maxHeartbeats 1000000
open Go.RowKit
set_option linter.unusedSimpArgs false
set_option linter.unusedVariables false
section
section
def OrdR (k d p:Int):Prop:=0≤k∧k≤3∧0≤d∧d<8∧0≤p∧p<64
def OrdF (k d p:Int):Prop:=(k<2→d=0)∧(k<3→p=0)
instance (k d p:Int):Decidable (OrdR k d p):=by unfold OrdR;infer_instance
instance (k d p:Int):Decidable (OrdF k d p):=by unfold OrdF;infer_instance
def ordE (k d p:Int):Int:=if OrdR k d p then(if OrdF k d p then 0 else 3)else 2
def ordW (k d p:Int):Int:=if ordE k d p=0 then k+4 * d+32 * p else 0
theorem Xo3 {k d p:Int} (h:¬OrdR k d p):ordE k d p=2:=by simp[ordE,h]
theorem Xo4 {k d p:Int} (h:OrdR k d p) (h':¬OrdF k d p):ordE k d p=3:=by simp[ordE,h,h']
theorem Xkc {k d p:Int} (h:OrdR k d p) (h':OrdF k d p):ordE k d p=0:=by simp[ordE,h,h']
theorem Xo2 {k d p:Int} (h:ordE k d p=0):ordW k d p=k+4 * d+32 * p:=by simp[ordW,h]
theorem Xo1 {k d p n:Int} (h:ordE k d p=n) (hn:n≠0):ordW k d p=0:=by simp[ordW,h,hn]
theorem Xk1 {k d p:Int} (h:ordE k d p=0):OrdR k d p∧OrdF k d p:=by
 unfold ordE at h
 split at h
 ·rename_i hr;split at h
  ·rename_i hf;exact⟨hr,hf⟩
  ·cases h
 ·cases h
theorem Xu8 {k d p:Int} (h:OrdR k d p) (hf:OrdF k d p):bits .or .i64 (bits .or .i64 k (d * 4)) (p * 32)=ordW k d p:=by
 rw[Xo2 (Xkc h hf)]
 obtain⟨h1,h2,h3,h4,h5,h6⟩:=h
 rw[Xe0 k,or4 (d * 4) k (by omega) (by omega) (by omega) (by omega) (by omega),Xe0,Xil 5 p.toNat (p * 32) (d * 4+k) (by omega) (by omega) (by omega) (by omega) (by omega)]
 omega
def FltR (c d p:Int):Prop:=1≤c∧c≤5∧0≤d∧d<8∧0≤p∧p<64
instance (c d p:Int):Decidable (FltR c d p):=by unfold FltR;infer_instance
def fltE (c d p:Int):Int:=if FltR c d p then 0 else 2
def fltW (c d p:Int) (r:Bool):Int:=if fltE c d p=0 then c+8 * d+64 * p+(if r then 4096 else 0)else 0
theorem Xpf {c d p:Int} (h:¬FltR c d p):fltE c d p=2:=by simp[fltE,h]
theorem Xhp {c d p:Int} (h:FltR c d p):fltE c d p=0:=by simp[fltE,h]
theorem Xvu {c d p:Int} (h:fltE c d p=0):FltR c d p:=by
 unfold fltE at h;split at h
 ·assumption
 ·cases h
theorem Xmq {c d p:Int} {r:Bool} (h:fltE c d p=0):fltW c d p r=c+8 * d+64 * p+(if r then 4096 else 0):=by simp[fltW,h]
theorem Xwv {c d p n:Int} {r:Bool} (h:fltE c d p=n) (hn:n≠0):fltW c d p r=0:=by simp[fltW,h,hn]
theorem Xtq {c d p:Int} (h:FltR c d p):bits .or .i64 (bits .or .i64 c (d * 8)) (p * 64)=c+8 * d+64 * p:=by
 obtain⟨h1,h2,h3,h4,h5,h6⟩:=h
 rw[Xe0 c,or8 (d * 8) c (by omega) (by omega) (by omega) (by omega) (by omega),Xe0,Xil 6 p.toNat (p * 64) (d * 8+c) (by omega) (by omega) (by omega) (by omega) (by omega)]
 omega
theorem Xtp {c d p:Int} (h:FltR c d p):bits .or .i64 (c+8 * d+64 * p) 4096=fltW c d p true:=by
 rw[Xmq (Xhp h)]
 obtain⟨h1,h2,h3,h4,h5,h6⟩:=h
 rw[Xe0,Xil 12 1 4096 (c+8 * d+64 * p) (by omega) (by omega) (by omega) (by omega) (by omega)]
 simp;omega
theorem fltW_f {c d p:Int} (h:FltR c d p):c+8 * d+64 * p=fltW c d p false:=by rw[Xmq (Xhp h)];simp
-- what a word is read as
def rdoE (v:Int):Int:=if 0≤v∧v≤65535 then(if ordE (v % 4) (v / 4 % 8) (v / 32)=0 then 0 else 3)else 2
def rdoF (v x:Int):Int:=if rdoE v=0 then x else 0
def rdoV (v:Int):Value:=.tuple #[.agg #[.int .i64 (rdoF v (v % 4)),.int .i64 (rdoF v (v / 4 % 8)),.int .i64 (rdoF v (v / 32))],.int .i64 (rdoE v)]
theorem Xwp {v:Int} (h:¬(0≤v∧v≤65535)):rdoE v=2:=by simp only[rdoE,if_neg h]
theorem Xsd {v:Int} (h:0≤v∧v≤65535) (h':ordE (v % 4) (v / 4 % 8) (v / 32)≠0):rdoE v=3:=by simp only[rdoE,if_pos h,if_neg h']
theorem Xwq {v:Int} (h:0≤v∧v≤65535) (h':ordE (v % 4) (v / 4 % 8) (v / 32)=0):rdoE v=0:=by simp only[rdoE,if_pos h,if_pos h']
theorem Xoz {v:Int} (h:rdoE v=0):(0≤v∧v≤65535)∧ordE (v % 4) (v / 4 % 8) (v / 32)=0:=by
 unfold rdoE at h
 split at h
 ·rename_i hr;split at h
  ·rename_i hf;exact⟨hr,hf⟩
  ·cases h
 ·cases h
theorem Xl6 {v n:Int} (h:rdoE v=n) (hn:n≠0):Ending.returned (.tuple #[.agg #[.int .i64 0,.int .i64 0,.int .i64 0],.int .i64 n])=.returned (rdoV v):=by simp[rdoV,rdoF,h,hn]
theorem Xwo {v:Int} (h:rdoE v=0):Ending.returned (.tuple #[.agg #[.int .i64 (v % 4),.int .i64 (v / 4 % 8),.int .i64 (v / 32)],.int .i64 0])=.returned (rdoV v):=by simp[rdoV,rdoF,h]
theorem Xoy {v:Int} (h:0≤v∧v≤65535):(ordE (v % 4) (v / 4 % 8) (v / 32)=0)↔(ordE (v % 4) (v / 4 % 8) (v / 32 % 64)=0∧ordW (v % 4) (v / 4 % 8) (v / 32 % 64)=v):=by
 constructor
 ·intro h0
  obtain⟨⟨a1,a2,a3,a4,a5,a6⟩,hf⟩:=Xk1 h0
  have e:v / 32 % 64=v / 32:=by omega
  rw[e]
  refine⟨h0, ?_⟩
  rw[Xo2 h0];omega
 ·rintro⟨h0,h1⟩
  rw[Xo2 h0]at h1
  have e:v / 32 % 64=v / 32:=by omega
  rwa [e]at h0
end
section
structure Flt where
 cause:Int
 dev:Int
 page:Int
 wr:Bool
def Flt.val (f:Flt):Value:=.agg #[.int .i64 f.cause,.int .i64 f.dev,.int .i64 f.page,.bool f.wr]
theorem Flt.ext' {x y:Flt} (h1:x.cause=y.cause) (h2:x.dev=y.dev) (h3:x.page=y.page) (h4:x.wr=y.wr):x=y:=by
 cases x;cases y;simp only[]at *;subst h1;subst h2;subst h3;subst h4;rfl
instance:DecidableEq Flt:=fun x y=>
 if h:x.cause=y.cause∧x.dev=y.dev∧x.page=y.page∧x.wr=y.wr then isTrue (Flt.ext' h.1 h.2.1 h.2.2.1 h.2.2.2)else isFalse (fun e=>h (by subst e;exact⟨rfl,rfl,rfl,rfl⟩))
def Flt.e (f:Flt):Int:=fltE f.cause f.dev f.page
def Flt.w (f:Flt):Int:=fltW f.cause f.dev f.page f.wr
theorem Xk6 {f:Flt} (h:f.e=0):0≤f.w∧f.w<8192:=by
 have:=Xvu h
 unfold FltR at this
 unfold Flt.w
 rw[Xmq h]
 split<;>omega
def Xdu (xs:List Int) (b:Brg) (v:Int):List Int×Brg:=
 if b.lost=true then(xs,b)else if lenR b.faults=7 then(xs,{ b with lost:=true })else(Xj4 xs b.faults v,{ b with faults:=Xqe b.faults })
theorem Xnm {xs:List Int} {b:Brg} (h:cm xs=0) (h':ckB b=0):allE xs b=0:=by unfold allE;rw[if_pos h,h']
def Xe1 (xs:List Int) (b:Brg):Int:=if allE xs b=0 then(if b.stopped=true then 6 else popE xs b.orders)else allE xs b
def Xga (xs:List Int) (b:Brg):Brg:=
 if rdoE (popV xs b.orders)=0 then{ b with cache:=Xfn b.cache (popV xs b.orders % 4) (popV xs b.orders / 4 % 8) (popV xs b.orders / 32),orders:=popR b.orders,fences:=if popV xs b.orders % 4=0 then(b.fences+1) % 1000 else b.fences }
 else{ b with stopped:=true }
def Xep (xs:List Int) (b:Brg):Brg:=if Xe1 xs b=0 then Xga xs b else .no
theorem Xxv {xs:List Int} {b:Brg} (h:cm xs=0) (h':ckB b=0):Xe1 xs b=if b.stopped=true then 6 else if lenR b.orders=0 then 6 else 0:=by
 unfold Xe1 popE
 rw[if_pos (Xnm h h'),if_pos (Xlf h ((Xbn b).1 h').2.2.1)]
theorem Xn3 {v:Int} (h:rdoE v=0):(0≤v∧v≤65535)∧OrdR (v % 4) (v / 4 % 8) (v / 32):=⟨(Xoz h).1,(Xk1 (Xoz h).2).1⟩
end
end
section
section
theorem Xkm (k d p:Int) (w:World):Calls Tryz.prog 72 #[.agg #[.int .i64 k,.int .i64 d,.int .i64 p]] w fun e w'=>e=.returned (.tuple #[.int .i64 (ordW k d p),.int .i64 (ordE k d p)])∧Below w.heap.size w w':=by
 have HB:=Zh (Xag w)
 by_cases hR:OrdR k d p
 ·have HR:=Zh hR
  unfold OrdR at hR
  obtain⟨h1,h2,h3,h4,h5,h6⟩:=hR
  by_cases hF:OrdF k d p
  ·have HF:=Zh hF
   have E:=Xu8 HR.out hF
   unfold OrdF at hF
   obtain⟨f1,f2⟩:=hF
   rcases(by omega:k<2∨k=2∨k=3)with hk|rfl|rfl
   ·obtain rfl:=f1 hk
    obtain rfl:=f2 (by omega)
    clear f1 f2
    rw[Int.zero_mul,Int.zero_mul]at E
    have E':=Zh E;clear E
    go_enter Tryz.func72,Tryz.ntmps72
    go_wp2
    go_ret2
    exact⟨Xcj E'.out (Xkc HR.out HF.out).symm,HB.out _⟩
   ·obtain rfl:=f2 (by omega)
    clear f1 f2
    rw[Int.zero_mul]at E
    have E':=Zh E;clear E
    go_enter Tryz.func72,Tryz.ntmps72
    go_wp2
    go_ret2
    exact⟨Xcj E'.out (Xkc HR.out HF.out).symm,HB.out _⟩
   ·have E':=Zh E
    clear f1 f2 E
    go_enter Tryz.func72,Tryz.ntmps72
    go_wp2
    go_ret2
    exact⟨Xcj E'.out (Xkc HR.out HF.out).symm,HB.out _⟩
  ·have HF:=Zh hF;clear hF
   go_enter Tryz.func72,Tryz.ntmps72
   go_wp2
   all_goals go_ret2
   all_goals go_tidy
   all_goals (try simp only[bne_iff_ne,ne_eq,bne_eq_false_iff_eq,beq_iff_eq,beq_eq_false_iff_ne,Bool.and_eq_true,Bool.or_eq_true,Bool.not_eq_true',Bool.not_eq_false',decide_eq_true_eq,decide_eq_false_iff_not]at *)
   all_goals simp only[Array.getD_eq_getD_getElem?,List.getElem?_toArray,List.getElem?_cons_zero,List.getElem?_cons_succ,Option.getD_some]
   all_goals first
    |(with_reducible exact⟨Xcj (Xo1 (Xo4 HR.out HF.out) (by decide)).symm (Xo4 HR.out HF.out).symm,HB.out _⟩)
    |(exfalso;refine HF.out ⟨fun _=>?_,fun _=>?_⟩<;>omega)
 ·have HR:=Zh hR
  unfold OrdR at hR
  go_enter Tryz.func72,Tryz.ntmps72
  go_wp2
  all_goals go_ret2
  all_goals exact⟨Xcj (Xo1 (Xo3 HR.out) (by decide)).symm (Xo3 HR.out).symm,HB.out _⟩
theorem Xel (c d p:Int) (r:Bool) (w:World):Calls Tryz.prog 80 #[.agg #[.int .i64 c,.int .i64 d,.int .i64 p,.bool r]] w fun e w'=>e=.returned (.tuple #[.int .i64 (fltW c d p r),.int .i64 (fltE c d p)])∧Below w.heap.size w w':=by
 have HB:=Zh (Xag w)
 by_cases hR:FltR c d p
 ·have HR:=Zh hR
  have hb0:=Xtq hR
  have hb1:=Xtp hR
  unfold FltR at hR
  obtain⟨h1,h2,h3,h4,h5,h6⟩:=hR
  cases r
  ·go_enter Tryz.func80,Tryz.ntmps80
   go_wp2
   go_ret2
   exact⟨Xcj (fltW_f HR.out) (Xhp HR.out).symm,HB.out _⟩
  ·go_enter Tryz.func80,Tryz.ntmps80
   go_wp2
   go_ret2
   exact⟨Xcj rfl (Xhp HR.out).symm,HB.out _⟩
 ·have HR:=Zh hR
  unfold FltR at hR
  go_enter Tryz.func80,Tryz.ntmps80
  go_wp2
  all_goals go_ret2
  all_goals exact⟨Xcj (Xwv (Xpf HR.out) (by decide)).symm (Xpf HR.out).symm,HB.out _⟩
end
section
theorem Xfa (v:Int) (w:World):Calls Tryz.prog 47 #[.int .i64 v] w fun e w'=>e=.returned (rdoV v)∧Below w.heap.size w w':=by
 have HB:=Zh (Xag w)
 by_cases hR:0≤v∧v≤65535
 ·have HR:=Zh hR
  obtain⟨h1,h2⟩:=hR
  have e1:=and3 v (by omega) (by omega)
  have e2:=and7 (v / 4) (by omega) (by omega)
  have e3:=Xwe (v / 32) (by omega) (by omega)
  go_enter Tryz.func47,Tryz.ntmps47
  go_wp2_with fail
  refine(Xkm _ _ _ _).mono ?_
  rintro e w1 ⟨rfl,hb1⟩
  have hz1:=hb1.size
  (try simp only[Zs]at hz1)
  obtain⟨k1_0,l1_0,q1_0⟩:=aft hb1 (w.heap.size) (by(try simp)<;>omega)
  obtain⟨k1_1,l1_1,q1_1⟩:=aft hb1 (w.heap.size+1) (by(try simp)<;>omega)
  simp(maxDischargeDepth:=6) [go_sem, *]at k1_0 q1_0 k1_1 q1_1
  have HB1:=Zh hb1
  clear hb1
  by_cases hE:ordE (v % 4) (v / 4 % 8) (v / 32)=0
  ·have HE:=Zh hE
   obtain⟨g1,g2⟩:=(Xoy HR.out).1 hE
   have g3:=Zh (show v / 32 % 64=v / 32 from by have:=(Xk1 hE).1;unfold OrdR at this;omega)
   clear hE
   go_wp2
   refine bodyPost_ret (v:=.tuple #[.agg #[.int .i64 (v % 4),.int .i64 (v / 4 % 8),.int .i64 (v / 32 % 64)],.int .i64 0]) ?_ rfl ⟨?_, ?_⟩
   ·simp(maxDischargeDepth:=8) [results,Tryz.results47,go_sem, *]
   ·rw[g3.out];exact Xwo (Xwq HR.out HE.out)
   ·(refine bl ?_;repeat' first|with_reducible(first|assumption|constructor)|((try simp)<;>omega))
  ·have HE:=Zh hE
   have g:=Zh (fun h=>hE ((Xoy HR.out).2 h))
   clear hE
   by_cases g1:ordE (v % 4) (v / 4 % 8) (v / 32 % 64)=0
   ·have g2:(ordW (v % 4) (v / 4 % 8) (v / 32 % 64) != v)=true:=by rw[bne_iff_ne];exact fun h=>g.out ⟨g1,h⟩
    clear g
    go_wp2
    refine bodyPost_ret (v:=.tuple #[.agg #[.int .i64 0,.int .i64 0,.int .i64 0],.int .i64 3]) ?_ rfl ⟨Xl6 (Xsd HR.out HE.out) (by decide), ?_⟩
    ·simp(maxDischargeDepth:=8) [results,Tryz.results47,go_sem, *]
    ·(refine bl ?_;repeat' first|with_reducible(first|assumption|constructor)|((try simp)<;>omega))
   ·have g2:(ordE (v % 4) (v / 4 % 8) (v / 32 % 64) != 0)=true:=by simp[g1]
    clear g g1
    go_wp2
    refine bodyPost_ret (v:=.tuple #[.agg #[.int .i64 0,.int .i64 0,.int .i64 0],.int .i64 3]) ?_ rfl ⟨Xl6 (Xsd HR.out HE.out) (by decide), ?_⟩
    ·simp(maxDischargeDepth:=8) [results,Tryz.results47,go_sem, *]
    ·(refine bl ?_;repeat' first|with_reducible(first|assumption|constructor)|((try simp)<;>omega))
 ·have HR:=Zh hR
  go_enter Tryz.func47,Tryz.ntmps47
  go_wp2
  all_goals refine bodyPost_ret (v:=.tuple #[.agg #[.int .i64 0,.int .i64 0,.int .i64 0],.int .i64 2]) ?_ rfl ⟨Xl6 (Xwp HR.out) (by decide),HB.out _⟩
  all_goals simp[results,Tryz.results47,go_sem]
end
end
end Go.Proofs.YtbopdijnojaaiadGreat
