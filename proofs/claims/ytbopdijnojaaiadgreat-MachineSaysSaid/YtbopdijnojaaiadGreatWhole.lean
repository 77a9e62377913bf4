/- A region that draws its order, of two loads of structs, two stores and an assignment: one way. No statement of the seat is proved here. -/
import Derived.Test.YtbopdijnojaaiadGreatProg
import Derived.Test.YtbopdijnojaaiadGreatBase
import Derived.Laws.Tables
import Derived.Laws.Rows
import Derived.Deep.MidRow
import Derived.OrdersHeld
namespace Go.Proofs.YtbopdijnojaaiadGreat
open Go.RowKit
set_option linter.unusedSimpArgs false
set_option linter.unusedVariables false
section
def Whl (w:World) (g:Nat) (t:TypeId) (cs:Array Value):Prop:=w.heap[g]?=some (.cells cs t (0,0))
section
variable {w w':World} {g H:Nat} {t:TypeId} {cs:Array Value}
theorem Xgv (h:Whl w g t cs):g<w.heap.size:=by
 rcases Nat.lt_or_ge g w.heap.size with hlt|hge
 ·exact hlt
 ·unfold Whl at h;rw[Array.getElem?_eq_none hge]at h;cases h
theorem Xac (w:World) (cs:Array Value) (t:TypeId) (hH:w.heap.size=H):Whl (w.alloc (.cells cs t)) H t cs:=by subst hH;exact heap_alloc_new _ _
theorem Xab (h:Whl w g t cs) (o:Obj):Whl (w.alloc o) g t cs:=(Below.heap_alloc w o g (Xgv h)).trans h
theorem Xem (h:Whl w g t cs):Whl w.drew g t cs:=h
theorem Xaa (h:Whl w g t cs) (hs:Below w.heap.size w w'):Whl w' g t cs:=(hs.block g (Xgv h)).trans h
theorem Xui (h:Whl w g t cs) (cs':Array Value):Whl (w.setRow g cs') g t cs':=setRow_heap w g cs cs' t _ h
theorem Xas (h:Whl w g t cs) (o:Nat) (u:Value) (cs':Array Value) (hc:cs.setIfInBounds o u=cs'):Whl (w.setCell ⟨g,o,none⟩ u) g t cs':=by
 unfold Whl at *
 rw[←hc]
 simp only[World.setCell,Array.getElem?_modify]
 rw[if_pos trivial,h]
 rfl
theorem Xad (h:Whl w g t cs) (o:Nat):w.cell? ⟨g,o,none⟩=cs[o]?:=cell_of_row w g o cs t _ h
theorem Xhv (h:Whl w g t cs) (o:Nat):w.frozen? ⟨g,o,none⟩=false:=by
 unfold Whl at h
 simp[World.frozen?,h]
theorem Xr3 (w:World) (old cells:Array Value) (t:TypeId) (hH:w.heap.size=H):(w.alloc (.cells old t)).setRow H cells=w.alloc (.cells cells t):=by
 subst hH
 unfold World.setRow World.alloc
 congr 1
 apply Array.ext_getElem?
 intro i
 simp only[Array.getElem?_modify,Array.getElem?_push]
 by_cases hi:i=w.heap.size
 ·subst hi;simp
 ·simp[hi,Ne.symm hi]
end
section
variable {P:Program} {ops:Array Oper} {rest:List Oper} {o:Oper} {a:Act} {w:World} {Q:Exit→Act→World→Prop}
theorem Xao (hgd:o.guard=none) (ty:TypeId) (x:Operand) (ho:o.op=.load ty x) (g:Nat) (t:TypeId) (cs:Array Value) (hx:a.eval x=.pointer (some ⟨g,0,none⟩)) (hg:Whl w g t cs)
  (d:TypeDesc) (hu:P.underlying ty=some d) (hd:(match d with|.struct _|.array _ _=>true|_=>false)=true) (hi:(P.info? ty).map (·.size)=some cs.size)
  (h:wpList P ops Q rest (a.put o.dst (.agg cs)) w):wpList P ops Q (o :: rest) a w:=
 wpList_load_row hgd ty x ho g hx t cs (0,0) d hg hu hd hi h
theorem Xir (hgd:o.guard=none) (ty:TypeId) (x y:Operand) (ho:o.op=.store ty x y) (g:Nat) (t:TypeId) (old cells:Array Value) (hx:a.eval x=.pointer (some ⟨g,0,none⟩)) (hy:a.eval y=.agg cells) (hg:Whl w g t old)
  (hi:(P.info? ty).map (·.size)=some cells.size) (hold:old.size=cells.size) (h1:cells.all (·.oneCell')=true)
  (h:wpList P ops Q rest (a.put o.dst undef) (w.setRow g cells)):wpList P ops Q (o :: rest) a w:=
 wpList_store_row hgd ty x y ho g cells hx hy t old hg hi hold h1 h
theorem Xb6 {w0:World} (hgd:o.guard=none) (ty:TypeId) (x y:Operand) (ho:o.op=.store ty x y) (g:Nat) (t:TypeId) (old cells:Array Value) (hw:w=w0.alloc (.cells old t)) (hz:w0.heap.size=g) (hx:a.eval x=.pointer (some ⟨g,0,none⟩)) (hy:a.eval y=.agg cells)
  (hi:(P.info? ty).map (·.size)=some cells.size) (hold:old.size=cells.size) (h1:cells.all (·.oneCell')=true)
  (h:wpList P ops Q rest (a.put o.dst undef) (w0.alloc (.cells cells t))):wpList P ops Q (o :: rest) a w:=by
 subst hw
 refine wpList_store_row hgd ty x y ho g cells hx hy t old (Xac w0 old t hz) hi hold h1 ?_
 rw[Xr3 w0 old cells t hz]
 exact h
end
theorem Tryz.sizeMach:(Tryz.prog.info? 33).map (·.size)=some 16:=by kernel_rfl
end
section
section
variable {P:Program} {ops:Array Oper} {Q:Exit→Act→World→Prop} {a:Act} {w:World} {K:Act→World→Prop} {i:Nat} {o:Oper}
theorem Xcp (hi:ops[i]?=some o) (hg:o.guard=none) (ty:TypeId) (x y:Operand) (ho:o.op=.store ty x y) (b off:Nat) (cells:Array Value) (hx:a.eval x=.pointer (some ⟨b,off,none⟩)) (hy:a.eval y=.agg cells)
  (ht:w.there b off cells.size) (hz:(P.info? ty).map (·.size)=some cells.size) (h1:cells.all (·.oneCell')=true) (h:K (a.put o.dst undef) (w.setCells b off cells.toList)):wpOp P ops Q i K a w:=by
 unfold Go.wpOp
 simp only[hi]
 have hw:Region.wanted o (yielded ops a.tmps)=true:=by simp[Region.wanted,hg]
 rw[if_pos hw]
 exact .inl (wp_store_mid ty x y ho b off cells hx hy ht hz h1 h)
theorem Xnq (hi:ops[i]?=some o) (hg:o.guard=none) (v:Value) (ho:o.op=.assign (.const v)) (h:K (a.put o.dst v) w):wpOp P ops Q i K a w:=by
 unfold Go.wpOp
 simp only[hi]
 have hw:Region.wanted o (yielded ops a.tmps)=true:=by simp[Region.wanted,hg]
 rw[if_pos hw]
 refine .inl ?_
 unfold Oper.wp execOp
 simp[ho,Act.eval]
 exact h
theorem Xfg {id:Nat} (hm:P.follows .mixedOrders=true) (o0 o1 o2 o3 o4:Oper) (e0:ops[0]?=some o0) (e1:ops[1]?=some o1) (e2:ops[2]?=some o2) (e3:ops[3]?=some o3) (e4:ops[4]?=some o4) (hsz:ops.size=5)
  (hs:Region.noSelect ops=true) (f0:Region.free .any ops #[false,false,false,false,false] 0=true) (r0:(Region.ready .any ops #[false,false,false,false,false]).contains 0=true)
  (f1:Region.free .any ops #[true,false,false,false,false] 1=true) (r1:(Region.ready .any ops #[true,false,false,false,false]).contains 1=true)
  (r2:Region.ready .any ops #[true,true,false,false,false]=[2]) (r3:Region.ready .any ops #[true,true,true,false,false]=[3]) (r4:Region.ready .any ops #[true,true,true,true,false]=[4]) (r5:Region.ready .any ops #[true,true,true,true,true]=[])
  (g0:o0.guard=none) (g1:o1.guard=none) (g2:o2.guard=none) (g3:o3.guard=none) (g4:o4.guard=none)
  (T1 T2:TypeId) (x1 x2 y1 y2 z1 z2:Operand) (h0:o0.op=.load T1 x1) (h1:o1.op=.load T2 x2) (h2:o2.op=.store T1 y1 z1) (h3:o3.op=.store T2 y2 z2) (v:Value) (h4:o4.op=.assign (.const v))
  (b1 b2 c1 c2:Nat) (C1 C2:Array Value) (d1 d2:TypeDesc) (u1:P.underlying T1=some d1) (u2:P.underlying T2=some d2) (i1:d1.isRow=true) (i2:d2.isRow=true) (s1:(P.info? T1).map (·.size)=some C1.size) (s2:(P.info? T2).map (·.size)=some C2.size)
  (k1:C1.toList.all (·.oneCell')=true) (k2:C2.toList.all (·.oneCell')=true) (p1:a.eval x1=.pointer (some ⟨b1,0,none⟩)) (p2:(a.put o0.dst (.agg C1)).eval x2=.pointer (some ⟨b2,0,none⟩))
  (q1:((a.put o0.dst (.agg C1)).put o1.dst (.agg C2)).eval y1=.pointer (some ⟨c1,0,none⟩)) (q2:(((a.put o0.dst (.agg C1)).put o1.dst (.agg C2)).put o2.dst undef).eval y2=.pointer (some ⟨c2,0,none⟩))
  (w1:((a.put o0.dst (.agg C1)).put o1.dst (.agg C2)).eval z1=.agg C1) (w2:(((a.put o0.dst (.agg C1)).put o1.dst (.agg C2)).put o2.dst undef).eval z2=.agg C2)
  (R1:w.rangeAt b1 0 C1.toList) (R2:w.rangeAt b2 0 C2.toList) (Y1:w.there c1 0 C1.size) (Y2:w.there c2 0 C2.size) (n1:b1≠c1) (n2:b1≠c2) (n3:b2≠c1) (n4:b2≠c2) (hQ0:∀(v:Value) c a w,Q (.panic c) (a.put o0.dst v) w→Q (.panic c) a w) (hQ1:∀(v:Value) c a w,Q (.panic c) (a.put o1.dst v) w→Q (.panic c) a w)
  (h:Q .normal (((((a.put o0.dst (.agg C1)).put o1.dst (.agg C2)).put o2.dst undef).put o3.dst undef).put o4.dst v) ((w.drew.setCells c1 0 C1.toList).setCells c2 0 C2.toList)):(Code.region id ops true).wp P Q a w:=by
 have wd:∀(o:Oper) (a:Act),o.guard=none→Region.wanted o (yielded ops a.tmps)=true:=fun o a hg=>by simp[Region.wanted,hg]
 have l1:(P.info? T1).map (·.size)=some C1.toList.length:=by rw[s1,Array.length_toList]
 have l2:(P.info? T2).map (·.size)=some C2.toList.length:=by rw[s2,Array.length_toList]
 refine wp_region_held (S:=fun W=>W.rangeAt b1 0 C1.toList∧W.rangeAt b2 0 C2.toList) hm ?_
 have hS0:(w.drew).rangeAt b1 0 C1.toList∧(w.drew).rangeAt b2 0 C2.toList:=⟨R1,R2⟩
 have hS1:(w.drew.setCells c1 0 C1.toList).rangeAt b1 0 C1.toList∧(w.drew.setCells c1 0 C1.toList).rangeAt b2 0 C2.toList:=⟨World.rangeAt_setCells_apart hS0.1 _ _ _ (Or.inl n1),World.rangeAt_setCells_apart hS0.2 _ _ _ (Or.inl n3)⟩
 have hS2:((w.drew.setCells c1 0 C1.toList).setCells c2 0 C2.toList).rangeAt b1 0 C1.toList∧((w.drew.setCells c1 0 C1.toList).setCells c2 0 C2.toList).rangeAt b2 0 C2.toList:=⟨World.rangeAt_setCells_apart hS1.1 _ _ _ (Or.inl n2),World.rangeAt_setCells_apart hS1.2 _ _ _ (Or.inl n4)⟩
 rw[hsz]
 show wpAnyH P .any ops Q _ 5 #[false,false,false,false,false] a w.drew
 have t0:=yieldsIf_load_mid (ops:=ops) (S:=fun W=>W.rangeAt b1 0 C1.toList∧W.rangeAt b2 0 C2.toList) (wd o0 a g0) T1 x1 h0 b1 0 p1 C1.toList d1 (fun W h=>h.1) u1 i1 l1
 rw[Array.toArray_toList]at t0
 refine wpAnyH_take (i:=0) e0 hs f0 r0 (hQ0 _) t0 hS0 ?_
 show wpAnyH P .any ops Q _ 4 #[true,false,false,false,false] (a.put o0.dst (.agg C1)) w.drew
 have t1:=yieldsIf_load_mid (ops:=ops) (S:=fun W=>W.rangeAt b1 0 C1.toList∧W.rangeAt b2 0 C2.toList) (wd o1 (a.put o0.dst (.agg C1)) g1) T2 x2 h1 b2 0 p2 C2.toList d2 (fun W h=>h.2) u2 i2 l2
 rw[Array.toArray_toList]at t1
 refine wpAnyH_take (i:=1) e1 hs f1 r1 (hQ1 _) t1 hS0 ?_
 show wpAnyH P .any ops Q _ 3 #[true,true,false,false,false] ((a.put o0.dst (.agg C1)).put o1.dst (.agg C2)) w.drew
 refine wpAnyH_all r2 (by simp) (fun i hi=>?_)
 obtain rfl:i=2:=by simpa using hi
 refine Xcp e2 g2 T1 y1 z1 h2 c1 0 C1 q1 w1 Y1 s1 (by rw[←Array.all_toList];exact k1) ⟨hS1, ?_⟩
 show wpAnyH P .any ops Q _ 2 #[true,true,true,false,false] _ _
 refine wpAnyH_all r3 (by simp) (fun i hi=>?_)
 obtain rfl:i=3:=by simpa using hi
 refine Xcp e3 g3 T2 y2 z2 h3 c2 0 C2 q2 w2 (World.there_setCells (w:=w.drew) Y2 _ _ _) s2 (by rw[←Array.all_toList];exact k2) ⟨hS2, ?_⟩
 show wpAnyH P .any ops Q _ 1 #[true,true,true,true,false] _ _
 refine wpAnyH_all r4 (by simp) (fun i hi=>?_)
 obtain rfl:i=4:=by simpa using hi
 refine Xnq e4 g4 v h4 ⟨hS2, ?_⟩
 exact wpAnyH_done r5 h _
end
end
end Go.Proofs.YtbopdijnojaaiadGreat
