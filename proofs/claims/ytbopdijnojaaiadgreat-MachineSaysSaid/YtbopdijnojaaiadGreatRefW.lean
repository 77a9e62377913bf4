/- The hart: the document's Stepped: laws of regions, and the closure. No statement of the seat is proved here. -/
import Derived.Test.YtbopdijnojaaiadGreatWh2
import Derived.Test.YtbopdijnojaaiadGreatMemZ
import Derived.Test.YtbopdijnojaaiadGreatCode
import Derived.Test.YtbopdijnojaaiadGreatHartP
import Derived.Deep.AppendLies
import Derived.Deep.RegionHeld3
import Derived.Deep.DeepCutAuto
import Derived.BigQuiet
import Derived.BigRegion
namespace Go.Proofs.YtbopdijnojaaiadGreat
set_option maxRecDepth 100000
set_option maxHeartbeats 8000000
open Go.RowKit
set_option linter.unusedSimpArgs false
set_option linter.unusedVariables false
theorem Tryz.sizeBool:(Tryz.prog.info? 4).map (·.size)=some 1:=by kernel_rfl
section
variable {P:Program} {ops:Array Oper} {Q:Exit→Act→World→Prop} {a:Act} {w:World}
theorem Xcy {id:Nat} (hm:P.follows .mixedOrders=true) (o0 o1 o2 o3 o4 o5:Oper) (e0:ops[0]?=some o0) (e1:ops[1]?=some o1) (e2:ops[2]?=some o2) (e3:ops[3]?=some o3) (e4:ops[4]?=some o4) (e5:ops[5]?=some o5) (hsz:ops.size=6)
  (hs:Region.noSelect ops=true) (f0:Region.free .any ops #[false,false,false,false,false,false] 0=true) (r0:(Region.ready .any ops #[false,false,false,false,false,false]).contains 0=true)
  (f1:Region.free .any ops #[true,false,false,false,false,false] 1=true) (r1:(Region.ready .any ops #[true,false,false,false,false,false]).contains 1=true) (f2:Region.free .any ops #[true,true,false,false,false,false] 2=true) (r2:(Region.ready .any ops #[true,true,false,false,false,false]).contains 2=true)
  (r3:Region.ready .any ops #[true,true,true,false,false,false]=[3]) (r4:Region.ready .any ops #[true,true,true,true,false,false]=[4]) (r5:Region.ready .any ops #[true,true,true,true,true,false]=[5]) (r6:Region.ready .any ops #[true,true,true,true,true,true]=[])
  (g0:o0.guard=none) (g1:o1.guard=none) (g2:o2.guard=none) (g3:o3.guard=none) (g4:o4.guard=none) (g5:o5.guard=none)
  (T1 T2 T3:TypeId) (x1 x2 x3 y1 y2 y3 z1 z2 z3:Operand) (h0:o0.op=.load T1 x1) (h1:o1.op=.load T2 x2) (h2:o2.op=.load T3 x3) (h3:o3.op=.store T1 y1 z1) (h4:o4.op=.store T2 y2 z2) (h5:o5.op=.store T3 y3 z3)
  (b1 b2 b3 c1 c2 c3:Nat) (C1 C2 C3:Array Value) (d1 d2 d3:TypeDesc) (u1:P.underlying T1=some d1) (u2:P.underlying T2=some d2) (u3:P.underlying T3=some d3) (i1:d1.isRow=true) (i2:d2.isRow=true) (i3:d3.isRow=true)
  (s1:(P.info? T1).map (·.size)=some C1.size) (s2:(P.info? T2).map (·.size)=some C2.size) (s3:(P.info? T3).map (·.size)=some C3.size)
  (k1:C1.toList.all (·.oneCell')=true) (k2:C2.toList.all (·.oneCell')=true) (k3:C3.toList.all (·.oneCell')=true)
  (p1:a.eval x1=.pointer (some ⟨b1,0,none⟩)) (p2:(a.put o0.dst (.agg C1)).eval x2=.pointer (some ⟨b2,0,none⟩)) (p3:((a.put o0.dst (.agg C1)).put o1.dst (.agg C2)).eval x3=.pointer (some ⟨b3,0,none⟩))
  (q1:(((a.put o0.dst (.agg C1)).put o1.dst (.agg C2)).put o2.dst (.agg C3)).eval y1=.pointer (some ⟨c1,0,none⟩)) (q2:((((a.put o0.dst (.agg C1)).put o1.dst (.agg C2)).put o2.dst (.agg C3)).put o3.dst undef).eval y2=.pointer (some ⟨c2,0,none⟩)) (q3:(((((a.put o0.dst (.agg C1)).put o1.dst (.agg C2)).put o2.dst (.agg C3)).put o3.dst undef).put o4.dst undef).eval y3=.pointer (some ⟨c3,0,none⟩))
  (w1:(((a.put o0.dst (.agg C1)).put o1.dst (.agg C2)).put o2.dst (.agg C3)).eval z1=.agg C1) (w2:((((a.put o0.dst (.agg C1)).put o1.dst (.agg C2)).put o2.dst (.agg C3)).put o3.dst undef).eval z2=.agg C2) (w3:(((((a.put o0.dst (.agg C1)).put o1.dst (.agg C2)).put o2.dst (.agg C3)).put o3.dst undef).put o4.dst undef).eval z3=.agg C3)
  (t1 t2 t3 u1' u2' u3':TypeId) (R1:Whl w b1 t1 C1) (R2:Whl w b2 t2 C2) (R3:Whl w b3 t3 C3) (D1 D2 D3:Array Value) (Y1:Whl w c1 u1' D1) (Y2:Whl w c2 u2' D2) (Y3:Whl w c3 u3' D3) (v1:D1.size=C1.size) (v2:D2.size=C2.size) (v3:D3.size=C3.size)
  (n11:b1≠c1) (n12:b1≠c2) (n13:b1≠c3) (n21:b2≠c1) (n22:b2≠c2) (n23:b2≠c3) (n31:b3≠c1) (n32:b3≠c2) (n33:b3≠c3) (m12:c1≠c2) (m13:c1≠c3) (m23:c2≠c3)
  (hQ0:∀(v:Value) c a w,Q (.panic c) (a.put o0.dst v) w→Q (.panic c) a w) (hQ1:∀(v:Value) c a w,Q (.panic c) (a.put o1.dst v) w→Q (.panic c) a w) (hQ2:∀(v:Value) c a w,Q (.panic c) (a.put o2.dst v) w→Q (.panic c) a w)
  (h:∀ w',Chg (fun q=>q=c1∨q=c2∨q=c3) w w'→w'.rangeAt c1 0 C1.toList→w'.rangeAt c2 0 C2.toList→w'.rangeAt c3 0 C3.toList→Q .normal ((((((a.put o0.dst (.agg C1)).put o1.dst (.agg C2)).put o2.dst (.agg C3)).put o3.dst undef).put o4.dst undef).put o5.dst undef) w'):(Code.region id ops true).wp P Q a w:=by
 have wd:∀(o:Oper) (a:Act),o.guard=none→Region.wanted o (yielded ops a.tmps)=true:=fun o a hg=>by simp[Region.wanted,hg]
 have l1:(P.info? T1).map (·.size)=some C1.toList.length:=by rw[s1,Array.length_toList]
 have l2:(P.info? T2).map (·.size)=some C2.toList.length:=by rw[s2,Array.length_toList]
 have l3:(P.info? T3).map (·.size)=some C3.toList.length:=by rw[s3,Array.length_toList]
 have all:∀{W:World} {g:Nat} {t:TypeId} {cs:Array Value},Whl W g t cs→W.rangeAt g 0 cs.toList:=fun h j v hv=>by
  rw[Xad h,Nat.zero_add];simpa using hv
 have thr:∀{W:World} {g:Nat} {t:TypeId} {cs:Array Value} {k:Nat},Whl W g t cs→cs.size=k→W.there g 0 k:=fun h e=>Xc4 h (by omega)
 refine wp_region_held (S:=fun W=>W.rangeAt b1 0 C1.toList∧W.rangeAt b2 0 C2.toList∧W.rangeAt b3 0 C3.toList) hm ?_
 have hS0:(w.drew).rangeAt b1 0 C1.toList∧(w.drew).rangeAt b2 0 C2.toList∧(w.drew).rangeAt b3 0 C3.toList:=⟨all R1,all R2,all R3⟩
 have stp:∀{W:World} (c:Nat) (vs:List Value),b1≠c→b2≠c→b3≠c→(W.rangeAt b1 0 C1.toList∧W.rangeAt b2 0 C2.toList∧W.rangeAt b3 0 C3.toList)→(W.setCells c 0 vs).rangeAt b1 0 C1.toList∧(W.setCells c 0 vs).rangeAt b2 0 C2.toList∧(W.setCells c 0 vs).rangeAt b3 0 C3.toList:=
  fun c vs e1 e2 e3 hS=>⟨World.rangeAt_setCells_apart hS.1 _ _ _ (Or.inl e1),World.rangeAt_setCells_apart hS.2.1 _ _ _ (Or.inl e2),World.rangeAt_setCells_apart hS.2.2 _ _ _ (Or.inl e3)⟩
 have hS1:=stp (W:=w.drew) c1 C1.toList n11 n21 n31 hS0
 have hS2:=stp c2 C2.toList n12 n22 n32 hS1
 have hS3:=stp c3 C3.toList n13 n23 n33 hS2
 rw[hsz]
 show wpAnyH P .any ops Q _ 6 #[false,false,false,false,false,false] a w.drew
 have t0:=yieldsIf_load_mid (ops:=ops) (S:=fun W=>W.rangeAt b1 0 C1.toList∧W.rangeAt b2 0 C2.toList∧W.rangeAt b3 0 C3.toList) (wd o0 a g0) T1 x1 h0 b1 0 p1 C1.toList d1 (fun W h=>h.1) u1 i1 l1
 rw[Array.toArray_toList]at t0
 refine wpAnyH_take (i:=0) e0 hs f0 r0 (hQ0 _) t0 hS0 ?_
 show wpAnyH P .any ops Q _ 5 #[true,false,false,false,false,false] (a.put o0.dst (.agg C1)) w.drew
 have t1:=yieldsIf_load_mid (ops:=ops) (S:=fun W=>W.rangeAt b1 0 C1.toList∧W.rangeAt b2 0 C2.toList∧W.rangeAt b3 0 C3.toList) (wd o1 (a.put o0.dst (.agg C1)) g1) T2 x2 h1 b2 0 p2 C2.toList d2 (fun W h=>h.2.1) u2 i2 l2
 rw[Array.toArray_toList]at t1
 refine wpAnyH_take (i:=1) e1 hs f1 r1 (hQ1 _) t1 hS0 ?_
 show wpAnyH P .any ops Q _ 4 #[true,true,false,false,false,false] ((a.put o0.dst (.agg C1)).put o1.dst (.agg C2)) w.drew
 have t2:=yieldsIf_load_mid (ops:=ops) (S:=fun W=>W.rangeAt b1 0 C1.toList∧W.rangeAt b2 0 C2.toList∧W.rangeAt b3 0 C3.toList) (wd o2 ((a.put o0.dst (.agg C1)).put o1.dst (.agg C2)) g2) T3 x3 h2 b3 0 p3 C3.toList d3 (fun W h=>h.2.2) u3 i3 l3
 rw[Array.toArray_toList]at t2
 refine wpAnyH_take (i:=2) e2 hs f2 r2 (hQ2 _) t2 hS0 ?_
 show wpAnyH P .any ops Q _ 3 #[true,true,true,false,false,false] (((a.put o0.dst (.agg C1)).put o1.dst (.agg C2)).put o2.dst (.agg C3)) w.drew
 refine wpAnyH_all r3 (by simp) (fun i hi=>?_)
 obtain rfl:i=3:=by simpa using hi
 refine Xcp e3 g3 T1 y1 z1 h3 c1 0 C1 q1 w1 (thr (Xem Y1) v1) s1 (by rw[←Array.all_toList];exact k1) ⟨hS1, ?_⟩
 show wpAnyH P .any ops Q _ 2 #[true,true,true,true,false,false] _ _
 refine wpAnyH_all r4 (by simp) (fun i hi=>?_)
 obtain rfl:i=4:=by simpa using hi
 refine Xcp e4 g4 T2 y2 z2 h4 c2 0 C2 q2 w2 (World.there_setCells (w:=w.drew) (thr (Xem Y2) v2) _ _ _) s2 (by rw[←Array.all_toList];exact k2) ⟨hS2, ?_⟩
 show wpAnyH P .any ops Q _ 1 #[true,true,true,true,true,false] _ _
 refine wpAnyH_all r5 (by simp) (fun i hi=>?_)
 obtain rfl:i=5:=by simpa using hi
 refine Xcp e5 g5 T3 y3 z3 h5 c3 0 C3 q3 w3 (World.there_setCells (World.there_setCells (w:=w.drew) (thr (Xem Y3) v3) _ _ _) _ _ _) s3 (by rw[←Array.all_toList];exact k3) ⟨hS3, ?_⟩
 have ccs:∀(g:Nat) (vs:List Value) (o:Nat) (W:World),Chg (fun q=>q=g) W (W.setCells g o vs):=by
  intro g vs
  induction vs with
  |nil=>intro o W;exact Xaq W
  |cons v r ih=>intro o W;exact Xa4 (Xbb (P:=fun q=>q=g) (Xaq W) (p:=⟨g,o,none⟩) (Or.inl rfl) v) (ih (o+1) _)
 refine wpAnyH_done r6 (h _ ?_ ?_ ?_ ?_) _
 ·exact Xa4 (Xa4 (Xa4 (Xa5 (Xaq w)) (Xbp (ccs c1 C1.toList 0 _) (fun q _ e=>Or.inl e))) (Xbp (ccs c2 C2.toList 0 _) (fun q _ e=>Or.inr (Or.inl e)))) (Xbp (ccs c3 C3.toList 0 _) (fun q _ e=>Or.inr (Or.inr e)))
 ·exact World.rangeAt_setCells_apart (World.rangeAt_setCells_apart (World.rangeAt_setCells_same w.drew c1 0 C1.toList (thr (Xem Y1) (by rw[v1,Array.length_toList]))) _ _ _ (Or.inl m12)) _ _ _ (Or.inl m13)
 ·exact World.rangeAt_setCells_apart (World.rangeAt_setCells_same (w.drew.setCells c1 0 C1.toList) c2 0 C2.toList (World.there_setCells (w:=w.drew) (thr (Xem Y2) (by rw[v2,Array.length_toList])) _ _ _)) _ _ _ (Or.inl m23)
 ·exact World.rangeAt_setCells_same _ c3 0 C3.toList (World.there_setCells (World.there_setCells (w:=w.drew) (thr (Xem Y3) (by rw[v3,Array.length_toList])) _ _ _) _ _ _)
theorem Xhu {S:World→Prop} {op:Oper} (hw:op.guard=none) (ty:TypeId) (x:Operand) (ho:op.op=.load ty x) (p:Addr) (hx:a.eval x=.pointer (some p)) (v:Value) (hS:∀ w,S w→(loadVar ty p).run P w=.ok v w):YieldsIf P ops S op v a:=
 .inl ⟨by simp[Region.wanted,hw],fun w hw'=>by
  unfold execOp
  simp only[ho,hx,Instr.loadAt,Instr.sureAddr,Sem.run_bind,Sem.run_pure,Result.andThen_ok,hS w hw']⟩
theorem Xgp:∀(g:Nat) (vs:List Value) (o:Nat) (W:World),Chg (fun q=>q=g) W (W.setCells g o vs):=by
  intro g vs
  induction vs with
  |nil=>intro o W;exact Xaq W
  |cons v r ih=>intro o W;exact Xa4 (Xbb (P:=fun q=>q=g) (Xaq W) (p:=⟨g,o,none⟩) (Or.inl rfl) v) (ih (o+1) _)
theorem Xp8 {id:Nat} (hm:P.follows .mixedOrders=true) (o0 o1 o2 o3 o4 o5 o6 o7 o8 o9 o10 o11:Oper) (e0:ops[0]?=some o0) (e1:ops[1]?=some o1) (e2:ops[2]?=some o2) (e3:ops[3]?=some o3) (e4:ops[4]?=some o4) (e5:ops[5]?=some o5) (e6:ops[6]?=some o6) (e7:ops[7]?=some o7) (e8:ops[8]?=some o8) (e9:ops[9]?=some o9) (e10:ops[10]?=some o10) (e11:ops[11]?=some o11) (hsz:ops.size=12) (hs:Region.noSelect ops=true)
  (f0:Region.free .any ops #[false,false,false,false,false,false,false,false,false,false,false,false] 0=true) (r0:(Region.ready .any ops #[false,false,false,false,false,false,false,false,false,false,false,false]).contains 0=true)
  (f1:Region.free .any ops #[true,false,false,false,false,false,false,false,false,false,false,false] 1=true) (r1:(Region.ready .any ops #[true,false,false,false,false,false,false,false,false,false,false,false]).contains 1=true)
  (f2:Region.free .any ops #[true,true,false,false,false,false,false,false,false,false,false,false] 2=true) (r2:(Region.ready .any ops #[true,true,false,false,false,false,false,false,false,false,false,false]).contains 2=true)
  (f3:Region.free .any ops #[true,true,true,false,false,false,false,false,false,false,false,false] 3=true) (r3:(Region.ready .any ops #[true,true,true,false,false,false,false,false,false,false,false,false]).contains 3=true)
  (f4:Region.free .any ops #[true,true,true,true,false,false,false,false,false,false,false,false] 4=true) (r4:(Region.ready .any ops #[true,true,true,true,false,false,false,false,false,false,false,false]).contains 4=true)
  (f5:Region.free .any ops #[true,true,true,true,true,false,false,false,false,false,false,false] 5=true) (r5:(Region.ready .any ops #[true,true,true,true,true,false,false,false,false,false,false,false]).contains 5=true)
  (f7:Region.free .any ops #[true,true,true,true,true,true,false,false,false,false,false,false] 7=true) (r7:(Region.ready .any ops #[true,true,true,true,true,true,false,false,false,false,false,false]).contains 7=true)
  (f8:Region.free .any ops #[true,true,true,true,true,true,false,true,false,false,false,false] 8=true) (r8:(Region.ready .any ops #[true,true,true,true,true,true,false,true,false,false,false,false]).contains 8=true)
  (r6:Region.ready .any ops #[true,true,true,true,true,true,false,true,true,false,false,false]=[6]) (r9:Region.ready .any ops #[true,true,true,true,true,true,true,true,true,false,false,false]=[9]) (r10:Region.ready .any ops #[true,true,true,true,true,true,true,true,true,true,false,false]=[10]) (r11:Region.ready .any ops #[true,true,true,true,true,true,true,true,true,true,true,false]=[11]) (r12:Region.ready .any ops #[true,true,true,true,true,true,true,true,true,true,true,true]=[])
  (g0:o0.guard=none) (g6:o6.guard=none) (g7:o7.guard=none) (g8:o8.guard=none) (g9:o9.guard=none) (g10:o10.guard=none) (g11:o11.guard=none)
  (T1 T2 T3:TypeId) (x0 x7 x8 y9 y10 y11 z9 z10 z11:Operand) (h0:o0.op=.load T1 x0) (h7:o7.op=.load T2 x7) (h8:o8.op=.load T3 x8) (h9:o9.op=.store T1 y9 z9) (h10:o10.op=.store T2 y10 z10) (h11:o11.op=.store T3 y11 z11)
  (b1 b2 b3 c1 c2 c3:Nat) (C1 C2 C3:Array Value) (d1 d2 d3:TypeDesc) (u1:P.underlying T1=some d1) (u2:P.underlying T2=some d2) (u3:P.underlying T3=some d3) (i1:d1.isRow=true) (i2:d2.isRow=true) (i3:d3.isRow=true)
  (s1:(P.info? T1).map (·.size)=some C1.size) (s2:(P.info? T2).map (·.size)=some C2.size) (s3:(P.info? T3).map (·.size)=some C3.size) (s1':C1.size=1) (k2:C2.toList.all (·.oneCell')=true) (k3:C3.toList.all (·.oneCell')=true)
  (pc:Addr) (vc:Value) (hpc:w.cell? pc=some vc) (v1 v2 v3 v4 v5:Value)
  (y1:YieldsIf P ops (fun W=>W.rangeAt b1 0 C1.toList∧W.rangeAt b2 0 C2.toList∧W.rangeAt b3 0 C3.toList∧W.cell? pc=some vc) o1 v1 (a.put o0.dst (.agg C1)))
  (y2:YieldsIf P ops (fun W=>W.rangeAt b1 0 C1.toList∧W.rangeAt b2 0 C2.toList∧W.rangeAt b3 0 C3.toList∧W.cell? pc=some vc) o2 v2 ((a.put o0.dst (.agg C1)).put o1.dst v1))
  (y3:YieldsIf P ops (fun W=>W.rangeAt b1 0 C1.toList∧W.rangeAt b2 0 C2.toList∧W.rangeAt b3 0 C3.toList∧W.cell? pc=some vc) o3 v3 (((a.put o0.dst (.agg C1)).put o1.dst v1).put o2.dst v2))
  (y4:YieldsIf P ops (fun W=>W.rangeAt b1 0 C1.toList∧W.rangeAt b2 0 C2.toList∧W.rangeAt b3 0 C3.toList∧W.cell? pc=some vc) o4 v4 ((((a.put o0.dst (.agg C1)).put o1.dst v1).put o2.dst v2).put o3.dst v3))
  (y5:YieldsIf P ops (fun W=>W.rangeAt b1 0 C1.toList∧W.rangeAt b2 0 C2.toList∧W.rangeAt b3 0 C3.toList∧W.cell? pc=some vc) o5 v5 (((((a.put o0.dst (.agg C1)).put o1.dst v1).put o2.dst v2).put o3.dst v3).put o4.dst v4))
  (p0:a.eval x0=.pointer (some ⟨b1,0,none⟩)) (p7:((((((a.put o0.dst (.agg C1)).put o1.dst v1).put o2.dst v2).put o3.dst v3).put o4.dst v4).put o5.dst v5).eval x7=.pointer (some ⟨b2,0,none⟩)) (p8:(((((((a.put o0.dst (.agg C1)).put o1.dst v1).put o2.dst v2).put o3.dst v3).put o4.dst v4).put o5.dst v5).put o7.dst (.agg C2)).eval x8=.pointer (some ⟨b3,0,none⟩))
  (q9:∀ A d,(((((((((a.put o0.dst (.agg C1)).put o1.dst v1).put o2.dst v2).put o3.dst v3).put o4.dst v4).put o5.dst v5).put o7.dst (.agg C2)).put o8.dst (.agg C3)).put o6.dst (.agg #[.slice A 512 d])).eval y9=.pointer (some ⟨c1,0,none⟩)) (q10:∀ A d,((((((((((a.put o0.dst (.agg C1)).put o1.dst v1).put o2.dst v2).put o3.dst v3).put o4.dst v4).put o5.dst v5).put o7.dst (.agg C2)).put o8.dst (.agg C3)).put o6.dst (.agg #[.slice A 512 d])).put o9.dst undef).eval y10=.pointer (some ⟨c2,0,none⟩)) (q11:∀ A d,(((((((((((a.put o0.dst (.agg C1)).put o1.dst v1).put o2.dst v2).put o3.dst v3).put o4.dst v4).put o5.dst v5).put o7.dst (.agg C2)).put o8.dst (.agg C3)).put o6.dst (.agg #[.slice A 512 d])).put o9.dst undef).put o10.dst undef).eval y11=.pointer (some ⟨c3,0,none⟩))
  (w9:∀ A d,(((((((((a.put o0.dst (.agg C1)).put o1.dst v1).put o2.dst v2).put o3.dst v3).put o4.dst v4).put o5.dst v5).put o7.dst (.agg C2)).put o8.dst (.agg C3)).put o6.dst (.agg #[.slice A 512 d])).eval z9=.agg #[.slice A 512 d]) (w10:∀ A d,((((((((((a.put o0.dst (.agg C1)).put o1.dst v1).put o2.dst v2).put o3.dst v3).put o4.dst v4).put o5.dst v5).put o7.dst (.agg C2)).put o8.dst (.agg C3)).put o6.dst (.agg #[.slice A 512 d])).put o9.dst undef).eval z10=.agg C2) (w11:∀ A d,(((((((((((a.put o0.dst (.agg C1)).put o1.dst v1).put o2.dst v2).put o3.dst v3).put o4.dst v4).put o5.dst v5).put o7.dst (.agg C2)).put o8.dst (.agg C3)).put o6.dst (.agg #[.slice A 512 d])).put o9.dst undef).put o10.dst undef).eval z11=.agg C3)
  (t1 t2 t3 u1' u2' u3':TypeId) (R1:Whl w b1 t1 C1) (R2:Whl w b2 t2 C2) (R3:Whl w b3 t3 C3) (D1 D2 D3:Array Value) (Y1:Whl w c1 u1' D1) (Y2:Whl w c2 u2' D2) (Y3:Whl w c3 u3' D3) (z1:D1.size=1) (z2:D2.size=C2.size) (z3:D3.size=C3.size)
  (n11:b1≠c1) (n12:b1≠c2) (n13:b1≠c3) (n21:b2≠c1) (n22:b2≠c2) (n23:b2≠c3) (n31:b3≠c1) (n32:b3≠c2) (n33:b3≠c3) (m12:c1≠c2) (m13:c1≠c3) (m23:c2≠c3) (l1:pc.block≠c1) (l2:pc.block≠c2) (l3:pc.block≠c3)
  (hQ0:∀(v:Value) c a w,Q (.panic c) (a.put o0.dst v) w→Q (.panic c) a w) (hQ1:∀(v:Value) c a w,Q (.panic c) (a.put o1.dst v) w→Q (.panic c) a w) (hQ2:∀(v:Value) c a w,Q (.panic c) (a.put o2.dst v) w→Q (.panic c) a w) (hQ3:∀(v:Value) c a w,Q (.panic c) (a.put o3.dst v) w→Q (.panic c) a w) (hQ4:∀(v:Value) c a w,Q (.panic c) (a.put o4.dst v) w→Q (.panic c) a w) (hQ5:∀(v:Value) c a w,Q (.panic c) (a.put o5.dst v) w→Q (.panic c) a w) (hQ7:∀(v:Value) c a w,Q (.panic c) (a.put o7.dst v) w→Q (.panic c) a w) (hQ8:∀(v:Value) c a w,Q (.panic c) (a.put o8.dst v) w→Q (.panic c) a w)
  (CC:Option Addr→Nat→World→Prop) (hcs:∀ A d W,CC A d W→Below w.heap.size w W) (hcall:∀ K:Act→World→Prop,(∀ A d W,CC A d W→K (((((((((a.put o0.dst (.agg C1)).put o1.dst v1).put o2.dst v2).put o3.dst v3).put o4.dst v4).put o5.dst v5).put o7.dst (.agg C2)).put o8.dst (.agg C3)).put o6.dst (.agg #[.slice A 512 d])) W)→o6.wp P ((((((((a.put o0.dst (.agg C1)).put o1.dst v1).put o2.dst v2).put o3.dst v3).put o4.dst v4).put o5.dst v5).put o7.dst (.agg C2)).put o8.dst (.agg C3)) w.drew K Q)
  (h:∀ A d W w',CC A d W→Chg (fun q=>q=c1∨q=c2∨q=c3) W w'→w'.rangeAt c1 0 [.slice A 512 d]→w'.rangeAt c2 0 C2.toList→w'.rangeAt c3 0 C3.toList→Q .normal ((((((((((((a.put o0.dst (.agg C1)).put o1.dst v1).put o2.dst v2).put o3.dst v3).put o4.dst v4).put o5.dst v5).put o7.dst (.agg C2)).put o8.dst (.agg C3)).put o6.dst (.agg #[.slice A 512 d])).put o9.dst undef).put o10.dst undef).put o11.dst undef) w'):(Code.region id ops true).wp P Q a w:=by
 have wd:∀(o:Oper) (a:Act),o.guard=none→Region.wanted o (yielded ops a.tmps)=true:=fun o a hg=>by simp[Region.wanted,hg]
 have j1:(P.info? T1).map (·.size)=some C1.toList.length:=by rw[s1,Array.length_toList]
 have j2:(P.info? T2).map (·.size)=some C2.toList.length:=by rw[s2,Array.length_toList]
 have j3:(P.info? T3).map (·.size)=some C3.toList.length:=by rw[s3,Array.length_toList]
 have all:∀{W:World} {g:Nat} {t:TypeId} {cs:Array Value},Whl W g t cs→W.rangeAt g 0 cs.toList:=fun h j v hv=>by
  rw[Xad h,Nat.zero_add];simpa using hv
 have thr:∀{W:World} {g:Nat} {t:TypeId} {cs:Array Value} {k:Nat},Whl W g t cs→cs.size=k→W.there g 0 k:=fun h e=>Xc4 h (by omega)
 refine wp_region_held (S:=(fun W=>W.rangeAt b1 0 C1.toList∧W.rangeAt b2 0 C2.toList∧W.rangeAt b3 0 C3.toList∧W.cell? pc=some vc)) hm ?_
 have hS0:(w.drew).rangeAt b1 0 C1.toList∧(w.drew).rangeAt b2 0 C2.toList∧(w.drew).rangeAt b3 0 C3.toList∧w.drew.cell? pc=some vc:=⟨all R1,all R2,all R3,hpc⟩
 have stp:∀{W:World} (c:Nat) (vs:List Value),b1≠c→b2≠c→b3≠c→pc.block≠c→(W.rangeAt b1 0 C1.toList∧W.rangeAt b2 0 C2.toList∧W.rangeAt b3 0 C3.toList∧W.cell? pc=some vc)→(W.setCells c 0 vs).rangeAt b1 0 C1.toList∧(W.setCells c 0 vs).rangeAt b2 0 C2.toList∧(W.setCells c 0 vs).rangeAt b3 0 C3.toList∧(W.setCells c 0 vs).cell? pc=some vc:=
  fun c vs e1 e2 e3 e4 hS=>⟨World.rangeAt_setCells_apart hS.1 _ _ _ (Or.inl e1),World.rangeAt_setCells_apart hS.2.1 _ _ _ (Or.inl e2),World.rangeAt_setCells_apart hS.2.2.1 _ _ _ (Or.inl e3),Xbk hS.2.2.2 (Xgp c vs 0 _) e4⟩
 rw[hsz]
 show wpAnyH P .any ops Q _ 12 #[false,false,false,false,false,false,false,false,false,false,false,false] a w.drew
 have t0:=yieldsIf_load_mid (ops:=ops) (S:=(fun W=>W.rangeAt b1 0 C1.toList∧W.rangeAt b2 0 C2.toList∧W.rangeAt b3 0 C3.toList∧W.cell? pc=some vc)) (wd o0 a g0) T1 x0 h0 b1 0 p0 C1.toList d1 (fun W h=>h.1) u1 i1 j1
 rw[Array.toArray_toList]at t0
 refine wpAnyH_take (i:=0) e0 hs f0 r0 (hQ0 _) t0 hS0 ?_
 show wpAnyH P .any ops Q _ 11 #[true,false,false,false,false,false,false,false,false,false,false,false] (a.put o0.dst (.agg C1)) w.drew
 refine wpAnyH_take (i:=1) e1 hs f1 r1 (hQ1 _) y1 hS0 ?_
 show wpAnyH P .any ops Q _ 10 #[true,true,false,false,false,false,false,false,false,false,false,false] ((a.put o0.dst (.agg C1)).put o1.dst v1) w.drew
 refine wpAnyH_take (i:=2) e2 hs f2 r2 (hQ2 _) y2 hS0 ?_
 show wpAnyH P .any ops Q _ 9 #[true,true,true,false,false,false,false,false,false,false,false,false] (((a.put o0.dst (.agg C1)).put o1.dst v1).put o2.dst v2) w.drew
 refine wpAnyH_take (i:=3) e3 hs f3 r3 (hQ3 _) y3 hS0 ?_
 show wpAnyH P .any ops Q _ 8 #[true,true,true,true,false,false,false,false,false,false,false,false] ((((a.put o0.dst (.agg C1)).put o1.dst v1).put o2.dst v2).put o3.dst v3) w.drew
 refine wpAnyH_take (i:=4) e4 hs f4 r4 (hQ4 _) y4 hS0 ?_
 show wpAnyH P .any ops Q _ 7 #[true,true,true,true,true,false,false,false,false,false,false,false] (((((a.put o0.dst (.agg C1)).put o1.dst v1).put o2.dst v2).put o3.dst v3).put o4.dst v4) w.drew
 refine wpAnyH_take (i:=5) e5 hs f5 r5 (hQ5 _) y5 hS0 ?_
 show wpAnyH P .any ops Q _ 6 #[true,true,true,true,true,true,false,false,false,false,false,false] ((((((a.put o0.dst (.agg C1)).put o1.dst v1).put o2.dst v2).put o3.dst v3).put o4.dst v4).put o5.dst v5) w.drew
 have t7:=yieldsIf_load_mid (ops:=ops) (S:=(fun W=>W.rangeAt b1 0 C1.toList∧W.rangeAt b2 0 C2.toList∧W.rangeAt b3 0 C3.toList∧W.cell? pc=some vc)) (wd o7 ((((((a.put o0.dst (.agg C1)).put o1.dst v1).put o2.dst v2).put o3.dst v3).put o4.dst v4).put o5.dst v5) g7) T2 x7 h7 b2 0 p7 C2.toList d2 (fun W h=>h.2.1) u2 i2 j2
 rw[Array.toArray_toList]at t7
 refine wpAnyH_take (i:=7) e7 hs f7 r7 (hQ7 _) t7 hS0 ?_
 show wpAnyH P .any ops Q _ 5 #[true,true,true,true,true,true,false,true,false,false,false,false] (((((((a.put o0.dst (.agg C1)).put o1.dst v1).put o2.dst v2).put o3.dst v3).put o4.dst v4).put o5.dst v5).put o7.dst (.agg C2)) w.drew
 have t8:=yieldsIf_load_mid (ops:=ops) (S:=(fun W=>W.rangeAt b1 0 C1.toList∧W.rangeAt b2 0 C2.toList∧W.rangeAt b3 0 C3.toList∧W.cell? pc=some vc)) (wd o8 (((((((a.put o0.dst (.agg C1)).put o1.dst v1).put o2.dst v2).put o3.dst v3).put o4.dst v4).put o5.dst v5).put o7.dst (.agg C2)) g8) T3 x8 h8 b3 0 p8 C3.toList d3 (fun W h=>h.2.2.1) u3 i3 j3
 rw[Array.toArray_toList]at t8
 refine wpAnyH_take (i:=8) e8 hs f8 r8 (hQ8 _) t8 hS0 ?_
 show wpAnyH P .any ops Q _ 4 #[true,true,true,true,true,true,false,true,true,false,false,false] ((((((((a.put o0.dst (.agg C1)).put o1.dst v1).put o2.dst v2).put o3.dst v3).put o4.dst v4).put o5.dst v5).put o7.dst (.agg C2)).put o8.dst (.agg C3)) w.drew
 refine wpAnyH_all r6 (by simp) (fun i hi=>?_)
 obtain rfl:i=6:=by simpa using hi
 unfold Go.wpOp
 simp only[e6]
 rw[if_pos (wd o6 _ g6)]
 refine .inl (hcall _ (fun A d W hC=>?_))
 have hb:=hcs A d W hC
 have hS6:W.rangeAt b1 0 C1.toList∧W.rangeAt b2 0 C2.toList∧W.rangeAt b3 0 C3.toList∧W.cell? pc=some vc:=⟨all (Xaa R1 hb),all (Xaa R2 hb),all (Xaa R3 hb),Xak hb hpc⟩
 have Z1:=Xaa Y1 hb
 have Z2:=Xaa Y2 hb
 have Z3:=Xaa Y3 hb
 have hS9:=stp c1 [.slice A 512 d] n11 n21 n31 l1 hS6
 have hS10:=stp c2 C2.toList n12 n22 n32 l2 hS9
 have hS11:=stp c3 C3.toList n13 n23 n33 l3 hS10
 refine⟨hS6, ?_⟩
 show wpAnyH P .any ops Q _ 3 #[true,true,true,true,true,true,true,true,true,false,false,false] (((((((((a.put o0.dst (.agg C1)).put o1.dst v1).put o2.dst v2).put o3.dst v3).put o4.dst v4).put o5.dst v5).put o7.dst (.agg C2)).put o8.dst (.agg C3)).put o6.dst (.agg #[.slice A 512 d])) W
 refine wpAnyH_all r9 (by simp) (fun i hi=>?_)
 obtain rfl:i=9:=by simpa using hi
 refine Xcp e9 g9 T1 y9 z9 h9 c1 0 #[.slice A 512 d] (q9 A d) (w9 A d) (thr Z1 z1) (by rw[s1,s1'];rfl) (by rw[←Array.all_toList];rfl) ⟨hS9, ?_⟩
 show wpAnyH P .any ops Q _ 2 #[true,true,true,true,true,true,true,true,true,true,false,false] _ _
 refine wpAnyH_all r10 (by simp) (fun i hi=>?_)
 obtain rfl:i=10:=by simpa using hi
 refine Xcp e10 g10 T2 y10 z10 h10 c2 0 C2 (q10 A d) (w10 A d) (World.there_setCells (thr Z2 z2) _ _ _) s2 (by rw[←Array.all_toList];exact k2) ⟨hS10, ?_⟩
 show wpAnyH P .any ops Q _ 1 #[true,true,true,true,true,true,true,true,true,true,true,false] _ _
 refine wpAnyH_all r11 (by simp) (fun i hi=>?_)
 obtain rfl:i=11:=by simpa using hi
 refine Xcp e11 g11 T3 y11 z11 h11 c3 0 C3 (q11 A d) (w11 A d) (World.there_setCells (World.there_setCells (thr Z3 z3) _ _ _) _ _ _) s3 (by rw[←Array.all_toList];exact k3) ⟨hS11, ?_⟩
 refine wpAnyH_done r12 (h A d W _ hC ?_ ?_ ?_ ?_) _
 ·exact Xa4 (Xa4 (Xbp (Xgp c1 [.slice A 512 d] 0 _) (fun q _ e=>Or.inl e)) (Xbp (Xgp c2 C2.toList 0 _) (fun q _ e=>Or.inr (Or.inl e)))) (Xbp (Xgp c3 C3.toList 0 _) (fun q _ e=>Or.inr (Or.inr e)))
 ·exact World.rangeAt_setCells_apart (World.rangeAt_setCells_apart (World.rangeAt_setCells_same W c1 0 [.slice A 512 d] (thr Z1 z1)) _ _ _ (Or.inl m12)) _ _ _ (Or.inl m13)
 ·exact World.rangeAt_setCells_apart (World.rangeAt_setCells_same (W.setCells c1 0 [.slice A 512 d]) c2 0 C2.toList (World.there_setCells (thr Z2 (by rw[z2,Array.length_toList])) _ _ _)) _ _ _ (Or.inl m23)
 ·exact World.rangeAt_setCells_same _ c3 0 C3.toList (World.there_setCells (World.there_setCells (thr Z3 (by rw[z3,Array.length_toList])) _ _ _) _ _ _)
theorem Xce {P:Program} {fn:Func} {p q u:Tmp} {ty ty' ty'':TypeId} {tmps:Array Value} {w:World} {a b c:Addr} {v1 v2 v3:Value} (h:fn.results=#[.cell p ty,.cell q ty',.cell u ty'']) (hp:tmps.getD p undef=.pointer (some a)) (hq:tmps.getD q undef=.pointer (some b)) (hu:tmps.getD u undef=.pointer (some c))
  (e1:(loadVar ty a).run P w=.ok v1 w) (e2:(loadVar ty' b).run P w=.ok v2 w) (e3:(loadVar ty'' c).run P w=.ok v3 w):(results fn tmps).run P w=.ok (.tuple #[v1,v2,v3]) w:=by
 have hp':tmps[p]?.getD undef=.pointer (some a):=by simpa using hp
 have hq':tmps[q]?.getD undef=.pointer (some b):=by simpa using hq
 have hu':tmps[u]?.getD undef=.pointer (some c):=by simpa using hu
 simp[results,h,hp',hq',hu',asAddr,e1,e2,e3]
theorem Xh3 {P:Program} {ops:Array Oper} {rest:List Oper} {o:Oper} {a:Act} {w:World} {Q:Exit→Act→World→Prop} (hgd:o.guard=none) (ty:TypeId) (x y:Operand) (ho:o.op=.store ty x y) (B g k n c:Nat) (xs:List Int) (v:Int) (hx:a.eval x=.pointer (some ⟨g,k,none⟩)) (hy:a.eval y=.int .i64 v) (hg:OwnI B w (some ⟨g,0,none⟩) n c xs) (hk:k<n)
  (hi:(P.info? ty).map (·.size)=some 1) (h:∀ w',OwnI B w' (some ⟨g,0,none⟩) n c (xs.set k v)→Trn g w w'→wpList P ops Q rest (a.put o.dst undef) w'):wpList P ops Q (o :: rest) a w:=by
 refine wpList_plain hgd fun _ hK=>?_
 obtain⟨g',e,h1,h2,h3,h4,_⟩:=Xb3 hg (by omega)
 injection e with e;injection e with e;subst e
 obtain⟨xk,hxk⟩:=Xa2 xs (k:=k) (by rw[hg.1];exact hk)
 have hr:(storeVar ty ⟨g,k,none⟩ (.int .i64 v)).run P w=.ok () (w.setCell ⟨g,k,none⟩ (.int .i64 v)):=by
  have:=run_storeCells_cells (P:=P) g k [.int .i64 v] 0 w (fun j hj=>by
    have e:j=0:=by simpa using hj
    subst e;simp[h3 k xk hxk])
   (fun j hj=>h4 _) (fun u hu=>by simp at hu;subst hu;rfl)
  cases hq:P.info? ty with
  |none=>simp[hq]at hi
  |some i=>
   have hs:i.size=1:=by simpa[hq]using hi
   simp only[Nat.add_zero,World.setCells]at this
   simp[storeVar,sizeOf,typeInfo,hq,Value.cells,hs,this]
 unfold Oper.wp execOp
 simp only[ho,hx,hy,Instr.storeAt,Instr.sureAddr,Sem.run_bind,Sem.run_pure,Result.andThen_ok,hr]
 exact hK _ _ (h _ (Xh2 hg hk v) (Xhx h2 _ _))
theorem Xwc {P P':Nat→Prop} {w W W':World} (h:Chg P w W) (h':Chg P' W W') (hp:∀ q,q<w.heap.size→P' q→P q):Chg P w W':=
 ⟨h.1.trans h'.1,fun q hq hn=>(h'.2 q (Nat.lt_of_lt_of_le hq h.size) (fun e=>hn (hp q hq e))).trans (h.2 q hq hn)⟩
end
def StpW (w:World) (M R L:Option Addr) (n c:Nat) (r:List Int×Hrt×Brg) (e:Ending) (w':World):Prop:=
 ∃ A d P p,e=.returned (.tuple #[.agg #[.slice A 512 d],.agg #[.int .i64 r.2.1.at_,.slice P 8 p,.bool r.2.1.done],.agg (B_.b r.2.2 L n c)]) ∧
  Ints w' w'.heap.size A 512 r.1∧Ints w' w'.heap.size P 8 r.2.1.regs∧Lines w' w'.heap.size L n c r.2.2.cache∧Below w.heap.size w w'∧Xj6 w M A∧Xj6 w R P
def NewW (wx:World) (at_:Int) (rs:List Int) (s:Value) (wd:World):Prop:=
 ∃ g g2 c2,s=.pointer (some ⟨g,0,none⟩)∧Whl wd g 26 #[.int .i64 at_,.slice (some ⟨g2,0,none⟩) 8 c2,.bool false]∧OwnI wx.heap.size wd (some ⟨g2,0,none⟩) 8 c2 rs∧(wx.heap.size≤g∧g<wd.heap.size∧g2≠g)∧Xan wx wd
theorem Xe8 {w1 W:World} {p0 p1:Addr} {v0 v1:Value} (h:Xan w1 W) (h0:w1.cell? p0=some v0) (h1:w1.cell? p1=some v1):W.cell? p0=some v0∧W.cell? p1=some v1∧Hid (Xan w1 W):=⟨Xak h h0,Xak h h1,h⟩
theorem Xb1 {xs:List Int} {k:Int} {n:Nat} (hl:xs.length=n) (h0:0≤k) (h1:k<n):xs[k.toNat]?=some (rd xs k):=by
 unfold rd
 rw[List.getElem?_eq_getElem (by omega)]
 rfl
theorem Xej {w:World} {g:Nat} {t:TypeId} {cs cs':Array Value} (h:Whl w g t cs) (e:cs=cs'):Whl w g t cs':=e ▸ h
theorem OwnI.off {B g n c:Nat} {w:World} {xs:List Int} {p:Addr} (h:OwnI B w (some ⟨g,0,none⟩) n c xs) (hp:p.block≠g) (u:Value):OwnI B (w.setCell p u) (some ⟨g,0,none⟩) n c xs:=by
 obtain⟨hl,h1,h2⟩:=h
 rcases h2 with⟨hv,hn⟩|⟨g',cap,cur,hv,hb,hh,rest⟩
 ·exact⟨hl,h1,Or.inl ⟨hv,hn⟩⟩
 ·have e:g'=g:=by injection hv with h1;injection h1 with h1;injection h1 with h1;exact h1.symm
  subst e
  refine⟨hl,h1,Or.inr ⟨g',cap,cur,hv,hb, ?_,rest⟩⟩
  simp only[World.setCell,Array.getElem?_modify]
  rw[if_neg hp];exact hh
theorem Xmg {b:Brg} {i v:Int} (h0:i≠0) (h1:i≠1) (h2:i≠2) (h3:i≠3) (h5:i≠5) (h6:i≠6) (h9:i≠9):Xd3 i = -1∧Xh4 b i v=b:=by
 unfold Xd3 Xh4 Xf1
 rw[if_neg h0,if_neg h1,if_neg h2,if_neg h3,if_neg h5,if_neg h6,if_neg h9,if_neg h9,if_neg h0,if_neg h1,if_neg h2,if_neg h3,if_neg h5,if_neg h6]
 exact⟨rfl,rfl⟩
theorem Xqf {b:Brg} {i v:Int}:(Xh4 b i v).cache=b.cache:=by
 unfold Xh4 Xf1
 (repeat' split)<;>rfl
theorem Xwd (b:Brg) {k:Nat} (h:k<10):#[Value.int .i64 b.mode,.int .i64 b.base,.int .i64 b.orders.page,.int .i64 b.orders.tail,.int .i64 b.orders.head,.int .i64 b.faults.page,.int .i64 b.faults.head,.int .i64 b.faults.tail,.int .i64 b.fences,.int .i64 (stB b)][k]?=some (.int .i64 (Xf4 b k)):=by
 have hk:k=0∨k=1∨k=2∨k=3∨k=4∨k=5∨k=6∨k=7∨k=8∨k=9:=by omega
 rcases hk with rfl|rfl|rfl|rfl|rfl|rfl|rfl|rfl|rfl|rfl<;>rfl
theorem Tryz.ldInt {w:World} {p:Addr} {v:Value} (h:w.cell? p=some v):(loadVar 3 p).run Tryz.prog w=.ok v w:=by
 have hu:Tryz.prog.underlying 3=_:=Tryz.underlying3
 simp[go_sem,loadVar,hu,h]
theorem Xfe (gm gh gb:Nat) (at_:Int) (R:Option Addr) (rc:Nat) (dn:Bool) (M:Option Addr) (mc:Nat) (b:Brg) (L:Option Addr) (n c:Nat) (w:World) (hm:Whl w gm 24 #[.slice M 512 mc]) (hh:Whl w gh 26 #[.int .i64 at_,.slice R 8 rc,.bool dn]) (hb:Whl w gb 31 (B_.b b L n c)) (n1:gm≠gh) (n2:gb≠gh) :
  Calls Tryz.prog 58 #[.pointer (some ⟨gh,0,none⟩),.pointer (some ⟨gm,0,none⟩),.pointer (some ⟨gb,0,none⟩)] w fun e w'=>e=.returned (.tuple #[.agg #[.slice M 512 mc],.agg #[.int .i64 at_,.slice R 8 rc,.bool true],.agg (B_.b b L n c)])∧Chg (fun q=>q=gh) w w':=by
 have lm:=Xgv hm
 have lh:=Xgv hh
 have lb:=Xgv hb
 have HM:=Zh hm
 have HH:=Zh hh
 have HBR:=Zh hb
 clear hm hh hb
 go_enter Tryz.func58,Tryz.ntmps58
 go_upto_region 1 with(fail)
 generalize hw0:((w.alloc (.cells #[.slice none 0 0] 24)).alloc (.cells #[.int .i64 0,.slice none 0 0,.bool false] 26)).alloc (.cells B_.z 31)=w0
 have C0:=Zh (show Chg (fun q=>q=gh) w w0 by rw[←hw0];exact Xay (Xay (Xay (Xaq w) _) _) _)
 have Y1:=Zh (show Whl w0 w.heap.size 24 #[.slice none 0 0] by rw[←hw0];exact Xab (Xab (Xac _ _ _ rfl) _) _)
 have Y2:=Zh (show Whl w0 (w.heap.size+1) 26 #[.int .i64 0,.slice none 0 0,.bool false] by rw[←hw0];exact Xab (Xac _ _ _ (by simp)) _)
 have Y3:=Zh (show Whl w0 (w.heap.size+1+1) 31 B_.z by rw[←hw0];exact Xac _ _ _ (by simp))
 replace HM:=Zh (show Whl w0 _ _ _ by rw[←hw0];exact Xab (Xab (Xab HM.out _) _) _)
 replace HH:=Zh (show Whl w0 _ _ _ by rw[←hw0];exact Xab (Xab (Xab HH.out _) _) _)
 replace HBR:=Zh (show Whl w0 _ _ _ by rw[←hw0];exact Xab (Xab (Xab HBR.out _) _) _)
 clear hw0
 go_upto_region 2 with(refine Xau rfl 4 (.tmp 6) (.const (.bool true)) rfl gh 2 _ _ #[.int .i64 at_,.slice R 8 rc,.bool true] (.bool true) rfl rfl HH.out Tryz.sizeBool (of_decide_eq_true rfl) rfl rfl ?_;intro w1 h1 t1)
 have hz:=t1.2
 refine Xcy (by kernel_rfl) _ _ _ _ _ _ rfl rfl rfl rfl rfl rfl rfl (by kernel_rfl) (by kernel_rfl) (by kernel_rfl) (by kernel_rfl) (by kernel_rfl) (by kernel_rfl) (by kernel_rfl) (by kernel_rfl) (by kernel_rfl) (by kernel_rfl) (by kernel_rfl) rfl rfl rfl rfl rfl rfl 24 26 31 (.tmp 1) (.tmp 0) (.tmp 2) (.tmp 3) (.tmp 4) (.tmp 5) (.tmp 7) (.tmp 8) (.tmp 9) rfl rfl rfl rfl rfl rfl gm gh gb w.heap.size (w.heap.size+1) (w.heap.size+1+1) #[.slice M 512 mc] #[.int .i64 at_,.slice R 8 rc,.bool true] (B_.b b L n c) _ _ _ Tryz.underlying24 Tryz.underlying26 Tryz.underlying31 rfl rfl rfl Tryz.sizeMem Tryz.sizeHart Tryz.sizeBrg rfl rfl rfl rfl rfl rfl rfl rfl rfl rfl rfl rfl _ _ _ _ _ _ (Xam HM.out t1 n1) h1 (Xam HBR.out t1 n2) _ _ _ (Xam Y1.out t1 (by omega)) (Xam Y2.out t1 (by omega)) (Xam Y3.out t1 (by omega)) rfl rfl rfl (by omega) (by omega) (by omega) (by omega) (by omega) (by omega) (by omega) (by omega) (by omega) (by omega) (by omega) (by omega) (fun _ _ _ _ h=>h) (fun _ _ _ _ h=>h) (fun _ _ _ _ h=>h) ?_
 intro w2 c2 q1 q2 q3
 have Q1:=Zh q1
 have Q2:=Zh q2
 have Q3:=Zh q3
 have C2:=Zh (Xwc (Xa4 C0.out t1.1) c2 (fun q hq e=>by omega))
 clear q1 q2 q3 c2 t1 h1 hz
 go_wp2
 refine bodyPost_ret (v:=.tuple #[.agg #[.slice M 512 mc],.agg #[.int .i64 at_,.slice R 8 rc,.bool true],.agg (B_.b b L n c)]) ?_ rfl ⟨rfl,C2.out⟩
 exact Xce Tryz.results58 rfl rfl rfl (run_loadVar_mid w2 _ 0 24 _ _ Q1.out Tryz.underlying24 rfl Tryz.sizeMem) (run_loadVar_mid w2 _ 0 26 _ _ Q2.out Tryz.underlying26 rfl Tryz.sizeHart) (run_loadVar_mid w2 _ 0 31 _ _ Q3.out Tryz.underlying31 rfl Tryz.sizeBrg)
set_option linter.defProp false in
def zSt {xs:List Int} {at_:Int} {rs:List Int} {b:Brg} {L:Option Addr} {mc rc n c:Nat} {w:World} {res:List Int×Hrt×Brg} {K:Int} {ka kd ki:Nat}:=(by
 intro z_ M R hm hr hl c1 c2 hV ha hd hi
 have HC2:=Zh c2
 have HXL:=Zh (Xaz c1).1
 have HM:=Zh hm
 have HR:=Zh hr
 have HL:=Zh hl
 have hAt:=(Xap c2).2.1
 simp only[]at hAt
 obtain⟨hAt1,hAt2⟩:=hAt
 have HRL:=Zh (show rs.length=8 from(Xap c2).1)
 obtain⟨gM,oM,rfl,lM,hMc⟩:=hm.at_ (by decide)
 obtain⟨gR,oR,rfl,lR,hRc⟩:=hr.at_ (by decide)
 have HX:=Zh (hMc _ _ (Xb1 (k:=at_) (Xaz c1).1 hAt1 hAt2))
 have HMC:=Zh hMc
 have HRC:=Zh hRc
 clear hm hr hl c1 c2 hMc hRc
 go_enter Tryz.func34,Tryz.ntmps34
 go_upto_region 1 with(fail)
 generalize hw0:(((((w.alloc (.cells #[.slice (some ⟨gM,oM,none⟩) 512 mc] 24)).alloc (.cells #[.int .i64 at_,.slice (some ⟨gR,oR,none⟩) 8 rc,.bool false] 26)).alloc (.cells (B_.b b L n c) 31)).alloc (.cells #[.slice none 0 0] 24)).alloc (.cells #[.int .i64 0,.slice none 0 0,.bool false] 26)).alloc (.cells B_.z 31)=w0
 have H0:=Zh (show Whl w0 w.heap.size 24 #[.slice (some ⟨gM,oM,none⟩) 512 mc] by rw[←hw0];exact Xab (Xab (Xab (Xab (Xab (Xac _ _ _ rfl) _) _) _) _) _)
 have H1:=Zh (show Whl w0 (w.heap.size+1) 26 #[.int .i64 at_,.slice (some ⟨gR,oR,none⟩) 8 rc,.bool false] by rw[←hw0];exact Xab (Xab (Xab (Xab (Xac _ _ _ (by simp)) _) _) _) _)
 have H2:=Zh (show Whl w0 (w.heap.size+1+1) 31 (B_.b b L n c) by rw[←hw0];exact Xab (Xab (Xab (Xac _ _ _ (by simp)) _) _) _)
 have H3:=Zh (show Whl w0 (w.heap.size+1+1+1) 24 #[.slice none 0 0] by rw[←hw0];exact Xab (Xab (Xac _ _ _ (by simp)) _) _)
 have H4:=Zh (show Whl w0 (w.heap.size+1+1+1+1) 26 #[.int .i64 0,.slice none 0 0,.bool false] by rw[←hw0];exact Xab (Xac _ _ _ (by simp)) _)
 have H5:=Zh (show Whl w0 (w.heap.size+1+1+1+1+1) 31 B_.z by rw[←hw0];exact Xac _ _ _ (by simp))
 have HB:=Zh (show Below w.heap.size w w0 by rw[←hw0];(refine bl ?_;repeat' first|with_reducible(first|assumption|constructor)|((try simp)<;>omega)))
 have hz0a:w0.heap.size≤w.heap.size+6:=by rw[←hw0];simp
 have hz0b:w.heap.size+6≤w0.heap.size:=by rw[←hw0];simp
 clear hw0
 have k0:=fun o=>Xad H0.out o
 have k1:=fun o=>Xad H1.out o
 have kx:w0.cell? ⟨gM,oM+at_.toNat,none⟩=some (.int .i64 (rd xs at_)):=(HB.out.cell (p:=⟨gM,oM+at_.toNat,none⟩) lM).trans HX.out
 go_wp2_with fail
 refine(Xcs _ _).mono ?_
 rw[hV]
 clear k0 k1 kx
 rintro e w1 ⟨rfl,hb⟩
 have hz1:w0.heap.size≤w1.heap.size:=hb.size
 replace H0:=Zh (Xaa H0.out hb)
 replace H1:=Zh (Xaa H1.out hb)
 replace H2:=Zh (Xaa H2.out hb)
 replace H3:=Zh (Xaa H3.out hb)
 replace H4:=Zh (Xaa H4.out hb)
 replace H5:=Zh (Xaa H5.out hb)
 replace HB:=Zh (HB.out.trans (hb.mono HB.out.size))
 clear hb
 go_upto_region 3 with(fail)
 generalize hw2:w1.alloc (.cells #[.int .i64 K,.int .i64 ka,.int .i64 kd,.int .i64 ki] 89)=w2
 have H6:=Zh (show Whl w2 w1.heap.size 89 #[.int .i64 K,.int .i64 ka,.int .i64 kd,.int .i64 ki] by rw[←hw2];exact Xac _ _ _ rfl)
 have hb:Below w1.heap.size w1 w2:=by rw[←hw2];exact Xag _ _
 have hz2a:w2.heap.size≤w1.heap.size+1:=by rw[←hw2];simp
 have hz2b:w1.heap.size+1≤w2.heap.size:=by rw[←hw2];simp
 replace H0:=Zh (Xaa H0.out hb)
 replace H1:=Zh (Xaa H1.out hb)
 replace H2:=Zh (Xaa H2.out hb)
 replace H3:=Zh (Xaa H3.out hb)
 replace H4:=Zh (Xaa H4.out hb)
 replace H5:=Zh (Xaa H5.out hb)
 replace HB:=Zh (HB.out.trans (hb.mono HB.out.size))
 clear hb hw2
 go_upto_region 5 with(fail)
 have e1:IntKind.i64.wrap (at_+1)=at_+1:=IntWalk.i64_in _ (by omega)
 have e2:(at_+1).tmod 512=(at_+1) % 512:=Int.tmod_eq_emod_of_nonneg (by omega)
 obtain⟨i0,hi0,hz0,hz1',hz2⟩:=info_parts Tryz.infoInt
 have HI:=Zh hi0;clear hi0
 have HZ0:=Zh hz0;clear hz0
 have HZ1:=Zh hz1';clear hz1'
 have HZ2:=Zh hz2;clear hz2
 have hn1:=Xbd (w2.alloc (.cells #[.int .i64 0,.slice none 0 0,.bool false] 26)) 3 1
 have hn2:=Xbd w2 3 1
 simp only[World.size_alloc]at hn1 hn2
 have HN1:=Zh (Xcv hn1 (B':=w2.heap.size) (by omega))
 have HN2:=Zh (Xbz hn2 (Xag _ (.cells #[.int .i64 0,.slice none 0 0,.bool false] 26)))
 have HN3:=Zh hn2
 clear hn1 hn2
 have HONE:=Zh (Xcu rs)
 have HC1:Hid ((rs.map (Value.int .i64)).length=8 * 1):=by show _=_;rw[List.length_map,HRL.out]
 have HNW:Hid (∀ W:World,Below w.heap.size w W→∀ j u,(rs.map (Value.int .i64))[j]?=some u→W.cell? ((⟨gR,oR,none⟩:Addr).add j)=some u):=Zh (fun W hW j u hu=>by
  rw[List.getElem?_map,Option.map_eq_some_iff]at hu
  obtain⟨x,hx,rfl⟩:=hu
  rw[Xdx]
  exact(hW.cell (p:=⟨gR,oR+j,none⟩) lR).trans (HRC.out j x hx))
 have HK0:Hid (w2.cell? ⟨w.heap.size+1,0,none⟩=some (.int .i64 at_)):=Zh (Xad H1.out 0)
 have HK1:Hid (w2.cell? ⟨w.heap.size+1,1,none⟩=some (.slice (some ⟨gR,oR,none⟩) 8 rc)):=Zh (Xad H1.out 1)
 have yy1:w.heap.size+1<w2.heap.size:=by omega
 have yy2:w.heap.size+1<w2.heap.size+1:=by omega
 have yy3:w.heap.size+1<w2.heap.size+1+1:=by omega
 have yy4:w.heap.size≤w2.heap.size:=by omega
 have yy5:w.heap.size≤w2.heap.size+1:=by omega
 go_cut [12] (fun s12 wd=>NewW w2 ((at_+1) % 512) rs s12 wd)
 case first=>
  go_region_held3 (fun W=>W.cell? ⟨w.heap.size+1,0,none⟩=some (.int .i64 at_)∧W.cell? ⟨w.heap.size+1,1,none⟩=some (.slice (some ⟨gR,oR,none⟩) 8 rc)∧Hid (Xan w2 W)) (((with_reducible refine Xe8 ?_ HK0.out HK1.out);(repeat(first|(with_reducible assumption)|(with_reducible exact Xal _)|(with_reducible exact Xbq (by assumption))|(with_reducible exact Xax (by assumption) (Xbq (by assumption)))|(with_reducible refine Xar ?_)|(with_reducible refine Xae ?_ _)|((with_reducible refine Xa3 ?_ ?_ _);rotate_left;exact(by(try simp)<;>omega))));done)) (first
   |(refine step_append_lies _ (by rfl) (.tmp 41) (.tmp 43) 22 (by rfl) w2.heap.size 3 i0 (.int .i64 0) 1 8 Tryz.underlying22 HI.out HZ0.out HZ1.out HZ2.out (by rfl) (by decide) (.slice (some ⟨w2.heap.size+1,0,none⟩) 0 0) 0 [] (by rfl) HN1.out ⟨gR,oR,none⟩ 8 rc (rs.map (Value.int .i64)) (by rfl) HC1.out (HNW.out _ (bl (by repeat' first|with_reducible(first|assumption|constructor)|((try simp)<;>omega)))) HONE.out (by decide) (by unfold maxLen;omega) (by omega) (by(try simp)<;>omega) _ rfl ?_;intro g cap w5 hown5 hgrow hat hlt;have HBW:=Zh (Below.grown (B:=w2.heap.size) (a:=w2) (bl (by repeat' first|with_reducible(first|assumption|constructor)|((try simp)<;>omega))) hgrow (by(try simp)<;>omega) (by intro k hk;simp[Value.ownBlock]at hk;omega));have HO5:Hid (OwnI w2.heap.size w5 (some ⟨g,0,none⟩) 8 cap rs):=Zh ⟨HRL.out,by simpa using hown5⟩;simp[Value.ownBlock]at hat;have WB:Hid (Whl w5 (w2.heap.size) 26 #[.int .i64 0,.slice none 0 0,.bool false]):=Zh ((hgrow.block (w2.heap.size) (by(try simp)<;>omega) (by simp[Value.ownBlock])).trans (by exact Xab (Xac _ _ _ rfl) _));have kb:=fun o=>hgrow.cell_far ⟨w2.heap.size,o,none⟩ (by(try simp)<;>omega) (by simp[Value.ownBlock]);have fb:=fun o=>hgrow.frozen_far ⟨w2.heap.size,o,none⟩ (by(try simp)<;>omega) (by simp[Value.ownBlock]);simp(maxDischargeDepth:=6) [go_sem]at kb fb;have HS5:Xan w2 w5:=HBW.out;have hz5:=HBW.out.size;have hz6:=hgrow.size;(try simp only[World.size_alloc,World.size_drew]at hz5 hz6);have HSX:Hid (Xan w2 w5):=Zh HS5;clear hgrow hown5)
   |(refine step_append_lies _ (by rfl) (.tmp 41) (.tmp 43) 22 (by rfl) w2.heap.size 3 i0 (.int .i64 0) 1 8 Tryz.underlying22 HI.out HZ0.out HZ1.out HZ2.out (by rfl) (by decide) (.slice (some ⟨w2.heap.size,0,none⟩) 0 0) 0 [] (by rfl) HN2.out ⟨gR,oR,none⟩ 8 rc (rs.map (Value.int .i64)) (by rfl) HC1.out (HNW.out _ (bl (by repeat' first|with_reducible(first|assumption|constructor)|((try simp)<;>omega)))) HONE.out (by decide) (by unfold maxLen;omega) (by omega) (by(try simp)<;>omega) _ rfl ?_;intro g cap w5 hown5 hgrow hat hlt;have HBW:=Zh (Below.grown (B:=w2.heap.size) (a:=w2) (bl (by repeat' first|with_reducible(first|assumption|constructor)|((try simp)<;>omega))) hgrow (by(try simp)<;>omega) (by intro k hk;simp[Value.ownBlock]at hk;omega));have HO5:Hid (OwnI w2.heap.size w5 (some ⟨g,0,none⟩) 8 cap rs):=Zh ⟨HRL.out,by simpa using hown5⟩;simp[Value.ownBlock]at hat;have WB:Hid (Whl w5 (w2.heap.size+1) 26 #[.int .i64 0,.slice none 0 0,.bool false]):=Zh ((hgrow.block (w2.heap.size+1) (by(try simp)<;>omega) (by simp[Value.ownBlock])).trans (by exact Xac _ _ _ (by simp)));have kb:=fun o=>hgrow.cell_far ⟨w2.heap.size+1,o,none⟩ (by(try simp)<;>omega) (by simp[Value.ownBlock]);have fb:=fun o=>hgrow.frozen_far ⟨w2.heap.size+1,o,none⟩ (by(try simp)<;>omega) (by simp[Value.ownBlock]);simp(maxDischargeDepth:=6) [go_sem]at kb fb;have HS5:Xan w2 w5:=HBW.out;have hz5:=HBW.out.size;have hz6:=hgrow.size;(try simp only[World.size_alloc,World.size_drew]at hz5 hz6);have HSX:Hid (Xan w2 w5):=Zh HS5;clear hgrow hown5)
   |(refine step_append_lies _ (by rfl) (.tmp 41) (.tmp 43) 22 (by rfl) w2.heap.size 3 i0 (.int .i64 0) 1 8 Tryz.underlying22 HI.out HZ0.out HZ1.out HZ2.out (by rfl) (by decide) (.slice (some ⟨w2.heap.size,0,none⟩) 0 0) 0 [] (by rfl) HN3.out ⟨gR,oR,none⟩ 8 rc (rs.map (Value.int .i64)) (by rfl) HC1.out (HNW.out _ (bl (by repeat' first|with_reducible(first|assumption|constructor)|((try simp)<;>omega)))) HONE.out (by decide) (by unfold maxLen;omega) (by omega) (by(try simp)<;>omega) _ rfl ?_;intro g cap w5 hown5 hgrow hat hlt;have HBW:=Zh (Below.grown (B:=w2.heap.size) (a:=w2) (bl (by repeat' first|with_reducible(first|assumption|constructor)|((try simp)<;>omega))) hgrow (by(try simp)<;>omega) (by intro k hk;simp[Value.ownBlock]at hk;omega));have HO5:Hid (OwnI w2.heap.size w5 (some ⟨g,0,none⟩) 8 cap rs):=Zh ⟨HRL.out,by simpa using hown5⟩;simp[Value.ownBlock]at hat;have HS5:Xan w2 w5:=HBW.out;have hz5:=HBW.out.size;have hz6:=hgrow.size;(try simp only[World.size_alloc,World.size_drew]at hz5 hz6);have HSX:Hid (Xan w2 w5):=Zh HS5;clear hgrow hown5))
  all_goals
   go_wp2
   go_meet
   refine⟨_,g,cap,rfl, ?_, ?_, ?_, ?_⟩
   ·first
     |(with_reducible exact Xac _ _ _ rfl)
     |exact Xas (Xas (Xas WB.out 0 _ _ rfl) 1 _ _ rfl) 2 _ _ rfl
   ·first
     |(with_reducible exact HO5.out.alloc _)
     |exact((HO5.out.off (p:=⟨_,0,none⟩) (by(try simp)<;>omega) _).off (p:=⟨_,1,none⟩) (by(try simp)<;>omega) _).off (p:=⟨_,2,none⟩) (by(try simp)<;>omega) _
   ·refine⟨?_, ?_, ?_⟩<;>first|(simp;done)|(simp;omega)|omega
   ·(repeat(first|(with_reducible exact HSX.out)|(with_reducible refine Xae ?_ _)|((with_reducible refine Xa3 ?_ ?_ _);rotate_left;exact(by(try simp)<;>omega))))
 case rest=>
 obtain⟨g12,g2,d2,rfl,hN,hO,⟨hg1,hg2,hg3⟩,hb⟩:=hcut
 have H7:=Zh hN
 have HO:=Zh hO
 have HG2:=Zh (Xat hO.2)
 have hzc:w2.heap.size≤wc.heap.size:=Below.size hb
 replace H0:=Zh (Xaa H0.out hb)
 replace H1:=Zh (Xaa H1.out hb)
 replace H2:=Zh (Xaa H2.out hb)
 replace H3:=Zh (Xaa H3.out hb)
 replace H4:=Zh (Xaa H4.out hb)
 replace H5:=Zh (Xaa H5.out hb)
 replace HB:=Zh (HB.out.trans (hb.mono HB.out.size))
 replace H6:=Zh (Xaa H6.out hb)
 have u0:=(HB.out.cell (p:=⟨gR,oR+ka,none⟩) lR).trans (HRC.out _ _ (Xb1 (k:=(ka:Int)) HRL.out (by omega) (by omega)))
 have v0:=(HB.out.cell (p:=⟨gR,oR+kd,none⟩) lR).trans (HRC.out _ _ (Xb1 (k:=(kd:Int)) HRL.out (by omega) (by omega)))
 have ub:0≤rd rs ka∧rd rs ka≤65535:=Xcn (k:=(ka:Int)) (Xap HC2.out).2.2
 have vb:0≤rd rs kd∧rd rs kd≤65535:=Xcn (k:=(kd:Int)) (Xap HC2.out).2.2
 have k1:=fun o=>Xad H1.out o
 have k6:=fun o=>Xad H6.out o
 clear hN hO hb HN1 HN2 HN3 HC1 HNW HI HZ0 HZ1 HZ2 HONE e1 e2 HK0 HK1 yy1 yy2 yy3 yy4 yy5
 go_upto_region 6 with(fail)
 go_quiet (fail)
 generalize hwq:wc.drewN nq=w6
 have hb:Below wc.heap.size wc w6:=by rw[←hwq];exact Xbs (Below.refl _ _) nq
 have hz6a:w6.heap.size≤wc.heap.size:=by rw[←hwq];exact Nat.le_refl _
 have hz6b:wc.heap.size≤w6.heap.size:=hb.size
 replace HO:=Zh (show OwnI w2.heap.size w6 (some ⟨g2,0,none⟩) 8 d2 rs by rw[←hwq];exact HO.out.drewN nq)
 replace H0:=Zh (Xaa H0.out hb)
 replace H1:=Zh (Xaa H1.out hb)
 replace H2:=Zh (Xaa H2.out hb)
 replace H3:=Zh (Xaa H3.out hb)
 replace H4:=Zh (Xaa H4.out hb)
 replace H5:=Zh (Xaa H5.out hb)
 replace HB:=Zh (HB.out.trans (hb.mono HB.out.size))
 replace H6:=Zh (Xaa H6.out hb)
 replace H7:=Zh (Xaa H7.out hb)
 have hg4:w2.heap.size≤g2:=(HG2.out _ rfl).1
 have hg5:g2<wc.heap.size:=(HG2.out _ rfl).2
 clear hb hwq u0 v0 k1 k6 HG2
 rename_i K_ a_
 revert hV ha hd hi HC2 HXL HL hAt1 hAt2 HRL gM oM HM lM gR oR HR lR HX HMC HRC w0 hz0a hz0b w1 hz1 w2 hz2a hz2b i0 wc u19 u20 u21 u22 u23 u24 u25 u26 u27 u28 u29 u30 u31 u32 u33 u34 u35 u36 u37 u38 u39 u40 u41 u42 u43 u44 u45 u46 u47 u48 u49 u50 u51 u52 u53 u54 u55 u56 u57 u58 u61 u62 u63 u64 u65 u66 u68 u69 u70 u71 u72 u73 u74 u75 u77 u78 u79 u80 u81 u82 u83 u84 u85 u86 u88 u89 u92 u93 u94 u95 u96 u97 u98 u99 u100 u101 u102 u104 u105 u106 u107 u108 u109 u110 u111 u112 u113 u114 u115 u116 u117 u118 u119 u120 u121 u122 u123 u124 u125 u126 u127 u129 u130 u131 u132 u133 u134 u135 u136 u137 u138 u139 u140 u141 u142 u143 u144 u145 u146 u147 u148 u150 u151 u152 u153 u154 u155 u156 u158 u159 u160 u161 u162 u163 u164 u165 u166 u167 u168 u169 u170 u171 u172 u173 u174 u175 u176 u177 u178 u179 u180 u181 u182 u183 u184 u185 u186 u187 u188 u189 u190 u191 u192 u193 u194 u195 u196 u197 u198 u199 u200 u201 u202 u203 u204 u205 u206 u207 u208 u209 u210 u212 u213 u214 u217 u218 u219 u221 u222 u223 u225 u226 u227 u228 u230 u231 u232 u233 u235 u236 u237 u238 u240 u241 u242 u243 u245 u246 u247 u248 u249 u250 u251 u252 u253 u254 u255 u256 u257 u258 u259 u260 u261 g12 g2 d2 hg1 hg2 hg3 hzc ub vb K_ a_ nq w6 hz6a hz6b HO H0 H1 H2 H3 H4 H5 HB H6 H7 hg4 hg5
 exact z_.2:True∧_→∀ M R:Option Addr,Ints w w.heap.size M 512 xs→Ints w w.heap.size R 8 rs→Lines w w.heap.size L n c b.cache→cm xs=0→ckH ⟨at_,rs,false⟩=0→rdV (rd xs at_)=.tuple #[.agg #[.int .i64 K,.int .i64 ka,.int .i64 kd,.int .i64 ki],.int .i64 0]→ka<8→kd<8→ki≤63→Calls Tryz.prog 34 #[.agg #[.slice M 512 mc],.agg #[.int .i64 at_,.slice R 8 rc,.bool false],.agg (B_.b b L n c)] w (StpW w M R L n c res))
end Go.Proofs.YtbopdijnojaaiadGreat
