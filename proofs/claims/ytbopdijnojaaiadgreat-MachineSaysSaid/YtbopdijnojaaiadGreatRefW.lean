/- The hart: the document's Stepped: laws of regions, and the closure. No statement of the seat is proved here. -/
import Derived.Test.YtbopdijnojaaiadGreatZz
import Derived.Test.YtbopdijnojaaiadGreatWh2
import Derived.Test.YtbopdijnojaaiadGreatMemZ
import Derived.Test.YtbopdijnojaaiadGreatCode
import Derived.Test.YtbopdijnojaaiadGreatHartP
namespace Go.Proofs.YtbopdijnojaaiadGreat
set_option maxRecDepth 100000
set_option maxHeartbeats 4000000
open Go.RowKit
set_option linter.unusedSimpArgs false
set_option linter.unusedVariables false
theorem Tryz.sizeBool : (Tryz.prog.info? 4).map (·.size) = some 1 := by kernel_rfl
section
variable {P : Program} {ops : Array Oper} {Q : Exit → Act → World → Prop} {a : Act} {w : World}
theorem Xdb {id : Nat} (hm : P.follows .mixedOrders = true) (o0 o1 o2 o3 o4 o5 : Oper) (e0 : ops[0]? = some o0) (e1 : ops[1]? = some o1) (e2 : ops[2]? = some o2) (e3 : ops[3]? = some o3) (e4 : ops[4]? = some o4) (e5 : ops[5]? = some o5) (hsz : ops.size = 6)
    (hs : Region.noSelect ops = true) (f0 : Region.free .any ops #[false, false, false, false, false, false] 0 = true) (r0 : (Region.ready .any ops #[false, false, false, false, false, false]).contains 0 = true)
    (f1 : Region.free .any ops #[true, false, false, false, false, false] 1 = true) (r1 : (Region.ready .any ops #[true, false, false, false, false, false]).contains 1 = true) (f2 : Region.free .any ops #[true, true, false, false, false, false] 2 = true) (r2 : (Region.ready .any ops #[true, true, false, false, false, false]).contains 2 = true)
    (r3 : Region.ready .any ops #[true, true, true, false, false, false] = [3]) (r4 : Region.ready .any ops #[true, true, true, true, false, false] = [4]) (r5 : Region.ready .any ops #[true, true, true, true, true, false] = [5]) (r6 : Region.ready .any ops #[true, true, true, true, true, true] = [])
    (g0 : o0.guard = none) (g1 : o1.guard = none) (g2 : o2.guard = none) (g3 : o3.guard = none) (g4 : o4.guard = none) (g5 : o5.guard = none)
    (T1 T2 T3 : TypeId) (x1 x2 x3 y1 y2 y3 z1 z2 z3 : Operand) (h0 : o0.op = .load T1 x1) (h1 : o1.op = .load T2 x2) (h2 : o2.op = .load T3 x3) (h3 : o3.op = .store T1 y1 z1) (h4 : o4.op = .store T2 y2 z2) (h5 : o5.op = .store T3 y3 z3)
    (b1 b2 b3 c1 c2 c3 : Nat) (C1 C2 C3 : Array Value) (d1 d2 d3 : TypeDesc) (u1 : P.underlying T1 = some d1) (u2 : P.underlying T2 = some d2) (u3 : P.underlying T3 = some d3) (i1 : d1.isRow = true) (i2 : d2.isRow = true) (i3 : d3.isRow = true)
    (s1 : (P.info? T1).map (·.size) = some C1.size) (s2 : (P.info? T2).map (·.size) = some C2.size) (s3 : (P.info? T3).map (·.size) = some C3.size)
    (k1 : C1.toList.all (·.oneCell') = true) (k2 : C2.toList.all (·.oneCell') = true) (k3 : C3.toList.all (·.oneCell') = true)
    (p1 : a.eval x1 = .pointer (some ⟨b1, 0, none⟩)) (p2 : (a.put o0.dst (.agg C1)).eval x2 = .pointer (some ⟨b2, 0, none⟩)) (p3 : ((a.put o0.dst (.agg C1)).put o1.dst (.agg C2)).eval x3 = .pointer (some ⟨b3, 0, none⟩))
    (q1 : (((a.put o0.dst (.agg C1)).put o1.dst (.agg C2)).put o2.dst (.agg C3)).eval y1 = .pointer (some ⟨c1, 0, none⟩)) (q2 : ((((a.put o0.dst (.agg C1)).put o1.dst (.agg C2)).put o2.dst (.agg C3)).put o3.dst undef).eval y2 = .pointer (some ⟨c2, 0, none⟩)) (q3 : (((((a.put o0.dst (.agg C1)).put o1.dst (.agg C2)).put o2.dst (.agg C3)).put o3.dst undef).put o4.dst undef).eval y3 = .pointer (some ⟨c3, 0, none⟩))
    (w1 : (((a.put o0.dst (.agg C1)).put o1.dst (.agg C2)).put o2.dst (.agg C3)).eval z1 = .agg C1) (w2 : ((((a.put o0.dst (.agg C1)).put o1.dst (.agg C2)).put o2.dst (.agg C3)).put o3.dst undef).eval z2 = .agg C2) (w3 : (((((a.put o0.dst (.agg C1)).put o1.dst (.agg C2)).put o2.dst (.agg C3)).put o3.dst undef).put o4.dst undef).eval z3 = .agg C3)
    (t1 t2 t3 u1' u2' u3' : TypeId) (R1 : Whl w b1 t1 C1) (R2 : Whl w b2 t2 C2) (R3 : Whl w b3 t3 C3) (D1 D2 D3 : Array Value) (Y1 : Whl w c1 u1' D1) (Y2 : Whl w c2 u2' D2) (Y3 : Whl w c3 u3' D3) (v1 : D1.size = C1.size) (v2 : D2.size = C2.size) (v3 : D3.size = C3.size)
    (n11 : b1 ≠ c1) (n12 : b1 ≠ c2) (n13 : b1 ≠ c3) (n21 : b2 ≠ c1) (n22 : b2 ≠ c2) (n23 : b2 ≠ c3) (n31 : b3 ≠ c1) (n32 : b3 ≠ c2) (n33 : b3 ≠ c3) (m12 : c1 ≠ c2) (m13 : c1 ≠ c3) (m23 : c2 ≠ c3)
    (hQ0 : ∀ (v : Value) c a w, Q (.panic c) (a.put o0.dst v) w → Q (.panic c) a w) (hQ1 : ∀ (v : Value) c a w, Q (.panic c) (a.put o1.dst v) w → Q (.panic c) a w) (hQ2 : ∀ (v : Value) c a w, Q (.panic c) (a.put o2.dst v) w → Q (.panic c) a w)
    (h : ∀ w', Chg (fun q => q = c1 ∨ q = c2 ∨ q = c3) w w' → w'.rangeAt c1 0 C1.toList → w'.rangeAt c2 0 C2.toList → w'.rangeAt c3 0 C3.toList → Q .normal ((((((a.put o0.dst (.agg C1)).put o1.dst (.agg C2)).put o2.dst (.agg C3)).put o3.dst undef).put o4.dst undef).put o5.dst undef) w') : (Code.region id ops true).wp P Q a w := by
 refine z168 ?_; intro wd l1 l2
 have l3 : (P.info? T3).map (·.size) = some C3.toList.length := by rw [s3, Array.length_toList]
 refine z166 ?_; intro all thr
 refine wp_region_held (S := fun W => W.rangeAt b1 0 C1.toList ∧ W.rangeAt b2 0 C2.toList ∧ W.rangeAt b3 0 C3.toList) hm ?_
 have hS0 : (w.drew).rangeAt b1 0 C1.toList ∧ (w.drew).rangeAt b2 0 C2.toList ∧ (w.drew).rangeAt b3 0 C3.toList := ⟨all R1, all R2, all R3⟩
 have stp : ∀ {W : World} (c : Nat) (vs : List Value), b1 ≠ c → b2 ≠ c → b3 ≠ c → (W.rangeAt b1 0 C1.toList ∧ W.rangeAt b2 0 C2.toList ∧ W.rangeAt b3 0 C3.toList) → (W.setCells c 0 vs).rangeAt b1 0 C1.toList ∧ (W.setCells c 0 vs).rangeAt b2 0 C2.toList ∧ (W.setCells c 0 vs).rangeAt b3 0 C3.toList :=
   fun c vs e1 e2 e3 hS => ⟨World.rangeAt_setCells_apart hS.1 _ _ _ (Or.inl e1), World.rangeAt_setCells_apart hS.2.1 _ _ _ (Or.inl e2), World.rangeAt_setCells_apart hS.2.2 _ _ _ (Or.inl e3)⟩
 have hS1 := stp (W := w.drew) c1 C1.toList n11 n21 n31 hS0
 have hS2 := stp c2 C2.toList n12 n22 n32 hS1
 have hS3 := stp c3 C3.toList n13 n23 n33 hS2
 rw [hsz]
 show wpAnyH P .any ops Q _ 6 #[false, false, false, false, false, false] a w.drew
 have t0 := yieldsIf_load_mid (ops := ops) (S := fun W => W.rangeAt b1 0 C1.toList ∧ W.rangeAt b2 0 C2.toList ∧ W.rangeAt b3 0 C3.toList) (wd o0 a g0) T1 x1 h0 b1 0 p1 C1.toList d1 (fun W h => h.1) u1 i1 l1
 rw [Array.toArray_toList] at t0
 refine wpAnyH_take (i := 0) e0 hs f0 r0 (hQ0 _) t0 hS0 ?_
 show wpAnyH P .any ops Q _ 5 #[true, false, false, false, false, false] (a.put o0.dst (.agg C1)) w.drew
 have t1 := yieldsIf_load_mid (ops := ops) (S := fun W => W.rangeAt b1 0 C1.toList ∧ W.rangeAt b2 0 C2.toList ∧ W.rangeAt b3 0 C3.toList) (wd o1 (a.put o0.dst (.agg C1)) g1) T2 x2 h1 b2 0 p2 C2.toList d2 (fun W h => h.2.1) u2 i2 l2
 rw [Array.toArray_toList] at t1
 refine wpAnyH_take (i := 1) e1 hs f1 r1 (hQ1 _) t1 hS0 ?_
 show wpAnyH P .any ops Q _ 4 #[true, true, false, false, false, false] ((a.put o0.dst (.agg C1)).put o1.dst (.agg C2)) w.drew
 have t2 := yieldsIf_load_mid (ops := ops) (S := fun W => W.rangeAt b1 0 C1.toList ∧ W.rangeAt b2 0 C2.toList ∧ W.rangeAt b3 0 C3.toList) (wd o2 ((a.put o0.dst (.agg C1)).put o1.dst (.agg C2)) g2) T3 x3 h2 b3 0 p3 C3.toList d3 (fun W h => h.2.2) u3 i3 l3
 rw [Array.toArray_toList] at t2
 refine wpAnyH_take (i := 2) e2 hs f2 r2 (hQ2 _) t2 hS0 ?_
 show wpAnyH P .any ops Q _ 3 #[true, true, true, false, false, false] (((a.put o0.dst (.agg C1)).put o1.dst (.agg C2)).put o2.dst (.agg C3)) w.drew
 refine wpAnyH_all r3 (by simp) (fun i hi => ?_)
 obtain rfl : i = 3 := by simpa using hi
 refine Xb0 e3 g3 T1 y1 z1 h3 c1 0 C1 q1 w1 (thr (Xdv Y1) v1) s1 (by rw [← Array.all_toList]; exact k1) ⟨hS1, ?_⟩
 show wpAnyH P .any ops Q _ 2 #[true, true, true, true, false, false] _ _
 refine wpAnyH_all r4 (by simp) (fun i hi => ?_)
 obtain rfl : i = 4 := by simpa using hi
 refine Xb0 e4 g4 T2 y2 z2 h4 c2 0 C2 q2 w2 (World.there_setCells (w := w.drew) (thr (Xdv Y2) v2) _ _ _) s2 (by rw [← Array.all_toList]; exact k2) ⟨hS2, ?_⟩
 show wpAnyH P .any ops Q _ 1 #[true, true, true, true, true, false] _ _
 refine wpAnyH_all r5 (by simp) (fun i hi => ?_)
 obtain rfl : i = 5 := by simpa using hi
 refine Xb0 e5 g5 T3 y3 z3 h5 c3 0 C3 q3 w3 (World.there_setCells (World.there_setCells (w := w.drew) (thr (Xdv Y3) v3) _ _ _) _ _ _) s3 (by rw [← Array.all_toList]; exact k3) ⟨hS3, ?_⟩
 have ccs : ∀ (g : Nat) (vs : List Value) (o : Nat) (W : World), Chg (fun q => q = g) W (W.setCells g o vs) := by
   intro g vs
   induction vs with
   | nil => intro o W; exact Xar W
   | cons v r ih => intro o W; exact Xas (Xbk (P := fun q => q = g) (Xar W) (p := ⟨g, o, none⟩) (Or.inl rfl) v) (ih (o + 1) _)
 refine wpAnyH_done r6 (h _ ?_ ?_ ?_ ?_) _
 · exact Xas (Xas (Xas (Xbd (Xar w)) (Xa5 (ccs c1 C1.toList 0 _) (fun q _ e => Or.inl e))) (Xa5 (ccs c2 C2.toList 0 _) (fun q _ e => Or.inr (Or.inl e)))) (Xa5 (ccs c3 C3.toList 0 _) (fun q _ e => Or.inr (Or.inr e)))
 · exact World.rangeAt_setCells_apart (World.rangeAt_setCells_apart (World.rangeAt_setCells_same w.drew c1 0 C1.toList (thr (Xdv Y1) (by rw [v1, Array.length_toList]))) _ _ _ (Or.inl m12)) _ _ _ (Or.inl m13)
 · exact World.rangeAt_setCells_apart (World.rangeAt_setCells_same (w.drew.setCells c1 0 C1.toList) c2 0 C2.toList (World.there_setCells (w := w.drew) (thr (Xdv Y2) (by rw [v2, Array.length_toList])) _ _ _)) _ _ _ (Or.inl m23)
 · exact World.rangeAt_setCells_same _ c3 0 C3.toList (World.there_setCells (World.there_setCells (w := w.drew) (thr (Xdv Y3) (by rw [v3, Array.length_toList])) _ _ _) _ _ _)
theorem Xgy {S : World → Prop} {op : Oper} (hw : op.guard = none) (ty : TypeId) (x : Operand) (ho : op.op = .load ty x) (p : Addr) (hx : a.eval x = .pointer (some p)) (v : Value) (hS : ∀ w, S w → (loadVar ty p).run P w = .ok v w) : YieldsIf P ops S op v a :=
  .inl ⟨by simp [Region.wanted, hw], fun w hw' => by
    unfold execOp
    simp only [ho, hx, Instr.loadAt, Instr.sureAddr, Sem.run_bind, Sem.run_pure, Result.andThen_ok, hS w hw']⟩
theorem Xfu : ∀ (g : Nat) (vs : List Value) (o : Nat) (W : World), Chg (fun q => q = g) W (W.setCells g o vs) := by
    intro g vs
    induction vs with
    | nil => intro o W; exact Xar W
    | cons v r ih => intro o W; exact Xas (Xbk (P := fun q => q = g) (Xar W) (p := ⟨g, o, none⟩) (Or.inl rfl) v) (ih (o + 1) _)
theorem Xo6 {id : Nat} (hm : P.follows .mixedOrders = true) (o0 o1 o2 o3 o4 o5 o6 o7 o8 o9 o10 o11 : Oper) (e0 : ops[0]? = some o0) (e1 : ops[1]? = some o1) (e2 : ops[2]? = some o2) (e3 : ops[3]? = some o3) (e4 : ops[4]? = some o4) (e5 : ops[5]? = some o5) (e6 : ops[6]? = some o6) (e7 : ops[7]? = some o7) (e8 : ops[8]? = some o8) (e9 : ops[9]? = some o9) (e10 : ops[10]? = some o10) (e11 : ops[11]? = some o11) (hsz : ops.size = 12) (hs : Region.noSelect ops = true)
    (f0 : Region.free .any ops #[false, false, false, false, false, false, false, false, false, false, false, false] 0 = true) (r0 : (Region.ready .any ops #[false, false, false, false, false, false, false, false, false, false, false, false]).contains 0 = true)
    (f1 : Region.free .any ops #[true, false, false, false, false, false, false, false, false, false, false, false] 1 = true) (r1 : (Region.ready .any ops #[true, false, false, false, false, false, false, false, false, false, false, false]).contains 1 = true)
    (f2 : Region.free .any ops #[true, true, false, false, false, false, false, false, false, false, false, false] 2 = true) (r2 : (Region.ready .any ops #[true, true, false, false, false, false, false, false, false, false, false, false]).contains 2 = true)
    (f3 : Region.free .any ops #[true, true, true, false, false, false, false, false, false, false, false, false] 3 = true) (r3 : (Region.ready .any ops #[true, true, true, false, false, false, false, false, false, false, false, false]).contains 3 = true)
    (f4 : Region.free .any ops #[true, true, true, true, false, false, false, false, false, false, false, false] 4 = true) (r4 : (Region.ready .any ops #[true, true, true, true, false, false, false, false, false, false, false, false]).contains 4 = true)
    (f5 : Region.free .any ops #[true, true, true, true, true, false, false, false, false, false, false, false] 5 = true) (r5 : (Region.ready .any ops #[true, true, true, true, true, false, false, false, false, false, false, false]).contains 5 = true)
    (f7 : Region.free .any ops #[true, true, true, true, true, true, false, false, false, false, false, false] 7 = true) (r7 : (Region.ready .any ops #[true, true, true, true, true, true, false, false, false, false, false, false]).contains 7 = true)
    (f8 : Region.free .any ops #[true, true, true, true, true, true, false, true, false, false, false, false] 8 = true) (r8 : (Region.ready .any ops #[true, true, true, true, true, true, false, true, false, false, false, false]).contains 8 = true)
    (r6 : Region.ready .any ops #[true, true, true, true, true, true, false, true, true, false, false, false] = [6]) (r9 : Region.ready .any ops #[true, true, true, true, true, true, true, true, true, false, false, false] = [9]) (r10 : Region.ready .any ops #[true, true, true, true, true, true, true, true, true, true, false, false] = [10]) (r11 : Region.ready .any ops #[true, true, true, true, true, true, true, true, true, true, true, false] = [11]) (r12 : Region.ready .any ops #[true, true, true, true, true, true, true, true, true, true, true, true] = [])
    (g0 : o0.guard = none) (g6 : o6.guard = none) (g7 : o7.guard = none) (g8 : o8.guard = none) (g9 : o9.guard = none) (g10 : o10.guard = none) (g11 : o11.guard = none)
    (T1 T2 T3 : TypeId) (x0 x7 x8 y9 y10 y11 z9 z10 z11 : Operand) (h0 : o0.op = .load T1 x0) (h7 : o7.op = .load T2 x7) (h8 : o8.op = .load T3 x8) (h9 : o9.op = .store T1 y9 z9) (h10 : o10.op = .store T2 y10 z10) (h11 : o11.op = .store T3 y11 z11)
    (b1 b2 b3 c1 c2 c3 : Nat) (C1 C2 C3 : Array Value) (d1 d2 d3 : TypeDesc) (u1 : P.underlying T1 = some d1) (u2 : P.underlying T2 = some d2) (u3 : P.underlying T3 = some d3) (i1 : d1.isRow = true) (i2 : d2.isRow = true) (i3 : d3.isRow = true)
    (s1 : (P.info? T1).map (·.size) = some C1.size) (s2 : (P.info? T2).map (·.size) = some C2.size) (s3 : (P.info? T3).map (·.size) = some C3.size) (s1' : C1.size = 1) (k2 : C2.toList.all (·.oneCell') = true) (k3 : C3.toList.all (·.oneCell') = true)
    (pc : Addr) (vc : Value) (hpc : w.cell? pc = some vc) (v1 v2 v3 v4 v5 : Value)
    (y1 : YieldsIf P ops (fun W => W.rangeAt b1 0 C1.toList ∧ W.rangeAt b2 0 C2.toList ∧ W.rangeAt b3 0 C3.toList ∧ W.cell? pc = some vc) o1 v1 (a.put o0.dst (.agg C1)))
    (y2 : YieldsIf P ops (fun W => W.rangeAt b1 0 C1.toList ∧ W.rangeAt b2 0 C2.toList ∧ W.rangeAt b3 0 C3.toList ∧ W.cell? pc = some vc) o2 v2 ((a.put o0.dst (.agg C1)).put o1.dst v1))
    (y3 : YieldsIf P ops (fun W => W.rangeAt b1 0 C1.toList ∧ W.rangeAt b2 0 C2.toList ∧ W.rangeAt b3 0 C3.toList ∧ W.cell? pc = some vc) o3 v3 (((a.put o0.dst (.agg C1)).put o1.dst v1).put o2.dst v2))
    (y4 : YieldsIf P ops (fun W => W.rangeAt b1 0 C1.toList ∧ W.rangeAt b2 0 C2.toList ∧ W.rangeAt b3 0 C3.toList ∧ W.cell? pc = some vc) o4 v4 ((((a.put o0.dst (.agg C1)).put o1.dst v1).put o2.dst v2).put o3.dst v3))
    (y5 : YieldsIf P ops (fun W => W.rangeAt b1 0 C1.toList ∧ W.rangeAt b2 0 C2.toList ∧ W.rangeAt b3 0 C3.toList ∧ W.cell? pc = some vc) o5 v5 (((((a.put o0.dst (.agg C1)).put o1.dst v1).put o2.dst v2).put o3.dst v3).put o4.dst v4))
    (p0 : a.eval x0 = .pointer (some ⟨b1, 0, none⟩)) (p7 : ((((((a.put o0.dst (.agg C1)).put o1.dst v1).put o2.dst v2).put o3.dst v3).put o4.dst v4).put o5.dst v5).eval x7 = .pointer (some ⟨b2, 0, none⟩)) (p8 : (((((((a.put o0.dst (.agg C1)).put o1.dst v1).put o2.dst v2).put o3.dst v3).put o4.dst v4).put o5.dst v5).put o7.dst (.agg C2)).eval x8 = .pointer (some ⟨b3, 0, none⟩))
    (q9 : ∀ A d, (((((((((a.put o0.dst (.agg C1)).put o1.dst v1).put o2.dst v2).put o3.dst v3).put o4.dst v4).put o5.dst v5).put o7.dst (.agg C2)).put o8.dst (.agg C3)).put o6.dst (.agg #[.slice A 512 d])).eval y9 = .pointer (some ⟨c1, 0, none⟩)) (q10 : ∀ A d, ((((((((((a.put o0.dst (.agg C1)).put o1.dst v1).put o2.dst v2).put o3.dst v3).put o4.dst v4).put o5.dst v5).put o7.dst (.agg C2)).put o8.dst (.agg C3)).put o6.dst (.agg #[.slice A 512 d])).put o9.dst undef).eval y10 = .pointer (some ⟨c2, 0, none⟩)) (q11 : ∀ A d, (((((((((((a.put o0.dst (.agg C1)).put o1.dst v1).put o2.dst v2).put o3.dst v3).put o4.dst v4).put o5.dst v5).put o7.dst (.agg C2)).put o8.dst (.agg C3)).put o6.dst (.agg #[.slice A 512 d])).put o9.dst undef).put o10.dst undef).eval y11 = .pointer (some ⟨c3, 0, none⟩))
    (w9 : ∀ A d, (((((((((a.put o0.dst (.agg C1)).put o1.dst v1).put o2.dst v2).put o3.dst v3).put o4.dst v4).put o5.dst v5).put o7.dst (.agg C2)).put o8.dst (.agg C3)).put o6.dst (.agg #[.slice A 512 d])).eval z9 = .agg #[.slice A 512 d]) (w10 : ∀ A d, ((((((((((a.put o0.dst (.agg C1)).put o1.dst v1).put o2.dst v2).put o3.dst v3).put o4.dst v4).put o5.dst v5).put o7.dst (.agg C2)).put o8.dst (.agg C3)).put o6.dst (.agg #[.slice A 512 d])).put o9.dst undef).eval z10 = .agg C2) (w11 : ∀ A d, (((((((((((a.put o0.dst (.agg C1)).put o1.dst v1).put o2.dst v2).put o3.dst v3).put o4.dst v4).put o5.dst v5).put o7.dst (.agg C2)).put o8.dst (.agg C3)).put o6.dst (.agg #[.slice A 512 d])).put o9.dst undef).put o10.dst undef).eval z11 = .agg C3)
    (t1 t2 t3 u1' u2' u3' : TypeId) (R1 : Whl w b1 t1 C1) (R2 : Whl w b2 t2 C2) (R3 : Whl w b3 t3 C3) (D1 D2 D3 : Array Value) (Y1 : Whl w c1 u1' D1) (Y2 : Whl w c2 u2' D2) (Y3 : Whl w c3 u3' D3) (z1 : D1.size = 1) (z2 : D2.size = C2.size) (z3 : D3.size = C3.size)
    (n11 : b1 ≠ c1) (n12 : b1 ≠ c2) (n13 : b1 ≠ c3) (n21 : b2 ≠ c1) (n22 : b2 ≠ c2) (n23 : b2 ≠ c3) (n31 : b3 ≠ c1) (n32 : b3 ≠ c2) (n33 : b3 ≠ c3) (m12 : c1 ≠ c2) (m13 : c1 ≠ c3) (m23 : c2 ≠ c3) (l1 : pc.block ≠ c1) (l2 : pc.block ≠ c2) (l3 : pc.block ≠ c3)
    (hQ0 : ∀ (v : Value) c a w, Q (.panic c) (a.put o0.dst v) w → Q (.panic c) a w) (hQ1 : ∀ (v : Value) c a w, Q (.panic c) (a.put o1.dst v) w → Q (.panic c) a w) (hQ2 : ∀ (v : Value) c a w, Q (.panic c) (a.put o2.dst v) w → Q (.panic c) a w) (hQ3 : ∀ (v : Value) c a w, Q (.panic c) (a.put o3.dst v) w → Q (.panic c) a w) (hQ4 : ∀ (v : Value) c a w, Q (.panic c) (a.put o4.dst v) w → Q (.panic c) a w) (hQ5 : ∀ (v : Value) c a w, Q (.panic c) (a.put o5.dst v) w → Q (.panic c) a w) (hQ7 : ∀ (v : Value) c a w, Q (.panic c) (a.put o7.dst v) w → Q (.panic c) a w) (hQ8 : ∀ (v : Value) c a w, Q (.panic c) (a.put o8.dst v) w → Q (.panic c) a w)
    (CC : Option Addr → Nat → World → Prop) (hcs : ∀ A d W, CC A d W → Below w.heap.size w W) (hcall : ∀ K : Act → World → Prop, (∀ A d W, CC A d W → K (((((((((a.put o0.dst (.agg C1)).put o1.dst v1).put o2.dst v2).put o3.dst v3).put o4.dst v4).put o5.dst v5).put o7.dst (.agg C2)).put o8.dst (.agg C3)).put o6.dst (.agg #[.slice A 512 d])) W) → o6.wp P ((((((((a.put o0.dst (.agg C1)).put o1.dst v1).put o2.dst v2).put o3.dst v3).put o4.dst v4).put o5.dst v5).put o7.dst (.agg C2)).put o8.dst (.agg C3)) w.drew K Q)
    (h : ∀ A d W w', CC A d W → Chg (fun q => q = c1 ∨ q = c2 ∨ q = c3) W w' → w'.rangeAt c1 0 [.slice A 512 d] → w'.rangeAt c2 0 C2.toList → w'.rangeAt c3 0 C3.toList → Q .normal ((((((((((((a.put o0.dst (.agg C1)).put o1.dst v1).put o2.dst v2).put o3.dst v3).put o4.dst v4).put o5.dst v5).put o7.dst (.agg C2)).put o8.dst (.agg C3)).put o6.dst (.agg #[.slice A 512 d])).put o9.dst undef).put o10.dst undef).put o11.dst undef) w') : (Code.region id ops true).wp P Q a w := by
 have wd : ∀ (o : Oper) (a : Act), o.guard = none → Region.wanted o (yielded ops a.tmps) = true := fun o a hg => by simp [Region.wanted, hg]
 have j1 : (P.info? T1).map (·.size) = some C1.toList.length := by rw [s1, Array.length_toList]
 have j2 : (P.info? T2).map (·.size) = some C2.toList.length := by rw [s2, Array.length_toList]
 have j3 : (P.info? T3).map (·.size) = some C3.toList.length := by rw [s3, Array.length_toList]
 refine z166 ?_; intro all thr
 refine wp_region_held (S := (fun W => W.rangeAt b1 0 C1.toList ∧ W.rangeAt b2 0 C2.toList ∧ W.rangeAt b3 0 C3.toList ∧ W.cell? pc = some vc)) hm ?_
 have hS0 : (w.drew).rangeAt b1 0 C1.toList ∧ (w.drew).rangeAt b2 0 C2.toList ∧ (w.drew).rangeAt b3 0 C3.toList ∧ w.drew.cell? pc = some vc := ⟨all R1, all R2, all R3, hpc⟩
 have stp : ∀ {W : World} (c : Nat) (vs : List Value), b1 ≠ c → b2 ≠ c → b3 ≠ c → pc.block ≠ c → (W.rangeAt b1 0 C1.toList ∧ W.rangeAt b2 0 C2.toList ∧ W.rangeAt b3 0 C3.toList ∧ W.cell? pc = some vc) → (W.setCells c 0 vs).rangeAt b1 0 C1.toList ∧ (W.setCells c 0 vs).rangeAt b2 0 C2.toList ∧ (W.setCells c 0 vs).rangeAt b3 0 C3.toList ∧ (W.setCells c 0 vs).cell? pc = some vc :=
   fun c vs e1 e2 e3 e4 hS => ⟨World.rangeAt_setCells_apart hS.1 _ _ _ (Or.inl e1), World.rangeAt_setCells_apart hS.2.1 _ _ _ (Or.inl e2), World.rangeAt_setCells_apart hS.2.2.1 _ _ _ (Or.inl e3), Xa1 hS.2.2.2 (Xfu c vs 0 _) e4⟩
 rw [hsz]
 show wpAnyH P .any ops Q _ 12 #[false, false, false, false, false, false, false, false, false, false, false, false] a w.drew
 have t0 := yieldsIf_load_mid (ops := ops) (S := (fun W => W.rangeAt b1 0 C1.toList ∧ W.rangeAt b2 0 C2.toList ∧ W.rangeAt b3 0 C3.toList ∧ W.cell? pc = some vc)) (wd o0 a g0) T1 x0 h0 b1 0 p0 C1.toList d1 (fun W h => h.1) u1 i1 j1
 rw [Array.toArray_toList] at t0
 refine wpAnyH_take (i := 0) e0 hs f0 r0 (hQ0 _) t0 hS0 ?_
 show wpAnyH P .any ops Q _ 11 #[true, false, false, false, false, false, false, false, false, false, false, false] (a.put o0.dst (.agg C1)) w.drew
 refine wpAnyH_take (i := 1) e1 hs f1 r1 (hQ1 _) y1 hS0 ?_
 show wpAnyH P .any ops Q _ 10 #[true, true, false, false, false, false, false, false, false, false, false, false] ((a.put o0.dst (.agg C1)).put o1.dst v1) w.drew
 refine wpAnyH_take (i := 2) e2 hs f2 r2 (hQ2 _) y2 hS0 ?_
 show wpAnyH P .any ops Q _ 9 #[true, true, true, false, false, false, false, false, false, false, false, false] (((a.put o0.dst (.agg C1)).put o1.dst v1).put o2.dst v2) w.drew
 refine wpAnyH_take (i := 3) e3 hs f3 r3 (hQ3 _) y3 hS0 ?_
 show wpAnyH P .any ops Q _ 8 #[true, true, true, true, false, false, false, false, false, false, false, false] ((((a.put o0.dst (.agg C1)).put o1.dst v1).put o2.dst v2).put o3.dst v3) w.drew
 refine wpAnyH_take (i := 4) e4 hs f4 r4 (hQ4 _) y4 hS0 ?_
 show wpAnyH P .any ops Q _ 7 #[true, true, true, true, true, false, false, false, false, false, false, false] (((((a.put o0.dst (.agg C1)).put o1.dst v1).put o2.dst v2).put o3.dst v3).put o4.dst v4) w.drew
 refine wpAnyH_take (i := 5) e5 hs f5 r5 (hQ5 _) y5 hS0 ?_
 show wpAnyH P .any ops Q _ 6 #[true, true, true, true, true, true, false, false, false, false, false, false] ((((((a.put o0.dst (.agg C1)).put o1.dst v1).put o2.dst v2).put o3.dst v3).put o4.dst v4).put o5.dst v5) w.drew
 have t7 := yieldsIf_load_mid (ops := ops) (S := (fun W => W.rangeAt b1 0 C1.toList ∧ W.rangeAt b2 0 C2.toList ∧ W.rangeAt b3 0 C3.toList ∧ W.cell? pc = some vc)) (wd o7 ((((((a.put o0.dst (.agg C1)).put o1.dst v1).put o2.dst v2).put o3.dst v3).put o4.dst v4).put o5.dst v5) g7) T2 x7 h7 b2 0 p7 C2.toList d2 (fun W h => h.2.1) u2 i2 j2
 rw [Array.toArray_toList] at t7
 refine wpAnyH_take (i := 7) e7 hs f7 r7 (hQ7 _) t7 hS0 ?_
 show wpAnyH P .any ops Q _ 5 #[true, true, true, true, true, true, false, true, false, false, false, false] (((((((a.put o0.dst (.agg C1)).put o1.dst v1).put o2.dst v2).put o3.dst v3).put o4.dst v4).put o5.dst v5).put o7.dst (.agg C2)) w.drew
 have t8 := yieldsIf_load_mid (ops := ops) (S := (fun W => W.rangeAt b1 0 C1.toList ∧ W.rangeAt b2 0 C2.toList ∧ W.rangeAt b3 0 C3.toList ∧ W.cell? pc = some vc)) (wd o8 (((((((a.put o0.dst (.agg C1)).put o1.dst v1).put o2.dst v2).put o3.dst v3).put o4.dst v4).put o5.dst v5).put o7.dst (.agg C2)) g8) T3 x8 h8 b3 0 p8 C3.toList d3 (fun W h => h.2.2.1) u3 i3 j3
 rw [Array.toArray_toList] at t8
 refine wpAnyH_take (i := 8) e8 hs f8 r8 (hQ8 _) t8 hS0 ?_
 show wpAnyH P .any ops Q _ 4 #[true, true, true, true, true, true, false, true, true, false, false, false] ((((((((a.put o0.dst (.agg C1)).put o1.dst v1).put o2.dst v2).put o3.dst v3).put o4.dst v4).put o5.dst v5).put o7.dst (.agg C2)).put o8.dst (.agg C3)) w.drew
 refine wpAnyH_all r6 (by simp) (fun i hi => ?_)
 obtain rfl : i = 6 := by simpa using hi
 unfold Go.wpOp
 simp only [e6]
 rw [if_pos (wd o6 _ g6)]
 refine .inl (hcall _ (fun A d W hC => ?_))
 have hb := hcs A d W hC
 have hS6 : W.rangeAt b1 0 C1.toList ∧ W.rangeAt b2 0 C2.toList ∧ W.rangeAt b3 0 C3.toList ∧ W.cell? pc = some vc := ⟨all (Xaa R1 hb), all (Xaa R2 hb), all (Xaa R3 hb), Xae hb hpc⟩
 have Z1 := Xaa Y1 hb
 have Z2 := Xaa Y2 hb
 have Z3 := Xaa Y3 hb
 have hS9 := stp c1 [.slice A 512 d] n11 n21 n31 l1 hS6
 have hS10 := stp c2 C2.toList n12 n22 n32 l2 hS9
 have hS11 := stp c3 C3.toList n13 n23 n33 l3 hS10
 refine ⟨hS6, ?_⟩
 show wpAnyH P .any ops Q _ 3 #[true, true, true, true, true, true, true, true, true, false, false, false] (((((((((a.put o0.dst (.agg C1)).put o1.dst v1).put o2.dst v2).put o3.dst v3).put o4.dst v4).put o5.dst v5).put o7.dst (.agg C2)).put o8.dst (.agg C3)).put o6.dst (.agg #[.slice A 512 d])) W
 refine wpAnyH_all r9 (by simp) (fun i hi => ?_)
 obtain rfl : i = 9 := by simpa using hi
 refine Xb0 e9 g9 T1 y9 z9 h9 c1 0 #[.slice A 512 d] (q9 A d) (w9 A d) (thr Z1 z1) (by rw [s1, s1']; rfl) (by rw [← Array.all_toList]; rfl) ⟨hS9, ?_⟩
 show wpAnyH P .any ops Q _ 2 #[true, true, true, true, true, true, true, true, true, true, false, false] _ _
 refine wpAnyH_all r10 (by simp) (fun i hi => ?_)
 obtain rfl : i = 10 := by simpa using hi
 refine Xb0 e10 g10 T2 y10 z10 h10 c2 0 C2 (q10 A d) (w10 A d) (World.there_setCells (thr Z2 z2) _ _ _) s2 (by rw [← Array.all_toList]; exact k2) ⟨hS10, ?_⟩
 show wpAnyH P .any ops Q _ 1 #[true, true, true, true, true, true, true, true, true, true, true, false] _ _
 refine wpAnyH_all r11 (by simp) (fun i hi => ?_)
 obtain rfl : i = 11 := by simpa using hi
 refine Xb0 e11 g11 T3 y11 z11 h11 c3 0 C3 (q11 A d) (w11 A d) (World.there_setCells (World.there_setCells (thr Z3 z3) _ _ _) _ _ _) s3 (by rw [← Array.all_toList]; exact k3) ⟨hS11, ?_⟩
 refine wpAnyH_done r12 (h A d W _ hC ?_ ?_ ?_ ?_) _
 · exact Xas (Xas (Xa5 (Xfu c1 [.slice A 512 d] 0 _) (fun q _ e => Or.inl e)) (Xa5 (Xfu c2 C2.toList 0 _) (fun q _ e => Or.inr (Or.inl e)))) (Xa5 (Xfu c3 C3.toList 0 _) (fun q _ e => Or.inr (Or.inr e)))
 · exact World.rangeAt_setCells_apart (World.rangeAt_setCells_apart (World.rangeAt_setCells_same W c1 0 [.slice A 512 d] (thr Z1 z1)) _ _ _ (Or.inl m12)) _ _ _ (Or.inl m13)
 · exact World.rangeAt_setCells_apart (World.rangeAt_setCells_same (W.setCells c1 0 [.slice A 512 d]) c2 0 C2.toList (World.there_setCells (thr Z2 (by rw [z2, Array.length_toList])) _ _ _)) _ _ _ (Or.inl m23)
 · exact World.rangeAt_setCells_same _ c3 0 C3.toList (World.there_setCells (World.there_setCells (thr Z3 (by rw [z3, Array.length_toList])) _ _ _) _ _ _)
theorem Xd3 {P : Program} {fn : Func} {p q u : Tmp} {ty ty' ty'' : TypeId} {tmps : Array Value} {w : World} {a b c : Addr} {v1 v2 v3 : Value} (h : fn.results = #[.cell p ty, .cell q ty', .cell u ty'']) (hp : tmps.getD p undef = .pointer (some a)) (hq : tmps.getD q undef = .pointer (some b)) (hu : tmps.getD u undef = .pointer (some c))
    (e1 : (loadVar ty a).run P w = .ok v1 w) (e2 : (loadVar ty' b).run P w = .ok v2 w) (e3 : (loadVar ty'' c).run P w = .ok v3 w) : (results fn tmps).run P w = .ok (.tuple #[v1, v2, v3]) w := by
 have hp' : tmps[p]?.getD undef = .pointer (some a) := by simpa using hp
 have hq' : tmps[q]?.getD undef = .pointer (some b) := by simpa using hq
 have hu' : tmps[u]?.getD undef = .pointer (some c) := by simpa using hu
 simp [results, h, hp', hq', hu', asAddr, e1, e2, e3]
theorem Xg4 {P : Program} {ops : Array Oper} {rest : List Oper} {o : Oper} {a : Act} {w : World} {Q : Exit → Act → World → Prop} (hgd : o.guard = none) (ty : TypeId) (x y : Operand) (ho : o.op = .store ty x y) (B g k n c : Nat) (xs : List Int) (v : Int) (hx : a.eval x = .pointer (some ⟨g, k, none⟩)) (hy : a.eval y = .int .i64 v) (hg : OwnI B w (some ⟨g, 0, none⟩) n c xs) (hk : k < n)
    (hi : (P.info? ty).map (·.size) = some 1) (h : ∀ w', OwnI B w' (some ⟨g, 0, none⟩) n c (xs.set k v) → Trn g w w' → wpList P ops Q rest (a.put o.dst undef) w') : wpList P ops Q (o :: rest) a w := by
 exact z75
theorem Xu8 {P P' : Nat → Prop} {w W W' : World} (h : Chg P w W) (h' : Chg P' W W') (hp : ∀ q, q < w.heap.size → P' q → P q) : Chg P w W' :=
  ⟨h.1.trans h'.1, fun q hq hn => (h'.2 q (Nat.lt_of_lt_of_le hq h.size) (fun e => hn (hp q hq e))).trans (h.2 q hq hn)⟩
end
def StpW (w : World) (M R L : Option Addr) (n c : Nat) (r : List Int × Hrt × Brg) (e : Ending) (w' : World) : Prop :=
  ∃ A d P p, e = .returned (.tuple #[.agg #[.slice A 512 d], .agg #[.int .i64 r.2.1.at_, .slice P 8 p, .bool r.2.1.done], .agg (B_.b r.2.2 L n c)]) ∧
    Ints w' w'.heap.size A 512 r.1 ∧ Ints w' w'.heap.size P 8 r.2.1.regs ∧ Lines w' w'.heap.size L n c r.2.2.cache ∧ Below w.heap.size w w' ∧ Xje w M A ∧ Xje w R P
def NewW (wx : World) (at_ : Int) (rs : List Int) (s : Value) (wd : World) : Prop :=
  ∃ g g2 c2, s = .pointer (some ⟨g, 0, none⟩) ∧ Whl wd g 26 #[.int .i64 at_, .slice (some ⟨g2, 0, none⟩) 8 c2, .bool false] ∧ OwnI wx.heap.size wd (some ⟨g2, 0, none⟩) 8 c2 rs ∧ (wx.heap.size ≤ g ∧ g < wd.heap.size ∧ g2 ≠ g) ∧ Xam wx wd
theorem Xn9 {w1 W : World} {p0 p1 : Addr} {v0 v1 : Value} (h : Xam w1 W) (h0 : w1.cell? p0 = some v0) (h1 : w1.cell? p1 = some v1) : W.cell? p0 = some v0 ∧ W.cell? p1 = some v1 ∧ Hid (Xam w1 W) := ⟨Xae h h0, Xae h h1, h⟩
theorem Xjk {xs : List Int} {k : Int} {n : Nat} (hl : xs.length = n) (h0 : 0 ≤ k) (h1 : k < n) : xs[k.toNat]? = some (rd xs k) := by
 unfold rd
 rw [List.getElem?_eq_getElem (by omega)]
 rfl
theorem Xhe {w : World} {g : Nat} {t : TypeId} {cs cs' : Array Value} (h : Whl w g t cs) (e : cs = cs') : Whl w g t cs' := e ▸ h
theorem OwnI.off {B g n c : Nat} {w : World} {xs : List Int} {p : Addr} (h : OwnI B w (some ⟨g, 0, none⟩) n c xs) (hp : p.block ≠ g) (u : Value) : OwnI B (w.setCell p u) (some ⟨g, 0, none⟩) n c xs := by
 obtain ⟨hl, h1, h2⟩ := h
 rcases h2 with ⟨hv, hn⟩ | ⟨g', cap, cur, hv, hb, hh, rest⟩
 · exact ⟨hl, h1, Or.inl ⟨hv, hn⟩⟩
 · have e : g' = g := by injection hv with h1; injection h1 with h1; injection h1 with h1; exact h1.symm
   subst e
   refine ⟨hl, h1, Or.inr ⟨g', cap, cur, hv, hb, ?_, rest⟩⟩
   simp only [World.setCell, Array.getElem?_modify]
   rw [if_neg hp]; exact hh
theorem Xrm {b : Brg} {i v : Int} (h0 : i ≠ 0) (h1 : i ≠ 1) (h2 : i ≠ 2) (h3 : i ≠ 3) (h5 : i ≠ 5) (h6 : i ≠ 6) (h9 : i ≠ 9) : Xdj i = -1 ∧ Xhr b i v = b := by
 unfold Xdj Xhr Xe6
 rw [if_neg h0, if_neg h1, if_neg h2, if_neg h3, if_neg h5, if_neg h6, if_neg h9, if_neg h9, if_neg h0, if_neg h1, if_neg h2, if_neg h3, if_neg h5, if_neg h6]
 exact ⟨rfl, rfl⟩
theorem Xpe {b : Brg} {i v : Int} : (Xhr b i v).cache = b.cache := by
 unfold Xhr Xe6
 (repeat' split) <;> rfl
theorem Xu9 (b : Brg) {k : Nat} (h : k < 10) : #[Value.int .i64 b.mode, .int .i64 b.base, .int .i64 b.orders.page, .int .i64 b.orders.tail, .int .i64 b.orders.head, .int .i64 b.faults.page, .int .i64 b.faults.head, .int .i64 b.faults.tail, .int .i64 b.fences, .int .i64 (stB b)][k]? = some (.int .i64 (Xe9 b k)) := by
 exact z201
theorem Tryz.ldInt {w : World} {p : Addr} {v : Value} (h : w.cell? p = some v) : (loadVar 3 p).run Tryz.prog w = .ok v w := by
 have hu : Tryz.prog.underlying 3 = _ := Tryz.underlying3
 simp [go_sem, loadVar, hu, h]
theorem Xk3 (gm gh gb : Nat) (at_ : Int) (R : Option Addr) (rc : Nat) (dn : Bool) (M : Option Addr) (mc : Nat) (b : Brg) (L : Option Addr) (n c : Nat) (w : World) (hm : Whl w gm 24 #[.slice M 512 mc]) (hh : Whl w gh 26 #[.int .i64 at_, .slice R 8 rc, .bool dn]) (hb : Whl w gb 31 (B_.b b L n c)) (n1 : gm ≠ gh) (n2 : gb ≠ gh) :
    Calls Tryz.prog 58 #[.pointer (some ⟨gh, 0, none⟩), .pointer (some ⟨gm, 0, none⟩), .pointer (some ⟨gb, 0, none⟩)] w fun e w' => e = .returned (.tuple #[.agg #[.slice M 512 mc], .agg #[.int .i64 at_, .slice R 8 rc, .bool true], .agg (B_.b b L n c)]) ∧ Chg (fun q => q = gh) w w' := by
 have lm := Xf1 hm
 have lh := Xf1 hh
 have lb := Xf1 hb
 have HM := Zh hm
 have HH := Zh hh
 have HBR := Zh hb
 clear hm hh hb
 go_enter Tryz.func58, Tryz.ntmps58
 go_upto_region 1 with (fail)
 generalize hw0 : ((w.alloc (.cells #[.slice none 0 0] 24)).alloc (.cells #[.int .i64 0, .slice none 0 0, .bool false] 26)).alloc (.cells B_.z 31) = w0
 have C0 := Zh (show Chg (fun q => q = gh) w w0 by rw [← hw0]; exact Xba (Xba (Xba (Xar w) _) _) _)
 have Y1 := Zh (show Whl w0 w.heap.size 24 #[.slice none 0 0] by rw [← hw0]; exact Xal (Xal (Xap _ _ _ rfl) _) _)
 have Y2 := Zh (show Whl w0 (w.heap.size + 1) 26 #[.int .i64 0, .slice none 0 0, .bool false] by rw [← hw0]; exact Xal (Xap _ _ _ (by simp)) _)
 have Y3 := Zh (show Whl w0 (w.heap.size + 1 + 1) 31 B_.z by rw [← hw0]; exact Xap _ _ _ (by simp))
 replace HM := Zh (show Whl w0 _ _ _ by rw [← hw0]; exact Xal (Xal (Xal HM.out _) _) _)
 replace HH := Zh (show Whl w0 _ _ _ by rw [← hw0]; exact Xal (Xal (Xal HH.out _) _) _)
 replace HBR := Zh (show Whl w0 _ _ _ by rw [← hw0]; exact Xal (Xal (Xal HBR.out _) _) _)
 clear hw0
 go_upto_region 2 with (refine Xay rfl 4 (.tmp 6) (.const (.bool true)) rfl gh 2 _ _ #[.int .i64 at_, .slice R 8 rc, .bool true] (.bool true) rfl rfl HH.out Tryz.sizeBool (of_decide_eq_true rfl) rfl rfl ?_; intro w1 h1 t1)
 have hz := t1.2
 refine Xdb y1 _ _ _ _ _ _ rfl rfl rfl rfl rfl rfl rfl y1 y1 y1 y1 y1 y1 y1 y1 y1 y1 y1 rfl rfl rfl rfl rfl rfl 24 26 31 (.tmp 1) (.tmp 0) (.tmp 2) (.tmp 3) (.tmp 4) (.tmp 5) (.tmp 7) (.tmp 8) (.tmp 9) rfl rfl rfl rfl rfl rfl gm gh gb w.heap.size (w.heap.size + 1) (w.heap.size + 1 + 1) #[.slice M 512 mc] #[.int .i64 at_, .slice R 8 rc, .bool true] (B_.b b L n c) _ _ _ Tryz.underlying24 Tryz.underlying26 Tryz.underlying31 rfl rfl rfl Tryz.sizeMem Tryz.sizeHart Tryz.sizeBrg rfl rfl rfl rfl rfl rfl rfl rfl rfl rfl rfl rfl _ _ _ _ _ _ (Xak HM.out t1 n1) h1 (Xak HBR.out t1 n2) _ _ _ (Xak Y1.out t1 (by omega)) (Xak Y2.out t1 (by omega)) (Xak Y3.out t1 (by omega)) rfl rfl rfl (by omega) (by omega) (by omega) (by omega) (by omega) (by omega) (by omega) (by omega) (by omega) (by omega) (by omega) (by omega) (fun _ _ _ _ h => h) (fun _ _ _ _ h => h) (fun _ _ _ _ h => h) ?_
 intro w2 c2 q1 q2 q3
 have Q1 := Zh q1
 have Q2 := Zh q2
 have Q3 := Zh q3
 have C2 := Zh (Xu8 (Xas C0.out t1.1) c2 (fun q hq e => by omega))
 clear q1 q2 q3 c2 t1 h1 hz
 go_wp2
 refine bodyPost_ret (v := .tuple #[.agg #[.slice M 512 mc], .agg #[.int .i64 at_, .slice R 8 rc, .bool true], .agg (B_.b b L n c)]) ?_ rfl ⟨rfl, C2.out⟩
 exact Xd3 Tryz.results58 rfl rfl rfl (run_loadVar_mid w2 _ 0 24 _ _ Q1.out Tryz.underlying24 rfl Tryz.sizeMem) (run_loadVar_mid w2 _ 0 26 _ _ Q2.out Tryz.underlying26 rfl Tryz.sizeHart) (run_loadVar_mid w2 _ 0 31 _ _ Q3.out Tryz.underlying31 rfl Tryz.sizeBrg)
end Go.Proofs.YtbopdijnojaaiadGreat
