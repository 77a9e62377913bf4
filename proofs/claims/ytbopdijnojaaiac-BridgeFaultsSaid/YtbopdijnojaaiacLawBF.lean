/- The walk of the law BridgeFaults: what is told is read from the ring. The row is in another text. -/
import Derived.Test.YtbopdijnojaaiacFlts
import Derived.Test.YtbopdijnojaaiacTellQ
import Derived.Test.YtbopdijnojaaiacTell1
import Derived.Test.YtbopdijnojaaiacCrossed
import Derived.Test.YtbopdijnojaaiacBridgeS
import Derived.Test.YtbopdijnojaaiacRingR
import Derived.Test.YtbopdijnojaaiacMemZ
import Derived.RegionTactic
import Derived.BigQuiet
import Derived.Deep.RegionHeld3
import Derived.Deep.DeepCutAuto
import Derived.StillTailTactics
import Derived.Deep.MidRow
namespace Go.Proofs.Ytbopdijnojaaiac
open Go.RowKit
set_option linter.unusedSimpArgs false
set_option linter.unusedVariables false
attribute [local go_sem ↓] Go.wp_at_zero Go.wp_at_succ
theorem Try.sizeRingB : (Try.prog.info? 35).map (·.size) = some 3 := by kernel_rfl
theorem Try.neqFltB (a b c : Int) (d : Bool) (w : World) : (binOp .neq 52 (.agg #[.int .i64 a, .int .i64 b, .int .i64 c, .bool d]) (.agg #[.int .i64 a, .int .i64 b, .int .i64 c, .bool d])).run Try.prog w = .ok (.bool false) w := by
  simp [go_sem]
theorem slice_hiB (A : Option Addr) (n c k : Nat) (hk : k ≤ c) (hc : n ≤ c) :
    ∀ w, (Instr.slice 47 (.slice A n c) none (some (.int .i64 (k : Int))) none).run Try.prog w = .ok (.slice A k c) w := by
  intro w
  have h1 : (0 : Int) ≤ (k : Int) := by omega
  have h2 : (k : Int) ≤ (c : Int) := by omega
  simp [go_sem, h1, h2]
theorem whl_ex {w : World} {g : Nat} {t : TypeId} {cs cs' : Array Value} (h : Whl w g t cs) (e : cs = cs') : Whl w g t cs' := e ▸ h
theorem ring_lenB (r : Ring) (hr : ringR r) (k : Int) (hk : lenR r = k) (w : World) : Calls Try.prog 25 #[.agg #[.int .i64 r.page, .int .i64 r.head, .int .i64 r.tail]] w fun e w' => e = .returned (.int .i64 k) ∧ Below w.heap.size w w' := by
  subst hk; exact ring_Length r.page r.head r.tail hr w
theorem ring_popB (A : Option Addr) (n c : Nat) (xs : List Int) (r r' : Ring) (v : Int) (w : World) (hx : Ints w w.heap.size A n xs) (hE : popE xs r = 0) (hv : popV xs r = v) (hr : popR r = r') :
    Calls Try.prog 28 #[.agg #[.slice A n c], .agg #[.int .i64 r.page, .int .i64 r.head, .int .i64 r.tail]] w fun e w' => e = .returned (.tuple #[.int .i64 v, .agg #[.int .i64 r'.page, .int .i64 r'.head, .int .i64 r'.tail], .int .i64 0]) ∧ Below w.heap.size w w' := by
  subst hv hr; exact ring_Pop A n c xs r.page r.head r.tail w hx hE
theorem tell_kB (xs ys : List Int) (m : Option Addr) (nm cm' : Nat) (b b' : Brg) (A : Option Addr) (n c : Nat) (f : Flt) (E : Int) (k : Nat) (w : World) (hx : Ints w w.heap.size m nm xs) (hl : Lines w w.heap.size A n c b.cache) (hr : tellA xs b f = (ys, b')) (hE : tellE xs b f = E) (hk : (if E = 0 then 512 else 0) = k) :
    Calls Try.prog 26 #[.agg #[.slice m nm cm'], .agg #[.int .i64 b.mode, .int .i64 b.base, .slice A n c, .int .i64 b.orders.page, .int .i64 b.orders.head, .int .i64 b.orders.tail, .bool b.stopped, .int .i64 b.fences, .int .i64 b.faults.page, .int .i64 b.faults.head, .int .i64 b.faults.tail, .bool b.lost], .agg #[.int .i64 f.cause, .int .i64 f.dev, .int .i64 f.page, .bool f.wr]] w (TellC w k (ys, b') E) := by
  subst hk; exact tell_ans xs ys m nm cm' b b' A n c f.cause f.dev f.page f.wr E w hx hl hr hE
theorem keepF7 {w3 W : World} {p0 p1 p2 p3 p4 p5 p6 : Addr} {v0 v1 v2 v3 v4 v5 v6 : Value} (h : Since w3 W) (h0 : w3.cell? p0 = some v0) (h1 : w3.cell? p1 = some v1) (h2 : w3.cell? p2 = some v2) (h3 : w3.cell? p3 = some v3) (h4 : w3.cell? p4 = some v4) (h5 : w3.cell? p5 = some v5) (h6 : w3.cell? p6 = some v6) :
    W.cell? p0 = some v0 ∧ W.cell? p1 = some v1 ∧ W.cell? p2 = some v2 ∧ W.cell? p3 = some v3 ∧ W.cell? p4 = some v4 ∧ W.cell? p5 = some v5 ∧ W.cell? p6 = some v6 ∧ Hid (Since w3 W) :=
  ⟨since_cell h h0, since_cell h h1, since_cell h h2, since_cell h h3, since_cell h h4, since_cell h h5, since_cell h h6, h⟩
theorem since_F7 {w1 W : World} {c0 c1 c2 c3 c4 c5 c6 : Prop} (h : c0 ∧ c1 ∧ c2 ∧ c3 ∧ c4 ∧ c5 ∧ c6 ∧ Hid (Since w1 W)) : Since w1 W := h.2.2.2.2.2.2.2
theorem ints_sncB {w w' : World} {A : Option Addr} {n : Nat} {xs : List Int} (h : Ints w w.heap.size A n xs) (hs : Since w w') : Ints w' w'.heap.size A n xs := ints_now h hs
section
variable {P : Program} {ops : Array Oper} {Q : Exit → Act → World → Prop} {a : Act} {w : World}
/-- two structs are loaded, and stored. -/
theorem region_pair {id : Nat} (hm : P.follows .mixedOrders = true) (o0 o1 o2 o3 : Oper) (e0 : ops[0]? = some o0) (e1 : ops[1]? = some o1) (e2 : ops[2]? = some o2) (e3 : ops[3]? = some o3) (hsz : ops.size = 4)
    (hs : Region.noSelect ops = true) (f0 : Region.free .any ops #[false, false, false, false] 0 = true) (r0 : (Region.ready .any ops #[false, false, false, false]).contains 0 = true)
    (f1 : Region.free .any ops #[true, false, false, false] 1 = true) (r1 : (Region.ready .any ops #[true, false, false, false]).contains 1 = true)
    (r2 : Region.ready .any ops #[true, true, false, false] = [2]) (r3 : Region.ready .any ops #[true, true, true, false] = [3]) (r5 : Region.ready .any ops #[true, true, true, true] = [])
    (g0 : o0.guard = none) (g1 : o1.guard = none) (g2 : o2.guard = none) (g3 : o3.guard = none)
    (T1 T2 : TypeId) (x1 x2 y1 y2 z1 z2 : Operand) (h0 : o0.op = .load T1 x1) (h1 : o1.op = .load T2 x2) (h2 : o2.op = .store T1 y1 z1) (h3 : o3.op = .store T2 y2 z2)
    (b1 b2 c1 c2 : Nat) (C1 C2 : Array Value) (d1 d2 : TypeDesc) (u1 : P.underlying T1 = some d1) (u2 : P.underlying T2 = some d2) (i1 : d1.isRow = true) (i2 : d2.isRow = true) (s1 : (P.info? T1).map (·.size) = some C1.size) (s2 : (P.info? T2).map (·.size) = some C2.size)
    (k1 : C1.toList.all (·.oneCell') = true) (k2 : C2.toList.all (·.oneCell') = true) (p1 : a.eval x1 = .pointer (some ⟨b1, 0, none⟩)) (p2 : (a.put o0.dst (.agg C1)).eval x2 = .pointer (some ⟨b2, 0, none⟩))
    (q1 : ((a.put o0.dst (.agg C1)).put o1.dst (.agg C2)).eval y1 = .pointer (some ⟨c1, 0, none⟩)) (q2 : (((a.put o0.dst (.agg C1)).put o1.dst (.agg C2)).put o2.dst undef).eval y2 = .pointer (some ⟨c2, 0, none⟩))
    (w1 : ((a.put o0.dst (.agg C1)).put o1.dst (.agg C2)).eval z1 = .agg C1) (w2 : (((a.put o0.dst (.agg C1)).put o1.dst (.agg C2)).put o2.dst undef).eval z2 = .agg C2)
    (t1 t2 t3 t4 : TypeId) (O1 O2 : Array Value) (B1 : Whl w b1 t1 C1) (B2 : Whl w b2 t2 C2) (Y1 : Whl w c1 t3 O1) (Y2 : Whl w c2 t4 O2) (l1 : O1.size = C1.size) (l2 : O2.size = C2.size) (n1 : b1 ≠ c1) (n2 : b1 ≠ c2) (n3 : b2 ≠ c1) (n4 : b2 ≠ c2) (n5 : c1 ≠ c2) (hQ0 : ∀ (v : Value) c a w, Q (.panic c) (a.put o0.dst v) w → Q (.panic c) a w) (hQ1 : ∀ (v : Value) c a w, Q (.panic c) (a.put o1.dst v) w → Q (.panic c) a w)
    (h : ∀ w', Whl w' c1 t3 (setL O1 0 C1.toList) → Whl w' c2 t4 (setL O2 0 C2.toList) → Chg (fun q => q = c1 ∨ q = c2) w w' → Q .normal ((((a.put o0.dst (.agg C1)).put o1.dst (.agg C2)).put o2.dst undef).put o3.dst undef) w') : (Code.region id ops true).wp P Q a w := by
  have wd : ∀ (o : Oper) (a : Act), o.guard = none → Region.wanted o (yielded ops a.tmps) = true := fun o a hg => by simp [Region.wanted, hg]
  have m1 : (P.info? T1).map (·.size) = some C1.toList.length := by rw [s1, Array.length_toList]
  have m2 : (P.info? T2).map (·.size) = some C2.toList.length := by rw [s2, Array.length_toList]
  have ra : ∀ {g : Nat} {t : TypeId} {cs : Array Value}, Whl w g t cs → w.rangeAt g 0 cs.toList := fun hg j v hv => by
    rw [whl_cell hg, Nat.zero_add]; simpa using hv
  refine wp_region_held (S := fun W => W.rangeAt b1 0 C1.toList ∧ W.rangeAt b2 0 C2.toList) hm ?_
  have hS0 : (w.drew).rangeAt b1 0 C1.toList ∧ (w.drew).rangeAt b2 0 C2.toList := ⟨ra B1, ra B2⟩
  have hS1 : (w.drew.setCells c1 0 C1.toList).rangeAt b1 0 C1.toList ∧ (w.drew.setCells c1 0 C1.toList).rangeAt b2 0 C2.toList := ⟨World.rangeAt_setCells_apart hS0.1 _ _ _ (Or.inl n1), World.rangeAt_setCells_apart hS0.2 _ _ _ (Or.inl n3)⟩
  have hS2 : ((w.drew.setCells c1 0 C1.toList).setCells c2 0 C2.toList).rangeAt b1 0 C1.toList ∧ ((w.drew.setCells c1 0 C1.toList).setCells c2 0 C2.toList).rangeAt b2 0 C2.toList := ⟨World.rangeAt_setCells_apart hS1.1 _ _ _ (Or.inl n2), World.rangeAt_setCells_apart hS1.2 _ _ _ (Or.inl n4)⟩
  rw [hsz]
  show wpAnyH P .any ops Q _ 4 #[false, false, false, false] a w.drew
  have t0 := yieldsIf_load_mid (ops := ops) (S := fun W => W.rangeAt b1 0 C1.toList ∧ W.rangeAt b2 0 C2.toList) (wd o0 a g0) T1 x1 h0 b1 0 p1 C1.toList d1 (fun W h => h.1) u1 i1 m1
  rw [Array.toArray_toList] at t0
  refine wpAnyH_take (i := 0) e0 hs f0 r0 (hQ0 _) t0 hS0 ?_
  show wpAnyH P .any ops Q _ 3 #[true, false, false, false] (a.put o0.dst (.agg C1)) w.drew
  have t1 := yieldsIf_load_mid (ops := ops) (S := fun W => W.rangeAt b1 0 C1.toList ∧ W.rangeAt b2 0 C2.toList) (wd o1 (a.put o0.dst (.agg C1)) g1) T2 x2 h1 b2 0 p2 C2.toList d2 (fun W h => h.2) u2 i2 m2
  rw [Array.toArray_toList] at t1
  refine wpAnyH_take (i := 1) e1 hs f1 r1 (hQ1 _) t1 hS0 ?_
  show wpAnyH P .any ops Q _ 2 #[true, true, false, false] ((a.put o0.dst (.agg C1)).put o1.dst (.agg C2)) w.drew
  refine wpAnyH_all r2 (by simp) (fun i hi => ?_)
  obtain rfl : i = 2 := by simpa using hi
  have y1 : w.there c1 0 C1.size := whl_there Y1 (by omega)
  have y2 : w.there c2 0 C2.size := whl_there Y2 (by omega)
  refine wpOp_store_mid e2 g2 T1 _ z1 h2 c1 0 C1 q1 w1 y1 s1 (by rw [← Array.all_toList]; exact k1) ⟨hS1, ?_⟩
  show wpAnyH P .any ops Q _ 1 #[true, true, true, false] _ _
  refine wpAnyH_all r3 (by simp) (fun i hi => ?_)
  obtain rfl : i = 3 := by simpa using hi
  refine wpOp_store_mid e3 g3 T2 _ z2 h3 c2 0 C2 q2 w2 (World.there_setCells (w := w.drew) y2 _ _ _) s2 (by rw [← Array.all_toList]; exact k2) ⟨hS2, ?_⟩
  show wpAnyH P .any ops Q _ 0 #[true, true, true, true] _ _
  refine wpAnyH_done r5 (h _ ?_ ?_ ?_) _
  · have ht := trn_cells (g := c2) C2.toList 0 (w.drew.setCells c1 0 C1.toList) (by rw [(trn_cells (g := c1) C1.toList 0 w.drew (whl_lt Y1)).2]; exact whl_lt Y2)
    exact whl_trn (whl_cells C1.toList 0 w.drew O1 Y1) ht n5
  · have ht := trn_cells (g := c1) C1.toList 0 w.drew (whl_lt Y1)
    exact whl_cells C2.toList 0 _ O2 (whl_trn (w := w.drew) Y2 ht (Ne.symm n5))
  · have ht := trn_cells (g := c1) C1.toList 0 w.drew (whl_lt Y1)
    have ht2 := trn_cells (g := c2) C2.toList 0 (w.drew.setCells c1 0 C1.toList) (by rw [ht.2]; exact whl_lt Y2)
    exact chg_trans (chg_drew (chg_refl w)) (chg_trans (chg_mono ht.1 (fun q _ e => Or.inl e)) (chg_mono ht2.1 (fun q _ e => Or.inr e)))
end
/-- how it stands while they are told. -/
structure FI (xs : List Int) (b : Brg) (B g9 g10 : Nat) (w0 : World) (ys : List Int) (d : Brg) (M : Option Addr) (mc : Nat) (L : Option Addr) (n c : Nat) (W : Option Addr) (nw cw : Nat) (want : List Flt) (w : World) : Prop where
  h9 : Whl w g9 30 #[.slice M 512 mc]
  h10 : Whl w g10 37 #[.int .i64 d.mode, .int .i64 d.base, .slice L n c, .int .i64 d.orders.page, .int .i64 d.orders.head, .int .i64 d.orders.tail, .bool d.stopped, .int .i64 d.fences, .int .i64 d.faults.page, .int .i64 d.faults.head, .int .i64 d.faults.tail, .bool d.lost]
  hm : Ints w w.heap.size M 512 ys
  hl : Lines w w.heap.size L n c d.cache
  am : RowIn (fun q => q ≠ g9 ∧ q ≠ g10) M 512
  al : RowIn (fun q => q ≠ g9 ∧ q ≠ g10) L n
  ow : OwnF B w W nw cw want
  ti : TellI xs b ys d want
  sb : Below w0.heap.size w0 w
theorem FI.since {xs : List Int} {b : Brg} {B g9 g10 : Nat} {w0 : World} {ys : List Int} {d : Brg} {M : Option Addr} {mc : Nat} {L : Option Addr} {n c : Nat} {W : Option Addr} {nw cw : Nat} {want : List Flt} {w w' : World} (h : FI xs b B g9 g10 w0 ys d M mc L n c W nw cw want w) (hb : Below w.heap.size w w') : FI xs b B g9 g10 w0 ys d M mc L n c W nw cw want w' :=
  ⟨whl_since h.h9 hb, whl_since h.h10 hb, ints_now h.hm hb, lines_now h.hl hb, h.am, h.al, h.ow.below hb, h.ti, h.sb.trans (hb.mono h.sb.size)⟩
theorem FI.put {xs : List Int} {b : Brg} {B g9 g10 : Nat} {w0 : World} {ys : List Int} {d : Brg} {M : Option Addr} {mc : Nat} {L : Option Addr} {n c : Nat} {W : Option Addr} {nw cw : Nat} {want : List Flt} {w w' : World} (hC : Chg (fun q => q = g9 ∨ q = g10) w w') (h9 : Whl w' g9 30 #[.slice M 512 mc]) (h10 : Whl w' g10 37 #[.int .i64 d.mode, .int .i64 d.base, .slice L n c, .int .i64 d.orders.page, .int .i64 d.orders.head, .int .i64 d.orders.tail, .bool d.stopped, .int .i64 d.fences, .int .i64 d.faults.page, .int .i64 d.faults.head, .int .i64 d.faults.tail, .bool d.lost])
    (hm : Ints w w.heap.size M 512 ys) (hl : Lines w w.heap.size L n c d.cache) (am : RowIn (fun q => q ≠ g9 ∧ q ≠ g10) M 512) (al : RowIn (fun q => q ≠ g9 ∧ q ≠ g10) L n) (ow : OwnF B w W nw cw want) (ti : TellI xs b ys d want) (sb : Below w0.heap.size w0 w) (b1 : w0.heap.size ≤ g9) (b2 : w0.heap.size ≤ g10) (b3 : g9 < B) (b4 : g10 < B) : FI xs b B g9 g10 w0 ys d M mc L n c W nw cw want w' :=
  ⟨h9, h10, chg_ints0 hm hC am (fun q e hq => by rcases e with e | e; exact hq.1 e; exact hq.2 e), chg_lines0 hl hC al (fun q e hq => by rcases e with e | e; exact hq.1 e; exact hq.2 e), am, al, ow.chg hC (fun q e => by omega), ti, below_chg sb sb.size hC (fun q hq e => by omega)⟩
theorem tellE_0B {xs : List Int} {b : Brg} {f : Flt} (h : cm xs = 0) (h' : ckB b = 0) : tellE xs b f = f.e := by
  unfold tellE; rw [if_pos (allE_0 h h')]
theorem tellA_0 {xs : List Int} {b : Brg} {f : Flt} (h : tellE xs b f = 0) : tellA xs b f = tellM xs b f.w := by unfold tellA; rw [if_pos h]
theorem tellA_n {xs : List Int} {b : Brg} {f : Flt} (h : tellE xs b f ≠ 0) : tellA xs b f = ([], .no) := by unfold tellA; rw [if_neg h]
/-- how it stands while they are popped. -/
structure PJ (g9 g16 : Nat) (w0 : World) (ys : List Int) (M : Option Addr) (mc : Nat) (r : Ring) (W : Option Addr) (nw cw : Nat) (want : List Flt) (w : World) : Prop where
  h9 : Whl w g9 30 #[.slice M 512 mc]
  hg : Whl w g16 35 #[.int .i64 r.page, .int .i64 r.head, .int .i64 r.tail]
  hm : Ints w w.heap.size M 512 ys
  am : RowIn (fun q => q ≠ g16) M 512
  fl : Flts w w.heap.size W nw cw want
  aw : RowIn (fun q => q ≠ g16) W nw
  sb : Below w0.heap.size w0 w
theorem PJ.since {g9 g16 : Nat} {w0 : World} {ys : List Int} {M : Option Addr} {mc : Nat} {r : Ring} {W : Option Addr} {nw cw : Nat} {want : List Flt} {w w' : World} (h : PJ g9 g16 w0 ys M mc r W nw cw want w) (hb : Below w.heap.size w w') : PJ g9 g16 w0 ys M mc r W nw cw want w' :=
  ⟨whl_since h.h9 hb, whl_since h.hg hb, ints_now h.hm hb, h.am, flts_now h.fl hb, h.aw, h.sb.trans (hb.mono h.sb.size)⟩
theorem rdfF_0B {v x : Int} (h : rdfE v = 0) : rdfF v x = x := by simp [rdfF, h]
theorem rdfB_0B {v : Int} (h : rdfE v = 0) : rdfB v = (v / 4096 == 1) := by simp [rdfB, h]
theorem flt_backB {f : Flt} (h : f.e = 0) : rdfE f.w = 0 ∧ rdfF f.w (f.w % 8) = f.cause ∧ rdfF f.w (f.w / 8 % 8) = f.dev ∧ rdfF f.w (f.w / 64 % 64) = f.page ∧ rdfB f.w = f.wr := by
  have hr := fltE_inv h
  have hw : f.w = f.cause + 8 * f.dev + 64 * f.page + (if f.wr then 4096 else 0) := fltW_0 h
  have hb := flt_rng h
  have hq := hr
  unfold FltR at hq
  have m1 : f.w % 8 = f.cause := by rw [hw]; split <;> omega
  have m2 : f.w / 8 % 8 = f.dev := by rw [hw]; split <;> omega
  have m3 : f.w / 64 % 64 = f.page := by rw [hw]; split <;> omega
  have m4 : (f.w / 4096 == 1) = f.wr := by
    rw [hw]
    cases f.wr
    · rw [beq_eq_false_iff_ne]; simp only [Bool.false_eq_true, if_false]; omega
    · rw [beq_iff_eq]; simp only [if_true]; omega
  have he : rdfE f.w = 0 := rdfE_0 (by omega) ⟨by rw [m1, m2, m3]; exact h, hb.2⟩
  exact ⟨he, by rw [rdfF_0B he, m1], by rw [rdfF_0B he, m2], by rw [rdfF_0B he, m3], by rw [rdfB_0B he, m4]⟩
theorem rowIn_flts {w : World} {A : Option Addr} {n c : Nat} {ts : List Flt} (h : Flts w w.heap.size A n c ts) : RowIn (fun q => q < w.heap.size) A n := fun h0 ad e => by
  obtain ⟨b, off, e', hb, _⟩ := h.at_ h0
  rw [e] at e'; injection e' with e'; subst e'; exact hb
theorem own_rngB {B s n m c : Nat} {e : TypeId} {w : World} {A : Option Addr} {ys : List Value} (h : w.ownsRow B e s (.slice A m c) n ys) (q : Nat) (hq : (Value.slice A m c).ownBlock = some q) : B ≤ q ∧ q < w.heap.size := by
  cases A with
  | none => cases hq
  | some ad =>
    have e : ad.block = q := by injection hq
    subst e; exact own_blk h ad rfl
theorem chg_flts0 {P Av : Nat → Prop} {w w' : World} {A : Option Addr} {n c : Nat} {ts : List Flt} (hx : Flts w w.heap.size A n c ts) (h : Chg P w w') (hA : RowIn Av A n) (hn : ∀ q, P q → ¬ Av q) : Flts w' w'.heap.size A n c ts :=
  ⟨hx.1, hx.2.1, hx.2.2.1, hx.2.2.2.1, fun hh => by
    have h0 : 0 < n := by rw [fcells_len, hx.1] at hh; omega
    exact (chg_row hx.2.2.2.2 (Nat.le_refl _) h (fun ad e hp => hn _ hp (hA h0 ad e))).more h.size hh⟩
theorem PJ.trn {g9 g16 : Nat} {w0 : World} {ys : List Int} {M : Option Addr} {mc : Nat} {r r' : Ring} {W : Option Addr} {nw cw : Nat} {want : List Flt} {w w' : World} (h : PJ g9 g16 w0 ys M mc r W nw cw want w) (ht : Trn g16 w w') (hne : g9 ≠ g16) (hw0 : w0.heap.size ≤ g16) (hw : Whl w' g16 35 #[.int .i64 r'.page, .int .i64 r'.head, .int .i64 r'.tail]) : PJ g9 g16 w0 ys M mc r' W nw cw want w' :=
  ⟨whl_trn h.h9 ht hne, hw, chg_ints0 h.hm ht.1 h.am (fun q e hq => hq e), h.am, chg_flts0 h.fl ht.1 h.aw (fun q e hq => hq e), h.aw, below_trn h.sb h.sb.size ht hw0⟩
set_option maxRecDepth 100000 in
set_option maxHeartbeats 2000000 in
theorem bfaults_no (xs : List Int) (b : Brg) (fs : List Flt) (M L A : Option Addr) (nm mc n c nf cf : Nat) (w : World) (hm : Ints w w.heap.size M nm xs) (hl : Lines w w.heap.size L n c b.cache) (hf : Flts w w.heap.size A nf cf fs) (h : cm xs ≠ 0 ∨ (cm xs = 0 ∧ ckB b ≠ 0)) :
    Calls Try.prog 5 #[.agg #[.slice M nm mc], .agg #[.int .i64 b.mode, .int .i64 b.base, .slice L n c, .int .i64 b.orders.page, .int .i64 b.orders.head, .int .i64 b.orders.tail, .bool b.stopped, .int .i64 b.fences, .int .i64 b.faults.page, .int .i64 b.faults.head, .int .i64 b.faults.tail, .bool b.lost], .slice A nf cf] w fun e w' => e = .returned (.bool true) ∧ Below w.heap.size w w' := by
  have HM := Lib.hid hm
  have HL := Lib.hid hl
  have HF := Lib.hid hf
  have hcap := hf.cap
  have HFL := Lib.hid hf.len
  have HAF := Lib.hid (rowIn_flts hf)
  clear hm hl hf
  go_enter Try.func5, Try.ntmps5
  go_upto_region 1 with (fail)
  generalize hw0 : ((w.alloc (.cells #[.slice M nm mc] 30)).alloc (.cells #[.int .i64 b.mode, .int .i64 b.base, .slice L n c, .int .i64 b.orders.page, .int .i64 b.orders.head, .int .i64 b.orders.tail, .bool b.stopped, .int .i64 b.fences, .int .i64 b.faults.page, .int .i64 b.faults.head, .int .i64 b.faults.tail, .bool b.lost] 37)) = w0
  have H3 := Lib.hid (show Whl w0 w.heap.size 30 #[.slice M nm mc] by rw [← hw0]; exact whl_alloc (whl_new _ _ _ rfl) _)
  have H4 := Lib.hid (show Whl w0 (w.heap.size + 1) 37 #[.int .i64 b.mode, .int .i64 b.base, .slice L n c, .int .i64 b.orders.page, .int .i64 b.orders.head, .int .i64 b.orders.tail, .bool b.stopped, .int .i64 b.fences, .int .i64 b.faults.page, .int .i64 b.faults.head, .int .i64 b.faults.tail, .bool b.lost] by rw [← hw0]; exact whl_new _ _ _ (by simp))
  have HB := Lib.hid (show Below w.heap.size w w0 by rw [← hw0]; (repeat (first | (with_reducible exact Below.refl _ _) | (with_reducible refine Below.drew ?_) | (with_reducible refine bdrewN ?_ _) | ((with_reducible refine Below.setCell ?_ ?_ _); rotate_left; exact (by first | (simp; done) | (simp; omega) | omega)) | ((with_reducible refine Below.alloc ?_ ?_ _); rotate_left; exact (by first | (simp; done) | (simp; omega) | omega)))))
  have hz0 : w.heap.size + 2 ≤ w0.heap.size := by rw [← hw0]; simp
  clear hw0
  go_wp2_with fail
  refine (law_crossed _).mono ?_
  rintro e w1 ⟨rfl, hb⟩
  replace H3 := Lib.hid (whl_since H3.out hb)
  replace H4 := Lib.hid (whl_since H4.out hb)
  replace HB := Lib.hid (HB.out.trans (hb.mono HB.out.size))
  have hz1 := hb.size
  clear hb
  have f3 : w1.cell? ⟨w.heap.size, 0, none⟩ = some (.slice M nm mc) := whl_cell H3.out 0
  have l3 : w.heap.size < w1.heap.size := by omega
  have l4 : w.heap.size + 1 < w1.heap.size := by omega
  go_wp2_with fail
  clear f3
  refine (mem_Check _ _ _ xs _ (ints_now HM.out HB.out)).mono ?_
  rintro e w2 ⟨rfl, hb⟩
  replace H3 := Lib.hid (whl_since H3.out hb)
  replace H4 := Lib.hid (whl_since H4.out hb)
  replace HB := Lib.hid (HB.out.trans (hb.mono HB.out.size))
  have hz2 := hb.size
  clear hb
  rcases h with h | ⟨h, h'⟩
  · have t0 : (cm xs != 0) = true := by rw [bne_iff_ne]; exact h
    clear h
    go_wp2_with fail
    refine (law_crossed _).mono ?_
    rintro e w4 ⟨rfl, hb⟩
    replace HB := Lib.hid (HB.out.trans (hb.mono HB.out.size))
    clear hb
    go_wp2
    go_ret
    exact ⟨rfl, HB.out⟩
  · have t0 : (cm xs != 0) = false := by rw [bne_eq_false_iff_eq]; exact h
    have t1 : (ckB b != 0) = true := by rw [bne_iff_ne]; exact h'
    clear h h'
    have f4 := fun o => whl_cell H4.out o
    have l5 : w.heap.size + 1 < w2.heap.size := by omega
    go_wp2_with fail
    clear f4
    refine (bridge_Check b _ _ _ _ (lines_now HL.out HB.out)).mono ?_
    rintro e w3 ⟨rfl, hb⟩
    replace H3 := Lib.hid (whl_since H3.out hb)
    replace H4 := Lib.hid (whl_since H4.out hb)
    replace HB := Lib.hid (HB.out.trans (hb.mono HB.out.size))
    have hz3 := hb.size
    clear hb
    go_wp2_with fail
    refine (law_crossed _).mono ?_
    rintro e w4 ⟨rfl, hb⟩
    replace HB := Lib.hid (HB.out.trans (hb.mono HB.out.size))
    clear hb
    go_wp2
    go_ret
    exact ⟨rfl, HB.out⟩
set_option maxRecDepth 100000 in
set_option maxHeartbeats 8000000 in
theorem bfaults_ok (xs : List Int) (b : Brg) (fs : List Flt) (M L A : Option Addr) (nm mc n c nf cf : Nat) (w : World) (hm : Ints w w.heap.size M nm xs) (hl : Lines w w.heap.size L n c b.cache) (hf : Flts w w.heap.size A nf cf fs) (h : cm xs = 0) (h' : ckB b = 0) :
    Calls Try.prog 5 #[.agg #[.slice M 512 mc], .agg #[.int .i64 b.mode, .int .i64 b.base, .slice L n c, .int .i64 b.orders.page, .int .i64 b.orders.head, .int .i64 b.orders.tail, .bool b.stopped, .int .i64 b.fences, .int .i64 b.faults.page, .int .i64 b.faults.head, .int .i64 b.faults.tail, .bool b.lost], .slice A nf cf] w fun e w' => e = .returned (.bool true) ∧ Below w.heap.size w w' := by
  obtain ⟨i0, hi, hi0, hi1, hi2⟩ := info_parts Try.infoFlt
  have HI := Lib.hid hi
  have HI0 := Lib.hid hi0
  have HI1 := Lib.hid hi1
  have HI2 := Lib.hid hi2
  clear hi hi0 hi1 hi2
  obtain rfl : nm = 512 := by rw [← hm.len]; exact (cm_inv h).1
  have t0 : (cm xs != 0) = false := by rw [bne_eq_false_iff_eq]; exact h
  have t1 : (ckB b != 0) = false := by rw [bne_eq_false_iff_eq]; exact h'
  have HT0 := Lib.hid (TellI.start (m := xs) (b := b) h h')
  have HRR := Lib.hid ((ckB_iff b).1 h').2.2.2
  obtain ⟨T, hT⟩ : ∃ T : Nat, lenR b.faults = T := ⟨(lenR b.faults).toNat, by have := lenR_bd b.faults; omega⟩
  have hT7 : T ≤ 7 := by have := lenR_bd b.faults; omega
  have HTT := Lib.hid hT
  clear h h' hT
  have HM := Lib.hid hm
  have HL := Lib.hid hl
  have HF := Lib.hid hf
  have hcap := hf.cap
  have HFL := Lib.hid hf.len
  have HAF := Lib.hid (rowIn_flts hf)
  clear hm hl hf
  go_enter Try.func5, Try.ntmps5
  go_upto_region 1 with (fail)
  generalize hw0 : ((w.alloc (.cells #[.slice M 512 mc] 30)).alloc (.cells #[.int .i64 b.mode, .int .i64 b.base, .slice L n c, .int .i64 b.orders.page, .int .i64 b.orders.head, .int .i64 b.orders.tail, .bool b.stopped, .int .i64 b.fences, .int .i64 b.faults.page, .int .i64 b.faults.head, .int .i64 b.faults.tail, .bool b.lost] 37)) = w0
  have H3 := Lib.hid (show Whl w0 w.heap.size 30 #[.slice M 512 mc] by rw [← hw0]; exact whl_alloc (whl_new _ _ _ rfl) _)
  have H4 := Lib.hid (show Whl w0 (w.heap.size + 1) 37 #[.int .i64 b.mode, .int .i64 b.base, .slice L n c, .int .i64 b.orders.page, .int .i64 b.orders.head, .int .i64 b.orders.tail, .bool b.stopped, .int .i64 b.fences, .int .i64 b.faults.page, .int .i64 b.faults.head, .int .i64 b.faults.tail, .bool b.lost] by rw [← hw0]; exact whl_new _ _ _ (by simp))
  have HB := Lib.hid (show Below w.heap.size w w0 by rw [← hw0]; (repeat (first | (with_reducible exact Below.refl _ _) | (with_reducible refine Below.drew ?_) | (with_reducible refine bdrewN ?_ _) | ((with_reducible refine Below.setCell ?_ ?_ _); rotate_left; exact (by first | (simp; done) | (simp; omega) | omega)) | ((with_reducible refine Below.alloc ?_ ?_ _); rotate_left; exact (by first | (simp; done) | (simp; omega) | omega)))))
  have hz0 : w.heap.size + 2 ≤ w0.heap.size := by rw [← hw0]; simp
  clear hw0
  go_wp2_with fail
  refine (law_crossed _).mono ?_
  rintro e w1 ⟨rfl, hb⟩
  replace H3 := Lib.hid (whl_since H3.out hb)
  replace H4 := Lib.hid (whl_since H4.out hb)
  replace HB := Lib.hid (HB.out.trans (hb.mono HB.out.size))
  have hz1 := hb.size
  clear hb
  have f3 : w1.cell? ⟨w.heap.size, 0, none⟩ = some (.slice M 512 mc) := whl_cell H3.out 0
  have l3 : w.heap.size < w1.heap.size := by omega
  have l4 : w.heap.size + 1 < w1.heap.size := by omega
  go_wp2_with fail
  clear f3
  refine (mem_Check _ _ _ xs _ (ints_now HM.out HB.out)).mono ?_
  rintro e w2 ⟨rfl, hb⟩
  replace H3 := Lib.hid (whl_since H3.out hb)
  replace H4 := Lib.hid (whl_since H4.out hb)
  replace HB := Lib.hid (HB.out.trans (hb.mono HB.out.size))
  have hz2 := hb.size
  clear hb
  have f4 := fun o => whl_cell H4.out o
  have l5 : w.heap.size + 1 < w2.heap.size := by omega
  go_wp2_with fail
  clear f4
  refine (bridge_Check b _ _ _ _ (lines_now HL.out HB.out)).mono ?_
  rintro e w3 ⟨rfl, hb⟩
  replace H3 := Lib.hid (whl_since H3.out hb)
  replace H4 := Lib.hid (whl_since H4.out hb)
  replace HB := Lib.hid (HB.out.trans (hb.mono HB.out.size))
  have hz3 := hb.size
  clear hb
  go_wp2_with (first | (refine wpList_load_part rfl 35 (.tmp 36) rfl (w.heap.size + 1) 8 _ _ [.int .i64 b.faults.page, .int .i64 b.faults.head, .int .i64 b.faults.tail] rfl H4.out rfl _ Try.underlying35 rfl Try.sizeRingB ?_))
  refine (ring_lenB b.faults HRR.out (T : Int) HTT.out _).mono ?_
  rintro e w4 ⟨rfl, hb⟩
  replace H3 := Lib.hid (whl_since H3.out hb)
  replace H4 := Lib.hid (whl_since H4.out hb)
  replace HB := Lib.hid (HB.out.trans (hb.mono HB.out.size))
  have hz4 := hb.size
  clear hb t0 t1
  have f3 : w4.cell? ⟨w.heap.size, 0, none⟩ = some (.slice M 512 mc) := whl_cell H3.out 0
  have f4 := fun o => whl_cell H4.out o
  have l3 : w.heap.size < w4.heap.size := by omega
  have l4 : w.heap.size + 1 < w4.heap.size := by omega
  go_upto_region 5 with (fail)
  go_cut [9, 10] (fun s9 s10 wd => ∃ g9 g10, s9 = .pointer (some ⟨g9, 0, none⟩) ∧ s10 = .pointer (some ⟨g10, 0, none⟩) ∧ Whl wd g9 30 #[.slice M 512 mc] ∧ Whl wd g10 37 #[.int .i64 b.mode, .int .i64 b.base, .slice L n c, .int .i64 b.orders.page, .int .i64 b.orders.head, .int .i64 b.orders.tail, .bool b.stopped, .int .i64 b.fences, .int .i64 b.faults.page, .int .i64 b.faults.head, .int .i64 b.faults.tail, .bool b.lost] ∧ (w4.heap.size ≤ g9 ∧ w4.heap.size ≤ g10 ∧ g9 ≠ g10) ∧ Since w4 wd)
  case first =>
    go_region
    all_goals
      go_wp2
      go_meet
      refine ⟨_, _, rfl, rfl, ?_, ?_, ?_, ?_⟩
      · (refine whl_ex ?_ rfl; (repeat (first | ((with_reducible refine whl_drew ?_)) | ((with_reducible refine whl_new _ _ _ ?_); (simp; done)) | (with_reducible refine whl_alloc ?_ _))); done)
      · (refine whl_ex ?_ rfl; (repeat (first | ((with_reducible refine whl_drew ?_)) | ((with_reducible refine whl_new _ _ _ ?_); (simp; done)) | (with_reducible refine whl_alloc ?_ _))); done)
      · refine ⟨?_, ?_, ?_⟩ <;> first | (simp; done) | (simp; omega) | omega
      · show Below w4.heap.size w4 _
        (repeat (first | (with_reducible exact Below.refl _ _) | (with_reducible refine Below.drew ?_) | (with_reducible refine bdrewN ?_ _) | ((with_reducible refine Below.setCell ?_ ?_ _); rotate_left; exact (by first | (simp; done) | (simp; omega) | omega)) | ((with_reducible refine Below.alloc ?_ ?_ _); rotate_left; exact (by first | (simp; done) | (simp; omega) | omega))))
  case rest =>
    obtain ⟨g9, g10, rfl, rfl, h9, h10, ⟨hg9, hg10, hne⟩, hs⟩ := hcut
    clear f3 f4
    obtain ⟨w5, hw5⟩ : ∃ w5, w5 = wc := ⟨_, rfl⟩
    subst hw5
    have hz5 := hs.size
    have hb9 := whl_lt h9
    have hb10 := whl_lt h10
    have HJ0 : Hid (FI xs b w5.heap.size g9 g10 w xs b M mc L n c none 0 0 [] w5) := Lib.hid ⟨h9, h10, ints_now HM.out (HB.out.trans (hs.mono (by omega))), lines_now HL.out (HB.out.trans (hs.mono (by omega))), (rowIn_ints HM.out).mono (fun q hq => by omega), (rowIn_lines HL.out).mono (fun q hq => by omega), ownF_nil _ _, HT0.out, HB.out.trans (hs.mono (by omega))⟩
    have HF5 := Lib.hid (flts_now HF.out (HB.out.trans (hs.mono (by omega))))
    obtain ⟨nn, hnn⟩ : ∃ nn, nn = min nf 12 := ⟨_, rfl⟩
    have hmin : min (nf : Int) 12 = (nn : Int) := by omega
    have hsl := slice_hiB A nf cf nn (by omega) (by omega)
    have hnl : nn ≤ nf := by omega
    have hn12 : nn ≤ 12 := by omega
    have HNN := Lib.hid hnn
    clear hnn H3 H4 h9 h10 hs HT0 HB
    go_upto_region 6 with (fail)
    go_cut [45, 46, 47] (fun s45 s46 s47 we => s45 = .slice A nn cf ∧ s46 = .int .i64 nn ∧ s47 = .int .i64 0 ∧ we = w5)
    case first =>
      rcases Nat.lt_or_ge 12 nf with hm | hm
      · have q1 : ¬ ((nf : Int) ≤ 12) := by omega
        have q2 : (12 : Int) = (nn : Int) := by have := HNN.out; omega
        have q3 := hsl
        rw [← q2] at q3
        have HN12 := Lib.hid (show nn = 12 by have := HNN.out; omega)
        clear hmin hsl q2 hnl
        go_wp2
        go_meet
        exact ⟨by rw [HN12.out], by rw [HN12.out], rfl, rfl⟩
      · have q1 : (nf : Int) ≤ 12 := by omega
        have hn12' : nn = nf := by have := HNN.out; omega
        have HN12 := Lib.hid hn12'
        rw [hn12'] at hsl
        clear hmin hn12' hnl
        go_wp2
        go_meet
        exact ⟨by rw [HN12.out], by rw [HN12.out], rfl, rfl⟩
    case rest =>
      obtain ⟨rfl, rfl, rfl, rfl⟩ := hcut
      clear hmin hsl
      obtain ⟨wB, hwB⟩ : ∃ wB, wB = wc := ⟨_, rfl⟩
      subst hwB
      go_wp2
      go_loopw [8, 47] (fun s8 s47 wr => ∃ (k : Nat) (ys : List Int) (d : Brg) (M1 : Option Addr) (mc1 : Nat) (L1 : Option Addr) (n1 c1 : Nat) (W : Option Addr) (nw cw : Nat) (want : List Flt), k ≤ nn ∧ s47 = .int .i64 k ∧ s8 = .slice W nw cw ∧ nw ≤ k ∧ Hid (FI xs b wB.heap.size g9 g10 w ys d M1 mc1 L1 n1 c1 W nw cw want wr) ∧ wB.heap.size ≤ wr.heap.size ∧ Hid (Flts wr wr.heap.size A nf cf fs)) (fun _ s47 _ => nn - (intOf s47).toNat)
      case atStart => exact ⟨0, xs, b, M, mc, L, n, c, none, 0, 0, [], by omega, rfl, rfl, Nat.le_refl _, HJ0.out, Nat.le_refl _, HF5.out⟩
      case round =>
        clear HJ0 HF5
        obtain ⟨k, ys, d, M1, mc1, L1, n1, c1, W, nw, cw, want, hk, rfl, rfl, hnw, hj, hwr, hfl⟩ := hrel
        have HJ := Lib.hid hj.out
        have HF := Lib.hid hfl.out
        clear hj hfl
        have hwz : w.heap.size ≤ wB.heap.size := by omega
        by_cases hlt : k < nn
        · obtain ⟨f, hfk⟩ := some_of_lt fs (k := k) (by rw [HFL.out]; omega)
          obtain ⟨bA, oA, rfl, hbA, hcA⟩ := HF.out.at_ (by omega)
          obtain ⟨e0, e1, e2, e3⟩ := hcA k f hfk
          have q1 : (0 : Int) ≤ (k : Int) := by omega
          have q2 : (k : Int) < (nn : Int) := by omega
          have HNL := Lib.hid hnl
          clear hcA hfk hnl
          go_upto_region 9 with (first | (refine wpList_store_new rfl 52 (.tmp 12) (.tmp 50) rfl _ _ _ _ rfl rfl (by rfl) (by rfl) Try.sizeFlt rfl (by rfl) ?_))
          generalize hwb : wr.alloc (.cells #[.int .i64 f.cause, .int .i64 f.dev, .int .i64 f.page, .bool f.wr] 52) = w6
          have H12 := Lib.hid (show Whl w6 wr.heap.size 52 #[.int .i64 f.cause, .int .i64 f.dev, .int .i64 f.page, .bool f.wr] by rw [← hwb]; exact whl_new _ _ _ rfl)
          have hb : Below wr.heap.size wr w6 := by rw [← hwb]; exact below_alloc _ _
          have hz6a : w6.heap.size ≤ wr.heap.size + 1 := by rw [← hwb]; simp
          have hz6b : wr.heap.size + 1 ≤ w6.heap.size := by rw [← hwb]; simp
          replace HJ := Lib.hid (HJ.out.since hb)
          replace HF := Lib.hid (flts_now HF.out hb)
          have H9 := Lib.hid HJ.out.h9
          have H10 := Lib.hid HJ.out.h10
          have OW6 := Lib.hid HJ.out.ow
          have OWL := Lib.hid HJ.out.ow.1
          clear hwb hb e0 e1 e2 e3
          by_cases hfe : f.e = 0
          · have HFE := Lib.hid hfe
            obtain ⟨zs, d2, hte⟩ : ∃ zs d2, tellM ys d f.w = (zs, d2) := ⟨_, _, rfl⟩
            have HTE := Lib.hid hte
            have HEE := Lib.hid (show tellE ys d f = 0 by rw [tellE_0B HJ.out.ti.cm HJ.out.ti.ck]; exact hfe)
            have HAA := Lib.hid (show tellA ys d f = (zs, d2) by rw [tellA_0 HEE.out]; exact hte)
            have HL2 := Lib.hid (tell_lost (n := ys) (c := d) (v := f.w))
            have HN2 := Lib.hid (HJ.out.ti.next hfe)
            rw [hte] at HL2 HN2
            simp only [] at HL2 HN2
            clear hfe hte
            go_wp2_with (first | (refine wpList_load_whl rfl 30 (.tmp 9) rfl (g9) _ _ rfl H9.out _ Try.underlying30 rfl Try.sizeMem ?_) | (refine wpList_load_whl rfl 37 (.tmp 10) rfl (g10) _ _ rfl H10.out _ Try.underlying37 rfl Try.sizeBrg ?_) | (refine wpList_load_whl rfl 52 (.tmp 12) rfl (wr.heap.size) _ _ rfl H12.out _ Try.underlying52 rfl Try.sizeFlt ?_))
            refine (tell_kB ys zs M1 512 mc1 d d2 L1 n1 c1 f 0 512 _ HJ.out.hm HJ.out.hl HAA.out HEE.out rfl).mono ?_
            rintro e w7 ⟨M2, mc2, L2, n2, c2, rfl, hm2, hl2, hb, hM2, hL2⟩
            have hz7 := hb.size
            replace HJ := Lib.hid (HJ.out.since hb)
            replace HF := Lib.hid (flts_now HF.out hb)
            have IM := Lib.hid hm2
            have IL := Lib.hid hl2
            have NM := Lib.hid hM2
            have NL := Lib.hid hL2
            replace H12 := Lib.hid (whl_since H12.out hb)
            clear hb hm2 hl2 hM2 hL2 H9 H10
            go_upto_region 10 with (first
              | (refine wpList_store_all rfl 30 (.tmp 13) (.tmp 56) rfl (w7.heap.size) _ _ #[.slice M2 512 mc2] rfl rfl (whl_alloc (whl_new w7 _ _ rfl) _) Try.sizeMem rfl rfl ?_; intro w8 h8 t8)
              | (refine wpList_store_all rfl 37 (.tmp 14) (.tmp 57) rfl (w7.heap.size + 1) _ _ #[.int .i64 d2.mode, .int .i64 d2.base, .slice L2 n2 c2, .int .i64 d2.orders.page, .int .i64 d2.orders.head, .int .i64 d2.orders.tail, .bool d2.stopped, .int .i64 d2.fences, .int .i64 d2.faults.page, .int .i64 d2.faults.head, .int .i64 d2.faults.tail, .bool d2.lost] rfl rfl (whl_trn (whl_new (w7.alloc _) _ _ (by simp)) t8 (Nat.succ_ne_self _)) Try.sizeBrg rfl rfl ?_; intro w9 h9 t9))
            have hw9 := t8.2
            have hw10 := t9.2
            (try simp only [World.size_alloc] at hw9)
            have hz9a : w9.heap.size ≤ w7.heap.size + 2 := by omega
            have hz9b : w7.heap.size + 2 ≤ w9.heap.size := by omega
            have hb : Below w7.heap.size w7 w9 := below_chg (below_chg (((Below.refl w7.heap.size w7).alloc (Nat.le_refl _) _).alloc (by simp) _) (by simp; omega) t8.1 (fun q hq e => by omega)) (by omega) t9.1 (fun q hq e => by omega)
            have H13 := Lib.hid (whl_trn h8 t9 (by omega))
            have H14 := Lib.hid h9
            replace H12 := Lib.hid (whl_since H12.out hb)
            replace HJ := Lib.hid (HJ.out.since hb)
            replace HF := Lib.hid (flts_now HF.out hb)
            replace IM := Lib.hid (ints_now IM.out hb)
            replace IL := Lib.hid (lines_now IL.out hb)
            clear hb h8 h9 t8 t9 hw9 hw10
            have HRD := Lib.hid ((ckB_iff d).1 HJ.out.ti.ck).2.2.2
            have IM1 := Lib.hid HJ.out.hm
            have H9 := Lib.hid HJ.out.h9
            have H10 := Lib.hid HJ.out.h10
            have OW := Lib.hid HJ.out.ow
            have SB := Lib.hid HJ.out.sb
            clear HJ
            by_cases hl2 : d2.lost = true
            · have HD2 := Lib.hid hl2
              have HN3 : Hid (TellI xs b zs d2 want) := by have h3 := HN2.out; rw [if_pos hl2] at h3; exact Lib.hid h3
              have hzs : zs = ys := HL2.out.2 hl2
              have HQ := Lib.hid (show eqI ys zs = true by rw [hzs]; simp [eqI])
              have f14 : w9.cell? ⟨w7.heap.size + 1, 11, none⟩ = some (.bool true) := (whl_cell H14.out 11).trans (by show some (Value.bool d2.lost) = _; rw [hl2])
              have lb4 : w7.heap.size + 1 < w9.heap.size := whl_lt H14.out
              clear hzs
              go_upto_region 13 with (fail)
              clear f14 lb4 H12
              by_cases hl1 : d.lost = true
              · have HD1 := Lib.hid hl1
                clear hl1 hl2 HL2 HN2
                have F0 := Lib.hid (show w9.cell? ⟨w7.heap.size + 1, 11, none⟩ = some (.bool true) from ((whl_cell H14.out 11).trans (by show some (Value.bool d2.lost) = _; rw [HD2.out])))
                have F1 := Lib.hid (show w9.cell? ⟨g10, 11, none⟩ = some (.bool true) from ((whl_cell H10.out 11).trans (by show some (Value.bool d.lost) = _; rw [HD1.out])))
                have F2 := Lib.hid (show w9.cell? ⟨g10, 8, none⟩ = some (.int .i64 d.faults.page) from (whl_cell H10.out 8))
                have F3 := Lib.hid (show w9.cell? ⟨g10, 9, none⟩ = some (.int .i64 d.faults.head) from (whl_cell H10.out 9))
                have F4 := Lib.hid (show w9.cell? ⟨g10, 10, none⟩ = some (.int .i64 d.faults.tail) from (whl_cell H10.out 10))
                have F5 := Lib.hid (show w9.cell? ⟨g9, 0, none⟩ = some (.slice M1 512 mc1) from (whl_cell H9.out 0))
                have F6 := Lib.hid (show w9.cell? ⟨w7.heap.size, 0, none⟩ = some (.slice M2 512 mc2) from (whl_cell H13.out 0))
                have lb1 : g9 < w9.heap.size := whl_lt H9.out
                have lb2 : g10 < w9.heap.size := whl_lt H10.out
                have lb3 : w7.heap.size < w9.heap.size := whl_lt H13.out
                have lb4 : w7.heap.size + 1 < w9.heap.size := whl_lt H14.out
                go_cut [88] (fun s we => s = .bool false ∧ Hid (Since w9 we))
                case first =>
                  have G0 := F0.out
                  have G1 := F1.out
                  have G2 := F2.out
                  have G3 := F3.out
                  have G4 := F4.out
                  have G5 := F5.out
                  have G6 := F6.out
                  go_still_tail 17, (by kernel_rfl)
                  change wpList _ _ _ _ _ w9.drew
                  generalize hdw : w9.drew = wy
                  have HBY := Lib.hid (show Below w9.heap.size w9 wy by rw [← hdw]; exact (Below.refl _ _).drew)
                  clear hdw
                  go_wp2_with fail
                  refine (mem_Same M1 M2 512 512 mc1 mc2 ys zs _ (ints_now IM1.out HBY.out) (ints_now IM.out HBY.out)).mono ?_
                  rw [HQ.out]
                  rintro e wx ⟨rfl, hbx⟩
                  have HBX := Lib.hid (HBY.out.trans (hbx.mono HBY.out.size))
                  clear hbx
                  all_goals
                    go_wp2
                    go_meet
                    refine ⟨rfl, ?_⟩
                    show Below w9.heap.size w9 _
                    (repeat (first | (with_reducible exact Below.refl _ _) | (with_reducible refine Below.drew ?_) | (with_reducible refine bdrewN ?_ _) | ((with_reducible refine Below.setCell ?_ ?_ _); rotate_left; exact (by first | (simp; done) | (simp; omega) | omega)) | ((with_reducible refine Below.alloc ?_ ?_ _); rotate_left; exact (by first | (simp; done) | (simp; omega) | omega)) | ((with_reducible refine Below.trans ?_ (HBX.out.mono ?_)); rotate_left; exact (by first | (simp; done) | (simp; omega) | omega))))
                case rest =>
                  obtain ⟨rfl, hS⟩ := hcut
                  have hb := hS.out
                  have hzc := hb.size
                  replace H9 := Lib.hid (whl_since H9.out hb)
                  replace H10 := Lib.hid (whl_since H10.out hb)
                  replace H13 := Lib.hid (whl_since H13.out hb)
                  replace H14 := Lib.hid (whl_since H14.out hb)
                  replace IM := Lib.hid (ints_now IM.out hb)
                  replace IL := Lib.hid (lines_now IL.out hb)
                  replace HF := Lib.hid (flts_now HF.out hb)
                  replace OW := Lib.hid (OW.out.below hb)
                  replace SB := Lib.hid (SB.out.trans (hb.mono SB.out.size))
                  clear hb hS F0 F1 F2 F3 F4 F5 F6 lb1 lb2 lb3 lb4 IM1
                  go_upto_region 15 with (fail)
                  refine region_pair (by kernel_rfl) _ _ _ _ rfl rfl rfl rfl rfl (by kernel_rfl) (by kernel_rfl) (by kernel_rfl) (by kernel_rfl) (by kernel_rfl) (by kernel_rfl) (by kernel_rfl) (by kernel_rfl) rfl rfl rfl rfl 30 37 (.tmp 13) (.tmp 14) (.tmp 9) (.tmp 10) (.tmp 89) (.tmp 90) rfl rfl rfl rfl w7.heap.size (w7.heap.size + 1) g9 g10 #[.slice M2 512 mc2] #[.int .i64 d2.mode, .int .i64 d2.base, .slice L2 n2 c2, .int .i64 d2.orders.page, .int .i64 d2.orders.head, .int .i64 d2.orders.tail, .bool d2.stopped, .int .i64 d2.fences, .int .i64 d2.faults.page, .int .i64 d2.faults.head, .int .i64 d2.faults.tail, .bool d2.lost] _ _ Try.underlying30 Try.underlying37 rfl rfl Try.sizeMem Try.sizeBrg rfl rfl rfl rfl rfl rfl rfl rfl _ _ _ _ _ _ H13.out H14.out H9.out H10.out rfl rfl (by omega) (by omega) (by omega) (by omega) hne (fun _ _ _ _ h => h) (fun _ _ _ _ h => h) ?_
                  intro w12 h12 h13 hC
                  have h12 : Whl w12 g9 30 #[.slice M2 512 mc2] := whl_ex h12 (by kernel_rfl)
                  have h13 : Whl w12 g10 37 #[.int .i64 d2.mode, .int .i64 d2.base, .slice L2 n2 c2, .int .i64 d2.orders.page, .int .i64 d2.orders.head, .int .i64 d2.orders.tail, .bool d2.stopped, .int .i64 d2.fences, .int .i64 d2.faults.page, .int .i64 d2.faults.head, .int .i64 d2.faults.tail, .bool d2.lost] := whl_ex h13 (by kernel_rfl)
                  have hz12 := hC.size
                  simp only [List.getElem_toArray, List.getElem_cons_succ, List.getElem_cons_zero]
                  go_wp2
                  go_roundw
                  case rel =>
                    refine ⟨k + 1, zs, d2, M2, mc2, L2, n2, c2, W, nw, cw, want, by omega, by go_num, rfl, by omega, ?_, by omega, ?_⟩
                    · exact FI.put hC h12 h13 IM.out IL.out (fun h0 ad e => by have := NM.out ad e; omega) (fun h0 ad e => by have := NL.out ad e; omega) OW.out HN3.out SB.out (by omega) (by omega) (by omega) (by omega)
                    · exact chg_flts0 HF.out hC HAF.out (fun q e hq => by omega)
                  case measure => simp [intOf]; omega
              · have hl1' : d.lost = false := by simpa using hl1
                have HD1 := Lib.hid hl1'
                have HLN := Lib.hid (show lenR d.faults = 7 by have h3 := HL2.out.1; rw [hl2, hl1'] at h3; simpa using h3.symm)
                clear hl1 hl1' hl2 HL2 HN2
                have F0 := Lib.hid (show w9.cell? ⟨w7.heap.size + 1, 11, none⟩ = some (.bool true) from ((whl_cell H14.out 11).trans (by show some (Value.bool d2.lost) = _; rw [HD2.out])))
                have F1 := Lib.hid (show w9.cell? ⟨g10, 11, none⟩ = some (.bool false) from ((whl_cell H10.out 11).trans (by show some (Value.bool d.lost) = _; rw [HD1.out])))
                have F2 := Lib.hid (show w9.cell? ⟨g10, 8, none⟩ = some (.int .i64 d.faults.page) from (whl_cell H10.out 8))
                have F3 := Lib.hid (show w9.cell? ⟨g10, 9, none⟩ = some (.int .i64 d.faults.head) from (whl_cell H10.out 9))
                have F4 := Lib.hid (show w9.cell? ⟨g10, 10, none⟩ = some (.int .i64 d.faults.tail) from (whl_cell H10.out 10))
                have F5 := Lib.hid (show w9.cell? ⟨g9, 0, none⟩ = some (.slice M1 512 mc1) from (whl_cell H9.out 0))
                have F6 := Lib.hid (show w9.cell? ⟨w7.heap.size, 0, none⟩ = some (.slice M2 512 mc2) from (whl_cell H13.out 0))
                have lb1 : g9 < w9.heap.size := whl_lt H9.out
                have lb2 : g10 < w9.heap.size := whl_lt H10.out
                have lb3 : w7.heap.size < w9.heap.size := whl_lt H13.out
                have lb4 : w7.heap.size + 1 < w9.heap.size := whl_lt H14.out
                go_cut [88] (fun s we => s = .bool false ∧ Hid (Since w9 we))
                case first =>
                  go_region_held3 (fun W => W.cell? ⟨w7.heap.size + 1, 11, none⟩ = some (.bool true) ∧ W.cell? ⟨g10, 11, none⟩ = some (.bool false) ∧ W.cell? ⟨g10, 8, none⟩ = some (.int .i64 d.faults.page) ∧ W.cell? ⟨g10, 9, none⟩ = some (.int .i64 d.faults.head) ∧ W.cell? ⟨g10, 10, none⟩ = some (.int .i64 d.faults.tail) ∧ W.cell? ⟨g9, 0, none⟩ = some (.slice M1 512 mc1) ∧ W.cell? ⟨w7.heap.size, 0, none⟩ = some (.slice M2 512 mc2) ∧ Hid (Since w9 W))
                    (((with_reducible refine keepF7 ?_ F0.out F1.out F2.out F3.out F4.out F5.out F6.out); (repeat (first | (with_reducible assumption) | (with_reducible exact since_refl _) | (with_reducible exact since_F7 (by assumption)) | (with_reducible exact since_step (by assumption) (since_F7 (by assumption))) | (with_reducible refine since_drew ?_) | (with_reducible refine since_alloc ?_ _) | ((with_reducible refine since_set ?_ ?_ _); rotate_left; exact (by first | (simp; done) | (simp; omega) | omega)))); done))
                    (first
                      | (go_at_call 25; refine (ring_lenB d.faults HRD.out 7 HLN.out _).mono ?_; rintro e w' ⟨rfl, hb'⟩)
                      | (go_at_call 27; refine (mem_Same M1 M2 512 512 mc1 mc2 ys zs _ ?_ ?_).mono ?_; (with_reducible exact ints_sncB IM1.out (since_F7 (by assumption))); (with_reducible exact ints_sncB IM.out (since_F7 (by assumption))); rw [HQ.out]; rintro e w' ⟨rfl, hb'⟩))
                  all_goals
                    rename_i hHeld
                    have HS := Lib.hid (since_F7 hHeld)
                    clear hHeld
                    go_wp2
                    go_meet
                    exact ⟨rfl, HS.out⟩
                case rest =>
                  obtain ⟨rfl, hS⟩ := hcut
                  have hb := hS.out
                  have hzc := hb.size
                  replace H9 := Lib.hid (whl_since H9.out hb)
                  replace H10 := Lib.hid (whl_since H10.out hb)
                  replace H13 := Lib.hid (whl_since H13.out hb)
                  replace H14 := Lib.hid (whl_since H14.out hb)
                  replace IM := Lib.hid (ints_now IM.out hb)
                  replace IL := Lib.hid (lines_now IL.out hb)
                  replace HF := Lib.hid (flts_now HF.out hb)
                  replace OW := Lib.hid (OW.out.below hb)
                  replace SB := Lib.hid (SB.out.trans (hb.mono SB.out.size))
                  clear hb hS F0 F1 F2 F3 F4 F5 F6 lb1 lb2 lb3 lb4 IM1
                  go_upto_region 15 with (fail)
                  refine region_pair (by kernel_rfl) _ _ _ _ rfl rfl rfl rfl rfl (by kernel_rfl) (by kernel_rfl) (by kernel_rfl) (by kernel_rfl) (by kernel_rfl) (by kernel_rfl) (by kernel_rfl) (by kernel_rfl) rfl rfl rfl rfl 30 37 (.tmp 13) (.tmp 14) (.tmp 9) (.tmp 10) (.tmp 89) (.tmp 90) rfl rfl rfl rfl w7.heap.size (w7.heap.size + 1) g9 g10 #[.slice M2 512 mc2] #[.int .i64 d2.mode, .int .i64 d2.base, .slice L2 n2 c2, .int .i64 d2.orders.page, .int .i64 d2.orders.head, .int .i64 d2.orders.tail, .bool d2.stopped, .int .i64 d2.fences, .int .i64 d2.faults.page, .int .i64 d2.faults.head, .int .i64 d2.faults.tail, .bool d2.lost] _ _ Try.underlying30 Try.underlying37 rfl rfl Try.sizeMem Try.sizeBrg rfl rfl rfl rfl rfl rfl rfl rfl _ _ _ _ _ _ H13.out H14.out H9.out H10.out rfl rfl (by omega) (by omega) (by omega) (by omega) hne (fun _ _ _ _ h => h) (fun _ _ _ _ h => h) ?_
                  intro w12 h12 h13 hC
                  have h12 : Whl w12 g9 30 #[.slice M2 512 mc2] := whl_ex h12 (by kernel_rfl)
                  have h13 : Whl w12 g10 37 #[.int .i64 d2.mode, .int .i64 d2.base, .slice L2 n2 c2, .int .i64 d2.orders.page, .int .i64 d2.orders.head, .int .i64 d2.orders.tail, .bool d2.stopped, .int .i64 d2.fences, .int .i64 d2.faults.page, .int .i64 d2.faults.head, .int .i64 d2.faults.tail, .bool d2.lost] := whl_ex h13 (by kernel_rfl)
                  have hz12 := hC.size
                  simp only [List.getElem_toArray, List.getElem_cons_succ, List.getElem_cons_zero]
                  go_wp2
                  go_roundw
                  case rel =>
                    refine ⟨k + 1, zs, d2, M2, mc2, L2, n2, c2, W, nw, cw, want, by omega, by go_num, rfl, by omega, ?_, by omega, ?_⟩
                    · exact FI.put hC h12 h13 IM.out IL.out (fun h0 ad e => by have := NM.out ad e; omega) (fun h0 ad e => by have := NL.out ad e; omega) OW.out HN3.out SB.out (by omega) (by omega) (by omega) (by omega)
                    · exact chg_flts0 HF.out hC HAF.out (fun q e hq => by omega)
                  case measure => simp [intOf]; omega
            · have hl2' : d2.lost = false := by simpa using hl2
              have HD2 := Lib.hid hl2'
              have HN3 : Hid (TellI xs b zs d2 (want ++ [f])) := by have h3 := HN2.out; rw [if_neg hl2] at h3; exact Lib.hid h3
              have hor : (d.lost || lenR d.faults == 7) = false := by rw [← HL2.out.1]; exact hl2'
              rw [Bool.or_eq_false_iff] at hor
              have HD1 := Lib.hid hor.1
              obtain ⟨ln, hln⟩ : ∃ ln, lenR d.faults = ln := ⟨_, rfl⟩
              have HLN := Lib.hid hln
              have tl : (ln == 7) = false := by rw [← hln]; exact hor.2
              have f14 : w9.cell? ⟨w7.heap.size + 1, 11, none⟩ = some (.bool false) := (whl_cell H14.out 11).trans (by show some (Value.bool d2.lost) = _; rw [hl2'])
              have lb4 : w7.heap.size + 1 < w9.heap.size := whl_lt H14.out
              have hnw12 : nw ≤ 12 := by omega
              have ORG := Lib.hid (fun q (hq : (Value.slice W nw cw).ownBlock = some q) => show wB.heap.size ≤ q ∧ q < w6.heap.size from own_rngB OW6.out.2.2.2 q hq)
              clear hl2 hl2' hor hln HL2 HN2 IM1
              go_upto_region 12 with (fail)
              clear f14 lb4
              go_upto_region 13 with (first
                | (refine wpList_load_whl rfl 52 (.tmp 12) rfl (wr.heap.size) _ _ rfl H12.out _ Try.underlying52 rfl Try.sizeFlt ?_)
                | (at_builtin; refine wpList_append_lies _ rfl (.tmp 64) (.tmp 66) 47 rfl wB.heap.size 52 i0 (.agg #[.int .i64 0, .int .i64 0, .int .i64 0, .bool false]) 4 32 Try.underlying47 HI.out HI0.out HI1.out HI2.out rfl (by decide) (.slice W nw cw) nw (fcells want) rfl (OwnF.below OW.out ((Below.refl _ _).alloc (Nat.le_refl _) _)).2.2.2 ⟨w9.heap.size, 0, none⟩ 1 1 f.vals rfl rfl (news_newV (by simp) rfl) (flt_one _) (by decide) (by unfold maxLen; omega) (by omega) (by simp; omega) _ rfl ?_; intro gw capw w10 hownw hgroww hatw hltw))
              have hCh : Chg (fun q => (Value.slice W nw cw).ownBlock = some q) w9 w10 := chg_grown (chg_alloc (chg_refl w9) _) hgroww (fun k e => Or.inl e)
              have hz10 := hCh.size
              replace H9 := Lib.hid (whl_chg H9.out hCh (fun e => by have := ORG.out _ e; omega))
              replace H10 := Lib.hid (whl_chg H10.out hCh (fun e => by have := ORG.out _ e; omega))
              replace H13 := Lib.hid (whl_chg H13.out hCh (fun e => by have := ORG.out _ e; omega))
              replace H14 := Lib.hid (whl_chg H14.out hCh (fun e => by have := ORG.out _ e; omega))
              replace IM := Lib.hid (chg_ints0 IM.out hCh (Av := fun q => w6.heap.size ≤ q) (fun h0 ad e => NM.out ad e) (fun q e hq => by have := ORG.out _ e; omega))
              replace IL := Lib.hid (chg_lines0 IL.out hCh (Av := fun q => w6.heap.size ≤ q) (fun h0 ad e => NL.out ad e) (fun q e hq => by have := ORG.out _ e; omega))
              replace HF := Lib.hid (chg_flts0 HF.out hCh HAF.out (fun q e hq => by have := ORG.out _ e; omega))
              replace SB := Lib.hid (below_chg SB.out SB.out.size hCh (fun q hq e => by have := ORG.out _ e; omega))
              replace OW := Lib.hid (show OwnF wB.heap.size w10 (some ⟨gw, 0, none⟩) (nw + 1) capw (want ++ [f]) from ⟨by rw [List.length_append, OWL.out]; rfl, (own_capF hownw).1, (own_capF hownw).2, by rw [fcells_snoc]; exact hownw⟩)
              clear hCh hownw hgroww hatw hltw H12 ORG
              have F0 := Lib.hid (show w10.cell? ⟨w7.heap.size + 1, 11, none⟩ = some (.bool false) from ((whl_cell H14.out 11).trans (by show some (Value.bool d2.lost) = _; rw [HD2.out])))
              have F1 := Lib.hid (show w10.cell? ⟨g10, 11, none⟩ = some (.bool false) from ((whl_cell H10.out 11).trans (by show some (Value.bool d.lost) = _; rw [HD1.out])))
              have F2 := Lib.hid (show w10.cell? ⟨g10, 8, none⟩ = some (.int .i64 d.faults.page) from (whl_cell H10.out 8))
              have F3 := Lib.hid (show w10.cell? ⟨g10, 9, none⟩ = some (.int .i64 d.faults.head) from (whl_cell H10.out 9))
              have F4 := Lib.hid (show w10.cell? ⟨g10, 10, none⟩ = some (.int .i64 d.faults.tail) from (whl_cell H10.out 10))
              have F5 := Lib.hid (show w10.cell? ⟨g9, 0, none⟩ = some (.slice M1 512 mc1) from (whl_cell H9.out 0))
              have F6 := Lib.hid (show w10.cell? ⟨w7.heap.size, 0, none⟩ = some (.slice M2 512 mc2) from (whl_cell H13.out 0))
              have lb1 : g9 < w10.heap.size := whl_lt H9.out
              have lb2 : g10 < w10.heap.size := whl_lt H10.out
              have lb3 : w7.heap.size < w10.heap.size := whl_lt H13.out
              have lb4 : w7.heap.size + 1 < w10.heap.size := whl_lt H14.out
              go_cut [88] (fun s we => s = .bool false ∧ Hid (Since w10 we))
              case first =>
                have G0 := F0.out
                have G1 := F1.out
                have G2 := F2.out
                have G3 := F3.out
                have G4 := F4.out
                have G5 := F5.out
                have G6 := F6.out
                go_region_with (go_at_call 25; refine (ring_lenB d.faults HRD.out ln HLN.out _).mono ?_; rintro e wx ⟨rfl, hbx⟩; have HBX := Lib.hid hbx; clear hbx; have HSX : Below w10.heap.size w10 wx := (by (repeat (first | (with_reducible exact Below.refl _ _) | (with_reducible refine Below.drew ?_) | (with_reducible refine bdrewN ?_ _) | ((with_reducible refine Below.setCell ?_ ?_ _); rotate_left; exact (by first | (simp; done) | (simp; omega) | omega)) | ((with_reducible refine Below.alloc ?_ ?_ _); rotate_left; exact (by first | (simp; done) | (simp; omega) | omega)) | ((with_reducible refine Below.trans ?_ (HBX.out.mono ?_)); rotate_left; exact (by first | (simp; done) | (simp; omega) | omega))))); have GX := since_cell HSX F0.out; have lbx := cell_lt' GX; simp only [] at lbx; clear HSX)
                all_goals
                  go_wp2
                  go_meet
                  refine ⟨rfl, ?_⟩
                  show Below w10.heap.size w10 _
                  (repeat (first | (with_reducible exact Below.refl _ _) | (with_reducible refine Below.drew ?_) | (with_reducible refine bdrewN ?_ _) | ((with_reducible refine Below.setCell ?_ ?_ _); rotate_left; exact (by first | (simp; done) | (simp; omega) | omega)) | ((with_reducible refine Below.alloc ?_ ?_ _); rotate_left; exact (by first | (simp; done) | (simp; omega) | omega)) | ((with_reducible refine Below.trans ?_ (HBX.out.mono ?_)); rotate_left; exact (by first | (simp; done) | (simp; omega) | omega))))
              case rest =>
                obtain ⟨rfl, hS⟩ := hcut
                have hb := hS.out
                have hzc := hb.size
                replace H9 := Lib.hid (whl_since H9.out hb)
                replace H10 := Lib.hid (whl_since H10.out hb)
                replace H13 := Lib.hid (whl_since H13.out hb)
                replace H14 := Lib.hid (whl_since H14.out hb)
                replace IM := Lib.hid (ints_now IM.out hb)
                replace IL := Lib.hid (lines_now IL.out hb)
                replace HF := Lib.hid (flts_now HF.out hb)
                replace OW := Lib.hid (OW.out.below hb)
                replace SB := Lib.hid (SB.out.trans (hb.mono SB.out.size))
                clear hb hS F0 F1 F2 F3 F4 F5 F6 lb1 lb2 lb3 lb4
                go_upto_region 15 with (fail)
                refine region_pair (by kernel_rfl) _ _ _ _ rfl rfl rfl rfl rfl (by kernel_rfl) (by kernel_rfl) (by kernel_rfl) (by kernel_rfl) (by kernel_rfl) (by kernel_rfl) (by kernel_rfl) (by kernel_rfl) rfl rfl rfl rfl 30 37 (.tmp 13) (.tmp 14) (.tmp 9) (.tmp 10) (.tmp 89) (.tmp 90) rfl rfl rfl rfl w7.heap.size (w7.heap.size + 1) g9 g10 #[.slice M2 512 mc2] #[.int .i64 d2.mode, .int .i64 d2.base, .slice L2 n2 c2, .int .i64 d2.orders.page, .int .i64 d2.orders.head, .int .i64 d2.orders.tail, .bool d2.stopped, .int .i64 d2.fences, .int .i64 d2.faults.page, .int .i64 d2.faults.head, .int .i64 d2.faults.tail, .bool d2.lost] _ _ Try.underlying30 Try.underlying37 rfl rfl Try.sizeMem Try.sizeBrg rfl rfl rfl rfl rfl rfl rfl rfl _ _ _ _ _ _ H13.out H14.out H9.out H10.out rfl rfl (by omega) (by omega) (by omega) (by omega) hne (fun _ _ _ _ h => h) (fun _ _ _ _ h => h) ?_
                intro w12 h12 h13 hC
                have h12 : Whl w12 g9 30 #[.slice M2 512 mc2] := whl_ex h12 (by kernel_rfl)
                have h13 : Whl w12 g10 37 #[.int .i64 d2.mode, .int .i64 d2.base, .slice L2 n2 c2, .int .i64 d2.orders.page, .int .i64 d2.orders.head, .int .i64 d2.orders.tail, .bool d2.stopped, .int .i64 d2.fences, .int .i64 d2.faults.page, .int .i64 d2.faults.head, .int .i64 d2.faults.tail, .bool d2.lost] := whl_ex h13 (by kernel_rfl)
                have hz12 := hC.size
                simp only [List.getElem_toArray, List.getElem_cons_succ, List.getElem_cons_zero]
                go_wp2
                go_roundw
                case rel =>
                  refine ⟨k + 1, zs, d2, M2, mc2, L2, n2, c2, some ⟨gw, 0, none⟩, nw + 1, capw, want ++ [f], by omega, by go_num, rfl, by omega, ?_, by omega, ?_⟩
                  · exact FI.put hC h12 h13 IM.out IL.out (fun h0 ad e => by have := NM.out ad e; omega) (fun h0 ad e => by have := NL.out ad e; omega) OW.out HN3.out SB.out (by omega) (by omega) (by omega) (by omega)
                  · exact chg_flts0 HF.out hC HAF.out (fun q e hq => by omega)
                case measure => simp [intOf]; omega
          · obtain ⟨E, hE⟩ : ∃ E, tellE ys d f = E := ⟨_, rfl⟩
            have hE0 : E ≠ 0 := by rw [← hE, tellE_0B HJ.out.ti.cm HJ.out.ti.ck]; exact hfe
            have HAA := Lib.hid (show tellA ys d f = ([], .no) from tellA_n (by rw [hE]; exact hE0))
            have HEE := Lib.hid hE
            have HK0 := Lib.hid (show (if E = 0 then 512 else 0) = 0 from if_neg hE0)
            have t0 : (E != 0) = true := by rw [bne_iff_ne]; exact hE0
            clear hfe hE hE0
            go_wp2_with (first | (refine wpList_load_whl rfl 30 (.tmp 9) rfl (g9) _ _ rfl H9.out _ Try.underlying30 rfl Try.sizeMem ?_) | (refine wpList_load_whl rfl 37 (.tmp 10) rfl (g10) _ _ rfl H10.out _ Try.underlying37 rfl Try.sizeBrg ?_) | (refine wpList_load_whl rfl 52 (.tmp 12) rfl (wr.heap.size) _ _ rfl H12.out _ Try.underlying52 rfl Try.sizeFlt ?_))
            refine (tell_kB ys [] M1 512 mc1 d .no L1 n1 c1 f E 0 _ HJ.out.hm HJ.out.hl HAA.out HEE.out HK0.out).mono ?_
            rintro e w7 ⟨M2, mc2, L2, n2, c2, rfl, hm2, hl2, hb, hM2, hL2⟩
            have hz7 := hb.size
            replace HJ := Lib.hid (HJ.out.since hb)
            replace HF := Lib.hid (flts_now HF.out hb)
            have IM := Lib.hid hm2
            have IL := Lib.hid hl2
            have NM := Lib.hid hM2
            have NL := Lib.hid hL2
            replace H12 := Lib.hid (whl_since H12.out hb)
            clear hb hm2 hl2 hM2 hL2 H9 H10
            go_upto_region 10 with (first
              | (refine wpList_store_all rfl 30 (.tmp 13) (.tmp 56) rfl (w7.heap.size) _ _ #[.slice M2 0 mc2] rfl rfl (whl_alloc (whl_new w7 _ _ rfl) _) Try.sizeMem rfl rfl ?_; intro w8 h8 t8)
              | (refine wpList_store_all rfl 37 (.tmp 14) (.tmp 57) rfl (w7.heap.size + 1) _ _ #[.int .i64 Brg.no.mode, .int .i64 Brg.no.base, .slice L2 n2 c2, .int .i64 Brg.no.orders.page, .int .i64 Brg.no.orders.head, .int .i64 Brg.no.orders.tail, .bool Brg.no.stopped, .int .i64 Brg.no.fences, .int .i64 Brg.no.faults.page, .int .i64 Brg.no.faults.head, .int .i64 Brg.no.faults.tail, .bool Brg.no.lost] rfl rfl (whl_trn (whl_new (w7.alloc _) _ _ (by simp)) t8 (Nat.succ_ne_self _)) Try.sizeBrg rfl rfl ?_; intro w9 h9 t9))
            have hw9 := t8.2
            have hw10 := t9.2
            (try simp only [World.size_alloc] at hw9)
            have hz9a : w9.heap.size ≤ w7.heap.size + 2 := by omega
            have hz9b : w7.heap.size + 2 ≤ w9.heap.size := by omega
            have hb : Below w7.heap.size w7 w9 := below_chg (below_chg (((Below.refl w7.heap.size w7).alloc (Nat.le_refl _) _).alloc (by simp) _) (by simp; omega) t8.1 (fun q hq e => by omega)) (by omega) t9.1 (fun q hq e => by omega)
            have H13 := Lib.hid (whl_trn h8 t9 (by omega))
            have H14 := Lib.hid h9
            replace H12 := Lib.hid (whl_since H12.out hb)
            replace HJ := Lib.hid (HJ.out.since hb)
            replace HF := Lib.hid (flts_now HF.out hb)
            replace IM := Lib.hid (ints_now IM.out hb)
            replace IL := Lib.hid (lines_now IL.out hb)
            clear hb h8 h9 t8 t9 hw9 hw10
            go_wp2
            go_roundw
            case rel => exact ⟨k + 1, ys, d, M1, mc1, L1, n1, c1, W, nw, cw, want, by omega, by go_num, rfl, by omega, HJ.out, by omega, HF.out⟩
            case measure => simp [intOf]; omega
        · obtain rfl : k = nn := by omega
          have hh : ¬ ((k : Int) < (k : Int)) := by omega
          obtain ⟨w6, hw6⟩ : ∃ w6, w6 = wr := ⟨_, rfl⟩
          subst hw6
          have H9 := Lib.hid HJ.out.h9
          have H10 := Lib.hid HJ.out.h10
          have IM := Lib.hid HJ.out.hm
          have FW := Lib.hid HJ.out.ow.flts
          have SB := Lib.hid HJ.out.sb
          have TI := Lib.hid HJ.out.ti
          have hwl : want.length = nw := HJ.out.ow.1
          have HCM := Lib.hid HJ.out.ti.cm
          have lb9 := whl_lt HJ.out.h9
          clear HJ HF hlt
          go_upto_region 17 with (fail)
          clear hh
          go_upto_region 18 with (first
            | (refine wpList_load_part rfl 35 (.tmp 92) rfl (g10) 8 _ _ [.int .i64 d.faults.page, .int .i64 d.faults.head, .int .i64 d.faults.tail] rfl H10.out rfl _ Try.underlying35 rfl Try.sizeRingB ?_)
            | (refine wpList_store_new rfl 35 (.tmp 16) (.tmp 93) rfl _ _ _ _ rfl rfl (by rfl) (by rfl) Try.sizeRingB rfl (by rfl) ?_))
          generalize hwb : w6.alloc (.cells #[.int .i64 d.faults.page, .int .i64 d.faults.head, .int .i64 d.faults.tail] 35) = w7
          have H16 := Lib.hid (show Whl w7 w6.heap.size 35 #[.int .i64 d.faults.page, .int .i64 d.faults.head, .int .i64 d.faults.tail] by rw [← hwb]; exact whl_new _ _ _ rfl)
          have hb : Below w6.heap.size w6 w7 := by rw [← hwb]; exact below_alloc _ _
          have hz7a : w7.heap.size ≤ w6.heap.size + 1 := by rw [← hwb]; simp
          have hz7b : w6.heap.size + 1 ≤ w7.heap.size := by rw [← hwb]; simp
          have HP0 : Hid (PJ g9 w6.heap.size w ys M1 mc1 d.faults W nw cw want w7) := Lib.hid ⟨whl_since H9.out hb, H16.out, ints_now IM.out hb, (rowIn_ints IM.out).mono (fun q hq => by omega), flts_now FW.out hb, (rowIn_flts FW.out).mono (fun q hq => by omega), SB.out.trans (hb.mono SB.out.size)⟩
          have hws : w.heap.size ≤ w6.heap.size := SB.out.size
          obtain ⟨LL, hLL⟩ : ∃ LL, inRing xs (lenR b.faults).toNat b.faults ++ want.map Flt.w = LL := ⟨_, rfl⟩
          obtain ⟨N, hN⟩ : ∃ N, N = T + nw := ⟨_, rfl⟩
          have hLN : LL.length = N := by rw [← hLL, List.length_append, inRing_len, List.length_map, hwl, HTT.out, hN]; rfl
          have HO0 : Hid (PopI ys LL 0 d.faults) := by have h3 := PopI.start TI.out; rw [hLL] at h3; exact Lib.hid h3
          have hsum : IntKind.i64.wrap ((T : Int) + (nw : Int)) = (N : Int) := by rw [IntWalk.i64_in _ (by omega)]; omega
          have HLL := Lib.hid hLL
          have HNN2 := Lib.hid hN
          have HLN := Lib.hid hLN
          have HOK := Lib.hid TI.out.ok
          have hNT : nw = N - T ∧ T ≤ N := by omega
          obtain ⟨hNT1, hNT2⟩ := hNT
          have hN20 : N ≤ 20 := by omega
          have HNT1 := Lib.hid hNT1
          clear hwb hb H9 H10 IM FW SB TI hwl H16 hLL hN hLN hNT1
          go_wp2
          clear hsum
          go_loopw [98] (fun s98 wr => ∃ (j : Nat) (r : Ring), j ≤ N ∧ s98 = .int .i64 j ∧ Hid (PJ g9 w6.heap.size w ys M1 mc1 r W nw cw want wr) ∧ Hid (PopI ys LL j r) ∧ w7.heap.size ≤ wr.heap.size) (fun s98 _ => N - (intOf s98).toNat)
          case atStart => exact ⟨0, d.faults, by omega, rfl, HP0.out, HO0.out, Nat.le_refl _⟩
          case round =>
            clear HP0 HO0
            obtain ⟨j, r, hj, rfl, hp, ho, hwr⟩ := hrel
            have HP := Lib.hid hp.out
            have HO := Lib.hid ho.out
            clear hp ho
            have H9 := Lib.hid HP.out.h9
            have HG := Lib.hid HP.out.hg
            by_cases hlt : j < N
            · obtain ⟨p1, p2, p3⟩ := HO.out.pop HCM.out (by rw [HLN.out]; exact hlt)
              obtain ⟨v, hv⟩ : ∃ v, popV ys r = v := ⟨_, rfl⟩
              obtain ⟨r2, hr2⟩ : ∃ r2, popR r = r2 := ⟨_, rfl⟩
              rw [hv] at p2
              rw [hr2] at p3
              have P1 := Lib.hid p1
              have P2 := Lib.hid p2
              have P3 := Lib.hid p3
              have HV := Lib.hid hv
              have HR2 := Lib.hid hr2
              have q1 : (j : Int) < (N : Int) := by omega
              clear p1 p2 p3 hv hr2
              go_wp2_with (first | (refine wpList_load_whl rfl 30 (.tmp 9) rfl (g9) _ _ rfl H9.out _ Try.underlying30 rfl Try.sizeMem ?_) | (refine wpList_load_whl rfl 35 (.tmp 16) rfl (w6.heap.size) _ _ rfl HG.out _ Try.underlying35 rfl Try.sizeRingB ?_))
              clear q1
              refine (ring_popB M1 512 mc1 ys r r2 v _ HP.out.hm P1.out HV.out HR2.out).mono ?_
              rintro e w8 ⟨rfl, hb⟩
              have hz8 := hb.size
              replace HP := Lib.hid (HP.out.since hb)
              clear hb H9 HG
              go_upto_region 22 with (refine wpList_store_new rfl 35 (.tmp 19) (.tmp 106) rfl _ _ _ _ rfl rfl (by rfl) (by rfl) Try.sizeRingB rfl (by rfl) ?_)
              generalize hwb : w8.alloc (.cells #[.int .i64 r2.page, .int .i64 r2.head, .int .i64 r2.tail] 35) = w10
              have H19 := Lib.hid (show Whl w10 w8.heap.size 35 #[.int .i64 r2.page, .int .i64 r2.head, .int .i64 r2.tail] by rw [← hwb]; exact whl_new _ _ _ rfl)
              have hb : Below w8.heap.size w8 w10 := by rw [← hwb]; exact below_alloc _ _
              have hz10b := hb.size
              replace HP := Lib.hid (HP.out.since hb)
              have HG := Lib.hid HP.out.hg
              clear hwb hb
              go_upto_region 25 with (first | (refine wpList_load_whl rfl 35 (.tmp 19) rfl (w8.heap.size) _ _ rfl H19.out _ Try.underlying35 rfl Try.sizeRingB ?_) | (refine wpList_store_all rfl 35 (.tmp 16) (.tmp 110) rfl (w6.heap.size) _ _ #[.int .i64 r2.page, .int .i64 r2.head, .int .i64 r2.tail] rfl rfl HG.out Try.sizeRingB rfl rfl ?_; intro w11 h11 t11))
              have hw11 := t11.2
              have HP2 : Hid (PJ g9 w6.heap.size w ys M1 mc1 r2 W nw cw want w11) := Lib.hid (HP.out.trn t11 (by omega) (by omega) h11)
              clear HP HG H19 h11 t11
              by_cases hjT : j < T
              · have q3 : (j : Int) < (T : Int) := by omega
                go_wp2
                go_roundw
                case rel => exact ⟨j + 1, r2, by omega, by go_num, HP2.out, P3.out, by omega⟩
                case measure => simp [intOf]; omega
              · have q3 : ¬ ((j : Int) < (T : Int)) := by omega
                obtain ⟨f, hfi, hvf⟩ := popped_flt (m := xs) (b := b) (want := want) (k := j) (v := v) (by rw [HTT.out]; simpa using hjT) (by rw [HLL.out]; exact P2.out)
                obtain ⟨i, hi⟩ : ∃ i, i = j - T := ⟨_, rfl⟩
                rw [HTT.out, show ((T : Int)).toNat = T by omega, ← hi] at hfi
                obtain ⟨b1, b2, b3, b4, b5⟩ := flt_backB (HOK.out f (List.mem_of_getElem? hfi))
                have HRV : Hid (rdfV v = .tuple #[.agg #[.int .i64 f.cause, .int .i64 f.dev, .int .i64 f.page, .bool f.wr], .int .i64 0]) := Lib.hid (by
                  rw [hvf]
                  unfold rdfV
                  rw [b1, b2, b3, b4, b5])
                have HFI := Lib.hid hfi
                have HI9 := Lib.hid hi
                clear b1 b2 b3 b4 b5 hvf hfi hi
                go_wp2_with fail
                refine (word_ReadFault _ _).mono ?_
                rw [HRV.out]
                rintro e w12 ⟨rfl, hb⟩
                have hz12 := hb.size
                replace HP2 := Lib.hid (HP2.out.since hb)
                clear hb q3
                go_upto_region 27 with (refine wpList_store_new rfl 52 (.tmp 21) (.tmp 117) rfl _ _ _ _ rfl rfl (by rfl) (by rfl) Try.sizeFlt rfl (by rfl) ?_)
                generalize hwb : w12.alloc (.cells #[.int .i64 f.cause, .int .i64 f.dev, .int .i64 f.page, .bool f.wr] 52) = w13
                have H21 := Lib.hid (show Whl w13 w12.heap.size 52 #[.int .i64 f.cause, .int .i64 f.dev, .int .i64 f.page, .bool f.wr] by rw [← hwb]; exact whl_new _ _ _ rfl)
                have hb : Below w12.heap.size w12 w13 := by rw [← hwb]; exact below_alloc _ _
                have hz13 := hb.size
                replace HP2 := Lib.hid (HP2.out.since hb)
                clear hwb hb
                have f21 := fun o => whl_cell H21.out o
                have lb21 := whl_lt H21.out
                have hil : i < nw := by have h3 := (List.getElem?_eq_some_iff.1 HFI.out).1; have h4 := HP2.out.fl.1; omega
                obtain ⟨bW, oW, rfl, hbW, hcW⟩ := HP2.out.fl.at_ (by omega)
                obtain ⟨e0, e1, e2, e3⟩ := hcW i f HFI.out
                have hfl := fun W => Try.neqFltB f.cause f.dev f.page f.wr W
                have m1 : IntKind.i64.wrap ((j : Int) - (T : Int)) = (i : Int) := by rw [IntWalk.i64_in _ (by omega)]; have := HI9.out; omega
                have m2 : (0 : Int) ≤ (i : Int) := by omega
                have m3 : (i : Int) < (nw : Int) := by omega
                clear hcW
                go_quiet (fail)
                clear f21 e0 e1 e2 e3 hfl m1 m2 m3
                go_wp2
                go_roundw
                case rel => exact ⟨j + 1, r2, by omega, by go_num, by first | exact HP2.out | exact HP2.out.since (Below.refl _ _).drew | exact HP2.out.since (bdrewN (Below.refl _ _) _), P3.out, by first | omega | (simp; omega)⟩
                case measure => simp [intOf]; omega
            · obtain rfl : j = N := by omega
              have hh : ¬ ((j : Int) < (j : Int)) := by omega
              have HRG := Lib.hid HO.out.rg
              have HL0 := Lib.hid (show lenR r = 0 by rw [HO.out.len, HLN.out]; omega)
              go_wp2_with (first | (refine wpList_load_whl rfl 35 (.tmp 16) rfl (w6.heap.size) _ _ rfl HG.out _ Try.underlying35 rfl Try.sizeRingB ?_))
              refine (ring_lenB r HRG.out 0 HL0.out _).mono ?_
              rintro e w8 ⟨rfl, hb⟩
              have HE := Lib.hid (HP.out.sb.trans (hb.mono HP.out.sb.size))
              clear hb hh
              go_wp2
              go_ret
              exact ⟨rfl, HE.out⟩
theorem law_BridgeFaults (xs : List Int) (b : Brg) (fs : List Flt) (M L A : Option Addr) (nm mc n c nf cf : Nat) (w : World) (hm : Ints w w.heap.size M nm xs) (hl : Lines w w.heap.size L n c b.cache) (hf : Flts w w.heap.size A nf cf fs) :
    Calls Try.prog 5 #[.agg #[.slice M nm mc], .agg #[.int .i64 b.mode, .int .i64 b.base, .slice L n c, .int .i64 b.orders.page, .int .i64 b.orders.head, .int .i64 b.orders.tail, .bool b.stopped, .int .i64 b.fences, .int .i64 b.faults.page, .int .i64 b.faults.head, .int .i64 b.faults.tail, .bool b.lost], .slice A nf cf] w fun e w' => e = .returned (.bool true) ∧ Below w.heap.size w w' := by
  by_cases h : cm xs = 0
  · by_cases h' : ckB b = 0
    · obtain rfl : nm = 512 := by rw [← hm.len]; exact (cm_inv h).1
      exact bfaults_ok xs b fs M L A 512 mc n c nf cf w hm hl hf h h'
    · exact bfaults_no xs b fs M L A nm mc n c nf cf w hm hl hf (Or.inr ⟨h, h'⟩)
  · exact bfaults_no xs b fs M L A nm mc n c nf cf w hm hl hf (Or.inl h)
end Go.Proofs.Ytbopdijnojaaiac
