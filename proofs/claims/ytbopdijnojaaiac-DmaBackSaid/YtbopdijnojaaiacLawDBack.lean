/- The walk of the law DmaBack: what a device writes it reads again. The row is in another text. -/
import Derived.Test.YtbopdijnojaaiacCarried
import Derived.Test.YtbopdijnojaaiacDmaS
import Derived.Test.YtbopdijnojaaiacWh2
import Derived.Test.YtbopdijnojaaiacDrop
namespace Go.Proofs.Ytbopdijnojaaiac
open Go.RowKit
set_option linter.unusedSimpArgs false
set_option linter.unusedVariables false
open Go.Maps
attribute [local go_sem ↓] Go.wp_at_zero Go.wp_at_succ
theorem Try.zeroSeenD (w : World) : (zeroValue 4).run Try.prog w = .ok (.bool false) w := by kernel_rfl
theorem wpList_lookup_heldD {P : Program} (w : World) {ops : Array Oper} {rest : List Oper} {o : Oper} {a : Act} {Q : Exit → Act → World → Prop}
    (hg : o.guard = none) (m x : Operand) (t : TypeId) (hop : o.op = Op.lookup t m x false)
    (k e : TypeId) (K : Keyed P k) (ht : P.underlying t = some (.map k e)) {z : Value} (hz : (zeroValue e).run P w = .ok z w) (b n : Nat) (D : DataW Value)
    (hm : a.eval m = .map (some b)) (hown : w.ownsMap P k heldR b n D) (key : Value) (kl : Lit) (hx : a.eval x = key) (hkey : keyOf P k key = some kl) (f : Value) (hD : D.atKey kl (.held z) = .held f)
    (hK : wpList P ops Q rest (a.put o.dst f) w) :
    wpList P ops Q (o :: rest) a w := by
  refine wpList_plain hg fun K' hK' => ?_
  obtain ⟨v, ps, hrun, hv⟩ := hown.lookup K ht hz (zd := .held z) (zp := []) rfl hkey
  unfold heldR at hv
  rw [hD] at hv
  simp only [Option.some.injEq, Prod.mk.injEq, DataW.held.injEq] at hv
  rw [hv.1] at hrun
  unfold Oper.wp
  simp [execOp, hop, hm, hx, hrun, Result.andThen]
  exact hK' _ _ hK

theorem Try.sizeBoolD : (Try.prog.info? 4).map (·.size) = some 1 := by kernel_rfl
theorem rd_atD {xs : List Int} {k : Int} {n : Nat} (hl : xs.length = n) (h0 : 0 ≤ k) (h1 : k < n) : xs[k.toNat]? = some (rd xs k) := by
  unfold rd
  rw [List.getElem?_eq_getElem (by omega)]
  rfl
theorem rd_mapD {xs : List Int} {k : Nat} (h : k < xs.length) : (xs.map (Value.int .i64))[k]? = some (.int .i64 (rd xs k)) := by
  rw [List.getElem?_map]
  have := rd_atD (k := (k : Int)) (n := xs.length) rfl (by omega) (by omega)
  rw [show ((k : Int)).toNat = k by omega] at this
  rw [this]; rfl
theorem rd_mapD' {xs : List Int} {k : Int} (h0 : 0 ≤ k) (h : k < xs.length) : (xs.map (Value.int .i64))[k.toNat]? = some (.int .i64 (rd xs k)) := by
  rw [List.getElem?_map, rd_atD rfl h0 h]; rfl
theorem dGo_len20 {a : Ask} : ∀ (n i : Nat) (s : Dst), s.touched.length ≤ i → (dGo a n i s).2.2.touched.length ≤ i + n := by
  intro n
  induction n with
  | zero => intro i s h; exact h
  | succ n ih =>
    intro i s h
    unfold dGo
    split
    · have := ih (i + 1) (dWord a i s) (by show (s.touched ++ [_]).length ≤ _; rw [List.length_append]; simp; omega); omega
    · split
      · have := ih (i + 1) (dWord a i (dNext a i s)) (by show (s.touched ++ [_]).length ≤ _; rw [List.length_append]; simp; omega); omega
      · show s.touched.length ≤ _; omega
theorem dma_lenD {xs : List Int} {b : Brg} {a : Ask} (h : dmaE xs b a = 0) : ((dmaM xs b a).2.2.touched.length : Int) ≤ a.count := by
  have hc := (reqE_inv (dmaE_inv h).2.2).1
  have := dGo_len20 (a := a) a.count.toNat 0 ⟨xs, b, [], [], 0, -1⟩ (Nat.le_refl _)
  unfold dmaM
  omega
theorem mdma_kD (xs : List Int) (m : Option Addr) (nm mc : Nat) (b : Brg) (A0 : Option Addr) (n0 c0 : Nat) (AD : Option Addr) (nd cd : Nat) (w : World) (hx : Ints w w.heap.size m nm xs) (hl : Lines w w.heap.size A0 n0 c0 b.cache) (a : Ask) (hd : Ints w w.heap.size AD nd a.data) (R : List Int × Brg × Tld) (E : Int) (k : Nat) (hR : dmaA xs b a = R) (hE : dmaE xs b a = E) (hk : (if E = 0 then 512 else 0) = k) :
    Calls Try.prog 30 #[.agg #[.slice m nm mc], .agg #[.int .i64 b.mode, .int .i64 b.base, .slice A0 n0 c0, .int .i64 b.orders.page, .int .i64 b.orders.head, .int .i64 b.orders.tail, .bool b.stopped, .int .i64 b.fences, .int .i64 b.faults.page, .int .i64 b.faults.head, .int .i64 b.faults.tail, .bool b.lost], .agg #[.int .i64 a.dev, .int .i64 a.at_, .int .i64 a.count, .bool a.wr, .slice AD nd cd]] w (DoC w k R E) := by
  subst hk; exact dma_ans xs m nm mc b A0 n0 c0 AD nd cd w hx hl a hd R E hR hE
def seenF (m : DataW Value) (x : Tch) : DataW Value := m.put (.int .i64 x.at_) (.held (.bool true))
/-- what the law has seen. -/
def seenD (ts : List Tch) : DataW Value := ts.foldl seenF (.map [])
theorem seenD_snoc (ls : List Tch) (x : Tch) : seenD (ls ++ [x]) = (seenD ls).put (.int .i64 x.at_) (.held (.bool true)) := by unfold seenD; rw [List.foldl_append]; rfl
theorem seenD_succ {ls : List Tch} {k : Nat} {x : Tch} (hx : ls[k]? = some x) : seenD (ls.take (k + 1)) = (seenD (ls.take k)).put (.int .i64 x.at_) (.held (.bool true)) := by
  rw [List.take_add_one, hx]; exact seenD_snoc _ _
theorem seenD_at (k : Int) (z : DataW Value) : ∀ (ls : List Tch) (m : DataW Value), IsMap m → (ls.foldl seenF m).atKey (.int .i64 k) z = if ls.any (fun x => x.at_ == k) then .held (.bool true) else m.atKey (.int .i64 k) z
  | [], m, _ => by simp
  | x :: r, m, hm => by
    rw [List.foldl_cons, seenD_at k z r _ (show IsMap (seenF m x) from hm.put _ _), List.any_cons]
    by_cases h : x.at_ = k
    · have : (seenF m x).atKey (.int .i64 k) z = .held (.bool true) := by
        unfold seenF; rw [h]; exact atKey_put_same hm (by simp [WideAt.IsKeyLit]) _ _
      rw [this]
      simp [h]
    · have e : (Lit.int .i64 k) ≠ (Lit.int .i64 x.at_) := key_ne (fun h' => h h'.symm)
      have : (seenF m x).atKey (.int .i64 k) z = m.atKey (.int .i64 k) z := by
        unfold seenF; exact atKey_put_other e _ _
      rw [this]
      simp [h]
theorem seenD_find (pre : List Tch) (k : Int) : (seenD pre).atKey (.int .i64 k) (.held (.bool false)) = .held (.bool (pre.any (fun x => x.at_ == k))) := by
  unfold seenD
  rw [seenD_at _ _ pre _ isMap_empty]
  cases pre.any (fun x => x.at_ == k) <;> rfl
/-- no two of the first k come to one place. -/
def ApT (ts : List Tch) (k : Nat) : Prop := ∀ (i j : Nat) (x y : Tch), i < k → j < k → ts[i]? = some x → ts[j]? = some y → x.at_ = y.at_ → i = j
theorem apT_next {ts : List Tch} {k : Nat} {u : Tch} (h : ApT ts k) (hu : ts[k]? = some u) (hn : (ts.take k).any (fun x => x.at_ == u.at_) = false) : ApT ts (k + 1) := by
  have hno : ∀ (i : Nat) (x : Tch), i < k → ts[i]? = some x → x.at_ ≠ u.at_ := fun i x hi hx e => by
    have := List.any_eq_false.1 hn x (List.mem_of_getElem? (i := i) (by rw [List.getElem?_take, if_pos hi]; exact hx))
    simp [e] at this
  intro i j x y hi hj hx hy e
  by_cases h1 : i = k
  · by_cases h2 : j = k
    · omega
    · subst h1; rw [hu] at hx; injection hx with hx; subst hx
      exact absurd e.symm (hno j y (by omega) hy)
  · by_cases h2 : j = k
    · subst h2; rw [hu] at hy; injection hy with hy; subst hy
      exact absurd e (hno i x (by omega) hx)
    · exact h i j x y (by omega) (by omega) hx hy e
theorem row_tch {w : World} {B : Nat} {A : Option Addr} {n c : Nat} {ts : List Tch} (h : Tchs w B A n c ts) (hn : 0 < n) : True := trivial
set_option maxRecDepth 100000 in
set_option maxHeartbeats 2000000 in
theorem dback_no (xs : List Int) (b : Brg) (a : Ask) (M L AD : Option Addr) (nm mc n c nd cd : Nat) (w : World) (hm : Ints w w.heap.size M nm xs) (hl : Lines w w.heap.size L n c b.cache) (hd : Ints w w.heap.size AD nd a.data) (hE : dmaE xs b (⟨a.dev, a.at_, a.count, true, a.data⟩ : Ask) ≠ 0) :
    Calls Try.prog 10 #[.agg #[.slice M nm mc], .agg #[.int .i64 b.mode, .int .i64 b.base, .slice L n c, .int .i64 b.orders.page, .int .i64 b.orders.head, .int .i64 b.orders.tail, .bool b.stopped, .int .i64 b.fences, .int .i64 b.faults.page, .int .i64 b.faults.head, .int .i64 b.faults.tail, .bool b.lost], .agg #[.int .i64 a.dev, .int .i64 a.at_, .int .i64 a.count, .bool a.wr, .slice AD nd cd]] w fun e w' => e = .returned (.bool true) ∧ Below w.heap.size w w' := by
  obtain ⟨ys, d, t, hA⟩ : ∃ ys d t, dmaA xs b (⟨a.dev, a.at_, a.count, true, a.data⟩ : Ask) = (ys, d, t) := ⟨_, _, _, rfl⟩
  obtain ⟨E, hEE⟩ : ∃ E, dmaE xs b (⟨a.dev, a.at_, a.count, true, a.data⟩ : Ask) = E := ⟨_, rfl⟩
  rw [hEE] at hE
  obtain ⟨na, hna⟩ : ∃ na, (if E = 0 then 512 else 0) = na := ⟨_, rfl⟩
  have HNA := Lib.hid hna
  have HA := Lib.hid hA
  have HEE := Lib.hid hEE
  have HM := Lib.hid hm
  have HL := Lib.hid hl
  have HD := Lib.hid hd
  clear hna hA hEE hm hl hd
  have HE := Lib.hid hE
  clear hE
  go_enter Try.func10, Try.ntmps10
  go_upto_region 1 with (fail)
  generalize hw0 : ((w.alloc (.cells #[.slice M nm mc] 30)).alloc (.cells #[.int .i64 b.mode, .int .i64 b.base, .slice L n c, .int .i64 b.orders.page, .int .i64 b.orders.head, .int .i64 b.orders.tail, .bool b.stopped, .int .i64 b.fences, .int .i64 b.faults.page, .int .i64 b.faults.head, .int .i64 b.faults.tail, .bool b.lost] 37)).alloc (.cells #[.int .i64 a.dev, .int .i64 a.at_, .int .i64 a.count, .bool a.wr, .slice AD nd cd] 62) = wy
  have H0 := Lib.hid (show Whl wy w.heap.size 30 #[.slice M nm mc] by rw [← hw0]; exact whl_alloc (whl_alloc (whl_new _ _ _ rfl) _) _)
  have H1 := Lib.hid (show Whl wy (w.heap.size + 1) 37 #[.int .i64 b.mode, .int .i64 b.base, .slice L n c, .int .i64 b.orders.page, .int .i64 b.orders.head, .int .i64 b.orders.tail, .bool b.stopped, .int .i64 b.fences, .int .i64 b.faults.page, .int .i64 b.faults.head, .int .i64 b.faults.tail, .bool b.lost] by rw [← hw0]; exact whl_alloc (whl_new _ _ _ (by simp)) _)
  have H2 := Lib.hid (show Whl wy (w.heap.size + 1 + 1) 62 #[.int .i64 a.dev, .int .i64 a.at_, .int .i64 a.count, .bool a.wr, .slice AD nd cd] by rw [← hw0]; exact whl_new _ _ _ (by simp))
  have HB := Lib.hid (show Below w.heap.size w wy by rw [← hw0]; (repeat (first | (with_reducible exact Below.refl _ _) | (with_reducible refine Below.drew ?_) | (with_reducible refine bdrewN ?_ _) | ((with_reducible refine Below.setCell ?_ ?_ _); rotate_left; exact (by first | (simp; done) | (simp; omega) | omega)) | ((with_reducible refine Below.alloc ?_ ?_ _); rotate_left; exact (by first | (simp; done) | (simp; omega) | omega)))))
  have hzya : wy.heap.size ≤ w.heap.size + 3 := by rw [← hw0]; simp
  have hzyb : w.heap.size + 3 ≤ wy.heap.size := by rw [← hw0]; simp
  clear hw0
  go_upto_region 2 with (refine wpList_store_cell rfl 4 (.tmp 28) (.const (.bool true)) rfl (w.heap.size + 1 + 1) 3 _ _ #[.int .i64 a.dev, .int .i64 a.at_, .int .i64 a.count, .bool true, .slice AD nd cd] (.bool true) rfl rfl H2.out Try.sizeBoolD (of_decide_eq_true rfl) rfl rfl ?_; intro w0 h2 t2)
  have hz0 := t2.2
  have hz0a : w0.heap.size ≤ w.heap.size + 3 := by omega
  have hz0b : w.heap.size + 3 ≤ w0.heap.size := by omega
  replace H2 := Lib.hid h2
  replace H0 := Lib.hid (whl_trn H0.out t2 (by omega))
  replace H1 := Lib.hid (whl_trn H1.out t2 (by omega))
  replace HB := Lib.hid (below_trn HB.out HB.out.size t2 (by omega))
  clear h2 t2 hz0 hzya hzyb
  go_wp2_with (first | (refine wpList_load_whl rfl 30 (.tmp 3) rfl (w.heap.size) _ _ rfl H0.out _ Try.underlying30 rfl Try.sizeMem ?_) | (refine wpList_load_whl rfl 37 (.tmp 4) rfl (w.heap.size + 1) _ _ rfl H1.out _ Try.underlying37 rfl Try.sizeBrg ?_) | (refine wpList_load_whl rfl 62 (.tmp 5) rfl (w.heap.size + 1 + 1) _ _ rfl H2.out _ Try.underlying62 rfl Try.sizeAsk ?_))
  refine (mdma_kD xs M nm mc b L n c AD nd cd _ (ints_now HM.out HB.out) (lines_now HL.out HB.out) (⟨a.dev, a.at_, a.count, true, a.data⟩ : Ask) (ints_now HD.out HB.out) (ys, d, t) E na HA.out HEE.out HNA.out).mono ?_
  rintro e w1 ⟨M1, mc1, L1, n1, c1, D1, dn1, dc1, T1, tn1, tc1, rfl, hm1, hl1, hd1, ht1, hb, fM, fL, fD, fT⟩
  have IM := Lib.hid hm1
  have IL := Lib.hid hl1
  have ID := Lib.hid hd1
  have IT := Lib.hid ht1
  have hz1 := hb.size
  replace H0 := Lib.hid (whl_since H0.out hb)
  replace H1 := Lib.hid (whl_since H1.out hb)
  replace H2 := Lib.hid (whl_since H2.out hb)
  replace HB := Lib.hid (HB.out.trans (hb.mono HB.out.size))
  clear hb hm1 hl1 hd1 ht1 fM fL fD fT
  go_upto_region 3 with (first
    | (refine wpList_store_all rfl 30 (.tmp 7) (.tmp 34) rfl (w1.heap.size) _ _ #[.slice M1 na mc1] rfl rfl (whl_alloc (whl_alloc (whl_new w1 _ _ rfl) _) _) Try.sizeMem rfl rfl ?_; intro w2 h7 t4)
    | (refine wpList_store_all rfl 37 (.tmp 8) (.tmp 35) rfl (w1.heap.size + 1) _ _ #[.int .i64 d.mode, .int .i64 d.base, .slice L1 n1 c1, .int .i64 d.orders.page, .int .i64 d.orders.head, .int .i64 d.orders.tail, .bool d.stopped, .int .i64 d.fences, .int .i64 d.faults.page, .int .i64 d.faults.head, .int .i64 d.faults.tail, .bool d.lost] rfl rfl (whl_trn (whl_alloc (whl_new (w1.alloc _) _ _ (by simp)) _) t4 (by omega)) Try.sizeBrg rfl rfl ?_; intro w3 h8 t5)
    | (refine wpList_store_all rfl 65 (.tmp 9) (.tmp 36) rfl (w1.heap.size + 1 + 1) _ _ #[.bool t.done, .slice D1 dn1 dc1, .int .i64 t.fault, .slice T1 tn1 tc1] rfl rfl (whl_trn (whl_trn (whl_new ((w1.alloc _).alloc _) _ _ (by simp)) t4 (by omega)) t5 (by omega)) Try.sizeTold rfl rfl ?_; intro w4 h9 t6))
  have hw4 := t4.2
  have hw5 := t5.2
  have hw6 := t6.2
  (try simp only [World.size_alloc] at hw4)
  have hz4a : w4.heap.size ≤ w1.heap.size + 3 := by omega
  have hz4b : w1.heap.size + 3 ≤ w4.heap.size := by omega
  have C6 := chg_trans (chg_trans (chg_mono (Q := fun q => w1.heap.size ≤ q) t4.1 (fun q _ e => by omega)) (chg_mono t5.1 (fun q _ e => by omega))) (chg_mono t6.1 (fun q _ e => by omega))
  have hb : Below w1.heap.size w1 w4 := below_chg ((((Below.refl w1.heap.size w1).alloc (Nat.le_refl _) _).alloc (by simp) _).alloc (by simp; omega) _) (by simp; omega) C6 (fun q hq e => by omega)
  have H7 := Lib.hid (whl_trn (whl_trn h7 t5 (by omega)) t6 (by omega))
  have H8 := Lib.hid (whl_trn h8 t6 (by omega))
  have H9 := Lib.hid h9
  replace H0 := Lib.hid (whl_since H0.out hb)
  replace H1 := Lib.hid (whl_since H1.out hb)
  replace H2 := Lib.hid (whl_since H2.out hb)
  replace HB := Lib.hid (HB.out.trans (hb.mono HB.out.size))
  replace IM := Lib.hid (ints_now IM.out hb)
  replace IL := Lib.hid (lines_now IL.out hb)
  replace ID := Lib.hid (ints_now ID.out hb)
  replace IT := Lib.hid (tchs_now IT.out hb)
  clear hb C6 t4 t5 t6 h7 h8 h9 hw4 hw5 hw6
  go_wp2_with fail
  refine (law_carried _).mono ?_
  rintro e w5 ⟨rfl, hb⟩
  replace H0 := Lib.hid (whl_since H0.out hb)
  replace H1 := Lib.hid (whl_since H1.out hb)
  replace H2 := Lib.hid (whl_since H2.out hb)
  replace HB := Lib.hid (HB.out.trans (hb.mono HB.out.size))
  replace IM := Lib.hid (ints_now IM.out hb)
  replace IL := Lib.hid (lines_now IL.out hb)
  replace ID := Lib.hid (ints_now ID.out hb)
  replace IT := Lib.hid (tchs_now IT.out hb)
  replace H7 := Lib.hid (whl_since H7.out hb)
  replace H8 := Lib.hid (whl_since H8.out hb)
  replace H9 := Lib.hid (whl_since H9.out hb)
  clear hb
  have t0 : (E != 0) = true := by rw [bne_iff_ne]; exact HE.out
  go_wp2_with fail
  refine (law_carried _).mono ?_
  rintro e w6 ⟨rfl, hb⟩
  have HE9 := Lib.hid (HB.out.trans (hb.mono HB.out.size))
  clear hb
  go_wp2
  go_ret
  exact ⟨rfl, HE9.out⟩
set_option maxRecDepth 100000 in
set_option maxHeartbeats 2000000 in
theorem dback_nd (xs : List Int) (b : Brg) (a : Ask) (M L AD : Option Addr) (nm mc n c nd cd : Nat) (w : World) (hm : Ints w w.heap.size M 512 xs) (hl : Lines w w.heap.size L n c b.cache) (hd : Ints w w.heap.size AD nd a.data) (hE : dmaE xs b (⟨a.dev, a.at_, a.count, true, a.data⟩ : Ask) = 0) (hdn : (dmaM xs b (⟨a.dev, a.at_, a.count, true, a.data⟩ : Ask)).2.2.done = false) :
    Calls Try.prog 10 #[.agg #[.slice M 512 mc], .agg #[.int .i64 b.mode, .int .i64 b.base, .slice L n c, .int .i64 b.orders.page, .int .i64 b.orders.head, .int .i64 b.orders.tail, .bool b.stopped, .int .i64 b.fences, .int .i64 b.faults.page, .int .i64 b.faults.head, .int .i64 b.faults.tail, .bool b.lost], .agg #[.int .i64 a.dev, .int .i64 a.at_, .int .i64 a.count, .bool a.wr, .slice AD nd cd]] w fun e w' => e = .returned (.bool true) ∧ Below w.heap.size w w' := by
  obtain ⟨ys, d, t, hA⟩ : ∃ ys d t, dmaA xs b (⟨a.dev, a.at_, a.count, true, a.data⟩ : Ask) = (ys, d, t) := ⟨_, _, _, rfl⟩
  obtain ⟨E, hEE⟩ : ∃ E, dmaE xs b (⟨a.dev, a.at_, a.count, true, a.data⟩ : Ask) = E := ⟨_, rfl⟩
  rw [hEE] at hE
  obtain ⟨na, hna⟩ : ∃ na, (if E = 0 then 512 else 0) = na := ⟨_, rfl⟩
  obtain rfl : na = 512 := by rw [← hna, if_pos hE]
  subst hE
  have hR : dmaM xs b (⟨a.dev, a.at_, a.count, true, a.data⟩ : Ask) = (ys, d, t) := by have h := hA; unfold dmaA at h; rw [hEE, if_pos rfl] at h; exact h
  have HR := Lib.hid hR
  have HDN := Lib.hid (show t.done = false by rw [hR] at hdn; exact hdn)
  clear hdn hR
  have HNA := Lib.hid hna
  have HA := Lib.hid hA
  have HEE := Lib.hid hEE
  have HM := Lib.hid hm
  have HL := Lib.hid hl
  have HD := Lib.hid hd
  clear hna hA hEE hm hl hd
  go_enter Try.func10, Try.ntmps10
  go_upto_region 1 with (fail)
  generalize hw0 : ((w.alloc (.cells #[.slice M 512 mc] 30)).alloc (.cells #[.int .i64 b.mode, .int .i64 b.base, .slice L n c, .int .i64 b.orders.page, .int .i64 b.orders.head, .int .i64 b.orders.tail, .bool b.stopped, .int .i64 b.fences, .int .i64 b.faults.page, .int .i64 b.faults.head, .int .i64 b.faults.tail, .bool b.lost] 37)).alloc (.cells #[.int .i64 a.dev, .int .i64 a.at_, .int .i64 a.count, .bool a.wr, .slice AD nd cd] 62) = wy
  have H0 := Lib.hid (show Whl wy w.heap.size 30 #[.slice M 512 mc] by rw [← hw0]; exact whl_alloc (whl_alloc (whl_new _ _ _ rfl) _) _)
  have H1 := Lib.hid (show Whl wy (w.heap.size + 1) 37 #[.int .i64 b.mode, .int .i64 b.base, .slice L n c, .int .i64 b.orders.page, .int .i64 b.orders.head, .int .i64 b.orders.tail, .bool b.stopped, .int .i64 b.fences, .int .i64 b.faults.page, .int .i64 b.faults.head, .int .i64 b.faults.tail, .bool b.lost] by rw [← hw0]; exact whl_alloc (whl_new _ _ _ (by simp)) _)
  have H2 := Lib.hid (show Whl wy (w.heap.size + 1 + 1) 62 #[.int .i64 a.dev, .int .i64 a.at_, .int .i64 a.count, .bool a.wr, .slice AD nd cd] by rw [← hw0]; exact whl_new _ _ _ (by simp))
  have HB := Lib.hid (show Below w.heap.size w wy by rw [← hw0]; (repeat (first | (with_reducible exact Below.refl _ _) | (with_reducible refine Below.drew ?_) | (with_reducible refine bdrewN ?_ _) | ((with_reducible refine Below.setCell ?_ ?_ _); rotate_left; exact (by first | (simp; done) | (simp; omega) | omega)) | ((with_reducible refine Below.alloc ?_ ?_ _); rotate_left; exact (by first | (simp; done) | (simp; omega) | omega)))))
  have hzya : wy.heap.size ≤ w.heap.size + 3 := by rw [← hw0]; simp
  have hzyb : w.heap.size + 3 ≤ wy.heap.size := by rw [← hw0]; simp
  clear hw0
  go_upto_region 2 with (refine wpList_store_cell rfl 4 (.tmp 28) (.const (.bool true)) rfl (w.heap.size + 1 + 1) 3 _ _ #[.int .i64 a.dev, .int .i64 a.at_, .int .i64 a.count, .bool true, .slice AD nd cd] (.bool true) rfl rfl H2.out Try.sizeBoolD (of_decide_eq_true rfl) rfl rfl ?_; intro w0 h2 t2)
  have hz0 := t2.2
  have hz0a : w0.heap.size ≤ w.heap.size + 3 := by omega
  have hz0b : w.heap.size + 3 ≤ w0.heap.size := by omega
  replace H2 := Lib.hid h2
  replace H0 := Lib.hid (whl_trn H0.out t2 (by omega))
  replace H1 := Lib.hid (whl_trn H1.out t2 (by omega))
  replace HB := Lib.hid (below_trn HB.out HB.out.size t2 (by omega))
  clear h2 t2 hz0 hzya hzyb
  go_wp2_with (first | (refine wpList_load_whl rfl 30 (.tmp 3) rfl (w.heap.size) _ _ rfl H0.out _ Try.underlying30 rfl Try.sizeMem ?_) | (refine wpList_load_whl rfl 37 (.tmp 4) rfl (w.heap.size + 1) _ _ rfl H1.out _ Try.underlying37 rfl Try.sizeBrg ?_) | (refine wpList_load_whl rfl 62 (.tmp 5) rfl (w.heap.size + 1 + 1) _ _ rfl H2.out _ Try.underlying62 rfl Try.sizeAsk ?_))
  refine (mdma_kD xs M 512 mc b L n c AD nd cd _ (ints_now HM.out HB.out) (lines_now HL.out HB.out) (⟨a.dev, a.at_, a.count, true, a.data⟩ : Ask) (ints_now HD.out HB.out) (ys, d, t) 0 512 HA.out HEE.out HNA.out).mono ?_
  rintro e w1 ⟨M1, mc1, L1, n1, c1, D1, dn1, dc1, T1, tn1, tc1, rfl, hm1, hl1, hd1, ht1, hb, fM, fL, fD, fT⟩
  have IM := Lib.hid hm1
  have IL := Lib.hid hl1
  have ID := Lib.hid hd1
  have IT := Lib.hid ht1
  have hz1 := hb.size
  replace H0 := Lib.hid (whl_since H0.out hb)
  replace H1 := Lib.hid (whl_since H1.out hb)
  replace H2 := Lib.hid (whl_since H2.out hb)
  replace HB := Lib.hid (HB.out.trans (hb.mono HB.out.size))
  clear hb hm1 hl1 hd1 ht1 fM fL fD fT
  go_upto_region 3 with (first
    | (refine wpList_store_all rfl 30 (.tmp 7) (.tmp 34) rfl (w1.heap.size) _ _ #[.slice M1 512 mc1] rfl rfl (whl_alloc (whl_alloc (whl_new w1 _ _ rfl) _) _) Try.sizeMem rfl rfl ?_; intro w2 h7 t4)
    | (refine wpList_store_all rfl 37 (.tmp 8) (.tmp 35) rfl (w1.heap.size + 1) _ _ #[.int .i64 d.mode, .int .i64 d.base, .slice L1 n1 c1, .int .i64 d.orders.page, .int .i64 d.orders.head, .int .i64 d.orders.tail, .bool d.stopped, .int .i64 d.fences, .int .i64 d.faults.page, .int .i64 d.faults.head, .int .i64 d.faults.tail, .bool d.lost] rfl rfl (whl_trn (whl_alloc (whl_new (w1.alloc _) _ _ (by simp)) _) t4 (by omega)) Try.sizeBrg rfl rfl ?_; intro w3 h8 t5)
    | (refine wpList_store_all rfl 65 (.tmp 9) (.tmp 36) rfl (w1.heap.size + 1 + 1) _ _ #[.bool t.done, .slice D1 dn1 dc1, .int .i64 t.fault, .slice T1 tn1 tc1] rfl rfl (whl_trn (whl_trn (whl_new ((w1.alloc _).alloc _) _ _ (by simp)) t4 (by omega)) t5 (by omega)) Try.sizeTold rfl rfl ?_; intro w4 h9 t6))
  have hw4 := t4.2
  have hw5 := t5.2
  have hw6 := t6.2
  (try simp only [World.size_alloc] at hw4)
  have hz4a : w4.heap.size ≤ w1.heap.size + 3 := by omega
  have hz4b : w1.heap.size + 3 ≤ w4.heap.size := by omega
  have C6 := chg_trans (chg_trans (chg_mono (Q := fun q => w1.heap.size ≤ q) t4.1 (fun q _ e => by omega)) (chg_mono t5.1 (fun q _ e => by omega))) (chg_mono t6.1 (fun q _ e => by omega))
  have hb : Below w1.heap.size w1 w4 := below_chg ((((Below.refl w1.heap.size w1).alloc (Nat.le_refl _) _).alloc (by simp) _).alloc (by simp; omega) _) (by simp; omega) C6 (fun q hq e => by omega)
  have H7 := Lib.hid (whl_trn (whl_trn h7 t5 (by omega)) t6 (by omega))
  have H8 := Lib.hid (whl_trn h8 t6 (by omega))
  have H9 := Lib.hid h9
  replace H0 := Lib.hid (whl_since H0.out hb)
  replace H1 := Lib.hid (whl_since H1.out hb)
  replace H2 := Lib.hid (whl_since H2.out hb)
  replace HB := Lib.hid (HB.out.trans (hb.mono HB.out.size))
  replace IM := Lib.hid (ints_now IM.out hb)
  replace IL := Lib.hid (lines_now IL.out hb)
  replace ID := Lib.hid (ints_now ID.out hb)
  replace IT := Lib.hid (tchs_now IT.out hb)
  clear hb C6 t4 t5 t6 h7 h8 h9 hw4 hw5 hw6
  go_wp2_with fail
  refine (law_carried _).mono ?_
  rintro e w5 ⟨rfl, hb⟩
  replace H0 := Lib.hid (whl_since H0.out hb)
  replace H1 := Lib.hid (whl_since H1.out hb)
  replace H2 := Lib.hid (whl_since H2.out hb)
  replace HB := Lib.hid (HB.out.trans (hb.mono HB.out.size))
  replace IM := Lib.hid (ints_now IM.out hb)
  replace IL := Lib.hid (lines_now IL.out hb)
  replace ID := Lib.hid (ints_now ID.out hb)
  replace IT := Lib.hid (tchs_now IT.out hb)
  replace H7 := Lib.hid (whl_since H7.out hb)
  replace H8 := Lib.hid (whl_since H8.out hb)
  replace H9 := Lib.hid (whl_since H9.out hb)
  clear hb
  have f90 : w5.cell? ⟨w1.heap.size + 1 + 1, 0, none⟩ = some (.bool false) := (whl_cell H9.out 0).trans (by show some (Value.bool t.done) = _; rw [HDN.out])
  go_wp2_with fail
  refine (law_carried _).mono ?_
  rintro e w6 ⟨rfl, hb⟩
  have HE9 := Lib.hid (HB.out.trans (hb.mono HB.out.size))
  clear hb
  go_wp2
  go_ret
  exact ⟨rfl, HE9.out⟩
set_option maxRecDepth 100000 in
set_option maxHeartbeats 2000000 in
theorem dback_ok (xs : List Int) (b : Brg) (a : Ask) (M L AD : Option Addr) (nm mc n c nd cd : Nat) (w : World) (hm : Ints w w.heap.size M 512 xs) (hl : Lines w w.heap.size L n c b.cache) (hd : Ints w w.heap.size AD nd a.data) (hE : dmaE xs b (⟨a.dev, a.at_, a.count, true, a.data⟩ : Ask) = 0) (hdn : (dmaM xs b (⟨a.dev, a.at_, a.count, true, a.data⟩ : Ask)).2.2.done = true) :
    Calls Try.prog 10 #[.agg #[.slice M 512 mc], .agg #[.int .i64 b.mode, .int .i64 b.base, .slice L n c, .int .i64 b.orders.page, .int .i64 b.orders.head, .int .i64 b.orders.tail, .bool b.stopped, .int .i64 b.fences, .int .i64 b.faults.page, .int .i64 b.faults.head, .int .i64 b.faults.tail, .bool b.lost], .agg #[.int .i64 a.dev, .int .i64 a.at_, .int .i64 a.count, .bool a.wr, .slice AD nd cd]] w fun e w' => e = .returned (.bool true) ∧ Below w.heap.size w w' := by
  obtain ⟨ys, d, t, hA⟩ : ∃ ys d t, dmaA xs b (⟨a.dev, a.at_, a.count, true, a.data⟩ : Ask) = (ys, d, t) := ⟨_, _, _, rfl⟩
  obtain ⟨E, hEE⟩ : ∃ E, dmaE xs b (⟨a.dev, a.at_, a.count, true, a.data⟩ : Ask) = E := ⟨_, rfl⟩
  rw [hEE] at hE
  obtain ⟨na, hna⟩ : ∃ na, (if E = 0 then 512 else 0) = na := ⟨_, rfl⟩
  obtain rfl : na = 512 := by rw [← hna, if_pos hE]
  subst hE
  have hR : dmaM xs b (⟨a.dev, a.at_, a.count, true, a.data⟩ : Ask) = (ys, d, t) := by have h := hA; unfold dmaA at h; rw [hEE, if_pos rfl] at h; exact h
  have HR := Lib.hid hR
  have HDN := Lib.hid (show t.done = true by rw [hR] at hdn; exact hdn)
  clear hdn hR
  have HNA := Lib.hid hna
  have HA := Lib.hid hA
  have HEE := Lib.hid hEE
  have HM := Lib.hid hm
  have HL := Lib.hid hl
  have HD := Lib.hid hd
  clear hna hA hEE hm hl hd
  go_enter Try.func10, Try.ntmps10
  go_upto_region 1 with (fail)
  generalize hw0 : ((w.alloc (.cells #[.slice M 512 mc] 30)).alloc (.cells #[.int .i64 b.mode, .int .i64 b.base, .slice L n c, .int .i64 b.orders.page, .int .i64 b.orders.head, .int .i64 b.orders.tail, .bool b.stopped, .int .i64 b.fences, .int .i64 b.faults.page, .int .i64 b.faults.head, .int .i64 b.faults.tail, .bool b.lost] 37)).alloc (.cells #[.int .i64 a.dev, .int .i64 a.at_, .int .i64 a.count, .bool a.wr, .slice AD nd cd] 62) = wy
  have H0 := Lib.hid (show Whl wy w.heap.size 30 #[.slice M 512 mc] by rw [← hw0]; exact whl_alloc (whl_alloc (whl_new _ _ _ rfl) _) _)
  have H1 := Lib.hid (show Whl wy (w.heap.size + 1) 37 #[.int .i64 b.mode, .int .i64 b.base, .slice L n c, .int .i64 b.orders.page, .int .i64 b.orders.head, .int .i64 b.orders.tail, .bool b.stopped, .int .i64 b.fences, .int .i64 b.faults.page, .int .i64 b.faults.head, .int .i64 b.faults.tail, .bool b.lost] by rw [← hw0]; exact whl_alloc (whl_new _ _ _ (by simp)) _)
  have H2 := Lib.hid (show Whl wy (w.heap.size + 1 + 1) 62 #[.int .i64 a.dev, .int .i64 a.at_, .int .i64 a.count, .bool a.wr, .slice AD nd cd] by rw [← hw0]; exact whl_new _ _ _ (by simp))
  have HB := Lib.hid (show Below w.heap.size w wy by rw [← hw0]; (repeat (first | (with_reducible exact Below.refl _ _) | (with_reducible refine Below.drew ?_) | (with_reducible refine bdrewN ?_ _) | ((with_reducible refine Below.setCell ?_ ?_ _); rotate_left; exact (by first | (simp; done) | (simp; omega) | omega)) | ((with_reducible refine Below.alloc ?_ ?_ _); rotate_left; exact (by first | (simp; done) | (simp; omega) | omega)))))
  have hzya : wy.heap.size ≤ w.heap.size + 3 := by rw [← hw0]; simp
  have hzyb : w.heap.size + 3 ≤ wy.heap.size := by rw [← hw0]; simp
  clear hw0
  go_upto_region 2 with (refine wpList_store_cell rfl 4 (.tmp 28) (.const (.bool true)) rfl (w.heap.size + 1 + 1) 3 _ _ #[.int .i64 a.dev, .int .i64 a.at_, .int .i64 a.count, .bool true, .slice AD nd cd] (.bool true) rfl rfl H2.out Try.sizeBoolD (of_decide_eq_true rfl) rfl rfl ?_; intro w0 h2 t2)
  have hz0 := t2.2
  have hz0a : w0.heap.size ≤ w.heap.size + 3 := by omega
  have hz0b : w.heap.size + 3 ≤ w0.heap.size := by omega
  replace H2 := Lib.hid h2
  replace H0 := Lib.hid (whl_trn H0.out t2 (by omega))
  replace H1 := Lib.hid (whl_trn H1.out t2 (by omega))
  replace HB := Lib.hid (below_trn HB.out HB.out.size t2 (by omega))
  clear h2 t2 hz0 hzya hzyb
  go_wp2_with (first | (refine wpList_load_whl rfl 30 (.tmp 3) rfl (w.heap.size) _ _ rfl H0.out _ Try.underlying30 rfl Try.sizeMem ?_) | (refine wpList_load_whl rfl 37 (.tmp 4) rfl (w.heap.size + 1) _ _ rfl H1.out _ Try.underlying37 rfl Try.sizeBrg ?_) | (refine wpList_load_whl rfl 62 (.tmp 5) rfl (w.heap.size + 1 + 1) _ _ rfl H2.out _ Try.underlying62 rfl Try.sizeAsk ?_))
  refine (mdma_kD xs M 512 mc b L n c AD nd cd _ (ints_now HM.out HB.out) (lines_now HL.out HB.out) (⟨a.dev, a.at_, a.count, true, a.data⟩ : Ask) (ints_now HD.out HB.out) (ys, d, t) 0 512 HA.out HEE.out HNA.out).mono ?_
  rintro e w1 ⟨M1, mc1, L1, n1, c1, D1, dn1, dc1, T1, tn1, tc1, rfl, hm1, hl1, hd1, ht1, hb, fM, fL, fD, fT⟩
  have IM := Lib.hid hm1
  have IL := Lib.hid hl1
  have ID := Lib.hid hd1
  have IT := Lib.hid ht1
  have hz1 := hb.size
  replace H0 := Lib.hid (whl_since H0.out hb)
  replace H1 := Lib.hid (whl_since H1.out hb)
  replace H2 := Lib.hid (whl_since H2.out hb)
  replace HB := Lib.hid (HB.out.trans (hb.mono HB.out.size))
  clear hb hm1 hl1 hd1 ht1 fM fL fD fT
  go_upto_region 3 with (first
    | (refine wpList_store_all rfl 30 (.tmp 7) (.tmp 34) rfl (w1.heap.size) _ _ #[.slice M1 512 mc1] rfl rfl (whl_alloc (whl_alloc (whl_new w1 _ _ rfl) _) _) Try.sizeMem rfl rfl ?_; intro w2 h7 t4)
    | (refine wpList_store_all rfl 37 (.tmp 8) (.tmp 35) rfl (w1.heap.size + 1) _ _ #[.int .i64 d.mode, .int .i64 d.base, .slice L1 n1 c1, .int .i64 d.orders.page, .int .i64 d.orders.head, .int .i64 d.orders.tail, .bool d.stopped, .int .i64 d.fences, .int .i64 d.faults.page, .int .i64 d.faults.head, .int .i64 d.faults.tail, .bool d.lost] rfl rfl (whl_trn (whl_alloc (whl_new (w1.alloc _) _ _ (by simp)) _) t4 (by omega)) Try.sizeBrg rfl rfl ?_; intro w3 h8 t5)
    | (refine wpList_store_all rfl 65 (.tmp 9) (.tmp 36) rfl (w1.heap.size + 1 + 1) _ _ #[.bool t.done, .slice D1 dn1 dc1, .int .i64 t.fault, .slice T1 tn1 tc1] rfl rfl (whl_trn (whl_trn (whl_new ((w1.alloc _).alloc _) _ _ (by simp)) t4 (by omega)) t5 (by omega)) Try.sizeTold rfl rfl ?_; intro w4 h9 t6))
  have hw4 := t4.2
  have hw5 := t5.2
  have hw6 := t6.2
  (try simp only [World.size_alloc] at hw4)
  have hz4a : w4.heap.size ≤ w1.heap.size + 3 := by omega
  have hz4b : w1.heap.size + 3 ≤ w4.heap.size := by omega
  have C6 := chg_trans (chg_trans (chg_mono (Q := fun q => w1.heap.size ≤ q) t4.1 (fun q _ e => by omega)) (chg_mono t5.1 (fun q _ e => by omega))) (chg_mono t6.1 (fun q _ e => by omega))
  have hb : Below w1.heap.size w1 w4 := below_chg ((((Below.refl w1.heap.size w1).alloc (Nat.le_refl _) _).alloc (by simp) _).alloc (by simp; omega) _) (by simp; omega) C6 (fun q hq e => by omega)
  have H7 := Lib.hid (whl_trn (whl_trn h7 t5 (by omega)) t6 (by omega))
  have H8 := Lib.hid (whl_trn h8 t6 (by omega))
  have H9 := Lib.hid h9
  replace H0 := Lib.hid (whl_since H0.out hb)
  replace H1 := Lib.hid (whl_since H1.out hb)
  replace H2 := Lib.hid (whl_since H2.out hb)
  replace HB := Lib.hid (HB.out.trans (hb.mono HB.out.size))
  replace IM := Lib.hid (ints_now IM.out hb)
  replace IL := Lib.hid (lines_now IL.out hb)
  replace ID := Lib.hid (ints_now ID.out hb)
  replace IT := Lib.hid (tchs_now IT.out hb)
  clear hb C6 t4 t5 t6 h7 h8 h9 hw4 hw5 hw6
  go_wp2_with fail
  refine (law_carried _).mono ?_
  rintro e w5 ⟨rfl, hb⟩
  replace H0 := Lib.hid (whl_since H0.out hb)
  replace H1 := Lib.hid (whl_since H1.out hb)
  replace H2 := Lib.hid (whl_since H2.out hb)
  replace HB := Lib.hid (HB.out.trans (hb.mono HB.out.size))
  replace IM := Lib.hid (ints_now IM.out hb)
  replace IL := Lib.hid (lines_now IL.out hb)
  replace ID := Lib.hid (ints_now ID.out hb)
  replace IT := Lib.hid (tchs_now IT.out hb)
  replace H7 := Lib.hid (whl_since H7.out hb)
  replace H8 := Lib.hid (whl_since H8.out hb)
  replace H9 := Lib.hid (whl_since H9.out hb)
  clear hb
  have f90 : w5.cell? ⟨w1.heap.size + 1 + 1, 0, none⟩ = some (.bool true) := (whl_cell H9.out 0).trans (by show some (Value.bool t.done) = _; rw [HDN.out])
  have f93 : w5.cell? ⟨w1.heap.size + 1 + 1, 3, none⟩ = some (.slice T1 tn1 tc1) := whl_cell H9.out 3
  have hcapt := IT.out.cap
  have HTL := Lib.hid IT.out.len
  have hlt20 : tn1 ≤ 1000 := by
    have h1 := dma_lenD (xs := xs) (b := b) HEE.out
    rw [HR.out] at h1
    have h2 := (reqE_inv (dmaE_inv HEE.out).2.2).1
    have h3 := HTL.out
    (try simp only [] at h1 h2)
    omega
  have HH := Lib.hid (dma_held (xs := xs) (b := b) HEE.out)
  have hl9 : w1.heap.size + 1 + 1 < w5.heap.size := whl_lt H9.out
  have hmm := @run_makeMap Try.prog
  have hown0 := Lib.hid (World.ownsMap_made w5 Try.prog 3 heldR)
  go_upto_region 7 with (fail)
  clear f90 f93 hmm
  go_loopw [54] (fun s54 wr => ∃ k : Nat, k ≤ tn1 ∧ s54 = .int .i64 k ∧ Hid (ApT t.touched k) ∧ Hid (wr.ownsMap Try.prog 3 heldR w5.heap.size k (seenD (t.touched.take k))) ∧ Hid (Since w5 wr)) (fun s54 _ => tn1 - (intOf s54).toNat)
  case atStart => exact ⟨0, by omega, rfl, (fun i j x y hi => by omega), hown0.out, since_alloc (since_refl w5) _⟩
  case round =>
    clear hown0
    obtain ⟨k, hk, rfl, hap, hown, hs⟩ := hrel
    have HAP := Lib.hid hap.out
    have HOW := Lib.hid hown.out
    have HS := Lib.hid hs.out
    have hsz := hs.out.size
    clear hap hown hs
    by_cases hlt : k < tn1
    · obtain ⟨u, huk⟩ := some_of_lt t.touched (k := k) (by rw [HTL.out]; exact hlt)
      have HU := Lib.hid huk
      obtain ⟨b2, off2, rfl, hb2, hcc⟩ := (tchs_now IT.out HS.out).at_ (by omega)
      obtain ⟨e0, e1, e2, e3, e4⟩ := hcc k u huk
      have hrg := HH.out.held.tch
      rw [HR.out] at hrg
      have hat := (hrg k u huk).2.2.2.1
      have HKW := Lib.hid (WalkArith.wf_i64 (n := u.at_) (by omega))
      have HMF := Lib.hid (seenD_find (t.touched.take k) u.at_)
      have r1 : (0 : Int) ≤ (k : Int) := by omega
      have r2 : (k : Int) < (tn1 : Int) := by omega
      clear hcc huk hrg hat
      cases hany : (t.touched.take k).any (fun x => x.at_ == u.at_) with
      | true =>
        rw [hany] at HMF
        clear hany
        go_wp2_with (at_lookup; refine wpList_lookup_heldD _ rfl _ _ 87 rfl 3 4 Try.keyInt Try.underlying87 (Try.zeroSeenD _) w5.heap.size _ _ rfl (HOW.out.alloc _) _ (.int .i64 u.at_) rfl (keyOf_int_mk Try.underlying3 HKW.out) (.bool true) HMF.out ?_)
        go_ret
        exact ⟨rfl, HB.out.trans ((since_alloc HS.out _).mono HB.out.size)⟩
      | false =>
        rw [hany] at HMF
        have HNY := Lib.hid hany
        clear hany
        go_wp2_with (first
          | (at_lookup; refine wpList_lookup_heldD _ rfl _ _ 87 rfl 3 4 Try.keyInt Try.underlying87 (Try.zeroSeenD _) w5.heap.size _ _ rfl (HOW.out.alloc _) _ (.int .i64 u.at_) rfl (keyOf_int_mk Try.underlying3 HKW.out) (.bool false) HMF.out ?_)
          | (at_mapUpdate; refine wpList_mapUpdate_own _ rfl _ _ _ 87 rfl 3 4 Try.keyInt Try.underlying87 heldR w5.heap.size k _ rfl (HOW.out.alloc _) (by unfold maxLen; omega) _ _ (.int .i64 u.at_) rfl rfl (keyOf_int_mk Try.underlying3 HKW.out) (.held (.bool true)) [] rfl ?_; intro w' ho' hg'))
        go_roundw
        case rel =>
          refine ⟨k + 1, by omega, by go_num, apT_next HAP.out HU.out HNY.out, ?_, ?_⟩
          · show World.ownsMap _ _ _ _ _ _ _
            rw [seenD_succ HU.out]
            assumption
          · exact Below.grown (HS.out.alloc HS.out.size _) (by assumption) (by have := HS.out.size; simp; omega) (by intro q hq; cases hq; exact Nat.le_refl _)
        case measure => simp [intOf]; omega
    · obtain rfl : k = tn1 := by omega
      have hh4 : ¬ ((k : Int) < (k : Int)) := by omega
      obtain ⟨w6, hw6⟩ : ∃ w6, w6 = wr := ⟨_, rfl⟩
      subst hw6
      have hb := HS.out
      have HBACK := Lib.hid (dma_back (xs := xs) (b := b) (a := (⟨a.dev, a.at_, a.count, true, a.data⟩ : Ask)) HEE.out rfl (by rw [HR.out]; exact HDN.out) (by
        rw [HR.out]
        intro i j x y hx hy e
        have h1 := (List.getElem?_eq_some_iff.1 hx).1
        have h2 := (List.getElem?_eq_some_iff.1 hy).1
        have h3 := HTL.out
        (try simp only [] at h1 h2)
        exact HAP.out i j x y (by omega) (by omega) hx hy e))
      rw [HR.out] at HBACK
      have IT6 := Lib.hid (tchs_now IT.out hb)
      replace H2 := Lib.hid (whl_since H2.out hb)
      replace HB := Lib.hid (HB.out.trans (hb.mono HB.out.size))
      replace IM := Lib.hid (ints_now IM.out hb)
      replace IL := Lib.hid (lines_now IL.out hb)
      replace H7 := Lib.hid (whl_since H7.out hb)
      replace H8 := Lib.hid (whl_since H8.out hb)
      replace H9 := Lib.hid (whl_since H9.out hb)
      clear hb HOW HS HAP hlt
      have f93 : w6.cell? ⟨w1.heap.size + 1 + 1, 3, none⟩ = some (.slice T1 k tc1) := whl_cell H9.out 3
      go_upto_region 14 with (fail)
      clear f93 hh4
      -- what was written lies there
      have f70 : w6.cell? ⟨w1.heap.size, 0, none⟩ = some (.slice M1 512 mc1) := whl_cell H7.out 0
      go_loopw [69] (fun s69 wr => ∃ j : Nat, j ≤ k ∧ s69 = .int .i64 j ∧ Hid (Since w6 wr)) (fun s69 _ => k - (intOf s69).toNat)
      case atStart => exact ⟨0, by omega, rfl, since_refl w6⟩
      case round =>
        clear f70
        obtain ⟨j, hj, rfl, hs⟩ := hrel
        have HS := Lib.hid hs.out
        have hsz6 := hs.out.size
        clear hs
        by_cases hlt : j < k
        · obtain ⟨u, huk⟩ := some_of_lt t.touched (k := j) (by rw [HTL.out]; exact hlt)
          obtain ⟨b2, off2, rfl, hb2, hcc⟩ := (tchs_now IT6.out HS.out).at_ (by omega)
          obtain ⟨e0, e1, e2, e3, e4⟩ := hcc j u huk
          have hrg := HH.out.held.tch
          rw [HR.out] at hrg
          have hat := (hrg j u huk).2.2.2.1
          obtain ⟨v1, v2⟩ := hat
          have hwr := HBACK.out.1 j u huk
          have hml : ys.length = 512 := IM.out.1
          have hjn : j < nd := by
            have h2 := (reqE_inv (dmaE_inv HEE.out).2.2).2.2.1
            have h3 := dma_lenD (xs := xs) (b := b) HEE.out
            rw [HR.out] at h3
            unfold reqN at h2
            simp only [if_true] at h2 h3
            have h4 := HD.out.1
            have h5 := HTL.out
            omega
          have hm6 := ints_now IM.out HS.out
          have hd6 := ints_now HD.out (HB.out.trans (HS.out.mono HB.out.size))
          obtain ⟨bM, oM, rfl, hbM, hcM⟩ := hm6.2.2 (by rw [List.length_map, hml]; omega)
          obtain ⟨bD, oD, rfl, hbD, hcD⟩ := hd6.2.2 (by rw [List.length_map]; have := hd6.1; omega)
          have yM := hcM _ _ (rd_mapD' (xs := ys) (k := u.at_) v1 (by rw [hml]; omega))
          have yD := hcD j _ (rd_mapD (xs := a.data) (k := j) (by have := hd6.1; omega))
          (try simp only [] at hwr)
          rw [hwr] at yM
          have f7 : wr.cell? ⟨w1.heap.size, 0, none⟩ = some (.slice (some ⟨bM, oM, none⟩) 512 mc1) := whl_cell (whl_since H7.out HS.out) 0
          have fa4 : wr.cell? ⟨w.heap.size + 1 + 1, 4, none⟩ = some (.slice (some ⟨bD, oD, none⟩) nd cd) := whl_cell (whl_since H2.out HS.out) 4
          have l7 : w1.heap.size < wr.heap.size := by omega
          have l2 : w.heap.size + 1 + 1 < wr.heap.size := by omega
          have r1 : (0 : Int) ≤ (j : Int) := by omega
          have r2 : (j : Int) < (k : Int) := by omega
          have r3 : (j : Int) < (nd : Int) := by omega
          have r4 : u.at_ < 512 := by omega
          clear hcc huk hrg hwr hm6 hd6 hcM hcD
          go_upto_region 16 with (fail)
          go_quiet (fail)
          go_wp2
          go_roundw
          case rel => exact ⟨j + 1, by omega, by go_num, by first | exact since_alloc HS.out _ | exact (since_alloc HS.out _).drewN _ | exact bdrewN (since_alloc HS.out _) _⟩
          case measure => simp [intOf]; omega
        · obtain rfl : j = k := by omega
          have hh4 : ¬ ((j : Int) < (j : Int)) := by omega
          obtain ⟨w7, hw7⟩ : ∃ w7, w7 = wr := ⟨_, rfl⟩
          subst hw7
          have hb := HS.out
          have IT7 := Lib.hid (tchs_now IT6.out hb)
          replace H2 := Lib.hid (whl_since H2.out hb)
          replace HB := Lib.hid (HB.out.trans (hb.mono HB.out.size))
          replace IM := Lib.hid (ints_now IM.out hb)
          replace IL := Lib.hid (lines_now IL.out hb)
          replace H7 := Lib.hid (whl_since H7.out hb)
          replace H8 := Lib.hid (whl_since H8.out hb)
          replace H9 := Lib.hid (whl_since H9.out hb)
          clear hb HS hlt
          have f93 : w7.cell? ⟨w1.heap.size + 1 + 1, 3, none⟩ = some (.slice T1 j tc1) := whl_cell H9.out 3
          go_upto_region 20 with (fail)
          clear f93 hh4
          go_loopw [90] (fun s90 wr => ∃ i : Nat, i ≤ j ∧ s90 = .int .i64 i ∧ Hid (∀ (q : Nat) (x : Tch), q < i → t.touched[q]? = some x → (thruM ys { d with cache := [] } a.dev (x.seen / 8) false).2 = (x.at_ / 8, 0) ∧ (thruM ys d a.dev (x.seen / 8) false).2 = (x.at_ / 8, 0)) ∧ Hid (Since w7 wr)) (fun s90 _ => j - (intOf s90).toNat)
          case atStart => exact ⟨0, by omega, rfl, (fun q x hq => by omega), since_refl w7⟩
          case round =>
            obtain ⟨i, hi, rfl, hq, hs⟩ := hrel
            have HQ := Lib.hid hq.out
            have hb := hs.out
            have hsz7 := hs.out.size
            have HSW := Lib.hid hs.out
            have IT8 := Lib.hid (tchs_now IT7.out hb)
            replace H2 := Lib.hid (whl_since H2.out hb)
            replace HB := Lib.hid (HB.out.trans (hb.mono HB.out.size))
            replace IM := Lib.hid (ints_now IM.out hb)
            replace IL := Lib.hid (lines_now IL.out hb)
            replace H7 := Lib.hid (whl_since H7.out hb)
            replace H8 := Lib.hid (whl_since H8.out hb)
            replace H9 := Lib.hid (whl_since H9.out hb)
            clear hb hs hq
            by_cases hlt : i < j
            · obtain ⟨u, huk⟩ := some_of_lt t.touched (k := i) (by rw [HTL.out]; exact hlt)
              have HU := Lib.hid huk
              obtain ⟨b2, off2, rfl, hb2, hcc⟩ := IT8.out.at_ (by omega)
              obtain ⟨e0, e1, e2, e3, e4⟩ := hcc i u huk
              have hrg := HH.out.held.tch
              rw [HR.out] at hrg
              have hsn := (hrg i u huk).2.1
              have hat := (hrg i u huk).2.2.2.1
              obtain ⟨v1, v2⟩ := hat
              have hreq := (reqE_inv (dmaE_inv HEE.out).2.2).2.1
              unfold reqR at hreq
              have hct := (reqE_inv (dmaE_inv HEE.out).2.2).1
              have hln := dma_lenD (xs := xs) (b := b) HEE.out
              rw [HR.out] at hln
              have htl := HTL.out
              (try simp only [] at hreq hct hln hsn)
              have s1 : 0 ≤ u.seen := by omega
              have s2 : u.seen ≤ 511 := by omega
              have hin : inD a.dev (u.seen / 8) := by unfold inD; omega
              have hck := HH.out.ck
              rw [HR.out] at hck
              (try simp only [] at hck)
              have hcb0 : ckB { d with cache := [] } = 0 := by
                have h := (ckB_iff d).1 hck.2
                rw [ckB_iff]
                exact ⟨h.1, ckC_nil, h.2.2⟩
              obtain ⟨rb, ra, rf, hth⟩ : ∃ rb ra rf, thruM ys { d with cache := [] } a.dev (u.seen / 8) false = (rb, ra, rf) := ⟨_, _, _, rfl⟩
              obtain ⟨sb, sa, sf, hts⟩ : ∃ sb sa sf, thruM ys d a.dev (u.seen / 8) false = (sb, sa, sf) := ⟨_, _, _, rfl⟩
              have P1 := Lib.hid (show thruE ys { d with cache := [] } a.dev (u.seen / 8) = 0 by unfold thruE; rw [if_pos (allE_0 hck.1 hcb0), if_pos hin])
              have P2 := Lib.hid (show thruA ys { d with cache := [] } a.dev (u.seen / 8) false = (rb, ra, rf) by unfold thruA; rw [P1.out, if_pos rfl]; exact hth)
              have P3 := Lib.hid (show thruE ys d a.dev (u.seen / 8) = 0 by unfold thruE; rw [if_pos (allE_0 hck.1 hck.2), if_pos hin])
              have P4 := Lib.hid (show thruA ys d a.dev (u.seen / 8) false = (sb, sa, sf) by unfold thruA; rw [P3.out, if_pos rfl]; exact hts)
              have HT1 := Lib.hid hth
              have HT2 := Lib.hid hts
              have r1 : (0 : Int) ≤ (i : Int) := by omega
              have r2 : (i : Int) < (j : Int) := by omega
              clear hcc huk hrg hreq hct hln htl hin hck hcb0 hth hts hsn
              go_upto_region 22 with (fail)
              generalize hwb : wr.alloc (.cells #[.int .i64 u.dev, .int .i64 u.seen, .int .i64 u.at_, .bool u.wr, .int .i64 u.value] 24) = w8
              have HT8 := Lib.hid (show Whl w8 wr.heap.size 24 #[.int .i64 u.dev, .int .i64 u.seen, .int .i64 u.at_, .bool u.wr, .int .i64 u.value] by rw [← hwb]; exact whl_new _ _ _ rfl)
              have hb : Below wr.heap.size wr w8 := by rw [← hwb]; exact below_alloc _ _
              have hz8 : wr.heap.size + 1 ≤ w8.heap.size := by rw [← hwb]; simp
              replace HSW := Lib.hid (since_step hb HSW.out)
              replace H2 := Lib.hid (whl_since H2.out hb)
              replace HB := Lib.hid (HB.out.trans (hb.mono HB.out.size))
              replace IM := Lib.hid (ints_now IM.out hb)
              replace IL := Lib.hid (lines_now IL.out hb)
              replace H7 := Lib.hid (whl_since H7.out hb)
              replace H8 := Lib.hid (whl_since H8.out hb)
              replace H9 := Lib.hid (whl_since H9.out hb)
              clear hwb hb e0 e1 e2 e3 e4
              have fu1 : w8.cell? ⟨wr.heap.size, 1, none⟩ = some (.int .i64 u.seen) := whl_cell HT8.out 1
              have fa0 : w8.cell? ⟨w.heap.size + 1 + 1, 0, none⟩ = some (.int .i64 a.dev) := whl_cell H2.out 0
              go_wp2_with (first | (refine wpList_load_whl rfl 30 (.tmp 7) rfl (w1.heap.size) _ _ rfl H7.out _ Try.underlying30 rfl Try.sizeMem ?_) | (refine wpList_load_whl rfl 37 (.tmp 8) rfl ((w1.heap.size + 1)) _ _ rfl H8.out _ Try.underlying37 rfl Try.sizeBrg ?_))
              refine (bridge_Plain ys M1 512 mc1 d L1 n1 c1 a.dev (u.seen / 8) false rb ra rf 0 _ IM.out P2.out P1.out).mono ?_
              rintro e w9 ⟨rfl, hb⟩
              replace HT8 := Lib.hid (whl_since HT8.out hb)
              replace HSW := Lib.hid (since_step hb HSW.out)
              have hz9 := hb.size
              replace H2 := Lib.hid (whl_since H2.out hb)
              replace HB := Lib.hid (HB.out.trans (hb.mono HB.out.size))
              replace IM := Lib.hid (ints_now IM.out hb)
              replace IL := Lib.hid (lines_now IL.out hb)
              replace H7 := Lib.hid (whl_since H7.out hb)
              replace H8 := Lib.hid (whl_since H8.out hb)
              replace H9 := Lib.hid (whl_since H9.out hb)
              clear hb fu1 fa0
              have fu1 : w9.cell? ⟨wr.heap.size, 1, none⟩ = some (.int .i64 u.seen) := whl_cell HT8.out 1
              have fa0 : w9.cell? ⟨w.heap.size + 1 + 1, 0, none⟩ = some (.int .i64 a.dev) := whl_cell H2.out 0
              go_wp2_with (first | (refine wpList_load_whl rfl 30 (.tmp 7) rfl (w1.heap.size) _ _ rfl H7.out _ Try.underlying30 rfl Try.sizeMem ?_) | (refine wpList_load_whl rfl 37 (.tmp 8) rfl ((w1.heap.size + 1)) _ _ rfl H8.out _ Try.underlying37 rfl Try.sizeBrg ?_))
              refine (through_ans ys M1 512 mc1 d L1 n1 c1 a.dev (u.seen / 8) false sb sa sf 0 _ IM.out IL.out P4.out P3.out).mono ?_
              rintro e wa ⟨LA, na', ca', rfl, hla, hb, hnew⟩
              replace HT8 := Lib.hid (whl_since HT8.out hb)
              replace HSW := Lib.hid (since_step hb HSW.out)
              have hza := hb.size
              replace H2 := Lib.hid (whl_since H2.out hb)
              replace HB := Lib.hid (HB.out.trans (hb.mono HB.out.size))
              replace IM := Lib.hid (ints_now IM.out hb)
              replace IL := Lib.hid (lines_now IL.out hb)
              replace H7 := Lib.hid (whl_since H7.out hb)
              replace H8 := Lib.hid (whl_since H8.out hb)
              replace H9 := Lib.hid (whl_since H9.out hb)
              clear hb fu1 fa0 hla hnew
              go_upto_region 24 with (refine wpList_store_new rfl 37 (.tmp 21) (.tmp 115) rfl _ _ _ _ rfl rfl (by rfl) (by rfl) Try.sizeBrg rfl (by rfl) ?_)
              generalize hwb : wa.alloc (.cells #[.int .i64 sb.mode, .int .i64 sb.base, .slice LA na' ca', .int .i64 sb.orders.page, .int .i64 sb.orders.head, .int .i64 sb.orders.tail, .bool sb.stopped, .int .i64 sb.fences, .int .i64 sb.faults.page, .int .i64 sb.faults.head, .int .i64 sb.faults.tail, .bool sb.lost] 37) = wb
              have hb : Below wa.heap.size wa wb := by rw [← hwb]; exact below_alloc _ _
              replace HT8 := Lib.hid (whl_since HT8.out hb)
              replace HSW := Lib.hid (since_step hb HSW.out)
              have hzb := hb.size
              replace H2 := Lib.hid (whl_since H2.out hb)
              replace HB := Lib.hid (HB.out.trans (hb.mono HB.out.size))
              replace IM := Lib.hid (ints_now IM.out hb)
              replace IL := Lib.hid (lines_now IL.out hb)
              replace H7 := Lib.hid (whl_since H7.out hb)
              replace H8 := Lib.hid (whl_since H8.out hb)
              replace H9 := Lib.hid (whl_since H9.out hb)
              clear hb hwb
              have fu2 : wb.cell? ⟨wr.heap.size, 2, none⟩ = some (.int .i64 u.at_) := whl_cell HT8.out 2
              have r4 : u.at_ ≤ 511 := by omega
              have m3 : IntKind.i64.wrap (u.at_ / 8) = u.at_ / 8 := IntWalk.i64_in _ (by omega)
              by_cases hall : rf = 0 ∧ sf = 0 ∧ ra = u.at_ / 8 ∧ sa = ra
              · obtain ⟨a1, a2, a3, a4⟩ := hall
                have c1 : (rf != 0) = false := by rw [bne_eq_false_iff_eq]; exact a1
                have c2 : (sf != 0) = false := by rw [bne_eq_false_iff_eq]; exact a2
                have c3 : (ra != u.at_ / 8) = false := by rw [bne_eq_false_iff_eq]; exact a3
                have c4 : (sa != ra) = false := by rw [bne_eq_false_iff_eq]; exact a4
                have HX := Lib.hid (show (thruM ys { d with cache := [] } a.dev (u.seen / 8) false).2 = (u.at_ / 8, 0) ∧ (thruM ys d a.dev (u.seen / 8) false).2 = (u.at_ / 8, 0) by
                  rw [HT1.out, HT2.out]; exact ⟨by rw [a1, a3], by rw [a2, a4, a3]⟩)
                clear a1 a2 a3 a4
                go_wp2
                go_roundw
                case rel =>
                  refine ⟨i + 1, by omega, by go_num, ?_, HSW.out⟩
                  intro q x hq hx
                  by_cases e : q = i
                  · subst e; rw [HU.out] at hx; injection hx with hx; subst hx; exact HX.out
                  · exact HQ.out q x (by omega) hx
                case measure => simp [intOf]; omega
              · have HE9 := Lib.hid HB.out
                by_cases a1 : rf = 0
                rotate_left
                · have c1 : (rf != 0) = true := by rw [bne_iff_ne]; exact a1
                  clear hall a1
                  go_wp2
                  go_ret
                  exact ⟨rfl, HE9.out⟩
                have c1 : (rf != 0) = false := by rw [bne_eq_false_iff_eq]; exact a1
                by_cases a2 : sf = 0
                rotate_left
                · have c2 : (sf != 0) = true := by rw [bne_iff_ne]; exact a2
                  clear hall a1 a2
                  go_wp2
                  go_ret
                  exact ⟨rfl, HE9.out⟩
                have c2 : (sf != 0) = false := by rw [bne_eq_false_iff_eq]; exact a2
                by_cases a3 : ra = u.at_ / 8
                rotate_left
                · have c3 : (ra != u.at_ / 8) = true := by rw [bne_iff_ne]; exact a3
                  clear hall a1 a2 a3
                  go_wp2
                  go_ret
                  exact ⟨rfl, HE9.out⟩
                have c3 : (ra != u.at_ / 8) = false := by rw [bne_eq_false_iff_eq]; exact a3
                have c4 : (sa != ra) = true := by rw [bne_iff_ne]; intro e; exact hall ⟨a1, a2, a3, e⟩
                clear hall a1 a2 a3
                go_wp2
                go_ret
                exact ⟨rfl, HE9.out⟩
            · obtain rfl : i = j := by omega
              have hh4 : ¬ ((i : Int) < (i : Int)) := by omega
              clear hlt
              obtain ⟨k1, k2, k3⟩ := HBACK.out.2 (fun q x hx => HQ.out q x (by have h1 := (List.getElem?_eq_some_iff.1 hx).1; have := HTL.out; (try simp only [] at h1); omega) hx)
              have K1 := Lib.hid k1
              have K2 := Lib.hid k2
              have K3 := Lib.hid k3
              clear k1 k2 k3
              obtain ⟨zs, e, t2, hA2⟩ : ∃ zs e t2, dmaA ys d (askBack (⟨a.dev, a.at_, a.count, true, a.data⟩ : Ask)) = (zs, e, t2) := ⟨_, _, _, rfl⟩
              have HA2 := Lib.hid hA2
              have hR2 : dmaM ys d (askBack (⟨a.dev, a.at_, a.count, true, a.data⟩ : Ask)) = (zs, e, t2) := by have h := hA2; unfold dmaA at h; rw [if_pos K1.out] at h; exact h
              rw [hR2] at K2 K3
              clear hA2 hR2
              have fa0 : wr.cell? ⟨w.heap.size + 1 + 1, 0, none⟩ = some (.int .i64 a.dev) := whl_cell H2.out 0
              have fa1 : wr.cell? ⟨w.heap.size + 1 + 1, 1, none⟩ = some (.int .i64 a.at_) := whl_cell H2.out 1
              have fa2 : wr.cell? ⟨w.heap.size + 1 + 1, 2, none⟩ = some (.int .i64 a.count) := whl_cell H2.out 2
              go_wp2_with (first | (refine wpList_load_whl rfl 30 (.tmp 7) rfl (w1.heap.size) _ _ rfl H7.out _ Try.underlying30 rfl Try.sizeMem ?_) | (refine wpList_load_whl rfl 37 (.tmp 8) rfl ((w1.heap.size + 1)) _ _ rfl H8.out _ Try.underlying37 rfl Try.sizeBrg ?_))
              refine (mdma_kD ys M1 512 mc1 d L1 n1 c1 none 0 0 _ IM.out IL.out (askBack (⟨a.dev, a.at_, a.count, true, a.data⟩ : Ask)) ⟨rfl, by unfold maxLen; omega, Row.nil_⟩ (zs, e, t2) 0 512 HA2.out K1.out rfl).mono ?_
              rintro e' w8 ⟨M2, mc2, L2, n2, c2, D2, dn2, dc2, T2, tn2, tc2, rfl, hm2, hl2, hd2, ht2, hb, fM, fL, fD, fT⟩
              have JD := Lib.hid hd2
              have hz8 := hb.size
              replace H2 := Lib.hid (whl_since H2.out hb)
              replace HB := Lib.hid (HB.out.trans (hb.mono HB.out.size))
              replace IM := Lib.hid (ints_now IM.out hb)
              replace IL := Lib.hid (lines_now IL.out hb)
              replace H7 := Lib.hid (whl_since H7.out hb)
              replace H8 := Lib.hid (whl_since H8.out hb)
              replace H9 := Lib.hid (whl_since H9.out hb)
              clear hb hm2 hl2 hd2 ht2 fM fL fD fT fa0 fa1 fa2
              go_upto_region 30 with (first
                | (refine wpList_store_all rfl 30 (.tmp 25) (.tmp 155) rfl (w8.heap.size) _ _ #[.slice M2 512 mc2] rfl rfl (whl_alloc (whl_alloc (whl_new w8 _ _ rfl) _) _) Try.sizeMem rfl rfl ?_; intro wd h25 t4)
                | (refine wpList_store_all rfl 37 (.tmp 26) (.tmp 156) rfl (w8.heap.size + 1) _ _ #[.int .i64 e.mode, .int .i64 e.base, .slice L2 n2 c2, .int .i64 e.orders.page, .int .i64 e.orders.head, .int .i64 e.orders.tail, .bool e.stopped, .int .i64 e.fences, .int .i64 e.faults.page, .int .i64 e.faults.head, .int .i64 e.faults.tail, .bool e.lost] rfl rfl (whl_trn (whl_alloc (whl_new (w8.alloc _) _ _ (by simp)) _) t4 (by omega)) Try.sizeBrg rfl rfl ?_; intro we h26 t5)
                | (refine wpList_store_all rfl 65 (.tmp 27) (.tmp 157) rfl (w8.heap.size + 1 + 1) _ _ #[.bool t2.done, .slice D2 dn2 dc2, .int .i64 t2.fault, .slice T2 tn2 tc2] rfl rfl (whl_trn (whl_trn (whl_new ((w8.alloc _).alloc _) _ _ (by simp)) t4 (by omega)) t5 (by omega)) Try.sizeTold rfl rfl ?_; intro wf h27 t6))
              have hw4 := t4.2
              have hw5 := t5.2
              have hw6 := t6.2
              (try simp only [World.size_alloc] at hw4)
              have hz4a : wf.heap.size ≤ w8.heap.size + 3 := by omega
              have hz4b : w8.heap.size + 3 ≤ wf.heap.size := by omega
              have C6 := chg_trans (chg_trans (chg_mono (Q := fun q => w8.heap.size ≤ q) t4.1 (fun q _ e => by omega)) (chg_mono t5.1 (fun q _ e => by omega))) (chg_mono t6.1 (fun q _ e => by omega))
              have hb : Below w8.heap.size w8 wf := below_chg ((((Below.refl w8.heap.size w8).alloc (Nat.le_refl _) _).alloc (by simp) _).alloc (by simp; omega) _) (by simp; omega) C6 (fun q hq e => by omega)
              have H27 := Lib.hid h27
              replace JD := Lib.hid (ints_now JD.out hb)
              replace H2 := Lib.hid (whl_since H2.out hb)
              replace HB := Lib.hid (HB.out.trans (hb.mono HB.out.size))
              replace IM := Lib.hid (ints_now IM.out hb)
              replace IL := Lib.hid (lines_now IL.out hb)
              replace H7 := Lib.hid (whl_since H7.out hb)
              replace H8 := Lib.hid (whl_since H8.out hb)
              replace H9 := Lib.hid (whl_since H9.out hb)
              clear hb C6 t4 t5 t6 h25 h26 h27 hw4 hw5 hw6
              have f270 : wf.cell? ⟨w8.heap.size + 1 + 1, 0, none⟩ = some (.bool true) := (whl_cell H27.out 0).trans (by show some (Value.bool t2.done) = _; rw [K2.out])
              have f271 : wf.cell? ⟨w8.heap.size + 1 + 1, 1, none⟩ = some (.slice D2 dn2 dc2) := whl_cell H27.out 1
              have fa4 : wf.cell? ⟨w.heap.size + 1 + 1, 4, none⟩ = some (.slice AD nd cd) := whl_cell H2.out 4
              have HEQ := Lib.hid (show eqI t2.data a.data = true by rw [K3.out]; simp [eqI])
              go_wp2_with fail
              refine (sl_Equal _ _ _ _ _ _ t2.data a.data _ JD.out (ints_now HD.out HB.out)).mono ?_
              rw [HEQ.out]
              rintro e' wg ⟨rfl, hb⟩
              replace HB := Lib.hid (HB.out.trans (hb.mono HB.out.size))
              clear hb
              go_wp2
              go_ret
              exact ⟨rfl, HB.out⟩
end Go.Proofs.Ytbopdijnojaaiac
