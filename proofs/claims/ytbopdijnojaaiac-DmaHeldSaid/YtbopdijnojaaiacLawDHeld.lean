/- The walk of the law DmaHeld: no word of memory changes but those that are touched to write. The row is in another text. -/
import Derived.Test.YtbopdijnojaaiacCarried
import Derived.Test.YtbopdijnojaaiacMachQ
import Derived.Test.YtbopdijnojaaiacWh2
namespace Go.Proofs.Ytbopdijnojaaiac
open Go.RowKit
set_option linter.unusedSimpArgs false
set_option linter.unusedVariables false
attribute [local go_sem ↓] Go.wp_at_zero Go.wp_at_succ
theorem Try.neqRingT (x y : Ring) (w : World) : (binOp .neq 35 (.agg #[.int .i64 x.page, .int .i64 x.head, .int .i64 x.tail]) (.agg #[.int .i64 y.page, .int .i64 y.head, .int .i64 y.tail])).run Try.prog w = .ok (.bool (!ringEq x y)) w := by
  unfold ringEq
  simp [go_sem]
  repeat' split
  all_goals simp_all
theorem ringEq_tD (x y : Ring) : ringEq x y = decide (x = y) := by
  cases x; cases y; unfold ringEq; rw [Bool.eq_iff_iff]; simp [and_assoc]
theorem rd_atD {xs : List Int} {k : Int} {n : Nat} (hl : xs.length = n) (h0 : 0 ≤ k) (h1 : k < n) : xs[k.toNat]? = some (rd xs k) := by
  unfold rd
  rw [List.getElem?_eq_getElem (by omega)]
  rfl
theorem rd_mapD {xs : List Int} {k : Nat} (h : k < xs.length) : (xs.map (Value.int .i64))[k]? = some (.int .i64 (rd xs k)) := by
  rw [List.getElem?_map]
  have := rd_atD (k := (k : Int)) (n := xs.length) rfl (by omega) (by omega)
  rw [show ((k : Int)).toNat = k by omega] at this
  rw [this]; rfl
theorem rd_mapD' {xs : List Int} {k : Int} (h0 : 0 ≤ k) (h : k < xs.length) : (xs.map (Value.int .i64))[k.toNat]? = some (.int .i64 (rd xs k)) := by
  rw [List.getElem?_map, rd_atD rfl h0 h]; rfl
theorem set_rdD {xs : List Int} {k : Int} (h0 : 0 ≤ k) (h : k < xs.length) : xs.set k.toNat (rd xs k) = xs := by
  apply List.ext_getElem?
  intro i
  rw [List.getElem?_set]
  split
  · rename_i e; subst e
    rw [rd_atD rfl h0 h]
    rw [if_pos (by omega)]
  · rfl
theorem wantK_w {a : Ask} {xs : List Int} {ts : List Tch} {k : Nat} {u : Tch} (h : ts[k]? = some u) (hw : u.wr = true) : wantK a xs ts (k + 1) = (wantK a xs ts k).set u.at_.toNat (rd a.data k) := by
  show (match ts[k]? with | some x => _ | none => _) = _
  rw [h]; simp only []; rw [if_pos hw]
theorem wantK_r {a : Ask} {xs : List Int} {ts : List Tch} {k : Nat} {u : Tch} (h : ts[k]? = some u) (hw : u.wr = false) : wantK a xs ts (k + 1) = wantK a xs ts k := by
  show (match ts[k]? with | some x => _ | none => _) = _
  rw [h]; simp only []; rw [if_neg (by rw [hw]; decide)]
theorem dGo_len20 {a : Ask} : ∀ (n i : Nat) (s : Dst), s.touched.length ≤ i → (dGo a n i s).2.2.touched.length ≤ i + n := by
  intro n
  induction n with
  | zero => intro i s h; exact h
  | succ n ih =>
    intro i s h
    unfold dGo
    split
    · have := ih (i + 1) (dWord a i s) (by show (s.touched ++ [_]).length ≤ _; rw [List.length_append]; simp; omega); omega
    · split
      · have := ih (i + 1) (dWord a i (dNext a i s)) (by show (s.touched ++ [_]).length ≤ _; rw [List.length_append]; simp; omega); omega
      · show s.touched.length ≤ _; omega
theorem dma_len20 {xs : List Int} {b : Brg} {a : Ask} (h : dmaE xs b a = 0) : (dmaM xs b a).2.2.touched.length ≤ 1000 := by
  have hc := (reqE_inv (dmaE_inv h).2.2).1
  have := dGo_len20 (a := a) a.count.toNat 0 ⟨xs, b, [], [], 0, -1⟩ (Nat.le_refl _)
  unfold dmaM
  omega
theorem dma_lenD {xs : List Int} {b : Brg} {a : Ask} (h : dmaE xs b a = 0) : ((dmaM xs b a).2.2.touched.length : Int) ≤ a.count := by
  have hc := (reqE_inv (dmaE_inv h).2.2).1
  have := dGo_len20 (a := a) a.count.toNat 0 ⟨xs, b, [], [], 0, -1⟩ (Nat.le_refl _)
  unfold dmaM
  omega
theorem mdma_kD (xs : List Int) (m : Option Addr) (nm mc : Nat) (b : Brg) (A0 : Option Addr) (n0 c0 : Nat) (AD : Option Addr) (nd cd : Nat) (w : World) (hx : Ints w w.heap.size m nm xs) (hl : Lines w w.heap.size A0 n0 c0 b.cache) (a : Ask) (hd : Ints w w.heap.size AD nd a.data) (R : List Int × Brg × Tld) (E : Int) (k : Nat) (hR : dmaA xs b a = R) (hE : dmaE xs b a = E) (hk : (if E = 0 then 512 else 0) = k) :
    Calls Try.prog 30 #[.agg #[.slice m nm mc], .agg #[.int .i64 b.mode, .int .i64 b.base, .slice A0 n0 c0, .int .i64 b.orders.page, .int .i64 b.orders.head, .int .i64 b.orders.tail, .bool b.stopped, .int .i64 b.fences, .int .i64 b.faults.page, .int .i64 b.faults.head, .int .i64 b.faults.tail, .bool b.lost], .agg #[.int .i64 a.dev, .int .i64 a.at_, .int .i64 a.count, .bool a.wr, .slice AD nd cd]] w (DoC w k R E) := by
  subst hk; exact dma_ans xs m nm mc b A0 n0 c0 AD nd cd w hx hl a hd R E hR hE
set_option maxRecDepth 100000 in
set_option maxHeartbeats 4000000 in
theorem dheld_no (xs : List Int) (b : Brg) (a : Ask) (M L AD : Option Addr) (nm mc n c nd cd : Nat) (w : World) (hm : Ints w w.heap.size M nm xs) (hl : Lines w w.heap.size L n c b.cache) (hd : Ints w w.heap.size AD nd a.data) (hE : dmaE xs b a ≠ 0) :
    Calls Try.prog 7 #[.agg #[.slice M nm mc], .agg #[.int .i64 b.mode, .int .i64 b.base, .slice L n c, .int .i64 b.orders.page, .int .i64 b.orders.head, .int .i64 b.orders.tail, .bool b.stopped, .int .i64 b.fences, .int .i64 b.faults.page, .int .i64 b.faults.head, .int .i64 b.faults.tail, .bool b.lost], .agg #[.int .i64 a.dev, .int .i64 a.at_, .int .i64 a.count, .bool a.wr, .slice AD nd cd]] w fun e w' => e = .returned (.bool true) ∧ Below w.heap.size w w' := by
  obtain ⟨ys, d, t, hA⟩ : ∃ ys d t, dmaA xs b a = (ys, d, t) := ⟨_, _, _, rfl⟩
  obtain ⟨E, hEE⟩ : ∃ E, dmaE xs b a = E := ⟨_, rfl⟩
  rw [hEE] at hE
  obtain ⟨na, hna⟩ : ∃ na, (if E = 0 then 512 else 0) = na := ⟨_, rfl⟩
  have HNA := Lib.hid hna
  have HA := Lib.hid hA
  have HEE := Lib.hid hEE
  have HM := Lib.hid hm
  have HL := Lib.hid hl
  have HD := Lib.hid hd
  clear hna hA hEE hm hl hd
  have HE := Lib.hid hE
  clear hE
  go_enter Try.func7, Try.ntmps7
  go_upto_region 1 with (fail)
  generalize hw0 : ((w.alloc (.cells #[.slice M nm mc] 30)).alloc (.cells #[.int .i64 b.mode, .int .i64 b.base, .slice L n c, .int .i64 b.orders.page, .int .i64 b.orders.head, .int .i64 b.orders.tail, .bool b.stopped, .int .i64 b.fences, .int .i64 b.faults.page, .int .i64 b.faults.head, .int .i64 b.faults.tail, .bool b.lost] 37)).alloc (.cells #[.int .i64 a.dev, .int .i64 a.at_, .int .i64 a.count, .bool a.wr, .slice AD nd cd] 62) = w0
  have H0 := Lib.hid (show Whl w0 w.heap.size 30 #[.slice M nm mc] by rw [← hw0]; exact whl_alloc (whl_alloc (whl_new _ _ _ rfl) _) _)
  have H1 := Lib.hid (show Whl w0 (w.heap.size + 1) 37 #[.int .i64 b.mode, .int .i64 b.base, .slice L n c, .int .i64 b.orders.page, .int .i64 b.orders.head, .int .i64 b.orders.tail, .bool b.stopped, .int .i64 b.fences, .int .i64 b.faults.page, .int .i64 b.faults.head, .int .i64 b.faults.tail, .bool b.lost] by rw [← hw0]; exact whl_alloc (whl_new _ _ _ (by simp)) _)
  have H2 := Lib.hid (show Whl w0 (w.heap.size + 1 + 1) 62 #[.int .i64 a.dev, .int .i64 a.at_, .int .i64 a.count, .bool a.wr, .slice AD nd cd] by rw [← hw0]; exact whl_new _ _ _ (by simp))
  have HB := Lib.hid (show Below w.heap.size w w0 by rw [← hw0]; (repeat (first | (with_reducible exact Below.refl _ _) | (with_reducible refine Below.drew ?_) | (with_reducible refine bdrewN ?_ _) | ((with_reducible refine Below.setCell ?_ ?_ _); rotate_left; exact (by first | (simp; done) | (simp; omega) | omega)) | ((with_reducible refine Below.alloc ?_ ?_ _); rotate_left; exact (by first | (simp; done) | (simp; omega) | omega)))))
  have hz0a : w0.heap.size ≤ w.heap.size + 3 := by rw [← hw0]; simp
  have hz0b : w.heap.size + 3 ≤ w0.heap.size := by rw [← hw0]; simp
  clear hw0
  go_wp2_with (first | (refine wpList_load_whl rfl 30 (.tmp 3) rfl (w.heap.size) _ _ rfl H0.out _ Try.underlying30 rfl Try.sizeMem ?_) | (refine wpList_load_whl rfl 37 (.tmp 4) rfl (w.heap.size + 1) _ _ rfl H1.out _ Try.underlying37 rfl Try.sizeBrg ?_) | (refine wpList_load_whl rfl 62 (.tmp 5) rfl (w.heap.size + 1 + 1) _ _ rfl H2.out _ Try.underlying62 rfl Try.sizeAsk ?_))
  refine (mdma_kD xs M nm mc b L n c AD nd cd _ (ints_now HM.out HB.out) (lines_now HL.out HB.out) a (ints_now HD.out HB.out) (ys, d, t) E na HA.out HEE.out HNA.out).mono ?_
  rintro e w1 ⟨M1, mc1, L1, n1, c1, D1, dn1, dc1, T1, tn1, tc1, rfl, hm1, hl1, hd1, ht1, hb, fM, fL, fD, fT⟩
  have IM := Lib.hid hm1
  have IL := Lib.hid hl1
  have ID := Lib.hid hd1
  have IT := Lib.hid ht1
  have FM := Lib.hid fM
  have FL := Lib.hid fL
  have FD := Lib.hid fD
  have FT := Lib.hid fT
  have hz1 := hb.size
  replace H0 := Lib.hid (whl_since H0.out hb)
  replace H1 := Lib.hid (whl_since H1.out hb)
  replace H2 := Lib.hid (whl_since H2.out hb)
  replace HB := Lib.hid (HB.out.trans (hb.mono HB.out.size))
  clear hb hm1 hl1 hd1 ht1 fM fL fD fT
  go_upto_region 2 with (first
    | (refine wpList_store_all rfl 30 (.tmp 7) (.tmp 19) rfl (w1.heap.size) _ _ #[.slice M1 na mc1] rfl rfl (whl_alloc (whl_alloc (whl_new w1 _ _ rfl) _) _) Try.sizeMem rfl rfl ?_; intro w2 h7 t4)
    | (refine wpList_store_all rfl 37 (.tmp 8) (.tmp 20) rfl (w1.heap.size + 1) _ _ #[.int .i64 d.mode, .int .i64 d.base, .slice L1 n1 c1, .int .i64 d.orders.page, .int .i64 d.orders.head, .int .i64 d.orders.tail, .bool d.stopped, .int .i64 d.fences, .int .i64 d.faults.page, .int .i64 d.faults.head, .int .i64 d.faults.tail, .bool d.lost] rfl rfl (whl_trn (whl_alloc (whl_new (w1.alloc _) _ _ (by simp)) _) t4 (by omega)) Try.sizeBrg rfl rfl ?_; intro w3 h8 t5)
    | (refine wpList_store_all rfl 65 (.tmp 9) (.tmp 21) rfl (w1.heap.size + 1 + 1) _ _ #[.bool t.done, .slice D1 dn1 dc1, .int .i64 t.fault, .slice T1 tn1 tc1] rfl rfl (whl_trn (whl_trn (whl_new ((w1.alloc _).alloc _) _ _ (by simp)) t4 (by omega)) t5 (by omega)) Try.sizeTold rfl rfl ?_; intro w4 h9 t6))
  have hw4 := t4.2
  have hw5 := t5.2
  have hw6 := t6.2
  (try simp only [World.size_alloc] at hw4)
  have hz4a : w4.heap.size ≤ w1.heap.size + 3 := by omega
  have hz4b : w1.heap.size + 3 ≤ w4.heap.size := by omega
  have C6 := chg_trans (chg_trans (chg_mono (Q := fun q => w1.heap.size ≤ q) t4.1 (fun q _ e => by omega)) (chg_mono t5.1 (fun q _ e => by omega))) (chg_mono t6.1 (fun q _ e => by omega))
  have hb : Below w1.heap.size w1 w4 := below_chg ((((Below.refl w1.heap.size w1).alloc (Nat.le_refl _) _).alloc (by simp) _).alloc (by simp; omega) _) (by simp; omega) C6 (fun q hq e => by omega)
  have H7 := Lib.hid (whl_trn (whl_trn h7 t5 (by omega)) t6 (by omega))
  have H8 := Lib.hid (whl_trn h8 t6 (by omega))
  have H9 := Lib.hid h9
  replace H0 := Lib.hid (whl_since H0.out hb)
  replace H1 := Lib.hid (whl_since H1.out hb)
  replace H2 := Lib.hid (whl_since H2.out hb)
  replace HB := Lib.hid (HB.out.trans (hb.mono HB.out.size))
  replace IM := Lib.hid (ints_now IM.out hb)
  replace IL := Lib.hid (lines_now IL.out hb)
  replace ID := Lib.hid (ints_now ID.out hb)
  replace IT := Lib.hid (tchs_now IT.out hb)
  clear hb C6 t4 t5 t6 h7 h8 h9 hw4 hw5 hw6
  go_wp2_with fail
  refine (law_carried _).mono ?_
  rintro e w5 ⟨rfl, hb⟩
  replace H0 := Lib.hid (whl_since H0.out hb)
  replace H1 := Lib.hid (whl_since H1.out hb)
  replace H2 := Lib.hid (whl_since H2.out hb)
  replace HB := Lib.hid (HB.out.trans (hb.mono HB.out.size))
  replace IM := Lib.hid (ints_now IM.out hb)
  replace IL := Lib.hid (lines_now IL.out hb)
  replace ID := Lib.hid (ints_now ID.out hb)
  replace IT := Lib.hid (tchs_now IT.out hb)
  replace H7 := Lib.hid (whl_since H7.out hb)
  replace H8 := Lib.hid (whl_since H8.out hb)
  replace H9 := Lib.hid (whl_since H9.out hb)
  clear hb
  have t0 : (E != 0) = true := by rw [bne_iff_ne]; exact HE.out
  go_wp2_with fail
  refine (law_carried _).mono ?_
  rintro e w6 ⟨rfl, hb⟩
  have HE9 := Lib.hid (HB.out.trans (hb.mono HB.out.size))
  clear hb
  go_wp2
  go_ret
  exact ⟨rfl, HE9.out⟩
set_option maxRecDepth 100000 in
set_option maxHeartbeats 4000000 in
theorem dheld_ok (xs : List Int) (b : Brg) (a : Ask) (M L AD : Option Addr) (nm mc n c nd cd : Nat) (w : World) (hm : Ints w w.heap.size M 512 xs) (hl : Lines w w.heap.size L n c b.cache) (hd : Ints w w.heap.size AD nd a.data) (hE : dmaE xs b a = 0) :
    Calls Try.prog 7 #[.agg #[.slice M 512 mc], .agg #[.int .i64 b.mode, .int .i64 b.base, .slice L n c, .int .i64 b.orders.page, .int .i64 b.orders.head, .int .i64 b.orders.tail, .bool b.stopped, .int .i64 b.fences, .int .i64 b.faults.page, .int .i64 b.faults.head, .int .i64 b.faults.tail, .bool b.lost], .agg #[.int .i64 a.dev, .int .i64 a.at_, .int .i64 a.count, .bool a.wr, .slice AD nd cd]] w fun e w' => e = .returned (.bool true) ∧ Below w.heap.size w w' := by
  obtain ⟨ys, d, t, hA⟩ : ∃ ys d t, dmaA xs b a = (ys, d, t) := ⟨_, _, _, rfl⟩
  obtain ⟨E, hEE⟩ : ∃ E, dmaE xs b a = E := ⟨_, rfl⟩
  rw [hEE] at hE
  obtain ⟨na, hna⟩ : ∃ na, (if E = 0 then 512 else 0) = na := ⟨_, rfl⟩
  obtain rfl : na = 512 := by rw [← hna, if_pos hE]
  subst hE
  have HNA := Lib.hid hna
  have HA := Lib.hid hA
  have HEE := Lib.hid hEE
  have HM := Lib.hid hm
  have HL := Lib.hid hl
  have HD := Lib.hid hd
  clear hna hA hEE hm hl hd
  go_enter Try.func7, Try.ntmps7
  go_upto_region 1 with (fail)
  generalize hw0 : ((w.alloc (.cells #[.slice M 512 mc] 30)).alloc (.cells #[.int .i64 b.mode, .int .i64 b.base, .slice L n c, .int .i64 b.orders.page, .int .i64 b.orders.head, .int .i64 b.orders.tail, .bool b.stopped, .int .i64 b.fences, .int .i64 b.faults.page, .int .i64 b.faults.head, .int .i64 b.faults.tail, .bool b.lost] 37)).alloc (.cells #[.int .i64 a.dev, .int .i64 a.at_, .int .i64 a.count, .bool a.wr, .slice AD nd cd] 62) = w0
  have H0 := Lib.hid (show Whl w0 w.heap.size 30 #[.slice M 512 mc] by rw [← hw0]; exact whl_alloc (whl_alloc (whl_new _ _ _ rfl) _) _)
  have H1 := Lib.hid (show Whl w0 (w.heap.size + 1) 37 #[.int .i64 b.mode, .int .i64 b.base, .slice L n c, .int .i64 b.orders.page, .int .i64 b.orders.head, .int .i64 b.orders.tail, .bool b.stopped, .int .i64 b.fences, .int .i64 b.faults.page, .int .i64 b.faults.head, .int .i64 b.faults.tail, .bool b.lost] by rw [← hw0]; exact whl_alloc (whl_new _ _ _ (by simp)) _)
  have H2 := Lib.hid (show Whl w0 (w.heap.size + 1 + 1) 62 #[.int .i64 a.dev, .int .i64 a.at_, .int .i64 a.count, .bool a.wr, .slice AD nd cd] by rw [← hw0]; exact whl_new _ _ _ (by simp))
  have HB := Lib.hid (show Below w.heap.size w w0 by rw [← hw0]; (repeat (first | (with_reducible exact Below.refl _ _) | (with_reducible refine Below.drew ?_) | (with_reducible refine bdrewN ?_ _) | ((with_reducible refine Below.setCell ?_ ?_ _); rotate_left; exact (by first | (simp; done) | (simp; omega) | omega)) | ((with_reducible refine Below.alloc ?_ ?_ _); rotate_left; exact (by first | (simp; done) | (simp; omega) | omega)))))
  have hz0a : w0.heap.size ≤ w.heap.size + 3 := by rw [← hw0]; simp
  have hz0b : w.heap.size + 3 ≤ w0.heap.size := by rw [← hw0]; simp
  clear hw0
  go_wp2_with (first | (refine wpList_load_whl rfl 30 (.tmp 3) rfl (w.heap.size) _ _ rfl H0.out _ Try.underlying30 rfl Try.sizeMem ?_) | (refine wpList_load_whl rfl 37 (.tmp 4) rfl (w.heap.size + 1) _ _ rfl H1.out _ Try.underlying37 rfl Try.sizeBrg ?_) | (refine wpList_load_whl rfl 62 (.tmp 5) rfl (w.heap.size + 1 + 1) _ _ rfl H2.out _ Try.underlying62 rfl Try.sizeAsk ?_))
  refine (mdma_kD xs M 512 mc b L n c AD nd cd _ (ints_now HM.out HB.out) (lines_now HL.out HB.out) a (ints_now HD.out HB.out) (ys, d, t) 0 512 HA.out HEE.out HNA.out).mono ?_
  rintro e w1 ⟨M1, mc1, L1, n1, c1, D1, dn1, dc1, T1, tn1, tc1, rfl, hm1, hl1, hd1, ht1, hb, fM, fL, fD, fT⟩
  have IM := Lib.hid hm1
  have IL := Lib.hid hl1
  have ID := Lib.hid hd1
  have IT := Lib.hid ht1
  have FM := Lib.hid fM
  have FL := Lib.hid fL
  have FD := Lib.hid fD
  have FT := Lib.hid fT
  have hz1 := hb.size
  replace H0 := Lib.hid (whl_since H0.out hb)
  replace H1 := Lib.hid (whl_since H1.out hb)
  replace H2 := Lib.hid (whl_since H2.out hb)
  replace HB := Lib.hid (HB.out.trans (hb.mono HB.out.size))
  clear hb hm1 hl1 hd1 ht1 fM fL fD fT
  go_upto_region 2 with (first
    | (refine wpList_store_all rfl 30 (.tmp 7) (.tmp 19) rfl (w1.heap.size) _ _ #[.slice M1 512 mc1] rfl rfl (whl_alloc (whl_alloc (whl_new w1 _ _ rfl) _) _) Try.sizeMem rfl rfl ?_; intro w2 h7 t4)
    | (refine wpList_store_all rfl 37 (.tmp 8) (.tmp 20) rfl (w1.heap.size + 1) _ _ #[.int .i64 d.mode, .int .i64 d.base, .slice L1 n1 c1, .int .i64 d.orders.page, .int .i64 d.orders.head, .int .i64 d.orders.tail, .bool d.stopped, .int .i64 d.fences, .int .i64 d.faults.page, .int .i64 d.faults.head, .int .i64 d.faults.tail, .bool d.lost] rfl rfl (whl_trn (whl_alloc (whl_new (w1.alloc _) _ _ (by simp)) _) t4 (by omega)) Try.sizeBrg rfl rfl ?_; intro w3 h8 t5)
    | (refine wpList_store_all rfl 65 (.tmp 9) (.tmp 21) rfl (w1.heap.size + 1 + 1) _ _ #[.bool t.done, .slice D1 dn1 dc1, .int .i64 t.fault, .slice T1 tn1 tc1] rfl rfl (whl_trn (whl_trn (whl_new ((w1.alloc _).alloc _) _ _ (by simp)) t4 (by omega)) t5 (by omega)) Try.sizeTold rfl rfl ?_; intro w4 h9 t6))
  have hw4 := t4.2
  have hw5 := t5.2
  have hw6 := t6.2
  (try simp only [World.size_alloc] at hw4)
  have hz4a : w4.heap.size ≤ w1.heap.size + 3 := by omega
  have hz4b : w1.heap.size + 3 ≤ w4.heap.size := by omega
  have C6 := chg_trans (chg_trans (chg_mono (Q := fun q => w1.heap.size ≤ q) t4.1 (fun q _ e => by omega)) (chg_mono t5.1 (fun q _ e => by omega))) (chg_mono t6.1 (fun q _ e => by omega))
  have hb : Below w1.heap.size w1 w4 := below_chg ((((Below.refl w1.heap.size w1).alloc (Nat.le_refl _) _).alloc (by simp) _).alloc (by simp; omega) _) (by simp; omega) C6 (fun q hq e => by omega)
  have H7 := Lib.hid (whl_trn (whl_trn h7 t5 (by omega)) t6 (by omega))
  have H8 := Lib.hid (whl_trn h8 t6 (by omega))
  have H9 := Lib.hid h9
  replace H0 := Lib.hid (whl_since H0.out hb)
  replace H1 := Lib.hid (whl_since H1.out hb)
  replace H2 := Lib.hid (whl_since H2.out hb)
  replace HB := Lib.hid (HB.out.trans (hb.mono HB.out.size))
  replace IM := Lib.hid (ints_now IM.out hb)
  replace IL := Lib.hid (lines_now IL.out hb)
  replace ID := Lib.hid (ints_now ID.out hb)
  replace IT := Lib.hid (tchs_now IT.out hb)
  clear hb C6 t4 t5 t6 h7 h8 h9 hw4 hw5 hw6
  go_wp2_with fail
  refine (law_carried _).mono ?_
  rintro e w5 ⟨rfl, hb⟩
  replace H0 := Lib.hid (whl_since H0.out hb)
  replace H1 := Lib.hid (whl_since H1.out hb)
  replace H2 := Lib.hid (whl_since H2.out hb)
  replace HB := Lib.hid (HB.out.trans (hb.mono HB.out.size))
  replace IM := Lib.hid (ints_now IM.out hb)
  replace IL := Lib.hid (lines_now IL.out hb)
  replace ID := Lib.hid (ints_now ID.out hb)
  replace IT := Lib.hid (tchs_now IT.out hb)
  replace H7 := Lib.hid (whl_since H7.out hb)
  replace H8 := Lib.hid (whl_since H8.out hb)
  replace H9 := Lib.hid (whl_since H9.out hb)
  clear hb
  have hl9 : w1.heap.size + 1 + 1 < w5.heap.size := whl_lt H9.out
  have f0 := fun o => whl_cell H0.out o
  go_wp2_with fail
  clear f0
  refine (sl_Clone M 512 mc xs _ (ints_now HM.out HB.out) (by decide) (by decide)).mono ?_
  rintro e w6 ⟨A2, c2, rfl, ho, hb⟩
  obtain ⟨g2, rfl, hg1, hg2, _⟩ := own_cells ho (by decide)
  have RT := Lib.hid (rowIn_tchs IT.out)
  have RD := Lib.hid (rowIn_ints ID.out)
  have RA := Lib.hid (rowIn_ints HD.out)
  have RM := Lib.hid (rowIn_ints IM.out)
  have RL := Lib.hid (rowIn_lines IL.out)
  have hz5 := HB.out.size
  replace H0 := Lib.hid (whl_since H0.out hb)
  replace H1 := Lib.hid (whl_since H1.out hb)
  replace H2 := Lib.hid (whl_since H2.out hb)
  replace HB := Lib.hid (HB.out.trans (hb.mono HB.out.size))
  replace IM := Lib.hid (ints_now IM.out hb)
  replace IL := Lib.hid (lines_now IL.out hb)
  replace ID := Lib.hid (ints_now ID.out hb)
  replace IT := Lib.hid (tchs_now IT.out hb)
  replace H7 := Lib.hid (whl_since H7.out hb)
  replace H8 := Lib.hid (whl_since H8.out hb)
  replace H9 := Lib.hid (whl_since H9.out hb)
  have HO := Lib.hid ho
  have hz6 := hb.size
  clear ho hb
  go_upto_region 5 with (fail)
  generalize hwb : w6.alloc (.cells #[.slice (some ⟨g2, 0, none⟩) 512 c2] 30) = w7
  have H11 := Lib.hid (show Whl w7 w6.heap.size 30 #[.slice (some ⟨g2, 0, none⟩) 512 c2] by rw [← hwb]; exact whl_new _ _ _ rfl)
  have hb : Below w6.heap.size w6 w7 := by rw [← hwb]; exact below_alloc _ _
  replace HO := Lib.hid (show OwnI w5.heap.size w7 (some ⟨g2, 0, none⟩) 512 c2 xs by rw [← hwb]; exact HO.out.alloc _)
  have hz7 := hb.size
  replace H0 := Lib.hid (whl_since H0.out hb)
  replace H1 := Lib.hid (whl_since H1.out hb)
  replace H2 := Lib.hid (whl_since H2.out hb)
  replace HB := Lib.hid (HB.out.trans (hb.mono HB.out.size))
  replace IM := Lib.hid (ints_now IM.out hb)
  replace IL := Lib.hid (lines_now IL.out hb)
  replace ID := Lib.hid (ints_now ID.out hb)
  replace IT := Lib.hid (tchs_now IT.out hb)
  replace H7 := Lib.hid (whl_since H7.out hb)
  replace H8 := Lib.hid (whl_since H8.out hb)
  replace H9 := Lib.hid (whl_since H9.out hb)
  clear hb hwb
  have HH := Lib.hid (dma_held (xs := xs) (b := b) (a := a) HEE.out)
  have HR := Lib.hid (show dmaM xs b a = (ys, d, t) by have h := HA.out; unfold dmaA at h; rw [HEE.out, if_pos rfl] at h; exact h)
  have hcapt := IT.out.cap
  have HTL := Lib.hid IT.out.len
  have f93 : w7.cell? ⟨w1.heap.size + 1 + 1, 3, none⟩ = some (.slice T1 tn1 tc1) := whl_cell H9.out 3
  go_upto_region 6 with (fail)
  clear f93
  go_loopw [37] (fun s37 wr => ∃ k : Nat, k ≤ tn1 ∧ s37 = .int .i64 k ∧ Hid (OwnI w5.heap.size wr (some ⟨g2, 0, none⟩) 512 c2 (wantK a xs t.touched k) ∧ Chg (fun q => q = g2) w7 wr)) (fun s37 _ => tn1 - (intOf s37).toNat)
  case atStart => exact ⟨0, by omega, rfl, HO.out, chg_refl _⟩
  case round =>
    obtain ⟨k, hk, rfl, hI⟩ := hrel
    obtain ⟨ho, hC⟩ := hI.out
    have HOK := Lib.hid ho
    have HCK := Lib.hid hC
    have hzr := hC.size
    clear hI ho hC
    by_cases hlt : k < tn1
    · obtain ⟨u, huk⟩ := some_of_lt t.touched (k := k) (by rw [HTL.out]; exact hlt)
      have hT := HH.out.held.tch
      rw [HR.out] at hT
      obtain ⟨u1, u2, u3, u4, u5, u6⟩ := hT k u huk
      clear hT u6
      have hTr := chg_tchs0 IT.out HCK.out RT.out (fun q e hq => by omega)
      obtain ⟨b2, off2, rfl, hb2, hcc⟩ := hTr.at_ (by omega)
      obtain ⟨e0, e1, e2, e3, e4⟩ := hcc k u huk
      rw [u1] at e0
      rw [u2] at e1
      rw [u3] at e3
      rw [u5] at e4
      obtain ⟨v1, v2⟩ := u4
      have hq := (reqE_inv (dmaE_inv HEE.out).2.2)
      have hqr := hq.2.1
      unfold reqR at hqr
      have hall := HH.out.all
      have hcnt := hq.1
      have hkc : (k : Int) ≤ 1000 := by
        have h1 : t.touched.length ≤ 1000 := by
          have := (dma_len20 (xs := xs) (b := b) HEE.out); rw [HR.out] at this; simpa using this
        have := HTL.out; omega
      have r1 : (0 : Int) ≤ (k : Int) := by omega
      have r2 : (k : Int) < (tn1 : Int) := by omega
      have r3 : 0 ≤ a.at_ ∧ a.at_ ≤ 512 := by omega
      obtain ⟨r3, r4⟩ := r3
      have A2 := Lib.hid (whl_chg H2.out HCK.out (by omega))
      have A7 := Lib.hid (whl_chg H11.out HCK.out (by omega))
      have HU := Lib.hid huk
      have HU3 := Lib.hid u3
      have HU5 := Lib.hid u5
      have HV4 := Lib.hid (show 0 ≤ u.at_ ∧ u.at_ < 512 from ⟨v1, v2⟩)
      have hv : rd (wantK a xs t.touched (k + 1)) u.at_ = u.value := u5.symm
      clear hcc huk hTr hq hqr hall hcnt u1 u2 u3 u5 hv
      go_upto_region 8 with (fail)
      generalize hwb : wr.alloc (.cells #[.int .i64 a.dev, .int .i64 (a.at_ + k), .int .i64 u.at_, .bool a.wr, .int .i64 (rd (wantK a xs t.touched (k + 1)) u.at_)] 24) = w8
      have HT8 := Lib.hid (show Whl w8 wr.heap.size 24 _ by rw [← hwb]; exact whl_new _ _ _ rfl)
      have hb : Below wr.heap.size wr w8 := by rw [← hwb]; exact below_alloc _ _
      have hz8 : wr.heap.size < w8.heap.size := by rw [← hwb]; simp
      replace A2 := Lib.hid (whl_since A2.out hb)
      replace A7 := Lib.hid (whl_since A7.out hb)
      replace HOK := Lib.hid (show OwnI w5.heap.size w8 (some ⟨g2, 0, none⟩) 512 c2 (wantK a xs t.touched k) by rw [← hwb]; exact HOK.out.alloc _)
      replace HCK := Lib.hid (chg_since HCK.out hb)
      clear hwb hb e0 e1 e2 e3 e4
      by_cases hw : a.wr = true
      · have HW := Lib.hid hw
        clear hw
        have hkn : k < nd := by
          have h1 := HH.out.all
          have h2 := (reqE_inv (dmaE_inv HEE.out).2.2).2.2.1
          have h3 := dma_lenD (xs := xs) (b := b) HEE.out
          rw [HR.out] at h3
          unfold reqN at h2
          rw [if_pos HW.out] at h2
          have h4 := HD.out.1
          have h5 := HTL.out
          simp only [] at h3
          omega
        have hb8 : Below w.heap.size w w8 := below_chg HB.out HB.out.size HCK.out (fun q hq e => by omega)
        have hd8 := ints_now HD.out hb8
        have fA := fun o => whl_cell (show Whl w8 (w.heap.size + 1 + 1) 62 #[.int .i64 a.dev, .int .i64 a.at_, .int .i64 a.count, .bool true, .slice AD nd cd] by rw [← HW.out]; exact A2.out) o
        obtain ⟨bD, oD, rfl, hbD, hcD⟩ := hd8.2.2 (by rw [List.length_map]; have := hd8.1; omega)
        have yD := hcD k _ (rd_mapD (xs := a.data) (k := k) (by have := hd8.1; omega))
        have o0 := own_cells HOK.out (by decide)
        obtain ⟨_, eo, eo1, eo2, hoc, hof, _⟩ := o0
        injection eo with eo
        injection eo with eo
        subst eo
        have oc := hoc _ _ (rd_atD (k := u.at_) HOK.out.1 v1 v2)
        have e7 : w8.cell? ⟨w6.heap.size, 0, none⟩ = some (.slice (some ⟨g2, 0, none⟩) 512 c2) := whl_cell A7.out 0
        have fT := fun o => whl_cell (show Whl w8 wr.heap.size 24 #[.int .i64 a.dev, .int .i64 (a.at_ + k), .int .i64 u.at_, .bool true, .int .i64 (rd (wantK a xs t.touched (k + 1)) u.at_)] by rw [← HW.out]; exact HT8.out) o
        have lk2 : (k : Int) < (nd : Int) := by omega
        clear hoc hcD hd8 hb8 hbD
        go_upto_region 11 with (fail)
        go_region
        generalize hwc : (w8.setCell ⟨g2, u.at_.toNat, none⟩ (.int .i64 (rd a.data k))).drew = w9
        have ht9 : Trn g2 w8 w9 := by rw [← hwc]; have h := trn_set (w := w8) (g := g2) eo2 u.at_.toNat (.int .i64 (rd a.data k)); exact ⟨chg_drew h.1, h.2⟩
        have hwk := wantK_w (a := a) (xs := xs) HU.out (HU3.out.trans HW.out)
        have HO9 := Lib.hid (show OwnI w5.heap.size w9 (some ⟨g2, 0, none⟩) 512 c2 (wantK a xs t.touched (k + 1)) by rw [← hwc, hwk]; exact (owni_at HOK.out (by omega) _).drewN 1)
        have HC9 := Lib.hid (chg_trans HCK.out ht9.1)
        replace A7 := Lib.hid (whl_trn A7.out ht9 (by omega))
        replace HT8 := Lib.hid (whl_trn HT8.out ht9 (by omega))
        clear hwc hof oc fT fA yD e7 hwk ht9 eo1 eo2
        have o9 := own_cells HO9.out (by decide)
        obtain ⟨_, eo, _, _, hoc, _, _⟩ := o9
        injection eo with eo
        injection eo with eo
        subst eo
        have oc := hoc _ _ (rd_atD (k := u.at_) HO9.out.1 v1 v2)
        have e7 : w9.cell? ⟨w6.heap.size, 0, none⟩ = some (.slice (some ⟨g2, 0, none⟩) 512 c2) := whl_cell A7.out 0
        have fT := fun o => whl_cell (show Whl w9 wr.heap.size 24 #[.int .i64 a.dev, .int .i64 (a.at_ + k), .int .i64 u.at_, .bool true, .int .i64 (rd (wantK a xs t.touched (k + 1)) u.at_)] by rw [← HW.out]; exact HT8.out) o
        clear hoc
        go_upto_region 12 with (fail)
        go_quiet (fail)
        go_wp2
        go_roundw
        case rel => exact ⟨k + 1, by omega, by go_num, HO9.out.drewN _, chg_drewN HC9.out _⟩
        case measure => simp [intOf]; omega
      · have hw' : a.wr = false := by simpa using hw
        have HW := Lib.hid hw'
        clear hw hw'
        have hd1 : k < dn1 ∧ ((t.data.map (Value.int .i64))[k]? = some (.int .i64 (rd (wantK a xs t.touched (k + 1)) u.at_))) := by
          have h1 := HH.out.held.dat HW.out
          rw [HR.out] at h1
          obtain ⟨h1, h2⟩ := h1
          have h3 := h2 k u HU.out
          have h4 := ID.out.1
          simp only [] at h1 h3
          refine ⟨by have := HTL.out; omega, ?_⟩
          rw [List.getElem?_map, h3, HU5.out]; rfl
        have hd8 := chg_ints0 ID.out HCK.out RD.out (fun q e hq => by omega)
        obtain ⟨bD, oD, rfl, hbD, hcD⟩ := hd8.2.2 (by rw [List.length_map]; have := hd8.1; omega)
        have yD := hcD k _ hd1.2
        have lk2 : (k : Int) < (dn1 : Int) := by omega
        clear hcD hd8 hbD hd1
        obtain ⟨w9, hw9⟩ : ∃ w9, w9 = w8 := ⟨_, rfl⟩
        subst hw9
        have hwk := wantK_r (a := a) (xs := xs) HU.out (HU3.out.trans HW.out)
        have HO9 := Lib.hid (show OwnI w5.heap.size w9 (some ⟨g2, 0, none⟩) 512 c2 (wantK a xs t.touched (k + 1)) by rw [hwk]; exact HOK.out)
        have HC9 := HCK
        have f91 : w9.cell? ⟨w1.heap.size + 1 + 1, 1, none⟩ = some (.slice (some ⟨bD, oD, none⟩) dn1 dc1) := whl_cell (whl_chg H9.out HC9.out (by omega)) 1
        have fA := fun o => whl_cell (show Whl w9 (w.heap.size + 1 + 1) 62 #[.int .i64 a.dev, .int .i64 a.at_, .int .i64 a.count, .bool false, .slice AD nd cd] by rw [← HW.out]; exact A2.out) o
        clear hwk
        have o9 := own_cells HO9.out (by decide)
        obtain ⟨_, eo, _, _, hoc, _, _⟩ := o9
        injection eo with eo
        injection eo with eo
        subst eo
        have oc := hoc _ _ (rd_atD (k := u.at_) HO9.out.1 v1 v2)
        have e7 : w9.cell? ⟨w6.heap.size, 0, none⟩ = some (.slice (some ⟨g2, 0, none⟩) 512 c2) := whl_cell A7.out 0
        have fT := fun o => whl_cell (show Whl w9 wr.heap.size 24 #[.int .i64 a.dev, .int .i64 (a.at_ + k), .int .i64 u.at_, .bool false, .int .i64 (rd (wantK a xs t.touched (k + 1)) u.at_)] by rw [← HW.out]; exact HT8.out) o
        clear hoc
        go_upto_region 12 with (fail)
        go_quiet (fail)
        go_wp2
        go_roundw
        case rel => exact ⟨k + 1, by omega, by go_num, HO9.out.drewN _, chg_drewN HC9.out _⟩
        case measure => simp [intOf]; omega
    · obtain rfl : k = tn1 := by omega
      have hh4 : ¬ ((k : Int) < (k : Int)) := by omega
      clear hlt
      have hmm := HH.out.mem
      rw [HR.out] at hmm
      have hdon := HH.out.don
      rw [HR.out] at hdon
      have hall := HH.out.all
      rw [HR.out] at hall
      have hflt := HH.out.flt
      rw [HR.out] at hflt
      have hcck := HH.out.ck
      rw [HR.out] at hcck
      simp only [] at hmm hdon hall hflt hcck
      have htl := HTL.out
      rw [htl] at hmm hall
      have HCB := Lib.hid hcck.2
      have A0 := Lib.hid (whl_chg H0.out HCK.out (by omega))
      have A1 := Lib.hid (whl_chg H1.out HCK.out (by omega))
      have A2 := Lib.hid (whl_chg H2.out HCK.out (by omega))
      have A7 := Lib.hid (whl_chg H7.out HCK.out (by omega))
      have A8 := Lib.hid (whl_chg H8.out HCK.out (by omega))
      have A9 := Lib.hid (whl_chg H9.out HCK.out (by omega))
      have A11 := Lib.hid (whl_chg H11.out HCK.out (by omega))
      have JM := Lib.hid (chg_ints0 IM.out HCK.out RM.out (fun q e hq => by omega))
      have JL := Lib.hid (chg_lines0 IL.out HCK.out RL.out (fun q e hq => by omega))
      have JB := Lib.hid (below_chg HB.out HB.out.size HCK.out (fun q hq e => by omega))
      clear HCK H0 H1 H2 H7 H8 H9 H11 IM IL IT ID HB
      by_cases hf : t.fault = 0
      · have HF := Lib.hid hf
        have HDN := Lib.hid (hdon.2 hf)
        have hys : ys = wantK a xs t.touched k := hmm.resolve_right (fun e => e.1 hf)
        have HQ := Lib.hid (show eqI ys (wantK a xs t.touched k) = true by rw [hys]; simp [eqI])
        have q1 : ((k : Int) == a.count) = true := by rw [beq_iff_eq]; exact hall.1 HDN.out
        have he := fun W => Try.eqlRing d.faults b.faults W
        rw [show ringEq d.faults b.faults = true by rw [hflt hf]; simp [ringEq]] at he
        clear hf hmm hdon hall hflt hcck hys
        have f90 : wr.cell? ⟨w1.heap.size + 1 + 1, 0, none⟩ = some (.bool true) := (whl_cell A9.out 0).trans (by show some (Value.bool t.done) = _; rw [HDN.out])
        have f92 : wr.cell? ⟨w1.heap.size + 1 + 1, 2, none⟩ = some (.int .i64 0) := (whl_cell A9.out 2).trans (by show some (Value.int .i64 t.fault) = _; rw [HF.out])
        have f93 : wr.cell? ⟨w1.heap.size + 1 + 1, 3, none⟩ = some (.slice T1 k tc1) := whl_cell A9.out 3
        have fa2 : wr.cell? ⟨w.heap.size + 1 + 1, 2, none⟩ = some (.int .i64 a.count) := whl_cell A2.out 2
        have fb1 := fun o => whl_cell A1.out o
        have fb8 := fun o => whl_cell A8.out o
        have f7 : wr.cell? ⟨w1.heap.size, 0, none⟩ = some (.slice M1 512 mc1) := whl_cell A7.out 0
        have f11 : wr.cell? ⟨w6.heap.size, 0, none⟩ = some (.slice (some ⟨g2, 0, none⟩) 512 c2) := whl_cell A11.out 0
        go_wp2_with fail
        refine (mem_Same _ _ _ _ _ _ ys (wantK a xs t.touched k) _ JM.out (HOK.out.ints (by decide))).mono ?_
        rw [HQ.out]
        rintro e wa ⟨rfl, hb⟩
        clear f90 f92 f93 fa2 fb1 fb8 f7 f11
        replace A1 := Lib.hid (whl_since A1.out hb)
        replace A2 := Lib.hid (whl_since A2.out hb)
        replace A7 := Lib.hid (whl_since A7.out hb)
        replace A8 := Lib.hid (whl_since A8.out hb)
        replace A9 := Lib.hid (whl_since A9.out hb)
        replace A11 := Lib.hid (whl_since A11.out hb)
        replace JL := Lib.hid (lines_now JL.out hb)
        replace JB := Lib.hid (JB.out.trans (hb.mono JB.out.size))
        clear hb
        have f90 : wa.cell? ⟨w1.heap.size + 1 + 1, 0, none⟩ = some (.bool true) := (whl_cell A9.out 0).trans (by show some (Value.bool t.done) = _; rw [HDN.out])
        have f92 : wa.cell? ⟨w1.heap.size + 1 + 1, 2, none⟩ = some (.int .i64 0) := (whl_cell A9.out 2).trans (by show some (Value.int .i64 t.fault) = _; rw [HF.out])
        have f93 : wa.cell? ⟨w1.heap.size + 1 + 1, 3, none⟩ = some (.slice T1 k tc1) := whl_cell A9.out 3
        have fa2 : wa.cell? ⟨w.heap.size + 1 + 1, 2, none⟩ = some (.int .i64 a.count) := whl_cell A2.out 2
        have fb1 := fun o => whl_cell A1.out o
        have fb8 := fun o => whl_cell A8.out o
        have f7 : wa.cell? ⟨w1.heap.size, 0, none⟩ = some (.slice M1 512 mc1) := whl_cell A7.out 0
        have f11 : wa.cell? ⟨w6.heap.size, 0, none⟩ = some (.slice (some ⟨g2, 0, none⟩) 512 c2) := whl_cell A11.out 0
        go_wp2_with fail
        refine (bridge_Check d L1 n1 c1 _ JL.out).mono ?_
        rw [HCB.out]
        rintro e wb ⟨rfl, hb⟩
        replace JB := Lib.hid (JB.out.trans (hb.mono JB.out.size))
        clear hb
        clear f90 f92 f93 fa2 fb1 fb8 f7 f11
        go_wp2
        go_ret
        exact ⟨rfl, JB.out⟩
      · have hdn : t.done = false := by rw [Bool.eq_false_iff]; intro h; exact hf (hdon.1 h)
        have HDN := Lib.hid hdn
        have q1 : ((k : Int) == a.count) = false := by rw [beq_eq_false_iff_ne]; intro h; have := hall.2 h; rw [hdn] at this; cases this
        have q2 : (t.fault != 0) = true := by rw [bne_iff_ne]; exact hf
        have q3 : (t.fault == 0) = false := by rw [beq_eq_false_iff_ne]; exact hf
        have hne := fun W => Try.neqRingT d.faults b.faults W
        by_cases hrg : d.faults = b.faults
        · have hys : ys = wantK a xs t.touched k := hmm.resolve_right (fun e => e.2.1 hrg)
          have HQ := Lib.hid (show eqI ys (wantK a xs t.touched k) = true by rw [hys]; simp [eqI])
          rw [show ringEq d.faults b.faults = true by rw [hrg]; simp [ringEq]] at hne
          clear hf hmm hdon hall hflt hcck hys hdn hrg
          clear RM RL
          have f90 : wr.cell? ⟨w1.heap.size + 1 + 1, 0, none⟩ = some (.bool false) := (whl_cell A9.out 0).trans (by show some (Value.bool t.done) = _; rw [HDN.out])
          have f92 : wr.cell? ⟨w1.heap.size + 1 + 1, 2, none⟩ = some (.int .i64 t.fault) := whl_cell A9.out 2
          have f93 : wr.cell? ⟨w1.heap.size + 1 + 1, 3, none⟩ = some (.slice T1 k tc1) := whl_cell A9.out 3
          have fa2 : wr.cell? ⟨w.heap.size + 1 + 1, 2, none⟩ = some (.int .i64 a.count) := whl_cell A2.out 2
          have fb1 := fun o => whl_cell A1.out o
          have fb8 := fun o => whl_cell A8.out o
          have f7 : wr.cell? ⟨w1.heap.size, 0, none⟩ = some (.slice M1 512 mc1) := whl_cell A7.out 0
          have f11 : wr.cell? ⟨w6.heap.size, 0, none⟩ = some (.slice (some ⟨g2, 0, none⟩) 512 c2) := whl_cell A11.out 0
          go_wp2_with fail
          refine (mem_Same _ _ _ _ _ _ ys (wantK a xs t.touched k) _ JM.out (HOK.out.ints (by decide))).mono ?_
          rw [HQ.out]
          rintro e wa ⟨rfl, hb⟩
          clear f90 f92 f93 fa2 fb1 fb8 f7 f11
          replace A1 := Lib.hid (whl_since A1.out hb)
          replace A2 := Lib.hid (whl_since A2.out hb)
          replace A7 := Lib.hid (whl_since A7.out hb)
          replace A8 := Lib.hid (whl_since A8.out hb)
          replace A9 := Lib.hid (whl_since A9.out hb)
          replace A11 := Lib.hid (whl_since A11.out hb)
          replace JL := Lib.hid (lines_now JL.out hb)
          replace JB := Lib.hid (JB.out.trans (hb.mono JB.out.size))
          clear hb
          have f90 : wa.cell? ⟨w1.heap.size + 1 + 1, 0, none⟩ = some (.bool false) := (whl_cell A9.out 0).trans (by show some (Value.bool t.done) = _; rw [HDN.out])
          have f92 : wa.cell? ⟨w1.heap.size + 1 + 1, 2, none⟩ = some (.int .i64 t.fault) := whl_cell A9.out 2
          have f93 : wa.cell? ⟨w1.heap.size + 1 + 1, 3, none⟩ = some (.slice T1 k tc1) := whl_cell A9.out 3
          have fa2 : wa.cell? ⟨w.heap.size + 1 + 1, 2, none⟩ = some (.int .i64 a.count) := whl_cell A2.out 2
          have fb1 := fun o => whl_cell A1.out o
          have fb8 := fun o => whl_cell A8.out o
          have f7 : wa.cell? ⟨w1.heap.size, 0, none⟩ = some (.slice M1 512 mc1) := whl_cell A7.out 0
          have f11 : wa.cell? ⟨w6.heap.size, 0, none⟩ = some (.slice (some ⟨g2, 0, none⟩) 512 c2) := whl_cell A11.out 0
          go_wp2_with fail
          refine (bridge_Check d L1 n1 c1 _ JL.out).mono ?_
          rw [HCB.out]
          rintro e wb ⟨rfl, hb⟩
          replace JB := Lib.hid (JB.out.trans (hb.mono JB.out.size))
          clear hb
          clear f90 f92 f93 fa2 fb1 fb8 f7 f11
          go_wp2
          go_ret
          exact ⟨rfl, JB.out⟩
        · have hrq : ringEq d.faults b.faults = false := by rw [ringEq_tD]; simp [hrg]
          rw [hrq] at hne
          have hwl : (wantK a xs t.touched k).length = 512 := HOK.out.1
          have HQ2 := Lib.hid (show (wantK a xs t.touched k).set (b.faults.page * 8 + b.faults.tail).toNat (rd ys (b.faults.page * 8 + b.faults.tail)) = ys by
            have hrr := ((ckB_iff b).1 (dmaE_inv HEE.out).2.1).2.2.2
            unfold ringR at hrr
            rcases hmm with e | ⟨_, _, v, e⟩
            · rw [e]; exact set_rdD (by omega) (by rw [hwl]; omega)
            · rw [e, rd_self hwl (by omega)])
          have HQ := Lib.hid (show eqI ys ys = true by simp [eqI])
          clear hf hmm hdon hall hflt hcck hdn hrg hrq hwl
          have f90 : wr.cell? ⟨w1.heap.size + 1 + 1, 0, none⟩ = some (.bool false) := (whl_cell A9.out 0).trans (by show some (Value.bool t.done) = _; rw [HDN.out])
          have f92 : wr.cell? ⟨w1.heap.size + 1 + 1, 2, none⟩ = some (.int .i64 t.fault) := whl_cell A9.out 2
          have f93 : wr.cell? ⟨w1.heap.size + 1 + 1, 3, none⟩ = some (.slice T1 k tc1) := whl_cell A9.out 3
          have fa2 : wr.cell? ⟨w.heap.size + 1 + 1, 2, none⟩ = some (.int .i64 a.count) := whl_cell A2.out 2
          have fb1 := fun o => whl_cell A1.out o
          have fb8 := fun o => whl_cell A8.out o
          have f7 : wr.cell? ⟨w1.heap.size, 0, none⟩ = some (.slice M1 512 mc1) := whl_cell A7.out 0
          have f11 : wr.cell? ⟨w6.heap.size, 0, none⟩ = some (.slice (some ⟨g2, 0, none⟩) 512 c2) := whl_cell A11.out 0
          have hrr := ((ckB_iff b).1 (dmaE_inv HEE.out).2.1).2.2.2
          unfold ringR at hrr
          obtain ⟨ix, hix⟩ : ∃ ix, ix = b.faults.page * 8 + b.faults.tail := ⟨_, rfl⟩
          have i1 : 0 ≤ b.faults.page * 8 + b.faults.tail := by omega
          have i2 : b.faults.page * 8 + b.faults.tail < 512 := by omega
          have m1 : IntKind.i64.wrap (b.faults.page * 8) = b.faults.page * 8 := IntWalk.i64_in _ (by omega)
          have m2 : IntKind.i64.wrap (b.faults.page * 8 + b.faults.tail) = b.faults.page * 8 + b.faults.tail := IntWalk.i64_in _ (by omega)
          clear hrr hix ix
          obtain ⟨bM, oM, rfl, hbM, hcM⟩ := JM.out.2.2 (by rw [List.length_map, JM.out.1]; omega)
          have yM := hcM _ _ (rd_mapD' (xs := ys) (k := b.faults.page * 8 + b.faults.tail) i1 (by rw [JM.out.1]; omega))
          have o0 := own_cells HOK.out (by decide)
          obtain ⟨_, eo, eo1, eo2, hoc, hof, _⟩ := o0
          injection eo with eo
          injection eo with eo
          subst eo
          have oc := hoc _ _ (rd_atD (k := b.faults.page * 8 + b.faults.tail) HOK.out.1 i1 i2)
          clear hoc hcM
          go_upto_region 16 with (fail)
          go_region
          generalize hwc : (wr.setCell ⟨g2, (b.faults.page * 8 + b.faults.tail).toNat, none⟩ (.int .i64 (rd ys (b.faults.page * 8 + b.faults.tail)))).drew = w9
          have ht9 : Trn g2 wr w9 := by rw [← hwc]; have h := trn_set (w := wr) (g := g2) eo2 (b.faults.page * 8 + b.faults.tail).toNat (.int .i64 (rd ys (b.faults.page * 8 + b.faults.tail))); exact ⟨chg_drew h.1, h.2⟩
          have ho9 : OwnI w5.heap.size w9 (some ⟨g2, 0, none⟩) 512 c2 ((wantK a xs t.touched k).set (b.faults.page * 8 + b.faults.tail).toNat (rd ys (b.faults.page * 8 + b.faults.tail))) := by rw [← hwc]; exact (owni_at HOK.out (by omega) _).drewN 1
          rw [HQ2.out] at ho9
          replace HOK := Lib.hid ho9
          replace JM := Lib.hid (chg_ints0 JM.out ht9.1 RM.out (fun q e hq => by omega))
          replace JL := Lib.hid (chg_lines0 JL.out ht9.1 RL.out (fun q e hq => by omega))
          replace JB := Lib.hid (below_chg JB.out JB.out.size ht9.1 (fun q hq e => by omega))
          replace A1 := Lib.hid (whl_trn A1.out ht9 (by omega))
          replace A2 := Lib.hid (whl_trn A2.out ht9 (by omega))
          replace A7 := Lib.hid (whl_trn A7.out ht9 (by omega))
          replace A8 := Lib.hid (whl_trn A8.out ht9 (by omega))
          replace A9 := Lib.hid (whl_trn A9.out ht9 (by omega))
          replace A11 := Lib.hid (whl_trn A11.out ht9 (by omega))
          clear ho9 hwc oc hof yM ht9 i1 i2 m1 m2 eo1 eo2 hbM
          clear f90 f92 f93 fa2 fb1 fb8 f7 f11
          have f90 : w9.cell? ⟨w1.heap.size + 1 + 1, 0, none⟩ = some (.bool false) := (whl_cell A9.out 0).trans (by show some (Value.bool t.done) = _; rw [HDN.out])
          have f92 : w9.cell? ⟨w1.heap.size + 1 + 1, 2, none⟩ = some (.int .i64 t.fault) := whl_cell A9.out 2
          have f93 : w9.cell? ⟨w1.heap.size + 1 + 1, 3, none⟩ = some (.slice T1 k tc1) := whl_cell A9.out 3
          have fa2 : w9.cell? ⟨w.heap.size + 1 + 1, 2, none⟩ = some (.int .i64 a.count) := whl_cell A2.out 2
          have fb1 := fun o => whl_cell A1.out o
          have fb8 := fun o => whl_cell A8.out o
          have f7 : w9.cell? ⟨w1.heap.size, 0, none⟩ = some (.slice (some ⟨bM, oM, none⟩) 512 mc1) := whl_cell A7.out 0
          have f11 : w9.cell? ⟨w6.heap.size, 0, none⟩ = some (.slice (some ⟨g2, 0, none⟩) 512 c2) := whl_cell A11.out 0
          go_wp2_with fail
          refine (mem_Same _ _ _ _ _ _ ys ys _ JM.out (HOK.out.ints (by decide))).mono ?_
          rw [HQ.out]
          rintro e wa ⟨rfl, hb⟩
          clear f90 f92 f93 fa2 fb1 fb8 f7 f11
          replace A1 := Lib.hid (whl_since A1.out hb)
          replace A2 := Lib.hid (whl_since A2.out hb)
          replace A7 := Lib.hid (whl_since A7.out hb)
          replace A8 := Lib.hid (whl_since A8.out hb)
          replace A9 := Lib.hid (whl_since A9.out hb)
          replace A11 := Lib.hid (whl_since A11.out hb)
          replace JL := Lib.hid (lines_now JL.out hb)
          replace JB := Lib.hid (JB.out.trans (hb.mono JB.out.size))
          clear hb
          have f90 : wa.cell? ⟨w1.heap.size + 1 + 1, 0, none⟩ = some (.bool false) := (whl_cell A9.out 0).trans (by show some (Value.bool t.done) = _; rw [HDN.out])
          have f92 : wa.cell? ⟨w1.heap.size + 1 + 1, 2, none⟩ = some (.int .i64 t.fault) := whl_cell A9.out 2
          have f93 : wa.cell? ⟨w1.heap.size + 1 + 1, 3, none⟩ = some (.slice T1 k tc1) := whl_cell A9.out 3
          have fa2 : wa.cell? ⟨w.heap.size + 1 + 1, 2, none⟩ = some (.int .i64 a.count) := whl_cell A2.out 2
          have fb1 := fun o => whl_cell A1.out o
          have fb8 := fun o => whl_cell A8.out o
          have f7 : wa.cell? ⟨w1.heap.size, 0, none⟩ = some (.slice (some ⟨bM, oM, none⟩) 512 mc1) := whl_cell A7.out 0
          have f11 : wa.cell? ⟨w6.heap.size, 0, none⟩ = some (.slice (some ⟨g2, 0, none⟩) 512 c2) := whl_cell A11.out 0
          go_wp2_with fail
          refine (bridge_Check d L1 n1 c1 _ JL.out).mono ?_
          rw [HCB.out]
          rintro e wb ⟨rfl, hb⟩
          replace JB := Lib.hid (JB.out.trans (hb.mono JB.out.size))
          clear hb
          clear f90 f92 f93 fa2 fb1 fb8 f7 f11
          go_wp2
          go_ret
          exact ⟨rfl, JB.out⟩
end Go.Proofs.Ytbopdijnojaaiac
