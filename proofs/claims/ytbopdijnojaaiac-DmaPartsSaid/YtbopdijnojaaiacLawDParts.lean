/- The walk of the law DmaParts: a burst does what its pages do, one behind the other. The row is in another text. -/
import Derived.Test.YtbopdijnojaaiacPartQ
import Derived.Test.YtbopdijnojaaiacRegL
import Derived.Test.YtbopdijnojaaiacCarried
import Derived.Test.YtbopdijnojaaiacSameT
import Derived.Test.YtbopdijnojaaiacBridgeS
import Derived.RegionTactic
import Derived.Deep.DeepCutAuto
namespace Go.Proofs.Ytbopdijnojaaiac
open Go.RowKit
set_option linter.unusedSimpArgs false
set_option linter.unusedVariables false
attribute [local go_sem ↓] Go.wp_at_zero Go.wp_at_succ
theorem Try.sizeIntsP : (Try.prog.info? 28).map (·.size) = some 1 := by kernel_rfl
theorem Try.sizeTchsP : (Try.prog.info? 63).map (·.size) = some 1 := by kernel_rfl
theorem whl_exP {w : World} {g : Nat} {t : TypeId} {cs cs' : Array Value} (h : Whl w g t cs) (e : cs = cs') : Whl w g t cs' := e ▸ h
theorem slice_midP (A : Option Addr) (n c i k : Nat) (hk : i + k ≤ n) (hc : n ≤ c) :
    ∃ A' : Option Addr, (∀ w, (Instr.slice 28 (.slice A n c) (some (.int .i64 (i : Int))) (some (.int .i64 ((i : Int) + (k : Int)))) none).run Try.prog w = .ok (.slice A' k (c - i)) w) ∧ ∀ w B (xs : List Int), Ints w B A n xs → Ints w B A' k ((xs.drop i).take k) := by
  refine ⟨if c = i then A else A.map (·.add i), fun w => ?_, fun w B xs h => ?_⟩
  · have h1 : (0 : Int) ≤ (i : Int) := by omega
    have h2 : (i : Int) ≤ (i : Int) + (k : Int) := by omega
    have h3 : (i : Int) + (k : Int) ≤ (c : Int) := by omega
    have h4 : ((i : Int) + (k : Int)).toNat - i = k := by omega
    have h0 : (0 : Int) ≤ (i : Int) + (k : Int) := by omega
    simp [go_sem, h0, h1, h2, h3, h4]
  · refine ⟨by rw [List.length_take, List.length_drop, h.1]; omega, by have := h.2.1; omega, fun h0 => ?_⟩
    have hk0 : 0 < k := by rw [List.length_map, List.length_take] at h0; omega
    obtain ⟨b, off, e, hb, hcc⟩ := h.2.2 (by rw [List.length_map, h.1]; omega)
    rw [if_neg (by omega), e]
    refine ⟨b, off + i, by simp [add_at], hb, fun j v hv => ?_⟩
    rw [Nat.add_assoc]
    refine hcc (i + j) v ?_
    rw [List.getElem?_map, List.getElem?_take] at hv
    rw [List.getElem?_map]
    split at hv
    · rw [List.getElem?_drop] at hv; exact hv
    · simp at hv
theorem mdma_kP (xs : List Int) (m : Option Addr) (nm mc : Nat) (b : Brg) (A0 : Option Addr) (n0 c0 : Nat) (AD : Option Addr) (nd cd : Nat) (w : World) (hx : Ints w w.heap.size m nm xs) (hl : Lines w w.heap.size A0 n0 c0 b.cache) (a : Ask) (hd : Ints w w.heap.size AD nd a.data) (R : List Int × Brg × Tld) (E : Int) (k : Nat) (hR : dmaA xs b a = R) (hE : dmaE xs b a = E) (hk : (if E = 0 then 512 else 0) = k) :
    Calls Try.prog 30 #[.agg #[.slice m nm mc], .agg #[.int .i64 b.mode, .int .i64 b.base, .slice A0 n0 c0, .int .i64 b.orders.page, .int .i64 b.orders.head, .int .i64 b.orders.tail, .bool b.stopped, .int .i64 b.fences, .int .i64 b.faults.page, .int .i64 b.faults.head, .int .i64 b.faults.tail, .bool b.lost], .agg #[.int .i64 a.dev, .int .i64 a.at_, .int .i64 a.count, .bool a.wr, .slice AD nd cd]] w (DoC w k R E) := by
  subst hk; exact dma_ans xs m nm mc b A0 n0 c0 AD nd cd w hx hl a hd R E hR hE
/-- how memory stands ahead of a part. -/
structure DJ (a : Ask) (r : List Int × Brg × Tld) (B g11 g12 g13 : Nat) (w0 : World) (i : Nat) (x : List Int) (d : Brg) (u : Tld) (M : Option Addr) (mc : Nat) (L : Option Addr) (n c : Nat) (D : Option Addr) (dn dc : Nat) (T : Option Addr) (tn tc : Nat) (W : World) : Prop where
  h11 : Whl W g11 30 #[.slice M 512 mc]
  h12 : Whl W g12 37 #[.int .i64 d.mode, .int .i64 d.base, .slice L n c, .int .i64 d.orders.page, .int .i64 d.orders.head, .int .i64 d.orders.tail, .bool d.stopped, .int .i64 d.fences, .int .i64 d.faults.page, .int .i64 d.faults.head, .int .i64 d.faults.tail, .bool d.lost]
  h13 : Whl W g13 65 #[.bool u.done, .slice D dn dc, .int .i64 u.fault, .slice T tn tc]
  q : RQ B 0 x d [] [] u.data u.touched M L n c none 0 0 none 0 0 D dn dc T tn tc W
  iv : DI a r i x d u
  sb : Below w0.heap.size w0 W
theorem DJ.since {a : Ask} {r : List Int × Brg × Tld} {B g11 g12 g13 : Nat} {w0 : World} {i : Nat} {x : List Int} {d : Brg} {u : Tld} {M : Option Addr} {mc : Nat} {L : Option Addr} {n c : Nat} {D : Option Addr} {dn dc : Nat} {T : Option Addr} {tn tc : Nat} {W W' : World}
    (h : DJ a r B g11 g12 g13 w0 i x d u M mc L n c D dn dc T tn tc W) (hb : Below W.heap.size W W') : DJ a r B g11 g12 g13 w0 i x d u M mc L n c D dn dc T tn tc W' := ⟨whl_since h.h11 hb, whl_since h.h12 hb, whl_since h.h13 hb, h.q.since hb, h.iv, h.sb.trans (hb.mono h.sb.size)⟩
def S17 (g b : Nat) (U V : Array Value) (l : Array Bool) (W : World) : Prop := (l.getD 4 false = false ∨ l.getD 9 false = false) → Whl W g 65 U ∧ Whl W b 65 V
theorem s17_ins {g b : Nat} {U V : Array Value} {i : Nat} (h4 : i ≠ 4) (h9 : i ≠ 9) : ∀ (l : Array Bool) (w : World), S17 g b U V (l.setIfInBounds i true) w → S17 g b U V l w := fun l w h hc => h (by rw [getD_set_ne false h4, getD_set_ne false h9]; exact hc)
theorem yld_cellP {P : Program} {S : World → Prop} {op : Oper} {a : Act} (ty : TypeId) (x : Operand) (p : Addr) (v : Value) (ho : op.op = .load ty x) (hx : a.eval x = .pointer (some p)) (hS : ∀ W, S W → W.cell? p = some v) (hr : ∀ W : World, W.cell? p = some v → (loadVar ty p).run P W = .ok v W) : ∀ W, S W → (execOp a.eval op).run P W = .ok (.value v) W := fun W hW => by
  unfold execOp
  simp only [ho, hx, Instr.loadAt, Instr.sureAddr, Sem.run_bind, Sem.run_pure, Result.andThen_ok, hr W (hS W hW)]
theorem Try.ldIntP (p : Addr) (v : Value) (w : World) (h : w.cell? p = some v) : (loadVar 3 p).run Try.prog w = .ok v w := by
  have hu : Try.prog.underlying 3 = _ := Try.underlying3
  simp [go_sem, loadVar, hu, h]
theorem Try.ldBoolP (p : Addr) (v : Value) (w : World) (h : w.cell? p = some v) : (loadVar 4 p).run Try.prog w = .ok v w := by
  have hu : Try.prog.underlying 4 = _ := Try.underlying4
  simp [go_sem, loadVar, hu, h]
theorem Try.ldIntsP (p : Addr) (v : Value) (w : World) (h : w.cell? p = some v) : (loadVar 28 p).run Try.prog w = .ok v w := by
  have hu : Try.prog.underlying 28 = _ := Try.underlying28
  simp [go_sem, loadVar, hu, h]
theorem Try.ldTchsP (p : Addr) (v : Value) (w : World) (h : w.cell? p = some v) : (loadVar 63 p).run Try.prog w = .ok v w := by
  have hu : Try.prog.underlying 63 = _ := Try.underlying63
  simp [go_sem, loadVar, hu, h]
theorem Try.sizeBoolP : (Try.prog.info? 4).map (·.size) = some 1 := by kernel_rfl
theorem tcs_oneP (ts : List Tch) : ∀ u ∈ tcells ts, u.oneCell' = true := by
  intro u hu
  unfold tcells at hu
  obtain ⟨e, _, h⟩ := List.mem_flatMap.1 hu
  exact tch_one e u h
theorem chg_belP {P : Nat → Prop} {w W W' : World} (h : Chg P w W) (hb : Below W.heap.size W W') : Chg P w W' := ⟨Below.trans h.1 (Below.mono hb (Nat.zero_le _)), fun q hq hn => (Below.block hb q (Nat.lt_of_lt_of_le hq h.size)).trans (h.2 q hq hn)⟩
theorem whl_chgP {P : Nat → Prop} {w w' : World} {g : Nat} {t : TypeId} {cs : Array Value} (h : Whl w g t cs) (hC : Chg P w w') (hn : ¬ P g) : Whl w' g t cs := (hC.2 g (whl_lt h) hn).trans h
theorem odt_ints {B n c : Nat} {w : World} {A : Option Addr} {xs : List Int} (h : OwnDt B w A n c xs) : Ints w w.heap.size A n xs := ⟨h.1, Nat.le_trans h.2.1 h.2.2.1, Row.of_own h.2.2.2⟩
theorem ints_no (w : World) : Ints w w.heap.size none 0 [] := ⟨rfl, by unfold maxLen; omega, Row.nil_⟩
theorem rowIn_0 {Av : Nat → Prop} {A : Option Addr} : RowIn Av A 0 := fun h => absurd h (by decide)
set_option maxRecDepth 100000 in
set_option maxHeartbeats 3000000 in
theorem dparts_no (xs : List Int) (b : Brg) (a : Ask) (M L AD : Option Addr) (nm mc n c nd cd : Nat) (w : World) (hm : Ints w w.heap.size M nm xs) (hl : Lines w w.heap.size L n c b.cache) (hd : Ints w w.heap.size AD nd a.data) (hcd : nd ≤ cd ∧ cd ≤ 9223372036854775807) (hE : dmaE xs b a ≠ 0) :
    Calls Try.prog 9 #[.agg #[.slice M nm mc], .agg #[.int .i64 b.mode, .int .i64 b.base, .slice L n c, .int .i64 b.orders.page, .int .i64 b.orders.head, .int .i64 b.orders.tail, .bool b.stopped, .int .i64 b.fences, .int .i64 b.faults.page, .int .i64 b.faults.head, .int .i64 b.faults.tail, .bool b.lost], .agg #[.int .i64 a.dev, .int .i64 a.at_, .int .i64 a.count, .bool a.wr, .slice AD nd cd]] w fun e w' => e = .returned (.bool true) ∧ Below w.heap.size w w' := by
  obtain ⟨ys, d9, t9, hA⟩ : ∃ ys d9 t9, dmaA xs b a = (ys, d9, t9) := ⟨_, _, _, rfl⟩
  obtain ⟨E, hEE⟩ : ∃ E, dmaE xs b a = E := ⟨_, rfl⟩
  rw [hEE] at hE
  obtain ⟨na, hna⟩ : ∃ na, (if E = 0 then 512 else 0) = na := ⟨_, rfl⟩
  have HNA := Lib.hid hna
  have HA := Lib.hid hA
  have HEE := Lib.hid hEE
  have HM := Lib.hid hm
  have HL := Lib.hid hl
  have HD := Lib.hid hd
  have HCD := Lib.hid hcd
  clear hna hA hEE hm hl hd hcd
  have t0 : (E != 0) = true := by rw [bne_iff_ne]; exact hE
  clear hE
  go_enter Try.func9, Try.ntmps9
  go_upto_region 1 with (fail)
  generalize hw0 : ((w.alloc (.cells #[.slice M nm mc] 30)).alloc (.cells #[.int .i64 b.mode, .int .i64 b.base, .slice L n c, .int .i64 b.orders.page, .int .i64 b.orders.head, .int .i64 b.orders.tail, .bool b.stopped, .int .i64 b.fences, .int .i64 b.faults.page, .int .i64 b.faults.head, .int .i64 b.faults.tail, .bool b.lost] 37)).alloc (.cells #[.int .i64 a.dev, .int .i64 a.at_, .int .i64 a.count, .bool a.wr, .slice AD nd cd] 62) = w0
  have H0 := Lib.hid (show Whl w0 w.heap.size 30 #[.slice M nm mc] by rw [← hw0]; exact whl_alloc (whl_alloc (whl_new _ _ _ rfl) _) _)
  have H1 := Lib.hid (show Whl w0 (w.heap.size + 1) 37 #[.int .i64 b.mode, .int .i64 b.base, .slice L n c, .int .i64 b.orders.page, .int .i64 b.orders.head, .int .i64 b.orders.tail, .bool b.stopped, .int .i64 b.fences, .int .i64 b.faults.page, .int .i64 b.faults.head, .int .i64 b.faults.tail, .bool b.lost] by rw [← hw0]; exact whl_alloc (whl_new _ _ _ (by simp)) _)
  have H2 := Lib.hid (show Whl w0 (w.heap.size + 1 + 1) 62 #[.int .i64 a.dev, .int .i64 a.at_, .int .i64 a.count, .bool a.wr, .slice AD nd cd] by rw [← hw0]; exact whl_new _ _ _ (by simp))
  have HB := Lib.hid (show Below w.heap.size w w0 by rw [← hw0]; (repeat (first | (with_reducible exact Below.refl _ _) | (with_reducible refine Below.drew ?_) | (with_reducible refine bdrewN ?_ _) | ((with_reducible refine Below.setCell ?_ ?_ _); rotate_left; exact (by first | (simp; done) | (simp; omega) | omega)) | ((with_reducible refine Below.alloc ?_ ?_ _); rotate_left; exact (by first | (simp; done) | (simp; omega) | omega)))))
  have hz0a : w0.heap.size ≤ w.heap.size + 3 := by rw [← hw0]; simp
  have hz0b : w.heap.size + 3 ≤ w0.heap.size := by rw [← hw0]; simp
  clear hw0
  go_wp2_with (first | (refine wpList_load_whl rfl 30 (.tmp 3) rfl (w.heap.size) _ _ rfl H0.out _ Try.underlying30 rfl Try.sizeMem ?_) | (refine wpList_load_whl rfl 37 (.tmp 4) rfl (w.heap.size + 1) _ _ rfl H1.out _ Try.underlying37 rfl Try.sizeBrg ?_) | (refine wpList_load_whl rfl 62 (.tmp 5) rfl (w.heap.size + 1 + 1) _ _ rfl H2.out _ Try.underlying62 rfl Try.sizeAsk ?_))
  refine (mdma_kP xs M nm mc b L n c AD nd cd _ (ints_now HM.out HB.out) (lines_now HL.out HB.out) a (ints_now HD.out HB.out) (ys, d9, t9) E na HA.out HEE.out HNA.out).mono ?_
  rintro e w1 ⟨M9, mc9, L9, n9, c9, D9, dn9, dc9, T9, tn9, tc9, rfl, hm1, hl1, hd1, ht1, hb, fM, fL, fD, fT⟩
  have IM9 := Lib.hid hm1
  have IL9 := Lib.hid hl1
  have ID9 := Lib.hid hd1
  have IT9 := Lib.hid ht1
  have hz1 := hb.size
  replace H0 := Lib.hid (whl_since H0.out hb)
  replace H1 := Lib.hid (whl_since H1.out hb)
  replace H2 := Lib.hid (whl_since H2.out hb)
  replace HB := Lib.hid (HB.out.trans (hb.mono HB.out.size))
  clear hb hm1 hl1 hd1 ht1 fM fL fD fT
  go_upto_region 2 with (first
    | (refine wpList_store_all rfl 30 (.tmp 7) (.tmp 26) rfl (w1.heap.size) _ _ #[.slice M9 na mc9] rfl rfl (whl_alloc (whl_alloc (whl_new w1 _ _ rfl) _) _) Try.sizeMem rfl rfl ?_; intro w2 h7 t4)
    | (refine wpList_store_all rfl 37 (.tmp 8) (.tmp 27) rfl (w1.heap.size + 1) _ _ #[.int .i64 d9.mode, .int .i64 d9.base, .slice L9 n9 c9, .int .i64 d9.orders.page, .int .i64 d9.orders.head, .int .i64 d9.orders.tail, .bool d9.stopped, .int .i64 d9.fences, .int .i64 d9.faults.page, .int .i64 d9.faults.head, .int .i64 d9.faults.tail, .bool d9.lost] rfl rfl (whl_trn (whl_alloc (whl_new (w1.alloc _) _ _ (by simp)) _) t4 (by omega)) Try.sizeBrg rfl rfl ?_; intro w3 h8 t5)
    | (refine wpList_store_all rfl 65 (.tmp 9) (.tmp 28) rfl (w1.heap.size + 1 + 1) _ _ #[.bool t9.done, .slice D9 dn9 dc9, .int .i64 t9.fault, .slice T9 tn9 tc9] rfl rfl (whl_trn (whl_trn (whl_new ((w1.alloc _).alloc _) _ _ (by simp)) t4 (by omega)) t5 (by omega)) Try.sizeTold rfl rfl ?_; intro w4 h9 t6))
  have hw4 := t4.2
  have hw5 := t5.2
  have hw6 := t6.2
  (try simp only [World.size_alloc] at hw4)
  have hz4a : w4.heap.size ≤ w1.heap.size + 3 := by omega
  have hz4b : w1.heap.size + 3 ≤ w4.heap.size := by omega
  have C6 := chg_trans (chg_trans (chg_mono (Q := fun q => w1.heap.size ≤ q) t4.1 (fun q _ e => by omega)) (chg_mono t5.1 (fun q _ e => by omega))) (chg_mono t6.1 (fun q _ e => by omega))
  have hb : Below w1.heap.size w1 w4 := below_chg ((((Below.refl w1.heap.size w1).alloc (Nat.le_refl _) _).alloc (by simp) _).alloc (by simp; omega) _) (by simp; omega) C6 (fun q hq e => by omega)
  have H7 := Lib.hid (whl_trn (whl_trn h7 t5 (by omega)) t6 (by omega))
  have H8 := Lib.hid (whl_trn h8 t6 (by omega))
  have H9 := Lib.hid h9
  replace H0 := Lib.hid (whl_since H0.out hb)
  replace H1 := Lib.hid (whl_since H1.out hb)
  replace H2 := Lib.hid (whl_since H2.out hb)
  replace HB := Lib.hid (HB.out.trans (hb.mono HB.out.size))
  replace IM9 := Lib.hid (ints_now IM9.out hb)
  replace IL9 := Lib.hid (lines_now IL9.out hb)
  replace ID9 := Lib.hid (ints_now ID9.out hb)
  replace IT9 := Lib.hid (tchs_now IT9.out hb)
  clear hb C6 t4 t5 t6 h7 h8 h9 hw4 hw5 hw6
  go_wp2_with fail
  refine (law_carried _).mono ?_
  rintro e w5 ⟨rfl, hb⟩
  replace H0 := Lib.hid (whl_since H0.out hb)
  replace H1 := Lib.hid (whl_since H1.out hb)
  replace H2 := Lib.hid (whl_since H2.out hb)
  replace HB := Lib.hid (HB.out.trans (hb.mono HB.out.size))
  replace IM9 := Lib.hid (ints_now IM9.out hb)
  replace IL9 := Lib.hid (lines_now IL9.out hb)
  replace ID9 := Lib.hid (ints_now ID9.out hb)
  replace IT9 := Lib.hid (tchs_now IT9.out hb)
  replace H7 := Lib.hid (whl_since H7.out hb)
  replace H8 := Lib.hid (whl_since H8.out hb)
  replace H9 := Lib.hid (whl_since H9.out hb)
  have hz5 := hb.size
  clear hb
  go_wp2_with fail
  refine (law_carried _).mono ?_
  rintro e w6 ⟨rfl, hb⟩
  have HE9 := Lib.hid (HB.out.trans (hb.mono HB.out.size))
  clear hb
  go_wp2
  go_ret
  exact ⟨rfl, HE9.out⟩
set_option maxRecDepth 100000 in
set_option maxHeartbeats 16000000 in
theorem dparts_ok (xs : List Int) (b : Brg) (a : Ask) (M L AD : Option Addr) (nm mc n c nd cd : Nat) (w : World) (hm : Ints w w.heap.size M 512 xs) (hl : Lines w w.heap.size L n c b.cache) (hd : Ints w w.heap.size AD nd a.data) (hcd : nd ≤ cd ∧ cd ≤ 9223372036854775807) (hE : dmaE xs b a = 0) :
    Calls Try.prog 9 #[.agg #[.slice M 512 mc], .agg #[.int .i64 b.mode, .int .i64 b.base, .slice L n c, .int .i64 b.orders.page, .int .i64 b.orders.head, .int .i64 b.orders.tail, .bool b.stopped, .int .i64 b.fences, .int .i64 b.faults.page, .int .i64 b.faults.head, .int .i64 b.faults.tail, .bool b.lost], .agg #[.int .i64 a.dev, .int .i64 a.at_, .int .i64 a.count, .bool a.wr, .slice AD nd cd]] w fun e w' => e = .returned (.bool true) ∧ Below w.heap.size w w' := by
  obtain ⟨ys, d9, t9, hA⟩ : ∃ ys d9 t9, dmaA xs b a = (ys, d9, t9) := ⟨_, _, _, rfl⟩
  obtain ⟨E, hEE⟩ : ∃ E, dmaE xs b a = E := ⟨_, rfl⟩
  rw [hEE] at hE
  obtain ⟨na, hna⟩ : ∃ na, (if E = 0 then 512 else 0) = na := ⟨_, rfl⟩
  obtain rfl : na = 512 := by rw [← hna, if_pos hE]
  subst hE
  have HI0 := Lib.hid (DI.start (xs := xs) (b := b) hEE)
  have hR : dmaM xs b a = (ys, d9, t9) := by have h := hA; unfold dmaA at h; rw [hEE, if_pos rfl] at h; exact h
  rw [hR] at HI0
  have HRQ := Lib.hid (dmaE_inv hEE).2.2
  obtain ⟨i0, hi, hi0, hi1, hi2⟩ := info_parts Try.infoInt
  obtain ⟨j0, hj, hj0, hj1, hj2⟩ := info_parts Try.infoTch
  have HI := Lib.hid hi
  have HI0x := Lib.hid hi0
  have HI1 := Lib.hid hi1
  have HI2 := Lib.hid hi2
  have HG := Lib.hid hj
  have HG0 := Lib.hid hj0
  have HG1 := Lib.hid hj1
  have HG2 := Lib.hid hj2
  clear hi hi0 hi1 hi2 hj hj0 hj1 hj2
  clear hR
  have HNA := Lib.hid hna
  have HA := Lib.hid hA
  have HEE := Lib.hid hEE
  have HM := Lib.hid hm
  have HL := Lib.hid hl
  have HD := Lib.hid hd
  have HCD := Lib.hid hcd
  clear hna hA hEE hm hl hd hcd
  go_enter Try.func9, Try.ntmps9
  go_upto_region 1 with (fail)
  generalize hw0 : ((w.alloc (.cells #[.slice M 512 mc] 30)).alloc (.cells #[.int .i64 b.mode, .int .i64 b.base, .slice L n c, .int .i64 b.orders.page, .int .i64 b.orders.head, .int .i64 b.orders.tail, .bool b.stopped, .int .i64 b.fences, .int .i64 b.faults.page, .int .i64 b.faults.head, .int .i64 b.faults.tail, .bool b.lost] 37)).alloc (.cells #[.int .i64 a.dev, .int .i64 a.at_, .int .i64 a.count, .bool a.wr, .slice AD nd cd] 62) = w0
  have H0 := Lib.hid (show Whl w0 w.heap.size 30 #[.slice M 512 mc] by rw [← hw0]; exact whl_alloc (whl_alloc (whl_new _ _ _ rfl) _) _)
  have H1 := Lib.hid (show Whl w0 (w.heap.size + 1) 37 #[.int .i64 b.mode, .int .i64 b.base, .slice L n c, .int .i64 b.orders.page, .int .i64 b.orders.head, .int .i64 b.orders.tail, .bool b.stopped, .int .i64 b.fences, .int .i64 b.faults.page, .int .i64 b.faults.head, .int .i64 b.faults.tail, .bool b.lost] by rw [← hw0]; exact whl_alloc (whl_new _ _ _ (by simp)) _)
  have H2 := Lib.hid (show Whl w0 (w.heap.size + 1 + 1) 62 #[.int .i64 a.dev, .int .i64 a.at_, .int .i64 a.count, .bool a.wr, .slice AD nd cd] by rw [← hw0]; exact whl_new _ _ _ (by simp))
  have HB := Lib.hid (show Below w.heap.size w w0 by rw [← hw0]; (repeat (first | (with_reducible exact Below.refl _ _) | (with_reducible refine Below.drew ?_) | (with_reducible refine bdrewN ?_ _) | ((with_reducible refine Below.setCell ?_ ?_ _); rotate_left; exact (by first | (simp; done) | (simp; omega) | omega)) | ((with_reducible refine Below.alloc ?_ ?_ _); rotate_left; exact (by first | (simp; done) | (simp; omega) | omega)))))
  have hz0a : w0.heap.size ≤ w.heap.size + 3 := by rw [← hw0]; simp
  have hz0b : w.heap.size + 3 ≤ w0.heap.size := by rw [← hw0]; simp
  clear hw0
  go_wp2_with (first | (refine wpList_load_whl rfl 30 (.tmp 3) rfl (w.heap.size) _ _ rfl H0.out _ Try.underlying30 rfl Try.sizeMem ?_) | (refine wpList_load_whl rfl 37 (.tmp 4) rfl (w.heap.size + 1) _ _ rfl H1.out _ Try.underlying37 rfl Try.sizeBrg ?_) | (refine wpList_load_whl rfl 62 (.tmp 5) rfl (w.heap.size + 1 + 1) _ _ rfl H2.out _ Try.underlying62 rfl Try.sizeAsk ?_))
  refine (mdma_kP xs M 512 mc b L n c AD nd cd _ (ints_now HM.out HB.out) (lines_now HL.out HB.out) a (ints_now HD.out HB.out) (ys, d9, t9) 0 512 HA.out HEE.out HNA.out).mono ?_
  rintro e w1 ⟨M9, mc9, L9, n9, c9, D9, dn9, dc9, T9, tn9, tc9, rfl, hm1, hl1, hd1, ht1, hb, fM, fL, fD, fT⟩
  have IM9 := Lib.hid hm1
  have IL9 := Lib.hid hl1
  have ID9 := Lib.hid hd1
  have IT9 := Lib.hid ht1
  have hz1 := hb.size
  replace H0 := Lib.hid (whl_since H0.out hb)
  replace H1 := Lib.hid (whl_since H1.out hb)
  replace H2 := Lib.hid (whl_since H2.out hb)
  replace HB := Lib.hid (HB.out.trans (hb.mono HB.out.size))
  clear hb hm1 hl1 hd1 ht1 fM fL fD fT
  go_upto_region 2 with (first
    | (refine wpList_store_all rfl 30 (.tmp 7) (.tmp 26) rfl (w1.heap.size) _ _ #[.slice M9 512 mc9] rfl rfl (whl_alloc (whl_alloc (whl_new w1 _ _ rfl) _) _) Try.sizeMem rfl rfl ?_; intro w2 h7 t4)
    | (refine wpList_store_all rfl 37 (.tmp 8) (.tmp 27) rfl (w1.heap.size + 1) _ _ #[.int .i64 d9.mode, .int .i64 d9.base, .slice L9 n9 c9, .int .i64 d9.orders.page, .int .i64 d9.orders.head, .int .i64 d9.orders.tail, .bool d9.stopped, .int .i64 d9.fences, .int .i64 d9.faults.page, .int .i64 d9.faults.head, .int .i64 d9.faults.tail, .bool d9.lost] rfl rfl (whl_trn (whl_alloc (whl_new (w1.alloc _) _ _ (by simp)) _) t4 (by omega)) Try.sizeBrg rfl rfl ?_; intro w3 h8 t5)
    | (refine wpList_store_all rfl 65 (.tmp 9) (.tmp 28) rfl (w1.heap.size + 1 + 1) _ _ #[.bool t9.done, .slice D9 dn9 dc9, .int .i64 t9.fault, .slice T9 tn9 tc9] rfl rfl (whl_trn (whl_trn (whl_new ((w1.alloc _).alloc _) _ _ (by simp)) t4 (by omega)) t5 (by omega)) Try.sizeTold rfl rfl ?_; intro w4 h9 t6))
  have hw4 := t4.2
  have hw5 := t5.2
  have hw6 := t6.2
  (try simp only [World.size_alloc] at hw4)
  have hz4a : w4.heap.size ≤ w1.heap.size + 3 := by omega
  have hz4b : w1.heap.size + 3 ≤ w4.heap.size := by omega
  have C6 := chg_trans (chg_trans (chg_mono (Q := fun q => w1.heap.size ≤ q) t4.1 (fun q _ e => by omega)) (chg_mono t5.1 (fun q _ e => by omega))) (chg_mono t6.1 (fun q _ e => by omega))
  have hb : Below w1.heap.size w1 w4 := below_chg ((((Below.refl w1.heap.size w1).alloc (Nat.le_refl _) _).alloc (by simp) _).alloc (by simp; omega) _) (by simp; omega) C6 (fun q hq e => by omega)
  have H7 := Lib.hid (whl_trn (whl_trn h7 t5 (by omega)) t6 (by omega))
  have H8 := Lib.hid (whl_trn h8 t6 (by omega))
  have H9 := Lib.hid h9
  replace H0 := Lib.hid (whl_since H0.out hb)
  replace H1 := Lib.hid (whl_since H1.out hb)
  replace H2 := Lib.hid (whl_since H2.out hb)
  replace HB := Lib.hid (HB.out.trans (hb.mono HB.out.size))
  replace IM9 := Lib.hid (ints_now IM9.out hb)
  replace IL9 := Lib.hid (lines_now IL9.out hb)
  replace ID9 := Lib.hid (ints_now ID9.out hb)
  replace IT9 := Lib.hid (tchs_now IT9.out hb)
  clear hb C6 t4 t5 t6 h7 h8 h9 hw4 hw5 hw6
  go_wp2_with fail
  refine (law_carried _).mono ?_
  rintro e w5 ⟨rfl, hb⟩
  replace H0 := Lib.hid (whl_since H0.out hb)
  replace H1 := Lib.hid (whl_since H1.out hb)
  replace H2 := Lib.hid (whl_since H2.out hb)
  replace HB := Lib.hid (HB.out.trans (hb.mono HB.out.size))
  replace IM9 := Lib.hid (ints_now IM9.out hb)
  replace IL9 := Lib.hid (lines_now IL9.out hb)
  replace ID9 := Lib.hid (ints_now ID9.out hb)
  replace IT9 := Lib.hid (tchs_now IT9.out hb)
  replace H7 := Lib.hid (whl_since H7.out hb)
  replace H8 := Lib.hid (whl_since H8.out hb)
  replace H9 := Lib.hid (whl_since H9.out hb)
  have hz5 := hb.size
  clear hb
  have R9 := Lib.hid (And.intro (rowIn_ints IM9.out) (And.intro (rowIn_lines IL9.out) (And.intro (rowIn_ints ID9.out) (rowIn_tchs IT9.out))))
  have f3 := fun o => whl_cell H0.out o
  have f4 := fun o => whl_cell H1.out o
  have l3 : w.heap.size < w5.heap.size := by omega
  have l4 : w.heap.size + 1 < w5.heap.size := by omega
  go_upto_region 4 with (fail)
  go_cut [11, 12] (fun s11 s12 wd => ∃ g11 g12, s11 = .pointer (some ⟨g11, 0, none⟩) ∧ s12 = .pointer (some ⟨g12, 0, none⟩) ∧ Whl wd g11 30 #[.slice M 512 mc] ∧ Whl wd g12 37 #[.int .i64 b.mode, .int .i64 b.base, .slice L n c, .int .i64 b.orders.page, .int .i64 b.orders.head, .int .i64 b.orders.tail, .bool b.stopped, .int .i64 b.fences, .int .i64 b.faults.page, .int .i64 b.faults.head, .int .i64 b.faults.tail, .bool b.lost] ∧ (w5.heap.size ≤ g11 ∧ w5.heap.size ≤ g12 ∧ g11 ≠ g12) ∧ Since w5 wd)
  case first =>
    go_region
    all_goals
      go_wp2
      go_meet
      refine ⟨_, _, rfl, rfl, ?_, ?_, ?_, ?_⟩
      · (refine whl_exP ?_ rfl; (repeat (first | ((with_reducible refine whl_drew ?_)) | ((with_reducible refine whl_new _ _ _ ?_); (simp; done)) | (with_reducible refine whl_alloc ?_ _))); done)
      · (refine whl_exP ?_ rfl; (repeat (first | ((with_reducible refine whl_drew ?_)) | ((with_reducible refine whl_new _ _ _ ?_); (simp; done)) | (with_reducible refine whl_alloc ?_ _))); done)
      · refine ⟨?_, ?_, ?_⟩ <;> first | (simp; done) | (simp; omega) | omega
      · show Below w5.heap.size w5 _
        (repeat (first | (with_reducible exact Below.refl _ _) | (with_reducible refine Below.drew ?_) | (with_reducible refine bdrewN ?_ _) | ((with_reducible refine Below.setCell ?_ ?_ _); rotate_left; exact (by first | (simp; done) | (simp; omega) | omega)) | ((with_reducible refine Below.alloc ?_ ?_ _); rotate_left; exact (by first | (simp; done) | (simp; omega) | omega))))
  case rest =>
    obtain ⟨g11, g12, rfl, rfl, h11, h12, ⟨hg11, hg12, hne⟩, hb⟩ := hcut
    clear f3 f4 l3 l4
    obtain ⟨w6, hw6⟩ : ∃ w6, w6 = wc := ⟨_, rfl⟩
    subst hw6
    change Below w5.heap.size w5 w6 at hb
    replace H2 := Lib.hid (whl_since H2.out hb)
    replace HB := Lib.hid (HB.out.trans (hb.mono HB.out.size))
    replace IM9 := Lib.hid (ints_now IM9.out hb)
    replace IL9 := Lib.hid (lines_now IL9.out hb)
    replace ID9 := Lib.hid (ints_now ID9.out hb)
    replace IT9 := Lib.hid (tchs_now IT9.out hb)
    replace H7 := Lib.hid (whl_since H7.out hb)
    replace H8 := Lib.hid (whl_since H8.out hb)
    replace H9 := Lib.hid (whl_since H9.out hb)
    have hz6 := hb.size
    have H11 := Lib.hid h11
    have H12 := Lib.hid h12
    have hl11 := whl_lt h11
    have hl12 := whl_lt h12
    have HLO := Lib.hid (show w.heap.size ≤ w5.heap.size from by omega)
    clear hb h11 h12
    go_upto_region 6 with (fail)
    generalize hwb : w6.alloc (.cells #[.bool false, .slice none 0 0, .int .i64 0, .slice none 0 0] 65) = w7
    have H13 := Lib.hid (show Whl w7 w6.heap.size 65 #[.bool false, .slice none 0 0, .int .i64 0, .slice none 0 0] by rw [← hwb]; exact whl_new _ _ _ rfl)
    have hb : Below w6.heap.size w6 w7 := by rw [← hwb]; exact below_alloc _ _
    have hz7 : w6.heap.size + 1 ≤ w7.heap.size := by rw [← hwb]; simp
    replace H2 := Lib.hid (whl_since H2.out hb)
    replace HB := Lib.hid (HB.out.trans (hb.mono HB.out.size))
    replace IM9 := Lib.hid (ints_now IM9.out hb)
    replace IL9 := Lib.hid (lines_now IL9.out hb)
    replace ID9 := Lib.hid (ints_now ID9.out hb)
    replace IT9 := Lib.hid (tchs_now IT9.out hb)
    replace H7 := Lib.hid (whl_since H7.out hb)
    replace H8 := Lib.hid (whl_since H8.out hb)
    replace H9 := Lib.hid (whl_since H9.out hb)
    replace H11 := Lib.hid (whl_since H11.out hb)
    replace H12 := Lib.hid (whl_since H12.out hb)
    have J0 : Hid (DJ a (ys, d9, t9) w7.heap.size g11 g12 w6.heap.size w 0 xs b .no M mc L n c none 0 0 none 0 0 w7) := Lib.hid ⟨H11.out, H12.out, H13.out, ⟨ints_now HM.out HB.out, lines_now HL.out HB.out, ints_no _, tchs_none _ _, ⟨rfl, Nat.le_refl _, Nat.zero_le _, World.ownsRow_nil _ _ _ _⟩, ⟨rfl, Nat.le_refl _, Nat.zero_le _, World.ownsRow_nil _ _ _ _⟩, fun h0 ad e => ⟨Nat.zero_le _, (fun _ h => nomatch h), (fun _ h => nomatch h)⟩, fun h0 ad e => ⟨Nat.zero_le _, (fun _ h => nomatch h), (fun _ h => nomatch h)⟩, rowIn_0, rowIn_0, (fun _ _ h => nomatch h)⟩, HI0.out, HB.out⟩
    have JM : Hid (RowIn (fun q => q < w.heap.size) M 512 ∧ RowIn (fun q => q < w.heap.size) L n) := Lib.hid ⟨rowIn_ints HM.out, rowIn_lines HL.out⟩
    clear hwb hb H11 H12 H13 HI0
    have HB0 := Lib.hid HB.out
    go_wp2
    go_loopw [14] (fun s14 wr => ∃ (i : Nat) (x : List Int) (d : Brg) (u : Tld) (M : Option Addr) (mc : Nat) (L : Option Addr) (n c : Nat) (D : Option Addr) (dn dc : Nat) (T : Option Addr) (tn tc : Nat), s14 = .int .i64 i ∧ Hid (DJ a (ys, d9, t9) w7.heap.size g11 g12 w6.heap.size w i x d u M mc L n c D dn dc T tn tc wr) ∧ Hid (Chg (fun q => q = g11 ∨ q = g12 ∨ q = w6.heap.size) w7 wr) ∧ Hid (RowIn (fun q => q < w.heap.size ∨ w7.heap.size ≤ q) M 512 ∧ RowIn (fun q => q < w.heap.size ∨ w7.heap.size ≤ q) L n)) (fun s14 _ => a.count.toNat - (intOf s14).toNat)
    case atStart => exact ⟨0, xs, b, .no, M, mc, L, n, c, none, 0, 0, none, 0, 0, rfl, J0.out, chg_refl _, JM.out.1.mono (fun q hq => Or.inl hq), JM.out.2.mono (fun q hq => Or.inl hq)⟩
    case round =>
      clear J0 JM
      obtain ⟨i, x, d, u, M, mc, L, n, c, D, dn, dc, T, tn, tc, rfl, hj, hbj, hrw⟩ := hrel
      have HJ := Lib.hid hj.out
      have HBJ := Lib.hid hbj.out
      have HRW := Lib.hid hrw.out
      have hzr := hbj.out.size
      have H2r := Lib.hid (whl_chgP H2.out hbj.out (fun e => by omega))
      clear hj hbj hrw
      have hcnt := (reqE_inv HRQ.out).1
      have hile := HJ.out.iv.le
      have f5 := fun o => whl_cell H2r.out o
      have l5 : w.heap.size + 1 + 1 < wr.heap.size := by omega
      have l13 : w6.heap.size < wr.heap.size := by omega
      by_cases hlt : i < a.count.toNat
      rotate_left
      · have q1 : ¬ ((i : Int) < a.count) := by omega
        have HR := Lib.hid (HJ.out.iv.done HRQ.out (Or.inr (by omega)))
        clear hlt
        go_upto_region 18 with (fail)
        have H7x := Lib.hid (whl_chgP H7.out HBJ.out (fun e => by omega))
        have H8x := Lib.hid (whl_chgP H8.out HBJ.out (fun e => by omega))
        have H9x := Lib.hid (whl_chgP H9.out HBJ.out (fun e => by omega))
        have HV := Lib.hid (show ys = x ∧ d9 = d ∧ t9 = u from by have h := HR.out; injection h with h1 h2; injection h2 with h2 h3; exact ⟨h1, h2, h3⟩)
        have IMx := Lib.hid (chg_ints0 IM9.out HBJ.out R9.out.1 (fun q e hq => by omega))
        have ILx := Lib.hid (chg_lines0 IL9.out HBJ.out R9.out.2.1 (fun q e hq => by omega))
        have IDx := Lib.hid (chg_ints0 ID9.out HBJ.out R9.out.2.2.1 (fun q e hq => by omega))
        have ITx := Lib.hid (chg_tchs0 IT9.out HBJ.out R9.out.2.2.2 (fun q e hq => by omega))
        have HEA := Lib.hid (show eqI ys x = true by rw [HV.out.1]; simp [eqI])
        have HEB := Lib.hid (show sameB d9 d = true by rw [HV.out.2.1]; simp [sameB])
        have HET := Lib.hid (show sameT t9 u = true by rw [HV.out.2.2]; simp [sameT])
        have H11 := Lib.hid HJ.out.h11
        have hsz11 := whl_lt HJ.out.h11
        have hsz12 := whl_lt HJ.out.h12
        clear q1 f5 l5 l13 hcnt hile
        go_wp2_with (first | (refine wpList_load_whl rfl 30 (.tmp 7) rfl (w1.heap.size) _ _ rfl H7x.out _ Try.underlying30 rfl Try.sizeMem ?_) | (refine wpList_load_whl rfl 30 (.tmp 11) rfl (g11) _ _ rfl H11.out _ Try.underlying30 rfl Try.sizeMem ?_))
        refine (mem_Same M9 M 512 512 mc9 mc ys x _ IMx.out HJ.out.q.im).mono ?_
        rw [HEA.out]
        rintro e wx ⟨rfl, hb⟩
        have hzx := hb.size
        replace HJ := Lib.hid (HJ.out.since hb)
        replace H8x := Lib.hid (whl_since H8x.out hb)
        replace H9x := Lib.hid (whl_since H9x.out hb)
        replace ILx := Lib.hid (lines_now ILx.out hb)
        replace IDx := Lib.hid (ints_now IDx.out hb)
        replace ITx := Lib.hid (tchs_now ITx.out hb)
        clear hb H11 H7x
        have k8 := fun o => whl_cell H8x.out o
        have k12 := fun o => whl_cell HJ.out.h12 o
        have m8 := whl_lt H8x.out
        have m12 := whl_lt HJ.out.h12
        go_wp2_with fail
        clear k8 k12 m8 m12
        refine (bridge_Same d9 d L9 L n9 c9 n c _ ILx.out HJ.out.q.il).mono ?_
        rw [HEB.out]
        rintro e wv ⟨rfl, hb⟩
        have hzv := hb.size
        replace HJ := Lib.hid (HJ.out.since hb)
        replace H9x := Lib.hid (whl_since H9x.out hb)
        replace IDx := Lib.hid (ints_now IDx.out hb)
        replace ITx := Lib.hid (tchs_now ITx.out hb)
        clear hb
        have k9 := fun o => whl_cell H9x.out o
        have k13 := fun o => whl_cell HJ.out.h13 o
        have m9 := whl_lt H9x.out
        have m13 := whl_lt HJ.out.h13
        go_wp2_with fail
        clear k9 k13 m9 m13
        refine (ref_SameTold t9 u D9 D T9 T dn9 dc9 dn dc tn9 tc9 tn tc _ IDx.out (odt_ints HJ.out.q.od) ITx.out HJ.out.q.ot.tchs).mono ?_
        rw [HET.out]
        rintro e wu ⟨rfl, hb⟩
        have HFIN := Lib.hid (HJ.out.sb.trans (hb.mono HJ.out.sb.size))
        clear hb
        go_wp2
        go_ret
        exact ⟨rfl, HFIN.out⟩
      by_cases hf : u.fault = 0
      rotate_left
      · have q1 : (i : Int) < a.count := by omega
        have q2 : (u.fault == 0) = false := beq_eq_false_iff_ne.2 hf
        have HR := Lib.hid (HJ.out.iv.done HRQ.out (Or.inl hf))
        have f13 : wr.cell? ⟨w6.heap.size, 2, none⟩ = some (.int .i64 u.fault) := whl_cell HJ.out.h13 2
        clear hlt hf
        go_upto_region 18 with (fail)
        have H7x := Lib.hid (whl_chgP H7.out HBJ.out (fun e => by omega))
        have H8x := Lib.hid (whl_chgP H8.out HBJ.out (fun e => by omega))
        have H9x := Lib.hid (whl_chgP H9.out HBJ.out (fun e => by omega))
        have HV := Lib.hid (show ys = x ∧ d9 = d ∧ t9 = u from by have h := HR.out; injection h with h1 h2; injection h2 with h2 h3; exact ⟨h1, h2, h3⟩)
        have IMx := Lib.hid (chg_ints0 IM9.out HBJ.out R9.out.1 (fun q e hq => by omega))
        have ILx := Lib.hid (chg_lines0 IL9.out HBJ.out R9.out.2.1 (fun q e hq => by omega))
        have IDx := Lib.hid (chg_ints0 ID9.out HBJ.out R9.out.2.2.1 (fun q e hq => by omega))
        have ITx := Lib.hid (chg_tchs0 IT9.out HBJ.out R9.out.2.2.2 (fun q e hq => by omega))
        have HEA := Lib.hid (show eqI ys x = true by rw [HV.out.1]; simp [eqI])
        have HEB := Lib.hid (show sameB d9 d = true by rw [HV.out.2.1]; simp [sameB])
        have HET := Lib.hid (show sameT t9 u = true by rw [HV.out.2.2]; simp [sameT])
        have H11 := Lib.hid HJ.out.h11
        have hsz11 := whl_lt HJ.out.h11
        have hsz12 := whl_lt HJ.out.h12
        clear q1 q2 f13 f5 l5 l13 hcnt hile
        go_wp2_with (first | (refine wpList_load_whl rfl 30 (.tmp 7) rfl (w1.heap.size) _ _ rfl H7x.out _ Try.underlying30 rfl Try.sizeMem ?_) | (refine wpList_load_whl rfl 30 (.tmp 11) rfl (g11) _ _ rfl H11.out _ Try.underlying30 rfl Try.sizeMem ?_))
        refine (mem_Same M9 M 512 512 mc9 mc ys x _ IMx.out HJ.out.q.im).mono ?_
        rw [HEA.out]
        rintro e wx ⟨rfl, hb⟩
        have hzx := hb.size
        replace HJ := Lib.hid (HJ.out.since hb)
        replace H8x := Lib.hid (whl_since H8x.out hb)
        replace H9x := Lib.hid (whl_since H9x.out hb)
        replace ILx := Lib.hid (lines_now ILx.out hb)
        replace IDx := Lib.hid (ints_now IDx.out hb)
        replace ITx := Lib.hid (tchs_now ITx.out hb)
        clear hb H11 H7x
        have k8 := fun o => whl_cell H8x.out o
        have k12 := fun o => whl_cell HJ.out.h12 o
        have m8 := whl_lt H8x.out
        have m12 := whl_lt HJ.out.h12
        go_wp2_with fail
        clear k8 k12 m8 m12
        refine (bridge_Same d9 d L9 L n9 c9 n c _ ILx.out HJ.out.q.il).mono ?_
        rw [HEB.out]
        rintro e wv ⟨rfl, hb⟩
        have hzv := hb.size
        replace HJ := Lib.hid (HJ.out.since hb)
        replace H9x := Lib.hid (whl_since H9x.out hb)
        replace IDx := Lib.hid (ints_now IDx.out hb)
        replace ITx := Lib.hid (tchs_now ITx.out hb)
        clear hb
        have k9 := fun o => whl_cell H9x.out o
        have k13 := fun o => whl_cell HJ.out.h13 o
        have m9 := whl_lt H9x.out
        have m13 := whl_lt HJ.out.h13
        go_wp2_with fail
        clear k9 k13 m9 m13
        refine (ref_SameTold t9 u D9 D T9 T dn9 dc9 dn dc tn9 tc9 tn tc _ IDx.out (odt_ints HJ.out.q.od) ITx.out HJ.out.q.ot.tchs).mono ?_
        rw [HET.out]
        rintro e wu ⟨rfl, hb⟩
        have HFIN := Lib.hid (HJ.out.sb.trans (hb.mono HJ.out.sb.size))
        clear hb
        go_wp2
        go_ret
        exact ⟨rfl, HFIN.out⟩
      obtain ⟨k, hk⟩ : ∃ k, kOf a i = k := ⟨_, rfl⟩
      obtain ⟨p1, p2, p2b, p3, p4⟩ := HJ.out.iv.next HRQ.out hf hlt hk
      obtain ⟨y, f, p, hR⟩ : ∃ y f p, dmaM x d (part a i k) = (y, f, p) := ⟨_, _, _, rfl⟩
      obtain ⟨p5, p6, p7⟩ := p4 y f p hR
      have P1 := Lib.hid p1
      have P5 := Lib.hid p5
      have P67 := Lib.hid (And.intro p6 p7)
      have PA := Lib.hid (show dmaA x d (part a i k) = (y, f, p) by unfold dmaA; rw [if_pos p1]; exact hR)
      have q1 : (i : Int) < a.count := by omega
      have hat := (reqE_inv HRQ.out).2.1
      unfold reqR at hat
      have f13 : wr.cell? ⟨w6.heap.size, 2, none⟩ = some (.int .i64 0) := (whl_cell HJ.out.h13 2).trans (by show some (Value.int .i64 u.fault) = _; rw [hf])
      have HKM := Lib.hid (show min (a.count - (i : Int)) (8 - (a.at_ + (i : Int)) % 8) = (k : Int) by
        have hm : 0 ≤ (a.at_ + (i : Int)) % 8 ∧ (a.at_ + (i : Int)) % 8 < 8 := ⟨Int.emod_nonneg _ (by decide), Int.emod_lt_of_pos _ (by decide)⟩
        unfold kOf at hk
        omega)
      have e1 : IntKind.i64.wrap (a.count - (i : Int)) = a.count - (i : Int) := IntWalk.i64_in _ (by omega)
      have e2 : IntKind.i64.wrap (a.at_ + (i : Int)) = a.at_ + (i : Int) := IntWalk.i64_in _ (by omega)
      have e3 : (a.at_ + (i : Int)).tmod 8 = (a.at_ + (i : Int)) % 8 := Int.tmod_eq_emod_of_nonneg (by omega)
      have e5 : IntKind.i64.wrap ((a.at_ + (i : Int)) % 8) = (a.at_ + (i : Int)) % 8 := IntWalk.i64_in _ (by omega)
      have e4 : IntKind.i64.wrap (8 - (a.at_ + (i : Int)) % 8) = 8 - (a.at_ + (i : Int)) % 8 := IntWalk.i64_in _ (by omega)
      have e6 : IntKind.i64.wrap ((i : Int) + (k : Int)) = (i : Int) + (k : Int) := IntWalk.i64_in _ (by omega)
      have HRNG := Lib.hid (And.intro p2 (And.intro p2b p3))
      have HF0 := Lib.hid hf
      clear p1 p2 p2b p3 p4 p5 p6 p7 hR hk hat hlt hf
      go_upto_region 8 with (fail)
      clear q1 f13
      go_cut [15] (fun s15 we => s15 = .int .i64 (k : Int) ∧ we = wr)
      case first =>
        rcases Int.lt_or_le (8 - (a.at_ + (i : Int)) % 8) (a.count - (i : Int)) with hm | hm
        · have q1 : ¬ (a.count - (i : Int) ≤ 8 - (a.at_ + (i : Int)) % 8) := by omega
          have HQ := Lib.hid (show 8 - (a.at_ + (i : Int)) % 8 = (k : Int) by have := HKM.out; omega)
          clear hm
          go_wp2
          go_meet
          exact ⟨by rw [HQ.out], rfl⟩
        · have HQ := Lib.hid (show a.count - (i : Int) = (k : Int) by have := HKM.out; omega)
          go_wp2
          go_meet
          exact ⟨by rw [HQ.out], rfl⟩
      case rest =>
        obtain ⟨rfl, rfl⟩ := hcut
        obtain ⟨wr, hwr⟩ : ∃ wr, wr = wc := ⟨_, rfl⟩
        subst hwr
        clear e1 e3 e4 e5
        go_upto_region 10 with (refine wpList_store_new rfl 62 (.tmp 16) (.tmp 68) rfl _ _ _ #[.int .i64 a.dev, .int .i64 (a.at_ + (i : Int)), .int .i64 (k : Int), .bool a.wr, .slice none 0 0] rfl rfl (by rfl) (by rfl) Try.sizeAsk rfl (by rfl) ?_)
        generalize hwb : wr.alloc (.cells #[.int .i64 a.dev, .int .i64 (a.at_ + (i : Int)), .int .i64 (k : Int), .bool a.wr, .slice none 0 0] 62) = wp
        have H16 := Lib.hid (show Whl wp wr.heap.size 62 #[.int .i64 a.dev, .int .i64 (a.at_ + (i : Int)), .int .i64 (k : Int), .bool a.wr, .slice none 0 0] by rw [← hwb]; exact whl_new _ _ _ rfl)
        have hb : Below wr.heap.size wr wp := by rw [← hwb]; exact below_alloc _ _
        have hzp : wr.heap.size + 1 ≤ wp.heap.size := by rw [← hwb]; simp
        have HJr := HJ
        have HBJr := HBJ
        replace HJ := Lib.hid (HJ.out.since hb)
        have HBW := Lib.hid hb
        have H2p := Lib.hid (whl_since H2r.out hb)
        replace HBJ := Lib.hid (chg_belP HBJ.out hb)
        clear hwb hb f5 e2 H2r
        obtain ⟨bk, hbk⟩ : ∃ bk, a.wr = bk := ⟨_, rfl⟩
        have HBK := Lib.hid hbk
        have f53 : wp.cell? ⟨w.heap.size + 1 + 1, 3, none⟩ = some (.bool bk) := (whl_cell H2p.out 3).trans (by show some (Value.bool a.wr) = _; rw [hbk])
        clear hbk
        have l5p : w.heap.size + 1 + 1 < wp.heap.size := by omega
        have HKC := Lib.hid (show a.wr = true → i + k ≤ nd from fun hw => by
          have h1 := (reqE_inv HRQ.out).2.2.1
          have h2 := HD.out.1
          have h3 := HRNG.out.2.2
          unfold reqN at h1
          rw [if_pos hw] at h1
          omega)
        go_upto_if 70 with (fail)
        clear f53
        go_cut [70] (fun _ we => ∃ A2 k2 c2, Hid (Whl we wr.heap.size 62 #[.int .i64 a.dev, .int .i64 (a.at_ + (i : Int)), .int .i64 (k : Int), .bool a.wr, .slice A2 k2 c2] ∧ Ints we we.heap.size A2 k2 (part a i k).data ∧ Below wr.heap.size wr we ∧ wp.heap.size ≤ we.heap.size))
        case first =>
          have f54 : wp.cell? ⟨w.heap.size + 1 + 1, 4, none⟩ = some (.slice AD nd cd) := whl_cell H2p.out 4
          have hbwr : Below wr.heap.size wr wp := HBW.out
          have HDp := Lib.hid (ints_now HD.out (HJ.out.sb))
          cases bk with
          | true =>
            have HW := HBK
            obtain ⟨A2, hs2, hi2⟩ := slice_midP AD nd cd i k (HKC.out HW.out) HCD.out.1
            have HX2 := Lib.hid hi2
            have HRA := Lib.hid (rowIn_ints (hi2 _ _ _ (ints_now HD.out HB0.out)))
            clear hi2 hbwr
            have t16 : Trn wr.heap.size wp (wp.setCell ⟨wr.heap.size, 4, none⟩ (.slice A2 k (cd - i))) := trn_set (whl_lt H16.out) 4 _
            have h16 : Whl (wp.setCell ⟨wr.heap.size, 4, none⟩ (.slice A2 k (cd - i))) wr.heap.size 62 #[.int .i64 a.dev, .int .i64 (a.at_ + (i : Int)), .int .i64 (k : Int), .bool a.wr, .slice A2 k (cd - i)] := whl_field H16.out 4 _ _ rfl
            have T16 := Lib.hid t16
            have W16 := Lib.hid h16
            have k16 := fun o => whl_cell H16.out o
            have z16 := fun o => whl_frozen H16.out o
            have l16 := whl_lt H16.out
            clear t16 h16
            go_wp2
            go_meet
            have t16 := T16.out
            refine ⟨A2, k, cd - i, W16.out, ?_, ?_, Nat.le_of_eq t16.2.symm⟩
            · have hx := HX2.out _ _ _ HDp.out
              have e : (part a i k).data = (a.data.drop i).take k := by unfold part; simp [HW.out]
              rw [e]
              exact chg_ints0 hx t16.1 (HRA.out) (fun q e hq => by omega)
            · exact below_trn HBW.out (HBW.out.size) t16 (Nat.le_refl _)
          | false =>
            have HW := HBK
            go_wp2
            go_meet
            refine ⟨none, 0, 0, H16.out, ?_, HBW.out, Nat.le_refl _⟩
            have e : (part a i k).data = [] := by unfold part; simp [HW.out]
            rw [e]
            exact ints_no _
        case rest =>
        obtain ⟨A2, k2, c2, hF⟩ := hcut
        obtain ⟨h16, hi2, hb, hzq⟩ := hF.out
        obtain ⟨wq, hwq⟩ : ∃ wq, wq = wc := ⟨_, rfl⟩
        subst hwq
        replace HJ := Lib.hid (HJr.out.since hb)
        replace HBJ := Lib.hid (chg_belP HBJr.out hb)
        clear HJr HBJr
        have H16q := Lib.hid h16
        have IA := Lib.hid hi2
        clear hF h16 hi2 hb H16 H2p HKC
        have H11 := Lib.hid HJ.out.h11
        have H12 := Lib.hid HJ.out.h12
        go_wp2_with (first
          | (refine wpList_load_whl rfl 30 (.tmp 11) rfl (g11) _ _ rfl H11.out _ Try.underlying30 rfl Try.sizeMem ?_)
          | (refine wpList_load_whl rfl 37 (.tmp 12) rfl (g12) _ _ rfl H12.out _ Try.underlying37 rfl Try.sizeBrg ?_)
          | (refine wpList_load_whl rfl 62 (.tmp 16) rfl (wr.heap.size) _ _ rfl H16q.out _ Try.underlying62 rfl Try.sizeAsk ?_))
        refine (mdma_kP x M 512 mc d L n c A2 k2 c2 _ HJ.out.q.im HJ.out.q.il (part a i k) IA.out (y, f, p) 0 512 PA.out P1.out rfl).mono ?_
        rintro e wz ⟨M1, mc1, L1, n1, c1, D1, dn1, dc1, T1, tn1, tc1, rfl, hm1, hl1, hd1, ht1, hb, fM, fL, fD, fT⟩
        have hzc := hb.size
        have HQ0 : Hid (RQ w7.heap.size wq.heap.size y f p.data p.touched u.data u.touched M1 L1 n1 c1 D1 dn1 dc1 T1 tn1 tc1 D dn dc T tn tc wz) := by
          have ob := own_blk HJ.out.q.od.2.2.2
          have tb := own_blk HJ.out.q.ot.2.2.2
          have hq := HJ.out.q.since hb
          have sep : ∀ ad : Addr, wq.heap.size ≤ ad.block → wq.heap.size ≤ ad.block ∧ nO D ad.block ∧ nO T ad.block := fun ad h => ⟨h, fun ad' e hh => by have := (ob ad' e).2; omega, fun ad' e hh => by have := (tb ad' e).2; omega⟩
          exact Lib.hid ⟨hm1, hl1, hd1, ht1, hq.od, hq.ot, fun h0 ad e => sep ad (fM ad e), fun h0 ad e => sep ad (fL ad e), fun h0 ad e => sep ad (fD ad e), fun h0 ad e => sep ad (fT ad e), hq.ap⟩
        have OBQ := Lib.hid (And.intro (own_blk HJ.out.q.od.2.2.2) (own_blk HJ.out.q.ot.2.2.2))
        replace H11 := Lib.hid (whl_since H11.out hb)
        replace H12 := Lib.hid (whl_since H12.out hb)
        have H13 := Lib.hid (whl_since HJ.out.h13 hb)
        have HIV := Lib.hid HJ.out.iv
        have HSB := Lib.hid (HJ.out.sb.trans (hb.mono HJ.out.sb.size))
        replace HBJ := Lib.hid (chg_belP HBJ.out hb)
        clear hb hm1 hl1 hd1 ht1 fM fL fD fT HJ IA H16q
        go_upto_region 13 with (first
          | (refine wpList_store_all rfl 30 (.tmp 17) (.tmp 84) rfl (wz.heap.size) _ _ #[.slice M1 512 mc1] rfl rfl (whl_alloc (whl_alloc (whl_new wz _ _ rfl) _) _) Try.sizeMem rfl rfl ?_; intro we h7 t4)
          | (refine wpList_store_all rfl 37 (.tmp 18) (.tmp 85) rfl (wz.heap.size + 1) _ _ #[.int .i64 f.mode, .int .i64 f.base, .slice L1 n1 c1, .int .i64 f.orders.page, .int .i64 f.orders.head, .int .i64 f.orders.tail, .bool f.stopped, .int .i64 f.fences, .int .i64 f.faults.page, .int .i64 f.faults.head, .int .i64 f.faults.tail, .bool f.lost] rfl rfl (whl_trn (whl_alloc (whl_new (wz.alloc _) _ _ (by simp)) _) t4 (by omega)) Try.sizeBrg rfl rfl ?_; intro wf h8 t5)
          | (refine wpList_store_all rfl 65 (.tmp 19) (.tmp 86) rfl (wz.heap.size + 1 + 1) _ _ #[.bool p.done, .slice D1 dn1 dc1, .int .i64 p.fault, .slice T1 tn1 tc1] rfl rfl (whl_trn (whl_trn (whl_new ((wz.alloc _).alloc _) _ _ (by simp)) t4 (by omega)) t5 (by omega)) Try.sizeTold rfl rfl ?_; intro wg h9 t6))
        have hw4 := t4.2
        have hw5 := t5.2
        have hw6 := t6.2
        (try simp only [World.size_alloc] at hw4)
        have hz4a : wg.heap.size ≤ wz.heap.size + 3 := by omega
        have hz4b : wz.heap.size + 3 ≤ wg.heap.size := by omega
        have C6 := chg_trans (chg_trans (chg_mono (Q := fun q => wz.heap.size ≤ q) t4.1 (fun q _ e => by omega)) (chg_mono t5.1 (fun q _ e => by omega))) (chg_mono t6.1 (fun q _ e => by omega))
        have hb : Below wz.heap.size wz wg := below_chg ((((Below.refl wz.heap.size wz).alloc (Nat.le_refl _) _).alloc (by simp) _).alloc (by simp; omega) _) (by simp; omega) C6 (fun q hq e => by omega)
        have H17 := Lib.hid (whl_trn (whl_trn h7 t5 (by omega)) t6 (by omega))
        have H18 := Lib.hid (whl_trn h8 t6 (by omega))
        have H19 := Lib.hid h9
        replace HQ0 := Lib.hid (HQ0.out.since hb)
        replace H11 := Lib.hid (whl_since H11.out hb)
        replace H12 := Lib.hid (whl_since H12.out hb)
        replace H13 := Lib.hid (whl_since H13.out hb)
        replace HSB := Lib.hid (HSB.out.trans (hb.mono HSB.out.size))
        replace HBJ := Lib.hid (chg_belP HBJ.out hb)
        have l11 := whl_lt H11.out
        have l12 := whl_lt H12.out
        clear hb C6 t4 t5 t6 h7 h8 h9 hw4 hw5 hw6
        go_upto_region 15 with (fail)
        go_cut [14] (fun s14 we => s14 = .int .i64 ((i : Int) + (k : Int)) ∧ Hid (Whl we g11 30 #[.slice M1 512 mc1] ∧ Whl we g12 37 #[.int .i64 f.mode, .int .i64 f.base, .slice L1 n1 c1, .int .i64 f.orders.page, .int .i64 f.orders.head, .int .i64 f.orders.tail, .bool f.stopped, .int .i64 f.fences, .int .i64 f.faults.page, .int .i64 f.faults.head, .int .i64 f.faults.tail, .bool f.lost] ∧ Chg (fun q => q = g11 ∨ q = g12) wg we))
        case first =>
          refine wp_region_held_drew (S := fun W' => Whl W' wz.heap.size 30 #[.slice M1 512 mc1] ∧ Whl W' (wz.heap.size + 1) 37 #[.int .i64 f.mode, .int .i64 f.base, .slice L1 n1 c1, .int .i64 f.orders.page, .int .i64 f.orders.head, .int .i64 f.orders.tail, .bool f.stopped, .int .i64 f.fences, .int .i64 f.faults.page, .int .i64 f.faults.head, .int .i64 f.faults.tail, .bool f.lost]) (by kernel_rfl) ⟨whl_drew H17.out, whl_drew H18.out⟩ (fun hS0 => ?_)
          have HS := Lib.hid hS0
          clear hS0
          refine take_atR (i := 0) (d := 90) (v := .agg #[.slice M1 512 mc1]) rfl rfl (by kernel_rfl) (by kernel_rfl) (by kernel_rfl) (fun _ _ _ h => h) (Or.inl ⟨by rfl, yld_whl 30 (.tmp 17) wz.heap.size 30 #[.slice M1 512 mc1] rfl rfl (fun W' hW' => hW'.1) _ Try.underlying30 rfl Try.sizeMem⟩) HS.out ?_
          (try simp only [Act.put, List.setIfInBounds_toArray, List.set_cons_zero, List.set_cons_succ])
          refine take_atR (i := 1) (d := 91) (v := .agg #[.int .i64 f.mode, .int .i64 f.base, .slice L1 n1 c1, .int .i64 f.orders.page, .int .i64 f.orders.head, .int .i64 f.orders.tail, .bool f.stopped, .int .i64 f.fences, .int .i64 f.faults.page, .int .i64 f.faults.head, .int .i64 f.faults.tail, .bool f.lost]) rfl rfl (by kernel_rfl) (by kernel_rfl) (by kernel_rfl) (fun _ _ _ h => h) (Or.inl ⟨by rfl, yld_whl 37 (.tmp 18) (wz.heap.size + 1) 37 #[.int .i64 f.mode, .int .i64 f.base, .slice L1 n1 c1, .int .i64 f.orders.page, .int .i64 f.orders.head, .int .i64 f.orders.tail, .bool f.stopped, .int .i64 f.fences, .int .i64 f.faults.page, .int .i64 f.faults.head, .int .i64 f.faults.tail, .bool f.lost] rfl rfl (fun W' hW' => hW'.2) _ Try.underlying37 rfl Try.sizeBrg⟩) HS.out ?_
          (try simp only [Act.put, List.setIfInBounds_toArray, List.set_cons_zero, List.set_cons_succ])
          refine take_atR (i := 2) (d := 92) (v := _) rfl rfl (by kernel_rfl) (by kernel_rfl) (by kernel_rfl) (fun _ _ _ h => h) (Or.inl ⟨by rfl, fun _ _ => rfl⟩) HS.out ?_
          (try simp only [Act.put, List.setIfInBounds_toArray, List.set_cons_zero, List.set_cons_succ])
          refine take_atR (i := 3) (d := 93) (v := _) rfl rfl (by kernel_rfl) (by kernel_rfl) (by kernel_rfl) (fun _ _ _ h => h) (Or.inl ⟨by rfl, fun _ _ => rfl⟩) HS.out ?_
          (try simp only [Act.put, List.setIfInBounds_toArray, List.set_cons_zero, List.set_cons_succ])
          refine take_atR (i := 4) (d := 94) (v := ?_) rfl rfl (by kernel_rfl) (by kernel_rfl) (by kernel_rfl) (fun _ _ _ h => h) (Or.inl ⟨by rfl, ?_⟩) HS.out ?_
          rotate_left
          · (intro W' hW'; go_simp; (try with_reducible rfl))
          (try simp only [Act.put, List.setIfInBounds_toArray, List.set_cons_zero, List.set_cons_succ])
          refine wpAnyH_ready (rs := [5]) (by kernel_rfl) (by simp) ?_
          refine AllReadyH.cons rfl (fun KK hKK => ?_) AllReadyH.nil
          rw [if_pos (by rfl)]
          refine wp_storeR 30 (.tmp 11) (.tmp 90) rfl g11 30 _ #[.slice M1 512 mc1] rfl rfl (whl_drew H11.out) Try.sizeMem rfl (by kernel_rfl) (by kernel_rfl) rfl ?_
          intro Va ha ta
          have HSa := Lib.hid (And.intro (whl_trn HS.out.1 ta (by omega)) (whl_trn HS.out.2 ta (by omega)))
          refine hKK.out _ _ HSa.out (fun _ => ?_)
          clear hKK KK
          (try simp only [Act.put, List.setIfInBounds_toArray, List.set_cons_zero, List.set_cons_succ])
          refine wpAnyH_ready (rs := [6]) (by kernel_rfl) (by simp) ?_
          refine AllReadyH.cons rfl (fun KK hKK => ?_) AllReadyH.nil
          rw [if_pos (by rfl)]
          refine wp_storeR 37 (.tmp 12) (.tmp 91) rfl g12 37 _ #[.int .i64 f.mode, .int .i64 f.base, .slice L1 n1 c1, .int .i64 f.orders.page, .int .i64 f.orders.head, .int .i64 f.orders.tail, .bool f.stopped, .int .i64 f.fences, .int .i64 f.faults.page, .int .i64 f.faults.head, .int .i64 f.faults.tail, .bool f.lost] rfl rfl (whl_trn (whl_drew H12.out) ta (Ne.symm hne)) Try.sizeBrg rfl (by kernel_rfl) (by kernel_rfl) rfl ?_
          intro Vb hb tb
          have HSb := Lib.hid (And.intro (whl_trn HSa.out.1 tb (by omega)) (whl_trn HSa.out.2 tb (by omega)))
          refine hKK.out _ _ HSb.out (fun _ => ?_)
          clear hKK KK
          (try simp only [Act.put, List.setIfInBounds_toArray, List.set_cons_zero, List.set_cons_succ])
          refine take_atR (i := 7) (d := 14) (v := _) rfl rfl (by kernel_rfl) (by kernel_rfl) (by kernel_rfl) (fun _ _ _ h => h) (Or.inl ⟨by rfl, fun _ _ => rfl⟩) HSb.out ?_
          (try simp only [Act.put, List.setIfInBounds_toArray, List.set_cons_zero, List.set_cons_succ])
          refine wpAnyH_done (by kernel_rfl) ?_ _
          go_wp2
          go_meet
          exact ⟨rfl, whl_trn ha tb hne, hb, chg_trans (chg_drew (chg_refl _)) (chg_trans (chg_mono ta.1 (fun q _ e => Or.inl e)) (chg_mono tb.1 (fun q _ e => Or.inr e)))⟩
        case rest =>
        obtain ⟨rfl, hF⟩ := hcut
        obtain ⟨h11, h12, hC⟩ := hF.out
        obtain ⟨wh, hwh⟩ : ∃ wh, wh = wc := ⟨_, rfl⟩
        subst hwh
        have hzh := hC.size
        have hzh2 := hC.2
        replace H11 := Lib.hid h11
        replace H12 := Lib.hid h12
        replace H13 := Lib.hid (whl_chgP H13.out hC (fun e => by omega))
        replace H19 := Lib.hid (whl_chgP H19.out hC (fun e => by omega))
        replace HQ0 := Lib.hid (HQ0.out.chg hC (fun q e => by omega) (by omega))
        replace HSB := Lib.hid (below_chg HSB.out HSB.out.size hC (fun q hq e => by omega))
        replace HBJ := Lib.hid (chg_trans HBJ.out (chg_mono hC (fun q _ e => by omega)))
        clear hF h11 h12 hC hzh2 H17 H18
        go_upto_region 16 with (fail)
        go_cut [] (fun we => Hid (Whl we w6.heap.size 65 #[.bool p.done, .slice D dn dc, .int .i64 p.fault, .slice T tn tc] ∧ Chg (fun q => q = w6.heap.size) wh we))
        case first =>
          refine wp_region_held_drew (S := fun W' => Whl W' (wz.heap.size + 1 + 1) 65 #[.bool p.done, .slice D1 dn1 dc1, .int .i64 p.fault, .slice T1 tn1 tc1]) (by kernel_rfl) (whl_drew H19.out) (fun hS0 => ?_)
          have HS := Lib.hid hS0
          clear hS0
          refine take_atR (i := 0) (d := 95) (v := .pointer (some ⟨wz.heap.size + 1 + 1, 2, none⟩)) rfl rfl (by kernel_rfl) (by kernel_rfl) (by kernel_rfl) (fun _ _ _ h => h) (Or.inl ⟨by rfl, fun _ _ => rfl⟩) HS.out ?_
          (try simp only [Act.put, List.setIfInBounds_toArray, List.set_cons_zero, List.set_cons_succ])
          refine take_atR (i := 2) (d := 97) (v := .pointer (some ⟨wz.heap.size + 1 + 1, 0, none⟩)) rfl rfl (by kernel_rfl) (by kernel_rfl) (by kernel_rfl) (fun _ _ _ h => h) (Or.inl ⟨by rfl, fun _ _ => rfl⟩) HS.out ?_
          (try simp only [Act.put, List.setIfInBounds_toArray, List.set_cons_zero, List.set_cons_succ])
          refine take_atR (i := 1) (d := 96) (v := .int .i64 p.fault) rfl rfl (by kernel_rfl) (by kernel_rfl) (by kernel_rfl) (fun _ _ _ h => h) (Or.inl ⟨by rfl, yld_cellP 3 (.tmp 95) _ _ rfl rfl (fun W' hW' => whl_cell hW' 2) (fun W' h => Try.ldIntP _ _ W' h)⟩) HS.out ?_
          (try simp only [Act.put, List.setIfInBounds_toArray, List.set_cons_zero, List.set_cons_succ])
          refine take_atR (i := 3) (d := 98) (v := .bool p.done) rfl rfl (by kernel_rfl) (by kernel_rfl) (by kernel_rfl) (fun _ _ _ h => h) (Or.inl ⟨by rfl, yld_cellP 4 (.tmp 97) _ _ rfl rfl (fun W' hW' => whl_cell hW' 0) (fun W' h => Try.ldBoolP _ _ W' h)⟩) HS.out ?_
          (try simp only [Act.put, List.setIfInBounds_toArray, List.set_cons_zero, List.set_cons_succ])
          refine take_atR (i := 4) (d := 99) (v := .pointer (some ⟨w6.heap.size, 2, none⟩)) rfl rfl (by kernel_rfl) (by kernel_rfl) (by kernel_rfl) (fun _ _ _ h => h) (Or.inl ⟨by rfl, fun _ _ => rfl⟩) HS.out ?_
          (try simp only [Act.put, List.setIfInBounds_toArray, List.set_cons_zero, List.set_cons_succ])
          refine wpAnyH_ready (rs := [5]) (by kernel_rfl) (by simp) ?_
          refine AllReadyH.cons rfl (fun KK hKK => ?_) AllReadyH.nil
          rw [if_pos (by rfl)]
          refine wp_cellR 3 (.tmp 99) (.tmp 96) rfl w6.heap.size 2 65 _ (.int .i64 p.fault) rfl rfl (whl_drew H13.out) Try.sizeInt (of_decide_eq_true rfl) rfl rfl ?_
          intro Va ha ta
          have HSa := Lib.hid (whl_trn HS.out ta (by omega))
          refine hKK.out _ _ HSa.out (fun _ => ?_)
          clear hKK KK
          (try simp only [Act.put, List.setIfInBounds_toArray, List.set_cons_zero, List.set_cons_succ])
          refine take_atR (i := 6) (d := 100) (v := .pointer (some ⟨w6.heap.size, 0, none⟩)) rfl rfl (by kernel_rfl) (by kernel_rfl) (by kernel_rfl) (fun _ _ _ h => h) (Or.inl ⟨by rfl, fun _ _ => rfl⟩) HSa.out ?_
          (try simp only [Act.put, List.setIfInBounds_toArray, List.set_cons_zero, List.set_cons_succ])
          refine wpAnyH_ready (rs := [7]) (by kernel_rfl) (by simp) ?_
          refine AllReadyH.cons rfl (fun KK hKK => ?_) AllReadyH.nil
          rw [if_pos (by rfl)]
          refine wp_cellR 4 (.tmp 100) (.tmp 98) rfl w6.heap.size 0 65 _ (.bool p.done) rfl rfl ha Try.sizeBoolP (of_decide_eq_true rfl) rfl rfl ?_
          intro Vb hb tb
          have HSb := Lib.hid (whl_trn HSa.out tb (by omega))
          refine hKK.out _ _ HSb.out (fun _ => ?_)
          clear hKK KK
          (try simp only [Act.put, List.setIfInBounds_toArray, List.set_cons_zero, List.set_cons_succ])
          refine wpAnyH_done (by kernel_rfl) ?_ _
          go_wp2
          go_meet
          exact ⟨whl_exP hb (by kernel_rfl), chg_trans (chg_drew (chg_refl _)) (chg_trans ta.1 tb.1)⟩
        case rest =>
        obtain ⟨h13, hC⟩ := hcut.out
        obtain ⟨wk, hwk⟩ : ∃ wk, wk = wc := ⟨_, rfl⟩
        subst hwk
        have hzk := hC.size
        replace H13 := Lib.hid h13
        replace H11 := Lib.hid (whl_chgP H11.out hC (fun e => by omega))
        replace H12 := Lib.hid (whl_chgP H12.out hC (fun e => by omega))
        replace H19 := Lib.hid (whl_chgP H19.out hC (fun e => by omega))
        replace HQ0 := Lib.hid (HQ0.out.chg hC (fun q e => by omega) (by omega))
        replace HSB := Lib.hid (below_chg HSB.out HSB.out.size hC (fun q hq e => by omega))
        replace HBJ := Lib.hid (chg_trans HBJ.out (chg_mono hC (fun q _ e => by omega)))
        clear h13 hC hcut
        go_upto_region 17 with (fail)
        have HQ1 := Lib.hid (HQ0.out.chg (chg_drew (chg_refl wk)) (fun q e => e.elim) (by omega) (P := fun _ => False))
        replace H11 := Lib.hid (whl_drew H11.out)
        replace H12 := Lib.hid (whl_drew H12.out)
        replace H13 := Lib.hid (whl_drew H13.out)
        replace H19 := Lib.hid (whl_drew H19.out)
        replace HSB := Lib.hid (show Below w.heap.size w wk.drew from HSB.out.drew)
        replace HBJ := Lib.hid (chg_drew HBJ.out)
        refine region_L (S := S17 w6.heap.size (wz.heap.size + 1 + 1) #[.bool p.done, .slice D dn dc, .int .i64 p.fault, .slice T tn tc] #[.bool p.done, .slice D1 dn1 dc1, .int .i64 p.fault, .slice T1 tn1 tc1]) (by kernel_rfl) ?_
        generalize hdw : wk.drew = V0 at *
        have hzV : wk.heap.size ≤ V0.heap.size := by rw [← hdw]; exact Nat.le_refl _
        clear hdw HQ0
        have HS17 := Lib.hid (fun l => show S17 w6.heap.size (wz.heap.size + 1 + 1) #[.bool p.done, .slice D dn dc, .int .i64 p.fault, .slice T tn tc] #[.bool p.done, .slice D1 dn1 dc1, .int .i64 p.fault, .slice T1 tn1 tc1] l V0 from fun _ => ⟨H13.out, H19.out⟩)
        refine takeL (i := 0) (k := 1) (d := 101) (v := .pointer (some ⟨w6.heap.size, 1, none⟩)) (Y := (fun _ => True)) rfl rfl (by kernel_rfl) (by kernel_rfl) (by kernel_rfl) (by kernel_rfl) (by decide) (fun _ _ _ _ => trivial) (s17_ins (by decide) (by decide)) (fun _ _ _ h => h) (Or.inl ⟨by rfl, fun _ _ => rfl⟩) trivial (HS17.out _) (by kernel_rfl) ?_
        (try simp only [Act.put, List.setIfInBounds_toArray, List.set_cons_zero, List.set_cons_succ])
        refine takeL (i := 2) (k := 3) (d := 103) (v := .pointer (some ⟨wz.heap.size + 1 + 1, 1, none⟩)) (Y := (fun _ => True)) rfl rfl (by kernel_rfl) (by kernel_rfl) (by kernel_rfl) (by kernel_rfl) (by decide) (fun _ _ _ _ => trivial) (s17_ins (by decide) (by decide)) (fun _ _ _ h => h) (Or.inl ⟨by rfl, fun _ _ => rfl⟩) trivial (HS17.out _) (by kernel_rfl) ?_
        (try simp only [Act.put, List.setIfInBounds_toArray, List.set_cons_zero, List.set_cons_succ])
        refine takeL (i := 5) (k := 6) (d := 106) (v := .pointer (some ⟨w6.heap.size, 3, none⟩)) (Y := (fun _ => True)) rfl rfl (by kernel_rfl) (by kernel_rfl) (by kernel_rfl) (by kernel_rfl) (by decide) (fun _ _ _ _ => trivial) (s17_ins (by decide) (by decide)) (fun _ _ _ h => h) (Or.inl ⟨by rfl, fun _ _ => rfl⟩) trivial (HS17.out _) (by kernel_rfl) ?_
        (try simp only [Act.put, List.setIfInBounds_toArray, List.set_cons_zero, List.set_cons_succ])
        refine takeL (i := 7) (k := 8) (d := 108) (v := .pointer (some ⟨wz.heap.size + 1 + 1, 3, none⟩)) (Y := (fun _ => True)) rfl rfl (by kernel_rfl) (by kernel_rfl) (by kernel_rfl) (by kernel_rfl) (by decide) (fun _ _ _ _ => trivial) (s17_ins (by decide) (by decide)) (fun _ _ _ h => h) (Or.inl ⟨by rfl, fun _ _ => rfl⟩) trivial (HS17.out _) (by kernel_rfl) ?_
        (try simp only [Act.put, List.setIfInBounds_toArray, List.set_cons_zero, List.set_cons_succ])
        refine takeL (i := 1) (k := 4) (d := 102) (v := .slice D dn dc) (Y := (fun W' => W'.cell? ⟨w6.heap.size, 1, none⟩ = some (.slice D dn dc))) rfl rfl (by kernel_rfl) (by kernel_rfl) (by kernel_rfl) (by kernel_rfl) (by decide) (fun l W' h hl => whl_cell (h (Or.inl hl)).1 1) (s17_ins (by decide) (by decide)) (fun _ _ _ h => h) (Or.inl ⟨by rfl, yld_cellP 28 (.tmp 101) _ _ rfl rfl (fun W' h => h) (fun W' h => Try.ldIntsP _ _ W' h)⟩) (whl_cell H13.out 1) (HS17.out _) (by kernel_rfl) ?_
        (try simp only [Act.put, List.setIfInBounds_toArray, List.set_cons_zero, List.set_cons_succ])
        refine takeL (i := 3) (k := 4) (d := 104) (v := .slice D1 dn1 dc1) (Y := (fun W' => W'.cell? ⟨wz.heap.size + 1 + 1, 1, none⟩ = some (.slice D1 dn1 dc1))) rfl rfl (by kernel_rfl) (by kernel_rfl) (by kernel_rfl) (by kernel_rfl) (by decide) (fun l W' h hl => whl_cell (h (Or.inl hl)).2 1) (s17_ins (by decide) (by decide)) (fun _ _ _ h => h) (Or.inl ⟨by rfl, yld_cellP 28 (.tmp 103) _ _ rfl rfl (fun W' h => h) (fun W' h => Try.ldIntsP _ _ W' h)⟩) (whl_cell H19.out 1) (HS17.out _) (by kernel_rfl) ?_
        (try simp only [Act.put, List.setIfInBounds_toArray, List.set_cons_zero, List.set_cons_succ])
        refine takeL (i := 6) (k := 9) (d := 107) (v := .slice T tn tc) (Y := (fun W' => W'.cell? ⟨w6.heap.size, 3, none⟩ = some (.slice T tn tc))) rfl rfl (by kernel_rfl) (by kernel_rfl) (by kernel_rfl) (by kernel_rfl) (by decide) (fun l W' h hl => whl_cell (h (Or.inr hl)).1 3) (s17_ins (by decide) (by decide)) (fun _ _ _ h => h) (Or.inl ⟨by rfl, yld_cellP 63 (.tmp 106) _ _ rfl rfl (fun W' h => h) (fun W' h => Try.ldTchsP _ _ W' h)⟩) (whl_cell H13.out 3) (HS17.out _) (by kernel_rfl) ?_
        (try simp only [Act.put, List.setIfInBounds_toArray, List.set_cons_zero, List.set_cons_succ])
        refine takeL (i := 8) (k := 9) (d := 109) (v := .slice T1 tn1 tc1) (Y := (fun W' => W'.cell? ⟨wz.heap.size + 1 + 1, 3, none⟩ = some (.slice T1 tn1 tc1))) rfl rfl (by kernel_rfl) (by kernel_rfl) (by kernel_rfl) (by kernel_rfl) (by decide) (fun l W' h hl => whl_cell (h (Or.inr hl)).2 3) (s17_ins (by decide) (by decide)) (fun _ _ _ h => h) (Or.inl ⟨by rfl, yld_cellP 63 (.tmp 108) _ _ rfl rfl (fun W' h => h) (fun W' h => Try.ldTchsP _ _ W' h)⟩) (whl_cell H19.out 3) (HS17.out _) (by kernel_rfl) ?_
        (try simp only [Act.put, List.setIfInBounds_toArray, List.set_cons_zero, List.set_cons_succ])
        have hcD := HQ1.out.id.1
        have hlT := HQ1.out.it.len
        have hP6 := P67.out.1
        have hP7 := P67.out.2
        have hU6 := HIV.out.dl
        have hU7 := HIV.out.tl
        have hN1 := HQ1.out.od.1
        have hN2 := HQ1.out.ot.1
        have hle := HIV.out.le
        have hrg := HRNG.out.2.2
        have NZD := Lib.hid (show D1 = none → dn1 = 0 from fun e => by have := row_noneP HQ1.out.id.2.2 e; rw [List.length_map] at this; omega)
        have NZT := Lib.hid (show T1 = none → tn1 = 0 from fun e => by have := row_noneP HQ1.out.it.2.2.2.2 e; rw [tcells_len] at this; omega)
        refine oneL (i := 4) (by kernel_rfl) rfl rfl (fun KK hKK => ?_)
        refine wp_appendR (.tmp 102) (.tmp 104) 28 rfl w7.heap.size 3 i0 (.int .i64 0) 1 8 Try.underlying28 HI.out HI0x.out HI1.out HI2.out rfl (by decide) D dn dc (u.data.map (.int .i64)) rfl HQ1.out.od.2.2.2 D1 dn1 dc1 (p.data.map (.int .i64)) rfl (by rw [List.length_map]; omega) NZD.out (row_cellsP HQ1.out.id.2.2) (ints_oneP _) (by unfold maxLen; omega) (by omega) (by omega) 105 rfl ?_
        intro D' dc' Wa hoa hga hata
        have hQa := HQ1.out.appD hga (by rw [List.map_append]; exact hoa) (by rw [List.length_append]; omega) hata
        have hCa : Chg (fun q => (Value.slice D dn dc).ownBlock = some q) V0 Wa := chg_grown (chg_refl V0) hga (fun k e => Or.inl e)
        have hnb : ∀ q, (Value.slice D dn dc).ownBlock = some q → w7.heap.size ≤ q ∧ q < wq.heap.size := fun q e => by
          obtain ⟨ad, e1, e2⟩ := own_isP e
          have := OBQ.out.1 ad e1
          omega
        have hza := hCa.size
        replace H11 := Lib.hid (whl_chgP H11.out hCa (fun e => by have := hnb _ e; omega))
        replace H12 := Lib.hid (whl_chgP H12.out hCa (fun e => by have := hnb _ e; omega))
        replace H13 := Lib.hid (whl_chgP H13.out hCa (fun e => by have := hnb _ e; omega))
        replace H19 := Lib.hid (whl_chgP H19.out hCa (fun e => by have := hnb _ e; omega))
        replace HSB := Lib.hid (below_chg HSB.out HSB.out.size hCa (fun q hq e => by have := hnb _ e; omega))
        replace HBJ := Lib.hid (chg_stepP HBJ.out hCa (fun q hq e => by have := hnb _ e; omega))
        have HQa := Lib.hid hQa
        replace HS17 := Lib.hid (fun l => show S17 w6.heap.size (wz.heap.size + 1 + 1) #[.bool p.done, .slice D dn dc, .int .i64 p.fault, .slice T tn tc] #[.bool p.done, .slice D1 dn1 dc1, .int .i64 p.fault, .slice T1 tn1 tc1] l Wa from fun _ => ⟨H13.out, H19.out⟩)
        clear hQa hCa hnb hoa hga hata HQ1
        refine hKK.out _ _ (HS17.out _) ?_
        clear hKK KK
        (try simp only [Act.put, List.setIfInBounds_toArray, List.set_cons_zero, List.set_cons_succ])
        refine takeL (i := 10) (k := 11) (d := 111) (v := .pointer (some ⟨w6.heap.size, 1, none⟩)) (Y := (fun _ => True)) rfl rfl (by kernel_rfl) (by kernel_rfl) (by kernel_rfl) (by kernel_rfl) (by decide) (fun _ _ _ _ => trivial) (s17_ins (by decide) (by decide)) (fun _ _ _ h => h) (Or.inl ⟨by rfl, fun _ _ => rfl⟩) trivial (HS17.out _) (by kernel_rfl) ?_
        (try simp only [Act.put, List.setIfInBounds_toArray, List.set_cons_zero, List.set_cons_succ])
        refine oneL (i := 9) (by kernel_rfl) rfl rfl (fun KK hKK => ?_)
        refine wp_appendR (.tmp 107) (.tmp 109) 63 rfl w7.heap.size 24 j0 (.agg #[.int .i64 0, .int .i64 0, .int .i64 0, .bool false, .int .i64 0]) 5 40 Try.underlying63 HG.out HG0.out HG1.out HG2.out rfl (by decide) T tn tc (tcells u.touched) rfl HQa.out.ot.2.2.2 T1 tn1 tc1 (tcells p.touched) rfl (by rw [tcells_len]; omega) NZT.out (row_cellsP HQa.out.it.2.2.2.2) (tcs_oneP _) (by unfold maxLen; omega) (by omega) (by omega) 110 rfl ?_
        intro T' tc' Wb hob hgb hatb
        have hQb := HQa.out.appT hgb (by rw [tcells_append]; exact hob) (by rw [List.length_append]; omega) hatb
        have hCb : Chg (fun q => (Value.slice T tn tc).ownBlock = some q) Wa Wb := chg_grown (chg_refl Wa) hgb (fun k e => Or.inl e)
        have hnb : ∀ q, (Value.slice T tn tc).ownBlock = some q → w7.heap.size ≤ q ∧ q < wq.heap.size := fun q e => by
          obtain ⟨ad, e1, e2⟩ := own_isP e
          have := OBQ.out.2 ad e1
          omega
        have hzb := hCb.size
        replace H11 := Lib.hid (whl_chgP H11.out hCb (fun e => by have := hnb _ e; omega))
        replace H12 := Lib.hid (whl_chgP H12.out hCb (fun e => by have := hnb _ e; omega))
        replace H13 := Lib.hid (whl_chgP H13.out hCb (fun e => by have := hnb _ e; omega))
        replace HSB := Lib.hid (below_chg HSB.out HSB.out.size hCb (fun q hq e => by have := hnb _ e; omega))
        replace HBJ := Lib.hid (chg_stepP HBJ.out hCb (fun q hq e => by have := hnb _ e; omega))
        have HQb := Lib.hid hQb
        clear hQb hCb hnb hob hgb hatb HQa H19
        refine hKK.out _ _ (fun h => absurd h (of_decide_eq_false (by kernel_rfl))) ?_
        clear hKK KK HS17
        (try simp only [Act.put, List.setIfInBounds_toArray, List.set_cons_zero, List.set_cons_succ])
        have HS17 := Lib.hid (trivial : True)
        refine oneL (i := 11) (by kernel_rfl) rfl rfl (fun KK hKK => ?_)
        refine wp_cellR 28 (.tmp 111) (.tmp 105) rfl w6.heap.size 1 65 _ (.slice D' (dn + dn1) dc') rfl rfl H13.out Try.sizeIntsP (of_decide_eq_true rfl) rfl rfl ?_
        intro Wc hc tc2
        refine hKK.out _ _ (fun h => absurd h (of_decide_eq_false (by kernel_rfl))) ?_
        clear hKK KK
        (try simp only [Act.put, List.setIfInBounds_toArray, List.set_cons_zero, List.set_cons_succ])
        refine takeL (i := 12) (k := 13) (d := 112) (v := .pointer (some ⟨w6.heap.size, 3, none⟩)) (Y := (fun _ => True)) rfl rfl (by kernel_rfl) (by kernel_rfl) (by kernel_rfl) (by kernel_rfl) (by decide) (fun _ _ _ _ => trivial) (s17_ins (by decide) (by decide)) (fun _ _ _ h => h) (Or.inl ⟨by rfl, fun _ _ => rfl⟩) trivial (fun h => absurd h (of_decide_eq_false (by kernel_rfl))) (by kernel_rfl) ?_
        (try simp only [Act.put, List.setIfInBounds_toArray, List.set_cons_zero, List.set_cons_succ])
        refine oneL (i := 13) (by kernel_rfl) rfl rfl (fun KK hKK => ?_)
        refine wp_cellR 63 (.tmp 112) (.tmp 110) rfl w6.heap.size 3 65 _ (.slice T' (tn + tn1) tc') rfl rfl hc Try.sizeTchsP (of_decide_eq_true rfl) rfl rfl ?_
        intro Wd hd td
        refine hKK.out _ _ (fun h => absurd h (of_decide_eq_false (by kernel_rfl))) ?_
        clear hKK KK
        (try simp only [Act.put, List.setIfInBounds_toArray, List.set_cons_zero, List.set_cons_succ])
        refine doneL (by kernel_rfl) ?_ _
        have hCd := chg_trans tc2.1 td.1
        have H13d : Whl Wd w6.heap.size 65 #[.bool p.done, .slice D' (dn + dn1) dc', .int .i64 p.fault, .slice T' (tn + tn1) tc'] := whl_exP hd rfl
        have hzd := hCd.size
        have HQd := Lib.hid (HQb.out.chg hCd (fun q e => by omega) (by omega))
        have h11 := whl_chgP H11.out hCd (by omega)
        have h12 := whl_chgP H12.out hCd (by omega)
        have hsb := below_chg HSB.out HSB.out.size hCd (fun q hq e => by omega)
        have hbj := chg_trans HBJ.out (chg_mono hCd (fun q _ e => Or.inr (Or.inr e)))
        have HEND : Hid (DJ a (ys, d9, t9) w7.heap.size g11 g12 w6.heap.size w (i + k) y f ⟨p.done, u.data ++ p.data, p.fault, u.touched ++ p.touched⟩ M1 mc1 L1 n1 c1 D' (dn + dn1) dc' T' (tn + tn1) tc' Wd) :=
          Lib.hid ⟨h11, h12, H13d, ⟨HQd.out.im, HQd.out.il, ints_no _, tchs_none _ _, HQd.out.od, HQd.out.ot, HQd.out.am.mono (fun q hq => ⟨Nat.zero_le _, hq.2⟩), HQd.out.al.mono (fun q hq => ⟨Nat.zero_le _, hq.2⟩), rowIn_0, rowIn_0, HQd.out.ap⟩, P5.out, hsb⟩
        have HRN := Lib.hid (show RowIn (fun q => q < w.heap.size ∨ w7.heap.size ≤ q) M1 512 ∧ RowIn (fun q => q < w.heap.size ∨ w7.heap.size ≤ q) L1 n1 from ⟨HQd.out.am.mono (fun q hq => Or.inr (by omega)), HQd.out.al.mono (fun q hq => Or.inr (by omega))⟩)
        have HBE := Lib.hid hbj
        clear hc tc2 hd td hCd H13d HQd h11 h12 hsb hbj HQb H11 H12 H13 HSB HBJ
        go_wp2
        go_roundw
        case rel => exact ⟨i + k, y, f, _, M1, mc1, L1, n1, c1, D', dn + dn1, dc', T', tn + tn1, tc', by rw [Int.natCast_add], HEND.out, HBE.out, HRN.out⟩
        case measure => have h1 := HRNG.out.1; have h2 := HRNG.out.2.2; simp [intOf]; omega
theorem law_DmaParts (xs : List Int) (b : Brg) (a : Ask) (M L AD : Option Addr) (nm mc n c nd cd : Nat) (w : World) (hm : Ints w w.heap.size M nm xs) (hl : Lines w w.heap.size L n c b.cache) (hd : Ints w w.heap.size AD nd a.data) (hcd : nd ≤ cd ∧ cd ≤ 9223372036854775807) :
    Calls Try.prog 9 #[.agg #[.slice M nm mc], .agg #[.int .i64 b.mode, .int .i64 b.base, .slice L n c, .int .i64 b.orders.page, .int .i64 b.orders.head, .int .i64 b.orders.tail, .bool b.stopped, .int .i64 b.fences, .int .i64 b.faults.page, .int .i64 b.faults.head, .int .i64 b.faults.tail, .bool b.lost], .agg #[.int .i64 a.dev, .int .i64 a.at_, .int .i64 a.count, .bool a.wr, .slice AD nd cd]] w fun e w' => e = .returned (.bool true) ∧ Below w.heap.size w w' := by
  by_cases h : dmaE xs b a = 0
  · obtain rfl : nm = 512 := by rw [← hm.1]; exact (cm_inv (dmaE_inv h).1).1
    exact dparts_ok xs b a M L AD 512 mc n c nd cd w hm hl hd hcd h
  · exact dparts_no xs b a M L AD nm mc n c nd cd w hm hl hd hcd h
end Go.Proofs.Ytbopdijnojaaiac
