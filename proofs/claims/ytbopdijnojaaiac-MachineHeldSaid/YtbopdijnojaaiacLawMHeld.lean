/- The walk of the law MachineHeld: who changes what. The row is in another text. -/
import Derived.Test.YtbopdijnojaaiacDriven
import Derived.Test.YtbopdijnojaaiacMachQ
import Derived.Test.YtbopdijnojaaiacSameT
import Derived.Test.YtbopdijnojaaiacHart1
import Derived.BigRegion
namespace Go.Proofs.Ytbopdijnojaaiac
open Go.RowKit
set_option linter.unusedSimpArgs false
set_option linter.unusedVariables false
attribute [local go_sem ↓] Go.wp_at_zero Go.wp_at_succ
section
variable (x : Mch) (y : Hap) (M R L AD : Option Addr) (nd cd : Nat) (w : World)
set_option maxRecDepth 100000 in
set_option maxHeartbeats 8000000 in
theorem law_MachineHeld (nm mc nr rc n c : Nat) (hm : Ints w w.heap.size M nm x.m) (hr : Ints w w.heap.size R nr x.h.regs) (hl : Lines w w.heap.size L n c x.b.cache) (hd : Ints w w.heap.size AD nd y.a.data) :
    Calls Try.prog 13 #[.agg #[.slice M nm mc, .int .i64 x.h.at_, .slice R nr rc, .bool x.h.done, .int .i64 x.b.mode, .int .i64 x.b.base, .slice L n c, .int .i64 x.b.orders.page, .int .i64 x.b.orders.head, .int .i64 x.b.orders.tail, .bool x.b.stopped, .int .i64 x.b.fences, .int .i64 x.b.faults.page, .int .i64 x.b.faults.head, .int .i64 x.b.faults.tail, .bool x.b.lost], .agg #[.int .i64 y.kind, .int .i64 y.n, .int .i64 y.a.dev, .int .i64 y.a.at_, .int .i64 y.a.count, .bool y.a.wr, .slice AD nd cd]] w fun e w' => e = .returned (.bool true) ∧ Below w.heap.size w w' := by
  have VX := Lib.hid (machV_arg hm hr hl)
  have HD := Lib.hid hd
  clear hm hr hl hd
  go_enter Try.func13, Try.ntmps13
  go_upto_region 1 with (fail)
  generalize hw0 : (w.alloc (.cells #[.slice M nm mc, .int .i64 x.h.at_, .slice R nr rc, .bool x.h.done, .int .i64 x.b.mode, .int .i64 x.b.base, .slice L n c, .int .i64 x.b.orders.page, .int .i64 x.b.orders.head, .int .i64 x.b.orders.tail, .bool x.b.stopped, .int .i64 x.b.fences, .int .i64 x.b.faults.page, .int .i64 x.b.faults.head, .int .i64 x.b.faults.tail, .bool x.b.lost] 39)).alloc (.cells #[.int .i64 y.kind, .int .i64 y.n, .int .i64 y.a.dev, .int .i64 y.a.at_, .int .i64 y.a.count, .bool y.a.wr, .slice AD nd cd] 95) = w0
  have H0 := Lib.hid (show Whl w0 w.heap.size 39 #[.slice M nm mc, .int .i64 x.h.at_, .slice R nr rc, .bool x.h.done, .int .i64 x.b.mode, .int .i64 x.b.base, .slice L n c, .int .i64 x.b.orders.page, .int .i64 x.b.orders.head, .int .i64 x.b.orders.tail, .bool x.b.stopped, .int .i64 x.b.fences, .int .i64 x.b.faults.page, .int .i64 x.b.faults.head, .int .i64 x.b.faults.tail, .bool x.b.lost] by rw [← hw0]; exact whl_alloc (whl_new _ _ _ rfl) _)
  have H1 := Lib.hid (show Whl w0 (w.heap.size + 1) 95 #[.int .i64 y.kind, .int .i64 y.n, .int .i64 y.a.dev, .int .i64 y.a.at_, .int .i64 y.a.count, .bool y.a.wr, .slice AD nd cd] by rw [← hw0]; exact whl_new _ _ _ (by simp))
  have HB := Lib.hid (show Below w.heap.size w w0 by rw [← hw0]; (repeat (first | (with_reducible exact Below.refl _ _) | (with_reducible refine Below.drew ?_) | (with_reducible refine bdrewN ?_ _) | ((with_reducible refine Below.setCell ?_ ?_ _); rotate_left; exact (by first | (simp; done) | (simp; omega) | omega)) | ((with_reducible refine Below.alloc ?_ ?_ _); rotate_left; exact (by first | (simp; done) | (simp; omega) | omega)))))
  have hz0a : w0.heap.size ≤ w.heap.size + 2 := by rw [← hw0]; simp
  have hz0b : w.heap.size + 2 ≤ w0.heap.size := by rw [← hw0]; simp
  clear hw0
  replace VX := Lib.hid (VX.out.since HB.out)
  replace HD := Lib.hid (ints_now HD.out HB.out)
  obtain ⟨⟨z5, t⟩, hDA⟩ : ∃ r, doA x y = r := ⟨_, rfl⟩
  obtain ⟨E, hDE⟩ : ∃ E, doE x y = E := ⟨_, rfl⟩
  have HDA := Lib.hid hDA
  have HDE := Lib.hid hDE
  clear hDA hDE
  go_wp2_with (first | (refine wpList_load_whl rfl 39 (.tmp 2) rfl (w.heap.size) _ _ rfl H0.out _ Try.underlying39 rfl Try.sizeMach ?_) | (refine wpList_load_whl rfl 95 (.tmp 3) rfl (w.heap.size + 1) _ _ rfl H1.out _ Try.underlying95 rfl Try.sizeHap ?_))
  refine (mdo_ans x y M R L AD nd cd _ nm mc nr rc n c VX.out.hm VX.out.hr VX.out.hl HD.out (z5, t) E HDA.out HDE.out).mono ?_
  rintro e w5 ⟨M5, nm5, mc5, R5, nr5, rc5, L5, n5, c5, D5, dn5, dc5, T5, tn5, tc5, rfl, hv5, ht5, hb5⟩
  replace H0 := Lib.hid (whl_since H0.out hb5)
  replace H1 := Lib.hid (whl_since H1.out hb5)
  replace VX := Lib.hid ((VX.out.since hb5).av (Av' := fun q => q < w5.heap.size) (fun q hq => by have := hb5.size; omega))
  replace HB := Lib.hid (HB.out.trans (hb5.mono HB.out.size))
  have VZ := Lib.hid (hv5.lt.av (Av' := fun q => q < w5.heap.size) (fun q hq => hq.2))
  have VT := Lib.hid (ht5.lt.av (Av' := fun q => q < w5.heap.size) (fun q hq => hq.2))
  have hz5 := hb5.size
  clear hb5 hv5 ht5 HD
  go_upto_region 2 with (first
    | (refine wpList_store_all rfl 39 (.tmp 5) (.tmp 15) rfl (w5.heap.size) _ _ #[.slice M5 nm5 mc5, .int .i64 z5.h.at_, .slice R5 nr5 rc5, .bool z5.h.done, .int .i64 z5.b.mode, .int .i64 z5.b.base, .slice L5 n5 c5, .int .i64 z5.b.orders.page, .int .i64 z5.b.orders.head, .int .i64 z5.b.orders.tail, .bool z5.b.stopped, .int .i64 z5.b.fences, .int .i64 z5.b.faults.page, .int .i64 z5.b.faults.head, .int .i64 z5.b.faults.tail, .bool z5.b.lost] rfl rfl (whl_alloc (whl_new w5 _ _ rfl) _) Try.sizeMach rfl rfl ?_; intro w6 h6 t6)
    | (refine wpList_store_all rfl 65 (.tmp 6) (.tmp 16) rfl (w5.heap.size + 1) _ _ #[.bool t.done, .slice D5 dn5 dc5, .int .i64 t.fault, .slice T5 tn5 tc5] rfl rfl (whl_trn (whl_new (w5.alloc _) _ _ (by simp)) t6 (Nat.succ_ne_self _)) Try.sizeTold rfl rfl ?_; intro w7 h7 t7))
  have hw6 := t6.2
  have hw7 := t7.2
  (try simp only [World.size_alloc] at hw6)
  have hz7a : w7.heap.size ≤ w5.heap.size + 2 := by omega
  have hz7b : w5.heap.size + 2 ≤ w7.heap.size := by omega
  have C7 := chg_trans (chg_mono (Q := fun q => w5.heap.size ≤ q) t6.1 (fun q _ e => by omega)) (chg_mono t7.1 (fun q _ e => by omega))
  have hb : Below w5.heap.size w5 w7 := below_chg (((Below.refl w5.heap.size w5).alloc (Nat.le_refl _) _).alloc (by simp) _) (by simp; omega) C7 (fun q hq e => by omega)
  have H6 := Lib.hid (whl_trn h6 t7 (Nat.ne_of_lt (Nat.lt_succ_self _)))
  have H7 := Lib.hid h7
  replace H0 := Lib.hid (whl_since H0.out hb)
  replace H1 := Lib.hid (whl_since H1.out hb)
  replace VX := Lib.hid (VX.out.since hb)
  replace VZ := Lib.hid (VZ.out.since hb)
  replace VT := Lib.hid (VT.out.since hb)
  replace HB := Lib.hid (HB.out.trans (hb.mono HB.out.size))
  clear hb C7 t6 t7 h6 h7 hw6 hw7
  go_wp2_with fail
  refine (law_driven _).mono ?_
  rintro e w8 ⟨rfl, hb⟩
  replace H0 := Lib.hid (whl_since H0.out hb)
  replace H1 := Lib.hid (whl_since H1.out hb)
  replace H6 := Lib.hid (whl_since H6.out hb)
  replace H7 := Lib.hid (whl_since H7.out hb)
  replace VX := Lib.hid (VX.out.since hb)
  replace VZ := Lib.hid (VZ.out.since hb)
  replace VT := Lib.hid (VT.out.since hb)
  replace HB := Lib.hid (HB.out.trans (hb.mono HB.out.size))
  clear hb
  by_cases hE : E = 0
  rotate_left
  · have t0 : (E != 0) = true := by rw [bne_iff_ne]; exact hE
    clear hE
    go_wp2_with fail
    refine (law_driven _).mono ?_
    rintro e w9 ⟨rfl, hb⟩
    replace H0 := Lib.hid (whl_since H0.out hb)
    replace H1 := Lib.hid (whl_since H1.out hb)
    replace H6 := Lib.hid (whl_since H6.out hb)
    replace H7 := Lib.hid (whl_since H7.out hb)
    replace VX := Lib.hid (VX.out.since hb)
    replace VZ := Lib.hid (VZ.out.since hb)
    replace VT := Lib.hid (VT.out.since hb)
    replace HB := Lib.hid (HB.out.trans (hb.mono HB.out.size))
    clear hb
    go_wp2
    go_ret
    exact ⟨rfl, HB.out⟩
  have t0 : (E != 0) = false := by rw [bne_eq_false_iff_eq]; exact hE
  have HE := Lib.hid (show doE x y = 0 by rw [HDE.out]; exact hE)
  clear hE
  have HN0 := Lib.hid (show ckM z5 = 0 by have := do_ck (x := x) (y := y) HE.out; rw [HDA.out] at this; exact this)
  go_upto_region 4 with (fail)
  go_wp2_with (refine wpList_load_whl rfl 39 (.tmp 5) rfl (w5.heap.size) _ _ rfl H6.out _ Try.underlying39 rfl Try.sizeMach ?_)
  refine (machine_Check z5 M5 R5 L5 nm5 mc5 nr5 rc5 n5 c5 _ VZ.out.hm VZ.out.hr VZ.out.hl).mono ?_
  rw [HN0.out]
  rintro e w9 ⟨rfl, hb⟩
  replace H0 := Lib.hid (whl_since H0.out hb)
  replace H1 := Lib.hid (whl_since H1.out hb)
  replace H6 := Lib.hid (whl_since H6.out hb)
  replace H7 := Lib.hid (whl_since H7.out hb)
  replace VX := Lib.hid (VX.out.since hb)
  replace VZ := Lib.hid (VZ.out.since hb)
  replace VT := Lib.hid (VT.out.since hb)
  replace HB := Lib.hid (HB.out.trans (hb.mono HB.out.size))
  clear hb
  by_cases k1 : y.kind = 1
  · obtain ⟨l1, l2⟩ := held1_law HE.out k1
    rw [HDA.out] at l1 l2
    have HTN := Lib.hid l1
    have HLN := Lib.hid l2
    have HK := Lib.hid k1
    clear k1 l1 l2
    have f1 : w9.cell? ⟨w.heap.size + 1, 0, none⟩ = some (.int .i64 1) := (whl_cell H1.out 0).trans (by show some (Value.int .i64 y.kind) = _; rw [HK.out])
    have f0 := fun o => whl_cell H0.out o
    have f6 := fun o => whl_cell H6.out o
    have f7 := fun o => whl_cell H7.out o
    go_wp2_with fail
    clear f0 f1 f6 f7
    refine (ref_SameTold t .no D5 none T5 none dn5 dc5 0 0 tn5 tc5 0 0 _ VT.out.hd ⟨rfl, by unfold maxLen; omega, Row.nil_⟩ VT.out.ht (tchs_none _ _)).mono ?_
    rw [show sameT t .no = true by rw [HTN.out]; exact decide_eq_true rfl]
    rintro e w10 ⟨rfl, hb⟩
    replace H0 := Lib.hid (whl_since H0.out hb)
    replace H1 := Lib.hid (whl_since H1.out hb)
    replace H6 := Lib.hid (whl_since H6.out hb)
    replace H7 := Lib.hid (whl_since H7.out hb)
    replace VX := Lib.hid (VX.out.since hb)
    replace VZ := Lib.hid (VZ.out.since hb)
    replace VT := Lib.hid (VT.out.since hb)
    replace HB := Lib.hid (HB.out.trans (hb.mono HB.out.size))
    clear hb
    have f1 : w10.cell? ⟨w.heap.size + 1, 0, none⟩ = some (.int .i64 1) := (whl_cell H1.out 0).trans (by show some (Value.int .i64 y.kind) = _; rw [HK.out])
    have f0 := fun o => whl_cell H0.out o
    have f6 := fun o => whl_cell H6.out o
    have f7 := fun o => whl_cell H7.out o
    go_wp2_with fail
    clear f0 f1 f6 f7
    refine (sl_EqualL L L5 n n5 c c5 x.b.cache z5.b.cache _ VX.out.hl VZ.out.hl).mono ?_
    rw [show eqL x.b.cache z5.b.cache = true by rw [HLN.out]; exact decide_eq_true rfl]
    rintro e w11 ⟨rfl, hb⟩
    replace H0 := Lib.hid (whl_since H0.out hb)
    replace H1 := Lib.hid (whl_since H1.out hb)
    replace H6 := Lib.hid (whl_since H6.out hb)
    replace H7 := Lib.hid (whl_since H7.out hb)
    replace VX := Lib.hid (VX.out.since hb)
    replace VZ := Lib.hid (VZ.out.since hb)
    replace VT := Lib.hid (VT.out.since hb)
    replace HB := Lib.hid (HB.out.trans (hb.mono HB.out.size))
    clear hb
    go_wp2
    go_ret
    exact ⟨rfl, HB.out⟩
  by_cases k2 : y.kind = 2
  · obtain ⟨l1, l2, l3, l4, l5⟩ := held2_law HE.out k2
    rw [HDA.out] at l1 l2 l3 l4 l5
    have HTN := Lib.hid l1
    have HHN := Lib.hid l2
    have HMN := Lib.hid l3
    have HBN := Lib.hid l4
    have HLN := Lib.hid l5
    have HK := Lib.hid k2
    clear k1 k2 l1 l2 l3 l4 l5
    have f1 : w9.cell? ⟨w.heap.size + 1, 0, none⟩ = some (.int .i64 2) := (whl_cell H1.out 0).trans (by show some (Value.int .i64 y.kind) = _; rw [HK.out])
    have f0 := fun o => whl_cell H0.out o
    have f6 := fun o => whl_cell H6.out o
    have f7 := fun o => whl_cell H7.out o
    go_wp2_with fail
    clear f0 f1 f6 f7
    refine (ref_SameTold t .no D5 none T5 none dn5 dc5 0 0 tn5 tc5 0 0 _ VT.out.hd ⟨rfl, by unfold maxLen; omega, Row.nil_⟩ VT.out.ht (tchs_none _ _)).mono ?_
    rw [show sameT t .no = true by rw [HTN.out]; exact decide_eq_true rfl]
    rintro e w10 ⟨rfl, hb⟩
    replace H0 := Lib.hid (whl_since H0.out hb)
    replace H1 := Lib.hid (whl_since H1.out hb)
    replace H6 := Lib.hid (whl_since H6.out hb)
    replace H7 := Lib.hid (whl_since H7.out hb)
    replace VX := Lib.hid (VX.out.since hb)
    replace VZ := Lib.hid (VZ.out.since hb)
    replace VT := Lib.hid (VT.out.since hb)
    replace HB := Lib.hid (HB.out.trans (hb.mono HB.out.size))
    clear hb
    have f1 : w10.cell? ⟨w.heap.size + 1, 0, none⟩ = some (.int .i64 2) := (whl_cell H1.out 0).trans (by show some (Value.int .i64 y.kind) = _; rw [HK.out])
    have f0 := fun o => whl_cell H0.out o
    have f6 := fun o => whl_cell H6.out o
    have f7 := fun o => whl_cell H7.out o
    go_wp2_with fail
    clear f0 f1 f6 f7
    refine (hart_Same x.h z5.h R R5 nr rc nr5 rc5 _ VX.out.hr VZ.out.hr).mono ?_
    rw [show sameH x.h z5.h = true by rw [HHN.out]; exact decide_eq_true rfl]
    rintro e w11 ⟨rfl, hb⟩
    replace H0 := Lib.hid (whl_since H0.out hb)
    replace H1 := Lib.hid (whl_since H1.out hb)
    replace H6 := Lib.hid (whl_since H6.out hb)
    replace H7 := Lib.hid (whl_since H7.out hb)
    replace VX := Lib.hid (VX.out.since hb)
    replace VZ := Lib.hid (VZ.out.since hb)
    replace VT := Lib.hid (VT.out.since hb)
    replace HB := Lib.hid (HB.out.trans (hb.mono HB.out.size))
    clear hb
    have f1 : w11.cell? ⟨w.heap.size + 1, 0, none⟩ = some (.int .i64 2) := (whl_cell H1.out 0).trans (by show some (Value.int .i64 y.kind) = _; rw [HK.out])
    have f0 := fun o => whl_cell H0.out o
    have f6 := fun o => whl_cell H6.out o
    have f7 := fun o => whl_cell H7.out o
    go_upto_region 11 with (first | (refine wpList_load_part rfl 37 (.tmp 65) rfl (w5.heap.size) 4 _ _ [.int .i64 z5.b.mode, .int .i64 z5.b.base, .slice L5 n5 c5, .int .i64 z5.b.orders.page, .int .i64 z5.b.orders.head, .int .i64 z5.b.orders.tail, .bool z5.b.stopped, .int .i64 z5.b.fences, .int .i64 z5.b.faults.page, .int .i64 z5.b.faults.head, .int .i64 z5.b.faults.tail, .bool z5.b.lost] rfl H6.out rfl _ Try.underlying37 rfl Try.sizeBrg ?_) | (refine wpList_store_new rfl 37 (.tmp 8) (.tmp 66) rfl _ _ _ _ rfl rfl (by rfl) (by rfl) Try.sizeBrg rfl (by rfl) ?_))
    clear f0 f1 f6 f7
    generalize hwb : w11.alloc (.cells #[.int .i64 z5.b.mode, .int .i64 z5.b.base, .slice L5 n5 c5, .int .i64 z5.b.orders.page, .int .i64 z5.b.orders.head, .int .i64 z5.b.orders.tail, .bool z5.b.stopped, .int .i64 z5.b.fences, .int .i64 z5.b.faults.page, .int .i64 z5.b.faults.head, .int .i64 z5.b.faults.tail, .bool z5.b.lost] 37) = w12
    have HQ := Lib.hid (show Whl w12 w11.heap.size 37 #[.int .i64 z5.b.mode, .int .i64 z5.b.base, .slice L5 n5 c5, .int .i64 z5.b.orders.page, .int .i64 z5.b.orders.head, .int .i64 z5.b.orders.tail, .bool z5.b.stopped, .int .i64 z5.b.fences, .int .i64 z5.b.faults.page, .int .i64 z5.b.faults.head, .int .i64 z5.b.faults.tail, .bool z5.b.lost] by rw [← hwb]; exact whl_new _ _ _ rfl)
    have hb : Below w11.heap.size w11 w12 := by rw [← hwb]; exact (Below.refl _ _).alloc (Nat.le_refl _) _
    have hzq : w5.heap.size < w11.heap.size := whl_lt H6.out
    have hzr : w5.heap.size + 1 < w11.heap.size := whl_lt H7.out
    replace H0 := Lib.hid (whl_since H0.out hb)
    replace H1 := Lib.hid (whl_since H1.out hb)
    replace H6 := Lib.hid (whl_since H6.out hb)
    replace H7 := Lib.hid (whl_since H7.out hb)
    replace VX := Lib.hid (VX.out.since hb)
    replace VZ := Lib.hid (VZ.out.since hb)
    replace VT := Lib.hid (VT.out.since hb)
    replace HB := Lib.hid (HB.out.trans (hb.mono HB.out.size))
    clear hb hwb
    have d6 : w12.cell? ⟨w.heap.size, 6, none⟩ = some (.slice L n c) := whl_cell H0.out 6
    have d7 : w12.cell? ⟨w.heap.size, 7, none⟩ = some (.int .i64 x.b.orders.page) := whl_cell H0.out 7
    have d8 : w12.cell? ⟨w.heap.size, 8, none⟩ = some (.int .i64 x.b.orders.head) := whl_cell H0.out 8
    have d9 : w12.cell? ⟨w.heap.size, 9, none⟩ = some (.int .i64 x.b.orders.tail) := whl_cell H0.out 9
    have d10 : w12.cell? ⟨w.heap.size, 10, none⟩ = some (.bool x.b.stopped) := whl_cell H0.out 10
    have d11 : w12.cell? ⟨w.heap.size, 11, none⟩ = some (.int .i64 x.b.fences) := whl_cell H0.out 11
    have fq := fun o => whl_cell HQ.out o
    have fz := fun o => whl_frozen HQ.out o
    have hne : w11.heap.size ≠ w.heap.size := by omega
    have hne' : ¬ w11.heap.size = w.heap.size := by omega
    go_region_held3 (fun W => W.cell? ⟨w.heap.size, 6, none⟩ = some (.slice L n c) ∧ W.cell? ⟨w.heap.size, 7, none⟩ = some (.int .i64 x.b.orders.page) ∧ W.cell? ⟨w.heap.size, 8, none⟩ = some (.int .i64 x.b.orders.head) ∧ W.cell? ⟨w.heap.size, 9, none⟩ = some (.int .i64 x.b.orders.tail) ∧ W.cell? ⟨w.heap.size, 10, none⟩ = some (.bool x.b.stopped) ∧ W.cell? ⟨w.heap.size, 11, none⟩ = some (.int .i64 x.b.fences)) (go_keep) (fail)
    clear d6 d7 d8 d9 d10 d11 fq fz hne hne'
    generalize hwc : ((((((w12.setCell ⟨w11.heap.size, 3, none⟩ (.int .i64 x.b.orders.page)).setCell ⟨w11.heap.size, 4, none⟩ (.int .i64 x.b.orders.head)).setCell ⟨w11.heap.size, 5, none⟩ (.int .i64 x.b.orders.tail)).setCell ⟨w11.heap.size, 2, none⟩ (.slice L n c)).setCell ⟨w11.heap.size, 6, none⟩ (.bool x.b.stopped)).setCell ⟨w11.heap.size, 7, none⟩ (.int .i64 x.b.fences)).drew = w13
    have hQ : Whl w13 w11.heap.size 37 #[.int .i64 z5.b.mode, .int .i64 z5.b.base, .slice L n c, .int .i64 x.b.orders.page, .int .i64 x.b.orders.head, .int .i64 x.b.orders.tail, .bool x.b.stopped, .int .i64 x.b.fences, .int .i64 z5.b.faults.page, .int .i64 z5.b.faults.head, .int .i64 z5.b.faults.tail, .bool z5.b.lost] := by rw [← hwc]; exact whl_drew (whl_field (whl_field (whl_field (whl_field (whl_field (whl_field HQ.out 3 (.int .i64 x.b.orders.page) #[.int .i64 z5.b.mode, .int .i64 z5.b.base, .slice L5 n5 c5, .int .i64 x.b.orders.page, .int .i64 z5.b.orders.head, .int .i64 z5.b.orders.tail, .bool z5.b.stopped, .int .i64 z5.b.fences, .int .i64 z5.b.faults.page, .int .i64 z5.b.faults.head, .int .i64 z5.b.faults.tail, .bool z5.b.lost] rfl) 4 (.int .i64 x.b.orders.head) #[.int .i64 z5.b.mode, .int .i64 z5.b.base, .slice L5 n5 c5, .int .i64 x.b.orders.page, .int .i64 x.b.orders.head, .int .i64 z5.b.orders.tail, .bool z5.b.stopped, .int .i64 z5.b.fences, .int .i64 z5.b.faults.page, .int .i64 z5.b.faults.head, .int .i64 z5.b.faults.tail, .bool z5.b.lost] rfl) 5 (.int .i64 x.b.orders.tail) #[.int .i64 z5.b.mode, .int .i64 z5.b.base, .slice L5 n5 c5, .int .i64 x.b.orders.page, .int .i64 x.b.orders.head, .int .i64 x.b.orders.tail, .bool z5.b.stopped, .int .i64 z5.b.fences, .int .i64 z5.b.faults.page, .int .i64 z5.b.faults.head, .int .i64 z5.b.faults.tail, .bool z5.b.lost] rfl) 2 (.slice L n c) #[.int .i64 z5.b.mode, .int .i64 z5.b.base, .slice L n c, .int .i64 x.b.orders.page, .int .i64 x.b.orders.head, .int .i64 x.b.orders.tail, .bool z5.b.stopped, .int .i64 z5.b.fences, .int .i64 z5.b.faults.page, .int .i64 z5.b.faults.head, .int .i64 z5.b.faults.tail, .bool z5.b.lost] rfl) 6 (.bool x.b.stopped) #[.int .i64 z5.b.mode, .int .i64 z5.b.base, .slice L n c, .int .i64 x.b.orders.page, .int .i64 x.b.orders.head, .int .i64 x.b.orders.tail, .bool x.b.stopped, .int .i64 z5.b.fences, .int .i64 z5.b.faults.page, .int .i64 z5.b.faults.head, .int .i64 z5.b.faults.tail, .bool z5.b.lost] rfl) 7 (.int .i64 x.b.fences) #[.int .i64 z5.b.mode, .int .i64 z5.b.base, .slice L n c, .int .i64 x.b.orders.page, .int .i64 x.b.orders.head, .int .i64 x.b.orders.tail, .bool x.b.stopped, .int .i64 x.b.fences, .int .i64 z5.b.faults.page, .int .i64 z5.b.faults.head, .int .i64 z5.b.faults.tail, .bool z5.b.lost] rfl)
    have ht : Trn w11.heap.size w12 w13 := by rw [← hwc]; exact ⟨chg_drew (chg_set (P := fun q => q = w11.heap.size) (chg_set (P := fun q => q = w11.heap.size) (chg_set (P := fun q => q = w11.heap.size) (chg_set (P := fun q => q = w11.heap.size) (chg_set (P := fun q => q = w11.heap.size) (chg_set (P := fun q => q = w11.heap.size) (chg_refl w12) (p := ⟨w11.heap.size, 3, none⟩) (Or.inl rfl) (.int .i64 x.b.orders.page)) (p := ⟨w11.heap.size, 4, none⟩) (Or.inl rfl) (.int .i64 x.b.orders.head)) (p := ⟨w11.heap.size, 5, none⟩) (Or.inl rfl) (.int .i64 x.b.orders.tail)) (p := ⟨w11.heap.size, 2, none⟩) (Or.inl rfl) (.slice L n c)) (p := ⟨w11.heap.size, 6, none⟩) (Or.inl rfl) (.bool x.b.stopped)) (p := ⟨w11.heap.size, 7, none⟩) (Or.inl rfl) (.int .i64 x.b.fences)), by simp⟩
    replace HQ := Lib.hid hQ
    replace H0 := Lib.hid (whl_trn H0.out ht (by omega))
    replace H1 := Lib.hid (whl_trn H1.out ht (by omega))
    replace H6 := Lib.hid (whl_trn H6.out ht (by omega))
    replace H7 := Lib.hid (whl_trn H7.out ht (by omega))
    replace VX := Lib.hid (VX.out.trn ht (by show ¬ (w11.heap.size < w5.heap.size); omega))
    replace VZ := Lib.hid (VZ.out.trn ht (by show ¬ (w11.heap.size < w5.heap.size); omega))
    replace VT := Lib.hid (VT.out.trn ht (by show ¬ (w11.heap.size < w5.heap.size); omega))
    replace HB := Lib.hid (below_trn HB.out (HB.out.size) ht (by omega))
    clear hwc ht hQ
    have f0 := fun o => whl_cell H0.out o
    have f6 := fun o => whl_cell H6.out o
    have fq := fun o => whl_cell HQ.out o
    go_wp2_with fail
    clear f0 f6 fq
    refine (mem_Same M M5 nm nm5 mc mc5 x.m z5.m _ VX.out.hm VZ.out.hm).mono ?_
    rw [show eqI x.m z5.m = true by rw [HMN.out]; simp [eqI]]
    rintro e w14 ⟨rfl, hb⟩
    replace H0 := Lib.hid (whl_since H0.out hb)
    replace H1 := Lib.hid (whl_since H1.out hb)
    replace H6 := Lib.hid (whl_since H6.out hb)
    replace H7 := Lib.hid (whl_since H7.out hb)
    replace VX := Lib.hid (VX.out.since hb)
    replace VZ := Lib.hid (VZ.out.since hb)
    replace VT := Lib.hid (VT.out.since hb)
    replace HB := Lib.hid (HB.out.trans (hb.mono HB.out.size))
    replace HQ := Lib.hid (whl_since HQ.out hb)
    clear hb
    have hcap := VX.out.hl.cap
    have hcap5 := VZ.out.hl.cap
    have hl5 := VZ.out.hl.1
    have hlx := VX.out.hl.1
    have hLN : z5.b.cache.length ≤ x.b.cache.length := HLN.out
    rw [hl5, hlx] at hLN
    have q9 : (n5 : Int) ≤ (n : Int) := by omega
    clear hcap hcap5 hl5 hlx hLN
    have f0 := fun o => whl_cell H0.out o
    have f6 := fun o => whl_cell H6.out o
    have fq := fun o => whl_cell HQ.out o
    go_wp2_with fail
    clear f0 f6 fq
    refine (bridge_Same ({ z5.b with orders := x.b.orders, cache := x.b.cache, stopped := x.b.stopped, fences := x.b.fences } : Brg) x.b L L n c n c _ VX.out.hl VX.out.hl).mono ?_
    rw [show sameB ({ z5.b with orders := x.b.orders, cache := x.b.cache, stopped := x.b.stopped, fences := x.b.fences } : Brg) x.b = true from decide_eq_true HBN.out]
    rintro e w15 ⟨rfl, hb⟩
    replace H0 := Lib.hid (whl_since H0.out hb)
    replace H1 := Lib.hid (whl_since H1.out hb)
    replace H6 := Lib.hid (whl_since H6.out hb)
    replace H7 := Lib.hid (whl_since H7.out hb)
    replace VX := Lib.hid (VX.out.since hb)
    replace VZ := Lib.hid (VZ.out.since hb)
    replace VT := Lib.hid (VT.out.since hb)
    replace HB := Lib.hid (HB.out.trans (hb.mono HB.out.size))
    replace HQ := Lib.hid (whl_since HQ.out hb)
    clear hb
    have f0 := fun o => whl_cell H0.out o
    have f6 := fun o => whl_cell H6.out o
    have fq := fun o => whl_cell HQ.out o
    go_wp2
    go_ret
    exact ⟨rfl, HB.out⟩
  by_cases k3 : y.kind = 3
  · obtain ⟨l1, l2⟩ := held3_law HE.out k3
    rw [HDA.out] at l1 l2
    have HHN := Lib.hid l1
    have HBN := Lib.hid l2
    have HK := Lib.hid k3
    clear k1 k2 k3 l1 l2
    have f1 : w9.cell? ⟨w.heap.size + 1, 0, none⟩ = some (.int .i64 3) := (whl_cell H1.out 0).trans (by show some (Value.int .i64 y.kind) = _; rw [HK.out])
    have f0 := fun o => whl_cell H0.out o
    have f6 := fun o => whl_cell H6.out o
    have f7 := fun o => whl_cell H7.out o
    go_wp2_with fail
    clear f0 f1 f6 f7
    refine (hart_Same x.h z5.h R R5 nr rc nr5 rc5 _ VX.out.hr VZ.out.hr).mono ?_
    rw [show sameH x.h z5.h = true by rw [HHN.out]; exact decide_eq_true rfl]
    rintro e w11 ⟨rfl, hb⟩
    replace H0 := Lib.hid (whl_since H0.out hb)
    replace H1 := Lib.hid (whl_since H1.out hb)
    replace H6 := Lib.hid (whl_since H6.out hb)
    replace H7 := Lib.hid (whl_since H7.out hb)
    replace VX := Lib.hid (VX.out.since hb)
    replace VZ := Lib.hid (VZ.out.since hb)
    replace VT := Lib.hid (VT.out.since hb)
    replace HB := Lib.hid (HB.out.trans (hb.mono HB.out.size))
    clear hb
    have f1 : w11.cell? ⟨w.heap.size + 1, 0, none⟩ = some (.int .i64 3) := (whl_cell H1.out 0).trans (by show some (Value.int .i64 y.kind) = _; rw [HK.out])
    have f0 := fun o => whl_cell H0.out o
    have f6 := fun o => whl_cell H6.out o
    have f7 := fun o => whl_cell H7.out o
    go_upto_region 15 with (first | (refine wpList_load_part rfl 37 (.tmp 107) rfl (w5.heap.size) 4 _ _ [.int .i64 z5.b.mode, .int .i64 z5.b.base, .slice L5 n5 c5, .int .i64 z5.b.orders.page, .int .i64 z5.b.orders.head, .int .i64 z5.b.orders.tail, .bool z5.b.stopped, .int .i64 z5.b.fences, .int .i64 z5.b.faults.page, .int .i64 z5.b.faults.head, .int .i64 z5.b.faults.tail, .bool z5.b.lost] rfl H6.out rfl _ Try.underlying37 rfl Try.sizeBrg ?_) | (refine wpList_store_new rfl 37 (.tmp 9) (.tmp 108) rfl _ _ _ _ rfl rfl (by rfl) (by rfl) Try.sizeBrg rfl (by rfl) ?_))
    clear f0 f1 f6 f7
    generalize hwb : w11.alloc (.cells #[.int .i64 z5.b.mode, .int .i64 z5.b.base, .slice L5 n5 c5, .int .i64 z5.b.orders.page, .int .i64 z5.b.orders.head, .int .i64 z5.b.orders.tail, .bool z5.b.stopped, .int .i64 z5.b.fences, .int .i64 z5.b.faults.page, .int .i64 z5.b.faults.head, .int .i64 z5.b.faults.tail, .bool z5.b.lost] 37) = w12
    have HQ := Lib.hid (show Whl w12 w11.heap.size 37 #[.int .i64 z5.b.mode, .int .i64 z5.b.base, .slice L5 n5 c5, .int .i64 z5.b.orders.page, .int .i64 z5.b.orders.head, .int .i64 z5.b.orders.tail, .bool z5.b.stopped, .int .i64 z5.b.fences, .int .i64 z5.b.faults.page, .int .i64 z5.b.faults.head, .int .i64 z5.b.faults.tail, .bool z5.b.lost] by rw [← hwb]; exact whl_new _ _ _ rfl)
    have hb : Below w11.heap.size w11 w12 := by rw [← hwb]; exact (Below.refl _ _).alloc (Nat.le_refl _) _
    have hzq : w5.heap.size < w11.heap.size := whl_lt H6.out
    have hzr : w5.heap.size + 1 < w11.heap.size := whl_lt H7.out
    replace H0 := Lib.hid (whl_since H0.out hb)
    replace H1 := Lib.hid (whl_since H1.out hb)
    replace H6 := Lib.hid (whl_since H6.out hb)
    replace H7 := Lib.hid (whl_since H7.out hb)
    replace VX := Lib.hid (VX.out.since hb)
    replace VZ := Lib.hid (VZ.out.since hb)
    replace VT := Lib.hid (VT.out.since hb)
    replace HB := Lib.hid (HB.out.trans (hb.mono HB.out.size))
    clear hb hwb
    have d6 : w12.cell? ⟨w.heap.size, 6, none⟩ = some (.slice L n c) := whl_cell H0.out 6
    have d12 : w12.cell? ⟨w.heap.size, 12, none⟩ = some (.int .i64 x.b.faults.page) := whl_cell H0.out 12
    have d13 : w12.cell? ⟨w.heap.size, 13, none⟩ = some (.int .i64 x.b.faults.head) := whl_cell H0.out 13
    have d14 : w12.cell? ⟨w.heap.size, 14, none⟩ = some (.int .i64 x.b.faults.tail) := whl_cell H0.out 14
    have d15 : w12.cell? ⟨w.heap.size, 15, none⟩ = some (.bool x.b.lost) := whl_cell H0.out 15
    have fq := fun o => whl_cell HQ.out o
    have fz := fun o => whl_frozen HQ.out o
    have hne : w11.heap.size ≠ w.heap.size := by omega
    have hne' : ¬ w11.heap.size = w.heap.size := by omega
    go_region_held3 (fun W => W.cell? ⟨w.heap.size, 6, none⟩ = some (.slice L n c) ∧ W.cell? ⟨w.heap.size, 12, none⟩ = some (.int .i64 x.b.faults.page) ∧ W.cell? ⟨w.heap.size, 13, none⟩ = some (.int .i64 x.b.faults.head) ∧ W.cell? ⟨w.heap.size, 14, none⟩ = some (.int .i64 x.b.faults.tail) ∧ W.cell? ⟨w.heap.size, 15, none⟩ = some (.bool x.b.lost)) (go_keep) (fail)
    clear d6 d12 d13 d14 d15 fq fz hne hne'
    generalize hwc : (((((w12.setCell ⟨w11.heap.size, 2, none⟩ (.slice L n c)).setCell ⟨w11.heap.size, 8, none⟩ (.int .i64 x.b.faults.page)).setCell ⟨w11.heap.size, 9, none⟩ (.int .i64 x.b.faults.head)).setCell ⟨w11.heap.size, 10, none⟩ (.int .i64 x.b.faults.tail)).setCell ⟨w11.heap.size, 11, none⟩ (.bool x.b.lost)).drew = w13
    have hQ : Whl w13 w11.heap.size 37 #[.int .i64 z5.b.mode, .int .i64 z5.b.base, .slice L n c, .int .i64 z5.b.orders.page, .int .i64 z5.b.orders.head, .int .i64 z5.b.orders.tail, .bool z5.b.stopped, .int .i64 z5.b.fences, .int .i64 x.b.faults.page, .int .i64 x.b.faults.head, .int .i64 x.b.faults.tail, .bool x.b.lost] := by rw [← hwc]; exact whl_drew (whl_field (whl_field (whl_field (whl_field (whl_field HQ.out 2 (.slice L n c) #[.int .i64 z5.b.mode, .int .i64 z5.b.base, .slice L n c, .int .i64 z5.b.orders.page, .int .i64 z5.b.orders.head, .int .i64 z5.b.orders.tail, .bool z5.b.stopped, .int .i64 z5.b.fences, .int .i64 z5.b.faults.page, .int .i64 z5.b.faults.head, .int .i64 z5.b.faults.tail, .bool z5.b.lost] rfl) 8 (.int .i64 x.b.faults.page) #[.int .i64 z5.b.mode, .int .i64 z5.b.base, .slice L n c, .int .i64 z5.b.orders.page, .int .i64 z5.b.orders.head, .int .i64 z5.b.orders.tail, .bool z5.b.stopped, .int .i64 z5.b.fences, .int .i64 x.b.faults.page, .int .i64 z5.b.faults.head, .int .i64 z5.b.faults.tail, .bool z5.b.lost] rfl) 9 (.int .i64 x.b.faults.head) #[.int .i64 z5.b.mode, .int .i64 z5.b.base, .slice L n c, .int .i64 z5.b.orders.page, .int .i64 z5.b.orders.head, .int .i64 z5.b.orders.tail, .bool z5.b.stopped, .int .i64 z5.b.fences, .int .i64 x.b.faults.page, .int .i64 x.b.faults.head, .int .i64 z5.b.faults.tail, .bool z5.b.lost] rfl) 10 (.int .i64 x.b.faults.tail) #[.int .i64 z5.b.mode, .int .i64 z5.b.base, .slice L n c, .int .i64 z5.b.orders.page, .int .i64 z5.b.orders.head, .int .i64 z5.b.orders.tail, .bool z5.b.stopped, .int .i64 z5.b.fences, .int .i64 x.b.faults.page, .int .i64 x.b.faults.head, .int .i64 x.b.faults.tail, .bool z5.b.lost] rfl) 11 (.bool x.b.lost) #[.int .i64 z5.b.mode, .int .i64 z5.b.base, .slice L n c, .int .i64 z5.b.orders.page, .int .i64 z5.b.orders.head, .int .i64 z5.b.orders.tail, .bool z5.b.stopped, .int .i64 z5.b.fences, .int .i64 x.b.faults.page, .int .i64 x.b.faults.head, .int .i64 x.b.faults.tail, .bool x.b.lost] rfl)
    have ht : Trn w11.heap.size w12 w13 := by rw [← hwc]; exact ⟨chg_drew (chg_set (P := fun q => q = w11.heap.size) (chg_set (P := fun q => q = w11.heap.size) (chg_set (P := fun q => q = w11.heap.size) (chg_set (P := fun q => q = w11.heap.size) (chg_set (P := fun q => q = w11.heap.size) (chg_refl w12) (p := ⟨w11.heap.size, 2, none⟩) (Or.inl rfl) (.slice L n c)) (p := ⟨w11.heap.size, 8, none⟩) (Or.inl rfl) (.int .i64 x.b.faults.page)) (p := ⟨w11.heap.size, 9, none⟩) (Or.inl rfl) (.int .i64 x.b.faults.head)) (p := ⟨w11.heap.size, 10, none⟩) (Or.inl rfl) (.int .i64 x.b.faults.tail)) (p := ⟨w11.heap.size, 11, none⟩) (Or.inl rfl) (.bool x.b.lost)), by simp⟩
    replace HQ := Lib.hid hQ
    replace H0 := Lib.hid (whl_trn H0.out ht (by omega))
    replace H1 := Lib.hid (whl_trn H1.out ht (by omega))
    replace H6 := Lib.hid (whl_trn H6.out ht (by omega))
    replace H7 := Lib.hid (whl_trn H7.out ht (by omega))
    replace VX := Lib.hid (VX.out.trn ht (by show ¬ (w11.heap.size < w5.heap.size); omega))
    replace VZ := Lib.hid (VZ.out.trn ht (by show ¬ (w11.heap.size < w5.heap.size); omega))
    replace VT := Lib.hid (VT.out.trn ht (by show ¬ (w11.heap.size < w5.heap.size); omega))
    replace HB := Lib.hid (below_trn HB.out (HB.out.size) ht (by omega))
    clear hwc ht hQ
    go_wp2_with (first | (refine wpList_load_whl rfl 37 (.tmp 9) rfl (w11.heap.size) _ _ rfl HQ.out _ Try.underlying37 rfl Try.sizeBrg ?_) | (refine wpList_load_part rfl 37 (.tmp 122) rfl (w.heap.size) 4 _ _ [.int .i64 x.b.mode, .int .i64 x.b.base, .slice L n c, .int .i64 x.b.orders.page, .int .i64 x.b.orders.head, .int .i64 x.b.orders.tail, .bool x.b.stopped, .int .i64 x.b.fences, .int .i64 x.b.faults.page, .int .i64 x.b.faults.head, .int .i64 x.b.faults.tail, .bool x.b.lost] rfl H0.out rfl _ Try.underlying37 rfl Try.sizeBrg ?_))
    refine (bridge_Same ({ z5.b with cache := x.b.cache, faults := x.b.faults, lost := x.b.lost } : Brg) x.b L L n c n c _ VX.out.hl VX.out.hl).mono ?_
    rw [show sameB ({ z5.b with cache := x.b.cache, faults := x.b.faults, lost := x.b.lost } : Brg) x.b = true from decide_eq_true HBN.out]
    rintro e w15 ⟨rfl, hb⟩
    replace H0 := Lib.hid (whl_since H0.out hb)
    replace H1 := Lib.hid (whl_since H1.out hb)
    replace H6 := Lib.hid (whl_since H6.out hb)
    replace H7 := Lib.hid (whl_since H7.out hb)
    replace VX := Lib.hid (VX.out.since hb)
    replace VZ := Lib.hid (VZ.out.since hb)
    replace VT := Lib.hid (VT.out.since hb)
    replace HB := Lib.hid (HB.out.trans (hb.mono HB.out.size))
    replace HQ := Lib.hid (whl_since HQ.out hb)
    clear hb
    go_wp2
    go_ret
    exact ⟨rfl, HB.out⟩
  obtain ⟨k4, l1, l2, l3, l4, l5⟩ := held4_law HE.out k1 k2 k3
  rw [HDA.out] at l1 l2 l3 l4 l5
  have HTN := Lib.hid l1
  have HHN := Lib.hid l2
  have HMN := Lib.hid l3
  have HBN := Lib.hid l4
  have HLN := Lib.hid l5
  have HK := Lib.hid k4
  clear k1 k2 k3 k4 l1 l2 l3 l4 l5
  have f1 : w9.cell? ⟨w.heap.size + 1, 0, none⟩ = some (.int .i64 4) := (whl_cell H1.out 0).trans (by show some (Value.int .i64 y.kind) = _; rw [HK.out])
  have f0 := fun o => whl_cell H0.out o
  have f6 := fun o => whl_cell H6.out o
  have f7 := fun o => whl_cell H7.out o
  go_wp2_with fail
  clear f0 f1 f6 f7
  refine (ref_SameTold t .no D5 none T5 none dn5 dc5 0 0 tn5 tc5 0 0 _ VT.out.hd ⟨rfl, by unfold maxLen; omega, Row.nil_⟩ VT.out.ht (tchs_none _ _)).mono ?_
  rw [show sameT t .no = true by rw [HTN.out]; exact decide_eq_true rfl]
  rintro e w10 ⟨rfl, hb⟩
  replace H0 := Lib.hid (whl_since H0.out hb)
  replace H1 := Lib.hid (whl_since H1.out hb)
  replace H6 := Lib.hid (whl_since H6.out hb)
  replace H7 := Lib.hid (whl_since H7.out hb)
  replace VX := Lib.hid (VX.out.since hb)
  replace VZ := Lib.hid (VZ.out.since hb)
  replace VT := Lib.hid (VT.out.since hb)
  replace HB := Lib.hid (HB.out.trans (hb.mono HB.out.size))
  clear hb
  have f1 : w10.cell? ⟨w.heap.size + 1, 0, none⟩ = some (.int .i64 4) := (whl_cell H1.out 0).trans (by show some (Value.int .i64 y.kind) = _; rw [HK.out])
  have f0 := fun o => whl_cell H0.out o
  have f6 := fun o => whl_cell H6.out o
  have f7 := fun o => whl_cell H7.out o
  go_wp2_with fail
  clear f0 f1 f6 f7
  refine (hart_Same x.h z5.h R R5 nr rc nr5 rc5 _ VX.out.hr VZ.out.hr).mono ?_
  rw [show sameH x.h z5.h = true by rw [HHN.out]; exact decide_eq_true rfl]
  rintro e w11 ⟨rfl, hb⟩
  replace H0 := Lib.hid (whl_since H0.out hb)
  replace H1 := Lib.hid (whl_since H1.out hb)
  replace H6 := Lib.hid (whl_since H6.out hb)
  replace H7 := Lib.hid (whl_since H7.out hb)
  replace VX := Lib.hid (VX.out.since hb)
  replace VZ := Lib.hid (VZ.out.since hb)
  replace VT := Lib.hid (VT.out.since hb)
  replace HB := Lib.hid (HB.out.trans (hb.mono HB.out.size))
  clear hb
  have f1 : w11.cell? ⟨w.heap.size + 1, 0, none⟩ = some (.int .i64 4) := (whl_cell H1.out 0).trans (by show some (Value.int .i64 y.kind) = _; rw [HK.out])
  have f0 := fun o => whl_cell H0.out o
  have f6 := fun o => whl_cell H6.out o
  have f7 := fun o => whl_cell H7.out o
  go_upto_region 18 with (first | (refine wpList_load_part rfl 37 (.tmp 125) rfl (w5.heap.size) 4 _ _ [.int .i64 z5.b.mode, .int .i64 z5.b.base, .slice L5 n5 c5, .int .i64 z5.b.orders.page, .int .i64 z5.b.orders.head, .int .i64 z5.b.orders.tail, .bool z5.b.stopped, .int .i64 z5.b.fences, .int .i64 z5.b.faults.page, .int .i64 z5.b.faults.head, .int .i64 z5.b.faults.tail, .bool z5.b.lost] rfl H6.out rfl _ Try.underlying37 rfl Try.sizeBrg ?_) | (refine wpList_store_new rfl 37 (.tmp 10) (.tmp 126) rfl _ _ _ _ rfl rfl (by rfl) (by rfl) Try.sizeBrg rfl (by rfl) ?_))
  clear f0 f1 f6 f7
  generalize hwb : w11.alloc (.cells #[.int .i64 z5.b.mode, .int .i64 z5.b.base, .slice L5 n5 c5, .int .i64 z5.b.orders.page, .int .i64 z5.b.orders.head, .int .i64 z5.b.orders.tail, .bool z5.b.stopped, .int .i64 z5.b.fences, .int .i64 z5.b.faults.page, .int .i64 z5.b.faults.head, .int .i64 z5.b.faults.tail, .bool z5.b.lost] 37) = w12
  have HQ := Lib.hid (show Whl w12 w11.heap.size 37 #[.int .i64 z5.b.mode, .int .i64 z5.b.base, .slice L5 n5 c5, .int .i64 z5.b.orders.page, .int .i64 z5.b.orders.head, .int .i64 z5.b.orders.tail, .bool z5.b.stopped, .int .i64 z5.b.fences, .int .i64 z5.b.faults.page, .int .i64 z5.b.faults.head, .int .i64 z5.b.faults.tail, .bool z5.b.lost] by rw [← hwb]; exact whl_new _ _ _ rfl)
  have hb : Below w11.heap.size w11 w12 := by rw [← hwb]; exact (Below.refl _ _).alloc (Nat.le_refl _) _
  have hzq : w5.heap.size < w11.heap.size := whl_lt H6.out
  have hzr : w5.heap.size + 1 < w11.heap.size := whl_lt H7.out
  replace H0 := Lib.hid (whl_since H0.out hb)
  replace H1 := Lib.hid (whl_since H1.out hb)
  replace H6 := Lib.hid (whl_since H6.out hb)
  replace H7 := Lib.hid (whl_since H7.out hb)
  replace VX := Lib.hid (VX.out.since hb)
  replace VZ := Lib.hid (VZ.out.since hb)
  replace VT := Lib.hid (VT.out.since hb)
  replace HB := Lib.hid (HB.out.trans (hb.mono HB.out.size))
  clear hb hwb
  have f0b := fun o => whl_cell H0.out o
  go_upto_region 19 with (first | (refine wpList_store_cell rfl 33 (.tmp 130) (.tmp 129) rfl w11.heap.size 2 _ _ #[.int .i64 z5.b.mode, .int .i64 z5.b.base, .slice L n c, .int .i64 z5.b.orders.page, .int .i64 z5.b.orders.head, .int .i64 z5.b.orders.tail, .bool z5.b.stopped, .int .i64 z5.b.fences, .int .i64 z5.b.faults.page, .int .i64 z5.b.faults.head, .int .i64 z5.b.faults.tail, .bool z5.b.lost] (.slice L n c) rfl rfl HQ.out Try.sizeLines (of_decide_eq_true rfl) rfl rfl ?_; intro w13 h13 ht))
  replace HQ := Lib.hid h13
  replace H0 := Lib.hid (whl_trn H0.out ht (by omega))
  replace H1 := Lib.hid (whl_trn H1.out ht (by omega))
  replace H6 := Lib.hid (whl_trn H6.out ht (by omega))
  replace H7 := Lib.hid (whl_trn H7.out ht (by omega))
  replace VX := Lib.hid (VX.out.trn ht (by show ¬ (w11.heap.size < w5.heap.size); omega))
  replace VZ := Lib.hid (VZ.out.trn ht (by show ¬ (w11.heap.size < w5.heap.size); omega))
  replace VT := Lib.hid (VT.out.trn ht (by show ¬ (w11.heap.size < w5.heap.size); omega))
  replace HB := Lib.hid (below_trn HB.out (HB.out.size) ht (by omega))
  clear h13 ht f0b
  have f0 := fun o => whl_cell H0.out o
  have f6 := fun o => whl_cell H6.out o
  have fq := fun o => whl_cell HQ.out o
  go_wp2_with fail
  clear f0 f6 fq
  refine (mem_Same M M5 nm nm5 mc mc5 x.m z5.m _ VX.out.hm VZ.out.hm).mono ?_
  rw [show eqI x.m z5.m = true by rw [HMN.out]; simp [eqI]]
  rintro e w14 ⟨rfl, hb⟩
  replace H0 := Lib.hid (whl_since H0.out hb)
  replace H1 := Lib.hid (whl_since H1.out hb)
  replace H6 := Lib.hid (whl_since H6.out hb)
  replace H7 := Lib.hid (whl_since H7.out hb)
  replace VX := Lib.hid (VX.out.since hb)
  replace VZ := Lib.hid (VZ.out.since hb)
  replace VT := Lib.hid (VT.out.since hb)
  replace HB := Lib.hid (HB.out.trans (hb.mono HB.out.size))
  replace HQ := Lib.hid (whl_since HQ.out hb)
  clear hb
  have hcap := VX.out.hl.cap
  have hcap5 := VZ.out.hl.cap
  have hl5 := VZ.out.hl.1
  have hlx := VX.out.hl.1
  have hLN : ((z5.b.cache.length : Nat) : Int) = (x.b.cache.length : Int) - 1 := HLN.out
  rw [hl5, hlx] at hLN
  have q8 : (1 : Int) ≤ (n : Int) := by omega
  have q9 : ((n5 : Int) == (n : Int) - 1) = true := by rw [beq_iff_eq]; exact hLN
  have q7 : (n : Int) ≤ 9223372036854775807 := by omega
  clear hcap hcap5 hl5 hlx hLN
  have f0 := fun o => whl_cell H0.out o
  have f6 := fun o => whl_cell H6.out o
  have fq := fun o => whl_cell HQ.out o
  go_wp2_with fail
  clear f0 f6 fq
  refine (bridge_Same ({ z5.b with cache := x.b.cache } : Brg) x.b L L n c n c _ VX.out.hl VX.out.hl).mono ?_
  rw [show sameB ({ z5.b with cache := x.b.cache } : Brg) x.b = true from decide_eq_true HBN.out]
  rintro e w15 ⟨rfl, hb⟩
  replace H0 := Lib.hid (whl_since H0.out hb)
  replace H1 := Lib.hid (whl_since H1.out hb)
  replace H6 := Lib.hid (whl_since H6.out hb)
  replace H7 := Lib.hid (whl_since H7.out hb)
  replace VX := Lib.hid (VX.out.since hb)
  replace VZ := Lib.hid (VZ.out.since hb)
  replace VT := Lib.hid (VT.out.since hb)
  replace HB := Lib.hid (HB.out.trans (hb.mono HB.out.size))
  replace HQ := Lib.hid (whl_since HQ.out hb)
  clear hb
  have f0 := fun o => whl_cell H0.out o
  have f6 := fun o => whl_cell H6.out o
  have fq := fun o => whl_cell HQ.out o
  go_wp2
  go_ret
  exact ⟨rfl, HB.out⟩
end
end Go.Proofs.Ytbopdijnojaaiac
