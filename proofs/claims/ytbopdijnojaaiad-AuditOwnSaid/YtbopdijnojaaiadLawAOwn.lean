/- The walk of the law AuditOwn: what a device touched within a page is fair by the machine that it was. The row is in another text. -/
import Derived.Test.YtbopdijnojaaiadAudited
import Derived.Test.YtbopdijnojaaiadMdo
import Derived.Test.YtbopdijnojaaiadMachQ
import Derived.Test.YtbopdijnojaaiadShort
import Derived.Test.YtbopdijnojaaiadOpenC
import Derived.Test.YtbopdijnojaaiadRegW
import Derived.Deep.DeepCutAuto
namespace Go.Proofs.Ytbopdijnojaaiad
open Go.RowKit
set_option linter.unusedSimpArgs false
set_option linter.unusedVariables false
attribute [local go_sem ↓] Go.wp_at_zero Go.wp_at_succ
theorem Try.sizeTchO : (Try.prog.info? 48).map (·.size) = some 5 := by kernel_rfl
theorem Try.alcMachO (w : World) : (Instr.alloc 33 true (.tuple #[])).run Try.prog w = .ok (.pointer (some ⟨w.heap.size, 0, none⟩)) (w.alloc (.cells #[.slice none 0 0, .int .i64 0, .slice none 0 0, .bool false, .int .i64 0, .int .i64 0, .slice none 0 0, .int .i64 0, .int .i64 0, .int .i64 0, .bool false, .int .i64 0, .int .i64 0, .int .i64 0, .int .i64 0, .bool false] 33)) := by kernel_rfl
theorem Try.alcToldO (w : World) : (Instr.alloc 41 true (.tuple #[])).run Try.prog w = .ok (.pointer (some ⟨w.heap.size, 0, none⟩)) (w.alloc (.cells #[.bool false, .slice none 0 0, .int .i64 0, .slice none 0 0] 41)) := by kernel_rfl
theorem TldV.ltO {w : World} {Av : Nat → Prop} {t : Tld} {D T : Option Addr} {dn tn tc : Nat} (h : TldV w Av t D dn T tn tc) : TldV w (fun q => Av q ∧ q < w.heap.size) t D dn T tn tc := ⟨h.hd, h.ht, fun h0 ad e => ⟨h.ad h0 ad e, rowIn_ints h.hd h0 ad e⟩, fun h0 ad e => ⟨h.at_ h0 ad e, rowIn_tchs h.ht h0 ad e⟩⟩
def bareM (x : Mch) : Mch := ⟨x.m, x.h, { x.b with cache := [] }⟩
theorem machV_bare {w : World} {Av : Nat → Prop} {x : Mch} {M R L : Option Addr} {nm nr n c : Nat} (h : MachV w Av x M nm R nr L n c) : MachV w Av (bareM x) M nm R nr none 0 0 := ⟨h.hm, h.hr, lines_none _ _, h.am, h.ar, fun h => absurd h (by decide)⟩
theorem short_len (a : Ask) : (shortA a).data.length ≤ a.data.length := by
  unfold shortA
  split
  · exact Nat.le_refl _
  · simp only []
    split
    · rw [List.length_take]; omega
    · exact Nat.le_refl _
section
variable (x : Mch) (a : Ask) (M R L AD : Option Addr) (w : World)
set_option maxRecDepth 100000 in
set_option maxHeartbeats 8000000 in
theorem law_AuditOwn (nm mc nr rc n c nd cd : Nat) (hm : Ints w w.heap.size M nm x.m) (hr : Ints w w.heap.size R nr x.h.regs) (hl : Lines w w.heap.size L n c x.b.cache) (hd : Ints w w.heap.size AD nd a.data) (hcd : nd ≤ cd ∧ cd ≤ 9223372036854775807) :
    Calls Try.prog 3 #[.agg #[.slice M nm mc, .int .i64 x.h.at_, .slice R nr rc, .bool x.h.done, .int .i64 x.b.mode, .int .i64 x.b.base, .slice L n c, .int .i64 x.b.orders.page, .int .i64 x.b.orders.head, .int .i64 x.b.orders.tail, .bool x.b.stopped, .int .i64 x.b.fences, .int .i64 x.b.faults.page, .int .i64 x.b.faults.head, .int .i64 x.b.faults.tail, .bool x.b.lost], .agg #[.int .i64 a.dev, .int .i64 a.at_, .int .i64 a.count, .bool a.wr, .slice AD nd cd]] w fun e w' => e = .returned (.bool true) ∧ Below w.heap.size w w' := by
  have HMV := Lib.hid (machV_arg hm hr hl)
  have HD := Lib.hid hd
  have HCD := Lib.hid hcd
  clear hm hr hl hd hcd
  go_enter Try.func3, Try.ntmps3
  go_upto_region 1 with (fail)
  generalize hw0 : (w.alloc (.cells #[.slice M nm mc, .int .i64 x.h.at_, .slice R nr rc, .bool x.h.done, .int .i64 x.b.mode, .int .i64 x.b.base, .slice L n c, .int .i64 x.b.orders.page, .int .i64 x.b.orders.head, .int .i64 x.b.orders.tail, .bool x.b.stopped, .int .i64 x.b.fences, .int .i64 x.b.faults.page, .int .i64 x.b.faults.head, .int .i64 x.b.faults.tail, .bool x.b.lost] 33)).alloc (.cells #[.int .i64 a.dev, .int .i64 a.at_, .int .i64 a.count, .bool a.wr, .slice AD nd cd] 35) = w0
  have H0 := Lib.hid (show Whl w0 w.heap.size 33 #[.slice M nm mc, .int .i64 x.h.at_, .slice R nr rc, .bool x.h.done, .int .i64 x.b.mode, .int .i64 x.b.base, .slice L n c, .int .i64 x.b.orders.page, .int .i64 x.b.orders.head, .int .i64 x.b.orders.tail, .bool x.b.stopped, .int .i64 x.b.fences, .int .i64 x.b.faults.page, .int .i64 x.b.faults.head, .int .i64 x.b.faults.tail, .bool x.b.lost] by rw [← hw0]; exact whl_alloc (whl_new _ _ _ rfl) _)
  have H3 := Lib.hid (show Whl w0 (w.heap.size + 1) 35 #[.int .i64 a.dev, .int .i64 a.at_, .int .i64 a.count, .bool a.wr, .slice AD nd cd] by rw [← hw0]; exact whl_new _ _ _ (by simp))
  have HW0 := Lib.hid (show Below w.heap.size w w0 by rw [← hw0]; (repeat (first | (with_reducible exact Below.refl _ _) | (with_reducible refine Below.drew ?_) | (with_reducible refine bdrewN ?_ _) | ((with_reducible refine Below.setCell ?_ ?_ _); rotate_left; exact (by first | (simp; done) | (simp; omega) | omega)) | ((with_reducible refine Below.alloc ?_ ?_ _); rotate_left; exact (by first | (simp; done) | (simp; omega) | omega)))))
  have hz0a : w0.heap.size ≤ w.heap.size + 2 := by rw [← hw0]; simp
  have hz0b : w.heap.size + 2 ≤ w0.heap.size := by rw [← hw0]; simp
  clear hw0
  go_upto_region 2 with (refine wpList_store_cell rfl 27 (.tmp 13) (.const (.slice none 0 0)) rfl w.heap.size 6 _ _ #[.slice M nm mc, .int .i64 x.h.at_, .slice R nr rc, .bool x.h.done, .int .i64 x.b.mode, .int .i64 x.b.base, .slice none 0 0, .int .i64 x.b.orders.page, .int .i64 x.b.orders.head, .int .i64 x.b.orders.tail, .bool x.b.stopped, .int .i64 x.b.fences, .int .i64 x.b.faults.page, .int .i64 x.b.faults.head, .int .i64 x.b.faults.tail, .bool x.b.lost] (.slice none 0 0) rfl rfl H0.out Try.sizeLines (of_decide_eq_true rfl) rfl rfl ?_; intro w1 h1 t1)
  have HB := Lib.hid (below_trn HW0.out (by omega) t1 (Nat.le_refl _))
  have hz1a : w.heap.size + 1 < w1.heap.size := by have := t1.2; omega
  have HX := Lib.hid h1
  replace H3 := Lib.hid (whl_trn H3.out t1 (by omega))
  have HV := Lib.hid (show MachV w1 (fun q => q ≠ w.heap.size) (bareM x) M nm R nr none 0 0 from (MachV.trn (x := bareM x) ((machV_bare (MachV.av HMV.out (Av' := fun q => q ≠ w.heap.size) (fun q hq => by omega))).since HW0.out) t1 (fun hq => hq rfl)))
  clear h1 t1 H0 HW0 hz0a hz0b HMV
  go_wp2_with fail
  refine (law_audited _).mono ?_
  rintro e w2 ⟨rfl, hb⟩
  replace HX := Lib.hid (whl_since HX.out hb)
  replace H3 := Lib.hid (whl_since H3.out hb)
  replace HV := Lib.hid (HV.out.since hb)
  replace HB := Lib.hid (HB.out.trans (hb.mono HB.out.size))
  have hz2 := hb.size
  clear hb
  have k2 := fun o => whl_cell HX.out o
  have l2 : w.heap.size < w2.heap.size := by omega
  go_wp2_with fail
  clear k2 l2
  refine (machine_Check (bareM x) M R none nm mc nr rc 0 0 _ HV.out.hm HV.out.hr HV.out.hl).mono ?_
  rintro e w3 ⟨rfl, hb⟩
  replace HX := Lib.hid (whl_since HX.out hb)
  replace H3 := Lib.hid (whl_since H3.out hb)
  replace HV := Lib.hid (HV.out.since hb)
  replace HB := Lib.hid (HB.out.trans (hb.mono HB.out.size))
  have hz3 := hb.size
  clear hb
  by_cases h0 : ckM (bareM x) = 0
  rotate_left
  · have t0 : (ckM (bareM x) != 0) = true := by rw [bne_iff_ne]; exact h0
    clear h0
    go_wp2_with fail
    refine (law_audited _).mono ?_
    rintro e w4 ⟨rfl, hb4⟩
    have HB4 := Lib.hid (HB.out.trans (hb4.mono (by omega)))
    clear hb4
    go_wp2
    go_ret
    exact ⟨rfl, HB4.out⟩
  have t0 : (ckM (bareM x) != 0) = false := by rw [bne_eq_false_iff_eq]; exact h0
  have H0 := Lib.hid h0
  clear h0
  obtain ⟨⟨z5, t⟩, hDA⟩ : ∃ r, doA (bareM x) (⟨3, 0, shortA a⟩ : Hap) = r := ⟨_, rfl⟩
  obtain ⟨E, hDE⟩ : ∃ E, doE (bareM x) (⟨3, 0, shortA a⟩ : Hap) = E := ⟨_, rfl⟩
  have HDA := Lib.hid hDA
  have HDE := Lib.hid hDE
  have HD3 := Lib.hid (ints_now HD.out HB.out)
  clear hDA hDE
  go_upto_region 4 with (fail)
  clear t0
  go_cut [5, 6, 7] (fun s5 s6 s7 wd => ∃ g5 g6 D5 dn5 dc5 T5 tn5 tc5, s5 = .pointer (some ⟨g5, 0, none⟩) ∧ s6 = .pointer (some ⟨g6, 0, none⟩) ∧ s7 = .int .i64 E ∧ Hid (Whl wd g6 41 #[.bool t.done, .slice D5 dn5 dc5, .int .i64 t.fault, .slice T5 tn5 tc5] ∧ w3.heap.size ≤ g6 ∧ TldV wd (fun _ => True) t D5 dn5 T5 tn5 tc5 ∧ Below w3.heap.size w3 wd))
  case first =>
    refine wp_region_held_drew (S := fun W' => Below w3.heap.size w3 W') (by kernel_rfl) (Below.refl _ _).drew (fun hS0 => ?_)
    generalize hdw : w3.drew = V0 at *
    have HS := Lib.hid hS0
    have hzV0 : w3.heap.size ≤ V0.heap.size := hS0.size
    replace HD3 := Lib.hid (ints_now HD3.out hS0)
    replace HV := Lib.hid (HV.out.since hS0)
    clear hS0 hdw
    refine take_atR (i := 0) (d := 23) (v := .agg #[.slice M nm mc, .int .i64 x.h.at_, .slice R nr rc, .bool x.h.done, .int .i64 x.b.mode, .int .i64 x.b.base, .slice none 0 0, .int .i64 x.b.orders.page, .int .i64 x.b.orders.head, .int .i64 x.b.orders.tail, .bool x.b.stopped, .int .i64 x.b.fences, .int .i64 x.b.faults.page, .int .i64 x.b.faults.head, .int .i64 x.b.faults.tail, .bool x.b.lost]) rfl rfl (by kernel_rfl) (by kernel_rfl) (by kernel_rfl) (fun _ _ _ h => h) (Or.inl ⟨by rfl, yld_whl 33 (.tmp 2) w.heap.size 33 #[.slice M nm mc, .int .i64 x.h.at_, .slice R nr rc, .bool x.h.done, .int .i64 x.b.mode, .int .i64 x.b.base, .slice none 0 0, .int .i64 x.b.orders.page, .int .i64 x.b.orders.head, .int .i64 x.b.orders.tail, .bool x.b.stopped, .int .i64 x.b.fences, .int .i64 x.b.faults.page, .int .i64 x.b.faults.head, .int .i64 x.b.faults.tail, .bool x.b.lost] rfl rfl (fun W' hW' => whl_since HX.out hW') _ Try.underlying33 rfl Try.sizeMach⟩) HS.out ?_
    (try simp only [Act.put, List.setIfInBounds_toArray, List.set_cons_zero, List.set_cons_succ])
    refine take_atR (i := 1) (d := 24) (v := .agg #[.int .i64 a.dev, .int .i64 a.at_, .int .i64 a.count, .bool a.wr, .slice AD nd cd]) rfl rfl (by kernel_rfl) (by kernel_rfl) (by kernel_rfl) (fun _ _ _ h => h) (Or.inl ⟨by rfl, yld_whl 35 (.tmp 3) (w.heap.size + 1) 35 #[.int .i64 a.dev, .int .i64 a.at_, .int .i64 a.count, .bool a.wr, .slice AD nd cd] rfl rfl (fun W' hW' => whl_since H3.out hW') _ Try.underlying35 rfl Try.sizeAsk⟩) HS.out ?_
    (try simp only [Act.put, List.setIfInBounds_toArray, List.set_cons_zero, List.set_cons_succ])
    refine wpAnyH_ready (rs := [2, 9, 10]) (by kernel_rfl) (by simp) ?_
    refine AllReadyH.cons rfl (fun KK hKK => ?_) (AllReadyH.cons rfl (fun KK hKK => ?_) (AllReadyH.cons rfl (fun KK hKK => ?_) AllReadyH.nil))
    · rw [if_pos (by rfl)]
      refine wp_callR 9 #[.agg #[.int .i64 a.dev, .int .i64 a.at_, .int .i64 a.count, .bool a.wr, .slice AD nd cd]] (by kernel_rfl) 25 rfl ((law_short a AD nd cd V0 HD3.out HCD.out).mono ?_)
      rintro e V1 ⟨kd, dd, rfl, hi5, hc5, hb⟩
      have HI := Lib.hid hi5
      replace HS := Lib.hid (HS.out.trans (hb.mono HS.out.size))
      replace HV := Lib.hid (HV.out.since hb)
      have hzV1 : V0.heap.size ≤ V1.heap.size := hb.size
      clear hb hi5 hc5 HD3
      refine ⟨_, rfl, ?_⟩
      refine hKK.out _ _ HS.out (fun _ => ?_)
      clear hKK KK
      (try simp only [Act.put, List.setIfInBounds_toArray, List.set_cons_zero, List.set_cons_succ])
      refine take_atR (i := 3) (d := 26) (v := .agg #[.int .i64 3, .int .i64 0, .int .i64 (shortA a).dev, .int .i64 (shortA a).at_, .int .i64 (shortA a).count, .bool (shortA a).wr, .slice AD kd dd]) rfl rfl (by kernel_rfl) (by kernel_rfl) (by kernel_rfl) (fun _ _ _ h => h) (Or.inl ⟨by rfl, fun W' _ => (by kernel_rfl)⟩) HS.out ?_
      (try simp only [Act.put, List.setIfInBounds_toArray, List.set_cons_zero, List.set_cons_succ])
      refine wpAnyH_ready (rs := [4, 9, 10]) (by kernel_rfl) (by simp) ?_
      refine AllReadyH.cons rfl (fun KK hKK => ?_) (AllReadyH.cons rfl (fun KK hKK => ?_) (AllReadyH.cons rfl (fun KK hKK => ?_) AllReadyH.nil))
      · rw [if_pos (by rfl)]
        refine wp_callR 8 #[.agg #[.slice M nm mc, .int .i64 x.h.at_, .slice R nr rc, .bool x.h.done, .int .i64 x.b.mode, .int .i64 x.b.base, .slice none 0 0, .int .i64 x.b.orders.page, .int .i64 x.b.orders.head, .int .i64 x.b.orders.tail, .bool x.b.stopped, .int .i64 x.b.fences, .int .i64 x.b.faults.page, .int .i64 x.b.faults.head, .int .i64 x.b.faults.tail, .bool x.b.lost], .agg #[.int .i64 3, .int .i64 0, .int .i64 (shortA a).dev, .int .i64 (shortA a).at_, .int .i64 (shortA a).count, .bool (shortA a).wr, .slice AD kd dd]] (by kernel_rfl) 27 rfl ((mdo_ans (bareM x) (⟨3, 0, shortA a⟩ : Hap) M R none AD kd dd V1 nm mc nr rc 0 0 HV.out.hm HV.out.hr HV.out.hl HI.out (z5, t) E HDA.out HDE.out).mono ?_)
        rintro e V2 ⟨M5, nm5, mc5, R5, nr5, rc5, L5, n5, c5, D5, dn5, dc5, T5, tn5, tc5, rfl, hv5, ht5, hb⟩
        have VT := Lib.hid ht5.ltO
        replace HS := Lib.hid (HS.out.trans (hb.mono HS.out.size))
        have hzV2 : V1.heap.size ≤ V2.heap.size := hb.size
        clear hb hv5 ht5 HI
        refine ⟨_, rfl, ?_⟩
        refine hKK.out _ _ HS.out (fun _ => ?_)
        clear hKK KK
        (try simp only [Act.put, List.setIfInBounds_toArray, List.set_cons_zero, List.set_cons_succ])
        refine take_atR (i := 5) (d := 22) (v := _) rfl rfl (by kernel_rfl) (by kernel_rfl) (by kernel_rfl) (fun _ _ _ h => h) (Or.inl ⟨by rfl, fun _ _ => rfl⟩) HS.out ?_
        (try simp only [Act.put, List.setIfInBounds_toArray, List.set_cons_zero, List.set_cons_succ])
        refine take_atR (i := 6) (d := 28) (v := .agg #[.slice M5 nm5 mc5, .int .i64 z5.h.at_, .slice R5 nr5 rc5, .bool z5.h.done, .int .i64 z5.b.mode, .int .i64 z5.b.base, .slice L5 n5 c5, .int .i64 z5.b.orders.page, .int .i64 z5.b.orders.head, .int .i64 z5.b.orders.tail, .bool z5.b.stopped, .int .i64 z5.b.fences, .int .i64 z5.b.faults.page, .int .i64 z5.b.faults.head, .int .i64 z5.b.faults.tail, .bool z5.b.lost]) rfl rfl (by kernel_rfl) (by kernel_rfl) (by kernel_rfl) (fun _ _ _ h => h) (Or.inl ⟨by rfl, fun _ _ => rfl⟩) HS.out ?_
        (try simp only [Act.put, List.setIfInBounds_toArray, List.set_cons_zero, List.set_cons_succ])
        refine take_atR (i := 7) (d := 29) (v := .agg #[.bool t.done, .slice D5 dn5 dc5, .int .i64 t.fault, .slice T5 tn5 tc5]) rfl rfl (by kernel_rfl) (by kernel_rfl) (by kernel_rfl) (fun _ _ _ h => h) (Or.inl ⟨by rfl, fun _ _ => rfl⟩) HS.out ?_
        (try simp only [Act.put, List.setIfInBounds_toArray, List.set_cons_zero, List.set_cons_succ])
        refine take_atR (i := 8) (d := 30) (v := .int .i64 E) rfl rfl (by kernel_rfl) (by kernel_rfl) (by kernel_rfl) (fun _ _ _ h => h) (Or.inl ⟨by rfl, fun _ _ => rfl⟩) HS.out ?_
        (try simp only [Act.put, List.setIfInBounds_toArray, List.set_cons_zero, List.set_cons_succ])
        refine wpAnyH_ready (rs := [9, 10]) (by kernel_rfl) (by simp) ?_
        refine AllReadyH.cons rfl (fun KK hKK => ?_) (AllReadyH.cons rfl (fun KK hKK => ?_) AllReadyH.nil)
        · rw [if_pos (by rfl)]
          refine wp_allocR 33 rfl _ _ (Try.alcMachO V2) 5 rfl ?_
          have hb : Below V2.heap.size V2 (V2.alloc (.cells #[.slice none 0 0, .int .i64 0, .slice none 0 0, .bool false, .int .i64 0, .int .i64 0, .slice none 0 0, .int .i64 0, .int .i64 0, .int .i64 0, .bool false, .int .i64 0, .int .i64 0, .int .i64 0, .int .i64 0, .bool false] 33)) := below_alloc _ _
          have hzV3 : V2.heap.size + 1 ≤ (V2.alloc (.cells #[.slice none 0 0, .int .i64 0, .slice none 0 0, .bool false, .int .i64 0, .int .i64 0, .slice none 0 0, .int .i64 0, .int .i64 0, .int .i64 0, .bool false, .int .i64 0, .int .i64 0, .int .i64 0, .int .i64 0, .bool false] 33)).heap.size := by simp
          have H9 := Lib.hid (whl_new V2 #[.slice none 0 0, .int .i64 0, .slice none 0 0, .bool false, .int .i64 0, .int .i64 0, .slice none 0 0, .int .i64 0, .int .i64 0, .int .i64 0, .bool false, .int .i64 0, .int .i64 0, .int .i64 0, .int .i64 0, .bool false] 33 rfl)
          replace HS := Lib.hid (HS.out.trans (hb.mono HS.out.size))
          replace VT := Lib.hid (VT.out.since hb)
          clear hb
          generalize hwy : V2.alloc (.cells #[.slice none 0 0, .int .i64 0, .slice none 0 0, .bool false, .int .i64 0, .int .i64 0, .slice none 0 0, .int .i64 0, .int .i64 0, .int .i64 0, .bool false, .int .i64 0, .int .i64 0, .int .i64 0, .int .i64 0, .bool false] 33) = V3 at *
          clear hwy
          refine hKK.out _ _ HS.out (fun _ => ?_)
          clear hKK KK
          (try simp only [Act.put, List.setIfInBounds_toArray, List.set_cons_zero, List.set_cons_succ])
          refine wpAnyH_ready (rs := [10]) (by kernel_rfl) (by simp) ?_
          refine AllReadyH.cons rfl (fun KK hKK => ?_) AllReadyH.nil
          rw [if_pos (by rfl)]
          refine wp_allocR 41 rfl _ _ (Try.alcToldO V3) 6 rfl ?_
          have hb : Below V3.heap.size V3 (V3.alloc (.cells #[.bool false, .slice none 0 0, .int .i64 0, .slice none 0 0] 41)) := below_alloc _ _
          have hzV4 : V3.heap.size + 1 ≤ (V3.alloc (.cells #[.bool false, .slice none 0 0, .int .i64 0, .slice none 0 0] 41)).heap.size := by simp
          have H10 := Lib.hid (whl_new V3 #[.bool false, .slice none 0 0, .int .i64 0, .slice none 0 0] 41 rfl)
          replace HS := Lib.hid (HS.out.trans (hb.mono HS.out.size))
          replace VT := Lib.hid (VT.out.since hb)
          replace H9 := Lib.hid (whl_since H9.out hb)
          clear hb
          generalize hwy : V3.alloc (.cells #[.bool false, .slice none 0 0, .int .i64 0, .slice none 0 0] 41) = V4 at *
          clear hwy
          refine hKK.out _ _ HS.out (fun _ => ?_)
          clear hKK KK
          (try simp only [Act.put, List.setIfInBounds_toArray, List.set_cons_zero, List.set_cons_succ])
          refine wpAnyH_ready (rs := [11]) (by kernel_rfl) (by simp) ?_
          refine AllReadyH.cons rfl (fun KK hKK => ?_) AllReadyH.nil
          rw [if_pos (by rfl)]
          refine wp_storeR 33 (.tmp 5) (.tmp 28) rfl (V2.heap.size) 33 #[.slice none 0 0, .int .i64 0, .slice none 0 0, .bool false, .int .i64 0, .int .i64 0, .slice none 0 0, .int .i64 0, .int .i64 0, .int .i64 0, .bool false, .int .i64 0, .int .i64 0, .int .i64 0, .int .i64 0, .bool false] #[.slice M5 nm5 mc5, .int .i64 z5.h.at_, .slice R5 nr5 rc5, .bool z5.h.done, .int .i64 z5.b.mode, .int .i64 z5.b.base, .slice L5 n5 c5, .int .i64 z5.b.orders.page, .int .i64 z5.b.orders.head, .int .i64 z5.b.orders.tail, .bool z5.b.stopped, .int .i64 z5.b.fences, .int .i64 z5.b.faults.page, .int .i64 z5.b.faults.head, .int .i64 z5.b.faults.tail, .bool z5.b.lost] rfl rfl H9.out Try.sizeMach rfl (by kernel_rfl) (by kernel_rfl) rfl ?_
          intro Va ha ta
          have hza : V4.heap.size ≤ Va.heap.size := Nat.le_of_eq ta.2.symm
          replace HS := Lib.hid (below_trn HS.out HS.out.size ta (by omega))
          replace H10 := Lib.hid (whl_trn H10.out ta (by omega))
          replace VT := Lib.hid (VT.out.trn ta (by omega))
          clear ha ta H9
          refine hKK.out _ _ HS.out (fun _ => ?_)
          clear hKK KK
          (try simp only [Act.put, List.setIfInBounds_toArray, List.set_cons_zero, List.set_cons_succ])
          refine wpAnyH_ready (rs := [12]) (by kernel_rfl) (by simp) ?_
          refine AllReadyH.cons rfl (fun KK hKK => ?_) AllReadyH.nil
          rw [if_pos (by rfl)]
          refine wp_storeR 41 (.tmp 6) (.tmp 29) rfl (V3.heap.size) 41 #[.bool false, .slice none 0 0, .int .i64 0, .slice none 0 0] #[.bool t.done, .slice D5 dn5 dc5, .int .i64 t.fault, .slice T5 tn5 tc5] rfl rfl H10.out Try.sizeTold rfl (by kernel_rfl) (by kernel_rfl) rfl ?_
          intro Vb hb tb
          replace HS := Lib.hid (below_trn HS.out HS.out.size tb (by omega))
          replace VT := Lib.hid (VT.out.trn tb (by omega))
          replace H10 := Lib.hid hb
          clear hb tb
          refine hKK.out _ _ HS.out (fun _ => ?_)
          clear hKK KK
          (try simp only [Act.put, List.setIfInBounds_toArray, List.set_cons_zero, List.set_cons_succ])
          refine take_atR (i := 13) (d := 7) (v := .int .i64 E) rfl rfl (by kernel_rfl) (by kernel_rfl) (by kernel_rfl) (fun _ _ _ h => h) (Or.inl ⟨by rfl, fun _ _ => rfl⟩) HS.out ?_
          (try simp only [Act.put, List.setIfInBounds_toArray, List.set_cons_zero, List.set_cons_succ])
          refine wpAnyH_done (by kernel_rfl) ?_ _
          go_wp2
          go_meet
          exact ⟨_, _, _, _, _, _, _, _, rfl, rfl, rfl, H10.out, (by omega), VT.out.av (fun _ _ => trivial), HS.out⟩
        · rw [if_pos (by rfl)]
          refine wp_allocR 41 rfl _ _ (Try.alcToldO V2) 6 rfl ?_
          have hb : Below V2.heap.size V2 (V2.alloc (.cells #[.bool false, .slice none 0 0, .int .i64 0, .slice none 0 0] 41)) := below_alloc _ _
          have hzV3 : V2.heap.size + 1 ≤ (V2.alloc (.cells #[.bool false, .slice none 0 0, .int .i64 0, .slice none 0 0] 41)).heap.size := by simp
          have H10 := Lib.hid (whl_new V2 #[.bool false, .slice none 0 0, .int .i64 0, .slice none 0 0] 41 rfl)
          replace HS := Lib.hid (HS.out.trans (hb.mono HS.out.size))
          replace VT := Lib.hid (VT.out.since hb)
          clear hb
          generalize hwy : V2.alloc (.cells #[.bool false, .slice none 0 0, .int .i64 0, .slice none 0 0] 41) = V3 at *
          clear hwy
          refine hKK.out _ _ HS.out (fun _ => ?_)
          clear hKK KK
          (try simp only [Act.put, List.setIfInBounds_toArray, List.set_cons_zero, List.set_cons_succ])
          refine wpAnyH_ready (rs := [9]) (by kernel_rfl) (by simp) ?_
          refine AllReadyH.cons rfl (fun KK hKK => ?_) AllReadyH.nil
          rw [if_pos (by rfl)]
          refine wp_allocR 33 rfl _ _ (Try.alcMachO V3) 5 rfl ?_
          have hb : Below V3.heap.size V3 (V3.alloc (.cells #[.slice none 0 0, .int .i64 0, .slice none 0 0, .bool false, .int .i64 0, .int .i64 0, .slice none 0 0, .int .i64 0, .int .i64 0, .int .i64 0, .bool false, .int .i64 0, .int .i64 0, .int .i64 0, .int .i64 0, .bool false] 33)) := below_alloc _ _
          have hzV4 : V3.heap.size + 1 ≤ (V3.alloc (.cells #[.slice none 0 0, .int .i64 0, .slice none 0 0, .bool false, .int .i64 0, .int .i64 0, .slice none 0 0, .int .i64 0, .int .i64 0, .int .i64 0, .bool false, .int .i64 0, .int .i64 0, .int .i64 0, .int .i64 0, .bool false] 33)).heap.size := by simp
          have H9 := Lib.hid (whl_new V3 #[.slice none 0 0, .int .i64 0, .slice none 0 0, .bool false, .int .i64 0, .int .i64 0, .slice none 0 0, .int .i64 0, .int .i64 0, .int .i64 0, .bool false, .int .i64 0, .int .i64 0, .int .i64 0, .int .i64 0, .bool false] 33 rfl)
          replace HS := Lib.hid (HS.out.trans (hb.mono HS.out.size))
          replace VT := Lib.hid (VT.out.since hb)
          replace H10 := Lib.hid (whl_since H10.out hb)
          clear hb
          generalize hwy : V3.alloc (.cells #[.slice none 0 0, .int .i64 0, .slice none 0 0, .bool false, .int .i64 0, .int .i64 0, .slice none 0 0, .int .i64 0, .int .i64 0, .int .i64 0, .bool false, .int .i64 0, .int .i64 0, .int .i64 0, .int .i64 0, .bool false] 33) = V4 at *
          clear hwy
          refine hKK.out _ _ HS.out (fun _ => ?_)
          clear hKK KK
          (try simp only [Act.put, List.setIfInBounds_toArray, List.set_cons_zero, List.set_cons_succ])
          refine wpAnyH_ready (rs := [11]) (by kernel_rfl) (by simp) ?_
          refine AllReadyH.cons rfl (fun KK hKK => ?_) AllReadyH.nil
          rw [if_pos (by rfl)]
          refine wp_storeR 33 (.tmp 5) (.tmp 28) rfl (V3.heap.size) 33 #[.slice none 0 0, .int .i64 0, .slice none 0 0, .bool false, .int .i64 0, .int .i64 0, .slice none 0 0, .int .i64 0, .int .i64 0, .int .i64 0, .bool false, .int .i64 0, .int .i64 0, .int .i64 0, .int .i64 0, .bool false] #[.slice M5 nm5 mc5, .int .i64 z5.h.at_, .slice R5 nr5 rc5, .bool z5.h.done, .int .i64 z5.b.mode, .int .i64 z5.b.base, .slice L5 n5 c5, .int .i64 z5.b.orders.page, .int .i64 z5.b.orders.head, .int .i64 z5.b.orders.tail, .bool z5.b.stopped, .int .i64 z5.b.fences, .int .i64 z5.b.faults.page, .int .i64 z5.b.faults.head, .int .i64 z5.b.faults.tail, .bool z5.b.lost] rfl rfl H9.out Try.sizeMach rfl (by kernel_rfl) (by kernel_rfl) rfl ?_
          intro Va ha ta
          have hza : V4.heap.size ≤ Va.heap.size := Nat.le_of_eq ta.2.symm
          replace HS := Lib.hid (below_trn HS.out HS.out.size ta (by omega))
          replace H10 := Lib.hid (whl_trn H10.out ta (by omega))
          replace VT := Lib.hid (VT.out.trn ta (by omega))
          clear ha ta H9
          refine hKK.out _ _ HS.out (fun _ => ?_)
          clear hKK KK
          (try simp only [Act.put, List.setIfInBounds_toArray, List.set_cons_zero, List.set_cons_succ])
          refine wpAnyH_ready (rs := [12]) (by kernel_rfl) (by simp) ?_
          refine AllReadyH.cons rfl (fun KK hKK => ?_) AllReadyH.nil
          rw [if_pos (by rfl)]
          refine wp_storeR 41 (.tmp 6) (.tmp 29) rfl (V2.heap.size) 41 #[.bool false, .slice none 0 0, .int .i64 0, .slice none 0 0] #[.bool t.done, .slice D5 dn5 dc5, .int .i64 t.fault, .slice T5 tn5 tc5] rfl rfl H10.out Try.sizeTold rfl (by kernel_rfl) (by kernel_rfl) rfl ?_
          intro Vb hb tb
          replace HS := Lib.hid (below_trn HS.out HS.out.size tb (by omega))
          replace VT := Lib.hid (VT.out.trn tb (by omega))
          replace H10 := Lib.hid hb
          clear hb tb
          refine hKK.out _ _ HS.out (fun _ => ?_)
          clear hKK KK
          (try simp only [Act.put, List.setIfInBounds_toArray, List.set_cons_zero, List.set_cons_succ])
          refine take_atR (i := 13) (d := 7) (v := .int .i64 E) rfl rfl (by kernel_rfl) (by kernel_rfl) (by kernel_rfl) (fun _ _ _ h => h) (Or.inl ⟨by rfl, fun _ _ => rfl⟩) HS.out ?_
          (try simp only [Act.put, List.setIfInBounds_toArray, List.set_cons_zero, List.set_cons_succ])
          refine wpAnyH_done (by kernel_rfl) ?_ _
          go_wp2
          go_meet
          exact ⟨_, _, _, _, _, _, _, _, rfl, rfl, rfl, H10.out, (by omega), VT.out.av (fun _ _ => trivial), HS.out⟩
      · rw [if_pos (by rfl)]
        refine wp_allocR 33 rfl _ _ (Try.alcMachO V1) 5 rfl ?_
        have hb : Below V1.heap.size V1 (V1.alloc (.cells #[.slice none 0 0, .int .i64 0, .slice none 0 0, .bool false, .int .i64 0, .int .i64 0, .slice none 0 0, .int .i64 0, .int .i64 0, .int .i64 0, .bool false, .int .i64 0, .int .i64 0, .int .i64 0, .int .i64 0, .bool false] 33)) := below_alloc _ _
        have hzV2 : V1.heap.size + 1 ≤ (V1.alloc (.cells #[.slice none 0 0, .int .i64 0, .slice none 0 0, .bool false, .int .i64 0, .int .i64 0, .slice none 0 0, .int .i64 0, .int .i64 0, .int .i64 0, .bool false, .int .i64 0, .int .i64 0, .int .i64 0, .int .i64 0, .bool false] 33)).heap.size := by simp
        have H9 := Lib.hid (whl_new V1 #[.slice none 0 0, .int .i64 0, .slice none 0 0, .bool false, .int .i64 0, .int .i64 0, .slice none 0 0, .int .i64 0, .int .i64 0, .int .i64 0, .bool false, .int .i64 0, .int .i64 0, .int .i64 0, .int .i64 0, .bool false] 33 rfl)
        replace HS := Lib.hid (HS.out.trans (hb.mono HS.out.size))
        replace HV := Lib.hid (HV.out.since hb)
        replace HI := Lib.hid (ints_now HI.out hb)
        clear hb
        generalize hwy : V1.alloc (.cells #[.slice none 0 0, .int .i64 0, .slice none 0 0, .bool false, .int .i64 0, .int .i64 0, .slice none 0 0, .int .i64 0, .int .i64 0, .int .i64 0, .bool false, .int .i64 0, .int .i64 0, .int .i64 0, .int .i64 0, .bool false] 33) = V2 at *
        clear hwy
        refine hKK.out _ _ HS.out (fun _ => ?_)
        clear hKK KK
        (try simp only [Act.put, List.setIfInBounds_toArray, List.set_cons_zero, List.set_cons_succ])
        refine wpAnyH_ready (rs := [4, 10]) (by kernel_rfl) (by simp) ?_
        refine AllReadyH.cons rfl (fun KK hKK => ?_) (AllReadyH.cons rfl (fun KK hKK => ?_) AllReadyH.nil)
        · rw [if_pos (by rfl)]
          refine wp_callR 8 #[.agg #[.slice M nm mc, .int .i64 x.h.at_, .slice R nr rc, .bool x.h.done, .int .i64 x.b.mode, .int .i64 x.b.base, .slice none 0 0, .int .i64 x.b.orders.page, .int .i64 x.b.orders.head, .int .i64 x.b.orders.tail, .bool x.b.stopped, .int .i64 x.b.fences, .int .i64 x.b.faults.page, .int .i64 x.b.faults.head, .int .i64 x.b.faults.tail, .bool x.b.lost], .agg #[.int .i64 3, .int .i64 0, .int .i64 (shortA a).dev, .int .i64 (shortA a).at_, .int .i64 (shortA a).count, .bool (shortA a).wr, .slice AD kd dd]] (by kernel_rfl) 27 rfl ((mdo_ans (bareM x) (⟨3, 0, shortA a⟩ : Hap) M R none AD kd dd V2 nm mc nr rc 0 0 HV.out.hm HV.out.hr HV.out.hl HI.out (z5, t) E HDA.out HDE.out).mono ?_)
          rintro e V3 ⟨M5, nm5, mc5, R5, nr5, rc5, L5, n5, c5, D5, dn5, dc5, T5, tn5, tc5, rfl, hv5, ht5, hb⟩
          have VT := Lib.hid ht5.ltO
          replace HS := Lib.hid (HS.out.trans (hb.mono HS.out.size))
          replace H9 := Lib.hid (whl_since H9.out hb)
          have hzV3 : V2.heap.size ≤ V3.heap.size := hb.size
          clear hb hv5 ht5 HI
          refine ⟨_, rfl, ?_⟩
          refine hKK.out _ _ HS.out (fun _ => ?_)
          clear hKK KK
          (try simp only [Act.put, List.setIfInBounds_toArray, List.set_cons_zero, List.set_cons_succ])
          refine take_atR (i := 5) (d := 22) (v := _) rfl rfl (by kernel_rfl) (by kernel_rfl) (by kernel_rfl) (fun _ _ _ h => h) (Or.inl ⟨by rfl, fun _ _ => rfl⟩) HS.out ?_
          (try simp only [Act.put, List.setIfInBounds_toArray, List.set_cons_zero, List.set_cons_succ])
          refine take_atR (i := 6) (d := 28) (v := .agg #[.slice M5 nm5 mc5, .int .i64 z5.h.at_, .slice R5 nr5 rc5, .bool z5.h.done, .int .i64 z5.b.mode, .int .i64 z5.b.base, .slice L5 n5 c5, .int .i64 z5.b.orders.page, .int .i64 z5.b.orders.head, .int .i64 z5.b.orders.tail, .bool z5.b.stopped, .int .i64 z5.b.fences, .int .i64 z5.b.faults.page, .int .i64 z5.b.faults.head, .int .i64 z5.b.faults.tail, .bool z5.b.lost]) rfl rfl (by kernel_rfl) (by kernel_rfl) (by kernel_rfl) (fun _ _ _ h => h) (Or.inl ⟨by rfl, fun _ _ => rfl⟩) HS.out ?_
          (try simp only [Act.put, List.setIfInBounds_toArray, List.set_cons_zero, List.set_cons_succ])
          refine take_atR (i := 7) (d := 29) (v := .agg #[.bool t.done, .slice D5 dn5 dc5, .int .i64 t.fault, .slice T5 tn5 tc5]) rfl rfl (by kernel_rfl) (by kernel_rfl) (by kernel_rfl) (fun _ _ _ h => h) (Or.inl ⟨by rfl, fun _ _ => rfl⟩) HS.out ?_
          (try simp only [Act.put, List.setIfInBounds_toArray, List.set_cons_zero, List.set_cons_succ])
          refine take_atR (i := 8) (d := 30) (v := .int .i64 E) rfl rfl (by kernel_rfl) (by kernel_rfl) (by kernel_rfl) (fun _ _ _ h => h) (Or.inl ⟨by rfl, fun _ _ => rfl⟩) HS.out ?_
          (try simp only [Act.put, List.setIfInBounds_toArray, List.set_cons_zero, List.set_cons_succ])
          refine wpAnyH_ready (rs := [10]) (by kernel_rfl) (by simp) ?_
          refine AllReadyH.cons rfl (fun KK hKK => ?_) AllReadyH.nil
          rw [if_pos (by rfl)]
          refine wp_allocR 41 rfl _ _ (Try.alcToldO V3) 6 rfl ?_
          have hb : Below V3.heap.size V3 (V3.alloc (.cells #[.bool false, .slice none 0 0, .int .i64 0, .slice none 0 0] 41)) := below_alloc _ _
          have hzV4 : V3.heap.size + 1 ≤ (V3.alloc (.cells #[.bool false, .slice none 0 0, .int .i64 0, .slice none 0 0] 41)).heap.size := by simp
          have H10 := Lib.hid (whl_new V3 #[.bool false, .slice none 0 0, .int .i64 0, .slice none 0 0] 41 rfl)
          replace HS := Lib.hid (HS.out.trans (hb.mono HS.out.size))
          replace H9 := Lib.hid (whl_since H9.out hb)
          replace VT := Lib.hid (VT.out.since hb)
          clear hb
          generalize hwy : V3.alloc (.cells #[.bool false, .slice none 0 0, .int .i64 0, .slice none 0 0] 41) = V4 at *
          clear hwy
          refine hKK.out _ _ HS.out (fun _ => ?_)
          clear hKK KK
          (try simp only [Act.put, List.setIfInBounds_toArray, List.set_cons_zero, List.set_cons_succ])
          refine wpAnyH_ready (rs := [11]) (by kernel_rfl) (by simp) ?_
          refine AllReadyH.cons rfl (fun KK hKK => ?_) AllReadyH.nil
          rw [if_pos (by rfl)]
          refine wp_storeR 33 (.tmp 5) (.tmp 28) rfl (V1.heap.size) 33 #[.slice none 0 0, .int .i64 0, .slice none 0 0, .bool false, .int .i64 0, .int .i64 0, .slice none 0 0, .int .i64 0, .int .i64 0, .int .i64 0, .bool false, .int .i64 0, .int .i64 0, .int .i64 0, .int .i64 0, .bool false] #[.slice M5 nm5 mc5, .int .i64 z5.h.at_, .slice R5 nr5 rc5, .bool z5.h.done, .int .i64 z5.b.mode, .int .i64 z5.b.base, .slice L5 n5 c5, .int .i64 z5.b.orders.page, .int .i64 z5.b.orders.head, .int .i64 z5.b.orders.tail, .bool z5.b.stopped, .int .i64 z5.b.fences, .int .i64 z5.b.faults.page, .int .i64 z5.b.faults.head, .int .i64 z5.b.faults.tail, .bool z5.b.lost] rfl rfl H9.out Try.sizeMach rfl (by kernel_rfl) (by kernel_rfl) rfl ?_
          intro Va ha ta
          have hza : V4.heap.size ≤ Va.heap.size := Nat.le_of_eq ta.2.symm
          replace HS := Lib.hid (below_trn HS.out HS.out.size ta (by omega))
          replace H10 := Lib.hid (whl_trn H10.out ta (by omega))
          replace VT := Lib.hid (VT.out.trn ta (by omega))
          clear ha ta H9
          refine hKK.out _ _ HS.out (fun _ => ?_)
          clear hKK KK
          (try simp only [Act.put, List.setIfInBounds_toArray, List.set_cons_zero, List.set_cons_succ])
          refine wpAnyH_ready (rs := [12]) (by kernel_rfl) (by simp) ?_
          refine AllReadyH.cons rfl (fun KK hKK => ?_) AllReadyH.nil
          rw [if_pos (by rfl)]
          refine wp_storeR 41 (.tmp 6) (.tmp 29) rfl (V3.heap.size) 41 #[.bool false, .slice none 0 0, .int .i64 0, .slice none 0 0] #[.bool t.done, .slice D5 dn5 dc5, .int .i64 t.fault, .slice T5 tn5 tc5] rfl rfl H10.out Try.sizeTold rfl (by kernel_rfl) (by kernel_rfl) rfl ?_
          intro Vb hb tb
          replace HS := Lib.hid (below_trn HS.out HS.out.size tb (by omega))
          replace VT := Lib.hid (VT.out.trn tb (by omega))
          replace H10 := Lib.hid hb
          clear hb tb
          refine hKK.out _ _ HS.out (fun _ => ?_)
          clear hKK KK
          (try simp only [Act.put, List.setIfInBounds_toArray, List.set_cons_zero, List.set_cons_succ])
          refine take_atR (i := 13) (d := 7) (v := .int .i64 E) rfl rfl (by kernel_rfl) (by kernel_rfl) (by kernel_rfl) (fun _ _ _ h => h) (Or.inl ⟨by rfl, fun _ _ => rfl⟩) HS.out ?_
          (try simp only [Act.put, List.setIfInBounds_toArray, List.set_cons_zero, List.set_cons_succ])
          refine wpAnyH_done (by kernel_rfl) ?_ _
          go_wp2
          go_meet
          exact ⟨_, _, _, _, _, _, _, _, rfl, rfl, rfl, H10.out, (by omega), VT.out.av (fun _ _ => trivial), HS.out⟩
        · rw [if_pos (by rfl)]
          refine wp_allocR 41 rfl _ _ (Try.alcToldO V2) 6 rfl ?_
          have hb : Below V2.heap.size V2 (V2.alloc (.cells #[.bool false, .slice none 0 0, .int .i64 0, .slice none 0 0] 41)) := below_alloc _ _
          have hzV3 : V2.heap.size + 1 ≤ (V2.alloc (.cells #[.bool false, .slice none 0 0, .int .i64 0, .slice none 0 0] 41)).heap.size := by simp
          have H10 := Lib.hid (whl_new V2 #[.bool false, .slice none 0 0, .int .i64 0, .slice none 0 0] 41 rfl)
          replace HS := Lib.hid (HS.out.trans (hb.mono HS.out.size))
          replace HV := Lib.hid (HV.out.since hb)
          replace HI := Lib.hid (ints_now HI.out hb)
          replace H9 := Lib.hid (whl_since H9.out hb)
          clear hb
          generalize hwy : V2.alloc (.cells #[.bool false, .slice none 0 0, .int .i64 0, .slice none 0 0] 41) = V3 at *
          clear hwy
          refine hKK.out _ _ HS.out (fun _ => ?_)
          clear hKK KK
          (try simp only [Act.put, List.setIfInBounds_toArray, List.set_cons_zero, List.set_cons_succ])
          refine wpAnyH_ready (rs := [4]) (by kernel_rfl) (by simp) ?_
          refine AllReadyH.cons rfl (fun KK hKK => ?_) AllReadyH.nil
          rw [if_pos (by rfl)]
          refine wp_callR 8 #[.agg #[.slice M nm mc, .int .i64 x.h.at_, .slice R nr rc, .bool x.h.done, .int .i64 x.b.mode, .int .i64 x.b.base, .slice none 0 0, .int .i64 x.b.orders.page, .int .i64 x.b.orders.head, .int .i64 x.b.orders.tail, .bool x.b.stopped, .int .i64 x.b.fences, .int .i64 x.b.faults.page, .int .i64 x.b.faults.head, .int .i64 x.b.faults.tail, .bool x.b.lost], .agg #[.int .i64 3, .int .i64 0, .int .i64 (shortA a).dev, .int .i64 (shortA a).at_, .int .i64 (shortA a).count, .bool (shortA a).wr, .slice AD kd dd]] (by kernel_rfl) 27 rfl ((mdo_ans (bareM x) (⟨3, 0, shortA a⟩ : Hap) M R none AD kd dd V3 nm mc nr rc 0 0 HV.out.hm HV.out.hr HV.out.hl HI.out (z5, t) E HDA.out HDE.out).mono ?_)
          rintro e V4 ⟨M5, nm5, mc5, R5, nr5, rc5, L5, n5, c5, D5, dn5, dc5, T5, tn5, tc5, rfl, hv5, ht5, hb⟩
          have VT := Lib.hid ht5.ltO
          replace HS := Lib.hid (HS.out.trans (hb.mono HS.out.size))
          replace H9 := Lib.hid (whl_since H9.out hb)
          replace H10 := Lib.hid (whl_since H10.out hb)
          have hzV4 : V3.heap.size ≤ V4.heap.size := hb.size
          clear hb hv5 ht5 HI
          refine ⟨_, rfl, ?_⟩
          refine hKK.out _ _ HS.out (fun _ => ?_)
          clear hKK KK
          (try simp only [Act.put, List.setIfInBounds_toArray, List.set_cons_zero, List.set_cons_succ])
          refine take_atR (i := 5) (d := 22) (v := _) rfl rfl (by kernel_rfl) (by kernel_rfl) (by kernel_rfl) (fun _ _ _ h => h) (Or.inl ⟨by rfl, fun _ _ => rfl⟩) HS.out ?_
          (try simp only [Act.put, List.setIfInBounds_toArray, List.set_cons_zero, List.set_cons_succ])
          refine take_atR (i := 6) (d := 28) (v := .agg #[.slice M5 nm5 mc5, .int .i64 z5.h.at_, .slice R5 nr5 rc5, .bool z5.h.done, .int .i64 z5.b.mode, .int .i64 z5.b.base, .slice L5 n5 c5, .int .i64 z5.b.orders.page, .int .i64 z5.b.orders.head, .int .i64 z5.b.orders.tail, .bool z5.b.stopped, .int .i64 z5.b.fences, .int .i64 z5.b.faults.page, .int .i64 z5.b.faults.head, .int .i64 z5.b.faults.tail, .bool z5.b.lost]) rfl rfl (by kernel_rfl) (by kernel_rfl) (by kernel_rfl) (fun _ _ _ h => h) (Or.inl ⟨by rfl, fun _ _ => rfl⟩) HS.out ?_
          (try simp only [Act.put, List.setIfInBounds_toArray, List.set_cons_zero, List.set_cons_succ])
          refine take_atR (i := 7) (d := 29) (v := .agg #[.bool t.done, .slice D5 dn5 dc5, .int .i64 t.fault, .slice T5 tn5 tc5]) rfl rfl (by kernel_rfl) (by kernel_rfl) (by kernel_rfl) (fun _ _ _ h => h) (Or.inl ⟨by rfl, fun _ _ => rfl⟩) HS.out ?_
          (try simp only [Act.put, List.setIfInBounds_toArray, List.set_cons_zero, List.set_cons_succ])
          refine take_atR (i := 8) (d := 30) (v := .int .i64 E) rfl rfl (by kernel_rfl) (by kernel_rfl) (by kernel_rfl) (fun _ _ _ h => h) (Or.inl ⟨by rfl, fun _ _ => rfl⟩) HS.out ?_
          (try simp only [Act.put, List.setIfInBounds_toArray, List.set_cons_zero, List.set_cons_succ])
          refine wpAnyH_ready (rs := [11]) (by kernel_rfl) (by simp) ?_
          refine AllReadyH.cons rfl (fun KK hKK => ?_) AllReadyH.nil
          rw [if_pos (by rfl)]
          refine wp_storeR 33 (.tmp 5) (.tmp 28) rfl (V1.heap.size) 33 #[.slice none 0 0, .int .i64 0, .slice none 0 0, .bool false, .int .i64 0, .int .i64 0, .slice none 0 0, .int .i64 0, .int .i64 0, .int .i64 0, .bool false, .int .i64 0, .int .i64 0, .int .i64 0, .int .i64 0, .bool false] #[.slice M5 nm5 mc5, .int .i64 z5.h.at_, .slice R5 nr5 rc5, .bool z5.h.done, .int .i64 z5.b.mode, .int .i64 z5.b.base, .slice L5 n5 c5, .int .i64 z5.b.orders.page, .int .i64 z5.b.orders.head, .int .i64 z5.b.orders.tail, .bool z5.b.stopped, .int .i64 z5.b.fences, .int .i64 z5.b.faults.page, .int .i64 z5.b.faults.head, .int .i64 z5.b.faults.tail, .bool z5.b.lost] rfl rfl H9.out Try.sizeMach rfl (by kernel_rfl) (by kernel_rfl) rfl ?_
          intro Va ha ta
          have hza : V4.heap.size ≤ Va.heap.size := Nat.le_of_eq ta.2.symm
          replace HS := Lib.hid (below_trn HS.out HS.out.size ta (by omega))
          replace H10 := Lib.hid (whl_trn H10.out ta (by omega))
          replace VT := Lib.hid (VT.out.trn ta (by omega))
          clear ha ta H9
          refine hKK.out _ _ HS.out (fun _ => ?_)
          clear hKK KK
          (try simp only [Act.put, List.setIfInBounds_toArray, List.set_cons_zero, List.set_cons_succ])
          refine wpAnyH_ready (rs := [12]) (by kernel_rfl) (by simp) ?_
          refine AllReadyH.cons rfl (fun KK hKK => ?_) AllReadyH.nil
          rw [if_pos (by rfl)]
          refine wp_storeR 41 (.tmp 6) (.tmp 29) rfl (V2.heap.size) 41 #[.bool false, .slice none 0 0, .int .i64 0, .slice none 0 0] #[.bool t.done, .slice D5 dn5 dc5, .int .i64 t.fault, .slice T5 tn5 tc5] rfl rfl H10.out Try.sizeTold rfl (by kernel_rfl) (by kernel_rfl) rfl ?_
          intro Vb hb tb
          replace HS := Lib.hid (below_trn HS.out HS.out.size tb (by omega))
          replace VT := Lib.hid (VT.out.trn tb (by omega))
          replace H10 := Lib.hid hb
          clear hb tb
          refine hKK.out _ _ HS.out (fun _ => ?_)
          clear hKK KK
          (try simp only [Act.put, List.setIfInBounds_toArray, List.set_cons_zero, List.set_cons_succ])
          refine take_atR (i := 13) (d := 7) (v := .int .i64 E) rfl rfl (by kernel_rfl) (by kernel_rfl) (by kernel_rfl) (fun _ _ _ h => h) (Or.inl ⟨by rfl, fun _ _ => rfl⟩) HS.out ?_
          (try simp only [Act.put, List.setIfInBounds_toArray, List.set_cons_zero, List.set_cons_succ])
          refine wpAnyH_done (by kernel_rfl) ?_ _
          go_wp2
          go_meet
          exact ⟨_, _, _, _, _, _, _, _, rfl, rfl, rfl, H10.out, (by omega), VT.out.av (fun _ _ => trivial), HS.out⟩
      · rw [if_pos (by rfl)]
        refine wp_allocR 41 rfl _ _ (Try.alcToldO V1) 6 rfl ?_
        have hb : Below V1.heap.size V1 (V1.alloc (.cells #[.bool false, .slice none 0 0, .int .i64 0, .slice none 0 0] 41)) := below_alloc _ _
        have hzV2 : V1.heap.size + 1 ≤ (V1.alloc (.cells #[.bool false, .slice none 0 0, .int .i64 0, .slice none 0 0] 41)).heap.size := by simp
        have H10 := Lib.hid (whl_new V1 #[.bool false, .slice none 0 0, .int .i64 0, .slice none 0 0] 41 rfl)
        replace HS := Lib.hid (HS.out.trans (hb.mono HS.out.size))
        replace HV := Lib.hid (HV.out.since hb)
        replace HI := Lib.hid (ints_now HI.out hb)
        clear hb
        generalize hwy : V1.alloc (.cells #[.bool false, .slice none 0 0, .int .i64 0, .slice none 0 0] 41) = V2 at *
        clear hwy
        refine hKK.out _ _ HS.out (fun _ => ?_)
        clear hKK KK
        (try simp only [Act.put, List.setIfInBounds_toArray, List.set_cons_zero, List.set_cons_succ])
        refine wpAnyH_ready (rs := [4, 9]) (by kernel_rfl) (by simp) ?_
        refine AllReadyH.cons rfl (fun KK hKK => ?_) (AllReadyH.cons rfl (fun KK hKK => ?_) AllReadyH.nil)
        · rw [if_pos (by rfl)]
          refine wp_callR 8 #[.agg #[.slice M nm mc, .int .i64 x.h.at_, .slice R nr rc, .bool x.h.done, .int .i64 x.b.mode, .int .i64 x.b.base, .slice none 0 0, .int .i64 x.b.orders.page, .int .i64 x.b.orders.head, .int .i64 x.b.orders.tail, .bool x.b.stopped, .int .i64 x.b.fences, .int .i64 x.b.faults.page, .int .i64 x.b.faults.head, .int .i64 x.b.faults.tail, .bool x.b.lost], .agg #[.int .i64 3, .int .i64 0, .int .i64 (shortA a).dev, .int .i64 (shortA a).at_, .int .i64 (shortA a).count, .bool (shortA a).wr, .slice AD kd dd]] (by kernel_rfl) 27 rfl ((mdo_ans (bareM x) (⟨3, 0, shortA a⟩ : Hap) M R none AD kd dd V2 nm mc nr rc 0 0 HV.out.hm HV.out.hr HV.out.hl HI.out (z5, t) E HDA.out HDE.out).mono ?_)
          rintro e V3 ⟨M5, nm5, mc5, R5, nr5, rc5, L5, n5, c5, D5, dn5, dc5, T5, tn5, tc5, rfl, hv5, ht5, hb⟩
          have VT := Lib.hid ht5.ltO
          replace HS := Lib.hid (HS.out.trans (hb.mono HS.out.size))
          replace H10 := Lib.hid (whl_since H10.out hb)
          have hzV3 : V2.heap.size ≤ V3.heap.size := hb.size
          clear hb hv5 ht5 HI
          refine ⟨_, rfl, ?_⟩
          refine hKK.out _ _ HS.out (fun _ => ?_)
          clear hKK KK
          (try simp only [Act.put, List.setIfInBounds_toArray, List.set_cons_zero, List.set_cons_succ])
          refine take_atR (i := 5) (d := 22) (v := _) rfl rfl (by kernel_rfl) (by kernel_rfl) (by kernel_rfl) (fun _ _ _ h => h) (Or.inl ⟨by rfl, fun _ _ => rfl⟩) HS.out ?_
          (try simp only [Act.put, List.setIfInBounds_toArray, List.set_cons_zero, List.set_cons_succ])
          refine take_atR (i := 6) (d := 28) (v := .agg #[.slice M5 nm5 mc5, .int .i64 z5.h.at_, .slice R5 nr5 rc5, .bool z5.h.done, .int .i64 z5.b.mode, .int .i64 z5.b.base, .slice L5 n5 c5, .int .i64 z5.b.orders.page, .int .i64 z5.b.orders.head, .int .i64 z5.b.orders.tail, .bool z5.b.stopped, .int .i64 z5.b.fences, .int .i64 z5.b.faults.page, .int .i64 z5.b.faults.head, .int .i64 z5.b.faults.tail, .bool z5.b.lost]) rfl rfl (by kernel_rfl) (by kernel_rfl) (by kernel_rfl) (fun _ _ _ h => h) (Or.inl ⟨by rfl, fun _ _ => rfl⟩) HS.out ?_
          (try simp only [Act.put, List.setIfInBounds_toArray, List.set_cons_zero, List.set_cons_succ])
          refine take_atR (i := 7) (d := 29) (v := .agg #[.bool t.done, .slice D5 dn5 dc5, .int .i64 t.fault, .slice T5 tn5 tc5]) rfl rfl (by kernel_rfl) (by kernel_rfl) (by kernel_rfl) (fun _ _ _ h => h) (Or.inl ⟨by rfl, fun _ _ => rfl⟩) HS.out ?_
          (try simp only [Act.put, List.setIfInBounds_toArray, List.set_cons_zero, List.set_cons_succ])
          refine take_atR (i := 8) (d := 30) (v := .int .i64 E) rfl rfl (by kernel_rfl) (by kernel_rfl) (by kernel_rfl) (fun _ _ _ h => h) (Or.inl ⟨by rfl, fun _ _ => rfl⟩) HS.out ?_
          (try simp only [Act.put, List.setIfInBounds_toArray, List.set_cons_zero, List.set_cons_succ])
          refine wpAnyH_ready (rs := [9]) (by kernel_rfl) (by simp) ?_
          refine AllReadyH.cons rfl (fun KK hKK => ?_) AllReadyH.nil
          rw [if_pos (by rfl)]
          refine wp_allocR 33 rfl _ _ (Try.alcMachO V3) 5 rfl ?_
          have hb : Below V3.heap.size V3 (V3.alloc (.cells #[.slice none 0 0, .int .i64 0, .slice none 0 0, .bool false, .int .i64 0, .int .i64 0, .slice none 0 0, .int .i64 0, .int .i64 0, .int .i64 0, .bool false, .int .i64 0, .int .i64 0, .int .i64 0, .int .i64 0, .bool false] 33)) := below_alloc _ _
          have hzV4 : V3.heap.size + 1 ≤ (V3.alloc (.cells #[.slice none 0 0, .int .i64 0, .slice none 0 0, .bool false, .int .i64 0, .int .i64 0, .slice none 0 0, .int .i64 0, .int .i64 0, .int .i64 0, .bool false, .int .i64 0, .int .i64 0, .int .i64 0, .int .i64 0, .bool false] 33)).heap.size := by simp
          have H9 := Lib.hid (whl_new V3 #[.slice none 0 0, .int .i64 0, .slice none 0 0, .bool false, .int .i64 0, .int .i64 0, .slice none 0 0, .int .i64 0, .int .i64 0, .int .i64 0, .bool false, .int .i64 0, .int .i64 0, .int .i64 0, .int .i64 0, .bool false] 33 rfl)
          replace HS := Lib.hid (HS.out.trans (hb.mono HS.out.size))
          replace H10 := Lib.hid (whl_since H10.out hb)
          replace VT := Lib.hid (VT.out.since hb)
          clear hb
          generalize hwy : V3.alloc (.cells #[.slice none 0 0, .int .i64 0, .slice none 0 0, .bool false, .int .i64 0, .int .i64 0, .slice none 0 0, .int .i64 0, .int .i64 0, .int .i64 0, .bool false, .int .i64 0, .int .i64 0, .int .i64 0, .int .i64 0, .bool false] 33) = V4 at *
          clear hwy
          refine hKK.out _ _ HS.out (fun _ => ?_)
          clear hKK KK
          (try simp only [Act.put, List.setIfInBounds_toArray, List.set_cons_zero, List.set_cons_succ])
          refine wpAnyH_ready (rs := [11]) (by kernel_rfl) (by simp) ?_
          refine AllReadyH.cons rfl (fun KK hKK => ?_) AllReadyH.nil
          rw [if_pos (by rfl)]
          refine wp_storeR 33 (.tmp 5) (.tmp 28) rfl (V3.heap.size) 33 #[.slice none 0 0, .int .i64 0, .slice none 0 0, .bool false, .int .i64 0, .int .i64 0, .slice none 0 0, .int .i64 0, .int .i64 0, .int .i64 0, .bool false, .int .i64 0, .int .i64 0, .int .i64 0, .int .i64 0, .bool false] #[.slice M5 nm5 mc5, .int .i64 z5.h.at_, .slice R5 nr5 rc5, .bool z5.h.done, .int .i64 z5.b.mode, .int .i64 z5.b.base, .slice L5 n5 c5, .int .i64 z5.b.orders.page, .int .i64 z5.b.orders.head, .int .i64 z5.b.orders.tail, .bool z5.b.stopped, .int .i64 z5.b.fences, .int .i64 z5.b.faults.page, .int .i64 z5.b.faults.head, .int .i64 z5.b.faults.tail, .bool z5.b.lost] rfl rfl H9.out Try.sizeMach rfl (by kernel_rfl) (by kernel_rfl) rfl ?_
          intro Va ha ta
          have hza : V4.heap.size ≤ Va.heap.size := Nat.le_of_eq ta.2.symm
          replace HS := Lib.hid (below_trn HS.out HS.out.size ta (by omega))
          replace H10 := Lib.hid (whl_trn H10.out ta (by omega))
          replace VT := Lib.hid (VT.out.trn ta (by omega))
          clear ha ta H9
          refine hKK.out _ _ HS.out (fun _ => ?_)
          clear hKK KK
          (try simp only [Act.put, List.setIfInBounds_toArray, List.set_cons_zero, List.set_cons_succ])
          refine wpAnyH_ready (rs := [12]) (by kernel_rfl) (by simp) ?_
          refine AllReadyH.cons rfl (fun KK hKK => ?_) AllReadyH.nil
          rw [if_pos (by rfl)]
          refine wp_storeR 41 (.tmp 6) (.tmp 29) rfl (V1.heap.size) 41 #[.bool false, .slice none 0 0, .int .i64 0, .slice none 0 0] #[.bool t.done, .slice D5 dn5 dc5, .int .i64 t.fault, .slice T5 tn5 tc5] rfl rfl H10.out Try.sizeTold rfl (by kernel_rfl) (by kernel_rfl) rfl ?_
          intro Vb hb tb
          replace HS := Lib.hid (below_trn HS.out HS.out.size tb (by omega))
          replace VT := Lib.hid (VT.out.trn tb (by omega))
          replace H10 := Lib.hid hb
          clear hb tb
          refine hKK.out _ _ HS.out (fun _ => ?_)
          clear hKK KK
          (try simp only [Act.put, List.setIfInBounds_toArray, List.set_cons_zero, List.set_cons_succ])
          refine take_atR (i := 13) (d := 7) (v := .int .i64 E) rfl rfl (by kernel_rfl) (by kernel_rfl) (by kernel_rfl) (fun _ _ _ h => h) (Or.inl ⟨by rfl, fun _ _ => rfl⟩) HS.out ?_
          (try simp only [Act.put, List.setIfInBounds_toArray, List.set_cons_zero, List.set_cons_succ])
          refine wpAnyH_done (by kernel_rfl) ?_ _
          go_wp2
          go_meet
          exact ⟨_, _, _, _, _, _, _, _, rfl, rfl, rfl, H10.out, (by omega), VT.out.av (fun _ _ => trivial), HS.out⟩
        · rw [if_pos (by rfl)]
          refine wp_allocR 33 rfl _ _ (Try.alcMachO V2) 5 rfl ?_
          have hb : Below V2.heap.size V2 (V2.alloc (.cells #[.slice none 0 0, .int .i64 0, .slice none 0 0, .bool false, .int .i64 0, .int .i64 0, .slice none 0 0, .int .i64 0, .int .i64 0, .int .i64 0, .bool false, .int .i64 0, .int .i64 0, .int .i64 0, .int .i64 0, .bool false] 33)) := below_alloc _ _
          have hzV3 : V2.heap.size + 1 ≤ (V2.alloc (.cells #[.slice none 0 0, .int .i64 0, .slice none 0 0, .bool false, .int .i64 0, .int .i64 0, .slice none 0 0, .int .i64 0, .int .i64 0, .int .i64 0, .bool false, .int .i64 0, .int .i64 0, .int .i64 0, .int .i64 0, .bool false] 33)).heap.size := by simp
          have H9 := Lib.hid (whl_new V2 #[.slice none 0 0, .int .i64 0, .slice none 0 0, .bool false, .int .i64 0, .int .i64 0, .slice none 0 0, .int .i64 0, .int .i64 0, .int .i64 0, .bool false, .int .i64 0, .int .i64 0, .int .i64 0, .int .i64 0, .bool false] 33 rfl)
          replace HS := Lib.hid (HS.out.trans (hb.mono HS.out.size))
          replace HV := Lib.hid (HV.out.since hb)
          replace HI := Lib.hid (ints_now HI.out hb)
          replace H10 := Lib.hid (whl_since H10.out hb)
          clear hb
          generalize hwy : V2.alloc (.cells #[.slice none 0 0, .int .i64 0, .slice none 0 0, .bool false, .int .i64 0, .int .i64 0, .slice none 0 0, .int .i64 0, .int .i64 0, .int .i64 0, .bool false, .int .i64 0, .int .i64 0, .int .i64 0, .int .i64 0, .bool false] 33) = V3 at *
          clear hwy
          refine hKK.out _ _ HS.out (fun _ => ?_)
          clear hKK KK
          (try simp only [Act.put, List.setIfInBounds_toArray, List.set_cons_zero, List.set_cons_succ])
          refine wpAnyH_ready (rs := [4]) (by kernel_rfl) (by simp) ?_
          refine AllReadyH.cons rfl (fun KK hKK => ?_) AllReadyH.nil
          rw [if_pos (by rfl)]
          refine wp_callR 8 #[.agg #[.slice M nm mc, .int .i64 x.h.at_, .slice R nr rc, .bool x.h.done, .int .i64 x.b.mode, .int .i64 x.b.base, .slice none 0 0, .int .i64 x.b.orders.page, .int .i64 x.b.orders.head, .int .i64 x.b.orders.tail, .bool x.b.stopped, .int .i64 x.b.fences, .int .i64 x.b.faults.page, .int .i64 x.b.faults.head, .int .i64 x.b.faults.tail, .bool x.b.lost], .agg #[.int .i64 3, .int .i64 0, .int .i64 (shortA a).dev, .int .i64 (shortA a).at_, .int .i64 (shortA a).count, .bool (shortA a).wr, .slice AD kd dd]] (by kernel_rfl) 27 rfl ((mdo_ans (bareM x) (⟨3, 0, shortA a⟩ : Hap) M R none AD kd dd V3 nm mc nr rc 0 0 HV.out.hm HV.out.hr HV.out.hl HI.out (z5, t) E HDA.out HDE.out).mono ?_)
          rintro e V4 ⟨M5, nm5, mc5, R5, nr5, rc5, L5, n5, c5, D5, dn5, dc5, T5, tn5, tc5, rfl, hv5, ht5, hb⟩
          have VT := Lib.hid ht5.ltO
          replace HS := Lib.hid (HS.out.trans (hb.mono HS.out.size))
          replace H10 := Lib.hid (whl_since H10.out hb)
          replace H9 := Lib.hid (whl_since H9.out hb)
          have hzV4 : V3.heap.size ≤ V4.heap.size := hb.size
          clear hb hv5 ht5 HI
          refine ⟨_, rfl, ?_⟩
          refine hKK.out _ _ HS.out (fun _ => ?_)
          clear hKK KK
          (try simp only [Act.put, List.setIfInBounds_toArray, List.set_cons_zero, List.set_cons_succ])
          refine take_atR (i := 5) (d := 22) (v := _) rfl rfl (by kernel_rfl) (by kernel_rfl) (by kernel_rfl) (fun _ _ _ h => h) (Or.inl ⟨by rfl, fun _ _ => rfl⟩) HS.out ?_
          (try simp only [Act.put, List.setIfInBounds_toArray, List.set_cons_zero, List.set_cons_succ])
          refine take_atR (i := 6) (d := 28) (v := .agg #[.slice M5 nm5 mc5, .int .i64 z5.h.at_, .slice R5 nr5 rc5, .bool z5.h.done, .int .i64 z5.b.mode, .int .i64 z5.b.base, .slice L5 n5 c5, .int .i64 z5.b.orders.page, .int .i64 z5.b.orders.head, .int .i64 z5.b.orders.tail, .bool z5.b.stopped, .int .i64 z5.b.fences, .int .i64 z5.b.faults.page, .int .i64 z5.b.faults.head, .int .i64 z5.b.faults.tail, .bool z5.b.lost]) rfl rfl (by kernel_rfl) (by kernel_rfl) (by kernel_rfl) (fun _ _ _ h => h) (Or.inl ⟨by rfl, fun _ _ => rfl⟩) HS.out ?_
          (try simp only [Act.put, List.setIfInBounds_toArray, List.set_cons_zero, List.set_cons_succ])
          refine take_atR (i := 7) (d := 29) (v := .agg #[.bool t.done, .slice D5 dn5 dc5, .int .i64 t.fault, .slice T5 tn5 tc5]) rfl rfl (by kernel_rfl) (by kernel_rfl) (by kernel_rfl) (fun _ _ _ h => h) (Or.inl ⟨by rfl, fun _ _ => rfl⟩) HS.out ?_
          (try simp only [Act.put, List.setIfInBounds_toArray, List.set_cons_zero, List.set_cons_succ])
          refine take_atR (i := 8) (d := 30) (v := .int .i64 E) rfl rfl (by kernel_rfl) (by kernel_rfl) (by kernel_rfl) (fun _ _ _ h => h) (Or.inl ⟨by rfl, fun _ _ => rfl⟩) HS.out ?_
          (try simp only [Act.put, List.setIfInBounds_toArray, List.set_cons_zero, List.set_cons_succ])
          refine wpAnyH_ready (rs := [11]) (by kernel_rfl) (by simp) ?_
          refine AllReadyH.cons rfl (fun KK hKK => ?_) AllReadyH.nil
          rw [if_pos (by rfl)]
          refine wp_storeR 33 (.tmp 5) (.tmp 28) rfl (V2.heap.size) 33 #[.slice none 0 0, .int .i64 0, .slice none 0 0, .bool false, .int .i64 0, .int .i64 0, .slice none 0 0, .int .i64 0, .int .i64 0, .int .i64 0, .bool false, .int .i64 0, .int .i64 0, .int .i64 0, .int .i64 0, .bool false] #[.slice M5 nm5 mc5, .int .i64 z5.h.at_, .slice R5 nr5 rc5, .bool z5.h.done, .int .i64 z5.b.mode, .int .i64 z5.b.base, .slice L5 n5 c5, .int .i64 z5.b.orders.page, .int .i64 z5.b.orders.head, .int .i64 z5.b.orders.tail, .bool z5.b.stopped, .int .i64 z5.b.fences, .int .i64 z5.b.faults.page, .int .i64 z5.b.faults.head, .int .i64 z5.b.faults.tail, .bool z5.b.lost] rfl rfl H9.out Try.sizeMach rfl (by kernel_rfl) (by kernel_rfl) rfl ?_
          intro Va ha ta
          have hza : V4.heap.size ≤ Va.heap.size := Nat.le_of_eq ta.2.symm
          replace HS := Lib.hid (below_trn HS.out HS.out.size ta (by omega))
          replace H10 := Lib.hid (whl_trn H10.out ta (by omega))
          replace VT := Lib.hid (VT.out.trn ta (by omega))
          clear ha ta H9
          refine hKK.out _ _ HS.out (fun _ => ?_)
          clear hKK KK
          (try simp only [Act.put, List.setIfInBounds_toArray, List.set_cons_zero, List.set_cons_succ])
          refine wpAnyH_ready (rs := [12]) (by kernel_rfl) (by simp) ?_
          refine AllReadyH.cons rfl (fun KK hKK => ?_) AllReadyH.nil
          rw [if_pos (by rfl)]
          refine wp_storeR 41 (.tmp 6) (.tmp 29) rfl (V1.heap.size) 41 #[.bool false, .slice none 0 0, .int .i64 0, .slice none 0 0] #[.bool t.done, .slice D5 dn5 dc5, .int .i64 t.fault, .slice T5 tn5 tc5] rfl rfl H10.out Try.sizeTold rfl (by kernel_rfl) (by kernel_rfl) rfl ?_
          intro Vb hb tb
          replace HS := Lib.hid (below_trn HS.out HS.out.size tb (by omega))
          replace VT := Lib.hid (VT.out.trn tb (by omega))
          replace H10 := Lib.hid hb
          clear hb tb
          refine hKK.out _ _ HS.out (fun _ => ?_)
          clear hKK KK
          (try simp only [Act.put, List.setIfInBounds_toArray, List.set_cons_zero, List.set_cons_succ])
          refine take_atR (i := 13) (d := 7) (v := .int .i64 E) rfl rfl (by kernel_rfl) (by kernel_rfl) (by kernel_rfl) (fun _ _ _ h => h) (Or.inl ⟨by rfl, fun _ _ => rfl⟩) HS.out ?_
          (try simp only [Act.put, List.setIfInBounds_toArray, List.set_cons_zero, List.set_cons_succ])
          refine wpAnyH_done (by kernel_rfl) ?_ _
          go_wp2
          go_meet
          exact ⟨_, _, _, _, _, _, _, _, rfl, rfl, rfl, H10.out, (by omega), VT.out.av (fun _ _ => trivial), HS.out⟩
    · rw [if_pos (by rfl)]
      refine wp_allocR 33 rfl _ _ (Try.alcMachO V0) 5 rfl ?_
      have hb : Below V0.heap.size V0 (V0.alloc (.cells #[.slice none 0 0, .int .i64 0, .slice none 0 0, .bool false, .int .i64 0, .int .i64 0, .slice none 0 0, .int .i64 0, .int .i64 0, .int .i64 0, .bool false, .int .i64 0, .int .i64 0, .int .i64 0, .int .i64 0, .bool false] 33)) := below_alloc _ _
      have hzV1 : V0.heap.size + 1 ≤ (V0.alloc (.cells #[.slice none 0 0, .int .i64 0, .slice none 0 0, .bool false, .int .i64 0, .int .i64 0, .slice none 0 0, .int .i64 0, .int .i64 0, .int .i64 0, .bool false, .int .i64 0, .int .i64 0, .int .i64 0, .int .i64 0, .bool false] 33)).heap.size := by simp
      have H9 := Lib.hid (whl_new V0 #[.slice none 0 0, .int .i64 0, .slice none 0 0, .bool false, .int .i64 0, .int .i64 0, .slice none 0 0, .int .i64 0, .int .i64 0, .int .i64 0, .bool false, .int .i64 0, .int .i64 0, .int .i64 0, .int .i64 0, .bool false] 33 rfl)
      replace HS := Lib.hid (HS.out.trans (hb.mono HS.out.size))
      replace HD3 := Lib.hid (ints_now HD3.out hb)
      replace HV := Lib.hid (HV.out.since hb)
      clear hb
      generalize hwy : V0.alloc (.cells #[.slice none 0 0, .int .i64 0, .slice none 0 0, .bool false, .int .i64 0, .int .i64 0, .slice none 0 0, .int .i64 0, .int .i64 0, .int .i64 0, .bool false, .int .i64 0, .int .i64 0, .int .i64 0, .int .i64 0, .bool false] 33) = V1 at *
      clear hwy
      refine hKK.out _ _ HS.out (fun _ => ?_)
      clear hKK KK
      (try simp only [Act.put, List.setIfInBounds_toArray, List.set_cons_zero, List.set_cons_succ])
      refine wpAnyH_ready (rs := [2, 10]) (by kernel_rfl) (by simp) ?_
      refine AllReadyH.cons rfl (fun KK hKK => ?_) (AllReadyH.cons rfl (fun KK hKK => ?_) AllReadyH.nil)
      · rw [if_pos (by rfl)]
        refine wp_callR 9 #[.agg #[.int .i64 a.dev, .int .i64 a.at_, .int .i64 a.count, .bool a.wr, .slice AD nd cd]] (by kernel_rfl) 25 rfl ((law_short a AD nd cd V1 HD3.out HCD.out).mono ?_)
        rintro e V2 ⟨kd, dd, rfl, hi5, hc5, hb⟩
        have HI := Lib.hid hi5
        replace HS := Lib.hid (HS.out.trans (hb.mono HS.out.size))
        replace HV := Lib.hid (HV.out.since hb)
        replace H9 := Lib.hid (whl_since H9.out hb)
        have hzV2 : V1.heap.size ≤ V2.heap.size := hb.size
        clear hb hi5 hc5 HD3
        refine ⟨_, rfl, ?_⟩
        refine hKK.out _ _ HS.out (fun _ => ?_)
        clear hKK KK
        (try simp only [Act.put, List.setIfInBounds_toArray, List.set_cons_zero, List.set_cons_succ])
        refine take_atR (i := 3) (d := 26) (v := .agg #[.int .i64 3, .int .i64 0, .int .i64 (shortA a).dev, .int .i64 (shortA a).at_, .int .i64 (shortA a).count, .bool (shortA a).wr, .slice AD kd dd]) rfl rfl (by kernel_rfl) (by kernel_rfl) (by kernel_rfl) (fun _ _ _ h => h) (Or.inl ⟨by rfl, fun W' _ => (by kernel_rfl)⟩) HS.out ?_
        (try simp only [Act.put, List.setIfInBounds_toArray, List.set_cons_zero, List.set_cons_succ])
        refine wpAnyH_ready (rs := [4, 10]) (by kernel_rfl) (by simp) ?_
        refine AllReadyH.cons rfl (fun KK hKK => ?_) (AllReadyH.cons rfl (fun KK hKK => ?_) AllReadyH.nil)
        · rw [if_pos (by rfl)]
          refine wp_callR 8 #[.agg #[.slice M nm mc, .int .i64 x.h.at_, .slice R nr rc, .bool x.h.done, .int .i64 x.b.mode, .int .i64 x.b.base, .slice none 0 0, .int .i64 x.b.orders.page, .int .i64 x.b.orders.head, .int .i64 x.b.orders.tail, .bool x.b.stopped, .int .i64 x.b.fences, .int .i64 x.b.faults.page, .int .i64 x.b.faults.head, .int .i64 x.b.faults.tail, .bool x.b.lost], .agg #[.int .i64 3, .int .i64 0, .int .i64 (shortA a).dev, .int .i64 (shortA a).at_, .int .i64 (shortA a).count, .bool (shortA a).wr, .slice AD kd dd]] (by kernel_rfl) 27 rfl ((mdo_ans (bareM x) (⟨3, 0, shortA a⟩ : Hap) M R none AD kd dd V2 nm mc nr rc 0 0 HV.out.hm HV.out.hr HV.out.hl HI.out (z5, t) E HDA.out HDE.out).mono ?_)
          rintro e V3 ⟨M5, nm5, mc5, R5, nr5, rc5, L5, n5, c5, D5, dn5, dc5, T5, tn5, tc5, rfl, hv5, ht5, hb⟩
          have VT := Lib.hid ht5.ltO
          replace HS := Lib.hid (HS.out.trans (hb.mono HS.out.size))
          replace H9 := Lib.hid (whl_since H9.out hb)
          have hzV3 : V2.heap.size ≤ V3.heap.size := hb.size
          clear hb hv5 ht5 HI
          refine ⟨_, rfl, ?_⟩
          refine hKK.out _ _ HS.out (fun _ => ?_)
          clear hKK KK
          (try simp only [Act.put, List.setIfInBounds_toArray, List.set_cons_zero, List.set_cons_succ])
          refine take_atR (i := 5) (d := 22) (v := _) rfl rfl (by kernel_rfl) (by kernel_rfl) (by kernel_rfl) (fun _ _ _ h => h) (Or.inl ⟨by rfl, fun _ _ => rfl⟩) HS.out ?_
          (try simp only [Act.put, List.setIfInBounds_toArray, List.set_cons_zero, List.set_cons_succ])
          refine take_atR (i := 6) (d := 28) (v := .agg #[.slice M5 nm5 mc5, .int .i64 z5.h.at_, .slice R5 nr5 rc5, .bool z5.h.done, .int .i64 z5.b.mode, .int .i64 z5.b.base, .slice L5 n5 c5, .int .i64 z5.b.orders.page, .int .i64 z5.b.orders.head, .int .i64 z5.b.orders.tail, .bool z5.b.stopped, .int .i64 z5.b.fences, .int .i64 z5.b.faults.page, .int .i64 z5.b.faults.head, .int .i64 z5.b.faults.tail, .bool z5.b.lost]) rfl rfl (by kernel_rfl) (by kernel_rfl) (by kernel_rfl) (fun _ _ _ h => h) (Or.inl ⟨by rfl, fun _ _ => rfl⟩) HS.out ?_
          (try simp only [Act.put, List.setIfInBounds_toArray, List.set_cons_zero, List.set_cons_succ])
          refine take_atR (i := 7) (d := 29) (v := .agg #[.bool t.done, .slice D5 dn5 dc5, .int .i64 t.fault, .slice T5 tn5 tc5]) rfl rfl (by kernel_rfl) (by kernel_rfl) (by kernel_rfl) (fun _ _ _ h => h) (Or.inl ⟨by rfl, fun _ _ => rfl⟩) HS.out ?_
          (try simp only [Act.put, List.setIfInBounds_toArray, List.set_cons_zero, List.set_cons_succ])
          refine take_atR (i := 8) (d := 30) (v := .int .i64 E) rfl rfl (by kernel_rfl) (by kernel_rfl) (by kernel_rfl) (fun _ _ _ h => h) (Or.inl ⟨by rfl, fun _ _ => rfl⟩) HS.out ?_
          (try simp only [Act.put, List.setIfInBounds_toArray, List.set_cons_zero, List.set_cons_succ])
          refine wpAnyH_ready (rs := [10]) (by kernel_rfl) (by simp) ?_
          refine AllReadyH.cons rfl (fun KK hKK => ?_) AllReadyH.nil
          rw [if_pos (by rfl)]
          refine wp_allocR 41 rfl _ _ (Try.alcToldO V3) 6 rfl ?_
          have hb : Below V3.heap.size V3 (V3.alloc (.cells #[.bool false, .slice none 0 0, .int .i64 0, .slice none 0 0] 41)) := below_alloc _ _
          have hzV4 : V3.heap.size + 1 ≤ (V3.alloc (.cells #[.bool false, .slice none 0 0, .int .i64 0, .slice none 0 0] 41)).heap.size := by simp
          have H10 := Lib.hid (whl_new V3 #[.bool false, .slice none 0 0, .int .i64 0, .slice none 0 0] 41 rfl)
          replace HS := Lib.hid (HS.out.trans (hb.mono HS.out.size))
          replace H9 := Lib.hid (whl_since H9.out hb)
          replace VT := Lib.hid (VT.out.since hb)
          clear hb
          generalize hwy : V3.alloc (.cells #[.bool false, .slice none 0 0, .int .i64 0, .slice none 0 0] 41) = V4 at *
          clear hwy
          refine hKK.out _ _ HS.out (fun _ => ?_)
          clear hKK KK
          (try simp only [Act.put, List.setIfInBounds_toArray, List.set_cons_zero, List.set_cons_succ])
          refine wpAnyH_ready (rs := [11]) (by kernel_rfl) (by simp) ?_
          refine AllReadyH.cons rfl (fun KK hKK => ?_) AllReadyH.nil
          rw [if_pos (by rfl)]
          refine wp_storeR 33 (.tmp 5) (.tmp 28) rfl (V0.heap.size) 33 #[.slice none 0 0, .int .i64 0, .slice none 0 0, .bool false, .int .i64 0, .int .i64 0, .slice none 0 0, .int .i64 0, .int .i64 0, .int .i64 0, .bool false, .int .i64 0, .int .i64 0, .int .i64 0, .int .i64 0, .bool false] #[.slice M5 nm5 mc5, .int .i64 z5.h.at_, .slice R5 nr5 rc5, .bool z5.h.done, .int .i64 z5.b.mode, .int .i64 z5.b.base, .slice L5 n5 c5, .int .i64 z5.b.orders.page, .int .i64 z5.b.orders.head, .int .i64 z5.b.orders.tail, .bool z5.b.stopped, .int .i64 z5.b.fences, .int .i64 z5.b.faults.page, .int .i64 z5.b.faults.head, .int .i64 z5.b.faults.tail, .bool z5.b.lost] rfl rfl H9.out Try.sizeMach rfl (by kernel_rfl) (by kernel_rfl) rfl ?_
          intro Va ha ta
          have hza : V4.heap.size ≤ Va.heap.size := Nat.le_of_eq ta.2.symm
          replace HS := Lib.hid (below_trn HS.out HS.out.size ta (by omega))
          replace H10 := Lib.hid (whl_trn H10.out ta (by omega))
          replace VT := Lib.hid (VT.out.trn ta (by omega))
          clear ha ta H9
          refine hKK.out _ _ HS.out (fun _ => ?_)
          clear hKK KK
          (try simp only [Act.put, List.setIfInBounds_toArray, List.set_cons_zero, List.set_cons_succ])
          refine wpAnyH_ready (rs := [12]) (by kernel_rfl) (by simp) ?_
          refine AllReadyH.cons rfl (fun KK hKK => ?_) AllReadyH.nil
          rw [if_pos (by rfl)]
          refine wp_storeR 41 (.tmp 6) (.tmp 29) rfl (V3.heap.size) 41 #[.bool false, .slice none 0 0, .int .i64 0, .slice none 0 0] #[.bool t.done, .slice D5 dn5 dc5, .int .i64 t.fault, .slice T5 tn5 tc5] rfl rfl H10.out Try.sizeTold rfl (by kernel_rfl) (by kernel_rfl) rfl ?_
          intro Vb hb tb
          replace HS := Lib.hid (below_trn HS.out HS.out.size tb (by omega))
          replace VT := Lib.hid (VT.out.trn tb (by omega))
          replace H10 := Lib.hid hb
          clear hb tb
          refine hKK.out _ _ HS.out (fun _ => ?_)
          clear hKK KK
          (try simp only [Act.put, List.setIfInBounds_toArray, List.set_cons_zero, List.set_cons_succ])
          refine take_atR (i := 13) (d := 7) (v := .int .i64 E) rfl rfl (by kernel_rfl) (by kernel_rfl) (by kernel_rfl) (fun _ _ _ h => h) (Or.inl ⟨by rfl, fun _ _ => rfl⟩) HS.out ?_
          (try simp only [Act.put, List.setIfInBounds_toArray, List.set_cons_zero, List.set_cons_succ])
          refine wpAnyH_done (by kernel_rfl) ?_ _
          go_wp2
          go_meet
          exact ⟨_, _, _, _, _, _, _, _, rfl, rfl, rfl, H10.out, (by omega), VT.out.av (fun _ _ => trivial), HS.out⟩
        · rw [if_pos (by rfl)]
          refine wp_allocR 41 rfl _ _ (Try.alcToldO V2) 6 rfl ?_
          have hb : Below V2.heap.size V2 (V2.alloc (.cells #[.bool false, .slice none 0 0, .int .i64 0, .slice none 0 0] 41)) := below_alloc _ _
          have hzV3 : V2.heap.size + 1 ≤ (V2.alloc (.cells #[.bool false, .slice none 0 0, .int .i64 0, .slice none 0 0] 41)).heap.size := by simp
          have H10 := Lib.hid (whl_new V2 #[.bool false, .slice none 0 0, .int .i64 0, .slice none 0 0] 41 rfl)
          replace HS := Lib.hid (HS.out.trans (hb.mono HS.out.size))
          replace HV := Lib.hid (HV.out.since hb)
          replace H9 := Lib.hid (whl_since H9.out hb)
          replace HI := Lib.hid (ints_now HI.out hb)
          clear hb
          generalize hwy : V2.alloc (.cells #[.bool false, .slice none 0 0, .int .i64 0, .slice none 0 0] 41) = V3 at *
          clear hwy
          refine hKK.out _ _ HS.out (fun _ => ?_)
          clear hKK KK
          (try simp only [Act.put, List.setIfInBounds_toArray, List.set_cons_zero, List.set_cons_succ])
          refine wpAnyH_ready (rs := [4]) (by kernel_rfl) (by simp) ?_
          refine AllReadyH.cons rfl (fun KK hKK => ?_) AllReadyH.nil
          rw [if_pos (by rfl)]
          refine wp_callR 8 #[.agg #[.slice M nm mc, .int .i64 x.h.at_, .slice R nr rc, .bool x.h.done, .int .i64 x.b.mode, .int .i64 x.b.base, .slice none 0 0, .int .i64 x.b.orders.page, .int .i64 x.b.orders.head, .int .i64 x.b.orders.tail, .bool x.b.stopped, .int .i64 x.b.fences, .int .i64 x.b.faults.page, .int .i64 x.b.faults.head, .int .i64 x.b.faults.tail, .bool x.b.lost], .agg #[.int .i64 3, .int .i64 0, .int .i64 (shortA a).dev, .int .i64 (shortA a).at_, .int .i64 (shortA a).count, .bool (shortA a).wr, .slice AD kd dd]] (by kernel_rfl) 27 rfl ((mdo_ans (bareM x) (⟨3, 0, shortA a⟩ : Hap) M R none AD kd dd V3 nm mc nr rc 0 0 HV.out.hm HV.out.hr HV.out.hl HI.out (z5, t) E HDA.out HDE.out).mono ?_)
          rintro e V4 ⟨M5, nm5, mc5, R5, nr5, rc5, L5, n5, c5, D5, dn5, dc5, T5, tn5, tc5, rfl, hv5, ht5, hb⟩
          have VT := Lib.hid ht5.ltO
          replace HS := Lib.hid (HS.out.trans (hb.mono HS.out.size))
          replace H9 := Lib.hid (whl_since H9.out hb)
          replace H10 := Lib.hid (whl_since H10.out hb)
          have hzV4 : V3.heap.size ≤ V4.heap.size := hb.size
          clear hb hv5 ht5 HI
          refine ⟨_, rfl, ?_⟩
          refine hKK.out _ _ HS.out (fun _ => ?_)
          clear hKK KK
          (try simp only [Act.put, List.setIfInBounds_toArray, List.set_cons_zero, List.set_cons_succ])
          refine take_atR (i := 5) (d := 22) (v := _) rfl rfl (by kernel_rfl) (by kernel_rfl) (by kernel_rfl) (fun _ _ _ h => h) (Or.inl ⟨by rfl, fun _ _ => rfl⟩) HS.out ?_
          (try simp only [Act.put, List.setIfInBounds_toArray, List.set_cons_zero, List.set_cons_succ])
          refine take_atR (i := 6) (d := 28) (v := .agg #[.slice M5 nm5 mc5, .int .i64 z5.h.at_, .slice R5 nr5 rc5, .bool z5.h.done, .int .i64 z5.b.mode, .int .i64 z5.b.base, .slice L5 n5 c5, .int .i64 z5.b.orders.page, .int .i64 z5.b.orders.head, .int .i64 z5.b.orders.tail, .bool z5.b.stopped, .int .i64 z5.b.fences, .int .i64 z5.b.faults.page, .int .i64 z5.b.faults.head, .int .i64 z5.b.faults.tail, .bool z5.b.lost]) rfl rfl (by kernel_rfl) (by kernel_rfl) (by kernel_rfl) (fun _ _ _ h => h) (Or.inl ⟨by rfl, fun _ _ => rfl⟩) HS.out ?_
          (try simp only [Act.put, List.setIfInBounds_toArray, List.set_cons_zero, List.set_cons_succ])
          refine take_atR (i := 7) (d := 29) (v := .agg #[.bool t.done, .slice D5 dn5 dc5, .int .i64 t.fault, .slice T5 tn5 tc5]) rfl rfl (by kernel_rfl) (by kernel_rfl) (by kernel_rfl) (fun _ _ _ h => h) (Or.inl ⟨by rfl, fun _ _ => rfl⟩) HS.out ?_
          (try simp only [Act.put, List.setIfInBounds_toArray, List.set_cons_zero, List.set_cons_succ])
          refine take_atR (i := 8) (d := 30) (v := .int .i64 E) rfl rfl (by kernel_rfl) (by kernel_rfl) (by kernel_rfl) (fun _ _ _ h => h) (Or.inl ⟨by rfl, fun _ _ => rfl⟩) HS.out ?_
          (try simp only [Act.put, List.setIfInBounds_toArray, List.set_cons_zero, List.set_cons_succ])
          refine wpAnyH_ready (rs := [11]) (by kernel_rfl) (by simp) ?_
          refine AllReadyH.cons rfl (fun KK hKK => ?_) AllReadyH.nil
          rw [if_pos (by rfl)]
          refine wp_storeR 33 (.tmp 5) (.tmp 28) rfl (V0.heap.size) 33 #[.slice none 0 0, .int .i64 0, .slice none 0 0, .bool false, .int .i64 0, .int .i64 0, .slice none 0 0, .int .i64 0, .int .i64 0, .int .i64 0, .bool false, .int .i64 0, .int .i64 0, .int .i64 0, .int .i64 0, .bool false] #[.slice M5 nm5 mc5, .int .i64 z5.h.at_, .slice R5 nr5 rc5, .bool z5.h.done, .int .i64 z5.b.mode, .int .i64 z5.b.base, .slice L5 n5 c5, .int .i64 z5.b.orders.page, .int .i64 z5.b.orders.head, .int .i64 z5.b.orders.tail, .bool z5.b.stopped, .int .i64 z5.b.fences, .int .i64 z5.b.faults.page, .int .i64 z5.b.faults.head, .int .i64 z5.b.faults.tail, .bool z5.b.lost] rfl rfl H9.out Try.sizeMach rfl (by kernel_rfl) (by kernel_rfl) rfl ?_
          intro Va ha ta
          have hza : V4.heap.size ≤ Va.heap.size := Nat.le_of_eq ta.2.symm
          replace HS := Lib.hid (below_trn HS.out HS.out.size ta (by omega))
          replace H10 := Lib.hid (whl_trn H10.out ta (by omega))
          replace VT := Lib.hid (VT.out.trn ta (by omega))
          clear ha ta H9
          refine hKK.out _ _ HS.out (fun _ => ?_)
          clear hKK KK
          (try simp only [Act.put, List.setIfInBounds_toArray, List.set_cons_zero, List.set_cons_succ])
          refine wpAnyH_ready (rs := [12]) (by kernel_rfl) (by simp) ?_
          refine AllReadyH.cons rfl (fun KK hKK => ?_) AllReadyH.nil
          rw [if_pos (by rfl)]
          refine wp_storeR 41 (.tmp 6) (.tmp 29) rfl (V2.heap.size) 41 #[.bool false, .slice none 0 0, .int .i64 0, .slice none 0 0] #[.bool t.done, .slice D5 dn5 dc5, .int .i64 t.fault, .slice T5 tn5 tc5] rfl rfl H10.out Try.sizeTold rfl (by kernel_rfl) (by kernel_rfl) rfl ?_
          intro Vb hb tb
          replace HS := Lib.hid (below_trn HS.out HS.out.size tb (by omega))
          replace VT := Lib.hid (VT.out.trn tb (by omega))
          replace H10 := Lib.hid hb
          clear hb tb
          refine hKK.out _ _ HS.out (fun _ => ?_)
          clear hKK KK
          (try simp only [Act.put, List.setIfInBounds_toArray, List.set_cons_zero, List.set_cons_succ])
          refine take_atR (i := 13) (d := 7) (v := .int .i64 E) rfl rfl (by kernel_rfl) (by kernel_rfl) (by kernel_rfl) (fun _ _ _ h => h) (Or.inl ⟨by rfl, fun _ _ => rfl⟩) HS.out ?_
          (try simp only [Act.put, List.setIfInBounds_toArray, List.set_cons_zero, List.set_cons_succ])
          refine wpAnyH_done (by kernel_rfl) ?_ _
          go_wp2
          go_meet
          exact ⟨_, _, _, _, _, _, _, _, rfl, rfl, rfl, H10.out, (by omega), VT.out.av (fun _ _ => trivial), HS.out⟩
      · rw [if_pos (by rfl)]
        refine wp_allocR 41 rfl _ _ (Try.alcToldO V1) 6 rfl ?_
        have hb : Below V1.heap.size V1 (V1.alloc (.cells #[.bool false, .slice none 0 0, .int .i64 0, .slice none 0 0] 41)) := below_alloc _ _
        have hzV2 : V1.heap.size + 1 ≤ (V1.alloc (.cells #[.bool false, .slice none 0 0, .int .i64 0, .slice none 0 0] 41)).heap.size := by simp
        have H10 := Lib.hid (whl_new V1 #[.bool false, .slice none 0 0, .int .i64 0, .slice none 0 0] 41 rfl)
        replace HS := Lib.hid (HS.out.trans (hb.mono HS.out.size))
        replace HD3 := Lib.hid (ints_now HD3.out hb)
        replace HV := Lib.hid (HV.out.since hb)
        replace H9 := Lib.hid (whl_since H9.out hb)
        clear hb
        generalize hwy : V1.alloc (.cells #[.bool false, .slice none 0 0, .int .i64 0, .slice none 0 0] 41) = V2 at *
        clear hwy
        refine hKK.out _ _ HS.out (fun _ => ?_)
        clear hKK KK
        (try simp only [Act.put, List.setIfInBounds_toArray, List.set_cons_zero, List.set_cons_succ])
        refine wpAnyH_ready (rs := [2]) (by kernel_rfl) (by simp) ?_
        refine AllReadyH.cons rfl (fun KK hKK => ?_) AllReadyH.nil
        rw [if_pos (by rfl)]
        refine wp_callR 9 #[.agg #[.int .i64 a.dev, .int .i64 a.at_, .int .i64 a.count, .bool a.wr, .slice AD nd cd]] (by kernel_rfl) 25 rfl ((law_short a AD nd cd V2 HD3.out HCD.out).mono ?_)
        rintro e V3 ⟨kd, dd, rfl, hi5, hc5, hb⟩
        have HI := Lib.hid hi5
        replace HS := Lib.hid (HS.out.trans (hb.mono HS.out.size))
        replace HV := Lib.hid (HV.out.since hb)
        replace H9 := Lib.hid (whl_since H9.out hb)
        replace H10 := Lib.hid (whl_since H10.out hb)
        have hzV3 : V2.heap.size ≤ V3.heap.size := hb.size
        clear hb hi5 hc5 HD3
        refine ⟨_, rfl, ?_⟩
        refine hKK.out _ _ HS.out (fun _ => ?_)
        clear hKK KK
        (try simp only [Act.put, List.setIfInBounds_toArray, List.set_cons_zero, List.set_cons_succ])
        refine take_atR (i := 3) (d := 26) (v := .agg #[.int .i64 3, .int .i64 0, .int .i64 (shortA a).dev, .int .i64 (shortA a).at_, .int .i64 (shortA a).count, .bool (shortA a).wr, .slice AD kd dd]) rfl rfl (by kernel_rfl) (by kernel_rfl) (by kernel_rfl) (fun _ _ _ h => h) (Or.inl ⟨by rfl, fun W' _ => (by kernel_rfl)⟩) HS.out ?_
        (try simp only [Act.put, List.setIfInBounds_toArray, List.set_cons_zero, List.set_cons_succ])
        refine wpAnyH_ready (rs := [4]) (by kernel_rfl) (by simp) ?_
        refine AllReadyH.cons rfl (fun KK hKK => ?_) AllReadyH.nil
        rw [if_pos (by rfl)]
        refine wp_callR 8 #[.agg #[.slice M nm mc, .int .i64 x.h.at_, .slice R nr rc, .bool x.h.done, .int .i64 x.b.mode, .int .i64 x.b.base, .slice none 0 0, .int .i64 x.b.orders.page, .int .i64 x.b.orders.head, .int .i64 x.b.orders.tail, .bool x.b.stopped, .int .i64 x.b.fences, .int .i64 x.b.faults.page, .int .i64 x.b.faults.head, .int .i64 x.b.faults.tail, .bool x.b.lost], .agg #[.int .i64 3, .int .i64 0, .int .i64 (shortA a).dev, .int .i64 (shortA a).at_, .int .i64 (shortA a).count, .bool (shortA a).wr, .slice AD kd dd]] (by kernel_rfl) 27 rfl ((mdo_ans (bareM x) (⟨3, 0, shortA a⟩ : Hap) M R none AD kd dd V3 nm mc nr rc 0 0 HV.out.hm HV.out.hr HV.out.hl HI.out (z5, t) E HDA.out HDE.out).mono ?_)
        rintro e V4 ⟨M5, nm5, mc5, R5, nr5, rc5, L5, n5, c5, D5, dn5, dc5, T5, tn5, tc5, rfl, hv5, ht5, hb⟩
        have VT := Lib.hid ht5.ltO
        replace HS := Lib.hid (HS.out.trans (hb.mono HS.out.size))
        replace H9 := Lib.hid (whl_since H9.out hb)
        replace H10 := Lib.hid (whl_since H10.out hb)
        have hzV4 : V3.heap.size ≤ V4.heap.size := hb.size
        clear hb hv5 ht5 HI
        refine ⟨_, rfl, ?_⟩
        refine hKK.out _ _ HS.out (fun _ => ?_)
        clear hKK KK
        (try simp only [Act.put, List.setIfInBounds_toArray, List.set_cons_zero, List.set_cons_succ])
        refine take_atR (i := 5) (d := 22) (v := _) rfl rfl (by kernel_rfl) (by kernel_rfl) (by kernel_rfl) (fun _ _ _ h => h) (Or.inl ⟨by rfl, fun _ _ => rfl⟩) HS.out ?_
        (try simp only [Act.put, List.setIfInBounds_toArray, List.set_cons_zero, List.set_cons_succ])
        refine take_atR (i := 6) (d := 28) (v := .agg #[.slice M5 nm5 mc5, .int .i64 z5.h.at_, .slice R5 nr5 rc5, .bool z5.h.done, .int .i64 z5.b.mode, .int .i64 z5.b.base, .slice L5 n5 c5, .int .i64 z5.b.orders.page, .int .i64 z5.b.orders.head, .int .i64 z5.b.orders.tail, .bool z5.b.stopped, .int .i64 z5.b.fences, .int .i64 z5.b.faults.page, .int .i64 z5.b.faults.head, .int .i64 z5.b.faults.tail, .bool z5.b.lost]) rfl rfl (by kernel_rfl) (by kernel_rfl) (by kernel_rfl) (fun _ _ _ h => h) (Or.inl ⟨by rfl, fun _ _ => rfl⟩) HS.out ?_
        (try simp only [Act.put, List.setIfInBounds_toArray, List.set_cons_zero, List.set_cons_succ])
        refine take_atR (i := 7) (d := 29) (v := .agg #[.bool t.done, .slice D5 dn5 dc5, .int .i64 t.fault, .slice T5 tn5 tc5]) rfl rfl (by kernel_rfl) (by kernel_rfl) (by kernel_rfl) (fun _ _ _ h => h) (Or.inl ⟨by rfl, fun _ _ => rfl⟩) HS.out ?_
        (try simp only [Act.put, List.setIfInBounds_toArray, List.set_cons_zero, List.set_cons_succ])
        refine take_atR (i := 8) (d := 30) (v := .int .i64 E) rfl rfl (by kernel_rfl) (by kernel_rfl) (by kernel_rfl) (fun _ _ _ h => h) (Or.inl ⟨by rfl, fun _ _ => rfl⟩) HS.out ?_
        (try simp only [Act.put, List.setIfInBounds_toArray, List.set_cons_zero, List.set_cons_succ])
        refine wpAnyH_ready (rs := [11]) (by kernel_rfl) (by simp) ?_
        refine AllReadyH.cons rfl (fun KK hKK => ?_) AllReadyH.nil
        rw [if_pos (by rfl)]
        refine wp_storeR 33 (.tmp 5) (.tmp 28) rfl (V0.heap.size) 33 #[.slice none 0 0, .int .i64 0, .slice none 0 0, .bool false, .int .i64 0, .int .i64 0, .slice none 0 0, .int .i64 0, .int .i64 0, .int .i64 0, .bool false, .int .i64 0, .int .i64 0, .int .i64 0, .int .i64 0, .bool false] #[.slice M5 nm5 mc5, .int .i64 z5.h.at_, .slice R5 nr5 rc5, .bool z5.h.done, .int .i64 z5.b.mode, .int .i64 z5.b.base, .slice L5 n5 c5, .int .i64 z5.b.orders.page, .int .i64 z5.b.orders.head, .int .i64 z5.b.orders.tail, .bool z5.b.stopped, .int .i64 z5.b.fences, .int .i64 z5.b.faults.page, .int .i64 z5.b.faults.head, .int .i64 z5.b.faults.tail, .bool z5.b.lost] rfl rfl H9.out Try.sizeMach rfl (by kernel_rfl) (by kernel_rfl) rfl ?_
        intro Va ha ta
        have hza : V4.heap.size ≤ Va.heap.size := Nat.le_of_eq ta.2.symm
        replace HS := Lib.hid (below_trn HS.out HS.out.size ta (by omega))
        replace H10 := Lib.hid (whl_trn H10.out ta (by omega))
        replace VT := Lib.hid (VT.out.trn ta (by omega))
        clear ha ta H9
        refine hKK.out _ _ HS.out (fun _ => ?_)
        clear hKK KK
        (try simp only [Act.put, List.setIfInBounds_toArray, List.set_cons_zero, List.set_cons_succ])
        refine wpAnyH_ready (rs := [12]) (by kernel_rfl) (by simp) ?_
        refine AllReadyH.cons rfl (fun KK hKK => ?_) AllReadyH.nil
        rw [if_pos (by rfl)]
        refine wp_storeR 41 (.tmp 6) (.tmp 29) rfl (V1.heap.size) 41 #[.bool false, .slice none 0 0, .int .i64 0, .slice none 0 0] #[.bool t.done, .slice D5 dn5 dc5, .int .i64 t.fault, .slice T5 tn5 tc5] rfl rfl H10.out Try.sizeTold rfl (by kernel_rfl) (by kernel_rfl) rfl ?_
        intro Vb hb tb
        replace HS := Lib.hid (below_trn HS.out HS.out.size tb (by omega))
        replace VT := Lib.hid (VT.out.trn tb (by omega))
        replace H10 := Lib.hid hb
        clear hb tb
        refine hKK.out _ _ HS.out (fun _ => ?_)
        clear hKK KK
        (try simp only [Act.put, List.setIfInBounds_toArray, List.set_cons_zero, List.set_cons_succ])
        refine take_atR (i := 13) (d := 7) (v := .int .i64 E) rfl rfl (by kernel_rfl) (by kernel_rfl) (by kernel_rfl) (fun _ _ _ h => h) (Or.inl ⟨by rfl, fun _ _ => rfl⟩) HS.out ?_
        (try simp only [Act.put, List.setIfInBounds_toArray, List.set_cons_zero, List.set_cons_succ])
        refine wpAnyH_done (by kernel_rfl) ?_ _
        go_wp2
        go_meet
        exact ⟨_, _, _, _, _, _, _, _, rfl, rfl, rfl, H10.out, (by omega), VT.out.av (fun _ _ => trivial), HS.out⟩
    · rw [if_pos (by rfl)]
      refine wp_allocR 41 rfl _ _ (Try.alcToldO V0) 6 rfl ?_
      have hb : Below V0.heap.size V0 (V0.alloc (.cells #[.bool false, .slice none 0 0, .int .i64 0, .slice none 0 0] 41)) := below_alloc _ _
      have hzV1 : V0.heap.size + 1 ≤ (V0.alloc (.cells #[.bool false, .slice none 0 0, .int .i64 0, .slice none 0 0] 41)).heap.size := by simp
      have H10 := Lib.hid (whl_new V0 #[.bool false, .slice none 0 0, .int .i64 0, .slice none 0 0] 41 rfl)
      replace HS := Lib.hid (HS.out.trans (hb.mono HS.out.size))
      replace HD3 := Lib.hid (ints_now HD3.out hb)
      replace HV := Lib.hid (HV.out.since hb)
      clear hb
      generalize hwy : V0.alloc (.cells #[.bool false, .slice none 0 0, .int .i64 0, .slice none 0 0] 41) = V1 at *
      clear hwy
      refine hKK.out _ _ HS.out (fun _ => ?_)
      clear hKK KK
      (try simp only [Act.put, List.setIfInBounds_toArray, List.set_cons_zero, List.set_cons_succ])
      refine wpAnyH_ready (rs := [2, 9]) (by kernel_rfl) (by simp) ?_
      refine AllReadyH.cons rfl (fun KK hKK => ?_) (AllReadyH.cons rfl (fun KK hKK => ?_) AllReadyH.nil)
      · rw [if_pos (by rfl)]
        refine wp_callR 9 #[.agg #[.int .i64 a.dev, .int .i64 a.at_, .int .i64 a.count, .bool a.wr, .slice AD nd cd]] (by kernel_rfl) 25 rfl ((law_short a AD nd cd V1 HD3.out HCD.out).mono ?_)
        rintro e V2 ⟨kd, dd, rfl, hi5, hc5, hb⟩
        have HI := Lib.hid hi5
        replace HS := Lib.hid (HS.out.trans (hb.mono HS.out.size))
        replace HV := Lib.hid (HV.out.since hb)
        replace H10 := Lib.hid (whl_since H10.out hb)
        have hzV2 : V1.heap.size ≤ V2.heap.size := hb.size
        clear hb hi5 hc5 HD3
        refine ⟨_, rfl, ?_⟩
        refine hKK.out _ _ HS.out (fun _ => ?_)
        clear hKK KK
        (try simp only [Act.put, List.setIfInBounds_toArray, List.set_cons_zero, List.set_cons_succ])
        refine take_atR (i := 3) (d := 26) (v := .agg #[.int .i64 3, .int .i64 0, .int .i64 (shortA a).dev, .int .i64 (shortA a).at_, .int .i64 (shortA a).count, .bool (shortA a).wr, .slice AD kd dd]) rfl rfl (by kernel_rfl) (by kernel_rfl) (by kernel_rfl) (fun _ _ _ h => h) (Or.inl ⟨by rfl, fun W' _ => (by kernel_rfl)⟩) HS.out ?_
        (try simp only [Act.put, List.setIfInBounds_toArray, List.set_cons_zero, List.set_cons_succ])
        refine wpAnyH_ready (rs := [4, 9]) (by kernel_rfl) (by simp) ?_
        refine AllReadyH.cons rfl (fun KK hKK => ?_) (AllReadyH.cons rfl (fun KK hKK => ?_) AllReadyH.nil)
        · rw [if_pos (by rfl)]
          refine wp_callR 8 #[.agg #[.slice M nm mc, .int .i64 x.h.at_, .slice R nr rc, .bool x.h.done, .int .i64 x.b.mode, .int .i64 x.b.base, .slice none 0 0, .int .i64 x.b.orders.page, .int .i64 x.b.orders.head, .int .i64 x.b.orders.tail, .bool x.b.stopped, .int .i64 x.b.fences, .int .i64 x.b.faults.page, .int .i64 x.b.faults.head, .int .i64 x.b.faults.tail, .bool x.b.lost], .agg #[.int .i64 3, .int .i64 0, .int .i64 (shortA a).dev, .int .i64 (shortA a).at_, .int .i64 (shortA a).count, .bool (shortA a).wr, .slice AD kd dd]] (by kernel_rfl) 27 rfl ((mdo_ans (bareM x) (⟨3, 0, shortA a⟩ : Hap) M R none AD kd dd V2 nm mc nr rc 0 0 HV.out.hm HV.out.hr HV.out.hl HI.out (z5, t) E HDA.out HDE.out).mono ?_)
          rintro e V3 ⟨M5, nm5, mc5, R5, nr5, rc5, L5, n5, c5, D5, dn5, dc5, T5, tn5, tc5, rfl, hv5, ht5, hb⟩
          have VT := Lib.hid ht5.ltO
          replace HS := Lib.hid (HS.out.trans (hb.mono HS.out.size))
          replace H10 := Lib.hid (whl_since H10.out hb)
          have hzV3 : V2.heap.size ≤ V3.heap.size := hb.size
          clear hb hv5 ht5 HI
          refine ⟨_, rfl, ?_⟩
          refine hKK.out _ _ HS.out (fun _ => ?_)
          clear hKK KK
          (try simp only [Act.put, List.setIfInBounds_toArray, List.set_cons_zero, List.set_cons_succ])
          refine take_atR (i := 5) (d := 22) (v := _) rfl rfl (by kernel_rfl) (by kernel_rfl) (by kernel_rfl) (fun _ _ _ h => h) (Or.inl ⟨by rfl, fun _ _ => rfl⟩) HS.out ?_
          (try simp only [Act.put, List.setIfInBounds_toArray, List.set_cons_zero, List.set_cons_succ])
          refine take_atR (i := 6) (d := 28) (v := .agg #[.slice M5 nm5 mc5, .int .i64 z5.h.at_, .slice R5 nr5 rc5, .bool z5.h.done, .int .i64 z5.b.mode, .int .i64 z5.b.base, .slice L5 n5 c5, .int .i64 z5.b.orders.page, .int .i64 z5.b.orders.head, .int .i64 z5.b.orders.tail, .bool z5.b.stopped, .int .i64 z5.b.fences, .int .i64 z5.b.faults.page, .int .i64 z5.b.faults.head, .int .i64 z5.b.faults.tail, .bool z5.b.lost]) rfl rfl (by kernel_rfl) (by kernel_rfl) (by kernel_rfl) (fun _ _ _ h => h) (Or.inl ⟨by rfl, fun _ _ => rfl⟩) HS.out ?_
          (try simp only [Act.put, List.setIfInBounds_toArray, List.set_cons_zero, List.set_cons_succ])
          refine take_atR (i := 7) (d := 29) (v := .agg #[.bool t.done, .slice D5 dn5 dc5, .int .i64 t.fault, .slice T5 tn5 tc5]) rfl rfl (by kernel_rfl) (by kernel_rfl) (by kernel_rfl) (fun _ _ _ h => h) (Or.inl ⟨by rfl, fun _ _ => rfl⟩) HS.out ?_
          (try simp only [Act.put, List.setIfInBounds_toArray, List.set_cons_zero, List.set_cons_succ])
          refine take_atR (i := 8) (d := 30) (v := .int .i64 E) rfl rfl (by kernel_rfl) (by kernel_rfl) (by kernel_rfl) (fun _ _ _ h => h) (Or.inl ⟨by rfl, fun _ _ => rfl⟩) HS.out ?_
          (try simp only [Act.put, List.setIfInBounds_toArray, List.set_cons_zero, List.set_cons_succ])
          refine wpAnyH_ready (rs := [9]) (by kernel_rfl) (by simp) ?_
          refine AllReadyH.cons rfl (fun KK hKK => ?_) AllReadyH.nil
          rw [if_pos (by rfl)]
          refine wp_allocR 33 rfl _ _ (Try.alcMachO V3) 5 rfl ?_
          have hb : Below V3.heap.size V3 (V3.alloc (.cells #[.slice none 0 0, .int .i64 0, .slice none 0 0, .bool false, .int .i64 0, .int .i64 0, .slice none 0 0, .int .i64 0, .int .i64 0, .int .i64 0, .bool false, .int .i64 0, .int .i64 0, .int .i64 0, .int .i64 0, .bool false] 33)) := below_alloc _ _
          have hzV4 : V3.heap.size + 1 ≤ (V3.alloc (.cells #[.slice none 0 0, .int .i64 0, .slice none 0 0, .bool false, .int .i64 0, .int .i64 0, .slice none 0 0, .int .i64 0, .int .i64 0, .int .i64 0, .bool false, .int .i64 0, .int .i64 0, .int .i64 0, .int .i64 0, .bool false] 33)).heap.size := by simp
          have H9 := Lib.hid (whl_new V3 #[.slice none 0 0, .int .i64 0, .slice none 0 0, .bool false, .int .i64 0, .int .i64 0, .slice none 0 0, .int .i64 0, .int .i64 0, .int .i64 0, .bool false, .int .i64 0, .int .i64 0, .int .i64 0, .int .i64 0, .bool false] 33 rfl)
          replace HS := Lib.hid (HS.out.trans (hb.mono HS.out.size))
          replace H10 := Lib.hid (whl_since H10.out hb)
          replace VT := Lib.hid (VT.out.since hb)
          clear hb
          generalize hwy : V3.alloc (.cells #[.slice none 0 0, .int .i64 0, .slice none 0 0, .bool false, .int .i64 0, .int .i64 0, .slice none 0 0, .int .i64 0, .int .i64 0, .int .i64 0, .bool false, .int .i64 0, .int .i64 0, .int .i64 0, .int .i64 0, .bool false] 33) = V4 at *
          clear hwy
          refine hKK.out _ _ HS.out (fun _ => ?_)
          clear hKK KK
          (try simp only [Act.put, List.setIfInBounds_toArray, List.set_cons_zero, List.set_cons_succ])
          refine wpAnyH_ready (rs := [11]) (by kernel_rfl) (by simp) ?_
          refine AllReadyH.cons rfl (fun KK hKK => ?_) AllReadyH.nil
          rw [if_pos (by rfl)]
          refine wp_storeR 33 (.tmp 5) (.tmp 28) rfl (V3.heap.size) 33 #[.slice none 0 0, .int .i64 0, .slice none 0 0, .bool false, .int .i64 0, .int .i64 0, .slice none 0 0, .int .i64 0, .int .i64 0, .int .i64 0, .bool false, .int .i64 0, .int .i64 0, .int .i64 0, .int .i64 0, .bool false] #[.slice M5 nm5 mc5, .int .i64 z5.h.at_, .slice R5 nr5 rc5, .bool z5.h.done, .int .i64 z5.b.mode, .int .i64 z5.b.base, .slice L5 n5 c5, .int .i64 z5.b.orders.page, .int .i64 z5.b.orders.head, .int .i64 z5.b.orders.tail, .bool z5.b.stopped, .int .i64 z5.b.fences, .int .i64 z5.b.faults.page, .int .i64 z5.b.faults.head, .int .i64 z5.b.faults.tail, .bool z5.b.lost] rfl rfl H9.out Try.sizeMach rfl (by kernel_rfl) (by kernel_rfl) rfl ?_
          intro Va ha ta
          have hza : V4.heap.size ≤ Va.heap.size := Nat.le_of_eq ta.2.symm
          replace HS := Lib.hid (below_trn HS.out HS.out.size ta (by omega))
          replace H10 := Lib.hid (whl_trn H10.out ta (by omega))
          replace VT := Lib.hid (VT.out.trn ta (by omega))
          clear ha ta H9
          refine hKK.out _ _ HS.out (fun _ => ?_)
          clear hKK KK
          (try simp only [Act.put, List.setIfInBounds_toArray, List.set_cons_zero, List.set_cons_succ])
          refine wpAnyH_ready (rs := [12]) (by kernel_rfl) (by simp) ?_
          refine AllReadyH.cons rfl (fun KK hKK => ?_) AllReadyH.nil
          rw [if_pos (by rfl)]
          refine wp_storeR 41 (.tmp 6) (.tmp 29) rfl (V0.heap.size) 41 #[.bool false, .slice none 0 0, .int .i64 0, .slice none 0 0] #[.bool t.done, .slice D5 dn5 dc5, .int .i64 t.fault, .slice T5 tn5 tc5] rfl rfl H10.out Try.sizeTold rfl (by kernel_rfl) (by kernel_rfl) rfl ?_
          intro Vb hb tb
          replace HS := Lib.hid (below_trn HS.out HS.out.size tb (by omega))
          replace VT := Lib.hid (VT.out.trn tb (by omega))
          replace H10 := Lib.hid hb
          clear hb tb
          refine hKK.out _ _ HS.out (fun _ => ?_)
          clear hKK KK
          (try simp only [Act.put, List.setIfInBounds_toArray, List.set_cons_zero, List.set_cons_succ])
          refine take_atR (i := 13) (d := 7) (v := .int .i64 E) rfl rfl (by kernel_rfl) (by kernel_rfl) (by kernel_rfl) (fun _ _ _ h => h) (Or.inl ⟨by rfl, fun _ _ => rfl⟩) HS.out ?_
          (try simp only [Act.put, List.setIfInBounds_toArray, List.set_cons_zero, List.set_cons_succ])
          refine wpAnyH_done (by kernel_rfl) ?_ _
          go_wp2
          go_meet
          exact ⟨_, _, _, _, _, _, _, _, rfl, rfl, rfl, H10.out, (by omega), VT.out.av (fun _ _ => trivial), HS.out⟩
        · rw [if_pos (by rfl)]
          refine wp_allocR 33 rfl _ _ (Try.alcMachO V2) 5 rfl ?_
          have hb : Below V2.heap.size V2 (V2.alloc (.cells #[.slice none 0 0, .int .i64 0, .slice none 0 0, .bool false, .int .i64 0, .int .i64 0, .slice none 0 0, .int .i64 0, .int .i64 0, .int .i64 0, .bool false, .int .i64 0, .int .i64 0, .int .i64 0, .int .i64 0, .bool false] 33)) := below_alloc _ _
          have hzV3 : V2.heap.size + 1 ≤ (V2.alloc (.cells #[.slice none 0 0, .int .i64 0, .slice none 0 0, .bool false, .int .i64 0, .int .i64 0, .slice none 0 0, .int .i64 0, .int .i64 0, .int .i64 0, .bool false, .int .i64 0, .int .i64 0, .int .i64 0, .int .i64 0, .bool false] 33)).heap.size := by simp
          have H9 := Lib.hid (whl_new V2 #[.slice none 0 0, .int .i64 0, .slice none 0 0, .bool false, .int .i64 0, .int .i64 0, .slice none 0 0, .int .i64 0, .int .i64 0, .int .i64 0, .bool false, .int .i64 0, .int .i64 0, .int .i64 0, .int .i64 0, .bool false] 33 rfl)
          replace HS := Lib.hid (HS.out.trans (hb.mono HS.out.size))
          replace HV := Lib.hid (HV.out.since hb)
          replace H10 := Lib.hid (whl_since H10.out hb)
          replace HI := Lib.hid (ints_now HI.out hb)
          clear hb
          generalize hwy : V2.alloc (.cells #[.slice none 0 0, .int .i64 0, .slice none 0 0, .bool false, .int .i64 0, .int .i64 0, .slice none 0 0, .int .i64 0, .int .i64 0, .int .i64 0, .bool false, .int .i64 0, .int .i64 0, .int .i64 0, .int .i64 0, .bool false] 33) = V3 at *
          clear hwy
          refine hKK.out _ _ HS.out (fun _ => ?_)
          clear hKK KK
          (try simp only [Act.put, List.setIfInBounds_toArray, List.set_cons_zero, List.set_cons_succ])
          refine wpAnyH_ready (rs := [4]) (by kernel_rfl) (by simp) ?_
          refine AllReadyH.cons rfl (fun KK hKK => ?_) AllReadyH.nil
          rw [if_pos (by rfl)]
          refine wp_callR 8 #[.agg #[.slice M nm mc, .int .i64 x.h.at_, .slice R nr rc, .bool x.h.done, .int .i64 x.b.mode, .int .i64 x.b.base, .slice none 0 0, .int .i64 x.b.orders.page, .int .i64 x.b.orders.head, .int .i64 x.b.orders.tail, .bool x.b.stopped, .int .i64 x.b.fences, .int .i64 x.b.faults.page, .int .i64 x.b.faults.head, .int .i64 x.b.faults.tail, .bool x.b.lost], .agg #[.int .i64 3, .int .i64 0, .int .i64 (shortA a).dev, .int .i64 (shortA a).at_, .int .i64 (shortA a).count, .bool (shortA a).wr, .slice AD kd dd]] (by kernel_rfl) 27 rfl ((mdo_ans (bareM x) (⟨3, 0, shortA a⟩ : Hap) M R none AD kd dd V3 nm mc nr rc 0 0 HV.out.hm HV.out.hr HV.out.hl HI.out (z5, t) E HDA.out HDE.out).mono ?_)
          rintro e V4 ⟨M5, nm5, mc5, R5, nr5, rc5, L5, n5, c5, D5, dn5, dc5, T5, tn5, tc5, rfl, hv5, ht5, hb⟩
          have VT := Lib.hid ht5.ltO
          replace HS := Lib.hid (HS.out.trans (hb.mono HS.out.size))
          replace H10 := Lib.hid (whl_since H10.out hb)
          replace H9 := Lib.hid (whl_since H9.out hb)
          have hzV4 : V3.heap.size ≤ V4.heap.size := hb.size
          clear hb hv5 ht5 HI
          refine ⟨_, rfl, ?_⟩
          refine hKK.out _ _ HS.out (fun _ => ?_)
          clear hKK KK
          (try simp only [Act.put, List.setIfInBounds_toArray, List.set_cons_zero, List.set_cons_succ])
          refine take_atR (i := 5) (d := 22) (v := _) rfl rfl (by kernel_rfl) (by kernel_rfl) (by kernel_rfl) (fun _ _ _ h => h) (Or.inl ⟨by rfl, fun _ _ => rfl⟩) HS.out ?_
          (try simp only [Act.put, List.setIfInBounds_toArray, List.set_cons_zero, List.set_cons_succ])
          refine take_atR (i := 6) (d := 28) (v := .agg #[.slice M5 nm5 mc5, .int .i64 z5.h.at_, .slice R5 nr5 rc5, .bool z5.h.done, .int .i64 z5.b.mode, .int .i64 z5.b.base, .slice L5 n5 c5, .int .i64 z5.b.orders.page, .int .i64 z5.b.orders.head, .int .i64 z5.b.orders.tail, .bool z5.b.stopped, .int .i64 z5.b.fences, .int .i64 z5.b.faults.page, .int .i64 z5.b.faults.head, .int .i64 z5.b.faults.tail, .bool z5.b.lost]) rfl rfl (by kernel_rfl) (by kernel_rfl) (by kernel_rfl) (fun _ _ _ h => h) (Or.inl ⟨by rfl, fun _ _ => rfl⟩) HS.out ?_
          (try simp only [Act.put, List.setIfInBounds_toArray, List.set_cons_zero, List.set_cons_succ])
          refine take_atR (i := 7) (d := 29) (v := .agg #[.bool t.done, .slice D5 dn5 dc5, .int .i64 t.fault, .slice T5 tn5 tc5]) rfl rfl (by kernel_rfl) (by kernel_rfl) (by kernel_rfl) (fun _ _ _ h => h) (Or.inl ⟨by rfl, fun _ _ => rfl⟩) HS.out ?_
          (try simp only [Act.put, List.setIfInBounds_toArray, List.set_cons_zero, List.set_cons_succ])
          refine take_atR (i := 8) (d := 30) (v := .int .i64 E) rfl rfl (by kernel_rfl) (by kernel_rfl) (by kernel_rfl) (fun _ _ _ h => h) (Or.inl ⟨by rfl, fun _ _ => rfl⟩) HS.out ?_
          (try simp only [Act.put, List.setIfInBounds_toArray, List.set_cons_zero, List.set_cons_succ])
          refine wpAnyH_ready (rs := [11]) (by kernel_rfl) (by simp) ?_
          refine AllReadyH.cons rfl (fun KK hKK => ?_) AllReadyH.nil
          rw [if_pos (by rfl)]
          refine wp_storeR 33 (.tmp 5) (.tmp 28) rfl (V2.heap.size) 33 #[.slice none 0 0, .int .i64 0, .slice none 0 0, .bool false, .int .i64 0, .int .i64 0, .slice none 0 0, .int .i64 0, .int .i64 0, .int .i64 0, .bool false, .int .i64 0, .int .i64 0, .int .i64 0, .int .i64 0, .bool false] #[.slice M5 nm5 mc5, .int .i64 z5.h.at_, .slice R5 nr5 rc5, .bool z5.h.done, .int .i64 z5.b.mode, .int .i64 z5.b.base, .slice L5 n5 c5, .int .i64 z5.b.orders.page, .int .i64 z5.b.orders.head, .int .i64 z5.b.orders.tail, .bool z5.b.stopped, .int .i64 z5.b.fences, .int .i64 z5.b.faults.page, .int .i64 z5.b.faults.head, .int .i64 z5.b.faults.tail, .bool z5.b.lost] rfl rfl H9.out Try.sizeMach rfl (by kernel_rfl) (by kernel_rfl) rfl ?_
          intro Va ha ta
          have hza : V4.heap.size ≤ Va.heap.size := Nat.le_of_eq ta.2.symm
          replace HS := Lib.hid (below_trn HS.out HS.out.size ta (by omega))
          replace H10 := Lib.hid (whl_trn H10.out ta (by omega))
          replace VT := Lib.hid (VT.out.trn ta (by omega))
          clear ha ta H9
          refine hKK.out _ _ HS.out (fun _ => ?_)
          clear hKK KK
          (try simp only [Act.put, List.setIfInBounds_toArray, List.set_cons_zero, List.set_cons_succ])
          refine wpAnyH_ready (rs := [12]) (by kernel_rfl) (by simp) ?_
          refine AllReadyH.cons rfl (fun KK hKK => ?_) AllReadyH.nil
          rw [if_pos (by rfl)]
          refine wp_storeR 41 (.tmp 6) (.tmp 29) rfl (V0.heap.size) 41 #[.bool false, .slice none 0 0, .int .i64 0, .slice none 0 0] #[.bool t.done, .slice D5 dn5 dc5, .int .i64 t.fault, .slice T5 tn5 tc5] rfl rfl H10.out Try.sizeTold rfl (by kernel_rfl) (by kernel_rfl) rfl ?_
          intro Vb hb tb
          replace HS := Lib.hid (below_trn HS.out HS.out.size tb (by omega))
          replace VT := Lib.hid (VT.out.trn tb (by omega))
          replace H10 := Lib.hid hb
          clear hb tb
          refine hKK.out _ _ HS.out (fun _ => ?_)
          clear hKK KK
          (try simp only [Act.put, List.setIfInBounds_toArray, List.set_cons_zero, List.set_cons_succ])
          refine take_atR (i := 13) (d := 7) (v := .int .i64 E) rfl rfl (by kernel_rfl) (by kernel_rfl) (by kernel_rfl) (fun _ _ _ h => h) (Or.inl ⟨by rfl, fun _ _ => rfl⟩) HS.out ?_
          (try simp only [Act.put, List.setIfInBounds_toArray, List.set_cons_zero, List.set_cons_succ])
          refine wpAnyH_done (by kernel_rfl) ?_ _
          go_wp2
          go_meet
          exact ⟨_, _, _, _, _, _, _, _, rfl, rfl, rfl, H10.out, (by omega), VT.out.av (fun _ _ => trivial), HS.out⟩
      · rw [if_pos (by rfl)]
        refine wp_allocR 33 rfl _ _ (Try.alcMachO V1) 5 rfl ?_
        have hb : Below V1.heap.size V1 (V1.alloc (.cells #[.slice none 0 0, .int .i64 0, .slice none 0 0, .bool false, .int .i64 0, .int .i64 0, .slice none 0 0, .int .i64 0, .int .i64 0, .int .i64 0, .bool false, .int .i64 0, .int .i64 0, .int .i64 0, .int .i64 0, .bool false] 33)) := below_alloc _ _
        have hzV2 : V1.heap.size + 1 ≤ (V1.alloc (.cells #[.slice none 0 0, .int .i64 0, .slice none 0 0, .bool false, .int .i64 0, .int .i64 0, .slice none 0 0, .int .i64 0, .int .i64 0, .int .i64 0, .bool false, .int .i64 0, .int .i64 0, .int .i64 0, .int .i64 0, .bool false] 33)).heap.size := by simp
        have H9 := Lib.hid (whl_new V1 #[.slice none 0 0, .int .i64 0, .slice none 0 0, .bool false, .int .i64 0, .int .i64 0, .slice none 0 0, .int .i64 0, .int .i64 0, .int .i64 0, .bool false, .int .i64 0, .int .i64 0, .int .i64 0, .int .i64 0, .bool false] 33 rfl)
        replace HS := Lib.hid (HS.out.trans (hb.mono HS.out.size))
        replace HD3 := Lib.hid (ints_now HD3.out hb)
        replace HV := Lib.hid (HV.out.since hb)
        replace H10 := Lib.hid (whl_since H10.out hb)
        clear hb
        generalize hwy : V1.alloc (.cells #[.slice none 0 0, .int .i64 0, .slice none 0 0, .bool false, .int .i64 0, .int .i64 0, .slice none 0 0, .int .i64 0, .int .i64 0, .int .i64 0, .bool false, .int .i64 0, .int .i64 0, .int .i64 0, .int .i64 0, .bool false] 33) = V2 at *
        clear hwy
        refine hKK.out _ _ HS.out (fun _ => ?_)
        clear hKK KK
        (try simp only [Act.put, List.setIfInBounds_toArray, List.set_cons_zero, List.set_cons_succ])
        refine wpAnyH_ready (rs := [2]) (by kernel_rfl) (by simp) ?_
        refine AllReadyH.cons rfl (fun KK hKK => ?_) AllReadyH.nil
        rw [if_pos (by rfl)]
        refine wp_callR 9 #[.agg #[.int .i64 a.dev, .int .i64 a.at_, .int .i64 a.count, .bool a.wr, .slice AD nd cd]] (by kernel_rfl) 25 rfl ((law_short a AD nd cd V2 HD3.out HCD.out).mono ?_)
        rintro e V3 ⟨kd, dd, rfl, hi5, hc5, hb⟩
        have HI := Lib.hid hi5
        replace HS := Lib.hid (HS.out.trans (hb.mono HS.out.size))
        replace HV := Lib.hid (HV.out.since hb)
        replace H10 := Lib.hid (whl_since H10.out hb)
        replace H9 := Lib.hid (whl_since H9.out hb)
        have hzV3 : V2.heap.size ≤ V3.heap.size := hb.size
        clear hb hi5 hc5 HD3
        refine ⟨_, rfl, ?_⟩
        refine hKK.out _ _ HS.out (fun _ => ?_)
        clear hKK KK
        (try simp only [Act.put, List.setIfInBounds_toArray, List.set_cons_zero, List.set_cons_succ])
        refine take_atR (i := 3) (d := 26) (v := .agg #[.int .i64 3, .int .i64 0, .int .i64 (shortA a).dev, .int .i64 (shortA a).at_, .int .i64 (shortA a).count, .bool (shortA a).wr, .slice AD kd dd]) rfl rfl (by kernel_rfl) (by kernel_rfl) (by kernel_rfl) (fun _ _ _ h => h) (Or.inl ⟨by rfl, fun W' _ => (by kernel_rfl)⟩) HS.out ?_
        (try simp only [Act.put, List.setIfInBounds_toArray, List.set_cons_zero, List.set_cons_succ])
        refine wpAnyH_ready (rs := [4]) (by kernel_rfl) (by simp) ?_
        refine AllReadyH.cons rfl (fun KK hKK => ?_) AllReadyH.nil
        rw [if_pos (by rfl)]
        refine wp_callR 8 #[.agg #[.slice M nm mc, .int .i64 x.h.at_, .slice R nr rc, .bool x.h.done, .int .i64 x.b.mode, .int .i64 x.b.base, .slice none 0 0, .int .i64 x.b.orders.page, .int .i64 x.b.orders.head, .int .i64 x.b.orders.tail, .bool x.b.stopped, .int .i64 x.b.fences, .int .i64 x.b.faults.page, .int .i64 x.b.faults.head, .int .i64 x.b.faults.tail, .bool x.b.lost], .agg #[.int .i64 3, .int .i64 0, .int .i64 (shortA a).dev, .int .i64 (shortA a).at_, .int .i64 (shortA a).count, .bool (shortA a).wr, .slice AD kd dd]] (by kernel_rfl) 27 rfl ((mdo_ans (bareM x) (⟨3, 0, shortA a⟩ : Hap) M R none AD kd dd V3 nm mc nr rc 0 0 HV.out.hm HV.out.hr HV.out.hl HI.out (z5, t) E HDA.out HDE.out).mono ?_)
        rintro e V4 ⟨M5, nm5, mc5, R5, nr5, rc5, L5, n5, c5, D5, dn5, dc5, T5, tn5, tc5, rfl, hv5, ht5, hb⟩
        have VT := Lib.hid ht5.ltO
        replace HS := Lib.hid (HS.out.trans (hb.mono HS.out.size))
        replace H10 := Lib.hid (whl_since H10.out hb)
        replace H9 := Lib.hid (whl_since H9.out hb)
        have hzV4 : V3.heap.size ≤ V4.heap.size := hb.size
        clear hb hv5 ht5 HI
        refine ⟨_, rfl, ?_⟩
        refine hKK.out _ _ HS.out (fun _ => ?_)
        clear hKK KK
        (try simp only [Act.put, List.setIfInBounds_toArray, List.set_cons_zero, List.set_cons_succ])
        refine take_atR (i := 5) (d := 22) (v := _) rfl rfl (by kernel_rfl) (by kernel_rfl) (by kernel_rfl) (fun _ _ _ h => h) (Or.inl ⟨by rfl, fun _ _ => rfl⟩) HS.out ?_
        (try simp only [Act.put, List.setIfInBounds_toArray, List.set_cons_zero, List.set_cons_succ])
        refine take_atR (i := 6) (d := 28) (v := .agg #[.slice M5 nm5 mc5, .int .i64 z5.h.at_, .slice R5 nr5 rc5, .bool z5.h.done, .int .i64 z5.b.mode, .int .i64 z5.b.base, .slice L5 n5 c5, .int .i64 z5.b.orders.page, .int .i64 z5.b.orders.head, .int .i64 z5.b.orders.tail, .bool z5.b.stopped, .int .i64 z5.b.fences, .int .i64 z5.b.faults.page, .int .i64 z5.b.faults.head, .int .i64 z5.b.faults.tail, .bool z5.b.lost]) rfl rfl (by kernel_rfl) (by kernel_rfl) (by kernel_rfl) (fun _ _ _ h => h) (Or.inl ⟨by rfl, fun _ _ => rfl⟩) HS.out ?_
        (try simp only [Act.put, List.setIfInBounds_toArray, List.set_cons_zero, List.set_cons_succ])
        refine take_atR (i := 7) (d := 29) (v := .agg #[.bool t.done, .slice D5 dn5 dc5, .int .i64 t.fault, .slice T5 tn5 tc5]) rfl rfl (by kernel_rfl) (by kernel_rfl) (by kernel_rfl) (fun _ _ _ h => h) (Or.inl ⟨by rfl, fun _ _ => rfl⟩) HS.out ?_
        (try simp only [Act.put, List.setIfInBounds_toArray, List.set_cons_zero, List.set_cons_succ])
        refine take_atR (i := 8) (d := 30) (v := .int .i64 E) rfl rfl (by kernel_rfl) (by kernel_rfl) (by kernel_rfl) (fun _ _ _ h => h) (Or.inl ⟨by rfl, fun _ _ => rfl⟩) HS.out ?_
        (try simp only [Act.put, List.setIfInBounds_toArray, List.set_cons_zero, List.set_cons_succ])
        refine wpAnyH_ready (rs := [11]) (by kernel_rfl) (by simp) ?_
        refine AllReadyH.cons rfl (fun KK hKK => ?_) AllReadyH.nil
        rw [if_pos (by rfl)]
        refine wp_storeR 33 (.tmp 5) (.tmp 28) rfl (V1.heap.size) 33 #[.slice none 0 0, .int .i64 0, .slice none 0 0, .bool false, .int .i64 0, .int .i64 0, .slice none 0 0, .int .i64 0, .int .i64 0, .int .i64 0, .bool false, .int .i64 0, .int .i64 0, .int .i64 0, .int .i64 0, .bool false] #[.slice M5 nm5 mc5, .int .i64 z5.h.at_, .slice R5 nr5 rc5, .bool z5.h.done, .int .i64 z5.b.mode, .int .i64 z5.b.base, .slice L5 n5 c5, .int .i64 z5.b.orders.page, .int .i64 z5.b.orders.head, .int .i64 z5.b.orders.tail, .bool z5.b.stopped, .int .i64 z5.b.fences, .int .i64 z5.b.faults.page, .int .i64 z5.b.faults.head, .int .i64 z5.b.faults.tail, .bool z5.b.lost] rfl rfl H9.out Try.sizeMach rfl (by kernel_rfl) (by kernel_rfl) rfl ?_
        intro Va ha ta
        have hza : V4.heap.size ≤ Va.heap.size := Nat.le_of_eq ta.2.symm
        replace HS := Lib.hid (below_trn HS.out HS.out.size ta (by omega))
        replace H10 := Lib.hid (whl_trn H10.out ta (by omega))
        replace VT := Lib.hid (VT.out.trn ta (by omega))
        clear ha ta H9
        refine hKK.out _ _ HS.out (fun _ => ?_)
        clear hKK KK
        (try simp only [Act.put, List.setIfInBounds_toArray, List.set_cons_zero, List.set_cons_succ])
        refine wpAnyH_ready (rs := [12]) (by kernel_rfl) (by simp) ?_
        refine AllReadyH.cons rfl (fun KK hKK => ?_) AllReadyH.nil
        rw [if_pos (by rfl)]
        refine wp_storeR 41 (.tmp 6) (.tmp 29) rfl (V0.heap.size) 41 #[.bool false, .slice none 0 0, .int .i64 0, .slice none 0 0] #[.bool t.done, .slice D5 dn5 dc5, .int .i64 t.fault, .slice T5 tn5 tc5] rfl rfl H10.out Try.sizeTold rfl (by kernel_rfl) (by kernel_rfl) rfl ?_
        intro Vb hb tb
        replace HS := Lib.hid (below_trn HS.out HS.out.size tb (by omega))
        replace VT := Lib.hid (VT.out.trn tb (by omega))
        replace H10 := Lib.hid hb
        clear hb tb
        refine hKK.out _ _ HS.out (fun _ => ?_)
        clear hKK KK
        (try simp only [Act.put, List.setIfInBounds_toArray, List.set_cons_zero, List.set_cons_succ])
        refine take_atR (i := 13) (d := 7) (v := .int .i64 E) rfl rfl (by kernel_rfl) (by kernel_rfl) (by kernel_rfl) (fun _ _ _ h => h) (Or.inl ⟨by rfl, fun _ _ => rfl⟩) HS.out ?_
        (try simp only [Act.put, List.setIfInBounds_toArray, List.set_cons_zero, List.set_cons_succ])
        refine wpAnyH_done (by kernel_rfl) ?_ _
        go_wp2
        go_meet
        exact ⟨_, _, _, _, _, _, _, _, rfl, rfl, rfl, H10.out, (by omega), VT.out.av (fun _ _ => trivial), HS.out⟩
  case rest =>
    obtain ⟨g5, g6, D5, dn5, dc5, T5, tn5, tc5, rfl, rfl, rfl, hF⟩ := hcut
    obtain ⟨h9, hg6, ht9, hb⟩ := hF.out
    obtain ⟨w9, hw9⟩ : ∃ w9, w9 = wc := ⟨_, rfl⟩
    subst hw9
    have H9 := Lib.hid h9
    have VT := Lib.hid ht9
    replace HX := Lib.hid (whl_since HX.out hb)
    replace HV := Lib.hid (HV.out.since hb)
    replace HB := Lib.hid (HB.out.trans (hb.mono HB.out.size))
    have hz9 := hb.size
    clear hF h9 ht9 hb HD3
    by_cases hE : E = 0
    rotate_left
    · have t0 : (E != 0) = true := by rw [bne_iff_ne]; exact hE
      clear hE
      go_wp2
      go_ret
      exact ⟨rfl, HB.out⟩
    have t0 : (E != 0) = false := by rw [bne_eq_false_iff_eq]; exact hE
    have HE := Lib.hid (show doE (bareM x) (⟨3, 0, shortA a⟩ : Hap) = 0 by rw [HDE.out]; exact hE)
    clear hE
    have HO := Lib.hid (show ∀ u ∈ t.touched, fairE [bareM x] u = 0 ∧ fairV [bareM x] u = 0 by
      have h := own_law (x := bareM x) (y := (⟨3, 0, shortA a⟩ : Hap)) HE.out rfl (short_page (do_3 HE.out rfl).1) rfl
      rw [HDA.out] at h
      exact h)
    have f3 : w9.cell? ⟨g6, 3, none⟩ = some (.slice T5 tn5 tc5) := whl_cell H9.out 3
    have l9 : g6 < w9.heap.size := whl_lt H9.out
    have hcapt := VT.out.ht.cap
    have HTL := Lib.hid VT.out.ht.len
    go_upto_region 8 with (fail)
    clear f3 l9 t0
    go_loopw [36] (fun s36 wi => ∃ j : Nat, j ≤ tn5 ∧ s36 = .int .i64 j ∧ Hid (Below w9.heap.size w9 wi)) (fun s36 _ => tn5 - (intOf s36).toNat)
    case atStart => exact ⟨0, by omega, rfl, Below.refl _ _⟩
    case round =>
      obtain ⟨j, hj, rfl, hbj⟩ := hrel
      have HBJ := Lib.hid hbj.out
      clear hbj
      by_cases hjl : j < tn5
      · obtain ⟨u, huj⟩ := some_of_lt t.touched (k := j) (by rw [HTL.out]; exact hjl)
        obtain ⟨b2, off2, rfl, hb2, hcc⟩ := (tchs_now VT.out.ht HBJ.out).at_ (by omega)
        obtain ⟨e0, e1, e2, e3, e4⟩ := hcc j u huj
        obtain ⟨u1, u2⟩ := HO.out u (List.mem_of_getElem? huj)
        have U1 := Lib.hid u1
        have U2 := Lib.hid u2
        have r1 : (0 : Int) ≤ (j : Int) := by omega
        have r2 : (j : Int) < (tn5 : Int) := by omega
        have hzr := HBJ.out.size
        have HV' := Lib.hid (HV.out.since HBJ.out)
        have HX' := Lib.hid (whl_since HX.out HBJ.out)
        clear hcc huj u1 u2
        go_upto_region 10 with (refine wpList_store_new rfl 48 (.tmp 9) (.tmp 39) rfl _ _ _ _ rfl rfl (by rfl) (by rfl) Try.sizeTchO rfl (by rfl) ?_)
        generalize hwb : wr.alloc (.cells #[.int .i64 u.dev, .int .i64 u.seen, .int .i64 u.at_, .bool u.wr, .int .i64 u.value] 48) = wa
        have HT9 := Lib.hid (show Whl wa wr.heap.size 48 #[.int .i64 u.dev, .int .i64 u.seen, .int .i64 u.at_, .bool u.wr, .int .i64 u.value] by rw [← hwb]; exact whl_new _ _ _ rfl)
        have hb : Below wr.heap.size wr wa := by rw [← hwb]; exact below_alloc _ _
        have hza : wr.heap.size + 1 ≤ wa.heap.size := by rw [← hwb]; simp
        replace HV' := Lib.hid (HV'.out.since hb)
        replace HX' := Lib.hid (whl_since HX'.out hb)
        replace HBJ := Lib.hid (HBJ.out.trans (hb.mono hzr))
        clear hwb hb e0 e1 e2 e3 e4
        go_wp2_with (first
          | (refine wpList_load_whl rfl 33 (.tmp 2) rfl (w.heap.size) _ _ rfl HX'.out _ Try.underlying33 rfl Try.sizeMach ?_)
          | (refine wpList_buildS1 rfl (.tmp 41) 51 rfl _ (by rfl) _ (Try.bs1 _) ?_)
          | (refine wpList_load_whl rfl 48 (.tmp 9) rfl (wr.heap.size) _ _ rfl (whl_alloc HT9.out _) _ Try.underlying48 rfl Try.sizeTchO ?_))
        refine (fair_ans (some ⟨wa.heap.size, 0, none⟩) 1 1 [bareM x] u 0 0 _ (machs_one_ (M := M) (R := R) (L := none) (nm := nm) (mc := mc) (nr := nr) (rc := rc) (n := 0) (c := 0) (whl_new _ _ _ (by simp)) (by simp) ((ints_now HV'.out.hm (below_alloc _ _))) ((ints_now HV'.out.hr (below_alloc _ _))) ((lines_now HV'.out.hl (below_alloc _ _)))) U2.out U1.out).mono ?_
        rintro e wb ⟨rfl, hb⟩
        have HBK := Lib.hid (show Below w9.heap.size w9 wb from HBJ.out.trans (((below_alloc wa _).trans (hb.mono (below_alloc wa _).size)).mono (by omega)))
        clear hb
        go_wp2
        go_roundw
        case rel => exact ⟨j + 1, by omega, by go_num, HBK.out⟩
        case measure => simp [intOf]; omega
      · obtain rfl : j = tn5 := by omega
        have hh4 : ¬ ((j : Int) < (j : Int)) := by omega
        have HBK := Lib.hid (HB.out.trans (HBJ.out.mono (by omega)))
        go_wp2
        go_ret
        exact ⟨rfl, HBK.out⟩
end
end Go.Proofs.Ytbopdijnojaaiad
