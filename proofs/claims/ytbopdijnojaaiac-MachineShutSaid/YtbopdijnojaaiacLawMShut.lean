/- The walk of the law MachineShut: while the bridge is off no device touches anything. The row is in another text. -/
import Derived.Test.YtbopdijnojaaiacDriven
import Derived.Test.YtbopdijnojaaiacMachQ
namespace Go.Proofs.Ytbopdijnojaaiac
open Go.RowKit
set_option linter.unusedSimpArgs false
set_option linter.unusedVariables false
attribute [local go_sem ↓] Go.wp_at_zero Go.wp_at_succ
theorem slice_hiP (A : Option Addr) (n c k : Nat) (hk : k ≤ c) (hc : n ≤ c) :
    ∀ w, (Instr.slice 93 (.slice A n c) none (some (.int .i64 (k : Int))) none).run Try.prog w = .ok (.slice A k c) w := by
  intro w
  have h1 : (0 : Int) ≤ (k : Int) := by omega
  have h2 : (k : Int) ≤ (c : Int) := by omega
  simp [go_sem, h1, h2]
def offB (b : Brg) : Brg := ⟨0, b.base, b.cache, b.orders, b.stopped, b.fences, b.faults, b.lost⟩
def offM (x : Mch) : Mch := ⟨x.m, x.h, offB x.b⟩
theorem machV_off {w : World} {Av : Nat → Prop} {x : Mch} {M R L : Option Addr} {nm nr n c : Nat} (h : MachV w Av x M nm R nr L n c) : MachV w Av (offM x) M nm R nr L n c := ⟨h.hm, h.hr, h.hl, h.am, h.ar, h.al⟩
/-- how it stands ahead of a happening. -/
def ShutI (w : World) (M : Option Addr) (nm mc : Nat) (R : Option Addr) (nr rc : Nat) (L : Option Addr) (n c : Nat) (z : Mch) (W : World) : Prop :=
  Whl W w.heap.size 39 #[.slice M nm mc, .int .i64 z.h.at_, .slice R nr rc, .bool z.h.done, .int .i64 z.b.mode, .int .i64 z.b.base, .slice L n c, .int .i64 z.b.orders.page, .int .i64 z.b.orders.head, .int .i64 z.b.orders.tail, .bool z.b.stopped, .int .i64 z.b.fences, .int .i64 z.b.faults.page, .int .i64 z.b.faults.head, .int .i64 z.b.faults.tail, .bool z.b.lost] ∧ MachV W (fun q => q ≠ w.heap.size) z M nm R nr L n c ∧ Below w.heap.size w W ∧ w.heap.size < W.heap.size ∧ z.b.mode = 0 ∧ ckM z = 0
section
variable (x : Mch) (hs : List Hap) (M R L HA : Option Addr) (hn hc : Nat) (w : World)
set_option maxRecDepth 100000 in
set_option maxHeartbeats 8000000 in
theorem law_MachineShut (nm mc nr rc n c : Nat) (hm : Ints w w.heap.size M nm x.m) (hr : Ints w w.heap.size R nr x.h.regs) (hl : Lines w w.heap.size L n c x.b.cache) (hh : Haps w w.heap.size HA hn hc hs) :
    Calls Try.prog 12 #[.agg #[.slice M nm mc, .int .i64 x.h.at_, .slice R nr rc, .bool x.h.done, .int .i64 x.b.mode, .int .i64 x.b.base, .slice L n c, .int .i64 x.b.orders.page, .int .i64 x.b.orders.head, .int .i64 x.b.orders.tail, .bool x.b.stopped, .int .i64 x.b.fences, .int .i64 x.b.faults.page, .int .i64 x.b.faults.head, .int .i64 x.b.faults.tail, .bool x.b.lost], .slice HA hn hc] w fun e w' => e = .returned (.bool true) ∧ Below w.heap.size w w' := by
  have HMV := Lib.hid (machV_arg hm hr hl)
  have HH := Lib.hid hh
  have hcap := hh.cap
  have HHL := Lib.hid hh.len
  clear hm hr hl hh
  go_enter Try.func12, Try.ntmps12
  go_upto_region 1 with (fail)
  generalize hw0 : w.alloc (.cells #[.slice M nm mc, .int .i64 x.h.at_, .slice R nr rc, .bool x.h.done, .int .i64 x.b.mode, .int .i64 x.b.base, .slice L n c, .int .i64 x.b.orders.page, .int .i64 x.b.orders.head, .int .i64 x.b.orders.tail, .bool x.b.stopped, .int .i64 x.b.fences, .int .i64 x.b.faults.page, .int .i64 x.b.faults.head, .int .i64 x.b.faults.tail, .bool x.b.lost] 39) = w0
  have H0 := Lib.hid (show Whl w0 w.heap.size 39 #[.slice M nm mc, .int .i64 x.h.at_, .slice R nr rc, .bool x.h.done, .int .i64 x.b.mode, .int .i64 x.b.base, .slice L n c, .int .i64 x.b.orders.page, .int .i64 x.b.orders.head, .int .i64 x.b.orders.tail, .bool x.b.stopped, .int .i64 x.b.fences, .int .i64 x.b.faults.page, .int .i64 x.b.faults.head, .int .i64 x.b.faults.tail, .bool x.b.lost] by rw [← hw0]; exact whl_new _ _ _ rfl)
  have HW0 := Lib.hid (show Below w.heap.size w w0 by rw [← hw0]; (repeat (first | (with_reducible exact Below.refl _ _) | (with_reducible refine Below.drew ?_) | (with_reducible refine bdrewN ?_ _) | ((with_reducible refine Below.setCell ?_ ?_ _); rotate_left; exact (by first | (simp; done) | (simp; omega) | omega)) | ((with_reducible refine Below.alloc ?_ ?_ _); rotate_left; exact (by first | (simp; done) | (simp; omega) | omega)))))
  have hz0a : w0.heap.size ≤ w.heap.size + 1 := by rw [← hw0]; simp
  have hz0b : w.heap.size + 1 ≤ w0.heap.size := by rw [← hw0]; simp
  clear hw0
  go_upto_region 2 with (refine wpList_store_cell rfl 3 (.tmp 11) (.const (.int .i64 0)) rfl w.heap.size 4 _ _ #[.slice M nm mc, .int .i64 x.h.at_, .slice R nr rc, .bool x.h.done, .int .i64 0, .int .i64 x.b.base, .slice L n c, .int .i64 x.b.orders.page, .int .i64 x.b.orders.head, .int .i64 x.b.orders.tail, .bool x.b.stopped, .int .i64 x.b.fences, .int .i64 x.b.faults.page, .int .i64 x.b.faults.head, .int .i64 x.b.faults.tail, .bool x.b.lost] (.int .i64 0) rfl rfl H0.out Try.sizeInt (of_decide_eq_true rfl) rfl rfl ?_; intro w1 h1 t1)
  have HB1 := Lib.hid (below_trn HW0.out (by omega) t1 (Nat.le_refl _))
  have hz1a : w.heap.size < w1.heap.size := by have := t1.2; omega
  have HS1 := Lib.hid h1
  have HV1 := Lib.hid (show MachV w1 (fun q => q ≠ w.heap.size) (offM x) M nm R nr L n c from (MachV.trn (x := offM x) ((machV_off (MachV.av HMV.out (Av' := fun q => q ≠ w.heap.size) (fun q hq => by omega))).since HW0.out) t1 (fun hq => hq rfl)))
  clear h1 t1 H0 HW0 hz0a hz0b HMV
  go_wp2_with fail
  refine (law_driven _).mono ?_
  rintro e w2 ⟨rfl, hb2⟩
  have HB2 := Lib.hid (HB1.out.trans (hb2.mono (by omega)))
  have HS2 := Lib.hid (whl_since HS1.out hb2)
  have HV2 := Lib.hid (HV1.out.since hb2)
  have hz2a : w.heap.size < w2.heap.size := by have := hb2.size; omega
  clear hb2 HB1 HS1 HV1
  have k2 := fun o => whl_cell HS2.out o
  go_wp2_with fail
  clear k2
  refine (machine_Check (offM x) M R L nm mc nr rc n c _ HV2.out.hm HV2.out.hr HV2.out.hl).mono ?_
  rintro e w3 ⟨rfl, hb3⟩
  have HB3 := Lib.hid (HB2.out.trans (hb3.mono (by omega)))
  have HS3 := Lib.hid (whl_since HS2.out hb3)
  have HV3 := Lib.hid (HV2.out.since hb3)
  have hz3a : w.heap.size < w3.heap.size := by have := hb3.size; omega
  clear hb3 HB2 HS2 HV2 hz2a hz1a
  by_cases h0 : ckM (offM x) = 0
  rotate_left
  · have t0 : (ckM (offM x) != 0) = true := by rw [bne_iff_ne]; exact h0
    clear h0
    go_wp2_with fail
    refine (law_driven _).mono ?_
    rintro e w4 ⟨rfl, hb4⟩
    have HB4 := Lib.hid (HB3.out.trans (hb4.mono (by omega)))
    clear hb4
    go_wp2
    go_ret
    exact ⟨rfl, HB4.out⟩
  · have t0 : (ckM (offM x) != 0) = false := by rw [bne_eq_false_iff_eq]; exact h0
    have H0 := Lib.hid h0
    have J0 : Hid (ShutI w M nm mc R nr rc L n c (offM x) w3) := Lib.hid ⟨HS3.out, HV3.out, HB3.out, hz3a, rfl, h0⟩
    obtain ⟨nn, hnn⟩ : ∃ nn, nn = min hn 60 := ⟨_, rfl⟩
    have hmin : min (hn : Int) 60 = (nn : Int) := by omega
    have hsl := slice_hiP HA hn hc nn (by omega) (by omega)
    have hnl : nn ≤ hn := by omega
    have HNN := Lib.hid hnn
    clear h0 hnn HS3 HV3 HB3
    go_upto_region 4 with (fail)
    go_cut [24, 25, 26, 47, 51] (fun s24 s25 s26 s47 s51 wd => s24 = .slice HA nn hc ∧ s25 = .int .i64 nn ∧ s26 = .int .i64 0 ∧ s47 = undef ∧ s51 = undef ∧ wd = w3)
    case first =>
      rcases Nat.lt_or_ge 60 hn with hm | hm
      · have q1 : ¬ ((hn : Int) ≤ 60) := by omega
        have q2 : (60 : Int) = (nn : Int) := by have := HNN.out; omega
        have q3 := hsl
        rw [← q2] at q3
        have hn12 : nn = 60 := by have := HNN.out; omega
        have HN12 := Lib.hid hn12
        clear hmin hsl q2 hn12 hnl
        go_wp2
        go_meet
        exact ⟨by rw [HN12.out], by rw [HN12.out], rfl, rfl, rfl, rfl⟩
      · have q1 : (hn : Int) ≤ 60 := by omega
        have hn12 : nn = hn := by have := HNN.out; omega
        have HN12 := Lib.hid hn12
        rw [hn12] at hsl
        clear hmin hn12 hnl
        go_wp2
        go_meet
        exact ⟨by rw [HN12.out], by rw [HN12.out], rfl, rfl, rfl, rfl⟩
    case rest =>
      obtain ⟨rfl, rfl, rfl, rfl, rfl, rfl⟩ := hcut
      clear hmin hsl t0
      go_wp2
      go_loopw [26, 47, 51] (fun s26 s47 s51 wr => ∃ (k : Nat) (z : Mch) (M : Option Addr) (nm mc : Nat) (R : Option Addr) (nr rc : Nat) (L : Option Addr) (n c : Nat), k ≤ nn ∧ s26 = .int .i64 k ∧ Hid ((s47 = undef ∨ s47 = .bool false) ∧ (s51 = undef ∨ s51 = .bool false)) ∧ Hid (ShutI w M nm mc R nr rc L n c z wr)) (fun s26 _ _ _ => nn - (intOf s26).toNat)
      case atStart => exact ⟨0, offM x, M, nm, mc, R, nr, rc, L, n, c, by omega, rfl, ⟨Or.inl rfl, Or.inl rfl⟩, J0.out⟩
      case round =>
        clear J0 H0
        obtain ⟨k, z, M, nm, mc, R, nr, rc, L, n, c, hk, rfl, HU, hI⟩ := hrel
        obtain ⟨i1, i2, i3, i4, i5, i6⟩ := hI.out
        have HM := Lib.hid i1
        have HV := Lib.hid i2
        have HB := Lib.hid i3
        have HZ5 := Lib.hid i5
        have HZ6 := Lib.hid i6
        have hws := i4
        clear i1 i2 i3 i4 i5 i6 hI
        by_cases hlt : k < nn
        rotate_left
        · obtain rfl : k = nn := by omega
          have hh3 : ¬ ((k : Int) < (k : Int)) := by omega
          clear hlt
          go_wp2
          go_ret
          exact ⟨rfl, HB.out⟩
        obtain ⟨y, hyk⟩ := some_of_lt hs (k := k) (by rw [HHL.out]; omega)
        have HY := Lib.hid hyk
        obtain ⟨b, off, rfl, hb, hcc⟩ := (haps_now HH.out HB.out).at_ (by omega)
        obtain ⟨HD0, nd, cd, hcs, hda⟩ := hcc k y hyk
        have HRG := Lib.hid (hap_range hcs)
        have HDD := Lib.hid hda
        have q1 : (0 : Int) ≤ (k : Int) := by omega
        have q2 : (k : Int) < (nn : Int) := by omega
        obtain ⟨⟨z5, t⟩, hDA⟩ : ∃ r, doA z y = r := ⟨_, rfl⟩
        obtain ⟨E, hDE⟩ : ∃ E, doE z y = E := ⟨_, rfl⟩
        have HDA := Lib.hid hDA
        have HDE := Lib.hid hDE
        clear hcc hcs hda hyk hDA hDE
        go_wp2_with (first
        | (refine wpList_load_mid rfl 95 (.tmp 28) rfl b (off + k * 7) (by rfl) _ _ HRG.out Try.underlying95 rfl Try.sizeHap ?_)
        | (refine wpList_store_new rfl 95 (.tmp 6) (.tmp 29) rfl _ _ _ _ rfl rfl (by rfl) (by rfl) Try.sizeHap rfl (by rfl) ?_)
        | (refine wpList_load_whl rfl 39 (.tmp 2) rfl w.heap.size _ _ rfl (whl_alloc HM.out _) _ Try.underlying39 rfl Try.sizeMach ?_)
        | (refine wpList_load_whl rfl 95 (.tmp 6) rfl wr.heap.size _ _ rfl (whl_new wr _ _ rfl) _ Try.underlying95 rfl Try.sizeHap ?_))
        refine (mdo_ans z y M R L HD0 nd cd _ nm mc nr rc n c (ints_now HV.out.hm ((Below.refl _ _).alloc (Nat.le_refl _) _)) (ints_now HV.out.hr ((Below.refl _ _).alloc (Nat.le_refl _) _)) (lines_now HV.out.hl ((Below.refl _ _).alloc (Nat.le_refl _) _)) (ints_now HDD.out ((Below.refl _ _).alloc (Nat.le_refl _) _)) (z5, t) E HDA.out HDE.out).mono ?_
        rintro e w5 ⟨M5, nm5, mc5, R5, nr5, rc5, L5, n5, c5, D5, dn5, dc5, T5, tn5, tc5, rfl, hv5, ht5, hb5⟩
        have hz5 := hb5.size
        simp only [World.size_alloc] at hz5
        have HS5 := Lib.hid (show Below wr.heap.size wr w5 from ((Below.refl wr.heap.size wr).alloc (Nat.le_refl _) _).trans (hb5.mono (by simp)))
        have HH5 := Lib.hid (whl_since (whl_new wr _ 95 rfl) hb5 : Whl w5 wr.heap.size 95 #[.int .i64 y.kind, .int .i64 y.n, .int .i64 y.a.dev, .int .i64 y.a.at_, .int .i64 y.a.count, .bool y.a.wr, .slice HD0 nd cd])
        have HV5 := Lib.hid hv5
        have HTL := Lib.hid ht5.ht.len
        clear hb5 hv5 ht5
        by_cases hE : E = 0
        · have t0 : (E != 0) = false := by rw [bne_eq_false_iff_eq]; exact hE
          have HE := Lib.hid hE
          clear hE
          go_upto_region 9 with (first
            | (refine wpList_store_all rfl 39 (.tmp 7) (.tmp 34) rfl (w5.heap.size) _ _ #[.slice M5 nm5 mc5, .int .i64 z5.h.at_, .slice R5 nr5 rc5, .bool z5.h.done, .int .i64 z5.b.mode, .int .i64 z5.b.base, .slice L5 n5 c5, .int .i64 z5.b.orders.page, .int .i64 z5.b.orders.head, .int .i64 z5.b.orders.tail, .bool z5.b.stopped, .int .i64 z5.b.fences, .int .i64 z5.b.faults.page, .int .i64 z5.b.faults.head, .int .i64 z5.b.faults.tail, .bool z5.b.lost] rfl rfl (whl_alloc (whl_new w5 _ _ rfl) _) Try.sizeMach rfl rfl ?_; intro w6 h6 t6)
            | (refine wpList_store_all rfl 65 (.tmp 8) (.tmp 35) rfl (w5.heap.size + 1) _ _ #[.bool t.done, .slice D5 dn5 dc5, .int .i64 t.fault, .slice T5 tn5 tc5] rfl rfl (whl_trn (whl_new (w5.alloc _) _ _ (by simp)) t6 (Nat.succ_ne_self _)) Try.sizeTold rfl rfl ?_; intro w7 h7 t7))
          have hw6 := t6.2
          have hw7 := t7.2
          (try simp only [World.size_alloc] at hw6)
          have hz7a : w7.heap.size ≤ w5.heap.size + 1 + 1 := by omega
          have hz7b : w5.heap.size + 1 + 1 ≤ w7.heap.size := by omega
          have C7 := Lib.hid (chg_trans (chg_mono (Q := fun q => w5.heap.size ≤ q) t6.1 (fun q _ e => by omega)) (chg_mono t7.1 (fun q _ e => by omega)))
          have HS7 := Lib.hid (show Below wr.heap.size wr w7 from below_chg ((HS5.out.alloc (by omega) _).alloc (by simp; omega) _) (by simp; omega) C7.out (fun q hq e => by omega))
          have hB5 : Below w5.heap.size w5 w7 := below_chg (((Below.refl w5.heap.size w5).alloc (Nat.le_refl _) _).alloc (by simp) _) (by simp; omega) C7.out (fun q hq e => by omega)
          have MV7 := Lib.hid (MachV.av (x := z5) (HV5.out.since hB5) (Av' := fun q => wr.heap.size + 1 ≤ q) (fun q hq => by simp only [World.size_alloc] at hq; exact hq))
          have H67 := Lib.hid (whl_since HH5.out hB5)
          have H77 := Lib.hid (whl_trn h6 t7 (Nat.ne_of_lt (Nat.lt_succ_self _)))
          have HM7 := Lib.hid (whl_since HM.out HS7.out)
          have H6 := Lib.hid h6
          have H7 := Lib.hid h7
          have T7 := Lib.hid t7
          clear h6 h7 t6 t7 hw6 hw7 hB5
          have HN0 := Lib.hid (show ckM z5 = 0 by have := do_ck (x := z) (y := y) (by rw [HDE.out]; exact HE.out); rw [HDA.out] at this; exact this)
          have k7a : w7.cell? ⟨wr.heap.size, 0, none⟩ = some (.int .i64 y.kind) := whl_cell H67.out 0
          by_cases hk3 : y.kind = 3
          · have t3 : (y.kind == 3) = true := by rw [beq_iff_eq]; exact hk3
            obtain ⟨s1, s2, s3⟩ := shut_law (x := z) (y := y) (by rw [HDE.out]; exact HE.out) hk3 HZ5.out
            rw [HDA.out] at s1 s2 s3
            have k7b : w7.cell? ⟨w5.heap.size + 1, 3, none⟩ = some (.slice T5 0 tc5) := by
              have := whl_cell H7.out 3
              rw [show tn5 = 0 by rw [← HTL.out, s1]; rfl] at this
              exact this
            have k7c : w7.cell? ⟨w5.heap.size + 1, 0, none⟩ = some (.bool false) := by
              have := whl_cell H7.out 0
              rw [show t.done = false from s2] at this
              exact this
            have k7d : w7.cell? ⟨w5.heap.size + 1, 2, none⟩ = some (.int .i64 1) := by
              have := whl_cell H7.out 2
              rw [show t.fault = 1 from s3] at this
              exact this
            clear hk3 s1 s2 s3
            go_wp2_with (first | (refine wpList_load_whl rfl 39 (.tmp 7) rfl w5.heap.size _ _ rfl H77.out _ Try.underlying39 rfl Try.sizeMach ?_) | (refine wpList_store_all rfl 39 (.tmp 2) (.tmp 57) rfl (w.heap.size) _ _ #[.slice M5 nm5 mc5, .int .i64 z5.h.at_, .slice R5 nr5 rc5, .bool z5.h.done, .int .i64 z5.b.mode, .int .i64 z5.b.base, .slice L5 n5 c5, .int .i64 z5.b.orders.page, .int .i64 z5.b.orders.head, .int .i64 z5.b.orders.tail, .bool z5.b.stopped, .int .i64 z5.b.fences, .int .i64 z5.b.faults.page, .int .i64 z5.b.faults.head, .int .i64 z5.b.faults.tail, .bool z5.b.lost] rfl rfl HM7.out Try.sizeMach rfl rfl ?_; intro w8 h8 t8) | (refine wpList_store_cell rfl 3 (.tmp 59) (.const (.int .i64 0)) rfl w.heap.size 4 _ _ #[.slice M5 nm5 mc5, .int .i64 z5.h.at_, .slice R5 nr5 rc5, .bool z5.h.done, .int .i64 0, .int .i64 z5.b.base, .slice L5 n5 c5, .int .i64 z5.b.orders.page, .int .i64 z5.b.orders.head, .int .i64 z5.b.orders.tail, .bool z5.b.stopped, .int .i64 z5.b.fences, .int .i64 z5.b.faults.page, .int .i64 z5.b.faults.head, .int .i64 z5.b.faults.tail, .bool z5.b.lost] (.int .i64 0) rfl rfl h8 Try.sizeInt (of_decide_eq_true rfl) rfl rfl ?_; intro w9 h9 t9))
            have hw8 := t8.2
            have hw9 := t9.2
            go_roundw
            case rel =>
              refine ⟨k + 1, offM z5, M5, nm5, mc5, R5, nr5, rc5, L5, n5, c5, by omega, by go_num, ⟨Or.inr rfl, Or.inr rfl⟩, ?_⟩
              refine ⟨h9, ?_, ?_, by omega, rfl, ckM_mode HN0.out⟩
              · exact ((MachV.trn (x := offM z5) (MachV.trn (x := offM z5) (machV_off (MachV.av MV7.out (Av' := fun q => q ≠ w.heap.size) (fun q hq => by omega))) t8 (fun hq => hq rfl)) t9 (fun hq => hq rfl)))
              · exact below_trn (below_trn (HB.out.trans (HS7.out.mono (by omega))) (by omega) t8 (Nat.le_refl _)) (by omega) t9 (Nat.le_refl _)
            case measure => simp [intOf]; omega
          · have t3 : (y.kind == 3) = false := beq_eq_false_iff_ne.2 hk3
            clear hk3
            have k7c : w7.cell? ⟨w5.heap.size + 1, 0, none⟩ = some (.bool t.done) := whl_cell H7.out 0
            have k7d : w7.cell? ⟨w5.heap.size + 1, 2, none⟩ = some (.int .i64 t.fault) := whl_cell H7.out 2
            obtain ⟨hu1, hu2⟩ := HU.out
            clear HU
            rcases hu1 with rfl | rfl <;> rcases hu2 with rfl | rfl
            all_goals
              go_upto_region 11 with (fail)
              go_upto_region 12 with (first | (refine wpList_load_whl rfl 39 (.tmp 7) rfl w5.heap.size _ _ rfl H77.out _ Try.underlying39 rfl Try.sizeMach ?_) | (refine wpList_store_all rfl 39 (.tmp 2) (.tmp 57) rfl (w.heap.size) _ _ #[.slice M5 nm5 mc5, .int .i64 z5.h.at_, .slice R5 nr5 rc5, .bool z5.h.done, .int .i64 z5.b.mode, .int .i64 z5.b.base, .slice L5 n5 c5, .int .i64 z5.b.orders.page, .int .i64 z5.b.orders.head, .int .i64 z5.b.orders.tail, .bool z5.b.stopped, .int .i64 z5.b.fences, .int .i64 z5.b.faults.page, .int .i64 z5.b.faults.head, .int .i64 z5.b.faults.tail, .bool z5.b.lost] rfl rfl HM7.out Try.sizeMach rfl rfl ?_; intro w8 h8 t8))
              go_upto_region 13 with (refine wpList_store_cell rfl 3 (.tmp 59) (.const (.int .i64 0)) rfl w.heap.size 4 _ _ #[.slice M5 nm5 mc5, .int .i64 z5.h.at_, .slice R5 nr5 rc5, .bool z5.h.done, .int .i64 0, .int .i64 z5.b.base, .slice L5 n5 c5, .int .i64 z5.b.orders.page, .int .i64 z5.b.orders.head, .int .i64 z5.b.orders.tail, .bool z5.b.stopped, .int .i64 z5.b.fences, .int .i64 z5.b.faults.page, .int .i64 z5.b.faults.head, .int .i64 z5.b.faults.tail, .bool z5.b.lost] (.int .i64 0) rfl rfl h8 Try.sizeInt (of_decide_eq_true rfl) rfl rfl ?_; intro w9 h9 t9)
              go_wp2
              have hw8 := t8.2
              have hw9 := t9.2
              go_roundw
              case rel =>
                refine ⟨k + 1, offM z5, M5, nm5, mc5, R5, nr5, rc5, L5, n5, c5, by omega, by go_num, ⟨by first | exact Or.inl rfl | exact Or.inr rfl, by first | exact Or.inl rfl | exact Or.inr rfl⟩, ?_⟩
                refine ⟨h9, ?_, ?_, by omega, rfl, ckM_mode HN0.out⟩
                · exact ((MachV.trn (x := offM z5) (MachV.trn (x := offM z5) (machV_off (MachV.av MV7.out (Av' := fun q => q ≠ w.heap.size) (fun q hq => by omega))) t8 (fun hq => hq rfl)) t9 (fun hq => hq rfl)))
                · exact below_trn (below_trn (HB.out.trans (HS7.out.mono (by omega))) (by omega) t8 (Nat.le_refl _)) (by omega) t9 (Nat.le_refl _)
              case measure => simp [intOf]; omega
        · have t0 : (E != 0) = true := by rw [bne_iff_ne]; exact hE
          clear hE
          go_wp2_with (first
            | (refine wpList_store_all rfl 39 (.tmp 7) (.tmp 34) rfl (w5.heap.size) _ _ #[.slice M5 nm5 mc5, .int .i64 z5.h.at_, .slice R5 nr5 rc5, .bool z5.h.done, .int .i64 z5.b.mode, .int .i64 z5.b.base, .slice L5 n5 c5, .int .i64 z5.b.orders.page, .int .i64 z5.b.orders.head, .int .i64 z5.b.orders.tail, .bool z5.b.stopped, .int .i64 z5.b.fences, .int .i64 z5.b.faults.page, .int .i64 z5.b.faults.head, .int .i64 z5.b.faults.tail, .bool z5.b.lost] rfl rfl (whl_alloc (whl_new w5 _ _ rfl) _) Try.sizeMach rfl rfl ?_; intro w6 h6 t6)
            | (refine wpList_store_all rfl 65 (.tmp 8) (.tmp 35) rfl (w5.heap.size + 1) _ _ #[.bool t.done, .slice D5 dn5 dc5, .int .i64 t.fault, .slice T5 tn5 tc5] rfl rfl (whl_trn (whl_new (w5.alloc _) _ _ (by simp)) t6 (Nat.succ_ne_self _)) Try.sizeTold rfl rfl ?_; intro w7 h7 t7))
          have hw6 := t6.2
          have hw7 := t7.2
          (try simp only [World.size_alloc] at hw6)
          have hz7a : w7.heap.size ≤ w5.heap.size + 1 + 1 := by omega
          have hz7b : w5.heap.size + 1 + 1 ≤ w7.heap.size := by omega
          have C7 := Lib.hid (chg_trans (chg_mono (Q := fun q => w5.heap.size ≤ q) t6.1 (fun q _ e => by omega)) (chg_mono t7.1 (fun q _ e => by omega)))
          have HS7 := Lib.hid (show Below wr.heap.size wr w7 from below_chg ((HS5.out.alloc (by omega) _).alloc (by simp; omega) _) (by simp; omega) C7.out (fun q hq e => by omega))
          have hB5 : Below w5.heap.size w5 w7 := below_chg (((Below.refl w5.heap.size w5).alloc (Nat.le_refl _) _).alloc (by simp) _) (by simp; omega) C7.out (fun q hq e => by omega)
          have MV7 := Lib.hid (MachV.av (x := z5) (HV5.out.since hB5) (Av' := fun q => wr.heap.size + 1 ≤ q) (fun q hq => by simp only [World.size_alloc] at hq; exact hq))
          have H67 := Lib.hid (whl_since HH5.out hB5)
          have H77 := Lib.hid (whl_trn h6 t7 (Nat.ne_of_lt (Nat.lt_succ_self _)))
          have HM7 := Lib.hid (whl_since HM.out HS7.out)
          have H6 := Lib.hid h6
          have H7 := Lib.hid h7
          have T7 := Lib.hid t7
          clear h6 h7 t6 t7 hw6 hw7 hB5
          go_roundw
          case rel => exact ⟨k + 1, z, M, nm, mc, R, nr, rc, L, n, c, by omega, by go_num, HU.out, ⟨whl_since HM.out HS7.out, HV.out.since HS7.out, HB.out.trans (HS7.out.mono (by omega)), by omega, HZ5.out, HZ6.out⟩⟩
          case measure => simp [intOf]; omega
end
end Go.Proofs.Ytbopdijnojaaiac
