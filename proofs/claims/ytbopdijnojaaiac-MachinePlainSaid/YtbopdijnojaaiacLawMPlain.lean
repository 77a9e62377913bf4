/- The walk of the law MachinePlain: with nothing remembered all is as memory says. The row is in another text. -/
import Derived.Test.YtbopdijnojaaiacDriven
import Derived.Test.YtbopdijnojaaiacMachQ
import Derived.Test.YtbopdijnojaaiacShort
import Derived.Test.YtbopdijnojaaiacOpenC
namespace Go.Proofs.Ytbopdijnojaaiac
open Go.RowKit
set_option linter.unusedSimpArgs false
set_option linter.unusedVariables false
attribute [local go_sem ↓] Go.wp_at_zero Go.wp_at_succ
theorem slice_hiP (A : Option Addr) (n c k : Nat) (hk : k ≤ c) (hc : n ≤ c) :
    ∀ w, (Instr.slice 93 (.slice A n c) none (some (.int .i64 (k : Int))) none).run Try.prog w = .ok (.slice A k c) w := by
  intro w
  have h1 : (0 : Int) ≤ (k : Int) := by omega
  have h2 : (k : Int) ≤ (c : Int) := by omega
  simp [go_sem, h1, h2]
def bareM (x : Mch) : Mch := ⟨x.m, x.h, { x.b with cache := [] }⟩
theorem machV_bare {w : World} {Av : Nat → Prop} {x : Mch} {M R L : Option Addr} {nm nr n c : Nat} (h : MachV w Av x M nm R nr L n c) : MachV w Av (bareM x) M nm R nr none 0 0 := ⟨h.hm, h.hr, lines_none _ _, h.am, h.ar, fun h => absurd h (by decide)⟩
theorem short_len (a : Ask) : (shortA a).data.length ≤ a.data.length := by
  unfold shortA
  split
  · exact Nat.le_refl _
  · simp only []
    split
    · rw [List.length_take]; omega
    · exact Nat.le_refl _
theorem tchE_invP {x : Tch} (h : tchE x = 0) : tchR x := by
  by_cases h1 : tchR x
  · exact h1
  · unfold tchE at h; rw [if_neg h1] at h; cases h
theorem hapsC_now {w W : World} {A : Option Addr} {n c : Nat} {hs : List Hap} (hc : HapsC w A n) (h : Haps w w.heap.size A n c hs) (hb : Below w.heap.size w W) : HapsC W A n := by
  intro b off e k hk D nd cd hcell
  obtain ⟨b', off', e', hlt, _⟩ := h.at_ (by omega)
  rw [e] at e'
  injection e' with e'
  injection e' with e1 e2 _
  subst e1 e2
  exact hc b off e k hk D nd cd ((hb.cell (p := ⟨b, off + k * 7 + 6, none⟩) hlt).symm.trans hcell)
/-- how it stands ahead of a happening. -/
def PlainI (w : World) (M : Option Addr) (nm mc : Nat) (R : Option Addr) (nr rc : Nat) (z : Mch) (W : World) : Prop :=
  Whl W w.heap.size 39 #[.slice M nm mc, .int .i64 z.h.at_, .slice R nr rc, .bool z.h.done, .int .i64 z.b.mode, .int .i64 z.b.base, .slice none 0 0, .int .i64 z.b.orders.page, .int .i64 z.b.orders.head, .int .i64 z.b.orders.tail, .bool z.b.stopped, .int .i64 z.b.fences, .int .i64 z.b.faults.page, .int .i64 z.b.faults.head, .int .i64 z.b.faults.tail, .bool z.b.lost] ∧ MachV W (fun q => q ≠ w.heap.size) z M nm R nr none 0 0 ∧ Below w.heap.size w W ∧ w.heap.size < W.heap.size ∧ z.b.cache = [] ∧ ckM z = 0
section
variable (x : Mch) (hs : List Hap) (M R L HA : Option Addr) (hn hc : Nat) (w : World)
set_option maxRecDepth 100000 in
set_option maxHeartbeats 2500000 in
theorem law_MachinePlain (nm mc nr rc n c : Nat) (hm : Ints w w.heap.size M nm x.m) (hr : Ints w w.heap.size R nr x.h.regs) (hl : Lines w w.heap.size L n c x.b.cache) (hh : Haps w w.heap.size HA hn hc hs) (hhc : HapsC w HA hn) :
    Calls Try.prog 14 #[.agg #[.slice M nm mc, .int .i64 x.h.at_, .slice R nr rc, .bool x.h.done, .int .i64 x.b.mode, .int .i64 x.b.base, .slice L n c, .int .i64 x.b.orders.page, .int .i64 x.b.orders.head, .int .i64 x.b.orders.tail, .bool x.b.stopped, .int .i64 x.b.fences, .int .i64 x.b.faults.page, .int .i64 x.b.faults.head, .int .i64 x.b.faults.tail, .bool x.b.lost], .slice HA hn hc] w fun e w' => e = .returned (.bool true) ∧ Below w.heap.size w w' := by
  have HMV := Lib.hid (machV_arg hm hr hl)
  have HH := Lib.hid hh
  have HHC := Lib.hid hhc
  have hcap := hh.cap
  have HHL := Lib.hid hh.len
  clear hm hr hl hh hhc
  go_enter Try.func14, Try.ntmps14
  go_upto_region 1 with (fail)
  generalize hw0 : w.alloc (.cells #[.slice M nm mc, .int .i64 x.h.at_, .slice R nr rc, .bool x.h.done, .int .i64 x.b.mode, .int .i64 x.b.base, .slice L n c, .int .i64 x.b.orders.page, .int .i64 x.b.orders.head, .int .i64 x.b.orders.tail, .bool x.b.stopped, .int .i64 x.b.fences, .int .i64 x.b.faults.page, .int .i64 x.b.faults.head, .int .i64 x.b.faults.tail, .bool x.b.lost] 39) = w0
  have H0 := Lib.hid (show Whl w0 w.heap.size 39 #[.slice M nm mc, .int .i64 x.h.at_, .slice R nr rc, .bool x.h.done, .int .i64 x.b.mode, .int .i64 x.b.base, .slice L n c, .int .i64 x.b.orders.page, .int .i64 x.b.orders.head, .int .i64 x.b.orders.tail, .bool x.b.stopped, .int .i64 x.b.fences, .int .i64 x.b.faults.page, .int .i64 x.b.faults.head, .int .i64 x.b.faults.tail, .bool x.b.lost] by rw [← hw0]; exact whl_new _ _ _ rfl)
  have HW0 := Lib.hid (show Below w.heap.size w w0 by rw [← hw0]; (repeat (first | (with_reducible exact Below.refl _ _) | (with_reducible refine Below.drew ?_) | (with_reducible refine bdrewN ?_ _) | ((with_reducible refine Below.setCell ?_ ?_ _); rotate_left; exact (by first | (simp; done) | (simp; omega) | omega)) | ((with_reducible refine Below.alloc ?_ ?_ _); rotate_left; exact (by first | (simp; done) | (simp; omega) | omega)))))
  have hz0a : w0.heap.size ≤ w.heap.size + 1 := by rw [← hw0]; simp
  have hz0b : w.heap.size + 1 ≤ w0.heap.size := by rw [← hw0]; simp
  clear hw0
  go_upto_region 2 with (refine wpList_store_cell rfl 33 (.tmp 16) (.const (.slice none 0 0)) rfl w.heap.size 6 _ _ #[.slice M nm mc, .int .i64 x.h.at_, .slice R nr rc, .bool x.h.done, .int .i64 x.b.mode, .int .i64 x.b.base, .slice none 0 0, .int .i64 x.b.orders.page, .int .i64 x.b.orders.head, .int .i64 x.b.orders.tail, .bool x.b.stopped, .int .i64 x.b.fences, .int .i64 x.b.faults.page, .int .i64 x.b.faults.head, .int .i64 x.b.faults.tail, .bool x.b.lost] (.slice none 0 0) rfl rfl H0.out Try.sizeLines (of_decide_eq_true rfl) rfl rfl ?_; intro w1 h1 t1)
  have HB1 := Lib.hid (below_trn HW0.out (by omega) t1 (Nat.le_refl _))
  have hz1a : w.heap.size < w1.heap.size := by have := t1.2; omega
  have HS1 := Lib.hid h1
  have HV1 := Lib.hid (show MachV w1 (fun q => q ≠ w.heap.size) (bareM x) M nm R nr none 0 0 from (MachV.trn (x := bareM x) ((machV_bare (MachV.av HMV.out (Av' := fun q => q ≠ w.heap.size) (fun q hq => by omega))).since HW0.out) t1 (fun hq => hq rfl)))
  clear h1 t1 H0 HW0 hz0a hz0b HMV
  go_wp2_with fail
  refine (law_driven _).mono ?_
  rintro e w2 ⟨rfl, hb2⟩
  have HB2 := Lib.hid (HB1.out.trans (hb2.mono (by omega)))
  have HS2 := Lib.hid (whl_since HS1.out hb2)
  have HV2 := Lib.hid (HV1.out.since hb2)
  have hz2a : w.heap.size < w2.heap.size := by have := hb2.size; omega
  clear hb2 HB1 HS1 HV1
  have k2 := fun o => whl_cell HS2.out o
  go_wp2_with fail
  clear k2
  refine (machine_Check (bareM x) M R none nm mc nr rc 0 0 _ HV2.out.hm HV2.out.hr HV2.out.hl).mono ?_
  rintro e w3 ⟨rfl, hb3⟩
  have HB3 := Lib.hid (HB2.out.trans (hb3.mono (by omega)))
  have HS3 := Lib.hid (whl_since HS2.out hb3)
  have HV3 := Lib.hid (HV2.out.since hb3)
  have hz3a : w.heap.size < w3.heap.size := by have := hb3.size; omega
  clear hb3 HB2 HS2 HV2 hz2a hz1a
  by_cases h0 : ckM (bareM x) = 0
  rotate_left
  · have t0 : (ckM (bareM x) != 0) = true := by rw [bne_iff_ne]; exact h0
    clear h0
    go_wp2_with fail
    refine (law_driven _).mono ?_
    rintro e w4 ⟨rfl, hb4⟩
    have HB4 := Lib.hid (HB3.out.trans (hb4.mono (by omega)))
    clear hb4
    go_wp2
    go_ret
    exact ⟨rfl, HB4.out⟩
  · have t0 : (ckM (bareM x) != 0) = false := by rw [bne_eq_false_iff_eq]; exact h0
    have H0 := Lib.hid h0
    have J0 : Hid (PlainI w M nm mc R nr rc (bareM x) w3) := Lib.hid ⟨HS3.out, HV3.out, HB3.out, hz3a, rfl, h0⟩
    obtain ⟨nn, hnn⟩ : ∃ nn, nn = min hn 60 := ⟨_, rfl⟩
    have hmin : min (hn : Int) 60 = (nn : Int) := by omega
    have hsl := slice_hiP HA hn hc nn (by omega) (by omega)
    have hnl : nn ≤ hn := by omega
    have HNN := Lib.hid hnn
    clear h0 hnn HS3 HV3 HB3
    go_upto_region 4 with (fail)
    go_cut [29, 30, 31] (fun s29 s30 s31 wd => s29 = .slice HA nn hc ∧ s30 = .int .i64 nn ∧ s31 = .int .i64 0 ∧ wd = w3)
    case first =>
      rcases Nat.lt_or_ge 60 hn with hm | hm
      · have q1 : ¬ ((hn : Int) ≤ 60) := by omega
        have q2 : (60 : Int) = (nn : Int) := by have := HNN.out; omega
        have q3 := hsl
        rw [← q2] at q3
        have hn12 : nn = 60 := by have := HNN.out; omega
        have HN12 := Lib.hid hn12
        clear hmin hsl q2 hn12 hnl
        go_wp2
        go_meet
        exact ⟨by rw [HN12.out], by rw [HN12.out], rfl, rfl⟩
      · have q1 : (hn : Int) ≤ 60 := by omega
        have hn12 : nn = hn := by have := HNN.out; omega
        have HN12 := Lib.hid hn12
        rw [hn12] at hsl
        clear hmin hn12 hnl
        go_wp2
        go_meet
        exact ⟨by rw [HN12.out], by rw [HN12.out], rfl, rfl⟩
    case rest =>
      obtain ⟨rfl, rfl, rfl, rfl⟩ := hcut
      clear hmin hsl t0
      go_wp2
      go_loopw [31] (fun s31 wr => ∃ (k : Nat) (z : Mch) (M : Option Addr) (nm mc : Nat) (R : Option Addr) (nr rc : Nat), k ≤ nn ∧ s31 = .int .i64 k ∧ Hid (PlainI w M nm mc R nr rc z wr)) (fun s31 _ => nn - (intOf s31).toNat)
      case atStart => exact ⟨0, bareM x, M, nm, mc, R, nr, rc, by omega, rfl, J0.out⟩
      case round =>
        clear J0 H0
        obtain ⟨wo, hwo⟩ : ∃ wo, wo = wr := ⟨_, rfl⟩
        subst hwo
        obtain ⟨k, z, M, nm, mc, R, nr, rc, hk, rfl, hI⟩ := hrel
        obtain ⟨i1, i2, i3, i4, i5, i6⟩ := hI.out
        have HM := Lib.hid i1
        have HV := Lib.hid i2
        have HB := Lib.hid i3
        have HZ5 := Lib.hid i5
        have HZ6 := Lib.hid i6
        have hws := i4
        clear i1 i2 i3 i4 i5 i6 hI
        by_cases hlt : k < nn
        rotate_left
        · obtain rfl : k = nn := by omega
          have hh3 : ¬ ((k : Int) < (k : Int)) := by omega
          clear hlt
          go_wp2
          go_ret
          exact ⟨rfl, HB.out⟩
        obtain ⟨y, hyk⟩ := some_of_lt hs (k := k) (by rw [HHL.out]; omega)
        have HY := Lib.hid hyk
        have hhcn := hapsC_now HHC.out HH.out HB.out
        obtain ⟨b, off, rfl, hb, hcc⟩ := (haps_now HH.out HB.out).at_ (by omega)
        obtain ⟨HD0, nd, cd, hcs, hda⟩ := hcc k y hyk
        have hdc := hhcn b off rfl k (by omega) HD0 nd cd hcs.2.2.2.2.2.2
        have HRG := Lib.hid (hap_range hcs)
        have HDD := Lib.hid hda
        have HDC := Lib.hid hdc
        have q1 : (0 : Int) ≤ (k : Int) := by omega
        have q2 : (k : Int) < (nn : Int) := by omega
        clear hcc hcs hda hyk hhcn hdc
        go_upto_region 7 with (first
          | (refine wpList_load_mid rfl 95 (.tmp 33) rfl b (off + k * 7) (by rfl) _ _ HRG.out Try.underlying95 rfl Try.sizeHap ?_)
          | (refine wpList_store_new rfl 95 (.tmp 6) (.tmp 34) rfl _ _ _ _ rfl rfl (by rfl) (by rfl) Try.sizeHap rfl (by rfl) ?_))
        generalize hwb : wo.alloc (.cells #[.int .i64 y.kind, .int .i64 y.n, .int .i64 y.a.dev, .int .i64 y.a.at_, .int .i64 y.a.count, .bool y.a.wr, .slice HD0 nd cd] 95) = w4
        have HA4 := Lib.hid (show Whl w4 wo.heap.size 95 #[.int .i64 y.kind, .int .i64 y.n, .int .i64 y.a.dev, .int .i64 y.a.at_, .int .i64 y.a.count, .bool y.a.wr, .slice HD0 nd cd] by rw [← hwb]; exact whl_new _ _ _ rfl)
        have hb4 : Below wo.heap.size wo w4 := by rw [← hwb]; exact below_alloc _ _
        have hz4a : w4.heap.size ≤ wo.heap.size + 1 := by rw [← hwb]; simp
        have hz4b : wo.heap.size + 1 ≤ w4.heap.size := by rw [← hwb]; simp
        have HBR := Lib.hid hb4
        have HD4 := Lib.hid (ints_now HDD.out hb4)
        clear hwb hb4
        go_wp2_with (first | (refine wpList_load_part rfl 62 (.tmp 35) rfl (wo.heap.size) 2 _ _ [.int .i64 y.a.dev, .int .i64 y.a.at_, .int .i64 y.a.count, .bool y.a.wr, .slice HD0 nd cd] rfl HA4.out rfl _ Try.underlying62 rfl Try.sizeAsk ?_))
        refine (law_short y.a HD0 nd cd _ HD4.out HDC.out).mono ?_
        rintro e w5 ⟨kd, dd, rfl, hi5, hc5, hb5⟩
        have HI5 := Lib.hid hi5
        have HA5 := Lib.hid (whl_since HA4.out hb5)
        replace HBR := Lib.hid (HBR.out.trans (hb5.mono HBR.out.size))
        have hz5 := hb5.size
        have HRI : Hid (RowIn (fun q => q < wo.heap.size) HD0 kd) := Lib.hid (fun h0 ad e => rowIn_ints HDD.out (by have h1 := hi5.1; have h2 := HDD.out.1; have h3 := short_len y.a; omega) ad e)
        clear hi5 hc5 hb5 HA4 HD4 HDC HDD HRG
        go_upto_region 8 with (refine wpList_store_part rfl 62 (.tmp 38) (.tmp 37) rfl (wo.heap.size) 2 _ _ #[.int .i64 (shortA y.a).dev, .int .i64 (shortA y.a).at_, .int .i64 (shortA y.a).count, .bool (shortA y.a).wr, .slice HD0 kd dd] #[.int .i64 y.kind, .int .i64 y.n, .int .i64 (shortA y.a).dev, .int .i64 (shortA y.a).at_, .int .i64 (shortA y.a).count, .bool (shortA y.a).wr, .slice HD0 kd dd] rfl rfl HA5.out Try.sizeAsk (by kernel_rfl) rfl (by kernel_rfl) ?_; intro w6 h6 t6)
        have hz6 := t6.2
        have hz6a : w6.heap.size ≤ w5.heap.size := Nat.le_of_eq hz6
        have hz6b : w5.heap.size ≤ w6.heap.size := Nat.le_of_eq hz6.symm
        have HA6 := Lib.hid h6
        replace HBR := Lib.hid (below_trn HBR.out HBR.out.size t6 (Nat.le_refl _))
        have HI6 := Lib.hid (chg_ints0 HI5.out t6.1 HRI.out (fun q e hq => by omega))
        clear h6 t6 hz6 HA5 HI5 HRI
        obtain ⟨⟨z5, t⟩, hDA⟩ : ∃ r, doA z (⟨y.kind, y.n, shortA y.a⟩ : Hap) = r := ⟨_, rfl⟩
        obtain ⟨E, hDE⟩ : ∃ E, doE z (⟨y.kind, y.n, shortA y.a⟩ : Hap) = E := ⟨_, rfl⟩
        have HDA := Lib.hid hDA
        have HDE := Lib.hid hDE
        replace HM := Lib.hid (whl_since HM.out HBR.out)
        have VO := Lib.hid (HV.out.since HBR.out)
        clear hDA hDE HV
        go_wp2_with (first | (refine wpList_load_whl rfl 39 (.tmp 2) rfl (w.heap.size) _ _ rfl HM.out _ Try.underlying39 rfl Try.sizeMach ?_) | (refine wpList_load_whl rfl 95 (.tmp 6) rfl (wo.heap.size) _ _ rfl HA6.out _ Try.underlying95 rfl Try.sizeHap ?_))
        refine (mdo_ans z (⟨y.kind, y.n, shortA y.a⟩ : Hap) M R none HD0 kd dd _ nm mc nr rc 0 0 VO.out.hm VO.out.hr VO.out.hl HI6.out (z5, t) E HDA.out HDE.out).mono ?_
        rintro e w7 ⟨M5, nm5, mc5, R5, nr5, rc5, L5, n5, c5, D5, dn5, dc5, T5, tn5, tc5, rfl, hv5, ht5, hb⟩
        have VZ := Lib.hid (hv5.av (Av' := fun q => wo.heap.size < q) (fun q hq => by omega))
        have VT := Lib.hid ht5
        replace HA6 := Lib.hid (whl_since HA6.out hb)
        replace HM := Lib.hid (whl_since HM.out hb)
        replace VO := Lib.hid (VO.out.since hb)
        replace HBR := Lib.hid (HBR.out.trans (hb.mono HBR.out.size))
        have hz7 := hb.size
        clear hb hv5 ht5 HI6
        go_upto_region 9 with (first
          | (refine wpList_store_all rfl 39 (.tmp 7) (.tmp 43) rfl (w7.heap.size) _ _ #[.slice M5 nm5 mc5, .int .i64 z5.h.at_, .slice R5 nr5 rc5, .bool z5.h.done, .int .i64 z5.b.mode, .int .i64 z5.b.base, .slice L5 n5 c5, .int .i64 z5.b.orders.page, .int .i64 z5.b.orders.head, .int .i64 z5.b.orders.tail, .bool z5.b.stopped, .int .i64 z5.b.fences, .int .i64 z5.b.faults.page, .int .i64 z5.b.faults.head, .int .i64 z5.b.faults.tail, .bool z5.b.lost] rfl rfl (whl_alloc (whl_new w7 _ _ rfl) _) Try.sizeMach rfl rfl ?_; intro w8 h8 t8)
          | (refine wpList_store_all rfl 65 (.tmp 8) (.tmp 44) rfl (w7.heap.size + 1) _ _ #[.bool t.done, .slice D5 dn5 dc5, .int .i64 t.fault, .slice T5 tn5 tc5] rfl rfl (whl_trn (whl_new (w7.alloc _) _ _ (by simp)) t8 (Nat.succ_ne_self _)) Try.sizeTold rfl rfl ?_; intro w9 h9 t9))
        have hw8 := t8.2
        have hw9 := t9.2
        (try simp only [World.size_alloc] at hw8)
        have hz9a : w9.heap.size ≤ w7.heap.size + 2 := by omega
        have hz9b : w7.heap.size + 2 ≤ w9.heap.size := by omega
        have C9 := chg_trans (chg_mono (Q := fun q => w7.heap.size ≤ q) t8.1 (fun q _ e => by omega)) (chg_mono t9.1 (fun q _ e => by omega))
        have hb : Below w7.heap.size w7 w9 := below_chg (((Below.refl w7.heap.size w7).alloc (Nat.le_refl _) _).alloc (by simp) _) (by simp; omega) C9 (fun q hq e => by omega)
        have H8 := Lib.hid (whl_trn h8 t9 (Nat.ne_of_lt (Nat.lt_succ_self _)))
        have H9 := Lib.hid h9
        replace HA6 := Lib.hid (whl_since HA6.out hb)
        replace HM := Lib.hid (whl_since HM.out hb)
        replace VO := Lib.hid (VO.out.since hb)
        replace VZ := Lib.hid (VZ.out.since hb)
        replace VT := Lib.hid (VT.out.since hb)
        replace HBR := Lib.hid (HBR.out.trans (hb.mono HBR.out.size))
        clear hb C9 t8 t9 h8 h9 hw8 hw9
        by_cases hE : E = 0
        rotate_left
        · have t0 : (E != 0) = true := by rw [bne_iff_ne]; exact hE
          clear hE
          go_wp2
          go_roundw
          case rel => exact ⟨k + 1, z, M, nm, mc, R, nr, rc, by omega, by go_num, ⟨HM.out, VO.out, HB.out.trans (HBR.out.mono (by omega)), by omega, HZ5.out, HZ6.out⟩⟩
          case measure => simp [intOf]; omega
        have t0 : (E != 0) = false := by rw [bne_eq_false_iff_eq]; exact hE
        have HE := Lib.hid (show doE z (⟨y.kind, y.n, shortA y.a⟩ : Hap) = 0 by rw [HDE.out]; exact hE)
        clear hE
        have HN0 := Lib.hid (show ckM z5 = 0 by have := do_ck (x := z) (y := (⟨y.kind, y.n, shortA y.a⟩ : Hap)) HE.out; rw [HDA.out] at this; exact this)
        by_cases hk3 : y.kind = 3
        rotate_left
        · have t3 : (y.kind == 3) = false := beq_eq_false_iff_ne.2 hk3
          clear hk3
          have fa : w9.cell? ⟨wo.heap.size, 0, none⟩ = some (.int .i64 y.kind) := whl_cell HA6.out 0
          go_wp2_with (first | (refine wpList_load_whl rfl 39 (.tmp 7) rfl (w7.heap.size) _ _ rfl H8.out _ Try.underlying39 rfl Try.sizeMach ?_) | (refine wpList_store_all rfl 39 (.tmp 2) (.tmp 91) rfl (w.heap.size) _ _ #[.slice M5 nm5 mc5, .int .i64 z5.h.at_, .slice R5 nr5 rc5, .bool z5.h.done, .int .i64 z5.b.mode, .int .i64 z5.b.base, .slice L5 n5 c5, .int .i64 z5.b.orders.page, .int .i64 z5.b.orders.head, .int .i64 z5.b.orders.tail, .bool z5.b.stopped, .int .i64 z5.b.fences, .int .i64 z5.b.faults.page, .int .i64 z5.b.faults.head, .int .i64 z5.b.faults.tail, .bool z5.b.lost] rfl rfl HM.out Try.sizeMach rfl rfl ?_; intro w11 h11 t11) | (refine wpList_store_cell rfl 33 (.tmp 93) (.const (.slice none 0 0)) rfl w.heap.size 6 _ _ #[.slice M5 nm5 mc5, .int .i64 z5.h.at_, .slice R5 nr5 rc5, .bool z5.h.done, .int .i64 z5.b.mode, .int .i64 z5.b.base, .slice none 0 0, .int .i64 z5.b.orders.page, .int .i64 z5.b.orders.head, .int .i64 z5.b.orders.tail, .bool z5.b.stopped, .int .i64 z5.b.fences, .int .i64 z5.b.faults.page, .int .i64 z5.b.faults.head, .int .i64 z5.b.faults.tail, .bool z5.b.lost] (.slice none 0 0) rfl rfl h11 Try.sizeLines (of_decide_eq_true rfl) rfl rfl ?_; intro w12 h12 t12))
          have hw10 := t11.2
          have hw11 := t12.2
          go_roundw
          case rel =>
            refine ⟨k + 1, bareM z5, M5, nm5, mc5, R5, nr5, rc5, by omega, by go_num, h12, ?_, ?_, by omega, rfl, ckM_bare HN0.out⟩
            · exact ((MachV.trn (x := bareM z5) (MachV.trn (x := bareM z5) (machV_bare (MachV.av VZ.out (Av' := fun q => q ≠ w.heap.size) (fun q hq => by omega))) t11 (fun hq => hq rfl)) t12 (fun hq => hq rfl)))
            · exact below_trn (below_trn (HB.out.trans (HBR.out.mono (by omega))) (by omega) t11 (Nat.le_refl _)) (by omega) t12 (Nat.le_refl _)
          case measure => simp [intOf]; omega
        obtain ⟨p1, p2, p3⟩ := plain_law (x := z) (y := (⟨y.kind, y.n, shortA y.a⟩ : Hap)) HE.out hk3 (short_page (do_3 HE.out hk3).1)
        obtain ⟨rb, ra, rf, hth⟩ : ∃ rb ra rf, thruM z.m z.b (shortA y.a).dev ((shortA y.a).at_ / 8) (shortA y.a).wr = (rb, ra, rf) := ⟨_, _, _, rfl⟩
        have qa : 0 ≤ (shortA y.a).at_ := by have := (reqE_inv (do_3 HE.out hk3).1).2.1; unfold reqR at this; simp only [] at this; omega
        have qa2 : (shortA y.a).at_ ≤ 511 := by have := (reqE_inv (do_3 HE.out hk3).1).2.1; have h1 := (reqE_inv (do_3 HE.out hk3).1).1; unfold reqR at this; simp only [] at this h1; omega
        have eb : ({ z.b with cache := [] } : Brg) = z.b := by rw [← HZ5.out]
        have HP2 := Lib.hid (show t.fault = rf by have := p2; rw [HDA.out] at this; rw [this]; show (thruM z.m z.b (shortA y.a).dev ((shortA y.a).at_ / 8) (shortA y.a).wr).2.2 = rf; rw [hth])
        have HP3 := Lib.hid (show ∀ u ∈ t.touched, u.at_ / 8 = ra ∧ tchE u = 0 by
          intro u hu
          have := p3 u (by rw [HDA.out]; exact hu)
          refine ⟨this.1.trans ?_, this.2.2.2.2.2⟩
          show (thruM z.m z.b (shortA y.a).dev ((shortA y.a).at_ / 8) (shortA y.a).wr).2.1 = ra
          rw [hth])
        have HPE := Lib.hid (show thruE z.m ({ z.b with cache := [] } : Brg) (shortA y.a).dev ((shortA y.a).at_ / 8) = 0 by rw [eb]; exact p1)
        have HPA := Lib.hid (show thruA z.m ({ z.b with cache := [] } : Brg) (shortA y.a).dev ((shortA y.a).at_ / 8) (shortA y.a).wr = (rb, ra, rf) by unfold thruA; rw [HPE.out, if_pos rfl, eb]; exact hth)
        have HK := Lib.hid hk3
        clear p1 p2 p3 hth eb hk3
        have fa : w9.cell? ⟨wo.heap.size, 0, none⟩ = some (.int .i64 3) := (whl_cell HA6.out 0).trans (by show some (Value.int .i64 y.kind) = _; rw [HK.out])
        have fb : w9.cell? ⟨wo.heap.size, 2, none⟩ = some (.int .i64 (shortA y.a).dev) := whl_cell HA6.out 2
        have fc : w9.cell? ⟨wo.heap.size, 3, none⟩ = some (.int .i64 (shortA y.a).at_) := whl_cell HA6.out 3
        have fd : w9.cell? ⟨wo.heap.size, 5, none⟩ = some (.bool (shortA y.a).wr) := whl_cell HA6.out 5
        have fe : w9.cell? ⟨w.heap.size, 0, none⟩ = some (.slice M nm mc) := whl_cell HM.out 0
        go_wp2_with (refine wpList_load_part rfl 37 (.tmp 54) rfl (w.heap.size) 4 _ _ [.int .i64 z.b.mode, .int .i64 z.b.base, .slice none 0 0, .int .i64 z.b.orders.page, .int .i64 z.b.orders.head, .int .i64 z.b.orders.tail, .bool z.b.stopped, .int .i64 z.b.fences, .int .i64 z.b.faults.page, .int .i64 z.b.faults.head, .int .i64 z.b.faults.tail, .bool z.b.lost] rfl HM.out rfl _ Try.underlying37 rfl Try.sizeBrg ?_)
        refine (bridge_Plain z.m M nm mc z.b none 0 0 (shortA y.a).dev ((shortA y.a).at_ / 8) (shortA y.a).wr rb ra rf 0 _ VO.out.hm HPA.out HPE.out).mono ?_
        clear fa fb fc fd fe
        rintro e w10 ⟨rfl, hb⟩
        replace HA6 := Lib.hid (whl_since HA6.out hb)
        replace HM := Lib.hid (whl_since HM.out hb)
        replace VO := Lib.hid (VO.out.since hb)
        replace VZ := Lib.hid (VZ.out.since hb)
        replace VT := Lib.hid (VT.out.since hb)
        replace HBR := Lib.hid (HBR.out.trans (hb.mono HBR.out.size))
        replace H8 := Lib.hid (whl_since H8.out hb)
        replace H9 := Lib.hid (whl_since H9.out hb)
        have hz10 := hb.size
        clear hb
        have f2 : w10.cell? ⟨w7.heap.size + 1, 2, none⟩ = some (.int .i64 rf) := (whl_cell H9.out 2).trans (by show some (Value.int .i64 t.fault) = _; rw [HP2.out])
        have f3 : w10.cell? ⟨w7.heap.size + 1, 3, none⟩ = some (.slice T5 tn5 tc5) := whl_cell H9.out 3
        have hcapt := VT.out.ht.cap
        have HTL := Lib.hid VT.out.ht.len
        go_upto_region 15 with (fail)
        clear f2 f3
        go_loopw [81] (fun s81 wi => ∃ j : Nat, j ≤ tn5 ∧ s81 = .int .i64 j ∧ Hid (Below w10.heap.size w10 wi)) (fun s81 _ => tn5 - (intOf s81).toNat)
        case atStart => exact ⟨0, by omega, rfl, Below.refl _ _⟩
        case round =>
          obtain ⟨j, hj, rfl, hbj⟩ := hrel
          have HBJ := Lib.hid hbj.out
          clear hbj
          by_cases hjl : j < tn5
          · obtain ⟨u, huj⟩ := some_of_lt t.touched (k := j) (by rw [HTL.out]; exact hjl)
            obtain ⟨b2, off2, rfl, hb2, hcc⟩ := (tchs_now VT.out.ht HBJ.out).at_ (by omega)
            obtain ⟨e0, e1, e2, e3, e4⟩ := hcc j u huj
            obtain ⟨u1, u2⟩ := HP3.out u (List.mem_of_getElem? huj)
            have u3 : 0 ≤ u.at_ := by have := tchE_invP u2; unfold tchR at this; omega
            have u5 : u.at_ ≤ 511 := by have := tchE_invP u2; unfold tchR at this; omega
            have u4 : (u.at_ / 8 != ra) = false := by rw [bne_eq_false_iff_eq]; exact u1
            have r1 : (0 : Int) ≤ (j : Int) := by omega
            have r2 : (j : Int) < (tn5 : Int) := by omega
            have HU := Lib.hid huj
            clear hcc huj u1 u2
            go_wp2
            go_roundw
            case rel => exact ⟨j + 1, by omega, by go_num, HBJ.out.alloc (HBJ.out.size) _⟩
            case measure => simp [intOf]; omega
          · obtain rfl : j = tn5 := by omega
            have hh4 : ¬ ((j : Int) < (j : Int)) := by omega
            have hb := HBJ.out
            have hzj := hb.size
            replace HA6 := Lib.hid (whl_since HA6.out hb)
            replace HM := Lib.hid (whl_since HM.out hb)
            replace VO := Lib.hid (VO.out.since hb)
            replace VZ := Lib.hid (VZ.out.since hb)
            replace VT := Lib.hid (VT.out.since hb)
            replace HBR := Lib.hid (HBR.out.trans (hb.mono HBR.out.size))
            replace H8 := Lib.hid (whl_since H8.out hb)
            replace H9 := Lib.hid (whl_since H9.out hb)
            clear hb
            go_wp2_with (first | (refine wpList_load_whl rfl 39 (.tmp 7) rfl (w7.heap.size) _ _ rfl H8.out _ Try.underlying39 rfl Try.sizeMach ?_) | (refine wpList_store_all rfl 39 (.tmp 2) (.tmp 91) rfl (w.heap.size) _ _ #[.slice M5 nm5 mc5, .int .i64 z5.h.at_, .slice R5 nr5 rc5, .bool z5.h.done, .int .i64 z5.b.mode, .int .i64 z5.b.base, .slice L5 n5 c5, .int .i64 z5.b.orders.page, .int .i64 z5.b.orders.head, .int .i64 z5.b.orders.tail, .bool z5.b.stopped, .int .i64 z5.b.fences, .int .i64 z5.b.faults.page, .int .i64 z5.b.faults.head, .int .i64 z5.b.faults.tail, .bool z5.b.lost] rfl rfl HM.out Try.sizeMach rfl rfl ?_; intro w11 h11 t11) | (refine wpList_store_cell rfl 33 (.tmp 93) (.const (.slice none 0 0)) rfl w.heap.size 6 _ _ #[.slice M5 nm5 mc5, .int .i64 z5.h.at_, .slice R5 nr5 rc5, .bool z5.h.done, .int .i64 z5.b.mode, .int .i64 z5.b.base, .slice none 0 0, .int .i64 z5.b.orders.page, .int .i64 z5.b.orders.head, .int .i64 z5.b.orders.tail, .bool z5.b.stopped, .int .i64 z5.b.fences, .int .i64 z5.b.faults.page, .int .i64 z5.b.faults.head, .int .i64 z5.b.faults.tail, .bool z5.b.lost] (.slice none 0 0) rfl rfl h11 Try.sizeLines (of_decide_eq_true rfl) rfl rfl ?_; intro w12 h12 t12))
            have hw10 := t11.2
            have hw11 := t12.2
            go_roundw
            case rel =>
              refine ⟨k + 1, bareM z5, M5, nm5, mc5, R5, nr5, rc5, by omega, by go_num, h12, ?_, ?_, by omega, rfl, ckM_bare HN0.out⟩
              · exact ((MachV.trn (x := bareM z5) (MachV.trn (x := bareM z5) (machV_bare (MachV.av VZ.out (Av' := fun q => q ≠ w.heap.size) (fun q hq => by omega))) t11 (fun hq => hq rfl)) t12 (fun hq => hq rfl)))
              · exact below_trn (below_trn (HB.out.trans (HBR.out.mono (by omega))) (by omega) t11 (Nat.le_refl _)) (by omega) t12 (Nat.le_refl _)
            case measure => simp [intOf]; omega
end
end Go.Proofs.Ytbopdijnojaaiac
