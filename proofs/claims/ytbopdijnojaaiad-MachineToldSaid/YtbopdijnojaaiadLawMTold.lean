/- The walk of the law MachineTold: what devices are told. The row is in another text. -/
import Derived.Test.YtbopdijnojaaiadDriven
import Derived.Test.YtbopdijnojaaiadMachQ
import Derived.Test.YtbopdijnojaaiadWord
import Derived.Test.YtbopdijnojaaiadBridgeS
namespace Go.Proofs.Ytbopdijnojaaiad
open Go.RowKit
set_option linter.unusedSimpArgs false
set_option linter.unusedVariables false
attribute [local go_sem ↓] Go.wp_at_zero Go.wp_at_succ
theorem Try.sizeRingT : (Try.prog.info? 29).map (·.size) = some 3 := by kernel_rfl
theorem slice_hiP (A : Option Addr) (n c k : Nat) (hk : k ≤ c) (hc : n ≤ c) :
    ∀ w, (Instr.slice 53 (.slice A n c) none (some (.int .i64 (k : Int))) none).run Try.prog w = .ok (.slice A k c) w := by
  intro w
  have h1 : (0 : Int) ≤ (k : Int) := by omega
  have h2 : (k : Int) ≤ (c : Int) := by omega
  simp [go_sem, h1, h2]
theorem Try.neqRingT (x y : Ring) (w : World) : (binOp .neq 29 (.agg #[.int .i64 x.page, .int .i64 x.head, .int .i64 x.tail]) (.agg #[.int .i64 y.page, .int .i64 y.head, .int .i64 y.tail])).run Try.prog w = .ok (.bool (!ringEq x y)) w := by
  unfold ringEq
  simp [go_sem]
  repeat' split
  all_goals simp_all
theorem ringEq_t (x y : Ring) : ringEq x y = decide (x = y) := by
  cases x; cases y; unfold ringEq; rw [Bool.eq_iff_iff]; simp [and_assoc]
theorem Try.neqFltT (a b c : Int) (d : Bool) (w : World) : (binOp .neq 55 (.agg #[.int .i64 a, .int .i64 b, .int .i64 c, .bool d]) (.agg #[.int .i64 a, .int .i64 b, .int .i64 c, .bool d])).run Try.prog w = .ok (.bool false) w := by
  simp [go_sem]
theorem rd_mapT {xs : List Int} {k : Int} (h0 : 0 ≤ k) (h : k < xs.length) : (xs.map (Value.int .i64))[k.toNat]? = some (.int .i64 (rd xs k)) := by
  rw [List.getElem?_map]
  unfold rd
  rw [List.getElem?_eq_getElem (by omega)]
  rfl
theorem dGo_lenT {a : Ask} : ∀ (n i : Nat) (s : Dst), s.touched.length ≤ i → (dGo a n i s).2.2.touched.length ≤ i + n := by
  intro n
  induction n with
  | zero => intro i s h; exact h
  | succ n ih =>
    intro i s h
    unfold dGo
    split
    · have := ih (i + 1) (dWord a i s) (by show (s.touched ++ [_]).length ≤ _; rw [List.length_append]; simp; omega); omega
    · split
      · have := ih (i + 1) (dWord a i (dNext a i s)) (by show (s.touched ++ [_]).length ≤ _; rw [List.length_append]; simp; omega); omega
      · show s.touched.length ≤ _; omega
theorem do_lenT {x : Mch} {y : Hap} (h : doE x y = 0) (hk : y.kind = 3) : (doA x y).2.touched.length ≤ 20 := by
  obtain ⟨h1, h2, h3, e⟩ := do_3 h hk
  rw [e]
  have hc := (reqE_inv h1).1
  have := dGo_lenT (a := y.a) y.a.count.toNat 0 ⟨x.m, x.b, [], [], 0, -1⟩ (Nat.le_refl _)
  have e2 : (dmaM x.m x.b y.a).2.2.touched.length ≤ 0 + y.a.count.toNat := this
  show (dmaM x.m x.b y.a).2.2.touched.length ≤ 20
  omega
/-- how it stands ahead of a happening. -/
def ToldJ (w : World) (M : Option Addr) (nm mc : Nat) (R : Option Addr) (nr rc : Nat) (L : Option Addr) (n c : Nat) (z : Mch) (W : World) : Prop :=
  Whl W w.heap.size 33 #[.slice M nm mc, .int .i64 z.h.at_, .slice R nr rc, .bool z.h.done, .int .i64 z.b.mode, .int .i64 z.b.base, .slice L n c, .int .i64 z.b.orders.page, .int .i64 z.b.orders.head, .int .i64 z.b.orders.tail, .bool z.b.stopped, .int .i64 z.b.fences, .int .i64 z.b.faults.page, .int .i64 z.b.faults.head, .int .i64 z.b.faults.tail, .bool z.b.lost] ∧ MachV W (fun q => q ≠ w.heap.size) z M nm R nr L n c ∧ Below w.heap.size w W ∧ w.heap.size < W.heap.size ∧ ckM z = 0
section
variable (x : Mch) (hs : List Hap) (M R L HA : Option Addr) (hn hc : Nat) (w : World)
set_option maxRecDepth 100000 in
set_option maxHeartbeats 6000000 in
theorem law_MachineTold (nm mc nr rc n c : Nat) (hm : Ints w w.heap.size M nm x.m) (hr : Ints w w.heap.size R nr x.h.regs) (hl : Lines w w.heap.size L n c x.b.cache) (hh : Haps w w.heap.size HA hn hc hs) :
    Calls Try.prog 4 #[.agg #[.slice M nm mc, .int .i64 x.h.at_, .slice R nr rc, .bool x.h.done, .int .i64 x.b.mode, .int .i64 x.b.base, .slice L n c, .int .i64 x.b.orders.page, .int .i64 x.b.orders.head, .int .i64 x.b.orders.tail, .bool x.b.stopped, .int .i64 x.b.fences, .int .i64 x.b.faults.page, .int .i64 x.b.faults.head, .int .i64 x.b.faults.tail, .bool x.b.lost], .slice HA hn hc] w fun e w' => e = .returned (.bool true) ∧ Below w.heap.size w w' := by
  have HMV := Lib.hid (machV_arg hm hr hl)
  have HH := Lib.hid hh
  have hcap := hh.cap
  have HHL := Lib.hid hh.len
  clear hm hr hl hh
  go_enter Try.func4, Try.ntmps4
  go_upto_region 1 with (fail)
  generalize hw0 : w.alloc (.cells #[.slice M nm mc, .int .i64 x.h.at_, .slice R nr rc, .bool x.h.done, .int .i64 x.b.mode, .int .i64 x.b.base, .slice L n c, .int .i64 x.b.orders.page, .int .i64 x.b.orders.head, .int .i64 x.b.orders.tail, .bool x.b.stopped, .int .i64 x.b.fences, .int .i64 x.b.faults.page, .int .i64 x.b.faults.head, .int .i64 x.b.faults.tail, .bool x.b.lost] 33) = w1
  have HS1 := Lib.hid (show Whl w1 w.heap.size 33 #[.slice M nm mc, .int .i64 x.h.at_, .slice R nr rc, .bool x.h.done, .int .i64 x.b.mode, .int .i64 x.b.base, .slice L n c, .int .i64 x.b.orders.page, .int .i64 x.b.orders.head, .int .i64 x.b.orders.tail, .bool x.b.stopped, .int .i64 x.b.fences, .int .i64 x.b.faults.page, .int .i64 x.b.faults.head, .int .i64 x.b.faults.tail, .bool x.b.lost] by rw [← hw0]; exact whl_new _ _ _ rfl)
  have HB1 := Lib.hid (show Below w.heap.size w w1 by rw [← hw0]; (repeat (first | (with_reducible exact Below.refl _ _) | (with_reducible refine Below.drew ?_) | (with_reducible refine bdrewN ?_ _) | ((with_reducible refine Below.setCell ?_ ?_ _); rotate_left; exact (by first | (simp; done) | (simp; omega) | omega)) | ((with_reducible refine Below.alloc ?_ ?_ _); rotate_left; exact (by first | (simp; done) | (simp; omega) | omega)))))
  have hz1a : w.heap.size < w1.heap.size := by rw [← hw0]; simp
  have HV1 := Lib.hid ((MachV.av HMV.out (Av' := fun q => q ≠ w.heap.size) (fun q hq => by omega)).since HB1.out)
  clear hw0 HMV
  go_wp2_with fail
  refine (law_driven _).mono ?_
  rintro e w2 ⟨rfl, hb2⟩
  have HB2 := Lib.hid (HB1.out.trans (hb2.mono (by omega)))
  have HS2 := Lib.hid (whl_since HS1.out hb2)
  have HV2 := Lib.hid (HV1.out.since hb2)
  have hz2a : w.heap.size < w2.heap.size := by have := hb2.size; omega
  clear hb2 HB1 HS1 HV1
  have k2 := fun o => whl_cell HS2.out o
  go_wp2_with fail
  clear k2
  refine (machine_Check x M R L nm mc nr rc n c _ HV2.out.hm HV2.out.hr HV2.out.hl).mono ?_
  rintro e w3 ⟨rfl, hb3⟩
  have HB3 := Lib.hid (HB2.out.trans (hb3.mono (by omega)))
  have HS3 := Lib.hid (whl_since HS2.out hb3)
  have HV3 := Lib.hid (HV2.out.since hb3)
  have hz3a : w.heap.size < w3.heap.size := by have := hb3.size; omega
  clear hb3 HB2 HS2 HV2 hz2a hz1a
  by_cases h0 : ckM x = 0
  rotate_left
  · have t0 : (ckM x != 0) = true := by rw [bne_iff_ne]; exact h0
    clear h0
    go_wp2_with fail
    refine (law_driven _).mono ?_
    rintro e w4 ⟨rfl, hb4⟩
    have HB4 := Lib.hid (HB3.out.trans (hb4.mono (by omega)))
    clear hb4
    go_wp2
    go_ret
    exact ⟨rfl, HB4.out⟩
  · have t0 : (ckM x != 0) = false := by rw [bne_eq_false_iff_eq]; exact h0
    have H0 := Lib.hid h0
    have J0 : Hid (ToldJ w M nm mc R nr rc L n c x w3) := Lib.hid ⟨HS3.out, HV3.out, HB3.out, hz3a, h0⟩
    obtain ⟨nn, hnn⟩ : ∃ nn, nn = min hn 60 := ⟨_, rfl⟩
    have hmin : min (hn : Int) 60 = (nn : Int) := by omega
    have hsl := slice_hiP HA hn hc nn (by omega) (by omega)
    have hnl : nn ≤ hn := by omega
    have HNN := Lib.hid hnn
    clear h0 hnn HS3 HV3 HB3
    go_upto_region 3 with (fail)
    go_cut [26, 27, 28] (fun s26 s27 s28 wd => s26 = .slice HA nn hc ∧ s27 = .int .i64 nn ∧ s28 = .int .i64 0 ∧ wd = w3)
    case first =>
      rcases Nat.lt_or_ge 60 hn with hm | hm
      · have q1 : ¬ ((hn : Int) ≤ 60) := by omega
        have q2 : (60 : Int) = (nn : Int) := by have := HNN.out; omega
        have q3 := hsl
        rw [← q2] at q3
        have hn12 : nn = 60 := by have := HNN.out; omega
        have HN12 := Lib.hid hn12
        clear hmin hsl q2 hn12 hnl
        go_wp2
        go_meet
        exact ⟨by rw [HN12.out], by rw [HN12.out], rfl, rfl⟩
      · have q1 : (hn : Int) ≤ 60 := by omega
        have hn12 : nn = hn := by have := HNN.out; omega
        have HN12 := Lib.hid hn12
        rw [hn12] at hsl
        clear hmin hn12 hnl
        go_wp2
        go_meet
        exact ⟨by rw [HN12.out], by rw [HN12.out], rfl, rfl⟩
    case rest =>
      obtain ⟨rfl, rfl, rfl, rfl⟩ := hcut
      clear hmin hsl t0
      go_wp2
      go_loopw [28] (fun s28 wr => ∃ (k : Nat) (z : Mch) (M : Option Addr) (nm mc : Nat) (R : Option Addr) (nr rc : Nat) (L : Option Addr) (n c : Nat), k ≤ nn ∧ s28 = .int .i64 k ∧ Hid (ToldJ w M nm mc R nr rc L n c z wr)) (fun s28 _ => nn - (intOf s28).toNat)
      case atStart => exact ⟨0, x, M, nm, mc, R, nr, rc, L, n, c, by omega, rfl, J0.out⟩
      case round =>
        clear J0 H0
        obtain ⟨k, z, M, nm, mc, R, nr, rc, L, n, c, hk, rfl, hI⟩ := hrel
        obtain ⟨i1, i2, i3, i4, i6⟩ := hI.out
        have HM := Lib.hid i1
        have VO := Lib.hid i2
        have HB := Lib.hid i3
        have HZ6 := Lib.hid i6
        have hws := i4
        clear i1 i2 i3 i4 i6 hI
        by_cases hlt : k < nn
        rotate_left
        · obtain rfl : k = nn := by omega
          have hh3 : ¬ ((k : Int) < (k : Int)) := by omega
          clear hlt
          go_wp2
          go_ret
          exact ⟨rfl, HB.out⟩
        obtain ⟨y, hyk⟩ := some_of_lt hs (k := k) (by rw [HHL.out]; omega)
        obtain ⟨b, off, rfl, hb, hcc⟩ := (haps_now HH.out HB.out).at_ (by omega)
        obtain ⟨HD0, nd, cd, hcs, hda⟩ := hcc k y hyk
        have HRG := Lib.hid (hap_range hcs)
        have HDD := Lib.hid hda
        have q1 : (0 : Int) ≤ (k : Int) := by omega
        have q2 : (k : Int) < (nn : Int) := by omega
        obtain ⟨⟨z5, t⟩, hDA⟩ : ∃ r, doA z y = r := ⟨_, rfl⟩
        obtain ⟨E, hDE⟩ : ∃ E, doE z y = E := ⟨_, rfl⟩
        have HDA := Lib.hid hDA
        have HDE := Lib.hid hDE
        clear hcc hcs hda hyk hDA hDE
        go_upto_region 6 with (first
          | (refine wpList_load_mid rfl 46 (.tmp 30) rfl b (off + k * 7) (by rfl) _ _ HRG.out Try.underlying46 rfl Try.sizeHap ?_)
          | (refine wpList_store_new rfl 46 (.tmp 6) (.tmp 31) rfl _ _ _ _ rfl rfl (by rfl) (by rfl) Try.sizeHap rfl (by rfl) ?_))
        generalize hwb : wr.alloc (.cells #[.int .i64 y.kind, .int .i64 y.n, .int .i64 y.a.dev, .int .i64 y.a.at_, .int .i64 y.a.count, .bool y.a.wr, .slice HD0 nd cd] 46) = w4
        have HA := Lib.hid (show Whl w4 wr.heap.size 46 #[.int .i64 y.kind, .int .i64 y.n, .int .i64 y.a.dev, .int .i64 y.a.at_, .int .i64 y.a.count, .bool y.a.wr, .slice HD0 nd cd] by rw [← hwb]; exact whl_new _ _ _ rfl)
        have hb : Below wr.heap.size wr w4 := by rw [← hwb]; exact below_alloc _ _
        have hz4a : w4.heap.size ≤ wr.heap.size + 1 := by rw [← hwb]; simp
        have hz4b : wr.heap.size + 1 ≤ w4.heap.size := by rw [← hwb]; simp
        have HBR := Lib.hid hb
        replace HDD := Lib.hid (ints_now HDD.out hb)
        replace HM := Lib.hid (whl_since HM.out hb)
        replace VO := Lib.hid (VO.out.since hb)
        clear hwb hb HRG
        go_wp2_with (first | (refine wpList_load_whl rfl 33 (.tmp 2) rfl (w.heap.size) _ _ rfl HM.out _ Try.underlying33 rfl Try.sizeMach ?_) | (refine wpList_load_whl rfl 46 (.tmp 6) rfl (wr.heap.size) _ _ rfl HA.out _ Try.underlying46 rfl Try.sizeHap ?_))
        refine (mdo_ans z y M R L HD0 nd cd _ nm mc nr rc n c VO.out.hm VO.out.hr VO.out.hl HDD.out (z5, t) E HDA.out HDE.out).mono ?_
        rintro e w7 ⟨M5, nm5, mc5, R5, nr5, rc5, L5, n5, c5, D5, dn5, dc5, T5, tn5, tc5, rfl, hv5, ht5, hb⟩
        have VZ := Lib.hid (hv5.av (Av' := fun q => wr.heap.size < q) (fun q hq => by omega))
        have VT := Lib.hid ht5
        replace HA := Lib.hid (whl_since HA.out hb)
        replace HM := Lib.hid (whl_since HM.out hb)
        replace VO := Lib.hid (VO.out.since hb)
        replace HBR := Lib.hid (HBR.out.trans (hb.mono HBR.out.size))
        have hz7 := hb.size
        clear hb hv5 ht5 HDD
        go_upto_region 7 with (first
          | (refine wpList_store_all rfl 33 (.tmp 7) (.tmp 36) rfl (w7.heap.size) _ _ #[.slice M5 nm5 mc5, .int .i64 z5.h.at_, .slice R5 nr5 rc5, .bool z5.h.done, .int .i64 z5.b.mode, .int .i64 z5.b.base, .slice L5 n5 c5, .int .i64 z5.b.orders.page, .int .i64 z5.b.orders.head, .int .i64 z5.b.orders.tail, .bool z5.b.stopped, .int .i64 z5.b.fences, .int .i64 z5.b.faults.page, .int .i64 z5.b.faults.head, .int .i64 z5.b.faults.tail, .bool z5.b.lost] rfl rfl (whl_alloc (whl_new w7 _ _ rfl) _) Try.sizeMach rfl rfl ?_; intro w8 h8 t8)
          | (refine wpList_store_all rfl 41 (.tmp 8) (.tmp 37) rfl (w7.heap.size + 1) _ _ #[.bool t.done, .slice D5 dn5 dc5, .int .i64 t.fault, .slice T5 tn5 tc5] rfl rfl (whl_trn (whl_new (w7.alloc _) _ _ (by simp)) t8 (Nat.succ_ne_self _)) Try.sizeTold rfl rfl ?_; intro w9 h9 t9))
        have hw8 := t8.2
        have hw9 := t9.2
        (try simp only [World.size_alloc] at hw8)
        have hz9a : w9.heap.size ≤ w7.heap.size + 2 := by omega
        have hz9b : w7.heap.size + 2 ≤ w9.heap.size := by omega
        have C9 := chg_trans (chg_mono (Q := fun q => w7.heap.size ≤ q) t8.1 (fun q _ e => by omega)) (chg_mono t9.1 (fun q _ e => by omega))
        have hb : Below w7.heap.size w7 w9 := below_chg (((Below.refl w7.heap.size w7).alloc (Nat.le_refl _) _).alloc (by simp) _) (by simp; omega) C9 (fun q hq e => by omega)
        have H8 := Lib.hid (whl_trn h8 t9 (Nat.ne_of_lt (Nat.lt_succ_self _)))
        have H9 := Lib.hid h9
        replace HA := Lib.hid (whl_since HA.out hb)
        replace HM := Lib.hid (whl_since HM.out hb)
        replace VO := Lib.hid (VO.out.since hb)
        replace VZ := Lib.hid (VZ.out.since hb)
        replace VT := Lib.hid (VT.out.since hb)
        replace HBR := Lib.hid (HBR.out.trans (hb.mono HBR.out.size))
        clear hb C9 t8 t9 h8 h9 hw8 hw9
        by_cases hE : E = 0
        rotate_left
        · have t0 : (E != 0) = true := by rw [bne_iff_ne]; exact hE
          clear hE
          go_wp2
          go_roundw
          case rel => exact ⟨k + 1, z, M, nm, mc, R, nr, rc, L, n, c, by omega, by go_num, ⟨HM.out, VO.out, HB.out.trans (HBR.out.mono (by omega)), by omega, HZ6.out⟩⟩
          case measure => simp [intOf]; omega
        have t0 : (E != 0) = false := by rw [bne_eq_false_iff_eq]; exact hE
        have HE := Lib.hid (show doE z y = 0 by rw [HDE.out]; exact hE)
        clear hE
        have HN0 := Lib.hid (show ckM z5 = 0 by have := do_ck (x := z) (y := y) HE.out; rw [HDA.out] at this; exact this)
        by_cases hk3 : y.kind = 3
        rotate_left
        · have t3 : (y.kind == 3) = false := beq_eq_false_iff_ne.2 hk3
          clear hk3
          have fa : w9.cell? ⟨wr.heap.size, 0, none⟩ = some (.int .i64 y.kind) := whl_cell HA.out 0
          go_wp2_with (first | (refine wpList_load_whl rfl 33 (.tmp 7) rfl (w7.heap.size) _ _ rfl H8.out _ Try.underlying33 rfl Try.sizeMach ?_) | (refine wpList_store_all rfl 33 (.tmp 2) (.tmp 141) rfl (w.heap.size) _ _ #[.slice M5 nm5 mc5, .int .i64 z5.h.at_, .slice R5 nr5 rc5, .bool z5.h.done, .int .i64 z5.b.mode, .int .i64 z5.b.base, .slice L5 n5 c5, .int .i64 z5.b.orders.page, .int .i64 z5.b.orders.head, .int .i64 z5.b.orders.tail, .bool z5.b.stopped, .int .i64 z5.b.fences, .int .i64 z5.b.faults.page, .int .i64 z5.b.faults.head, .int .i64 z5.b.faults.tail, .bool z5.b.lost] rfl rfl HM.out Try.sizeMach rfl rfl ?_; intro w11 h11 t11))
          have hw10 := t11.2
          go_roundw
          case rel =>
            refine ⟨k + 1, z5, M5, nm5, mc5, R5, nr5, rc5, L5, n5, c5, by omega, by go_num, h11, ?_, ?_, by omega, HN0.out⟩
            · exact MachV.trn (MachV.av VZ.out (Av' := fun q => q ≠ w.heap.size) (fun q hq => by omega)) t11 (fun hq => hq rfl)
            · exact below_trn (HB.out.trans (HBR.out.mono (by omega))) (by omega) t11 (Nat.le_refl _)
          case measure => simp [intOf]; omega
        obtain ⟨l1, l2, l3, l4, l5⟩ := told_law (x := z) (y := y) HE.out hk3
        rw [HDA.out] at l1 l2 l3 l4 l5
        simp only [] at l1 l2 l3 l4 l5
        have HTL := Lib.hid VT.out.ht.len
        have HDL := Lib.hid VT.out.hd.len
        have HK := Lib.hid hk3
        have LL1 := Lib.hid l1
        have LL2 := Lib.hid l2
        have LL3 := Lib.hid l3
        have LL4 := Lib.hid l4
        have LL5 := Lib.hid l5
        clear l1 l2 l3 l4 l5 hk3
        by_cases hf : t.fault = 0
        · -- let through: as much is told as was asked for
          have hd : t.done = true := LL1.out.2 hf
          have HF := Lib.hid hf
          have HD := Lib.hid hd
          have q5 : ((tn5 : Int) != y.a.count) = false := by rw [bne_eq_false_iff_eq, ← LL2.out hd, HTL.out]
          clear hf hd
          have f90 : w9.cell? ⟨w7.heap.size + 1, 0, none⟩ = some (.bool true) := (whl_cell H9.out 0).trans (by show some (Value.bool t.done) = _; rw [HD.out])
          have f92 : w9.cell? ⟨w7.heap.size + 1, 2, none⟩ = some (.int .i64 0) := (whl_cell H9.out 2).trans (by show some (Value.int .i64 t.fault) = _; rw [HF.out])
          have f93 : w9.cell? ⟨w7.heap.size + 1, 3, none⟩ = some (.slice T5 tn5 tc5) := whl_cell H9.out 3
          have fa0 : w9.cell? ⟨wr.heap.size, 0, none⟩ = some (.int .i64 3) := (whl_cell HA.out 0).trans (by show some (Value.int .i64 y.kind) = _; rw [HK.out])
          have fa4 : w9.cell? ⟨wr.heap.size, 4, none⟩ = some (.int .i64 y.a.count) := whl_cell HA.out 4
          by_cases hw : y.a.wr = true
          · have hdn : dn5 = 0 := by rw [← HDL.out, LL4.out hw]; rfl
            have HW := Lib.hid hw
            have f91 : w9.cell? ⟨w7.heap.size + 1, 1, none⟩ = some (.slice D5 0 dc5) := (whl_cell H9.out 1).trans (by show some (Value.slice D5 dn5 dc5) = _; rw [hdn])
            have fa5 : w9.cell? ⟨wr.heap.size, 5, none⟩ = some (.bool true) := (whl_cell HA.out 5).trans (by show some (Value.bool y.a.wr) = _; rw [HW.out])
            clear hw hdn
            go_upto_region 11 with (fail)
            go_upto_region 12 with (first
              | (refine wpList_load_part rfl 29 (.tmp 90) rfl (w.heap.size) 12 _ _ [.int .i64 z.b.faults.page, .int .i64 z.b.faults.head, .int .i64 z.b.faults.tail] rfl HM.out rfl _ Try.underlying29 rfl Try.sizeRingT ?_)
              | (refine wpList_store_new rfl 29 (.tmp 10) (.tmp 91) rfl _ _ _ _ rfl rfl (by rfl) (by rfl) Try.sizeRingT rfl (by rfl) ?_))
            clear f90 f91 f92 f93 fa0 fa4 fa5
            generalize hwb : w9.alloc (.cells #[.int .i64 z.b.faults.page, .int .i64 z.b.faults.head, .int .i64 z.b.faults.tail] 29) = w10
            have hb : Below w9.heap.size w9 w10 := by rw [← hwb]; exact below_alloc _ _
            have hz10 := hb.size
            replace HA := Lib.hid (whl_since HA.out hb)
            replace HM := Lib.hid (whl_since HM.out hb)
            replace VO := Lib.hid (VO.out.since hb)
            replace VZ := Lib.hid (VZ.out.since hb)
            replace VT := Lib.hid (VT.out.since hb)
            replace HBR := Lib.hid (HBR.out.trans (hb.mono HBR.out.size))
            replace H8 := Lib.hid (whl_since H8.out hb)
            replace H9 := Lib.hid (whl_since H9.out hb)
            clear hwb hb
            have f92 : w10.cell? ⟨w7.heap.size + 1, 2, none⟩ = some (.int .i64 0) := (whl_cell H9.out 2).trans (by show some (Value.int .i64 t.fault) = _; rw [HF.out])
            go_upto_region 17 with (fail)
            clear f92
            go_wp2_with (first | (refine wpList_load_whl rfl 33 (.tmp 7) rfl (w7.heap.size) _ _ rfl H8.out _ Try.underlying33 rfl Try.sizeMach ?_) | (refine wpList_store_all rfl 33 (.tmp 2) (.tmp 141) rfl (w.heap.size) _ _ #[.slice M5 nm5 mc5, .int .i64 z5.h.at_, .slice R5 nr5 rc5, .bool z5.h.done, .int .i64 z5.b.mode, .int .i64 z5.b.base, .slice L5 n5 c5, .int .i64 z5.b.orders.page, .int .i64 z5.b.orders.head, .int .i64 z5.b.orders.tail, .bool z5.b.stopped, .int .i64 z5.b.fences, .int .i64 z5.b.faults.page, .int .i64 z5.b.faults.head, .int .i64 z5.b.faults.tail, .bool z5.b.lost] rfl rfl HM.out Try.sizeMach rfl rfl ?_; intro w11 h11 t11))
            have hw10 := t11.2
            go_roundw
            case rel =>
              refine ⟨k + 1, z5, M5, nm5, mc5, R5, nr5, rc5, L5, n5, c5, by omega, by go_num, h11, ?_, ?_, by omega, HN0.out⟩
              · exact MachV.trn (MachV.av VZ.out (Av' := fun q => q ≠ w.heap.size) (fun q hq => by omega)) t11 (fun hq => hq rfl)
              · exact below_trn (HB.out.trans (HBR.out.mono (by omega))) (by omega) t11 (Nat.le_refl _)
            case measure => simp [intOf]; omega
          · have hw' : y.a.wr = false := by simpa using hw
            have q6 : ((dn5 : Int) != (tn5 : Int)) = false := by rw [bne_eq_false_iff_eq, ← HDL.out, ← HTL.out, LL3.out hw']
            have HW := Lib.hid hw'
            have f91 : w9.cell? ⟨w7.heap.size + 1, 1, none⟩ = some (.slice D5 dn5 dc5) := whl_cell H9.out 1
            have fa5 : w9.cell? ⟨wr.heap.size, 5, none⟩ = some (.bool false) := (whl_cell HA.out 5).trans (by show some (Value.bool y.a.wr) = _; rw [HW.out])
            clear hw hw'
            go_upto_region 11 with (fail)
            go_upto_region 12 with (first
              | (refine wpList_load_part rfl 29 (.tmp 90) rfl (w.heap.size) 12 _ _ [.int .i64 z.b.faults.page, .int .i64 z.b.faults.head, .int .i64 z.b.faults.tail] rfl HM.out rfl _ Try.underlying29 rfl Try.sizeRingT ?_)
              | (refine wpList_store_new rfl 29 (.tmp 10) (.tmp 91) rfl _ _ _ _ rfl rfl (by rfl) (by rfl) Try.sizeRingT rfl (by rfl) ?_))
            clear f90 f91 f92 f93 fa0 fa4 fa5
            generalize hwb : w9.alloc (.cells #[.int .i64 z.b.faults.page, .int .i64 z.b.faults.head, .int .i64 z.b.faults.tail] 29) = w10
            have hb : Below w9.heap.size w9 w10 := by rw [← hwb]; exact below_alloc _ _
            have hz10 := hb.size
            replace HA := Lib.hid (whl_since HA.out hb)
            replace HM := Lib.hid (whl_since HM.out hb)
            replace VO := Lib.hid (VO.out.since hb)
            replace VZ := Lib.hid (VZ.out.since hb)
            replace VT := Lib.hid (VT.out.since hb)
            replace HBR := Lib.hid (HBR.out.trans (hb.mono HBR.out.size))
            replace H8 := Lib.hid (whl_since H8.out hb)
            replace H9 := Lib.hid (whl_since H9.out hb)
            clear hwb hb
            have f92 : w10.cell? ⟨w7.heap.size + 1, 2, none⟩ = some (.int .i64 0) := (whl_cell H9.out 2).trans (by show some (Value.int .i64 t.fault) = _; rw [HF.out])
            go_upto_region 17 with (fail)
            clear f92
            go_wp2_with (first | (refine wpList_load_whl rfl 33 (.tmp 7) rfl (w7.heap.size) _ _ rfl H8.out _ Try.underlying33 rfl Try.sizeMach ?_) | (refine wpList_store_all rfl 33 (.tmp 2) (.tmp 141) rfl (w.heap.size) _ _ #[.slice M5 nm5 mc5, .int .i64 z5.h.at_, .slice R5 nr5 rc5, .bool z5.h.done, .int .i64 z5.b.mode, .int .i64 z5.b.base, .slice L5 n5 c5, .int .i64 z5.b.orders.page, .int .i64 z5.b.orders.head, .int .i64 z5.b.orders.tail, .bool z5.b.stopped, .int .i64 z5.b.fences, .int .i64 z5.b.faults.page, .int .i64 z5.b.faults.head, .int .i64 z5.b.faults.tail, .bool z5.b.lost] rfl rfl HM.out Try.sizeMach rfl rfl ?_; intro w11 h11 t11))
            have hw10 := t11.2
            go_roundw
            case rel =>
              refine ⟨k + 1, z5, M5, nm5, mc5, R5, nr5, rc5, L5, n5, c5, by omega, by go_num, h11, ?_, ?_, by omega, HN0.out⟩
              · exact MachV.trn (MachV.av VZ.out (Av' := fun q => q ≠ w.heap.size) (fun q hq => by omega)) t11 (fun hq => hq rfl)
              · exact below_trn (HB.out.trans (HBR.out.mono (by omega))) (by omega) t11 (Nat.le_refl _)
            case measure => simp [intOf]; omega
        · have hd : t.done = false := by rw [Bool.eq_false_iff]; intro h; exact hf (LL1.out.1 h)
          have HD := Lib.hid hd
          have q5 : (t.fault != 0) = true := by rw [bne_iff_ne]; exact hf
          have q6 : (t.fault == 0) = false := by rw [beq_eq_false_iff_ne]; exact hf
          have HFN := Lib.hid hf
          clear hf hd
          have f90 : w9.cell? ⟨w7.heap.size + 1, 0, none⟩ = some (.bool false) := (whl_cell H9.out 0).trans (by show some (Value.bool t.done) = _; rw [HD.out])
          have f92 : w9.cell? ⟨w7.heap.size + 1, 2, none⟩ = some (.int .i64 t.fault) := whl_cell H9.out 2
          have f93 : w9.cell? ⟨w7.heap.size + 1, 3, none⟩ = some (.slice T5 tn5 tc5) := whl_cell H9.out 3
          have fa0 : w9.cell? ⟨wr.heap.size, 0, none⟩ = some (.int .i64 3) := (whl_cell HA.out 0).trans (by show some (Value.int .i64 y.kind) = _; rw [HK.out])
          by_cases hw : y.a.wr = true
          · have hdn : dn5 = 0 := by rw [← HDL.out, LL4.out hw]; rfl
            have HW := Lib.hid hw
            have f91 : w9.cell? ⟨w7.heap.size + 1, 1, none⟩ = some (.slice D5 0 dc5) := (whl_cell H9.out 1).trans (by show some (Value.slice D5 dn5 dc5) = _; rw [hdn])
            have fa5 : w9.cell? ⟨wr.heap.size, 5, none⟩ = some (.bool true) := (whl_cell HA.out 5).trans (by show some (Value.bool y.a.wr) = _; rw [HW.out])
            clear hw hdn
            go_upto_region 11 with (fail)
            go_upto_region 12 with (first
              | (refine wpList_load_part rfl 29 (.tmp 90) rfl (w.heap.size) 12 _ _ [.int .i64 z.b.faults.page, .int .i64 z.b.faults.head, .int .i64 z.b.faults.tail] rfl HM.out rfl _ Try.underlying29 rfl Try.sizeRingT ?_)
              | (refine wpList_store_new rfl 29 (.tmp 10) (.tmp 91) rfl _ _ _ _ rfl rfl (by rfl) (by rfl) Try.sizeRingT rfl (by rfl) ?_))
            clear f90 f91 f93 fa0
            generalize hwb : w9.alloc (.cells #[.int .i64 z.b.faults.page, .int .i64 z.b.faults.head, .int .i64 z.b.faults.tail] 29) = w10
            have H10 := Lib.hid (show Whl w10 w9.heap.size 29 #[.int .i64 z.b.faults.page, .int .i64 z.b.faults.head, .int .i64 z.b.faults.tail] by rw [← hwb]; exact whl_new _ _ _ rfl)
            have hb : Below w9.heap.size w9 w10 := by rw [← hwb]; exact below_alloc _ _
            have hz10 : w9.heap.size + 1 ≤ w10.heap.size := by rw [← hwb]; simp
            replace HA := Lib.hid (whl_since HA.out hb)
            replace HM := Lib.hid (whl_since HM.out hb)
            replace VO := Lib.hid (VO.out.since hb)
            replace VZ := Lib.hid (VZ.out.since hb)
            replace VT := Lib.hid (VT.out.since hb)
            replace HBR := Lib.hid (HBR.out.trans (hb.mono HBR.out.size))
            replace H8 := Lib.hid (whl_since H8.out hb)
            replace H9 := Lib.hid (whl_since H9.out hb)
            clear hwb hb f92 fa5
            have f92 : w10.cell? ⟨w7.heap.size + 1, 2, none⟩ = some (.int .i64 t.fault) := whl_cell H9.out 2
            have f8 := fun o => whl_cell H8.out o
            have f10 := fun o => whl_cell H10.out o
            have hne := fun W => Try.neqRingT z5.b.faults z.b.faults W
            by_cases hrg : z5.b.faults = z.b.faults
            · rw [show ringEq z5.b.faults z.b.faults = true by rw [hrg]; simp [ringEq]] at hne
              clear hrg
              go_upto_region 17 with (fail)
              clear f92 f8 f10 hne
              go_wp2_with (first | (refine wpList_load_whl rfl 33 (.tmp 7) rfl (w7.heap.size) _ _ rfl H8.out _ Try.underlying33 rfl Try.sizeMach ?_) | (refine wpList_store_all rfl 33 (.tmp 2) (.tmp 141) rfl (w.heap.size) _ _ #[.slice M5 nm5 mc5, .int .i64 z5.h.at_, .slice R5 nr5 rc5, .bool z5.h.done, .int .i64 z5.b.mode, .int .i64 z5.b.base, .slice L5 n5 c5, .int .i64 z5.b.orders.page, .int .i64 z5.b.orders.head, .int .i64 z5.b.orders.tail, .bool z5.b.stopped, .int .i64 z5.b.fences, .int .i64 z5.b.faults.page, .int .i64 z5.b.faults.head, .int .i64 z5.b.faults.tail, .bool z5.b.lost] rfl rfl HM.out Try.sizeMach rfl rfl ?_; intro w11 h11 t11))
              have hw10 := t11.2
              go_roundw
              case rel =>
                refine ⟨k + 1, z5, M5, nm5, mc5, R5, nr5, rc5, L5, n5, c5, by omega, by go_num, h11, ?_, ?_, by omega, HN0.out⟩
                · exact MachV.trn (MachV.av VZ.out (Av' := fun q => q ≠ w.heap.size) (fun q hq => by omega)) t11 (fun hq => hq rfl)
                · exact below_trn (HB.out.trans (HBR.out.mono (by omega))) (by omega) t11 (Nat.le_refl _)
              case measure => simp [intOf]; omega
            · have hrq : ringEq z5.b.faults z.b.faults = false := by rw [ringEq_t]; simp [hrg]
              rw [hrq] at hne
              obtain ⟨f, g1, g2, g3⟩ := LL5.out HFN.out hrg
              obtain ⟨b1, b2, b3, b4, b5⟩ := flt_back g1
              have HRV : Hid (rdfV (rd z5.m (z.b.faults.page * 8 + z.b.faults.tail)) = .tuple #[.agg #[.int .i64 t.fault, .int .i64 y.a.dev, .int .i64 ((y.a.at_ + tn5) / 8), .bool true], .int .i64 0]) := Lib.hid (by
                rw [g3]
                unfold rdfV
                rw [b1, b2, b3, b4, b5, g2, HTL.out, HW.out])
              have hrr := ((ckB_iff z.b).1 ((ckM_iff z).1 HZ6.out).2.2).2.2.2
              unfold ringR at hrr
              have i1 : 0 ≤ z.b.faults.page * 8 + z.b.faults.tail := by omega
              have i2 : z.b.faults.page * 8 + z.b.faults.tail < 512 := by omega
              have i3 : 0 ≤ z.b.faults.page ∧ z.b.faults.page ≤ 63 := by omega
              have i4 : 0 ≤ z.b.faults.tail ∧ z.b.faults.tail ≤ 7 := by omega
              obtain ⟨i3, i5⟩ := i3
              obtain ⟨i4, i6⟩ := i4
              have m1 : IntKind.i64.wrap (z.b.faults.page * 8) = z.b.faults.page * 8 := IntWalk.i64_in _ (by omega)
              have m2 : IntKind.i64.wrap (z.b.faults.page * 8 + z.b.faults.tail) = z.b.faults.page * 8 + z.b.faults.tail := IntWalk.i64_in _ (by omega)
              have hzl := (cm_inv ((ckM_iff z5).1 HN0.out).1).1
              have hnm : nm5 = 512 := by rw [← VZ.out.hm.1, hzl]
              subst hnm
              obtain ⟨bM, oM, rfl, hbM, hcM⟩ := VZ.out.hm.2.2 (by rw [List.length_map, hzl]; omega)
              have yM := hcM _ _ (rd_mapT (xs := z5.m) (k := z.b.faults.page * 8 + z.b.faults.tail) i1 (by rw [hzl]; omega))
              have hreq := (reqE_inv (do_3 HE.out HK.out).1)
              have ht20 : t.touched.length ≤ 20 := by
                have h1 := do_lenT (x := z) (y := y) HE.out HK.out
                rw [HDA.out] at h1; exact h1
              have hrq2 := hreq.2.1
              unfold reqR at hrq2
              have j1 : 0 ≤ y.a.at_ + (tn5 : Int) := by omega
              have j2 : y.a.at_ + (tn5 : Int) ≤ 600 := by have := HTL.out; have := hreq.1; omega
              have j3 : IntKind.i64.wrap (y.a.at_ + (tn5 : Int)) = y.a.at_ + (tn5 : Int) := IntWalk.i64_in _ (by omega)
              clear hrr hcM hrg hrq hreq hrq2 ht20 hzl g1 g2 g3 b1 b2 b3 b4 b5 hbM
              go_upto_region 13 with (fail)
              clear hne f92
              go_wp2_with fail
              refine (word_ReadFault _ _).mono ?_
              rw [HRV.out]
              rintro e w11 ⟨rfl, hb⟩
              have hz11 := hb.size
              replace HA := Lib.hid (whl_since HA.out hb)
              replace HM := Lib.hid (whl_since HM.out hb)
              replace VO := Lib.hid (VO.out.since hb)
              replace VZ := Lib.hid (VZ.out.since hb)
              replace VT := Lib.hid (VT.out.since hb)
              replace HBR := Lib.hid (HBR.out.trans (hb.mono HBR.out.size))
              replace H8 := Lib.hid (whl_since H8.out hb)
              replace H9 := Lib.hid (whl_since H9.out hb)
              clear hb f8 f10 yM
              go_upto_region 14 with (fail)
              generalize hwb : w11.alloc (.cells #[.int .i64 t.fault, .int .i64 y.a.dev, .int .i64 ((y.a.at_ + tn5) / 8), .bool true] 55) = w12
              have H11 := Lib.hid (show Whl w12 w11.heap.size 55 #[.int .i64 t.fault, .int .i64 y.a.dev, .int .i64 ((y.a.at_ + tn5) / 8), .bool true] by rw [← hwb]; exact whl_new _ _ _ rfl)
              have hb : Below w11.heap.size w11 w12 := by rw [← hwb]; exact below_alloc _ _
              have hz12 : w11.heap.size + 1 ≤ w12.heap.size := by rw [← hwb]; simp
              replace HA := Lib.hid (whl_since HA.out hb)
              replace HM := Lib.hid (whl_since HM.out hb)
              replace VO := Lib.hid (VO.out.since hb)
              replace VZ := Lib.hid (VZ.out.since hb)
              replace VT := Lib.hid (VT.out.since hb)
              replace HBR := Lib.hid (HBR.out.trans (hb.mono HBR.out.size))
              replace H8 := Lib.hid (whl_since H8.out hb)
              replace H9 := Lib.hid (whl_since H9.out hb)
              clear hwb hb
              have f92 : w12.cell? ⟨w7.heap.size + 1, 2, none⟩ = some (.int .i64 t.fault) := whl_cell H9.out 2
              have f93 : w12.cell? ⟨w7.heap.size + 1, 3, none⟩ = some (.slice (T5) tn5 tc5) := whl_cell H9.out 3
              have fa2 : w12.cell? ⟨wr.heap.size, 2, none⟩ = some (.int .i64 y.a.dev) := whl_cell HA.out 2
              have fa3 : w12.cell? ⟨wr.heap.size, 3, none⟩ = some (.int .i64 y.a.at_) := whl_cell HA.out 3
              have fa5 : w12.cell? ⟨wr.heap.size, 5, none⟩ = some (.bool true) := (whl_cell HA.out 5).trans (by show some (Value.bool y.a.wr) = _; rw [HW.out])
              have f11 := fun o => whl_cell H11.out o
              have hfl := fun W => Try.neqFltT t.fault y.a.dev ((y.a.at_ + tn5) / 8) true W
              go_upto_region 17 with (fail)
              clear f92 f93 fa2 fa3 fa5 f11 hfl
              go_wp2_with (first | (refine wpList_load_whl rfl 33 (.tmp 7) rfl (w7.heap.size) _ _ rfl H8.out _ Try.underlying33 rfl Try.sizeMach ?_) | (refine wpList_store_all rfl 33 (.tmp 2) (.tmp 141) rfl (w.heap.size) _ _ #[.slice (some ⟨bM, oM, none⟩) 512 mc5, .int .i64 z5.h.at_, .slice R5 nr5 rc5, .bool z5.h.done, .int .i64 z5.b.mode, .int .i64 z5.b.base, .slice L5 n5 c5, .int .i64 z5.b.orders.page, .int .i64 z5.b.orders.head, .int .i64 z5.b.orders.tail, .bool z5.b.stopped, .int .i64 z5.b.fences, .int .i64 z5.b.faults.page, .int .i64 z5.b.faults.head, .int .i64 z5.b.faults.tail, .bool z5.b.lost] rfl rfl HM.out Try.sizeMach rfl rfl ?_; intro w11 h11 t11))
              have hw10 := t11.2
              go_roundw
              case rel =>
                refine ⟨k + 1, z5, some ⟨bM, oM, none⟩, 512, mc5, R5, nr5, rc5, L5, n5, c5, by omega, by go_num, h11, ?_, ?_, by omega, HN0.out⟩
                · exact MachV.trn (MachV.av VZ.out (Av' := fun q => q ≠ w.heap.size) (fun q hq => by omega)) t11 (fun hq => hq rfl)
                · exact below_trn (HB.out.trans (HBR.out.mono (by omega))) (by omega) t11 (Nat.le_refl _)
              case measure => simp [intOf]; omega
          · have hw' : y.a.wr = false := by simpa using hw
            have q7 : ((dn5 : Int) != (tn5 : Int)) = false := by rw [bne_eq_false_iff_eq, ← HDL.out, ← HTL.out, LL3.out hw']
            have HW := Lib.hid hw'
            have f91 : w9.cell? ⟨w7.heap.size + 1, 1, none⟩ = some (.slice D5 dn5 dc5) := whl_cell H9.out 1
            have fa5 : w9.cell? ⟨wr.heap.size, 5, none⟩ = some (.bool false) := (whl_cell HA.out 5).trans (by show some (Value.bool y.a.wr) = _; rw [HW.out])
            clear hw hw'
            go_upto_region 11 with (fail)
            go_upto_region 12 with (first
              | (refine wpList_load_part rfl 29 (.tmp 90) rfl (w.heap.size) 12 _ _ [.int .i64 z.b.faults.page, .int .i64 z.b.faults.head, .int .i64 z.b.faults.tail] rfl HM.out rfl _ Try.underlying29 rfl Try.sizeRingT ?_)
              | (refine wpList_store_new rfl 29 (.tmp 10) (.tmp 91) rfl _ _ _ _ rfl rfl (by rfl) (by rfl) Try.sizeRingT rfl (by rfl) ?_))
            clear f90 f91 f93 fa0
            generalize hwb : w9.alloc (.cells #[.int .i64 z.b.faults.page, .int .i64 z.b.faults.head, .int .i64 z.b.faults.tail] 29) = w10
            have H10 := Lib.hid (show Whl w10 w9.heap.size 29 #[.int .i64 z.b.faults.page, .int .i64 z.b.faults.head, .int .i64 z.b.faults.tail] by rw [← hwb]; exact whl_new _ _ _ rfl)
            have hb : Below w9.heap.size w9 w10 := by rw [← hwb]; exact below_alloc _ _
            have hz10 : w9.heap.size + 1 ≤ w10.heap.size := by rw [← hwb]; simp
            replace HA := Lib.hid (whl_since HA.out hb)
            replace HM := Lib.hid (whl_since HM.out hb)
            replace VO := Lib.hid (VO.out.since hb)
            replace VZ := Lib.hid (VZ.out.since hb)
            replace VT := Lib.hid (VT.out.since hb)
            replace HBR := Lib.hid (HBR.out.trans (hb.mono HBR.out.size))
            replace H8 := Lib.hid (whl_since H8.out hb)
            replace H9 := Lib.hid (whl_since H9.out hb)
            clear hwb hb f92 fa5
            have f92 : w10.cell? ⟨w7.heap.size + 1, 2, none⟩ = some (.int .i64 t.fault) := whl_cell H9.out 2
            have f8 := fun o => whl_cell H8.out o
            have f10 := fun o => whl_cell H10.out o
            have hne := fun W => Try.neqRingT z5.b.faults z.b.faults W
            by_cases hrg : z5.b.faults = z.b.faults
            · rw [show ringEq z5.b.faults z.b.faults = true by rw [hrg]; simp [ringEq]] at hne
              clear hrg
              go_upto_region 17 with (fail)
              clear f92 f8 f10 hne
              go_wp2_with (first | (refine wpList_load_whl rfl 33 (.tmp 7) rfl (w7.heap.size) _ _ rfl H8.out _ Try.underlying33 rfl Try.sizeMach ?_) | (refine wpList_store_all rfl 33 (.tmp 2) (.tmp 141) rfl (w.heap.size) _ _ #[.slice M5 nm5 mc5, .int .i64 z5.h.at_, .slice R5 nr5 rc5, .bool z5.h.done, .int .i64 z5.b.mode, .int .i64 z5.b.base, .slice L5 n5 c5, .int .i64 z5.b.orders.page, .int .i64 z5.b.orders.head, .int .i64 z5.b.orders.tail, .bool z5.b.stopped, .int .i64 z5.b.fences, .int .i64 z5.b.faults.page, .int .i64 z5.b.faults.head, .int .i64 z5.b.faults.tail, .bool z5.b.lost] rfl rfl HM.out Try.sizeMach rfl rfl ?_; intro w11 h11 t11))
              have hw10 := t11.2
              go_roundw
              case rel =>
                refine ⟨k + 1, z5, M5, nm5, mc5, R5, nr5, rc5, L5, n5, c5, by omega, by go_num, h11, ?_, ?_, by omega, HN0.out⟩
                · exact MachV.trn (MachV.av VZ.out (Av' := fun q => q ≠ w.heap.size) (fun q hq => by omega)) t11 (fun hq => hq rfl)
                · exact below_trn (HB.out.trans (HBR.out.mono (by omega))) (by omega) t11 (Nat.le_refl _)
              case measure => simp [intOf]; omega
            · have hrq : ringEq z5.b.faults z.b.faults = false := by rw [ringEq_t]; simp [hrg]
              rw [hrq] at hne
              obtain ⟨f, g1, g2, g3⟩ := LL5.out HFN.out hrg
              obtain ⟨b1, b2, b3, b4, b5⟩ := flt_back g1
              have HRV : Hid (rdfV (rd z5.m (z.b.faults.page * 8 + z.b.faults.tail)) = .tuple #[.agg #[.int .i64 t.fault, .int .i64 y.a.dev, .int .i64 ((y.a.at_ + tn5) / 8), .bool false], .int .i64 0]) := Lib.hid (by
                rw [g3]
                unfold rdfV
                rw [b1, b2, b3, b4, b5, g2, HTL.out, HW.out])
              have hrr := ((ckB_iff z.b).1 ((ckM_iff z).1 HZ6.out).2.2).2.2.2
              unfold ringR at hrr
              have i1 : 0 ≤ z.b.faults.page * 8 + z.b.faults.tail := by omega
              have i2 : z.b.faults.page * 8 + z.b.faults.tail < 512 := by omega
              have i3 : 0 ≤ z.b.faults.page ∧ z.b.faults.page ≤ 63 := by omega
              have i4 : 0 ≤ z.b.faults.tail ∧ z.b.faults.tail ≤ 7 := by omega
              obtain ⟨i3, i5⟩ := i3
              obtain ⟨i4, i6⟩ := i4
              have m1 : IntKind.i64.wrap (z.b.faults.page * 8) = z.b.faults.page * 8 := IntWalk.i64_in _ (by omega)
              have m2 : IntKind.i64.wrap (z.b.faults.page * 8 + z.b.faults.tail) = z.b.faults.page * 8 + z.b.faults.tail := IntWalk.i64_in _ (by omega)
              have hzl := (cm_inv ((ckM_iff z5).1 HN0.out).1).1
              have hnm : nm5 = 512 := by rw [← VZ.out.hm.1, hzl]
              subst hnm
              obtain ⟨bM, oM, rfl, hbM, hcM⟩ := VZ.out.hm.2.2 (by rw [List.length_map, hzl]; omega)
              have yM := hcM _ _ (rd_mapT (xs := z5.m) (k := z.b.faults.page * 8 + z.b.faults.tail) i1 (by rw [hzl]; omega))
              have hreq := (reqE_inv (do_3 HE.out HK.out).1)
              have ht20 : t.touched.length ≤ 20 := by
                have h1 := do_lenT (x := z) (y := y) HE.out HK.out
                rw [HDA.out] at h1; exact h1
              have hrq2 := hreq.2.1
              unfold reqR at hrq2
              have j1 : 0 ≤ y.a.at_ + (tn5 : Int) := by omega
              have j2 : y.a.at_ + (tn5 : Int) ≤ 600 := by have := HTL.out; have := hreq.1; omega
              have j3 : IntKind.i64.wrap (y.a.at_ + (tn5 : Int)) = y.a.at_ + (tn5 : Int) := IntWalk.i64_in _ (by omega)
              clear hrr hcM hrg hrq hreq hrq2 ht20 hzl g1 g2 g3 b1 b2 b3 b4 b5 hbM
              go_upto_region 13 with (fail)
              clear hne f92
              go_wp2_with fail
              refine (word_ReadFault _ _).mono ?_
              rw [HRV.out]
              rintro e w11 ⟨rfl, hb⟩
              have hz11 := hb.size
              replace HA := Lib.hid (whl_since HA.out hb)
              replace HM := Lib.hid (whl_since HM.out hb)
              replace VO := Lib.hid (VO.out.since hb)
              replace VZ := Lib.hid (VZ.out.since hb)
              replace VT := Lib.hid (VT.out.since hb)
              replace HBR := Lib.hid (HBR.out.trans (hb.mono HBR.out.size))
              replace H8 := Lib.hid (whl_since H8.out hb)
              replace H9 := Lib.hid (whl_since H9.out hb)
              clear hb f8 f10 yM
              go_upto_region 14 with (fail)
              generalize hwb : w11.alloc (.cells #[.int .i64 t.fault, .int .i64 y.a.dev, .int .i64 ((y.a.at_ + tn5) / 8), .bool false] 55) = w12
              have H11 := Lib.hid (show Whl w12 w11.heap.size 55 #[.int .i64 t.fault, .int .i64 y.a.dev, .int .i64 ((y.a.at_ + tn5) / 8), .bool false] by rw [← hwb]; exact whl_new _ _ _ rfl)
              have hb : Below w11.heap.size w11 w12 := by rw [← hwb]; exact below_alloc _ _
              have hz12 : w11.heap.size + 1 ≤ w12.heap.size := by rw [← hwb]; simp
              replace HA := Lib.hid (whl_since HA.out hb)
              replace HM := Lib.hid (whl_since HM.out hb)
              replace VO := Lib.hid (VO.out.since hb)
              replace VZ := Lib.hid (VZ.out.since hb)
              replace VT := Lib.hid (VT.out.since hb)
              replace HBR := Lib.hid (HBR.out.trans (hb.mono HBR.out.size))
              replace H8 := Lib.hid (whl_since H8.out hb)
              replace H9 := Lib.hid (whl_since H9.out hb)
              clear hwb hb
              have f92 : w12.cell? ⟨w7.heap.size + 1, 2, none⟩ = some (.int .i64 t.fault) := whl_cell H9.out 2
              have f93 : w12.cell? ⟨w7.heap.size + 1, 3, none⟩ = some (.slice (T5) tn5 tc5) := whl_cell H9.out 3
              have fa2 : w12.cell? ⟨wr.heap.size, 2, none⟩ = some (.int .i64 y.a.dev) := whl_cell HA.out 2
              have fa3 : w12.cell? ⟨wr.heap.size, 3, none⟩ = some (.int .i64 y.a.at_) := whl_cell HA.out 3
              have fa5 : w12.cell? ⟨wr.heap.size, 5, none⟩ = some (.bool false) := (whl_cell HA.out 5).trans (by show some (Value.bool y.a.wr) = _; rw [HW.out])
              have f11 := fun o => whl_cell H11.out o
              have hfl := fun W => Try.neqFltT t.fault y.a.dev ((y.a.at_ + tn5) / 8) false W
              go_upto_region 17 with (fail)
              clear f92 f93 fa2 fa3 fa5 f11 hfl
              go_wp2_with (first | (refine wpList_load_whl rfl 33 (.tmp 7) rfl (w7.heap.size) _ _ rfl H8.out _ Try.underlying33 rfl Try.sizeMach ?_) | (refine wpList_store_all rfl 33 (.tmp 2) (.tmp 141) rfl (w.heap.size) _ _ #[.slice (some ⟨bM, oM, none⟩) 512 mc5, .int .i64 z5.h.at_, .slice R5 nr5 rc5, .bool z5.h.done, .int .i64 z5.b.mode, .int .i64 z5.b.base, .slice L5 n5 c5, .int .i64 z5.b.orders.page, .int .i64 z5.b.orders.head, .int .i64 z5.b.orders.tail, .bool z5.b.stopped, .int .i64 z5.b.fences, .int .i64 z5.b.faults.page, .int .i64 z5.b.faults.head, .int .i64 z5.b.faults.tail, .bool z5.b.lost] rfl rfl HM.out Try.sizeMach rfl rfl ?_; intro w11 h11 t11))
              have hw10 := t11.2
              go_roundw
              case rel =>
                refine ⟨k + 1, z5, some ⟨bM, oM, none⟩, 512, mc5, R5, nr5, rc5, L5, n5, c5, by omega, by go_num, h11, ?_, ?_, by omega, HN0.out⟩
                · exact MachV.trn (MachV.av VZ.out (Av' := fun q => q ≠ w.heap.size) (fun q hq => by omega)) t11 (fun hq => hq rfl)
                · exact below_trn (HB.out.trans (HBR.out.mono (by omega))) (by omega) t11 (Nat.le_refl _)
              case measure => simp [intOf]; omega
end
end Go.Proofs.Ytbopdijnojaaiad
