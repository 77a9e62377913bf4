/- The machine: the walk of the program's Run. No statement of the seat is proved here. -/
import Derived.Test.YtbopdijnojaaiadMdo
import Derived.Test.YtbopdijnojaaiadTls
import Derived.Deep.AppendLies
namespace Go.Proofs.Ytbopdijnojaaiad
open Go.RowKit
set_option linter.unusedSimpArgs false
set_option linter.unusedVariables false
attribute [local go_sem ↓] Go.wp_at_zero Go.wp_at_succ
/-- what Run hands back. -/
def MrunC (w : World) (z : Mch) (ts : List Tld) (rs : List Int) (E : Int) (e : Ending) (w' : World) : Prop :=
  ∃ M nm mc R nr rc L n c es TA tn tc SA sn sc, e = .returned (.tuple #[.agg #[.slice M nm mc, .int .i64 z.h.at_, .slice R nr rc, .bool z.h.done, .int .i64 z.b.mode, .int .i64 z.b.base, .slice L n c, .int .i64 z.b.orders.page, .int .i64 z.b.orders.head, .int .i64 z.b.orders.tail, .bool z.b.stopped, .int .i64 z.b.fences, .int .i64 z.b.faults.page, .int .i64 z.b.faults.head, .int .i64 z.b.faults.tail, .bool z.b.lost], .slice TA tn tc, .slice SA sn sc, .int .i64 E]) ∧
    MachV w' (fun q => w.heap.size ≤ q) z M nm R nr L n c ∧ OwnS w.heap.size w' TA tn tc es ∧ es.map Tle.t = ts ∧ OwnE w.heap.size w' SA sn sc rs ∧ (∀ e ∈ es, TldV w' (fun q => w.heap.size ≤ q) e.t e.D e.dn e.X e.tn e.tc) ∧ Below w.heap.size w w'
theorem results_4 {P : Program} {fn : Func} {p q u v : Tmp} {ty : TypeId} {tmps : Array Value} {w : World} {a : Addr} {v1 v2 v3 v4 : Value} (h : fn.results = #[.cell p ty, .tmp q, .tmp u, .tmp v]) (hp : tmps.getD p undef = .pointer (some a)) (hq : tmps.getD q undef = v2) (hu : tmps.getD u undef = v3) (hv : tmps.getD v undef = v4)
    (e1 : (loadVar ty a).run P w = .ok v1 w) : (results fn tmps).run P w = .ok (.tuple #[v1, v2, v3, v4]) w := by
  have hp' : tmps[p]?.getD undef = .pointer (some a) := by simpa using hp
  have hq' : tmps[q]?.getD undef = v2 := by simpa using hq
  have hu' : tmps[u]?.getD undef = v3 := by simpa using hu
  have hv' : tmps[v]?.getD undef = v4 := by simpa using hv
  simp [results, h, hp', hq', hu', hv', asAddr, e1]
theorem runS_next {x : Mch} {hs : List Hap} {k : Nat} {y : Hap} (hy : hs[k]? = some y) : runS x (hs.take (k + 1)) = nxtM (runS x (hs.take k)) y ∧ runT x (hs.take (k + 1)) = runT x (hs.take k) ++ [(doA (runS x (hs.take k)) y).2] ∧ runR x (hs.take (k + 1)) = runR x (hs.take k) ++ [doE (runS x (hs.take k)) y] := by
  have e : hs.take (k + 1) = hs.take k ++ [y] := by
    rw [List.take_add_one, hy]; rfl
  rw [e]
  exact ⟨runS_snoc, runT_snoc, runR_snoc⟩
theorem nxt_0 {x : Mch} {y : Hap} (h : doE x y = 0) : nxtM x y = (doA x y).1 := by unfold nxtM doA; rw [if_pos h, if_pos h]
theorem nxt_n {x : Mch} {y : Hap} (h : doE x y ≠ 0) : nxtM x y = x := by unfold nxtM; rw [if_neg h]
section
variable (x : Mch) (hs : List Hap) (M R L HA : Option Addr) (hn hc : Nat) (w : World)
set_option maxRecDepth 100000 in
set_option maxHeartbeats 16000000 in
theorem mrun_ok (mc rc n c : Nat) (hm : Ints w w.heap.size M 512 x.m) (hr : Ints w w.heap.size R 8 x.h.regs) (hl : Lines w w.heap.size L n c x.b.cache) (hh : Haps w w.heap.size HA hn hc hs) (h0 : ckM x = 0) (hh1 : hn ≤ 120) :
    Calls Try.prog 25 #[.agg #[.slice M 512 mc, .int .i64 x.h.at_, .slice R 8 rc, .bool x.h.done, .int .i64 x.b.mode, .int .i64 x.b.base, .slice L n c, .int .i64 x.b.orders.page, .int .i64 x.b.orders.head, .int .i64 x.b.orders.tail, .bool x.b.stopped, .int .i64 x.b.fences, .int .i64 x.b.faults.page, .int .i64 x.b.faults.head, .int .i64 x.b.faults.tail, .bool x.b.lost], .slice HA hn hc] w (MrunC w (runS x hs) (runT x hs) (runR x hs) 0) := by
  obtain ⟨i0, hi, hi0, hi1, hi2⟩ := info_parts Try.infoErr
  obtain ⟨j0, hj, hj0, hj1, hj2⟩ := info_parts Try.infoTold
  have HI := Lib.hid hi
  have HI0 := Lib.hid hi0
  have HI1 := Lib.hid hi1
  have HI2 := Lib.hid hi2
  have HJ := Lib.hid hj
  have HJ0 := Lib.hid hj0
  have HJ1 := Lib.hid hj1
  have HJ2 := Lib.hid hj2
  clear hi hi0 hi1 hi2 hj hj0 hj1 hj2
  have HM := Lib.hid hm
  have HR := Lib.hid hr
  have HL := Lib.hid hl
  have HH := Lib.hid hh
  have H0 := Lib.hid h0
  have hcap := hh.cap
  have HHL := Lib.hid hh.len
  have hh2 : (hn : Int) ≤ 120 := by omega
  have HN := Lib.hid (show n ≤ 1000 by have := ((ckC_iff _).1 ((ckB_iff x.b).1 ((ckM_iff x).1 h0).2.2).2.1).1; have := hl.1; omega)
  clear hm hr hl hh h0
  go_enter Try.func25, Try.ntmps25
  go_upto_region 1 with (fail)
  generalize hw0 : (w.alloc (.cells #[.slice M 512 mc, .int .i64 x.h.at_, .slice R 8 rc, .bool x.h.done, .int .i64 x.b.mode, .int .i64 x.b.base, .slice L n c, .int .i64 x.b.orders.page, .int .i64 x.b.orders.head, .int .i64 x.b.orders.tail, .bool x.b.stopped, .int .i64 x.b.fences, .int .i64 x.b.faults.page, .int .i64 x.b.faults.head, .int .i64 x.b.faults.tail, .bool x.b.lost] 33)).alloc (.cells #[.slice none 0 0, .int .i64 0, .slice none 0 0, .bool false, .int .i64 0, .int .i64 0, .slice none 0 0, .int .i64 0, .int .i64 0, .int .i64 0, .bool false, .int .i64 0, .int .i64 0, .int .i64 0, .int .i64 0, .bool false] 33) = w0
  have H2 := Lib.hid (show Whl w0 (w.heap.size) 33 #[.slice M 512 mc, .int .i64 x.h.at_, .slice R 8 rc, .bool x.h.done, .int .i64 x.b.mode, .int .i64 x.b.base, .slice L n c, .int .i64 x.b.orders.page, .int .i64 x.b.orders.head, .int .i64 x.b.orders.tail, .bool x.b.stopped, .int .i64 x.b.fences, .int .i64 x.b.faults.page, .int .i64 x.b.faults.head, .int .i64 x.b.faults.tail, .bool x.b.lost] by rw [← hw0]; exact whl_alloc (whl_new _ _ _ rfl) _)
  have H4 := Lib.hid (show Whl w0 (w.heap.size + 1) 33 #[.slice none 0 0, .int .i64 0, .slice none 0 0, .bool false, .int .i64 0, .int .i64 0, .slice none 0 0, .int .i64 0, .int .i64 0, .int .i64 0, .bool false, .int .i64 0, .int .i64 0, .int .i64 0, .int .i64 0, .bool false] by rw [← hw0]; exact whl_new _ _ _ (by simp))
  have HW0 := Lib.hid (show Below w.heap.size w w0 by rw [← hw0]; (repeat (first | (with_reducible exact Below.refl _ _) | (with_reducible refine Below.drew ?_) | (with_reducible refine bdrewN ?_ _) | ((with_reducible refine Below.setCell ?_ ?_ _); rotate_left; exact (by first | (simp; done) | (simp; omega) | omega)) | ((with_reducible refine Below.alloc ?_ ?_ _); rotate_left; exact (by first | (simp; done) | (simp; omega) | omega)))))
  have hz0a : w0.heap.size ≤ w.heap.size + 1 + 1 := by rw [← hw0]; simp
  have hz0b : w.heap.size + 1 + 1 ≤ w0.heap.size := by rw [← hw0]; simp
  clear hw0
  go_wp2_with (refine wpList_load_whl rfl 33 (.tmp 2) rfl (w.heap.size) _ _ rfl H2.out _ Try.underlying33 rfl Try.sizeMach ?_)
  refine (machine_Check x M R L 512 mc 8 rc n c _ (ints_now HM.out HW0.out) (ints_now HR.out HW0.out) (lines_now HL.out HW0.out)).mono ?_
  rw [H0.out]
  rintro e w1 ⟨rfl, hb1⟩
  have HB1 := Lib.hid hb1
  have hz1 := hb1.size
  have HW1 := Lib.hid (HW0.out.trans (hb1.mono (by omega)))
  have H2a := Lib.hid (whl_since H2.out HB1.out)
  have H4a := Lib.hid (whl_since H4.out HB1.out)
  clear hb1 H2 H4
  go_wp2_with (refine wpList_load_whl rfl 33 (.tmp 2) rfl (w.heap.size) _ _ rfl H2a.out _ Try.underlying33 rfl Try.sizeMach ?_)
  refine (machine_Copy x M R L mc rc n c _ (ints_now HM.out HW1.out) (ints_now HR.out HW1.out) (lines_now HL.out HW1.out) HN.out).mono ?_
  rintro e w2 ⟨M2, mc2, R2, rc2, L2, c2, rfl, ho2, hor2, hol2, hb2⟩
  have HB2 := Lib.hid hb2
  have hz2 := hb2.size
  have HW2 := Lib.hid (HW1.out.trans (hb2.mono (by omega)))
  have HOM := Lib.hid ho2
  have HOR := Lib.hid hor2
  have HOL := Lib.hid hol2
  have H2b := Lib.hid (whl_since H2a.out HB2.out)
  have H4b := Lib.hid (whl_since H4a.out HB2.out)
  clear hb2 ho2 hor2 hol2 H2a H4a
  go_upto_region 7 with (refine wpList_store_all rfl 33 (.tmp 2) (.tmp 27) rfl (w.heap.size) _ _ #[.slice M2 512 mc2, .int .i64 x.h.at_, .slice R2 8 rc2, .bool x.h.done, .int .i64 x.b.mode, .int .i64 x.b.base, .slice L2 n c2, .int .i64 x.b.orders.page, .int .i64 x.b.orders.head, .int .i64 x.b.orders.tail, .bool x.b.stopped, .int .i64 x.b.fences, .int .i64 x.b.faults.page, .int .i64 x.b.faults.head, .int .i64 x.b.faults.tail, .bool x.b.lost] rfl rfl H2b.out Try.sizeMach rfl rfl ?_; intro w3 h2c t3)
  have J0 : Hid (RunI w x [] [] none 0 0 none 0 0 M2 512 mc2 R2 8 rc2 L2 n c2 w3) := Lib.hid (by
    have hz3 := t3.2
    have om := trn_ownI HOM.out t3 (by omega)
    have or := trn_ownI HOR.out t3 (by omega)
    have ol := trn_ownL HOL.out t3 (by omega)
    exact ⟨below_trn HW2.out (by omega) t3 (Nat.le_refl _), by omega, h2c, whl_trn H4b.out t3 (by omega),
      ⟨om.ints (by decide), or.ints (by decide), ol.lines, fun _ ad e => ⟨by have := (own_blk om.2 ad e).1; omega, (fun _ h => nomatch h), (fun _ h => nomatch h)⟩, fun _ ad e => ⟨by have := (own_blk or.2 ad e).1; omega, (fun _ h => nomatch h), (fun _ h => nomatch h)⟩, fun _ ad e => ⟨by have := (own_blk ol.2.2.2 ad e).1; omega, (fun _ h => nomatch h), (fun _ h => nomatch h)⟩⟩,
      ownS_nil _ _, ownE_nil _ _, (fun e h => nomatch h), (fun _ _ h => nomatch h)⟩)
  clear h2c t3 HOM HOR HOL H2b H4b HW0 HW1 HW2 HB1 HB2 hz0a hz0b hz1 hz2
  go_wp2
  go_loopw [30, 9, 10] (fun s30 s9 s10 wr => ∃ (k : Nat) (es : List Tle) (TA : Option Addr) (tc : Nat) (SA : Option Addr) (sc : Nat) (M : Option Addr) (nm mc : Nat) (R : Option Addr) (nr rc : Nat) (L : Option Addr) (n c : Nat), k ≤ hn ∧ s30 = .int .i64 k ∧ s9 = .slice TA k tc ∧ s10 = .slice SA k sc ∧ Hid (es.map Tle.t = runT x (hs.take k)) ∧ Hid (RunI w (runS x (hs.take k)) es (runR x (hs.take k)) TA k tc SA k sc M nm mc R nr rc L n c wr)) (fun s30 _ _ _ => hn - (intOf s30).toNat)
  case atStart => exact ⟨0, [], none, 0, none, 0, M2, 512, mc2, R2, 8, rc2, L2, n, c2, by omega, rfl, rfl, rfl, rfl, J0.out⟩
  case round =>
    clear HM HR HL HN J0
    obtain ⟨k, es, TA, tc, SA, sc, M, nm, mc, R, nr, rc, L, n, c, hk, rfl, rfl, rfl, hes, I0⟩ := hrel
    have HES := Lib.hid hes.out
    have hws := I0.out.size
    clear hes
    by_cases hlt : k < hn
    · obtain ⟨y, hyk⟩ := some_of_lt hs (k := k) (by rw [HHL.out]; exact hlt)
      have HY := Lib.hid hyk
      obtain ⟨b, off, rfl, hb, hcc⟩ := (haps_now HH.out I0.out.below).at_ (by omega)
      obtain ⟨HD0, nd, cd, hcs, hda⟩ := hcc k y hyk
      have HRG := Lib.hid (hap_range hcs)
      have HDD := Lib.hid hda
      have q1 : (0 : Int) ≤ (k : Int) := by omega
      have q2 : (k : Int) < (hn : Int) := by omega
      obtain ⟨⟨z, t⟩, hDA⟩ : ∃ r, doA (runS x (hs.take k)) y = r := ⟨_, rfl⟩
      obtain ⟨E, hDE⟩ : ∃ E, doE (runS x (hs.take k)) y = E := ⟨_, rfl⟩
      have HDA := Lib.hid hDA
      have HDE := Lib.hid hDE
      clear hcc hcs hda hyk hDA hDE
      go_wp2_with (first
        | (refine wpList_load_mid rfl 46 (.tmp 32) rfl b (off + k * 7) (by rfl) _ _ HRG.out Try.underlying46 rfl Try.sizeHap ?_)
        | (refine wpList_store_new rfl 46 (.tmp 12) (.tmp 33) rfl _ _ _ _ rfl rfl (by rfl) (by rfl) Try.sizeHap rfl (by rfl) ?_)
        | (refine wpList_load_whl rfl 33 (.tmp 2) rfl w.heap.size _ _ rfl (whl_alloc I0.out.m _) _ Try.underlying33 rfl Try.sizeMach ?_)
        | (refine wpList_load_whl rfl 46 (.tmp 12) rfl wr.heap.size _ _ rfl (whl_new wr _ _ rfl) _ Try.underlying46 rfl Try.sizeHap ?_))
      refine (mdo_ans (runS x (hs.take k)) y M R L HD0 nd cd _ nm mc nr rc n c (ints_now I0.out.mv.hm ((Below.refl _ _).alloc (Nat.le_refl _) _)) (ints_now I0.out.mv.hr ((Below.refl _ _).alloc (Nat.le_refl _) _)) (lines_now I0.out.mv.hl ((Below.refl _ _).alloc (Nat.le_refl _) _)) (ints_now HDD.out ((Below.refl _ _).alloc (Nat.le_refl _) _)) (z, t) E HDA.out HDE.out).mono ?_
      rintro e w5 ⟨M5, nm5, mc5, R5, nr5, rc5, L5, n5, c5, D5, dn5, dc5, T5, tn5, tc5, rfl, hv5, ht5, hb5⟩
      have hz5 := hb5.size
      simp only [World.size_alloc] at hz5
      have HS5 := Lib.hid (show Below wr.heap.size wr w5 from ((Below.refl wr.heap.size wr).alloc (Nat.le_refl _) _).trans (hb5.mono (by simp)))
      have HV5 := Lib.hid hv5
      have HT5 := Lib.hid ht5
      clear hb5 hv5 ht5
      by_cases hE : E = 0
      · have t0 : (E == 0) = true := by rw [beq_iff_eq]; exact hE
        have HE := Lib.hid hE
        clear hE
        go_upto_region 14 with (first
          | (refine wpList_store_all rfl 33 (.tmp 13) (.tmp 38) rfl (w5.heap.size) _ _ #[.slice M5 nm5 mc5, .int .i64 z.h.at_, .slice R5 nr5 rc5, .bool z.h.done, .int .i64 z.b.mode, .int .i64 z.b.base, .slice L5 n5 c5, .int .i64 z.b.orders.page, .int .i64 z.b.orders.head, .int .i64 z.b.orders.tail, .bool z.b.stopped, .int .i64 z.b.fences, .int .i64 z.b.faults.page, .int .i64 z.b.faults.head, .int .i64 z.b.faults.tail, .bool z.b.lost] rfl rfl (whl_alloc (whl_new w5 _ _ rfl) _) Try.sizeMach rfl rfl ?_; intro w6 h6 t6)
          | (refine wpList_store_all rfl 41 (.tmp 14) (.tmp 39) rfl (w5.heap.size + 1) _ _ #[.bool t.done, .slice D5 dn5 dc5, .int .i64 t.fault, .slice T5 tn5 tc5] rfl rfl (whl_trn (whl_new (w5.alloc _) _ _ (by simp)) t6 (Nat.succ_ne_self _)) Try.sizeTold rfl rfl ?_; intro w7 h7 t7))
        have hw6 := t6.2
        have hw7 := t7.2
        (try simp only [World.size_alloc] at hw6)
        have hz7 : wr.heap.size + 1 ≤ w5.heap.size := hz5
        have hz7a : w7.heap.size ≤ w5.heap.size + 1 + 1 := by omega
        have hz7b : w5.heap.size + 1 + 1 ≤ w7.heap.size := by omega
        have C7 := Lib.hid (chg_trans (chg_mono (Q := fun q => w5.heap.size ≤ q) t6.1 (fun q _ e => by omega)) (chg_mono t7.1 (fun q _ e => by omega)))
        have HS7 := Lib.hid (show Below wr.heap.size wr w7 from below_chg ((HS5.out.alloc (by omega) _).alloc (by simp; omega) _) (by simp; omega) C7.out (fun q hq e => by omega))
        have I7 := Lib.hid (I0.out.since HS7.out)
        have hB5 : Below w5.heap.size w5 w7 := below_chg (((Below.refl w5.heap.size w5).alloc (Nat.le_refl _) _).alloc (by simp) _) (by simp; omega) C7.out (fun q hq e => by omega)
        have MV7 := Lib.hid (MachV.av (x := z) (HV5.out.since hB5) (Av' := fun q => wr.heap.size + 1 ≤ q) (fun q hq => by simp only [World.size_alloc] at hq; exact hq))
        have TV7 := Lib.hid (TldV.av (t := t) (HT5.out.since hB5) (Av' := fun q => wr.heap.size + 1 ≤ q) (fun q hq => by simp only [World.size_alloc] at hq; exact hq))
        have OT7 := Lib.hid (own_blk I0.out.ot.2.2.2)
        have OS7 := Lib.hid (own_blk I0.out.os.2.2.2)
        have H6 := Lib.hid h6
        have H7 := Lib.hid h7
        have T7 := Lib.hid t7
        clear h6 h7 t6 t7 hw6 hw7 hB5
        go_upto_region 15 with (first
          | (refine wpList_load_whl rfl 33 (.tmp 13) rfl w5.heap.size _ _ rfl (whl_trn H6.out T7.out (by omega)) _ Try.underlying33 rfl Try.sizeMach ?_)
          | (refine wpList_store_all rfl 33 (.tmp 2) (.tmp 43) rfl (w.heap.size) _ _ #[.slice M5 nm5 mc5, .int .i64 z.h.at_, .slice R5 nr5 rc5, .bool z.h.done, .int .i64 z.b.mode, .int .i64 z.b.base, .slice L5 n5 c5, .int .i64 z.b.orders.page, .int .i64 z.b.orders.head, .int .i64 z.b.orders.tail, .bool z.b.stopped, .int .i64 z.b.fences, .int .i64 z.b.faults.page, .int .i64 z.b.faults.head, .int .i64 z.b.faults.tail, .bool z.b.lost] rfl rfl I7.out.m Try.sizeMach rfl rfl ?_; intro w8 h8 t8))
        have I8 := Lib.hid (RunI.store I7.out h8 t8 (MachV.av (x := z) MV7.out (fun q hq => ⟨by omega, fun ad e => by have := (OT7.out ad e).2; omega, fun ad e => by have := (OS7.out ad e).2; omega⟩)))
        have TV8 := Lib.hid (TldV.av (TldV.trn TV7.out t8 (fun hq => by omega)) (Av' := avt (w.heap.size + 2) TA SA) (fun q hq => ⟨by omega, fun ad e => by have := (OT7.out ad e).2; omega, fun ad e => by have := (OS7.out ad e).2; omega⟩))
        have H14 := Lib.hid (whl_trn H7.out t8 (by omega))
        have hw8 := t8.2
        have hz8 : w.heap.size + 2 ≤ w8.heap.size := by omega
        clear hw8
        go_wp2_with (first
          | (refine wpList_load_whl rfl 41 (.tmp 14) rfl (w5.heap.size + 1) _ _ rfl H14.out _ Try.underlying41 rfl Try.sizeTold ?_)
          | (at_builtin; refine wpList_append_lies _ rfl (.tmp 44) (.tmp 46) 80 rfl (w.heap.size + 2) 41 j0 (.agg #[.bool false, .slice none 0 0, .int .i64 0, .slice none 0 0]) 4 64 Try.underlying80 HJ.out HJ0.out HJ1.out HJ2.out rfl (by decide) (.slice TA k tc) k (elcells es) rfl (RunI.since I8.out ((Below.refl _ _).alloc (Nat.le_refl _) _)).ot.2.2.2 ⟨w8.heap.size, 0, none⟩ 1 1 (Tle.vals ⟨t, D5, dn5, dc5, T5, tn5, tc5⟩) rfl rfl (news_newV (by simp) rfl) (tle_one _) (by decide) (by unfold maxLen; omega) (by omega) (by simp; omega) _ rfl ?_; intro g9 cap9 w9 hown9 hgrow9 hat9 hlt9; have I9 := RunI.told (e := ⟨t, D5, dn5, dc5, T5, tn5, tc5⟩) (RunI.since I8.out ((Below.refl _ _).alloc (Nat.le_refl _) _)) hgrow9 hown9 hat9 (TldV.since TV8.out ((Below.refl _ _).alloc (Nat.le_refl _) _)); have hz9 := I9.size; have hi9 := I9.below.size; clear hown9 hgrow9 hat9 hlt9)
          | (at_builtin; refine wpList_append_lies _ rfl (.tmp 48) (.tmp 50) 81 rfl (w.heap.size + 2) 37 i0 (.int .i64 0) 1 8 Try.underlying81 HI.out HI0.out HI1.out HI2.out rfl (by decide) (.slice SA k sc) k ((runR x (hs.take k)).map (Value.int .i64)) rfl (RunI.since I9 ((Below.refl _ _).alloc (Nat.le_refl _) _)).os.2.2.2 ⟨w9.heap.size, 0, none⟩ 1 1 [.int .i64 E] rfl rfl (news_newV (by simp) rfl) (int_one _) (by decide) (by unfold maxLen; omega) (by omega) (by simp; omega) _ rfl ?_; intro g10 cap10 w10 hown10 hgrow10 hat10 hlt10; have I10 := RunI.said (v := E) (RunI.since I9 ((Below.refl _ _).alloc (Nat.le_refl _) _)) hgrow10 hown10 hat10; clear hown10 hgrow10 hat10 hlt10))
        go_roundw
        case rel =>
          obtain ⟨e1, e2, e3⟩ := runS_next (x := x) HY.out
          refine ⟨k + 1, es ++ [⟨t, D5, dn5, dc5, T5, tn5, tc5⟩], some ⟨g9, 0, none⟩, cap9, some ⟨g10, 0, none⟩, cap10, M5, nm5, mc5, R5, nr5, rc5, L5, n5, c5, by omega, by go_num, rfl, rfl, ?_, ?_⟩
          · show (es ++ [_]).map Tle.t = _
            rw [List.map_append, HES.out, e2, HDA.out]; rfl
          · show RunI _ _ _ _ _ _ _ _ _ _ _ _ _ _ _ _ _ _ _ _
            rw [e1, e3, nxt_0 (by rw [HDE.out]; exact HE.out), HDA.out, HDE.out]
            exact I10
        case measure => simp [intOf]; omega
      · have t0 : (E == 0) = false := beq_eq_false_iff_ne.2 hE
        have HE := Lib.hid hE
        clear hE
        go_upto_region 15 with (first
          | (refine wpList_store_all rfl 33 (.tmp 13) (.tmp 38) rfl (w5.heap.size) _ _ #[.slice M5 nm5 mc5, .int .i64 z.h.at_, .slice R5 nr5 rc5, .bool z.h.done, .int .i64 z.b.mode, .int .i64 z.b.base, .slice L5 n5 c5, .int .i64 z.b.orders.page, .int .i64 z.b.orders.head, .int .i64 z.b.orders.tail, .bool z.b.stopped, .int .i64 z.b.fences, .int .i64 z.b.faults.page, .int .i64 z.b.faults.head, .int .i64 z.b.faults.tail, .bool z.b.lost] rfl rfl (whl_alloc (whl_new w5 _ _ rfl) _) Try.sizeMach rfl rfl ?_; intro w6 h6 t6)
          | (refine wpList_store_all rfl 41 (.tmp 14) (.tmp 39) rfl (w5.heap.size + 1) _ _ #[.bool t.done, .slice D5 dn5 dc5, .int .i64 t.fault, .slice T5 tn5 tc5] rfl rfl (whl_trn (whl_new (w5.alloc _) _ _ (by simp)) t6 (Nat.succ_ne_self _)) Try.sizeTold rfl rfl ?_; intro w7 h7 t7))
        have hw6 := t6.2
        have hw7 := t7.2
        (try simp only [World.size_alloc] at hw6)
        have hz7 : wr.heap.size + 1 ≤ w5.heap.size := hz5
        have hz7a : w7.heap.size ≤ w5.heap.size + 1 + 1 := by omega
        have hz7b : w5.heap.size + 1 + 1 ≤ w7.heap.size := by omega
        have C7 := Lib.hid (chg_trans (chg_mono (Q := fun q => w5.heap.size ≤ q) t6.1 (fun q _ e => by omega)) (chg_mono t7.1 (fun q _ e => by omega)))
        have HS7 := Lib.hid (show Below wr.heap.size wr w7 from below_chg ((HS5.out.alloc (by omega) _).alloc (by simp; omega) _) (by simp; omega) C7.out (fun q hq e => by omega))
        have I7 := Lib.hid (I0.out.since HS7.out)
        have hB5 : Below w5.heap.size w5 w7 := below_chg (((Below.refl w5.heap.size w5).alloc (Nat.le_refl _) _).alloc (by simp) _) (by simp; omega) C7.out (fun q hq e => by omega)
        have MV7 := Lib.hid (MachV.av (x := z) (HV5.out.since hB5) (Av' := fun q => wr.heap.size + 1 ≤ q) (fun q hq => by simp only [World.size_alloc] at hq; exact hq))
        have TV7 := Lib.hid (TldV.av (t := t) (HT5.out.since hB5) (Av' := fun q => wr.heap.size + 1 ≤ q) (fun q hq => by simp only [World.size_alloc] at hq; exact hq))
        have OT7 := Lib.hid (own_blk I0.out.ot.2.2.2)
        have OS7 := Lib.hid (own_blk I0.out.os.2.2.2)
        have H6 := Lib.hid h6
        have H7 := Lib.hid h7
        have T7 := Lib.hid t7
        clear h6 h7 t6 t7 hw6 hw7 hB5
        obtain ⟨w8, hw8⟩ : ∃ w8, w8 = w7 := ⟨_, rfl⟩
        subst hw8
        have I8 := I7
        have TV8 := Lib.hid (TldV.av TV7.out (Av' := avt (w.heap.size + 2) TA SA) (fun q hq => ⟨by omega, fun ad e => by have := (OT7.out ad e).2; omega, fun ad e => by have := (OS7.out ad e).2; omega⟩))
        have H14 := H7
        have hz8 : w.heap.size + 2 ≤ w8.heap.size := by omega
        go_wp2_with (first
          | (refine wpList_load_whl rfl 41 (.tmp 14) rfl (w5.heap.size + 1) _ _ rfl H14.out _ Try.underlying41 rfl Try.sizeTold ?_)
          | (at_builtin; refine wpList_append_lies _ rfl (.tmp 44) (.tmp 46) 80 rfl (w.heap.size + 2) 41 j0 (.agg #[.bool false, .slice none 0 0, .int .i64 0, .slice none 0 0]) 4 64 Try.underlying80 HJ.out HJ0.out HJ1.out HJ2.out rfl (by decide) (.slice TA k tc) k (elcells es) rfl (RunI.since I8.out ((Below.refl _ _).alloc (Nat.le_refl _) _)).ot.2.2.2 ⟨w8.heap.size, 0, none⟩ 1 1 (Tle.vals ⟨t, D5, dn5, dc5, T5, tn5, tc5⟩) rfl rfl (news_newV (by simp) rfl) (tle_one _) (by decide) (by unfold maxLen; omega) (by omega) (by simp; omega) _ rfl ?_; intro g9 cap9 w9 hown9 hgrow9 hat9 hlt9; have I9 := RunI.told (e := ⟨t, D5, dn5, dc5, T5, tn5, tc5⟩) (RunI.since I8.out ((Below.refl _ _).alloc (Nat.le_refl _) _)) hgrow9 hown9 hat9 (TldV.since TV8.out ((Below.refl _ _).alloc (Nat.le_refl _) _)); have hz9 := I9.size; have hi9 := I9.below.size; clear hown9 hgrow9 hat9 hlt9)
          | (at_builtin; refine wpList_append_lies _ rfl (.tmp 48) (.tmp 50) 81 rfl (w.heap.size + 2) 37 i0 (.int .i64 0) 1 8 Try.underlying81 HI.out HI0.out HI1.out HI2.out rfl (by decide) (.slice SA k sc) k ((runR x (hs.take k)).map (Value.int .i64)) rfl (RunI.since I9 ((Below.refl _ _).alloc (Nat.le_refl _) _)).os.2.2.2 ⟨w9.heap.size, 0, none⟩ 1 1 [.int .i64 E] rfl rfl (news_newV (by simp) rfl) (int_one _) (by decide) (by unfold maxLen; omega) (by omega) (by simp; omega) _ rfl ?_; intro g10 cap10 w10 hown10 hgrow10 hat10 hlt10; have I10 := RunI.said (v := E) (RunI.since I9 ((Below.refl _ _).alloc (Nat.le_refl _) _)) hgrow10 hown10 hat10; clear hown10 hgrow10 hat10 hlt10))
        go_roundw
        case rel =>
          obtain ⟨e1, e2, e3⟩ := runS_next (x := x) HY.out
          refine ⟨k + 1, es ++ [⟨t, D5, dn5, dc5, T5, tn5, tc5⟩], some ⟨g9, 0, none⟩, cap9, some ⟨g10, 0, none⟩, cap10, M, nm, mc, R, nr, rc, L, n, c, by omega, by go_num, rfl, rfl, ?_, ?_⟩
          · show (es ++ [_]).map Tle.t = _
            rw [List.map_append, HES.out, e2, HDA.out]; rfl
          · show RunI _ _ _ _ _ _ _ _ _ _ _ _ _ _ _ _ _ _ _ _
            rw [e1, e3, nxt_n (by rw [HDE.out]; exact HE.out), HDE.out]
            exact I10
        case measure => simp [intOf]; omega
    · obtain rfl : k = hn := by omega
      have hh3 : ¬ ((k : Int) < (k : Int)) := by omega
      clear hlt
      go_wp2_with (first
        | (refine wpList_load_whl rfl 33 (.tmp 2) rfl w.heap.size _ _ rfl I0.out.m _ Try.underlying33 rfl Try.sizeMach ?_)
        | (refine wpList_store_all rfl 33 (.tmp 4) (.tmp 53) rfl (w.heap.size + 1) _ _ #[.slice M nm mc, .int .i64 (runS x (hs.take k)).h.at_, .slice R nr rc, .bool (runS x (hs.take k)).h.done, .int .i64 (runS x (hs.take k)).b.mode, .int .i64 (runS x (hs.take k)).b.base, .slice L n c, .int .i64 (runS x (hs.take k)).b.orders.page, .int .i64 (runS x (hs.take k)).b.orders.head, .int .i64 (runS x (hs.take k)).b.orders.tail, .bool (runS x (hs.take k)).b.stopped, .int .i64 (runS x (hs.take k)).b.fences, .int .i64 (runS x (hs.take k)).b.faults.page, .int .i64 (runS x (hs.take k)).b.faults.head, .int .i64 (runS x (hs.take k)).b.faults.tail, .bool (runS x (hs.take k)).b.lost] rfl rfl I0.out.z Try.sizeMach rfl rfl ?_; intro w9 h4e t4))
      go_wp2
      refine bodyPost_ret (v := .tuple #[.agg #[.slice M nm mc, .int .i64 (runS x (hs.take k)).h.at_, .slice R nr rc, .bool (runS x (hs.take k)).h.done, .int .i64 (runS x (hs.take k)).b.mode, .int .i64 (runS x (hs.take k)).b.base, .slice L n c, .int .i64 (runS x (hs.take k)).b.orders.page, .int .i64 (runS x (hs.take k)).b.orders.head, .int .i64 (runS x (hs.take k)).b.orders.tail, .bool (runS x (hs.take k)).b.stopped, .int .i64 (runS x (hs.take k)).b.fences, .int .i64 (runS x (hs.take k)).b.faults.page, .int .i64 (runS x (hs.take k)).b.faults.head, .int .i64 (runS x (hs.take k)).b.faults.tail, .bool (runS x (hs.take k)).b.lost], .slice TA k tc, .slice SA k sc, .int .i64 0]) ?_ rfl ?_
      · exact results_4 Try.results25 rfl rfl rfl rfl (run_whl h4e _ Try.underlying33 rfl Try.sizeMach)
      · have ea : hs.take k = hs := List.take_of_length_le (by rw [HHL.out]; exact Nat.le_refl _)
        have es' := HES.out
        have I := I0.out
        rw [ea] at es' I
        have ht := own_blk I.ot.2.2.2
        have hs' := own_blk I.os.2.2.2
        have hzz := t4.2
        refine ⟨M, nm, mc, R, nr, rc, L, n, c, es, TA, k, tc, SA, k, sc, by rw [ea], (I.mv.trn t4 (fun hq => by have := hq.1; omega)).av (fun q hq => by have := hq.1; omega), ⟨I.ot.1, I.ot.2.1, I.ot.2.2.1, own_low (chg_owns I.ot.2.2.2 t4.1 (fun ad e hp => by have := (ht ad e).1; omega)) (by omega)⟩, es', ⟨I.os.1, I.os.2.1, I.os.2.2.1, own_low (chg_owns I.os.2.2.2 t4.1 (fun ad e hp => by have := (hs' ad e).1; omega)) (by omega)⟩, fun e he => ((I.el e he).trn t4 (fun hq => by have := hq.1; omega)).av (fun q hq => by have := hq.1; omega), below_trn I.below (by omega) t4 (by omega)⟩
end
end Go.Proofs.Ytbopdijnojaaiad
