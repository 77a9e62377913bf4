/- The audit: the walk of the program's Fair. No statement of the seat is proved here. -/
import Derived.Test.YtbopdijnojaaiadAud1
import Derived.Test.YtbopdijnojaaiadOpenM
import Derived.Test.YtbopdijnojaaiadMachC
import Derived.Test.YtbopdijnojaaiadBridgeS
import Derived.Deep.RegionHeld3
import Derived.Deep.DrawnRows
import Derived.Deep.DeepCutAuto
namespace Go.Proofs.Ytbopdijnojaaiad
open Go.RowKit
set_option linter.unusedSimpArgs false
set_option linter.unusedVariables false
attribute [local go_sem ↓] Go.wp_at_zero Go.wp_at_succ

set_option maxRecDepth 100000 in
set_option maxHeartbeats 2000000 in
theorem fair_many (A : Option Addr) (n c : Nat) (t : Tch) (w : World) (hn : 121 < n) (hn2 : n ≤ 9223372036854775807) :
    Calls Try.prog 10 #[.slice A n c, .agg #[.int .i64 t.dev, .int .i64 t.seen, .int .i64 t.at_, .bool t.wr, .int .i64 t.value]] w fun e w' => e = .returned (.tuple #[.int .i64 0, .int .i64 1]) ∧ Below w.heap.size w w' := by
  have HB := Lib.hid (below_alloc w)
  have h1 : (121 : Int) < (n : Int) := by omega
  go_enter Try.func10, Try.ntmps10
  go_wp2
  go_ret2
  exact ⟨rfl, HB.out _⟩
theorem keep16 {w1 W : World} {p0 p1 p2 p3 p4 p5 p6 p7 p8 p9 p10 p11 p12 p13 p14 p15 : Addr} {v0 v1 v2 v3 v4 v5 v6 v7 v8 v9 v10 v11 v12 v13 v14 v15 : Value} (h : Since w1 W) (h0 : w1.cell? p0 = some v0) (h1 : w1.cell? p1 = some v1) (h2 : w1.cell? p2 = some v2) (h3 : w1.cell? p3 = some v3) (h4 : w1.cell? p4 = some v4) (h5 : w1.cell? p5 = some v5) (h6 : w1.cell? p6 = some v6) (h7 : w1.cell? p7 = some v7) (h8 : w1.cell? p8 = some v8) (h9 : w1.cell? p9 = some v9) (h10 : w1.cell? p10 = some v10) (h11 : w1.cell? p11 = some v11) (h12 : w1.cell? p12 = some v12) (h13 : w1.cell? p13 = some v13) (h14 : w1.cell? p14 = some v14) (h15 : w1.cell? p15 = some v15) : W.cell? p0 = some v0 ∧ W.cell? p1 = some v1 ∧ W.cell? p2 = some v2 ∧ W.cell? p3 = some v3 ∧ W.cell? p4 = some v4 ∧ W.cell? p5 = some v5 ∧ W.cell? p6 = some v6 ∧ W.cell? p7 = some v7 ∧ W.cell? p8 = some v8 ∧ W.cell? p9 = some v9 ∧ W.cell? p10 = some v10 ∧ W.cell? p11 = some v11 ∧ W.cell? p12 = some v12 ∧ W.cell? p13 = some v13 ∧ W.cell? p14 = some v14 ∧ W.cell? p15 = some v15 ∧ Hid (Since w1 W) := ⟨since_cell h h0, since_cell h h1, since_cell h h2, since_cell h h3, since_cell h h4, since_cell h h5, since_cell h h6, since_cell h h7, since_cell h h8, since_cell h h9, since_cell h h10, since_cell h h11, since_cell h h12, since_cell h h13, since_cell h h14, since_cell h h15, h⟩
theorem since_16 {w1 W : World} {c0 c1 c2 c3 c4 c5 c6 c7 c8 c9 c10 c11 c12 c13 c14 c15 : Prop} (h : c0 ∧ c1 ∧ c2 ∧ c3 ∧ c4 ∧ c5 ∧ c6 ∧ c7 ∧ c8 ∧ c9 ∧ c10 ∧ c11 ∧ c12 ∧ c13 ∧ c14 ∧ c15 ∧ Hid (Since w1 W)) : Since w1 W := h.2.2.2.2.2.2.2.2.2.2.2.2.2.2.2.2
theorem hit_eq {x : Mch} {t : Tch} {rb : Brg} {ra rf : Int} (h : thruM x.m { x.b with cache := [] } t.dev (t.seen / 8) t.wr = (rb, ra, rf)) : hitM x t = (rf == 0 && ra == t.at_ / 8) := by unfold hitM; rw [h]
theorem plain_ok {x : Mch} {t : Tch} (h : ckM x = 0) (ht : tchE t = 0) : thruE x.m { x.b with cache := [] } t.dev (t.seen / 8) = 0 ∧ thruA x.m { x.b with cache := [] } t.dev (t.seen / 8) t.wr = thruM x.m { x.b with cache := [] } t.dev (t.seen / 8) t.wr := by
  obtain ⟨h1, _, h3⟩ := (ckM_iff x).1 h
  have h4 : ckB { x.b with cache := [] } = 0 := by
    rw [ckB_iff] at h3 ⊢
    exact ⟨h3.1, ckC_nil, h3.2.2⟩
  have e : thruE x.m { x.b with cache := [] } t.dev (t.seen / 8) = 0 := by unfold thruE; rw [if_pos (allE_0 h1 h4), if_pos (hit_in ht)]
  exact ⟨e, by unfold thruA; rw [if_pos e]⟩
theorem ckK_len {ms : List Mch} {n : Nat} (h : ms.length = n) : ckK ms n = ckK ms ms.length := by rw [h]
/-- what Fair answers. -/
def FairC (w : World) (V E : Int) (e : Ending) (w' : World) : Prop := e = .returned (.tuple #[.int .i64 V, .int .i64 E]) ∧ Below w.heap.size w w'
set_option maxRecDepth 100000 in
set_option maxHeartbeats 4000000 in
theorem fair_few (A : Option Addr) (n c : Nat) (ms : List Mch) (t : Tch) (w : World) (hx : Machs w w.heap.size A n c ms) (hn : n ≤ 121) :
    Calls Try.prog 10 #[.slice A n c, .agg #[.int .i64 t.dev, .int .i64 t.seen, .int .i64 t.at_, .bool t.wr, .int .i64 t.value]] w (FairC w (fairV ms t) (fairE ms t)) := by
  have hcap := hx.cap
  have HX := Lib.hid hx
  have HLN := Lib.hid hx.len
  have HFE := Lib.hid (show fairE ms t = if ckK ms n = 0 then tchE t else ckK ms n by unfold fairE; rw [hx.len, if_pos hn])
  have HFV := Lib.hid (show fairE ms t = 0 → fairV ms t = fairK ms t n from fun h => by unfold fairV; rw [if_pos h, hx.len])
  have HFN := Lib.hid (show fairE ms t ≠ 0 → fairV ms t = 0 from fun h => by unfold fairV; rw [if_neg h])
  obtain ⟨hc1, hc2⟩ := hcap
  clear hx
  go_enter Try.func10, Try.ntmps10
  go_wp2
  go_loopw [19, 7] (fun i _ wr => ∃ k : Nat, k ≤ n ∧ i = .int .i64 k ∧ Hid (ckK ms k = 0) ∧ Hid (Below w.heap.size w wr) ∧ Hid (∀ o, wr.cell? ⟨w.heap.size, o, none⟩ = ([.int .i64 t.dev, .int .i64 t.seen, .int .i64 t.at_, .bool t.wr, .int .i64 t.value] : List Value)[o]?) ∧ Hid (w.heap.size < wr.heap.size)) (fun i _ _ => n - (intOf i).toNat)
  case atStart =>
    refine ⟨0, by omega, rfl, rfl, ?_, ?_, ?_⟩
    · exact (Below.refl _ _).alloc (Nat.le_refl _) _
    · show ∀ o, _ = _
      intro o; simp [go_sem]
    · show _ < _
      simp
  case round =>
    obtain ⟨k, hk, rfl, HK, HW, HC, HZ⟩ := hrel
    have hz := HZ.out
    have hz2 := HW.out.size
    have hc := HC.out
    by_cases hlt : k < n
    · obtain ⟨x, hxk⟩ := some_of_lt ms (k := k) (by rw [HLN.out]; exact hlt)
      obtain ⟨b, off, rfl, hb, hcc⟩ := (machs_now HX.out HW.out).at_ (by omega)
      obtain ⟨M, nm, mc, R, nr, rc, L, n', c', ⟨c0, c1, c2, c3, c4, c5, c6, c7, c8, c9, c10, c11, c12, c13, c14, c15⟩, h1, h2, h3⟩ := hcc k x hxk
      have H1 := Lib.hid h1
      have H2 := Lib.hid h2
      have H3 := Lib.hid h3
      have HXK := Lib.hid hxk
      clear hcc h1 h2 h3 hxk
      have l1 : w.heap.size < wr.heap.size + 1 := by omega
      by_cases hck : ckM x = 0
      · have HCK := Lib.hid hck
        clear hck
        go_wp2_with fail
        refine (machine_Check x _ _ _ _ _ _ _ _ _ _ (ints_now H1.out (by (repeat (first | (with_reducible exact Below.refl _ _) | (with_reducible refine Below.drew ?_) | (with_reducible refine bdrewN ?_ _) | ((with_reducible refine Below.setCell ?_ ?_ _); rotate_left; exact (by first | (simp; done) | (simp; omega) | omega)) | ((with_reducible refine Below.alloc ?_ ?_ _); rotate_left; exact (by first | (simp; done) | (simp; omega) | omega)))))) (ints_now H2.out (by (repeat (first | (with_reducible exact Below.refl _ _) | (with_reducible refine Below.drew ?_) | (with_reducible refine bdrewN ?_ _) | ((with_reducible refine Below.setCell ?_ ?_ _); rotate_left; exact (by first | (simp; done) | (simp; omega) | omega)) | ((with_reducible refine Below.alloc ?_ ?_ _); rotate_left; exact (by first | (simp; done) | (simp; omega) | omega)))))) (lines_now H3.out (by (repeat (first | (with_reducible exact Below.refl _ _) | (with_reducible refine Below.drew ?_) | (with_reducible refine bdrewN ?_ _) | ((with_reducible refine Below.setCell ?_ ?_ _); rotate_left; exact (by first | (simp; done) | (simp; omega) | omega)) | ((with_reducible refine Below.alloc ?_ ?_ _); rotate_left; exact (by first | (simp; done) | (simp; omega) | omega))))))).mono ?_
        rw [HCK.out]
        rintro e w1 ⟨rfl, hb1⟩
        have hz1 := hb1.size
        (try simp only [World.size_alloc, World.size_setCell, World.size_drew] at hz1)
        have k1_0 := fun o => (bcell hb1).1 (w.heap.size) o (by first | (simp; done) | (simp; omega) | omega)
        have l1_0 : (w.heap.size) < w1.heap.size := (by omega)
        have q1_0 := fun o => (bcell hb1).2 (w.heap.size) o (by first | (simp; done) | (simp; omega) | omega)
        simp (maxDischargeDepth := 6) [go_sem, *] at k1_0 q1_0
        have HB1 := Lib.hid hb1
        clear hb1
        go_wp2
        go_roundw
        case rel =>
          refine ⟨k + 1, by omega, by go_num, ?_, ?_, ?_, ?_⟩
          · show _ = _
            rw [ckK_ok HK.out HXK.out, HCK.out]
          · show Below _ _ _
            (repeat (first | (with_reducible exact Below.refl _ _) | (with_reducible refine Below.drew ?_) | (with_reducible refine bdrewN ?_ _) | ((with_reducible refine Below.setCell ?_ ?_ _); rotate_left; exact (by first | (simp; done) | (simp; omega) | omega)) | ((with_reducible refine Below.alloc ?_ ?_ _); rotate_left; exact (by first | (simp; done) | (simp; omega) | omega)) | ((with_reducible refine Below.trans ?_ (HB1.out.mono ?_)); rotate_left; exact (by first | (simp; done) | (simp; omega) | omega))))
            exact HW.out
          · exact k1_0
          · exact l1_0
        case measure => simp [intOf]; omega
      · have HCK := Lib.hid hck
        have t1 : (ckM x != 0) = true := by rw [bne_iff_ne]; exact hck
        clear hck
        go_wp2_with fail
        refine (machine_Check x _ _ _ _ _ _ _ _ _ _ (ints_now H1.out (by (repeat (first | (with_reducible exact Below.refl _ _) | (with_reducible refine Below.drew ?_) | (with_reducible refine bdrewN ?_ _) | ((with_reducible refine Below.setCell ?_ ?_ _); rotate_left; exact (by first | (simp; done) | (simp; omega) | omega)) | ((with_reducible refine Below.alloc ?_ ?_ _); rotate_left; exact (by first | (simp; done) | (simp; omega) | omega)))))) (ints_now H2.out (by (repeat (first | (with_reducible exact Below.refl _ _) | (with_reducible refine Below.drew ?_) | (with_reducible refine bdrewN ?_ _) | ((with_reducible refine Below.setCell ?_ ?_ _); rotate_left; exact (by first | (simp; done) | (simp; omega) | omega)) | ((with_reducible refine Below.alloc ?_ ?_ _); rotate_left; exact (by first | (simp; done) | (simp; omega) | omega)))))) (lines_now H3.out (by (repeat (first | (with_reducible exact Below.refl _ _) | (with_reducible refine Below.drew ?_) | (with_reducible refine bdrewN ?_ _) | ((with_reducible refine Below.setCell ?_ ?_ _); rotate_left; exact (by first | (simp; done) | (simp; omega) | omega)) | ((with_reducible refine Below.alloc ?_ ?_ _); rotate_left; exact (by first | (simp; done) | (simp; omega) | omega))))))).mono ?_
        rintro e w1 ⟨rfl, hb1⟩
        have hz1 := hb1.size
        (try simp only [World.size_alloc, World.size_setCell, World.size_drew] at hz1)
        have HB1 := Lib.hid hb1
        clear hb1
        go_wp2
        go_ret2
        have e1 := ckK_ok HK.out HXK.out
        have e2 : ckK ms n = ckM x := by rw [ckK_stay (by rw [e1]; exact HCK.out) n (by omega), e1]
        have e3 : fairE ms t = ckM x := by rw [HFE.out, e2, if_neg HCK.out]
        refine ⟨?_, ?_⟩
        · rw [HFN.out (by rw [e3]; exact HCK.out), e3]
          simp only [Array.getD_eq_getD_getElem?, List.getElem?_toArray, List.getElem?_cons_zero, List.getElem?_cons_succ, Option.getD_some]
        · (repeat (first | (with_reducible exact Below.refl _ _) | (with_reducible refine Below.drew ?_) | (with_reducible refine bdrewN ?_ _) | ((with_reducible refine Below.setCell ?_ ?_ _); rotate_left; exact (by first | (simp; done) | (simp; omega) | omega)) | ((with_reducible refine Below.alloc ?_ ?_ _); rotate_left; exact (by first | (simp; done) | (simp; omega) | omega)) | ((with_reducible refine Below.trans ?_ (HB1.out.mono ?_)); rotate_left; exact (by first | (simp; done) | (simp; omega) | omega))))
          exact HW.out
    · obtain rfl : k = n := by omega
      by_cases hte : tchE t = 0
      rotate_left
      · have t1 : (tchE t != 0) = true := by rw [bne_iff_ne]; exact hte
        have HE := Lib.hid (show fairE ms t = tchE t by rw [HFE.out, if_pos HK.out])
        have HN := Lib.hid hte
        clear hte
        go_wp2_with fail
        refine (audit_Check t _).mono ?_
        rintro e w1 ⟨rfl, hb1⟩
        have hz1 := hb1.size
        (try simp only [World.size_alloc, World.size_setCell, World.size_drew] at hz1)
        have HB1 := Lib.hid hb1
        clear hb1
        go_wp2
        go_ret2
        refine ⟨?_, ?_⟩
        · rw [HFN.out (by rw [HE.out]; exact HN.out), HE.out]
          simp only [Array.getD_eq_getD_getElem?, List.getElem?_toArray, List.getElem?_cons_zero, List.getElem?_cons_succ, Option.getD_some]
        · (repeat (first | (with_reducible exact Below.refl _ _) | (with_reducible refine Below.drew ?_) | (with_reducible refine bdrewN ?_ _) | ((with_reducible refine Below.setCell ?_ ?_ _); rotate_left; exact (by first | (simp; done) | (simp; omega) | omega)) | ((with_reducible refine Below.alloc ?_ ?_ _); rotate_left; exact (by first | (simp; done) | (simp; omega) | omega)) | ((with_reducible refine Below.trans ?_ (HB1.out.mono ?_)); rotate_left; exact (by first | (simp; done) | (simp; omega) | omega))))
          exact HW.out
      · have HTE := Lib.hid hte
        have HE := Lib.hid (show fairE ms t = 0 by rw [HFE.out, if_pos HK.out, hte])
        have HIN := Lib.hid (hit_in hte)
        have hR := tchE_inv hte
        unfold tchR at hR
        obtain ⟨_, ⟨s1, s2⟩, ⟨a1, a2⟩⟩ := hR
        have e1 : t.seen.tdiv 8 = t.seen / 8 := Int.tdiv_eq_ediv_of_nonneg s1
        have e2 : t.at_.tdiv 8 = t.at_ / 8 := Int.tdiv_eq_ediv_of_nonneg a1
        clear hte
        go_wp2_with fail
        refine (audit_Check t _).mono ?_
        rw [HTE.out]
        rintro e w1 ⟨rfl, hb1⟩
        have hz1 := hb1.size
        (try simp only [World.size_alloc, World.size_setCell, World.size_drew] at hz1)
        have k1_0 := fun o => (bcell hb1).1 (w.heap.size) o (by first | (simp; done) | (simp; omega) | omega)
        have l1_0 : (w.heap.size) < w1.heap.size := (by omega)
        have q1_0 := fun o => (bcell hb1).2 (w.heap.size) o (by first | (simp; done) | (simp; omega) | omega)
        simp (maxDischargeDepth := 6) [go_sem, *] at k1_0 q1_0
        have HB1 := Lib.hid hb1
        clear hb1
        have HW1 := Lib.hid (show Below w.heap.size w w1 by (repeat (first | (with_reducible exact Below.refl _ _) | (with_reducible refine Below.drew ?_) | (with_reducible refine bdrewN ?_ _) | ((with_reducible refine Below.setCell ?_ ?_ _); rotate_left; exact (by first | (simp; done) | (simp; omega) | omega)) | ((with_reducible refine Below.alloc ?_ ?_ _); rotate_left; exact (by first | (simp; done) | (simp; omega) | omega)) | ((with_reducible refine Below.trans ?_ (HB1.out.mono ?_)); rotate_left; exact (by first | (simp; done) | (simp; omega) | omega)))); exact HW.out)
        have HT := Lib.hid k1_0
        have HTL := Lib.hid l1_0
        clear k1_0 q1_0 l1_0 hc hz hz2 hz1
        go_wp2
        obtain ⟨wo, hwo⟩ : ∃ wo, wo = w1 := ⟨_, rfl⟩
        go_loopw [10] (fun i wr => ∃ j : Nat, j ≤ k ∧ i = .int .i64 ((j : Int) - 1) ∧ Hid (fairK ms t k = fairK ms t j) ∧ Hid (Below w.heap.size w wr) ∧ Hid (∀ o, wr.cell? ⟨w.heap.size, o, none⟩ = ([.int .i64 t.dev, .int .i64 t.seen, .int .i64 t.at_, .bool t.wr, .int .i64 t.value] : List Value)[o]?) ∧ Hid (w.heap.size < wr.heap.size)) (fun i _ => ((intOf i) + 1).toNat)
        case atStart => exact ⟨k, Nat.le_refl _, by go_num, rfl, HW1.out, HT.out, HTL.out⟩
        case round =>
          obtain ⟨j, hj, hi, HF, HW, HC, HZ⟩ := hrel
          have hz := HZ.out
          have hz2 := HW.out.size
          cases j with
          | zero =>
            obtain rfl : u10 = .int .i64 (-1) := hi
            have HV := Lib.hid (show fairV ms t = -1 by rw [HFV.out HE.out, HF.out]; rfl)
            go_wp2
            go_ret2
            refine ⟨?_, HW.out⟩
            rw [HV.out, HE.out]
            simp only [Array.getD_eq_getD_getElem?, List.getElem?_toArray, List.getElem?_cons_zero, List.getElem?_cons_succ, Option.getD_some]
          | succ j =>
            obtain rfl : u10 = .int .i64 (j : Int) := by rw [hi]; go_num
            obtain ⟨x, hxk⟩ := some_of_lt ms (k := j) (by rw [HLN.out]; omega)
            obtain ⟨b, off, rfl, hb, hcc⟩ := (machs_now HX.out HW.out).at_ (by omega)
            obtain ⟨M, nm, mc, R, nr, rc, L, n', c', ⟨c0, c1, c2, c3, c4, c5, c6, c7, c8, c9, c10, c11, c12, c13, c14, c15⟩, h1, h2, h3⟩ := hcc j x hxk
            have H1 := Lib.hid h1
            obtain ⟨hpe, hpa⟩ := plain_ok (ckK_all HK.out j x (by omega) hxk) HTE.out
            have HPE := Lib.hid hpe
            obtain ⟨⟨rb, ra, rf⟩, hr⟩ : ∃ r, thruM x.m { x.b with cache := [] } t.dev (t.seen / 8) t.wr = r := ⟨_, rfl⟩
            have HPA := Lib.hid (hpa.trans hr)
            have HHT := Lib.hid (hit_eq hr)
            have HXK := Lib.hid hxk
            have q0 := HC.out 0
            have q1 := HC.out 1
            have q3 := HC.out 3
            simp only [List.getElem?_cons_zero, List.getElem?_cons_succ] at q0 q1 q3
            have HCC := Lib.hid (show _ ∧ _ ∧ _ ∧ _ ∧ _ ∧ _ ∧ _ ∧ _ ∧ _ ∧ _ ∧ _ ∧ _ ∧ _ ∧ _ ∧ _ ∧ _ from ⟨c0, c4, c5, c6, c7, c8, c9, c10, c11, c12, c13, c14, c15, q0, q1, q3⟩)
            clear hcc h1 h2 h3 hxk hpe hpa hr hi
            go_upto_region 16 with (fail)
            go_cut [11, 12] (fun s11 s12 wd => s11 = .int .i64 ra ∧ s12 = .int .i64 rf ∧ Hid (Since wr wd))
            case first =>
              have hj0 : (0 : Int) ≤ (j : Int) := by omega
              have hj1 : (j : Int) < (k : Int) := by omega
              have e3 : IntKind.i64.wrap (t.seen / 8) = t.seen / 8 := IntWalk.i64_in _ (by omega)
              clear c1 c2 c3
              go_region_held3 (fun W => W.cell? ⟨b, off + j * 16, none⟩ = some (.slice M nm mc) ∧ W.cell? ⟨b, off + j * 16 + 4, none⟩ = some (.int .i64 x.b.mode) ∧ W.cell? ⟨b, off + j * 16 + 5, none⟩ = some (.int .i64 x.b.base) ∧ W.cell? ⟨b, off + j * 16 + 6, none⟩ = some (.slice L n' c') ∧ W.cell? ⟨b, off + j * 16 + 7, none⟩ = some (.int .i64 x.b.orders.page) ∧ W.cell? ⟨b, off + j * 16 + 8, none⟩ = some (.int .i64 x.b.orders.head) ∧ W.cell? ⟨b, off + j * 16 + 9, none⟩ = some (.int .i64 x.b.orders.tail) ∧ W.cell? ⟨b, off + j * 16 + 10, none⟩ = some (.bool x.b.stopped) ∧ W.cell? ⟨b, off + j * 16 + 11, none⟩ = some (.int .i64 x.b.fences) ∧ W.cell? ⟨b, off + j * 16 + 12, none⟩ = some (.int .i64 x.b.faults.page) ∧ W.cell? ⟨b, off + j * 16 + 13, none⟩ = some (.int .i64 x.b.faults.head) ∧ W.cell? ⟨b, off + j * 16 + 14, none⟩ = some (.int .i64 x.b.faults.tail) ∧ W.cell? ⟨b, off + j * 16 + 15, none⟩ = some (.bool x.b.lost) ∧ W.cell? ⟨w.heap.size, 0, none⟩ = some (.int .i64 t.dev) ∧ W.cell? ⟨w.heap.size, 1, none⟩ = some (.int .i64 t.seen) ∧ W.cell? ⟨w.heap.size, 3, none⟩ = some (.bool t.wr) ∧ Hid (Since wr W)) (((with_reducible refine keep16 ?_ HCC.out.1 HCC.out.2.1 HCC.out.2.2.1 HCC.out.2.2.2.1 HCC.out.2.2.2.2.1 HCC.out.2.2.2.2.2.1 HCC.out.2.2.2.2.2.2.1 HCC.out.2.2.2.2.2.2.2.1 HCC.out.2.2.2.2.2.2.2.2.1 HCC.out.2.2.2.2.2.2.2.2.2.1 HCC.out.2.2.2.2.2.2.2.2.2.2.1 HCC.out.2.2.2.2.2.2.2.2.2.2.2.1 HCC.out.2.2.2.2.2.2.2.2.2.2.2.2.1 HCC.out.2.2.2.2.2.2.2.2.2.2.2.2.2.1 HCC.out.2.2.2.2.2.2.2.2.2.2.2.2.2.2.1 HCC.out.2.2.2.2.2.2.2.2.2.2.2.2.2.2.2); (repeat (first | (with_reducible assumption) | (with_reducible exact since_refl _) | (with_reducible exact since_16 (by assumption)) | (with_reducible exact since_step (by assumption) (since_16 (by assumption))) | (with_reducible refine since_drew ?_) | (with_reducible refine since_alloc ?_ _) | ((with_reducible refine since_set ?_ ?_ _); rotate_left; exact (by first | (simp; done) | (simp; omega) | omega)))); done))
                ((go_at_call 24; (with_reducible refine (bridge_Plain x.m M nm mc x.b L n' c' t.dev (t.seen / 8) t.wr rb ra rf 0 _ ?_ HPA.out HPE.out).mono ?_); (focus (refine ints_snc H1.out ?_; (repeat (first | (with_reducible assumption) | (with_reducible exact since_refl _) | (with_reducible exact since_16 (by assumption)) | (with_reducible exact since_step (by assumption) (since_16 (by assumption))) | (with_reducible refine since_drew ?_) | (with_reducible refine since_alloc ?_ _) | ((with_reducible refine since_set ?_ ?_ _); rotate_left; exact (by first | (simp; done) | (simp; omega) | omega)))); done)); rintro e w2 ⟨rfl, hb2⟩; have hs2 : Since wr w2 := since_step hb2 (since_16 (by assumption))))
              all_goals
                rename_i hHeld
                go_wp2
                go_meet
                refine ⟨rfl, rfl, ?_⟩
                show Since _ _
                (repeat (first | (with_reducible assumption) | (with_reducible refine since_drew ?_)))
            case rest =>
              obtain ⟨rfl, rfl, hS⟩ := hcut
              have HS := Lib.hid (show Below wr.heap.size wr wc from hS.out)
              have HC2 := Lib.hid (fun o => (Below.cell (p := ⟨w.heap.size, o, none⟩) hS.out hz).trans (HC.out o))
              have hz3 : w.heap.size < wc.heap.size := Nat.lt_of_lt_of_le hz (Below.size hS.out)
              have q2 := HC2.out 2
              simp only [List.getElem?_cons_zero, List.getElem?_cons_succ] at q2
              have HWC := Lib.hid (show Below w.heap.size w wc by (repeat (first | (with_reducible exact Below.refl _ _) | (with_reducible refine Below.drew ?_) | (with_reducible refine bdrewN ?_ _) | ((with_reducible refine Below.setCell ?_ ?_ _); rotate_left; exact (by first | (simp; done) | (simp; omega) | omega)) | ((with_reducible refine Below.alloc ?_ ?_ _); rotate_left; exact (by first | (simp; done) | (simp; omega) | omega)) | ((with_reducible refine Below.trans ?_ (HS.out.mono ?_)); rotate_left; exact (by first | (simp; done) | (simp; omega) | omega)))); exact HW.out)
              clear c0 c1 c2 c3 c4 c5 c6 c7 c8 c9 c10 c11 c12 c13 c14 c15 q0 q1 q3 hS HCC
              by_cases hr0 : rf = 0
              · have t1 : (rf == 0) = true := by rw [beq_iff_eq]; exact hr0
                by_cases ha0 : ra = t.at_ / 8
                · have t2 : (ra == t.at_ / 8) = true := by rw [beq_iff_eq]; exact ha0
                  have HH := Lib.hid (show hitM x t = true by rw [HHT.out, t1, t2]; rfl)
                  have HV := Lib.hid (show fairV ms t = (j : Int) by rw [HFV.out HE.out, HF.out, fairK_hit HXK.out HH.out])
                  clear hr0 ha0
                  go_wp2
                  go_ret2
                  refine ⟨?_, HWC.out⟩
                  rw [HV.out, HE.out]
                  simp only [Array.getD_eq_getD_getElem?, List.getElem?_toArray, List.getElem?_cons_zero, List.getElem?_cons_succ, Option.getD_some]
                · have t2 : (ra == t.at_ / 8) = false := beq_eq_false_iff_ne.2 ha0
                  have HH := Lib.hid (show hitM x t = false by rw [HHT.out, t1, t2]; rfl)
                  clear hr0 ha0
                  go_wp2
                  go_roundw
                  case rel => exact ⟨j, by omega, by go_num, (show fairK ms t _ = _ by rw [HF.out, fairK_not HXK.out HH.out]), HWC.out, HC2.out, hz3⟩
                  case measure => simp [intOf]
              · have t1 : (rf == 0) = false := beq_eq_false_iff_ne.2 hr0
                have HH := Lib.hid (show hitM x t = false by rw [HHT.out, t1]; rfl)
                clear hr0
                go_wp2
                go_roundw
                case rel => exact ⟨j, by omega, by go_num, (show fairK ms t _ = _ by rw [HF.out, fairK_not HXK.out HH.out]), HWC.out, HC2.out, hz3⟩
                case measure => simp [intOf]
theorem audit_Fair (A : Option Addr) (n c : Nat) (ms : List Mch) (t : Tch) (w : World) (hx : Machs w w.heap.size A n c ms) :
    Calls Try.prog 10 #[.slice A n c, .agg #[.int .i64 t.dev, .int .i64 t.seen, .int .i64 t.at_, .bool t.wr, .int .i64 t.value]] w (FairC w (fairV ms t) (fairE ms t)) := by
  by_cases hn : n ≤ 121
  · exact fair_few A n c ms t w hx hn
  · have e : fairE ms t = 1 := by unfold fairE; rw [hx.len, if_neg hn]
    have e2 : fairV ms t = 0 := by unfold fairV; rw [if_neg (by rw [e]; decide)]
    rw [e, e2]
    exact fair_many A n c t w (by omega) (by have := hx.cap; omega)
end Go.Proofs.Ytbopdijnojaaiad
