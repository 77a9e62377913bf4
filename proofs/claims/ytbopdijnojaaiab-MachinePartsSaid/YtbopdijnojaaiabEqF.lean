/- slices.EqualFunc of what is told, by the document's SameTold. No statement of the seat is proved here. -/
import Derived.Test.YtbopdijnojaaiabTls
import Derived.Test.YtbopdijnojaaiabSameT
import Derived.Deep.MidRow
namespace Go.Proofs.Ytbopdijnojaaiab
open Go.RowKit
set_option linter.unusedSimpArgs false
set_option linter.unusedVariables false
attribute [local go_sem ↓] Go.wp_at_zero Go.wp_at_succ
/-- a slice of what is told that reads as es. -/
def TelS (w : World) (A : Option Addr) (n c : Nat) (es : List Tle) : Prop :=
  es.length = n ∧ n ≤ c ∧ c ≤ maxLen ∧ (0 < n → ∃ b off, A = some ⟨b, off, none⟩ ∧ b < w.heap.size ∧ ∀ k e, es[k]? = some e → w.rangeAt b (off + k * 4) e.vals ∧ Ints w w.heap.size e.D e.dn e.t.data ∧ Tchs w w.heap.size e.X e.tn e.tc e.t.touched)
theorem range_since {w W : World} {b o : Nat} {vs : List Value} (h : w.rangeAt b o vs) (hb : b < w.heap.size) (hs : Below w.heap.size w W) : W.rangeAt b o vs := fun j v hv => (hs.cell (p := ⟨b, o + j, none⟩) hb).trans (h j v hv)
theorem TelS.since {w W : World} {A : Option Addr} {n c : Nat} {es : List Tle} (h : TelS w A n c es) (hs : Below w.heap.size w W) : TelS W A n c es := ⟨h.1, h.2.1, h.2.2.1, fun hn => by
  obtain ⟨b, off, e, hb, hc⟩ := h.2.2.2 hn
  refine ⟨b, off, e, Nat.lt_of_lt_of_le hb hs.size, fun k x hx => ?_⟩
  obtain ⟨h1, h2, h3⟩ := hc k x hx
  exact ⟨range_since h1 hb hs, ints_now h2 hs, tchs_now h3 hs⟩⟩
theorem telS_own {w : World} {B : Nat} {A : Option Addr} {n c : Nat} {es : List Tle} {Av : Nat → Prop} (h : OwnS B w A n c es) (ht : ∀ e ∈ es, TldV w Av e.t e.D e.dn e.X e.tn e.tc) : TelS w A n c es := ⟨h.1, h.2.1, h.2.2.1, fun hn => by
  obtain ⟨b, off, e, hb, hc⟩ := Row.of_own h.2.2.2 (by rw [elcells_len, h.1]; omega)
  refine ⟨b, off, e, hb, fun k x hx => ⟨fun j v hv => ?_, (ht x (List.mem_of_getElem? hx)).hd, (ht x (List.mem_of_getElem? hx)).ht⟩⟩
  have hj : j < 4 := by have := (List.getElem?_eq_some_iff.1 hv).1; simpa [Tle.vals] using this
  rw [Nat.add_assoc]
  exact hc _ _ ((elcells_at es k x j hx hj).trans hv)⟩
def eqE2 (es fs : List Tle) : Bool := decide (es.map Tle.t = fs.map Tle.t)
theorem eqE2_len {es fs : List Tle} (h : es.length ≠ fs.length) : false = eqE2 es fs := by
  symm; unfold eqE2; rw [decide_eq_false_iff_not]; intro e; exact h (by simpa using congrArg List.length e)
theorem eqE2_at {es fs : List Tle} {k : Nat} {x y : Tle} (hx : es[k]? = some x) (hy : fs[k]? = some y) (h : sameT x.t y.t = false) : false = eqE2 es fs := by
  symm; unfold eqE2; rw [decide_eq_false_iff_not]; intro e
  have e2 : (es.map Tle.t)[k]? = (fs.map Tle.t)[k]? := by rw [e]
  rw [List.getElem?_map, List.getElem?_map, hx, hy] at e2
  simp at e2
  unfold sameT at h
  simp [e2] at h
theorem eqE2_all {es fs : List Tle} {k : Nat} (hx : es.length = k) (hy : fs.length = k) (h : (es.take k).map Tle.t = (fs.take k).map Tle.t) : true = eqE2 es fs := by
  rw [List.take_of_length_le (by omega), List.take_of_length_le (by omega)] at h; simp [eqE2, h]
theorem eqE2_snoc {es fs : List Tle} {k : Nat} {x y : Tle} (hx : es[k]? = some x) (hy : fs[k]? = some y) (h : (es.take k).map Tle.t = (fs.take k).map Tle.t) (hs : sameT x.t y.t = true) : (es.take (k + 1)).map Tle.t = (fs.take (k + 1)).map Tle.t := by
  rw [List.take_add_one, List.take_add_one, hx, hy, List.map_append, List.map_append, h]
  unfold sameT at hs
  simp [of_decide_eq_true hs]
set_option maxRecDepth 100000 in
set_option maxHeartbeats 4000000 in
theorem sl_EqualFuncT (A B : Option Addr) (n m c d : Nat) (es fs : List Tle) (w : World) (hA : TelS w A n c es) (hB : TelS w B m d fs) :
    Calls Try.prog 42 #[.slice A n c, .slice B m d, .func (.func 44) #[] #[]] w fun e w' => e = .returned (.bool (eqE2 es fs)) ∧ Below w.heap.size w w' := by
  have HA := Lib.hid hA
  have HB := Lib.hid hB
  have hcap : n ≤ c ∧ c ≤ 9223372036854775807 := ⟨hA.2.1, by have := hA.2.2.1; unfold maxLen at this; omega⟩
  have hcap2 : m ≤ d ∧ d ≤ 9223372036854775807 := ⟨hB.2.1, by have := hB.2.2.1; unfold maxLen at this; omega⟩
  obtain ⟨hn1, hn2⟩ := hcap
  obtain ⟨hm1, hm2⟩ := hcap2
  clear hA hB
  by_cases hnm : n = m
  rotate_left
  · have h3 : ((n : Int) != (m : Int)) = true := by simp; omega
    go_enter Try.func42, Try.ntmps42
    go_wp2
    go_ret
    exact ⟨ret_bool (eqE2_len (by rw [HA.out.1, HB.out.1]; exact hnm)), Below.refl _ _⟩
  subst hnm
  go_enter Try.func42, Try.ntmps42
  go_wp2
  go_loopw [17] (fun s17 wr => ∃ k : Nat, k ≤ n ∧ s17 = .int .i64 k ∧ Hid ((es.take k).map Tle.t = (fs.take k).map Tle.t) ∧ Hid (Below w.heap.size w wr)) (fun s17 _ => n - (intOf s17).toNat)
  case atStart => exact ⟨0, by omega, rfl, by simp [Hid], Below.refl _ _⟩
  case round =>
    obtain ⟨k, hk, rfl, hall, hbw⟩ := hrel
    have HAL := Lib.hid hall.out
    have HBW := Lib.hid hbw.out
    have hws := hbw.out.size
    clear hall hbw
    by_cases hlt : k < n
    rotate_left
    · obtain rfl : k = n := by omega
      have hh3 : ¬ ((k : Int) < (k : Int)) := by omega
      clear hlt
      go_wp2
      go_ret
      exact ⟨ret_bool (eqE2_all HA.out.1 HB.out.1 HAL.out), HBW.out⟩
    obtain ⟨x, hxk⟩ := some_of_lt es (k := k) (by rw [HA.out.1]; exact hlt)
    obtain ⟨y, hyk⟩ := some_of_lt fs (k := k) (by rw [HB.out.1]; exact hlt)
    obtain ⟨b, off, rfl, hb, hcc⟩ := (HA.out.since HBW.out).2.2.2 (by omega)
    obtain ⟨b', off', rfl, hb', hcc'⟩ := (HB.out.since HBW.out).2.2.2 (by omega)
    obtain ⟨r1, i1, t1⟩ := hcc k x hxk
    obtain ⟨r2, i2, t2⟩ := hcc' k y hyk
    have R1 := Lib.hid (show wr.rangeAt b (off + k * 4) [.bool x.t.done, .slice x.D x.dn x.dc, .int .i64 x.t.fault, .slice x.X x.tn x.tc] from r1)
    have R2 := Lib.hid (show wr.rangeAt b' (off' + k * 4) [.bool y.t.done, .slice y.D y.dn y.dc, .int .i64 y.t.fault, .slice y.X y.tn y.tc] from r2)
    have I1 := Lib.hid i1
    have I2 := Lib.hid i2
    have T1 := Lib.hid t1
    have T2 := Lib.hid t2
    have HX := Lib.hid hxk
    have HY := Lib.hid hyk
    have q1 : (0 : Int) ≤ (k : Int) := by omega
    have q2 : (k : Int) < (n : Int) := by omega
    clear hcc hcc' r1 r2 i1 i2 t1 t2 hxk hyk
    go_upto_region 6 with (first
      | (refine wpList_load_mid rfl 69 (.tmp 20) rfl b (off + k * 4) (by rfl) _ _ R1.out Try.underlying69 rfl Try.sizeTold ?_)
      | (refine wpList_store_new rfl 69 (.tmp 8) (.tmp 21) rfl _ _ _ _ rfl rfl (by rfl) (by rfl) Try.sizeTold rfl (by rfl) ?_))
    generalize hwb : wr.alloc (.cells #[.bool x.t.done, .slice x.D x.dn x.dc, .int .i64 x.t.fault, .slice x.X x.tn x.tc] 69) = w1
    have H8 := Lib.hid (show Whl w1 wr.heap.size 69 #[.bool x.t.done, .slice x.D x.dn x.dc, .int .i64 x.t.fault, .slice x.X x.tn x.tc] by rw [← hwb]; exact whl_new _ _ _ rfl)
    have hs : Below wr.heap.size wr w1 := by rw [← hwb]; exact below_alloc _ _
    have hz1a : w1.heap.size ≤ wr.heap.size + 1 := by rw [← hwb]; simp
    have hz1b : wr.heap.size + 1 ≤ w1.heap.size := by rw [← hwb]; simp
    replace R2 := Lib.hid (range_since R2.out hb' hs)
    replace HBW := Lib.hid (HBW.out.trans (hs.mono hws))
    replace I1 := Lib.hid (ints_now I1.out hs)
    replace I2 := Lib.hid (ints_now I2.out hs)
    replace T1 := Lib.hid (tchs_now T1.out hs)
    replace T2 := Lib.hid (tchs_now T2.out hs)
    clear hwb hs R1
    go_upto_region 7 with (first
      | (refine wpList_load_mid rfl 69 (.tmp 24) rfl b' (off' + k * 4) (by rfl) _ _ R2.out Try.underlying69 rfl Try.sizeTold ?_)
      | (refine wpList_store_new rfl 69 (.tmp 9) (.tmp 25) rfl _ _ _ _ rfl rfl (by rfl) (by rfl) Try.sizeTold rfl (by rfl) ?_))
    generalize hwb : w1.alloc (.cells #[.bool y.t.done, .slice y.D y.dn y.dc, .int .i64 y.t.fault, .slice y.X y.tn y.tc] 69) = w2
    have H9 := Lib.hid (show Whl w2 w1.heap.size 69 #[.bool y.t.done, .slice y.D y.dn y.dc, .int .i64 y.t.fault, .slice y.X y.tn y.tc] by rw [← hwb]; exact whl_new _ _ _ rfl)
    have hs : Below w1.heap.size w1 w2 := by rw [← hwb]; exact below_alloc _ _
    have hz2 : w1.heap.size + 1 ≤ w2.heap.size := by rw [← hwb]; simp
    replace H8 := Lib.hid (whl_since H8.out hs)
    replace HBW := Lib.hid (HBW.out.trans (hs.mono (by omega)))
    replace I1 := Lib.hid (ints_now I1.out hs)
    replace I2 := Lib.hid (ints_now I2.out hs)
    replace T1 := Lib.hid (tchs_now T1.out hs)
    replace T2 := Lib.hid (tchs_now T2.out hs)
    clear hwb hs R2
    cases hq : sameT x.t y.t
    · have HQ := Lib.hid hq
      clear hq
      go_wp2_with (first
        | (refine wpList_load_whl rfl 69 (.tmp 8) rfl (wr.heap.size) _ _ rfl H8.out _ Try.underlying69 rfl Try.sizeTold ?_)
        | (refine wpList_load_whl rfl 69 (.tmp 9) rfl (w1.heap.size) _ _ rfl H9.out _ Try.underlying69 rfl Try.sizeTold ?_))
      refine (ref_SameTold x.t y.t x.D y.D x.X y.X x.dn x.dc y.dn y.dc x.tn x.tc y.tn y.tc _ I1.out I2.out T1.out T2.out).mono ?_
      rw [HQ.out]
      rintro e w3 ⟨rfl, hs⟩
      have HE := Lib.hid (HBW.out.trans (hs.mono (by omega)))
      clear hs
      go_wp2
      go_ret
      exact ⟨ret_bool (eqE2_at HX.out HY.out HQ.out), HE.out⟩
    · have HQ := Lib.hid hq
      clear hq
      go_wp2_with (first
        | (refine wpList_load_whl rfl 69 (.tmp 8) rfl (wr.heap.size) _ _ rfl H8.out _ Try.underlying69 rfl Try.sizeTold ?_)
        | (refine wpList_load_whl rfl 69 (.tmp 9) rfl (w1.heap.size) _ _ rfl H9.out _ Try.underlying69 rfl Try.sizeTold ?_))
      refine (ref_SameTold x.t y.t x.D y.D x.X y.X x.dn x.dc y.dn y.dc x.tn x.tc y.tn y.tc _ I1.out I2.out T1.out T2.out).mono ?_
      rw [HQ.out]
      rintro e w3 ⟨rfl, hs⟩
      have HE := Lib.hid (HBW.out.trans (hs.mono (by omega)))
      clear hs
      go_wp2
      go_roundw
      case rel => exact ⟨k + 1, by omega, by go_num, eqE2_snoc HX.out HY.out HAL.out HQ.out, HE.out⟩
      case measure => simp [intOf]; omega
end Go.Proofs.Ytbopdijnojaaiab
