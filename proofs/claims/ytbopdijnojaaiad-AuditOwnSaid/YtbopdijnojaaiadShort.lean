/- The laws' own 'short': an ask within one page. No statement of the seat is proved here. -/
import Derived.Test.YtbopdijnojaaiadMachQ
import Derived.Test.YtbopdijnojaaiadWh2
import Derived.Test.YtbopdijnojaaiadOpenP
namespace Go.Proofs.Ytbopdijnojaaiad
open Go.RowKit
set_option linter.unusedSimpArgs false
set_option linter.unusedVariables false
attribute [local go_sem ↓] Go.wp_at_zero Go.wp_at_succ
theorem results_1s {P : Program} {fn : Func} {p : Tmp} {ty : TypeId} {tmps : Array Value} {w : World} {a : Addr} {v1 : Value} (h : fn.results = #[.cell p ty]) (hp : tmps.getD p undef = .pointer (some a)) (e1 : (loadVar ty a).run P w = .ok v1 w) : (results fn tmps).run P w = .ok v1 w := by
  have hp' : tmps[p]?.getD undef = .pointer (some a) := by simpa using hp
  simp [results, h, hp', asAddr, e1]
theorem slice_hiS (A : Option Addr) (n c k : Nat) (hk : k ≤ c) (hc : n ≤ c) :
    ∀ w, (Instr.slice 22 (.slice A n c) none (some (.int .i64 (k : Int))) none).run Try.prog w = .ok (.slice A k c) w := by
  intro w
  have h1 : (0 : Int) ≤ (k : Int) := by omega
  have h2 : (k : Int) ≤ (c : Int) := by omega
  simp [go_sem, h1, h2]
theorem ints_takeS {w : World} {B n k : Nat} {A : Option Addr} {xs : List Int} (h : Ints w B A n xs) (hk : k ≤ n) : Ints w B A k (xs.take k) := by
  refine ⟨by rw [List.length_take, h.1]; omega, Nat.le_trans hk h.2.1, fun h0 => ?_⟩
  have hk0 : 0 < k := by rw [List.length_map, List.length_take] at h0; omega
  obtain ⟨b, off, e, hb, hc⟩ := h.2.2 (by rw [List.length_map, h.1]; omega)
  refine ⟨b, off, e, hb, fun j v hv => hc j v ?_⟩
  rw [List.getElem?_map, List.getElem?_take] at hv
  rw [List.getElem?_map]
  split at hv
  · exact hv
  · simp at hv
theorem short_low {a : Ask} (h : a.at_ < 0 ∨ a.count < 1) : shortA a = a := by unfold shortA; rw [if_pos h]
theorem short_high {a : Ask} {m : Nat} {k : Nat} (h1 : ¬ a.at_ < 0) (h2 : ¬ a.count < 1) (hm : min a.count (8 - a.at_ % 8) = (m : Int)) (hk : k = min a.data.length m) : shortA a = ⟨a.dev, a.at_, m, a.wr, if a.wr then a.data.take k else a.data⟩ := by
  unfold shortA
  rw [if_neg (fun h => h.elim h1 h2), hm, hk]
  simp
set_option maxRecDepth 100000 in
set_option maxHeartbeats 4000000 in
theorem law_short (a : Ask) (A : Option Addr) (n c : Nat) (w : World) (hd : Ints w w.heap.size A n a.data) (hcap : n ≤ c ∧ c ≤ 9223372036854775807) :
    Calls Try.prog 9 #[.agg #[.int .i64 a.dev, .int .i64 a.at_, .int .i64 a.count, .bool a.wr, .slice A n c]] w fun e w' => ∃ k d, e = .returned (.agg #[.int .i64 (shortA a).dev, .int .i64 (shortA a).at_, .int .i64 (shortA a).count, .bool (shortA a).wr, .slice A k d]) ∧ Ints w' w'.heap.size A k (shortA a).data ∧ (k ≤ d ∧ d ≤ 9223372036854775807) ∧ Below w.heap.size w w' := by
  have HD := Lib.hid hd
  have hln : a.data.length = n := hd.1
  obtain ⟨hc1, hc2⟩ := hcap
  clear hd
  go_enter Try.func9, Try.ntmps9
  go_upto_region 1 with (fail)
  generalize hw0 : (w.alloc (.cells #[.int .i64 a.dev, .int .i64 a.at_, .int .i64 a.count, .bool a.wr, .slice A n c] 35)).alloc (.cells #[.int .i64 0, .int .i64 0, .int .i64 0, .bool false, .slice none 0 0] 35) = w0
  have H0 := Lib.hid (show Whl w0 w.heap.size 35 #[.int .i64 a.dev, .int .i64 a.at_, .int .i64 a.count, .bool a.wr, .slice A n c] by rw [← hw0]; exact whl_alloc (whl_new _ _ _ rfl) _)
  have HZ := Lib.hid (show Whl w0 (w.heap.size + 1) 35 #[.int .i64 0, .int .i64 0, .int .i64 0, .bool false, .slice none 0 0] by rw [← hw0]; exact whl_new _ _ _ (by simp))
  have HB := Lib.hid (show Below w.heap.size w w0 by rw [← hw0]; (repeat (first | (with_reducible exact Below.refl _ _) | (with_reducible refine Below.drew ?_) | (with_reducible refine bdrewN ?_ _) | ((with_reducible refine Below.setCell ?_ ?_ _); rotate_left; exact (by first | (simp; done) | (simp; omega) | omega)) | ((with_reducible refine Below.alloc ?_ ?_ _); rotate_left; exact (by first | (simp; done) | (simp; omega) | omega)))))
  have hz0a : w0.heap.size ≤ w.heap.size + 2 := by rw [← hw0]; simp
  have hz0b : w.heap.size + 2 ≤ w0.heap.size := by rw [← hw0]; simp
  clear hw0
  by_cases h1 : a.at_ < 0
  · have e := short_low (a := a) (Or.inl h1)
    have HS := Lib.hid e
    have f0 := fun o => whl_cell H0.out o
    clear e hln
    go_upto_region 2 with (fail)
    clear f0
    go_wp2_with (first | (refine wpList_load_whl rfl 35 (.tmp 1) rfl (w.heap.size) _ _ rfl H0.out _ Try.underlying35 rfl Try.sizeAsk ?_) | (refine wpList_store_all rfl 35 (.tmp 2) (.tmp 11) rfl (w.heap.size + 1) _ _ #[.int .i64 a.dev, .int .i64 a.at_, .int .i64 a.count, .bool a.wr, .slice A n c] rfl rfl HZ.out Try.sizeAsk rfl rfl ?_; intro w9 h9 t9))
    have HE := Lib.hid (below_trn HB.out HB.out.size t9 (by omega))
    have H9 := Lib.hid h9
    clear h9 t9
    go_wp2
    refine bodyPost_ret (v := .agg #[.int .i64 a.dev, .int .i64 a.at_, .int .i64 a.count, .bool a.wr, .slice A n c]) ?_ rfl ⟨n, c, by rw [HS.out], by rw [HS.out]; exact ints_now HD.out HE.out, ⟨hc1, hc2⟩, HE.out⟩
    exact results_1s Try.results9 rfl (run_whl H9.out _ Try.underlying35 rfl Try.sizeAsk)
  by_cases h2 : a.count < 1
  · have e := short_low (a := a) (Or.inr h2)
    have HS := Lib.hid e
    have h3 : 0 ≤ a.at_ := by omega
    have f0 := fun o => whl_cell H0.out o
    clear e hln h1
    go_upto_region 2 with (fail)
    clear f0
    go_wp2_with (first | (refine wpList_load_whl rfl 35 (.tmp 1) rfl (w.heap.size) _ _ rfl H0.out _ Try.underlying35 rfl Try.sizeAsk ?_) | (refine wpList_store_all rfl 35 (.tmp 2) (.tmp 11) rfl (w.heap.size + 1) _ _ #[.int .i64 a.dev, .int .i64 a.at_, .int .i64 a.count, .bool a.wr, .slice A n c] rfl rfl HZ.out Try.sizeAsk rfl rfl ?_; intro w9 h9 t9))
    have HE := Lib.hid (below_trn HB.out HB.out.size t9 (by omega))
    have H9 := Lib.hid h9
    clear h9 t9
    go_wp2
    refine bodyPost_ret (v := .agg #[.int .i64 a.dev, .int .i64 a.at_, .int .i64 a.count, .bool a.wr, .slice A n c]) ?_ rfl ⟨n, c, by rw [HS.out], by rw [HS.out]; exact ints_now HD.out HE.out, ⟨hc1, hc2⟩, HE.out⟩
    exact results_1s Try.results9 rfl (run_whl H9.out _ Try.underlying35 rfl Try.sizeAsk)
  have h3 : 0 ≤ a.at_ := by omega
  have h4 : 1 ≤ a.count := by omega
  obtain ⟨mn, hm⟩ : ∃ mn : Nat, min a.count (8 - a.at_ % 8) = (mn : Int) := ⟨(min a.count (8 - a.at_ % 8)).toNat, by omega⟩
  obtain ⟨k, hk⟩ : ∃ k : Nat, k = min n mn := ⟨_, rfl⟩
  have hs := short_high (a := a) h1 h2 hm (k := k) (by rw [hln]; exact hk)
  have HS := Lib.hid hs
  have HM := Lib.hid hm
  have HK := Lib.hid hk
  have hm1 : 1 ≤ mn ∧ mn ≤ 8 := by omega
  clear hs hk hln
  have f0 := fun o => whl_cell H0.out o
  go_upto_region 3 with (fail)
  go_cut [2] (fun s2 wd => s2 = .pointer (some ⟨w.heap.size + 1, 0, none⟩) ∧ Whl wd w.heap.size 35 #[.int .i64 a.dev, .int .i64 a.at_, .int .i64 (mn : Int), .bool a.wr, .slice A n c] ∧ Trn w.heap.size w0 wd)
  case first =>
    by_cases hle : a.count ≤ 8 - a.at_ % 8
    · have HV := Lib.hid (show a.count = (mn : Int) by omega)
      clear hm hm1
      go_wp2_with (refine wpList_store_cell rfl 3 (.tmp 19) (.tmp 18) rfl w.heap.size 2 _ _ #[.int .i64 a.dev, .int .i64 a.at_, .int .i64 a.count, .bool a.wr, .slice A n c] (.int .i64 a.count) rfl rfl H0.out Try.sizeInt (of_decide_eq_true rfl) rfl rfl ?_; intro w1 k1 t1)
      go_meet
      exact ⟨rfl, by rw [← HV.out]; exact k1, t1⟩
    · have hV : 8 - a.at_ % 8 = (mn : Int) := by omega
      have hle' : ¬ a.count ≤ (mn : Int) := by omega
      clear hm hm1 hle
      go_wp2_with (refine wpList_store_cell rfl 3 (.tmp 19) (.tmp 18) rfl w.heap.size 2 _ _ #[.int .i64 a.dev, .int .i64 a.at_, .int .i64 (mn : Int), .bool a.wr, .slice A n c] (.int .i64 (mn : Int)) rfl rfl H0.out Try.sizeInt (of_decide_eq_true rfl) rfl rfl ?_; intro w1 k1 t1)
      go_meet
      exact ⟨rfl, k1, t1⟩
  case rest =>
  obtain ⟨rfl, g1, t1⟩ := hcut
  have hz1 := t1.2
  have hz1a : wc.heap.size ≤ w0.heap.size := Nat.le_of_eq hz1
  have hz1b : w0.heap.size ≤ wc.heap.size := Nat.le_of_eq hz1.symm
  replace H0 := Lib.hid g1
  replace HZ := Lib.hid (whl_trn HZ.out t1 (by omega))
  replace HB := Lib.hid (below_trn HB.out HB.out.size t1 (Nat.le_refl _))
  clear g1 t1 hz1 f0 hm
  by_cases hw : a.wr = true
  rotate_left
  · have hw' : a.wr = false := by simpa using hw
    have HW := Lib.hid hw'
    replace H0 := Lib.hid (show Whl wc w.heap.size 35 #[.int .i64 a.dev, .int .i64 a.at_, .int .i64 (mn : Int), .bool false, .slice A n c] by rw [← HW.out]; exact H0.out)
    clear hw hw'
    have f0 := fun o => whl_cell H0.out o
    go_upto_region 6 with (fail)
    clear f0
    go_wp2_with (first | (refine wpList_load_whl rfl 35 (.tmp 1) rfl (w.heap.size) _ _ rfl H0.out _ Try.underlying35 rfl Try.sizeAsk ?_) | (refine wpList_store_all rfl 35 (.tmp 2) (.tmp 32) rfl (w.heap.size + 1) _ _ #[.int .i64 a.dev, .int .i64 a.at_, .int .i64 (mn : Int), .bool false, .slice A n c] rfl rfl HZ.out Try.sizeAsk rfl rfl ?_; intro w9 h9 t9))
    have HE := Lib.hid (below_trn HB.out HB.out.size t9 (by omega))
    have H9 := Lib.hid h9
    clear h9 t9
    go_wp2
    refine bodyPost_ret (v := .agg #[.int .i64 a.dev, .int .i64 a.at_, .int .i64 (mn : Int), .bool false, .slice A n c]) ?_ rfl ⟨n, c, by rw [HS.out, HW.out], by rw [HS.out, HW.out]; exact ints_now HD.out HE.out, ⟨hc1, hc2⟩, HE.out⟩
    exact results_1s Try.results9 rfl (run_whl H9.out _ Try.underlying35 rfl Try.sizeAsk)
  have HW := Lib.hid hw
  replace H0 := Lib.hid (show Whl wc w.heap.size 35 #[.int .i64 a.dev, .int .i64 a.at_, .int .i64 (mn : Int), .bool true, .slice A n c] by rw [← HW.out]; exact H0.out)
  clear hw
  have f0 := fun o => whl_cell H0.out o
  by_cases hnm : (n : Int) ≤ (mn : Int)
  · have hkn : k = n := by have := HK.out; omega
    subst hkn
    have hsl := slice_hiS A k c k hc1 hc1
    go_upto_region 6 with (refine wpList_store_cell rfl 22 (.tmp 31) (.tmp 30) rfl w.heap.size 4 _ _ #[.int .i64 a.dev, .int .i64 a.at_, .int .i64 (mn : Int), .bool true, .slice A k c] (.slice A k c) rfl rfl H0.out Try.sizeInts (of_decide_eq_true rfl) rfl rfl ?_; intro w2 h2 t2)
    have hz2 := t2.2
    have hz2a : w2.heap.size ≤ wc.heap.size := Nat.le_of_eq hz2
    have hz2b : wc.heap.size ≤ w2.heap.size := Nat.le_of_eq hz2.symm
    replace H0 := Lib.hid h2
    replace HZ := Lib.hid (whl_trn HZ.out t2 (by omega))
    replace HB := Lib.hid (below_trn HB.out HB.out.size t2 (Nat.le_refl _))
    clear h2 t2 hz2 f0 hsl
    go_wp2_with (first | (refine wpList_load_whl rfl 35 (.tmp 1) rfl (w.heap.size) _ _ rfl H0.out _ Try.underlying35 rfl Try.sizeAsk ?_) | (refine wpList_store_all rfl 35 (.tmp 2) (.tmp 32) rfl (w.heap.size + 1) _ _ #[.int .i64 a.dev, .int .i64 a.at_, .int .i64 (mn : Int), .bool true, .slice A k c] rfl rfl HZ.out Try.sizeAsk rfl rfl ?_; intro w9 h9 t9))
    have HE := Lib.hid (below_trn HB.out HB.out.size t9 (by omega))
    have H9 := Lib.hid h9
    clear h9 t9
    go_wp2
    refine bodyPost_ret (v := .agg #[.int .i64 a.dev, .int .i64 a.at_, .int .i64 (mn : Int), .bool true, .slice A k c]) ?_ rfl ⟨k, c, by rw [HS.out, HW.out], by rw [HS.out, HW.out]; exact ints_takeS (ints_now HD.out HE.out) (Nat.le_refl _), ⟨hc1, hc2⟩, HE.out⟩
    exact results_1s Try.results9 rfl (run_whl H9.out _ Try.underlying35 rfl Try.sizeAsk)
  · have hkn : k = mn := by have := HK.out; omega
    subst hkn
    have hkl : k ≤ n := by omega
    have hsl := slice_hiS A n c k (by omega) hc1
    go_upto_region 6 with (refine wpList_store_cell rfl 22 (.tmp 31) (.tmp 30) rfl w.heap.size 4 _ _ #[.int .i64 a.dev, .int .i64 a.at_, .int .i64 (k : Int), .bool true, .slice A k c] (.slice A k c) rfl rfl H0.out Try.sizeInts (of_decide_eq_true rfl) rfl rfl ?_; intro w2 h2 t2)
    have hz2 := t2.2
    have hz2a : w2.heap.size ≤ wc.heap.size := Nat.le_of_eq hz2
    have hz2b : wc.heap.size ≤ w2.heap.size := Nat.le_of_eq hz2.symm
    replace H0 := Lib.hid h2
    replace HZ := Lib.hid (whl_trn HZ.out t2 (by omega))
    replace HB := Lib.hid (below_trn HB.out HB.out.size t2 (Nat.le_refl _))
    clear h2 t2 hz2 f0 hsl
    go_wp2_with (first | (refine wpList_load_whl rfl 35 (.tmp 1) rfl (w.heap.size) _ _ rfl H0.out _ Try.underlying35 rfl Try.sizeAsk ?_) | (refine wpList_store_all rfl 35 (.tmp 2) (.tmp 32) rfl (w.heap.size + 1) _ _ #[.int .i64 a.dev, .int .i64 a.at_, .int .i64 (k : Int), .bool true, .slice A k c] rfl rfl HZ.out Try.sizeAsk rfl rfl ?_; intro w9 h9 t9))
    have HE := Lib.hid (below_trn HB.out HB.out.size t9 (by omega))
    have H9 := Lib.hid h9
    clear h9 t9
    go_wp2
    refine bodyPost_ret (v := .agg #[.int .i64 a.dev, .int .i64 a.at_, .int .i64 (k : Int), .bool true, .slice A k c]) ?_ rfl ⟨k, c, by rw [HS.out, HW.out], by rw [HS.out, HW.out]; exact ints_takeS (ints_now HD.out HE.out) hkl, ⟨by omega, hc2⟩, HE.out⟩
    exact results_1s Try.results9 rfl (run_whl H9.out _ Try.underlying35 rfl Try.sizeAsk)
end Go.Proofs.Ytbopdijnojaaiad
