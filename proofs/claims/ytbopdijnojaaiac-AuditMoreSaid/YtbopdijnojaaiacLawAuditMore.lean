/- The audit: the walk of the law AuditMore. The row is in another text. -/
import Derived.Test.YtbopdijnojaaiacAudited
import Derived.Test.YtbopdijnojaaiacRefD
import Derived.Test.YtbopdijnojaaiacAt
import Derived.Deep.RegionHeld3
import Derived.Deep.DrawnRows
import Derived.Deep.DeepCutAuto
namespace Go.Proofs.Ytbopdijnojaaiac
open Go.RowKit
set_option linter.unusedSimpArgs false
set_option linter.unusedVariables false
attribute [local go_sem ↓] Go.wp_at_zero Go.wp_at_succ

theorem fairK_tail (ms : List Mch) (t : Tch) (k : Nat) : ∀ m, fairK ms t (k + m) = if 0 ≤ fairK (ms.drop k) t m then (k : Int) + fairK (ms.drop k) t m else fairK ms t k
  | 0 => by show fairK ms t k = _; rw [show fairK (ms.drop k) t 0 = -1 from rfl, if_neg (by decide)]
  | m + 1 => by
    have ih := fairK_tail ms t k m
    have e : (ms.drop k)[m]? = ms[k + m]? := by rw [List.getElem?_drop]
    show fairK ms t (k + m + 1) = _
    cases hx : ms[k + m]? with
    | none =>
      have h1 : fairK ms t (k + m + 1) = fairK ms t (k + m) := by show (match ms[k + m]? with | some x => _ | none => _) = _; rw [hx]
      have h2 : fairK (ms.drop k) t (m + 1) = fairK (ms.drop k) t m := by show (match (ms.drop k)[m]? with | some x => _ | none => _) = _; rw [e, hx]
      rw [h1, h2]; exact ih
    | some x =>
      cases hh : hitM x t with
      | true =>
        rw [fairK_hit hx hh, fairK_hit (e.trans hx) hh, if_pos (by omega)]
        simp
      | false =>
        rw [fairK_not hx hh, fairK_not (e.trans hx) hh]; exact ih
theorem fairK_head (ms : List Mch) (t : Tch) (k : Nat) : ∀ m, m ≤ k → fairK (ms.take k) t m = fairK ms t m
  | 0, _ => rfl
  | m + 1, h => by
    have ih := fairK_head ms t k m (by omega)
    have e : (ms.take k)[m]? = ms[m]? := by rw [List.getElem?_take, if_pos (by omega)]
    show (match (ms.take k)[m]? with | some x => _ | none => _) = (match ms[m]? with | some x => _ | none => _)
    rw [e, ih]
theorem ckK_zero {ms : List Mch} (h : ∀ x ∈ ms, ckM x = 0) : ∀ n, ckK ms n = 0
  | 0 => rfl
  | n + 1 => by
    have ih := ckK_zero h n
    cases hx : ms[n]? with
    | none => unfold ckK; rw [if_pos ih, hx]
    | some x => rw [ckK_ok ih hx]; exact h x (List.mem_of_getElem? hx)
theorem fairE_inv {ms : List Mch} {t : Tch} (h : fairE ms t = 0) : ms.length ≤ 121 ∧ (∀ x ∈ ms, ckM x = 0) ∧ tchE t = 0 := by
  unfold fairE at h
  split at h
  · rename_i h1
    split at h
    · rename_i h2
      refine ⟨h1, fun x hx => ?_, h⟩
      obtain ⟨i, hi⟩ := List.getElem?_of_mem hx
      exact ckK_all h2 i x (List.getElem?_eq_some_iff.1 hi).1 hi
    · rename_i h2; exact absurd h h2
  · cases h
theorem fairE_0 {ms : List Mch} {t : Tch} (h1 : ms.length ≤ 121) (h2 : ∀ x ∈ ms, ckM x = 0) (h3 : tchE t = 0) : fairE ms t = 0 := by
  unfold fairE; rw [if_pos h1, if_pos (ckK_zero h2 _), h3]
theorem fair_parts {ms : List Mch} {t : Tch} {n k : Nat} (hn : ms.length = n) (hk : k ≤ n) (h : fairE ms t = 0) :
    fairE (ms.take k) t = 0 ∧ fairE (ms.drop k) t = 0 ∧ fairV ms t = if 0 ≤ fairV (ms.drop k) t then (k : Int) + fairV (ms.drop k) t else fairV (ms.take k) t := by
  obtain ⟨h1, h2, h3⟩ := fairE_inv h
  have e1 : fairE (ms.take k) t = 0 := fairE_0 (by rw [List.length_take]; omega) (fun x hx => h2 x (List.mem_of_mem_take hx)) h3
  have e2 : fairE (ms.drop k) t = 0 := fairE_0 (by rw [List.length_drop]; omega) (fun x hx => h2 x (List.mem_of_mem_drop hx)) h3
  refine ⟨e1, e2, ?_⟩
  unfold fairV
  rw [if_pos h, if_pos e1, if_pos e2, List.length_drop, List.length_take, hn, Nat.min_eq_left hk, fairK_head ms t k k (Nat.le_refl _)]
  have := fairK_tail ms t k (n - k)
  rw [show k + (n - k) = n by omega] at this
  exact this
set_option maxRecDepth 100000 in
theorem slice_loM (A : Option Addr) (n c j : Nat) (hj : j ≤ n) (hc : n ≤ c) :
    ∃ A' : Option Addr, (∀ w, (Instr.slice 22 (.slice A n c) (some (.int .i64 (j : Int))) none none).run Try.prog w = .ok (.slice A' (n - j) (c - j)) w) ∧ ∀ w B ms, Machs w B A n c ms → Machs w B A' (n - j) (c - j) (ms.drop j) := by
  refine ⟨if c = j then A else A.map (·.add (j * 16)), fun w => ?_, fun w B ls h => h.dropN hj⟩
  have h1 : (0 : Int) ≤ (j : Int) := by omega
  have h2 : (j : Int) ≤ (n : Int) := by omega
  simp [go_sem, h1, h2]
set_option maxRecDepth 100000 in
theorem slice_hiM (A : Option Addr) (n c k : Nat) (hk : k ≤ c) (hc : n ≤ c) :
    ∀ w, (Instr.slice 22 (.slice A n c) none (some (.int .i64 (k : Int))) none).run Try.prog w = .ok (.slice A k c) w := by
  intro w
  have h1 : (0 : Int) ≤ (k : Int) := by omega
  have h2 : (k : Int) ≤ (c : Int) := by omega
  simp [go_sem, h1, h2]
theorem fairK_rng (ms : List Mch) (t : Tch) : ∀ n, -1 ≤ fairK ms t n ∧ fairK ms t n ≤ n
  | 0 => ⟨by show -1 ≤ -1; decide, by show (-1 : Int) ≤ 0; decide⟩
  | n + 1 => by
    have ih := fairK_rng ms t n
    cases hx : ms[n]? with
    | none =>
      have h1 : fairK ms t (n + 1) = fairK ms t n := by show (match ms[n]? with | some x => _ | none => _) = _; rw [hx]
      rw [h1]; omega
    | some x =>
      cases hh : hitM x t with
      | true => rw [fairK_hit hx hh]; omega
      | false => rw [fairK_not hx hh]; omega
theorem fairV_rng {ms : List Mch} {t : Tch} (h : fairE ms t = 0) : fairV ms t ≤ 121 ∧ -1 ≤ fairV ms t := by
  unfold fairV; rw [if_pos h]
  have := fairK_rng ms t ms.length
  have := (fairE_inv h).1
  omega
theorem machs_snc2 {w W : World} {A : Option Addr} {n c k : Nat} {ms : List Mch} (hx : Machs w w.heap.size A n c ms) (hk : k ≤ n) (h : Since w W) : Machs W W.heap.size A k c (ms.take k) := machs_now (hx.take hk) h
theorem machs_snc3 {w W : World} {A : Option Addr} {n c : Nat} {ms : List Mch} (hx : Machs w w.heap.size A n c ms) (h : Since w W) : Machs W W.heap.size A n c ms := machs_now hx h
theorem tmodN (k n : Int) (hn : 0 < n) : -n < k.tmod n ∧ k.tmod n < n ∧ (0 ≤ k.tmod n → k.tmod n = k % n) ∧ (k.tmod n < 0 → k.tmod n + n = k % n) := by
  have hb : 0 ≤ k % n ∧ k % n < n := ⟨Int.emod_nonneg _ (by omega), Int.emod_lt_of_pos _ hn⟩
  rcases Int.le_total 0 k with h | h
  · rw [Int.tmod_eq_emod_of_nonneg h]; omega
  · obtain ⟨m, rfl⟩ : ∃ m, k = -m := ⟨-k, by omega⟩
    rw [Int.neg_tmod, Int.tmod_eq_emod_of_nonneg (by omega)]
    have hm : 0 ≤ m % n ∧ m % n < n := ⟨Int.emod_nonneg _ (by omega), Int.emod_lt_of_pos _ hn⟩
    have e : (-m) % n = if m % n = 0 then 0 else n - m % n := by
      by_cases h0 : m % n = 0
      · rw [if_pos h0]; exact Int.emod_eq_zero_of_dvd (Int.dvd_neg.2 (Int.dvd_of_emod_eq_zero h0))
      · rw [if_neg h0]
        have : -m = n - m % n + n * (-(m / n) - 1) := by
          have := Int.emod_add_mul_ediv m n
          have e2 : n * (-(m / n) - 1) = -(n * (m / n)) - n := by rw [Int.mul_sub, Int.mul_neg, Int.mul_one]
          omega
        rw [this, Int.add_mul_emod_self_left]
        exact Int.emod_eq_of_lt (by omega) (by omega)
    rw [e]
    by_cases h0 : m % n = 0
    · rw [if_pos h0, h0]; omega
    · rw [if_neg h0]; omega
set_option maxRecDepth 100000 in
set_option maxHeartbeats 1000000 in
theorem law_atN (k n : Int) (hn : 0 < n ∧ n ≤ 65536) (w : World) : Calls Try.prog 21 #[.int .i64 k, .int .i64 n] w fun e w' => e = .returned (.int .i64 (k % n)) ∧ w = w' := by
  obtain ⟨h1, h2, h3, h4⟩ := tmodN k n hn.1
  obtain ⟨hn1, hn2⟩ := hn
  have H3 := Lib.hid h3
  have H4 := Lib.hid h4
  have hz : (n == 0) = false := by rw [beq_eq_false_iff_ne]; omega
  have HW := Lib.hid (wrap64_at n h1 h2 ⟨by omega, hn2⟩)
  clear h3 h4 h1 h2
  go_enter Try.func21, Try.ntmps21
  go_wp2
  all_goals go_ret
  all_goals first
    | exact ⟨ret_int (H3.out (by assumption)), rfl⟩
    | exact ⟨ret_int (HW.out.trans (H4.out (by assumption))), rfl⟩
set_option maxRecDepth 100000 in
set_option maxHeartbeats 8000000 in
theorem law_AuditMore (A : Option Addr) (n c : Nat) (ms : List Mch) (t : Tch) (k : Int) (w : World) (hx : Machs w w.heap.size A n c ms) :
    Calls Try.prog 4 #[.slice A n c, .agg #[.int .i64 t.dev, .int .i64 t.seen, .int .i64 t.at_, .bool t.wr, .int .i64 t.value], .int .i64 k] w fun e w' => e = .returned (.bool true) ∧ Below w.heap.size w w' := by
  have hcap := hx.cap
  have HLN := Lib.hid hx.len
  have HX := Lib.hid hx
  obtain ⟨V, hV⟩ : ∃ V, fairV ms t = V := ⟨_, rfl⟩
  obtain ⟨E, hE⟩ : ∃ E, fairE ms t = E := ⟨_, rfl⟩
  have HV := Lib.hid hV
  have HE := Lib.hid hE
  clear hx hV hE
  go_enter Try.func4, Try.ntmps4
  go_wp2_with fail
  refine (fair_ans A n c ms t V E _ (machs_now HX.out (by (repeat (first | (with_reducible exact Below.refl _ _) | (with_reducible refine Below.drew ?_) | (with_reducible refine bdrewN ?_ _) | ((with_reducible refine Below.setCell ?_ ?_ _); rotate_left; exact (by first | (simp; done) | (simp; omega) | omega)) | ((with_reducible refine Below.alloc ?_ ?_ _); rotate_left; exact (by first | (simp; done) | (simp; omega) | omega)))))) HV.out HE.out).mono ?_
  rintro e w1 ⟨rfl, hb1⟩
  have hz1 := hb1.size
  (try simp only [World.size_alloc, World.size_setCell, World.size_drew] at hz1)
  have k1_0 := fun o => (bcell hb1).1 (w.heap.size) o (by first | (simp; done) | (simp; omega) | omega)
  have l1_0 : (w.heap.size) < w1.heap.size := (by omega)
  have q1_0 := fun o => (bcell hb1).2 (w.heap.size) o (by first | (simp; done) | (simp; omega) | omega)
  simp (maxDischargeDepth := 6) [go_sem, *] at k1_0 q1_0
  have HB1 := Lib.hid hb1
  clear hb1
  by_cases hE0 : E = 0
  rotate_left
  · have t1 : (E != 0) = true := by rw [bne_iff_ne]; exact hE0
    clear hE0
    go_wp2_with fail
    refine (law_audited _).mono ?_
    rintro e w2 ⟨rfl, hb2⟩
    have hz2 := hb2.size
    (try simp only [World.size_alloc, World.size_setCell, World.size_drew] at hz2)
    have HB2 := Lib.hid hb2
    clear hb2
    go_wp2_with fail
    refine (law_audited _).mono ?_
    rintro e w3 ⟨rfl, hb3⟩
    have hz3 := hb3.size
    (try simp only [World.size_alloc, World.size_setCell, World.size_drew] at hz3)
    have HB3 := Lib.hid hb3
    clear hb3
    go_wp2
    go_ret
    exact ⟨rfl, by (repeat (first | (with_reducible exact Below.refl _ _) | (with_reducible refine Below.drew ?_) | (with_reducible refine bdrewN ?_ _) | ((with_reducible refine Below.setCell ?_ ?_ _); rotate_left; exact (by first | (simp; done) | (simp; omega) | omega)) | ((with_reducible refine Below.alloc ?_ ?_ _); rotate_left; exact (by first | (simp; done) | (simp; omega) | omega)) | ((with_reducible refine Below.trans ?_ (HB3.out.mono ?_)); rotate_left; exact (by first | (simp; done) | (simp; omega) | omega)) | ((with_reducible refine Below.trans ?_ (HB2.out.mono ?_)); rotate_left; exact (by first | (simp; done) | (simp; omega) | omega)) | ((with_reducible refine Below.trans ?_ (HB1.out.mono ?_)); rotate_left; exact (by first | (simp; done) | (simp; omega) | omega))))⟩
  · have t1 : (E != 0) = false := by rw [bne_eq_false_iff_eq]; exact hE0
    have HE0 := Lib.hid hE0
    have hn121 := (fairE_inv (HE.out.trans hE0)).1
    rw [HLN.out] at hn121
    obtain ⟨K, hK⟩ := Int.eq_ofNat_of_zero_le (show 0 ≤ k % ((n : Int) + 1) from Int.emod_nonneg _ (by omega))
    have hKn : K ≤ n := by have := Int.emod_lt_of_pos k (show 0 < (n : Int) + 1 by omega); omega
    obtain ⟨p1, p2, p3⟩ := fair_parts HLN.out hKn (HE.out.trans hE0)
    obtain ⟨Va, hVa⟩ : ∃ V, fairV (ms.take K) t = V := ⟨_, rfl⟩
    obtain ⟨Vb, hVb⟩ : ∃ V, fairV (ms.drop K) t = V := ⟨_, rfl⟩
    rw [hVa, hVb, HV.out] at p3
    have HP1 := Lib.hid p1
    have HP2 := Lib.hid p2
    have HP3 := Lib.hid p3
    have HVA := Lib.hid hVa
    have HVB := Lib.hid hVb
    have hVb2 : Vb ≤ 121 ∧ -1 ≤ Vb := by rw [← hVb]; exact fairV_rng p2
    obtain ⟨A', hlo, hlo2⟩ := slice_loM A n c K hKn hcap.1
    have hhi := slice_hiM A n c K (by omega) hcap.1
    have HLO := Lib.hid hlo2
    have e1 : IntKind.i64.wrap ((n : Int) + 1) = (n : Int) + 1 := IntWalk.i64_in _ (by omega)
    obtain ⟨hVb3, hVb4⟩ := hVb2
    clear hE0 p1 p2 p3 hVa hVb hlo2
    go_wp2_with fail
    refine (law_audited _).mono ?_
    rintro e w2 ⟨rfl, hb2⟩
    have hz2 := hb2.size
    (try simp only [World.size_alloc, World.size_setCell, World.size_drew] at hz2)
    have k2_0 := fun o => (bcell hb2).1 (w.heap.size) o (by first | (simp; done) | (simp; omega) | omega)
    have l2_0 : (w.heap.size) < w2.heap.size := (by omega)
    have q2_0 := fun o => (bcell hb2).2 (w.heap.size) o (by first | (simp; done) | (simp; omega) | omega)
    simp (maxDischargeDepth := 6) [go_sem, *] at k2_0 q2_0
    have HB2 := Lib.hid hb2
    clear hb2
    clear k1_0 q1_0
    go_wp2_with fail
    refine (law_atN k ((n : Int) + 1) (by omega) _).mono ?_
    rintro e w3 ⟨rfl, rfl⟩
    rw [hK]
    have HK2 := Lib.hid k2_0
    have HW2 := Lib.hid (show Below w.heap.size w w2 by (repeat (first | (with_reducible exact Below.refl _ _) | (with_reducible refine Below.drew ?_) | (with_reducible refine bdrewN ?_ _) | ((with_reducible refine Below.setCell ?_ ?_ _); rotate_left; exact (by first | (simp; done) | (simp; omega) | omega)) | ((with_reducible refine Below.alloc ?_ ?_ _); rotate_left; exact (by first | (simp; done) | (simp; omega) | omega)) | ((with_reducible refine Below.trans ?_ (HB2.out.mono ?_)); rotate_left; exact (by first | (simp; done) | (simp; omega) | omega)) | ((with_reducible refine Below.trans ?_ (HB1.out.mono ?_)); rotate_left; exact (by first | (simp; done) | (simp; omega) | omega)))))
    clear hK
    have G0 : Hid (w2.cell? ⟨w.heap.size, 0, none⟩ = some (.int .i64 t.dev)) := Lib.hid (k2_0 0)
    have G1 : Hid (w2.cell? ⟨w.heap.size, 1, none⟩ = some (.int .i64 t.seen)) := Lib.hid (k2_0 1)
    have G2 : Hid (w2.cell? ⟨w.heap.size, 2, none⟩ = some (.int .i64 t.at_)) := Lib.hid (k2_0 2)
    have G3 : Hid (w2.cell? ⟨w.heap.size, 3, none⟩ = some (.bool t.wr)) := Lib.hid (k2_0 3)
    have G4 : Hid (w2.cell? ⟨w.heap.size, 4, none⟩ = some (.int .i64 t.value)) := Lib.hid (k2_0 4)
    clear k2_0 q2_0 HB1 HB2
    go_upto_region 5 with (fail)
    go_cut [8, 9] (fun s8 s9 wd => s8 = .int .i64 0 ∧ s9 = .int .i64 Va ∧ Hid (Since w2 wd))
    case first =>
      go_region_held3 (fun W => W.cell? ⟨w.heap.size, 0, none⟩ = some (.int .i64 t.dev) ∧ W.cell? ⟨w.heap.size, 1, none⟩ = some (.int .i64 t.seen) ∧ W.cell? ⟨w.heap.size, 2, none⟩ = some (.int .i64 t.at_) ∧ W.cell? ⟨w.heap.size, 3, none⟩ = some (.bool t.wr) ∧ W.cell? ⟨w.heap.size, 4, none⟩ = some (.int .i64 t.value) ∧ Hid (Since w2 W)) (((with_reducible refine keep5 ?_ G0.out G1.out G2.out G3.out G4.out); (repeat (first | (with_reducible assumption) | (with_reducible exact since_refl _) | (with_reducible exact since_5 (by assumption)) | (with_reducible exact since_step (by assumption) (since_5 (by assumption))) | (with_reducible refine since_drew ?_) | (with_reducible refine since_alloc ?_ _) | ((with_reducible refine since_set ?_ ?_ _); rotate_left; exact (by first | (simp; done) | (simp; omega) | omega)))); done))
        (first
          | (go_at_call 15; refine (fair_ans A K c (ms.take K) t Va 0 _ ?_ HVA.out HP1.out).mono ?_; (with_reducible exact machs_snc2 (machs_now HX.out HW2.out) hKn (since_5 (by assumption))); rintro e w' ⟨rfl, hb'⟩))
      all_goals
        rename_i hHeld
        have HS := Lib.hid (since_5 hHeld)
        clear hHeld
        go_wp2
        go_meet
        exact ⟨rfl, rfl, HS.out⟩
    case rest =>
      obtain ⟨rfl, rfl, hS⟩ := hcut
      have hk3 := fun o => (hS.out.cell (p := ⟨w.heap.size, o, none⟩) l2_0).trans (HK2.out o)
      have HW3 := Lib.hid (show Below w.heap.size w wc from Below.trans HW2.out (Below.mono hS.out (Below.size HW2.out)))
      have l3 : w.heap.size < wc.heap.size := by have := Below.size hS.out; omega
      obtain ⟨wd, hwd⟩ : ∃ wd, wd = wc := ⟨_, rfl⟩
      subst hwd
      clear G0 G1 G2 G3 G4 hS
      have G0 : Hid (wd.cell? ⟨w.heap.size, 0, none⟩ = some (.int .i64 t.dev)) := Lib.hid (hk3 0)
      have G1 : Hid (wd.cell? ⟨w.heap.size, 1, none⟩ = some (.int .i64 t.seen)) := Lib.hid (hk3 1)
      have G2 : Hid (wd.cell? ⟨w.heap.size, 2, none⟩ = some (.int .i64 t.at_)) := Lib.hid (hk3 2)
      have G3 : Hid (wd.cell? ⟨w.heap.size, 3, none⟩ = some (.bool t.wr)) := Lib.hid (hk3 3)
      have G4 : Hid (wd.cell? ⟨w.heap.size, 4, none⟩ = some (.int .i64 t.value)) := Lib.hid (hk3 4)
      clear hk3
      go_upto_region 6 with (fail)
      go_cut [10, 11] (fun s10 s11 we => s10 = .int .i64 Vb ∧ s11 = .int .i64 0 ∧ Hid (Since wd we))
      case first =>
        go_region_held3 (fun W => W.cell? ⟨w.heap.size, 0, none⟩ = some (.int .i64 t.dev) ∧ W.cell? ⟨w.heap.size, 1, none⟩ = some (.int .i64 t.seen) ∧ W.cell? ⟨w.heap.size, 2, none⟩ = some (.int .i64 t.at_) ∧ W.cell? ⟨w.heap.size, 3, none⟩ = some (.bool t.wr) ∧ W.cell? ⟨w.heap.size, 4, none⟩ = some (.int .i64 t.value) ∧ Hid (Since wd W)) (((with_reducible refine keep5 ?_ G0.out G1.out G2.out G3.out G4.out); (repeat (first | (with_reducible assumption) | (with_reducible exact since_refl _) | (with_reducible exact since_5 (by assumption)) | (with_reducible exact since_step (by assumption) (since_5 (by assumption))) | (with_reducible refine since_drew ?_) | (with_reducible refine since_alloc ?_ _) | ((with_reducible refine since_set ?_ ?_ _); rotate_left; exact (by first | (simp; done) | (simp; omega) | omega)))); done))
          (first
            | (go_at_call 15; refine (fair_ans A' (n - K) (c - K) (ms.drop K) t Vb 0 _ ?_ HVB.out HP2.out).mono ?_; (with_reducible exact machs_snc3 (HLO.out _ _ _ (machs_now HX.out HW3.out)) (since_5 (by assumption))); rintro e w' ⟨rfl, hb'⟩))
        all_goals
          rename_i hHeld
          have HS := Lib.hid (since_5 hHeld)
          clear hHeld
          go_wp2
          go_meet
          exact ⟨rfl, rfl, HS.out⟩
      case rest =>
        obtain ⟨rfl, rfl, hS⟩ := hcut
        have HW4 := Lib.hid (show Below w.heap.size w wc from Below.trans HW3.out (Below.mono hS.out (Below.size HW3.out)))
        have e2 : IntKind.i64.wrap ((K : Int) + Vb) = (K : Int) + Vb := IntWalk.i64_in _ (by omega)
        clear hS
        by_cases hb : 0 ≤ Vb
        · have t5 : (V == (K : Int) + Vb) = true := by rw [beq_iff_eq, HP3.out, if_pos hb]
          go_wp2
          go_ret
          exact ⟨rfl, HW4.out⟩
        · have t5 : (V == Va) = true := by rw [beq_iff_eq, HP3.out, if_neg hb]
          have hb' : Vb < 0 := by omega
          clear hb
          go_wp2
          go_ret
          exact ⟨rfl, HW4.out⟩
end Go.Proofs.Ytbopdijnojaaiac
