/- The hart: the walks of the document's CheckHart and SameHart. No statement of the seat is proved here. -/
import Derived.Test.YtbopdijnojaaiabHartP
import Derived.Test.YtbopdijnojaaiabSlices
namespace Go.Proofs.Ytbopdijnojaaiab
open Go.RowKit
set_option linter.unusedSimpArgs false
set_option linter.unusedVariables false

section
set_option maxRecDepth 100000 in
set_option maxHeartbeats 2000000 in
theorem hart_Check (h : Hrt) (A : Option Addr) (n c : Nat) (w : World) (hx : Ints w w.heap.size A n h.regs) :
    Calls Try.prog 63 #[.agg #[.int .i64 h.at_, .slice A n c, .bool h.done]] w fun e w' => e = .returned (.int .i64 (ckH h)) ∧ Below w.heap.size w w' := by
  have hl := hx.len
  have HL := Lib.hid hl
  have HB := Lib.hid (below_alloc w)
  by_cases h8 : n = 8
  · subst h8
    obtain ⟨b, off, rfl, hb, hc⟩ := hx.at_ (by omega)
    have HC := Lib.hid hc
    clear hl hc hx
    by_cases hA : 0 ≤ h.at_ ∧ h.at_ < 512
    · have HA := Lib.hid hA
      obtain ⟨a1, a2⟩ := hA
      go_enter Try.func63, Try.ntmps63
      go_wp2
      go_loop [20, 4] (fun i _ => ∃ k : Nat, k ≤ 8 ∧ i = .int .i64 k ∧ (h.regs.take k).all inWord = true) (fun i _ => 8 - (intOf i).toNat)
      case atStart => exact ⟨0, by omega, rfl, by simp⟩
      case round =>
        obtain ⟨k, hk, rfl, hall⟩ := hrel
        have HAL := Lib.hid hall; clear hall
        by_cases hlt : k < 8
        · obtain ⟨x, hx⟩ := some_of_lt h.regs (k := k) (by rw [HL.out]; exact hlt)
          have hcc := HC.out k x hx
          have HX := Lib.hid hx; clear hx
          go_wp2
          all_goals first
            | (go_ret; exact ⟨ret_int (ckH_bad HL.out HA.out HX.out (by simp [inWord]; omega)).symm, HB.out _⟩)
            | skip
          go_round
          case rel => exact ⟨k+1, by omega, by go_num, all_take_succ HX.out HAL.out (by simp [inWord]; omega)⟩
          case measure => simp [intOf]; omega
        · go_wp2
          obtain rfl : k = 8 := by omega
          go_ret
          exact ⟨ret_int (ckH_ok HL.out HA.out HAL.out).symm, HB.out _⟩
    · have HA := Lib.hid hA
      have h2 : h.at_ < 0 ∨ (0 ≤ h.at_ ∧ 512 ≤ h.at_) := by omega
      clear hA
      rcases h2 with a1 | ⟨a1, a2⟩
      all_goals
        go_enter Try.func63, Try.ntmps63
        go_wp2
        go_ret
        exact ⟨ret_int (ckH_at HL.out HA.out).symm, HB.out _⟩
  · have h6 : ((n : Int) != 8) = true := by simp; omega
    have H5 := Lib.hid h8
    clear hl h8 hx
    go_enter Try.func63, Try.ntmps63
    go_wp2
    go_ret
    exact ⟨ret_int (ckH_len (by rw [HL.out]; exact H5.out)).symm, HB.out _⟩

theorem ints_apart {w : World} {B n : Nat} {A : Option Addr} {xs : List Int} (h : Ints w B A n xs) {p : Addr} (hp : ∀ ad, A = some ad → ad.block ≠ p.block) (u : Value) : Ints (w.setCell p u) B A n xs := by
  refine ⟨h.1, h.2.1, fun hn => ?_⟩
  obtain ⟨b, off, e, hb, hc⟩ := h.2.2 hn
  exact ⟨b, off, e, hb, fun k v hv => (World.cell?_setCell_other _ _ _ _ (fun e' => hp _ e (by have := congrArg Addr.block e'; simpa using this.symm))).trans (hc k v hv)⟩
def zeros8 : Array Value := Array.replicate 8 (.int .i64 0)
theorem make8 : ∀ w : World, (Instr.makeSlice 22 (.int .i64 8) (.int .i64 8)).run Try.prog w = .ok (.slice (some ⟨w.heap.size, 0, none⟩) 8 8) (w.alloc (.cells zeros8 3)) := fun _ => by kernel_rfl
theorem own_zeros8 (w : World) : OwnI w.heap.size (w.alloc (.cells zeros8 3)) (some ⟨w.heap.size, 0, none⟩) 8 8 (List.replicate 8 0) :=
  ⟨List.length_replicate, by rw [List.length_map, List.length_replicate], Or.inr ⟨w.heap.size, 8, zeros8, rfl, Nat.le_refl _, heap_alloc_new w _, Nat.le_refl _, by unfold maxLen; omega, by unfold zeros8; rw [Array.size_replicate],
    by unfold zeros8; rw [Array.toList_replicate, List.map_replicate, List.take_of_length_le (by rw [List.length_replicate]; omega)]⟩⟩
/-- a hart that is new, at a word. -/
def newH (k : Int) : Hrt := if 0 ≤ k ∧ k < 512 then ⟨k, List.replicate 8 0, false⟩ else .no
def newE (k : Int) : Int := if 0 ≤ k ∧ k < 512 then 0 else 2
def newN (k : Int) : Nat := if 0 ≤ k ∧ k < 512 then 8 else 0
theorem newCk (k : Int) : ckH ⟨k, List.replicate 8 0, false⟩ = newE k := by
  by_cases h : 0 ≤ k ∧ k < 512
  · rw [ckH_mk (h := ⟨k, List.replicate 8 0, false⟩) rfl h (fun j x hx => by
      have := List.eq_of_mem_replicate (List.mem_of_getElem? hx); omega)]
    unfold newE; rw [if_pos h]
  · rw [ckH_at (h := ⟨k, List.replicate 8 0, false⟩) rfl h]; unfold newE; rw [if_neg h]
theorem ints_none' (w : World) (B : Nat) : Ints w B none 0 [] := ⟨rfl, by unfold maxLen; omega, Row.nil_⟩

set_option maxRecDepth 100000 in
set_option maxHeartbeats 2000000 in
theorem hart_New (k : Int) (w : World) :
    Calls Try.prog 61 #[.int .i64 k] w fun e w' => ∃ A c, e = .returned (.tuple #[.agg #[.int .i64 (newH k).at_, .slice A (newN k) c, .bool (newH k).done], .int .i64 (newE k)]) ∧ Ints w' w'.heap.size A (newN k) (newH k).regs ∧ Below w.heap.size w w' ∧ ∀ ad, A = some ad → w.heap.size ≤ ad.block := by
  have hmk := make8
  by_cases hk : 0 ≤ k ∧ k < 512
  · have t0 : (newE k != 0) = false := by unfold newE; rw [if_pos hk]; rfl
    have HK := Lib.hid hk
    rw [show newH k = ⟨k, List.replicate 8 0, false⟩ by unfold newH; rw [if_pos hk], show newN k = 8 by unfold newN; rw [if_pos hk]]
    rw [show newE k = (0 : Int) by unfold newE; rw [if_pos hk]]
    clear hk
    go_enter Try.func61, Try.ntmps61
    go_wp2_with fail
    have H0 := Lib.hid ((own_zeros8 (w.alloc (.cells #[.int .i64 0, .slice none 0 0, .bool false] 53))).ints (by decide))
    simp only [World.size_alloc] at H0
    refine (hart_Check ⟨k, List.replicate 8 0, false⟩ _ _ _ _ ((H0.out.alloc (by simp) _).more (by simp))).mono ?_
    rw [newCk]
    rintro e w1 ⟨rfl, hb1⟩
    have hz1 := hb1.size
    (try simp only [World.size_alloc, World.size_setCell, World.size_drew] at hz1)
    have k1_0 := fun o => (bcell hb1).1 (w.heap.size) o (by first | (simp; done) | (simp; omega) | omega)
    have l1_0 : (w.heap.size) < w1.heap.size := (by omega)
    have q1_0 := fun o => (bcell hb1).2 (w.heap.size) o (by first | (simp; done) | (simp; omega) | omega)
    have k1_1 := fun o => (bcell hb1).1 (w.heap.size + 1 + 1) o (by first | (simp; done) | (simp; omega) | omega)
    have l1_1 : (w.heap.size + 1 + 1) < w1.heap.size := (by omega)
    have q1_1 := fun o => (bcell hb1).2 (w.heap.size + 1 + 1) o (by first | (simp; done) | (simp; omega) | omega)
    simp (maxDischargeDepth := 6) [go_sem, *] at k1_0 q1_0 k1_1 q1_1
    have HB1 := Lib.hid hb1
    clear hb1
    go_wp2
    refine bodyPost_ret (v := .tuple #[.agg #[.int .i64 k, .slice (some ⟨w.heap.size + 1, 0, none⟩) 8 8, .bool false], .int .i64 0]) ?_ rfl ⟨_, _, rfl, ?_, ?_, ?_⟩
    · simp (maxDischargeDepth := 8) [results, Try.results61, go_sem, *]
    · have H1 := Lib.hid (((H0.out.alloc (by simp) _).below (HB1.out.mono (by simp))).more (B' := w1.heap.size) (by omega))
      refine Ints.more (B := w1.heap.size) ?_ (by first | (simp; done) | (simp; omega))
      (repeat (first | (with_reducible exact H1.out) | ((with_reducible refine ints_apart ?_ ?_ _); rotate_left; exact (fun ad e => by injection e with e; subst e; show w.heap.size + 1 ≠ w.heap.size; omega))))
    · (repeat (first | (with_reducible exact Below.refl _ _) | (with_reducible refine Below.drew ?_) | (with_reducible refine bdrewN ?_ _) | ((with_reducible refine Below.setCell ?_ ?_ _); rotate_left; exact (by first | (simp; done) | (simp; omega) | omega)) | ((with_reducible refine Below.alloc ?_ ?_ _); rotate_left; exact (by first | (simp; done) | (simp; omega) | omega)) | ((with_reducible refine Below.trans ?_ (HB1.out.mono ?_)); rotate_left; exact (by first | (simp; done) | (simp; omega) | omega))))
    · intro ad e; injection e with e; subst e; show w.heap.size ≤ w.heap.size + 1; omega
  · have t0 : (newE k != 0) = true := by unfold newE; rw [if_neg hk]; rfl
    have hE : newE k = 2 := by unfold newE; rw [if_neg hk]
    rw [show newH k = .no by unfold newH; rw [if_neg hk], show newN k = 0 by unfold newN; rw [if_neg hk]]
    have HE := Lib.hid hE
    clear hk hE
    go_enter Try.func61, Try.ntmps61
    go_wp2_with fail
    have H0 := Lib.hid ((own_zeros8 (w.alloc (.cells #[.int .i64 0, .slice none 0 0, .bool false] 53))).ints (by decide))
    simp only [World.size_alloc] at H0
    refine (hart_Check ⟨k, List.replicate 8 0, false⟩ _ _ _ _ ((H0.out.alloc (by simp) _).more (by simp))).mono ?_
    rw [newCk]
    rintro e w1 ⟨rfl, hb1⟩
    have hz1 := hb1.size
    (try simp only [World.size_alloc, World.size_setCell, World.size_drew] at hz1)
    have k1_0 := fun o => (bcell hb1).1 (w.heap.size) o (by first | (simp; done) | (simp; omega) | omega)
    have l1_0 : (w.heap.size) < w1.heap.size := (by omega)
    have q1_0 := fun o => (bcell hb1).2 (w.heap.size) o (by first | (simp; done) | (simp; omega) | omega)
    simp (maxDischargeDepth := 6) [go_sem, *] at k1_0 q1_0
    have HB1 := Lib.hid hb1
    clear hb1
    go_wp2
    refine bodyPost_ret (v := .tuple #[.agg #[.int .i64 0, .slice none 0 0, .bool false], .int .i64 (newE k)]) ?_ rfl ⟨none, 0, rfl, ints_none' _ _, ?_, fun _ e => by cases e⟩
    · simp (maxDischargeDepth := 8) [results, Try.results61, go_sem, *]
    · (repeat (first | (with_reducible exact Below.refl _ _) | (with_reducible refine Below.drew ?_) | (with_reducible refine bdrewN ?_ _) | ((with_reducible refine Below.setCell ?_ ?_ _); rotate_left; exact (by first | (simp; done) | (simp; omega) | omega)) | ((with_reducible refine Below.alloc ?_ ?_ _); rotate_left; exact (by first | (simp; done) | (simp; omega) | omega)) | ((with_reducible refine Below.trans ?_ (HB1.out.mono ?_)); rotate_left; exact (by first | (simp; done) | (simp; omega) | omega))))

set_option maxRecDepth 100000 in
set_option maxHeartbeats 2000000 in
theorem hart_Same (a b : Hrt) (A B : Option Addr) (n c m d : Nat) (w : World) (hx : Ints w w.heap.size A n a.regs) (hy : Ints w w.heap.size B m b.regs) :
    Calls Try.prog 64 #[.agg #[.int .i64 a.at_, .slice A n c, .bool a.done], .agg #[.int .i64 b.at_, .slice B m d, .bool b.done]] w fun e w' => e = .returned (.bool (sameH a b)) ∧ Below w.heap.size w w' := by
  have HX := Lib.hid hx; clear hx
  have HY := Lib.hid hy; clear hy
  have HB := Lib.hid (below_alloc w)
  have HS := Lib.hid (sameH_and a b)
  by_cases h1 : a.at_ = b.at_
  · have t1 : (a.at_ == b.at_) = true := by rw [beq_iff_eq]; exact h1
    by_cases h2 : a.regs = b.regs
    · have HR := Lib.hid (show (a.done == b.done) = sameH a b by rw [HS.out]; cases a.done <;> cases b.done <;> simp [h1, h2])
      have H2 := Lib.hid h2
      clear h1 h2
      go_enter Try.func64, Try.ntmps64
      go_wp2_with fail
      refine (sl_Equal _ _ _ _ _ _ a.regs b.regs _ (((HX.out.alloc (Nat.le_refl _) _).alloc (by simp) _).more (by simp; omega)) (((HY.out.alloc (Nat.le_refl _) _).alloc (by simp) _).more (by simp; omega))).mono ?_
      rw [show eqI a.regs b.regs = true by simp [eqI, H2.out]]
      rintro e w1 ⟨rfl, hb1⟩
      have hz1 := hb1.size
      (try simp only [World.size_alloc, World.size_setCell, World.size_drew] at hz1)
      have k1_0 := fun o => (bcell hb1).1 (w.heap.size) o (by first | (simp; done) | (simp; omega) | omega)
      have l1_0 : (w.heap.size) < w1.heap.size := (by omega)
      have q1_0 := fun o => (bcell hb1).2 (w.heap.size) o (by first | (simp; done) | (simp; omega) | omega)
      have k1_1 := fun o => (bcell hb1).1 (w.heap.size + 1) o (by first | (simp; done) | (simp; omega) | omega)
      have l1_1 : (w.heap.size + 1) < w1.heap.size := (by omega)
      have q1_1 := fun o => (bcell hb1).2 (w.heap.size + 1) o (by first | (simp; done) | (simp; omega) | omega)
      simp (maxDischargeDepth := 6) [go_sem, *] at k1_0 q1_0 k1_1 q1_1
      have HB1 := Lib.hid hb1
      clear hb1
      go_wp2
      go_ret
      exact ⟨ret_bool HR.out, by (repeat (first | (with_reducible exact Below.refl _ _) | (with_reducible refine Below.drew ?_) | (with_reducible refine bdrewN ?_ _) | ((with_reducible refine Below.setCell ?_ ?_ _); rotate_left; exact (by first | (simp; done) | (simp; omega) | omega)) | ((with_reducible refine Below.alloc ?_ ?_ _); rotate_left; exact (by first | (simp; done) | (simp; omega) | omega)) | ((with_reducible refine Below.trans ?_ (HB1.out.mono ?_)); rotate_left; exact (by first | (simp; done) | (simp; omega) | omega))))⟩
    · have HR := Lib.hid (show false = sameH a b by rw [HS.out]; simp [h2])
      have H2 := Lib.hid h2
      clear h1 h2
      go_enter Try.func64, Try.ntmps64
      go_wp2_with fail
      refine (sl_Equal _ _ _ _ _ _ a.regs b.regs _ (((HX.out.alloc (Nat.le_refl _) _).alloc (by simp) _).more (by simp; omega)) (((HY.out.alloc (Nat.le_refl _) _).alloc (by simp) _).more (by simp; omega))).mono ?_
      rw [show eqI a.regs b.regs = false by simp [eqI, H2.out]]
      rintro e w1 ⟨rfl, hb1⟩
      have hz1 := hb1.size
      (try simp only [World.size_alloc, World.size_setCell, World.size_drew] at hz1)
      have k1_0 := fun o => (bcell hb1).1 (w.heap.size) o (by first | (simp; done) | (simp; omega) | omega)
      have l1_0 : (w.heap.size) < w1.heap.size := (by omega)
      have q1_0 := fun o => (bcell hb1).2 (w.heap.size) o (by first | (simp; done) | (simp; omega) | omega)
      have k1_1 := fun o => (bcell hb1).1 (w.heap.size + 1) o (by first | (simp; done) | (simp; omega) | omega)
      have l1_1 : (w.heap.size + 1) < w1.heap.size := (by omega)
      have q1_1 := fun o => (bcell hb1).2 (w.heap.size + 1) o (by first | (simp; done) | (simp; omega) | omega)
      simp (maxDischargeDepth := 6) [go_sem, *] at k1_0 q1_0 k1_1 q1_1
      have HB1 := Lib.hid hb1
      clear hb1
      go_wp2
      go_ret
      exact ⟨ret_bool HR.out, by (repeat (first | (with_reducible exact Below.refl _ _) | (with_reducible refine Below.drew ?_) | (with_reducible refine bdrewN ?_ _) | ((with_reducible refine Below.setCell ?_ ?_ _); rotate_left; exact (by first | (simp; done) | (simp; omega) | omega)) | ((with_reducible refine Below.alloc ?_ ?_ _); rotate_left; exact (by first | (simp; done) | (simp; omega) | omega)) | ((with_reducible refine Below.trans ?_ (HB1.out.mono ?_)); rotate_left; exact (by first | (simp; done) | (simp; omega) | omega))))⟩
  · have t1 : (a.at_ == b.at_) = false := by rw [beq_eq_false_iff_ne]; exact h1
    have HR := Lib.hid (show false = sameH a b by rw [HS.out]; simp [h1])
    clear h1
    go_enter Try.func64, Try.ntmps64
    go_wp2
    go_ret
    exact ⟨ret_bool HR.out, by (repeat (first | (with_reducible exact Below.refl _ _) | (with_reducible refine Below.drew ?_) | (with_reducible refine bdrewN ?_ _) | ((with_reducible refine Below.setCell ?_ ?_ _); rotate_left; exact (by first | (simp; done) | (simp; omega) | omega)) | ((with_reducible refine Below.alloc ?_ ?_ _); rotate_left; exact (by first | (simp; done) | (simp; omega) | omega))))⟩
end

section
set_option maxRecDepth 100000 in
set_option maxHeartbeats 2000000 in
theorem ref_CheckHart (h : Hrt) (A : Option Addr) (n c : Nat) (w : World) (hx : Ints w w.heap.size A n h.regs) :
    Calls Try.prog 62 #[.agg #[.int .i64 h.at_, .slice A n c, .bool h.done]] w fun e w' => e = .returned (.int .i64 (ckH h)) ∧ Below w.heap.size w w' := by
  have hl := hx.len
  have HL := Lib.hid hl
  have HB := Lib.hid (below_alloc w)
  by_cases h8 : n = 8
  · subst h8
    obtain ⟨b, off, rfl, hb, hc⟩ := hx.at_ (by omega)
    have HC := Lib.hid hc
    clear hl hc hx
    by_cases hA : 0 ≤ h.at_ ∧ h.at_ < 512
    · have HA := Lib.hid hA
      have t0 : inB h.at_ 0 511 = true := by simp [inB]; omega
      clear hA
      go_enter Try.func62, Try.ntmps62
      go_wp2_with (go_at_call 70; refine (ref_in _ _ _ _).mono ?_; rintro e w' ⟨rfl, rfl⟩)
      go_loop [16, 4] (fun i _ => ∃ k : Nat, k ≤ 8 ∧ i = .int .i64 k ∧ (h.regs.take k).all inWord = true) (fun i _ => 8 - (intOf i).toNat)
      case atStart => exact ⟨0, by omega, rfl, by simp⟩
      case round =>
        obtain ⟨k, hk, rfl, hall⟩ := hrel
        have HAL := Lib.hid hall; clear hall
        by_cases hlt : k < 8
        · obtain ⟨x, hx⟩ := some_of_lt h.regs (k := k) (by rw [HL.out]; exact hlt)
          have hcc := HC.out k x hx
          have HX := Lib.hid hx; clear hx
          cases hi : inB x 0 65535
          · have HI := Lib.hid (show inWord x = false by simp [inB] at hi; simp [inWord]; omega)
            go_wp2_with (go_at_call 70; refine (ref_in _ _ _ _).mono ?_; rintro e w' ⟨rfl, rfl⟩)
            go_ret
            exact ⟨ret_int (ckH_bad HL.out HA.out HX.out HI.out).symm, HB.out _⟩
          · have HI := Lib.hid (show inWord x = true by simp [inB] at hi; simp [inWord]; omega)
            go_wp2_with (go_at_call 70; refine (ref_in _ _ _ _).mono ?_; rintro e w' ⟨rfl, rfl⟩)
            go_round
            case rel => exact ⟨k+1, by omega, by go_num, all_take_succ HX.out HAL.out HI.out⟩
            case measure => simp [intOf]; omega
        · go_wp2
          obtain rfl : k = 8 := by omega
          go_ret
          exact ⟨ret_int (ckH_ok HL.out HA.out HAL.out).symm, HB.out _⟩
    · have HA := Lib.hid hA
      have t0 : inB h.at_ 0 511 = false := by simp [inB]; omega
      clear hA
      go_enter Try.func62, Try.ntmps62
      go_wp2_with (go_at_call 70; refine (ref_in _ _ _ _).mono ?_; rintro e w' ⟨rfl, rfl⟩)
      go_ret
      exact ⟨ret_int (ckH_at HL.out HA.out).symm, HB.out _⟩
  · have h6 : ((n : Int) != 8) = true := by simp; omega
    have H5 := Lib.hid h8
    clear hl h8 hx
    go_enter Try.func62, Try.ntmps62
    go_wp2
    go_ret
    exact ⟨ret_int (ckH_len (by rw [HL.out]; exact H5.out)).symm, HB.out _⟩

set_option maxRecDepth 100000 in
set_option maxHeartbeats 2000000 in
theorem ref_SameHart (a b : Hrt) (A B : Option Addr) (n c m d : Nat) (w : World) (hx : Ints w w.heap.size A n a.regs) (hy : Ints w w.heap.size B m b.regs) :
    Calls Try.prog 65 #[.agg #[.int .i64 a.at_, .slice A n c, .bool a.done], .agg #[.int .i64 b.at_, .slice B m d, .bool b.done]] w fun e w' => e = .returned (.bool (sameH a b)) ∧ Below w.heap.size w w' := by
  have HX := Lib.hid hx; clear hx
  have HY := Lib.hid hy; clear hy
  have HB := Lib.hid (below_alloc w)
  have HS := Lib.hid (sameH_and a b)
  by_cases h1 : a.at_ = b.at_
  · have t1 : (a.at_ == b.at_) = true := by rw [beq_iff_eq]; exact h1
    by_cases h3 : a.done = b.done
    · have t3 : (a.done == b.done) = true := by rw [beq_iff_eq]; exact h3
      have HR := Lib.hid (show eqI a.regs b.regs = sameH a b by rw [HS.out, Bool.eq_iff_iff]; simp [h1, h3, eqI])
      clear h1 h3
      go_enter Try.func65, Try.ntmps65
      go_wp2_with fail
      refine (sl_Equal _ _ _ _ _ _ a.regs b.regs _ (ints_now HX.out (by (repeat (first | (with_reducible exact Below.refl _ _) | (with_reducible refine Below.drew ?_) | (with_reducible refine bdrewN ?_ _) | ((with_reducible refine Below.setCell ?_ ?_ _); rotate_left; exact (by first | (simp; done) | (simp; omega) | omega)) | ((with_reducible refine Below.alloc ?_ ?_ _); rotate_left; exact (by first | (simp; done) | (simp; omega) | omega)))))) (ints_now HY.out (by (repeat (first | (with_reducible exact Below.refl _ _) | (with_reducible refine Below.drew ?_) | (with_reducible refine bdrewN ?_ _) | ((with_reducible refine Below.setCell ?_ ?_ _); rotate_left; exact (by first | (simp; done) | (simp; omega) | omega)) | ((with_reducible refine Below.alloc ?_ ?_ _); rotate_left; exact (by first | (simp; done) | (simp; omega) | omega))))))).mono ?_
      rw [HR.out]
      rintro e w1 ⟨rfl, hb1⟩
      have hz1 := hb1.size
      (try simp only [World.size_alloc, World.size_setCell, World.size_drew] at hz1)
      have HB1 := Lib.hid hb1
      clear hb1
      go_wp2
      go_ret
      exact ⟨rfl, by (repeat (first | (with_reducible exact Below.refl _ _) | (with_reducible refine Below.drew ?_) | (with_reducible refine bdrewN ?_ _) | ((with_reducible refine Below.setCell ?_ ?_ _); rotate_left; exact (by first | (simp; done) | (simp; omega) | omega)) | ((with_reducible refine Below.alloc ?_ ?_ _); rotate_left; exact (by first | (simp; done) | (simp; omega) | omega)) | ((with_reducible refine Below.trans ?_ (HB1.out.mono ?_)); rotate_left; exact (by first | (simp; done) | (simp; omega) | omega))))⟩
    · have t3 : (a.done == b.done) = false := by rw [beq_eq_false_iff_ne]; exact h3
      have HR := Lib.hid (show false = sameH a b by rw [HS.out]; simp [h3])
      clear h1 h3
      go_enter Try.func65, Try.ntmps65
      go_wp2
      go_ret
      exact ⟨ret_bool HR.out, by (repeat (first | (with_reducible exact Below.refl _ _) | (with_reducible refine Below.drew ?_) | (with_reducible refine bdrewN ?_ _) | ((with_reducible refine Below.setCell ?_ ?_ _); rotate_left; exact (by first | (simp; done) | (simp; omega) | omega)) | ((with_reducible refine Below.alloc ?_ ?_ _); rotate_left; exact (by first | (simp; done) | (simp; omega) | omega))))⟩
  · have t1 : (a.at_ == b.at_) = false := by rw [beq_eq_false_iff_ne]; exact h1
    have HR := Lib.hid (show false = sameH a b by rw [HS.out]; simp [h1])
    clear h1
    go_enter Try.func65, Try.ntmps65
    go_wp2
    go_ret
    exact ⟨ret_bool HR.out, by (repeat (first | (with_reducible exact Below.refl _ _) | (with_reducible refine Below.drew ?_) | (with_reducible refine bdrewN ?_ _) | ((with_reducible refine Below.setCell ?_ ?_ _); rotate_left; exact (by first | (simp; done) | (simp; omega) | omega)) | ((with_reducible refine Below.alloc ?_ ?_ _); rotate_left; exact (by first | (simp; done) | (simp; omega) | omega))))⟩
end
end Go.Proofs.Ytbopdijnojaaiab
