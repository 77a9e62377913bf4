/- Instructions as words: what the program's and the document's functions of chapter 9 compute, and that they compute it. No statement of the seat is proved here. -/
import Derived.Test.YtbopdijnojaaiadProg
import Derived.Test.YtbopdijnojaaiadBits
import Derived.Test.YtbopdijnojaaiadSlices
namespace Go.Proofs.Ytbopdijnojaaiad
open Go.RowKit
set_option linter.unusedSimpArgs false
set_option linter.unusedVariables false

def usesA (k : Int) : Bool := k == 1 || k == 3 || k == 7 || k == 8 || k == 2 || k == 4 || k == 5 || k == 6
def usesB (k : Int) : Bool := k == 2 || k == 4 || k == 5 || k == 6
def usesI (k : Int) : Bool := k == 1 || k == 3 || k == 7 || k == 8 || k == 4 || k == 5 || k == 6
def InsR (k a b i : Int) : Prop := 0 ≤ k ∧ k ≤ 8 ∧ 0 ≤ a ∧ a < 8 ∧ 0 ≤ b ∧ b < 8 ∧ 0 ≤ i ∧ i ≤ 63
def insF (k a b i : Int) : Bool := (usesA k || a == 0) && (usesB k || b == 0) && (usesI k || i == 0)
instance (k a b i : Int) : Decidable (InsR k a b i) := by unfold InsR; infer_instance
def insE (k a b i : Int) : Int := if InsR k a b i then (if insF k a b i then 0 else 3) else 2
def insW (k a b i : Int) : Int := if insE k a b i = 0 then k * 4096 + a * 512 + b * 64 + i else 0
theorem insE_r {k a b i : Int} (h : ¬ InsR k a b i) : insE k a b i = 2 := by simp [insE, h]
theorem insE_f {k a b i : Int} (h : InsR k a b i) (h' : insF k a b i = false) : insE k a b i = 3 := by simp [insE, h, h']
theorem insE_0 {k a b i : Int} (h : InsR k a b i) (h' : insF k a b i = true) : insE k a b i = 0 := by simp [insE, h, h']
theorem insW_0 {k a b i : Int} (h : insE k a b i = 0) : insW k a b i = k * 4096 + a * 512 + b * 64 + i := by simp [insW, h]
theorem insW_n {k a b i : Int} {n : Int} (h : insE k a b i = n) (hn : n ≠ 0) : insW k a b i = 0 := by simp [insW, h, hn]
theorem ins_bits {k a b i : Int} (h : InsR k a b i) : bits .or .i64 (bits .or .i64 (bits .or .i64 (k * 4096) (a * 512)) (b * 64)) i = k * 4096 + a * 512 + b * 64 + i := by
  obtain ⟨h1, h2, h3, h4, h5, h6, h7, h8⟩ := h
  rw [or_add 12 k.toNat (k * 4096) (a * 512) (by omega) (by omega) (by omega) (by omega) (by omega), or_add 9 (k * 8 + a).toNat _ (b * 64) (by omega) (by omega) (by omega) (by omega) (by omega),
    or_add 6 (k * 64 + a * 8 + b).toNat _ i (by omega) (by omega) (by omega) (by omega) (by omega)]

theorem put_w {k a b i : Int} (h : InsR k a b i) (hf : insF k a b i = true) : bits .or .i64 (bits .or .i64 (bits .or .i64 (k * 4096) (a * 512)) (b * 64)) i = insW k a b i :=
  (ins_bits h).trans (insW_0 (insE_0 h hf)).symm
theorem put_n {k a b i : Int} (h : InsR k a b i) (hf : insF k a b i = false) : 0 = insW k a b i := (insW_n (insE_f h hf) (by decide)).symm

set_option maxRecDepth 100000 in
set_option maxHeartbeats 400000 in
theorem code_uses (k : Int) (w : World) :
    Calls Try.prog 61 #[.int .i64 k] w fun e w' => e = .returned (.tuple #[.bool (usesA k), .bool (usesB k), .bool (usesI k)]) ∧ w = w' := by
  go_enter Try.func61, Try.ntmps61
  go_wp2
  all_goals go_ret3
  all_goals refine ⟨ret_bool3 ?_ ?_ ?_, rfl⟩
  all_goals (rw [Bool.eq_iff_iff]; simp only [beq_iff_eq, beq_eq_false_iff_ne, ne_eq] at *; simp [usesA, usesB, usesI] <;> omega)

set_option maxRecDepth 100000 in
set_option maxHeartbeats 1000000 in
theorem code_Put (k a b i : Int) (w : World) :
    Calls Try.prog 53 #[.agg #[.int .i64 k, .int .i64 a, .int .i64 b, .int .i64 i]] w fun e w' => e = .returned (.tuple #[.int .i64 (insW k a b i), .int .i64 (insE k a b i)]) ∧ Below w.heap.size w w' := by
  have HB := Lib.hid (below_alloc w)
  by_cases hR : InsR k a b i
  · have HR := Lib.hid hR
    unfold InsR at hR
    obtain ⟨h1, h2, h3, h4, h5, h6, h7, h8⟩ := hR
    go_enter Try.func53, Try.ntmps53
    go_wp2_with (go_at_call 61; refine (code_uses _ _).mono ?_; rintro e w' ⟨rfl, rfl⟩)
    all_goals go_ret2
    all_goals go_tidy
    all_goals (try simp only [bne_iff_ne, ne_eq, bne_eq_false_iff_eq] at *)
    all_goals simp only [Array.getD_eq_getD_getElem?, List.getElem?_toArray, List.getElem?_cons_zero, List.getElem?_cons_succ, Option.getD_some]
    all_goals first
      | (with_reducible refine ⟨ret_int2 (put_w HR.out ?_) (insE_0 HR.out ?_).symm, HB.out _⟩) <;> (simp [insF, *]; done)
      | (subst_vars; refine ⟨ret_int2 (Eq.trans ?_ (put_w HR.out ?_)) (insE_0 HR.out ?_).symm, HB.out _⟩; (· simp only [Int.zero_mul]); all_goals (simp [insF, *]; done))
      | (with_reducible refine ⟨ret_int2 (put_n HR.out ?_) (insE_f HR.out ?_).symm, HB.out _⟩) <;> (simp [insF, *]; done)
  · have HR := Lib.hid hR
    unfold InsR at hR
    go_enter Try.func53, Try.ntmps53
    go_wp2_with (go_at_call 61; refine (code_uses _ _).mono ?_; rintro e w' ⟨rfl, rfl⟩)
    all_goals go_ret2
    all_goals exact ⟨ret_int2 (insW_n (insE_r HR.out) (by decide)).symm (insE_r HR.out).symm, HB.out _⟩
def rdE (v : Int) : Int := if 0 ≤ v ∧ v ≤ 65535 then (if insE (v / 4096) (v / 512 % 8) (v / 64 % 8) (v % 64) = 0 then 0 else 3) else 2
def rdF (v x : Int) : Int := if rdE v = 0 then x else 0
theorem rdE_r {v : Int} (h : ¬ (0 ≤ v ∧ v ≤ 65535)) : rdE v = 2 := by simp only [rdE, if_neg h]
theorem rdE_f {v : Int} (h : 0 ≤ v ∧ v ≤ 65535) (h' : insE (v / 4096) (v / 512 % 8) (v / 64 % 8) (v % 64) ≠ 0) : rdE v = 3 := by simp only [rdE, if_pos h, if_neg h']
theorem rdE_0 {v : Int} (h : 0 ≤ v ∧ v ≤ 65535) (h' : insE (v / 4096) (v / 512 % 8) (v / 64 % 8) (v % 64) = 0) : rdE v = 0 := by simp only [rdE, if_pos h, if_pos h']
theorem rdF_n {v x n : Int} (h : rdE v = n) (hn : n ≠ 0) : rdF v x = 0 := by simp [rdF, h, hn]
theorem rdF_0 {v x : Int} (h : rdE v = 0) : rdF v x = x := by simp [rdF, h]

def insV (k a b i : Int) : Value := .agg #[.int .i64 k, .int .i64 a, .int .i64 b, .int .i64 i]
def rdV (v : Int) : Value := .tuple #[.agg #[.int .i64 (rdF v (v / 4096)), .int .i64 (rdF v (v / 512 % 8)), .int .i64 (rdF v (v / 64 % 8)), .int .i64 (rdF v (v % 64))], .int .i64 (rdE v)]
theorem rdV_n {v n : Int} (h : rdE v = n) (hn : n ≠ 0) : Ending.returned (.tuple #[.agg #[.int .i64 0, .int .i64 0, .int .i64 0, .int .i64 0], .int .i64 n]) = .returned (rdV v) := by simp [rdV, rdF_n h hn, h]
theorem rdV_0 {v : Int} (h : rdE v = 0) : Ending.returned (.tuple #[.agg #[.int .i64 (v / 4096), .int .i64 (v / 512 % 8), .int .i64 (v / 64 % 8), .int .i64 (v % 64)], .int .i64 0]) = .returned (rdV v) := by simp [rdV, rdF_0 h, h]

set_option maxRecDepth 100000 in
set_option maxHeartbeats 1000000 in
theorem code_Read (v : Int) (w : World) : Calls Try.prog 37 #[.int .i64 v] w fun e w' => e = .returned (rdV v) ∧ Below w.heap.size w w' := by
  have HB := Lib.hid (below_alloc w)
  by_cases hR : 0 ≤ v ∧ v ≤ 65535
  · have HR := Lib.hid hR
    obtain ⟨h1, h2⟩ := hR
    have e1 := and7 (v / 512) (by omega) (by omega)
    have e2 := and7 (v / 64) (by omega) (by omega)
    have e3 := and63 v (by omega) (by omega)
    go_enter Try.func37, Try.ntmps37
    go_wp2_with fail
    refine (code_Put _ _ _ _ _).mono ?_
    rintro e w1 ⟨rfl, hb1⟩
    have hz1 := hb1.size
    (try simp only [World.size_alloc, World.size_setCell, World.size_drew] at hz1)
    have k1_0 := fun o => (bcell hb1).1 (w.heap.size) o (by first | (simp; done) | (simp; omega) | omega)
    have l1_0 : (w.heap.size) < w1.heap.size := (by omega)
    have q1_0 := fun o => (bcell hb1).2 (w.heap.size) o (by first | (simp; done) | (simp; omega) | omega)
    have k1_1 := fun o => (bcell hb1).1 (w.heap.size + 1) o (by first | (simp; done) | (simp; omega) | omega)
    have l1_1 : (w.heap.size + 1) < w1.heap.size := (by omega)
    have q1_1 := fun o => (bcell hb1).2 (w.heap.size + 1) o (by first | (simp; done) | (simp; omega) | omega)
    simp (maxDischargeDepth := 6) [go_sem, *] at k1_0 q1_0 k1_1 q1_1
    have HB1 := Lib.hid hb1
    clear hb1
    by_cases hE : insE (v / 4096) (v / 512 % 8) (v / 64 % 8) (v % 64) = 0
    · have HE := Lib.hid hE
      have hE2 : (insE (v / 4096) (v / 512 % 8) (v / 64 % 8) (v % 64) != 0) = false := by simp [hE]
      clear hE
      go_wp2
      refine bodyPost_ret (v := .tuple #[.agg #[.int .i64 (v / 4096), .int .i64 (v / 512 % 8), .int .i64 (v / 64 % 8), .int .i64 (v % 64)], .int .i64 0]) ?_ rfl ⟨rdV_0 (rdE_0 HR.out HE.out), ?_⟩
      · simp (maxDischargeDepth := 8) [results, Try.results37, go_sem, *]
      · (repeat (first | (with_reducible exact Below.refl _ _) | (with_reducible refine Below.drew ?_) | (with_reducible refine bdrewN ?_ _) | ((with_reducible refine Below.setCell ?_ ?_ _); rotate_left; exact (by first | (simp; done) | (simp; omega) | omega)) | ((with_reducible refine Below.alloc ?_ ?_ _); rotate_left; exact (by first | (simp; done) | (simp; omega) | omega)) | ((with_reducible refine Below.trans ?_ (HB1.out.mono ?_)); rotate_left; exact (by first | (simp; done) | (simp; omega) | omega))))
    · have HE := Lib.hid hE
      have hE2 : (insE (v / 4096) (v / 512 % 8) (v / 64 % 8) (v % 64) != 0) = true := by simp [hE]
      clear hE
      go_wp2
      refine bodyPost_ret (v := .tuple #[.agg #[.int .i64 0, .int .i64 0, .int .i64 0, .int .i64 0], .int .i64 3]) ?_ rfl ⟨rdV_n (rdE_f HR.out HE.out) (by decide), ?_⟩
      · simp (maxDischargeDepth := 8) [results, Try.results37, go_sem, *]
      · (repeat (first | (with_reducible exact Below.refl _ _) | (with_reducible refine Below.drew ?_) | (with_reducible refine bdrewN ?_ _) | ((with_reducible refine Below.setCell ?_ ?_ _); rotate_left; exact (by first | (simp; done) | (simp; omega) | omega)) | ((with_reducible refine Below.alloc ?_ ?_ _); rotate_left; exact (by first | (simp; done) | (simp; omega) | omega)) | ((with_reducible refine Below.trans ?_ (HB1.out.mono ?_)); rotate_left; exact (by first | (simp; done) | (simp; omega) | omega))))
  · have HR := Lib.hid hR
    go_enter Try.func37, Try.ntmps37
    go_wp2
    all_goals refine bodyPost_ret (v := .tuple #[.agg #[.int .i64 0, .int .i64 0, .int .i64 0, .int .i64 0], .int .i64 2]) ?_ rfl ⟨rdV_n (rdE_r HR.out) (by decide), HB.out _⟩
    all_goals simp [results, Try.results37, go_sem]
end Go.Proofs.Ytbopdijnojaaiad
