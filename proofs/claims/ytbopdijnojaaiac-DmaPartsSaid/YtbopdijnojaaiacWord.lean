/- Orders and faults as words: the walks of ReadOrder and ReadFault. No statement of the seat is proved here. -/
import Derived.Test.YtbopdijnojaaiacProg
import Derived.Test.YtbopdijnojaaiacBits
import Derived.Test.YtbopdijnojaaiacSlices
import Derived.Test.YtbopdijnojaaiacBase
namespace Go.Proofs.Ytbopdijnojaaiac
open Go.RowKit
set_option linter.unusedSimpArgs false
set_option linter.unusedVariables false

section
section
def OrdR (k d p : Int) : Prop := 0 ≤ k ∧ k ≤ 3 ∧ 0 ≤ d ∧ d < 8 ∧ 0 ≤ p ∧ p < 64
def OrdF (k d p : Int) : Prop := (k < 2 → d = 0) ∧ (k < 3 → p = 0)
instance (k d p : Int) : Decidable (OrdR k d p) := by unfold OrdR; infer_instance
instance (k d p : Int) : Decidable (OrdF k d p) := by unfold OrdF; infer_instance
def FltR (c d p : Int) : Prop := 1 ≤ c ∧ c ≤ 5 ∧ 0 ≤ d ∧ d < 8 ∧ 0 ≤ p ∧ p < 64
instance (c d p : Int) : Decidable (FltR c d p) := by unfold FltR; infer_instance
def fltE (c d p : Int) : Int := if FltR c d p then 0 else 2
def fltW (c d p : Int) (r : Bool) : Int := if fltE c d p = 0 then c + 8 * d + 64 * p + (if r then 4096 else 0) else 0
theorem fltE_r {c d p : Int} (h : ¬ FltR c d p) : fltE c d p = 2 := by simp [fltE, h]
theorem fltE_0 {c d p : Int} (h : FltR c d p) : fltE c d p = 0 := by simp [fltE, h]
theorem fltE_inv {c d p : Int} (h : fltE c d p = 0) : FltR c d p := by
  unfold fltE at h; split at h
  · assumption
  · cases h
theorem fltW_0 {c d p : Int} {r : Bool} (h : fltE c d p = 0) : fltW c d p r = c + 8 * d + 64 * p + (if r then 4096 else 0) := by simp [fltW, h]
theorem fltW_n {c d p n : Int} {r : Bool} (h : fltE c d p = n) (hn : n ≠ 0) : fltW c d p r = 0 := by simp [fltW, h, hn]
theorem flt_bits0 {c d p : Int} (h : FltR c d p) : bits .or .i64 (bits .or .i64 c (d * 8)) (p * 64) = c + 8 * d + 64 * p := by
  obtain ⟨h1, h2, h3, h4, h5, h6⟩ := h
  rw [or_comm_i64 c, or8 (d * 8) c (by omega) (by omega) (by omega) (by omega) (by omega), or_comm_i64, or_add 6 p.toNat (p * 64) (d * 8 + c) (by omega) (by omega) (by omega) (by omega) (by omega)]
  omega
theorem flt_bits1 {c d p : Int} (h : FltR c d p) : bits .or .i64 (c + 8 * d + 64 * p) 4096 = fltW c d p true := by
  rw [fltW_0 (fltE_0 h)]
  obtain ⟨h1, h2, h3, h4, h5, h6⟩ := h
  rw [or_comm_i64, or_add 12 1 4096 (c + 8 * d + 64 * p) (by omega) (by omega) (by omega) (by omega) (by omega)]
  simp; omega
theorem fltW_f {c d p : Int} (h : FltR c d p) : c + 8 * d + 64 * p = fltW c d p false := by rw [fltW_0 (fltE_0 h)]; simp

-- what a word is read as
end

section
structure Flt where
  cause : Int
  dev : Int
  page : Int
  wr : Bool
def Flt.val (f : Flt) : Value := .agg #[.int .i64 f.cause, .int .i64 f.dev, .int .i64 f.page, .bool f.wr]
theorem Flt.ext' {x y : Flt} (h1 : x.cause = y.cause) (h2 : x.dev = y.dev) (h3 : x.page = y.page) (h4 : x.wr = y.wr) : x = y := by
  cases x; cases y; simp only [] at *; subst h1; subst h2; subst h3; subst h4; rfl
instance : DecidableEq Flt := fun x y =>
  if h : x.cause = y.cause ∧ x.dev = y.dev ∧ x.page = y.page ∧ x.wr = y.wr then isTrue (Flt.ext' h.1 h.2.1 h.2.2.1 h.2.2.2) else isFalse (fun e => h (by subst e; exact ⟨rfl, rfl, rfl, rfl⟩))
def Flt.e (f : Flt) : Int := fltE f.cause f.dev f.page
def Flt.w (f : Flt) : Int := fltW f.cause f.dev f.page f.wr
theorem flt_rng {f : Flt} (h : f.e = 0) : 0 ≤ f.w ∧ f.w < 8192 := by
  have := fltE_inv h
  unfold FltR at this
  unfold Flt.w
  rw [fltW_0 h]
  split <;> omega
/-- tell a word, of right ones. -/
def tellM (xs : List Int) (b : Brg) (v : Int) : List Int × Brg :=
  if b.lost = true then (xs, b) else if lenR b.faults = 7 then (xs, { b with lost := true }) else (pushX xs b.faults v, { b with faults := pushR b.faults })
theorem allE_0 {xs : List Int} {b : Brg} (h : cm xs = 0) (h' : ckB b = 0) : allE xs b = 0 := by unfold allE; rw [if_pos h, h']
theorem tell_ck {xs : List Int} {b : Brg} {v : Int} (h : cm xs = 0) (h' : ckB b = 0) (hv : 0 ≤ v ∧ v ≤ 65535) : cm (tellM xs b v).1 = 0 ∧ ckB (tellM xs b v).2 = 0 := by
  unfold tellM
  split
  · exact ⟨h, h'⟩
  · rw [ckB_iff] at h'
    split
    · exact ⟨h, by rw [ckB_iff]; exact h'⟩
    · exact ⟨push_cm h hv, by rw [ckB_iff]; exact ⟨h'.1, h'.2.1, h'.2.2.1, push_ring h'.2.2.2⟩⟩

end
end

section
section
set_option maxRecDepth 100000 in
set_option maxHeartbeats 1000000 in
theorem word_PutFault (c d p : Int) (r : Bool) (w : World) : Calls Try.prog 62 #[.agg #[.int .i64 c, .int .i64 d, .int .i64 p, .bool r]] w fun e w' => e = .returned (.tuple #[.int .i64 (fltW c d p r), .int .i64 (fltE c d p)]) ∧ Below w.heap.size w w' := by
  have HB := Lib.hid (below_alloc w)
  by_cases hR : FltR c d p
  · have HR := Lib.hid hR
    have hb0 := flt_bits0 hR
    have hb1 := flt_bits1 hR
    unfold FltR at hR
    obtain ⟨h1, h2, h3, h4, h5, h6⟩ := hR
    cases r
    · go_enter Try.func62, Try.ntmps62
      go_wp2
      go_ret2
      exact ⟨ret_int2 (fltW_f HR.out) (fltE_0 HR.out).symm, HB.out _⟩
    · go_enter Try.func62, Try.ntmps62
      go_wp2
      go_ret2
      exact ⟨ret_int2 rfl (fltE_0 HR.out).symm, HB.out _⟩
  · have HR := Lib.hid hR
    unfold FltR at hR
    go_enter Try.func62, Try.ntmps62
    go_wp2
    all_goals go_ret2
    all_goals exact ⟨ret_int2 (fltW_n (fltE_r HR.out) (by decide)).symm (fltE_r HR.out).symm, HB.out _⟩
end

section
end
end
end Go.Proofs.Ytbopdijnojaaiac
