/- Orders and faults as words: what the program's and the document's functions of chapter 6 compute, and that they compute it. No statement of the seat is proved here. -/
import Derived.Test.YtbopdijnojaaiaaProg
import Derived.Test.YtbopdijnojaaiaaBits
import Derived.Test.YtbopdijnojaaiaaIn
namespace Go.Proofs.Ytbopdijnojaaiaa
open Go.RowKit
set_option linter.unusedSimpArgs false
set_option linter.unusedVariables false

def OrdR (k d p : Int) : Prop := 0 ≤ k ∧ k ≤ 3 ∧ 0 ≤ d ∧ d < 8 ∧ 0 ≤ p ∧ p < 64
def OrdF (k d p : Int) : Prop := (k < 2 → d = 0) ∧ (k < 3 → p = 0)
instance (k d p : Int) : Decidable (OrdR k d p) := by unfold OrdR; infer_instance
instance (k d p : Int) : Decidable (OrdF k d p) := by unfold OrdF; infer_instance
def ordE (k d p : Int) : Int := if OrdR k d p then (if OrdF k d p then 0 else 3) else 2
def ordW (k d p : Int) : Int := if ordE k d p = 0 then k + 4 * d + 32 * p else 0
theorem ordE_r {k d p : Int} (h : ¬ OrdR k d p) : ordE k d p = 2 := by simp [ordE, h]
theorem ordE_f {k d p : Int} (h : OrdR k d p) (h' : ¬ OrdF k d p) : ordE k d p = 3 := by simp [ordE, h, h']
theorem ordE_0 {k d p : Int} (h : OrdR k d p) (h' : OrdF k d p) : ordE k d p = 0 := by simp [ordE, h, h']
theorem ordW_0 {k d p : Int} (h : ordE k d p = 0) : ordW k d p = k + 4 * d + 32 * p := by simp [ordW, h]
theorem ordW_n {k d p n : Int} (h : ordE k d p = n) (hn : n ≠ 0) : ordW k d p = 0 := by simp [ordW, h, hn]
theorem ordE_inv {k d p : Int} (h : ordE k d p = 0) : OrdR k d p ∧ OrdF k d p := by
  unfold ordE at h
  split at h
  · rename_i hr; split at h
    · rename_i hf; exact ⟨hr, hf⟩
    · cases h
  · cases h
theorem ord_bits {k d p : Int} (h : OrdR k d p) (hf : OrdF k d p) : bits .or .i64 (bits .or .i64 k (d * 4)) (p * 32) = ordW k d p := by
  rw [ordW_0 (ordE_0 h hf)]
  obtain ⟨h1, h2, h3, h4, h5, h6⟩ := h
  rw [or_comm_i64 k, or4 (d * 4) k (by omega) (by omega) (by omega) (by omega) (by omega), or_comm_i64, or_add 5 p.toNat (p * 32) (d * 4 + k) (by omega) (by omega) (by omega) (by omega) (by omega)]
  omega

def FltR (c d p : Int) : Prop := 1 ≤ c ∧ c ≤ 5 ∧ 0 ≤ d ∧ d < 8 ∧ 0 ≤ p ∧ p < 64
instance (c d p : Int) : Decidable (FltR c d p) := by unfold FltR; infer_instance
def fltE (c d p : Int) : Int := if FltR c d p then 0 else 2
def fltW (c d p : Int) (r : Bool) : Int := if fltE c d p = 0 then c + 8 * d + 64 * p + (if r then 4096 else 0) else 0
theorem fltE_r {c d p : Int} (h : ¬ FltR c d p) : fltE c d p = 2 := by simp [fltE, h]
theorem fltE_0 {c d p : Int} (h : FltR c d p) : fltE c d p = 0 := by simp [fltE, h]
theorem fltE_inv {c d p : Int} (h : fltE c d p = 0) : FltR c d p := by
  unfold fltE at h; split at h
  · assumption
  · cases h
theorem fltW_0 {c d p : Int} {r : Bool} (h : fltE c d p = 0) : fltW c d p r = c + 8 * d + 64 * p + (if r then 4096 else 0) := by simp [fltW, h]
theorem fltW_n {c d p n : Int} {r : Bool} (h : fltE c d p = n) (hn : n ≠ 0) : fltW c d p r = 0 := by simp [fltW, h, hn]
theorem flt_bits0 {c d p : Int} (h : FltR c d p) : bits .or .i64 (bits .or .i64 c (d * 8)) (p * 64) = c + 8 * d + 64 * p := by
  obtain ⟨h1, h2, h3, h4, h5, h6⟩ := h
  rw [or_comm_i64 c, or8 (d * 8) c (by omega) (by omega) (by omega) (by omega) (by omega), or_comm_i64, or_add 6 p.toNat (p * 64) (d * 8 + c) (by omega) (by omega) (by omega) (by omega) (by omega)]
  omega
theorem flt_bits1 {c d p : Int} (h : FltR c d p) : bits .or .i64 (c + 8 * d + 64 * p) 4096 = fltW c d p true := by
  rw [fltW_0 (fltE_0 h)]
  obtain ⟨h1, h2, h3, h4, h5, h6⟩ := h
  rw [or_comm_i64, or_add 12 1 4096 (c + 8 * d + 64 * p) (by omega) (by omega) (by omega) (by omega) (by omega)]
  simp; omega
theorem fltW_f {c d p : Int} (h : FltR c d p) : c + 8 * d + 64 * p = fltW c d p false := by rw [fltW_0 (fltE_0 h)]; simp

-- what a word is read as
def rdoE (v : Int) : Int := if 0 ≤ v ∧ v ≤ 65535 then (if ordE (v % 4) (v / 4 % 8) (v / 32) = 0 then 0 else 3) else 2
def rdoF (v x : Int) : Int := if rdoE v = 0 then x else 0
def rdoV (v : Int) : Value := .tuple #[.agg #[.int .i64 (rdoF v (v % 4)), .int .i64 (rdoF v (v / 4 % 8)), .int .i64 (rdoF v (v / 32))], .int .i64 (rdoE v)]
theorem rdoE_r {v : Int} (h : ¬ (0 ≤ v ∧ v ≤ 65535)) : rdoE v = 2 := by simp only [rdoE, if_neg h]
theorem rdoE_f {v : Int} (h : 0 ≤ v ∧ v ≤ 65535) (h' : ordE (v % 4) (v / 4 % 8) (v / 32) ≠ 0) : rdoE v = 3 := by simp only [rdoE, if_pos h, if_neg h']
theorem rdoE_0 {v : Int} (h : 0 ≤ v ∧ v ≤ 65535) (h' : ordE (v % 4) (v / 4 % 8) (v / 32) = 0) : rdoE v = 0 := by simp only [rdoE, if_pos h, if_pos h']
theorem rdoE_inv {v : Int} (h : rdoE v = 0) : (0 ≤ v ∧ v ≤ 65535) ∧ ordE (v % 4) (v / 4 % 8) (v / 32) = 0 := by
  unfold rdoE at h
  split at h
  · rename_i hr; split at h
    · rename_i hf; exact ⟨hr, hf⟩
    · cases h
  · cases h
theorem rdoF_0 {v x : Int} (h : rdoE v = 0) : rdoF v x = x := by simp [rdoF, h]
theorem rdoV_n {v n : Int} (h : rdoE v = n) (hn : n ≠ 0) : Ending.returned (.tuple #[.agg #[.int .i64 0, .int .i64 0, .int .i64 0], .int .i64 n]) = .returned (rdoV v) := by simp [rdoV, rdoF, h, hn]
theorem rdoV_0 {v : Int} (h : rdoE v = 0) : Ending.returned (.tuple #[.agg #[.int .i64 (v % 4), .int .i64 (v / 4 % 8), .int .i64 (v / 32)], .int .i64 0]) = .returned (rdoV v) := by simp [rdoV, rdoF, h]
/-- the program's own test: the fields put again give the word. -/
theorem rdo_prog {v : Int} (h : 0 ≤ v ∧ v ≤ 65535) : (ordE (v % 4) (v / 4 % 8) (v / 32) = 0) ↔ (ordE (v % 4) (v / 4 % 8) (v / 32 % 64) = 0 ∧ ordW (v % 4) (v / 4 % 8) (v / 32 % 64) = v) := by
  constructor
  · intro h0
    obtain ⟨⟨a1, a2, a3, a4, a5, a6⟩, hf⟩ := ordE_inv h0
    have e : v / 32 % 64 = v / 32 := by omega
    rw [e]
    refine ⟨h0, ?_⟩
    rw [ordW_0 h0]; omega
  · rintro ⟨h0, h1⟩
    rw [ordW_0 h0] at h1
    have e : v / 32 % 64 = v / 32 := by omega
    rwa [e] at h0

def rdfE (v : Int) : Int := if 0 ≤ v ∧ v ≤ 65535 then (if fltE (v % 8) (v / 8 % 8) (v / 64 % 64) = 0 ∧ v < 8192 then 0 else 3) else 2
def rdfF (v x : Int) : Int := if rdfE v = 0 then x else 0
def rdfB (v : Int) : Bool := if rdfE v = 0 then v / 4096 == 1 else false
def rdfV (v : Int) : Value := .tuple #[.agg #[.int .i64 (rdfF v (v % 8)), .int .i64 (rdfF v (v / 8 % 8)), .int .i64 (rdfF v (v / 64 % 64)), .bool (rdfB v)], .int .i64 (rdfE v)]
theorem rdfE_r {v : Int} (h : ¬ (0 ≤ v ∧ v ≤ 65535)) : rdfE v = 2 := by simp only [rdfE, if_neg h]
theorem rdfE_f {v : Int} (h : 0 ≤ v ∧ v ≤ 65535) (h' : ¬ (fltE (v % 8) (v / 8 % 8) (v / 64 % 64) = 0 ∧ v < 8192)) : rdfE v = 3 := by simp only [rdfE, if_pos h, if_neg h']
theorem rdfE_0 {v : Int} (h : 0 ≤ v ∧ v ≤ 65535) (h' : fltE (v % 8) (v / 8 % 8) (v / 64 % 64) = 0 ∧ v < 8192) : rdfE v = 0 := by simp only [rdfE, if_pos h, if_pos h']
theorem rdfE_inv {v : Int} (h : rdfE v = 0) : (0 ≤ v ∧ v ≤ 65535) ∧ fltE (v % 8) (v / 8 % 8) (v / 64 % 64) = 0 ∧ v < 8192 := by
  unfold rdfE at h
  split at h
  · rename_i hr; split at h
    · rename_i hf; exact ⟨hr, hf⟩
    · cases h
  · cases h
theorem rdfF_0 {v x : Int} (h : rdfE v = 0) : rdfF v x = x := by simp [rdfF, h]
theorem rdfB_0 {v : Int} (h : rdfE v = 0) : rdfB v = (v / 4096 == 1) := by simp [rdfB, h]
theorem rdfV_n {v n : Int} (h : rdfE v = n) (hn : n ≠ 0) : Ending.returned (.tuple #[.agg #[.int .i64 0, .int .i64 0, .int .i64 0, .bool false], .int .i64 n]) = .returned (rdfV v) := by simp [rdfV, rdfF, rdfB, h, hn]
theorem rdfV_0 {v : Int} (h : rdfE v = 0) : Ending.returned (.tuple #[.agg #[.int .i64 (v % 8), .int .i64 (v / 8 % 8), .int .i64 (v / 64 % 64), .bool (v / 4096 == 1)], .int .i64 0]) = .returned (rdfV v) := by simp [rdfV, rdfF, rdfB, h]
theorem rdf_prog {v : Int} (h : 0 ≤ v ∧ v ≤ 65535) : (fltE (v % 8) (v / 8 % 8) (v / 64 % 64) = 0 ∧ v < 8192) ↔ (fltE (v % 8) (v / 8 % 8) (v / 64 % 64) = 0 ∧ fltW (v % 8) (v / 8 % 8) (v / 64 % 64) (v / 4096 % 2 == 1) = v) := by
  constructor
  · rintro ⟨h0, hv⟩
    refine ⟨h0, ?_⟩
    rw [fltW_0 h0]
    by_cases hb : v / 4096 % 2 = 1
    · simp [hb]; omega
    · simp [hb]; omega
  · rintro ⟨h0, h1⟩
    refine ⟨h0, ?_⟩
    rw [fltW_0 h0] at h1
    by_cases hb : v / 4096 % 2 = 1
    · simp [hb] at h1; omega
    · simp [hb] at h1; omega
theorem rdf_bit {v : Int} (h : 0 ≤ v ∧ v < 8192) : (v / 4096 % 2 == 1) = (v / 4096 == 1) := by
  rw [Bool.eq_iff_iff, beq_iff_eq, beq_iff_eq]; omega
end Go.Proofs.Ytbopdijnojaaiaa
