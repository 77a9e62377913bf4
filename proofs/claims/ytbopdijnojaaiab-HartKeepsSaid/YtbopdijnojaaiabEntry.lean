/- Entries and contexts as words: what the program's and the document's functions of chapter 2 compute. No program in sight, no statement of the seat is proved here. -/
import Derived.Test.YtbopdijnojaaiabBase
namespace Go.Proofs.Ytbopdijnojaaiab
open Go.RowKit
set_option linter.unusedSimpArgs false
set_option linter.unusedVariables false

/-- bit k of a word. -/
def bitI (v k : Int) : Bool := v / 2 ^ k.toNat % 2 == 1
theorem bitI0 (v : Int) : bitI v 0 = (v % 2 == 1) := by simp [bitI]
theorem bitI1 (v : Int) : bitI v 1 = (v / 2 % 2 == 1) := by simp [bitI]
theorem bitI2 (v : Int) : bitI v 2 = (v / 4 % 2 == 1) := by simp [bitI]
theorem bitI3 (v : Int) : bitI v 3 = (v / 8 % 2 == 1) := by simp [bitI]
def b2i (b : Bool) : Int := if b then 1 else 0
theorem b2i_t : b2i true = 1 := rfl
theorem b2i_f : b2i false = 0 := rfl

-- entries
def enBad (v : Int) : Bool := v / 1024 != 0 || bitI v 2 && !bitI v 1 || !bitI v 3 && bitI v 1
def enIn (v : Int) : Bool := decide (0 ≤ v) && decide (v ≤ 65535)
def enK (v : Int) : Bool := enIn v && (!bitI v 0 || !enBad v)
def enG (v : Int) : Bool := enIn v && bitI v 0 && !enBad v
def enP (v : Int) : Int := if enG v then v / 16 % 64 else 0
def enV (v : Int) : Value := .tuple #[.agg #[.bool (enG v), .bool (enG v && bitI v 1), .bool (enG v && bitI v 2), .bool (enG v && bitI v 3), .int .i64 (enP v)], .bool (enK v)]
theorem enV_eq (v : Int) : enV v = .tuple #[.agg #[.bool (enG v), .bool (enG v && bitI v 1), .bool (enG v && bitI v 2), .bool (enG v && bitI v 3), .int .i64 (enP v)], .bool (enK v)] := rfl
theorem enV_no {v : Int} (h : enG v = false) (b : Bool) (hk : enK v = b) : Ending.returned (.tuple #[.agg #[.bool false, .bool false, .bool false, .bool false, .int .i64 0], .bool b]) = .returned (enV v) := by simp [enV, enP, h, hk]
theorem enV_yes {v : Int} (h : enG v = true) (hk : enK v = true) : Ending.returned (.tuple #[.agg #[.bool true, .bool (bitI v 1), .bool (bitI v 2), .bool (bitI v 3), .int .i64 (v / 16 % 64)], .bool true]) = .returned (enV v) := by simp [enV, enP, h, hk]
theorem enG_K {v : Int} (h : enG v = true) : enK v = true := by
  unfold enG at h; unfold enK; simp only [Bool.and_eq_true] at h; simp [h]

def entF (v r u l : Bool) (p : Int) : Bool := !(!v && (r || u || l || p != 0) || u && !r || !l && r)
def entE (v r u l : Bool) (p : Int) : Int := if 0 ≤ p ∧ p < 64 then (if entF v r u l p then 0 else 3) else 2
def entW (v r u l : Bool) (p : Int) : Int := if entE v r u l p = 0 then 16 * p + b2i v + 2 * b2i r + 4 * b2i u + 8 * b2i l else 0
theorem entE_r {v r u l : Bool} {p : Int} (h : ¬ (0 ≤ p ∧ p < 64)) : entE v r u l p = 2 := by simp only [entE, if_neg h]
theorem entE_f {v r u l : Bool} {p : Int} (h : 0 ≤ p ∧ p < 64) (h' : entF v r u l p = false) : entE v r u l p = 3 := by simp [entE, h, h']
theorem entE_0 {v r u l : Bool} {p : Int} (h : 0 ≤ p ∧ p < 64) (h' : entF v r u l p = true) : entE v r u l p = 0 := by simp [entE, h, h']
theorem entW_n {v r u l : Bool} {p n : Int} (h : entE v r u l p = n) (hn : n ≠ 0) : entW v r u l p = 0 := by simp [entW, h, hn]
theorem entW_0 {v r u l : Bool} {p : Int} (h : entE v r u l p = 0) : entW v r u l p = 16 * p + b2i v + 2 * b2i r + 4 * b2i u + 8 * b2i l := by simp [entW, h]
theorem entE_inv {v r u l : Bool} {p : Int} (h : entE v r u l p = 0) : (0 ≤ p ∧ p < 64) ∧ entF v r u l p = true := by
  unfold entE at h
  split at h
  · rename_i hr; split at h
    · rename_i hf; exact ⟨hr, hf⟩
    · cases h
  · cases h

/-- what the document looks for: the word k is read as this entry. -/
def entM (v r u l : Bool) (p k : Int) : Bool := enK k && (enG k == v && (enG k && bitI k 1) == r && (enG k && bitI k 2) == u && (enG k && bitI k 3) == l && enP k == p) && (v || k == 0)
theorem entM_yes {v r u l : Bool} {p k : Int} (hp : 0 ≤ p ∧ p < 64) (hk : 0 ≤ k ∧ k < 1024) (h : entM v r u l p k = true) : entE v r u l p = 0 ∧ entW v r u l p = k := by
  unfold entM at h
  simp only [Bool.and_eq_true, Bool.or_eq_true, beq_iff_eq] at h
  obtain ⟨⟨h1, ⟨⟨⟨⟨h2, h3⟩, h4⟩, h5⟩, h6⟩⟩, h7⟩ := h
  by_cases hg : enG k = true
  · rw [hg] at h2 h3 h4 h5
    simp only [Bool.true_and] at h3 h4 h5
    subst h2; subst h3; subst h4; subst h5
    have hg' := hg
    unfold enG enBad at hg'
    simp only [Bool.and_eq_true, Bool.not_eq_true', Bool.or_eq_false_iff, bne_eq_false_iff_eq] at hg'
    obtain ⟨⟨g1, g2⟩, ⟨g3, g4⟩, g5⟩ := hg'
    have hP : k / 16 % 64 = p := by unfold enP at h6; rw [if_pos hg] at h6; exact h6
    have hE : entE true (bitI k 1) (bitI k 2) (bitI k 3) p = 0 := by
      refine entE_0 hp ?_
      unfold entF
      simp only [Bool.not_true, Bool.false_and, Bool.false_or, g4, g5, Bool.or_self, Bool.not_false]
    refine ⟨hE, ?_⟩
    rw [entW_0 hE, ← hP]
    rw [bitI0] at g2
    rw [bitI1, bitI2, bitI3]
    simp only [beq_iff_eq] at g2
    have a1 : b2i (k / 2 % 2 == 1) = k / 2 % 2 := by by_cases x : k / 2 % 2 = 1 <;> simp [b2i, x] <;> omega
    have a2 : b2i (k / 4 % 2 == 1) = k / 4 % 2 := by by_cases x : k / 4 % 2 = 1 <;> simp [b2i, x] <;> omega
    have a3 : b2i (k / 8 % 2 == 1) = k / 8 % 2 := by by_cases x : k / 8 % 2 = 1 <;> simp [b2i, x] <;> omega
    rw [a1, a2, a3, b2i_t]; omega
  · have hg' : enG k = false := by simpa using hg
    rw [hg'] at h2 h3 h4 h5
    simp only [Bool.false_and] at h3 h4 h5
    subst h2; subst h3; subst h4; subst h5
    have hP : p = 0 := by unfold enP at h6; rw [if_neg hg] at h6; exact h6.symm
    subst hP
    have hk0 : k = 0 := by rcases h7 with h | h
                           · cases h
                           · exact h
    subst hk0
    exact ⟨by decide, by decide⟩
theorem ent_back {v r u l : Bool} {p : Int} (h : entE v r u l p = 0) (hv : v = true) :
    (0 ≤ entW v r u l p ∧ entW v r u l p < 1024) ∧ enG (entW v r u l p) = true ∧ bitI (entW v r u l p) 1 = r ∧ bitI (entW v r u l p) 2 = u ∧ bitI (entW v r u l p) 3 = l ∧ enP (entW v r u l p) = p := by
  obtain ⟨hp, hf⟩ := entE_inv h
  rw [entW_0 h]
  subst hv
  have hbr : b2i r = 0 ∨ b2i r = 1 := by cases r <;> simp [b2i]
  have hbu : b2i u = 0 ∨ b2i u = 1 := by cases u <;> simp [b2i]
  have hbl : b2i l = 0 ∨ b2i l = 1 := by cases l <;> simp [b2i]
  generalize hN : 16 * p + b2i true + 2 * b2i r + 4 * b2i u + 8 * b2i l = N
  rw [b2i_t] at hN
  have e0 : bitI N 0 = true := by rw [bitI0, beq_iff_eq]; omega
  have e1 : bitI N 1 = r := by
    rw [bitI1]; cases r
    · rw [beq_eq_false_iff_ne]; simp only [b2i_f] at hN; omega
    · rw [beq_iff_eq]; simp only [b2i_t] at hN; omega
  have e2 : bitI N 2 = u := by
    rw [bitI2]; cases u
    · rw [beq_eq_false_iff_ne]; simp only [b2i_f] at hN; omega
    · rw [beq_iff_eq]; simp only [b2i_t] at hN; omega
  have e3 : bitI N 3 = l := by
    rw [bitI3]; cases l
    · rw [beq_eq_false_iff_ne]; simp only [b2i_f] at hN; omega
    · rw [beq_iff_eq]; simp only [b2i_t] at hN; omega
  have hN2 : 0 ≤ N ∧ N < 1024 := by omega
  have hbad : enBad N = false := by
    unfold enBad; rw [e1, e2, e3]
    have : (N / 1024 != 0) = false := by rw [bne_eq_false_iff_eq]; omega
    rw [this]
    unfold entF at hf
    simp only [Bool.not_true, Bool.false_and, Bool.false_or, Bool.not_eq_true'] at hf
    rw [Bool.false_or]; exact hf
  have hg : enG N = true := by
    unfold enG; rw [e0, hbad]
    have : enIn N = true := by simp [enIn]; omega
    rw [this]; rfl
  refine ⟨hN2, hg, e1, e2, e3, ?_⟩
  unfold enP; rw [if_pos hg]; omega
theorem entM_at {v r u l : Bool} {p : Int} (h : entE v r u l p = 0) : (0 ≤ entW v r u l p ∧ entW v r u l p < 1024) ∧ entM v r u l p (entW v r u l p) = true := by
  cases v
  · obtain ⟨hp, hf⟩ := entE_inv h
    unfold entF at hf
    simp only [Bool.not_false, Bool.true_and, Bool.not_eq_true', Bool.or_eq_false_iff, bne_eq_false_iff_eq] at hf
    obtain ⟨⟨⟨⟨⟨hr, hu⟩, hl⟩, hp0⟩, _⟩, _⟩ := hf
    subst hr; subst hu; subst hl; subst hp0
    exact ⟨by decide, by decide⟩
  · obtain ⟨h1, h2, h3, h4, h5, h6⟩ := ent_back h rfl
    refine ⟨h1, ?_⟩
    unfold entM
    rw [enG_K h2, h2, h3, h4, h5, h6]
    simp

-- contexts
def cxBad (v : Int) : Bool := v / 1024 != 0 || bitI v 2 || bitI v 3 || bitI v 1 && v / 16 % 64 != 0
def cxK (v : Int) : Bool := enIn v && (!bitI v 0 || !cxBad v)
def cxG (v : Int) : Bool := enIn v && bitI v 0 && !cxBad v
def cxR (v : Int) : Int := if cxG v then v / 16 % 64 else 0
def cxV (v : Int) : Value := .tuple #[.agg #[.bool (cxG v), .bool (cxG v && bitI v 1), .int .i64 (cxR v)], .bool (cxK v)]
theorem cxV_eq (v : Int) : cxV v = .tuple #[.agg #[.bool (cxG v), .bool (cxG v && bitI v 1), .int .i64 (cxR v)], .bool (cxK v)] := rfl
theorem cxV_no {v : Int} (h : cxG v = false) (b : Bool) (hk : cxK v = b) : Ending.returned (.tuple #[.agg #[.bool false, .bool false, .int .i64 0], .bool b]) = .returned (cxV v) := by simp [cxV, cxR, h, hk]
theorem cxV_yes {v : Int} (h : cxG v = true) (hk : cxK v = true) : Ending.returned (.tuple #[.agg #[.bool true, .bool (bitI v 1), .int .i64 (v / 16 % 64)], .bool true]) = .returned (cxV v) := by simp [cxV, cxR, h, hk]
theorem cxG_K {v : Int} (h : cxG v = true) : cxK v = true := by
  unfold cxG at h; unfold cxK; simp only [Bool.and_eq_true] at h; simp [h]
def ctxF (v s : Bool) (r : Int) : Bool := !(!v && (s || r != 0) || s && r != 0)
def ctxE (v s : Bool) (r : Int) : Int := if 0 ≤ r ∧ r < 64 then (if ctxF v s r then 0 else 3) else 2
def ctxW (v s : Bool) (r : Int) : Int := if ctxE v s r = 0 then 16 * r + b2i v + 2 * b2i s else 0
theorem ctxE_r {v s : Bool} {r : Int} (h : ¬ (0 ≤ r ∧ r < 64)) : ctxE v s r = 2 := by simp only [ctxE, if_neg h]
theorem ctxE_f {v s : Bool} {r : Int} (h : 0 ≤ r ∧ r < 64) (h' : ctxF v s r = false) : ctxE v s r = 3 := by simp [ctxE, h, h']
theorem ctxE_0 {v s : Bool} {r : Int} (h : 0 ≤ r ∧ r < 64) (h' : ctxF v s r = true) : ctxE v s r = 0 := by simp [ctxE, h, h']
theorem ctxW_n {v s : Bool} {r n : Int} (h : ctxE v s r = n) (hn : n ≠ 0) : ctxW v s r = 0 := by simp [ctxW, h, hn]
theorem ctxW_0 {v s : Bool} {r : Int} (h : ctxE v s r = 0) : ctxW v s r = 16 * r + b2i v + 2 * b2i s := by simp [ctxW, h]
theorem ctxE_inv {v s : Bool} {r : Int} (h : ctxE v s r = 0) : (0 ≤ r ∧ r < 64) ∧ ctxF v s r = true := by
  unfold ctxE at h
  split at h
  · rename_i hr; split at h
    · rename_i hf; exact ⟨hr, hf⟩
    · cases h
  · cases h
end Go.Proofs.Ytbopdijnojaaiab
