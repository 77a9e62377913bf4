/- The audit: what chapter 12's functions compute, and the plain laws on it. No program in sight, no statement of the seat is proved here. -/
import Derived.Test.YtbopdijnojaaiacDmaP
namespace Go.Proofs.Ytbopdijnojaaiac
open Go.RowKit
set_option linter.unusedSimpArgs false
set_option linter.unusedVariables false

def tchR (x : Tch) : Prop := (0 ≤ x.dev ∧ x.dev < 8) ∧ (0 ≤ x.seen ∧ x.seen < 512) ∧ (0 ≤ x.at_ ∧ x.at_ < 512)
instance (x : Tch) : Decidable (tchR x) := by unfold tchR; exact inferInstance
/-- chapter 12's Check. -/
def tchE (x : Tch) : Int := if tchR x then (if inWord x.value then (if x.seen % 8 = x.at_ % 8 then 0 else 3) else 2) else 4
theorem tchE_who {x : Tch} (h : ¬ tchR x) : tchE x = 4 := by unfold tchE; rw [if_neg h]
theorem tchE_val {x : Tch} (h : tchR x) (h2 : inWord x.value = false) : tchE x = 2 := by unfold tchE; rw [if_pos h, h2]; rfl
theorem tchE_form {x : Tch} (h : tchR x) (h2 : inWord x.value = true) (h3 : x.seen % 8 ≠ x.at_ % 8) : tchE x = 3 := by unfold tchE; rw [if_pos h, h2, if_pos rfl, if_neg h3]
theorem tchE_0 {x : Tch} (h : tchR x) (h2 : inWord x.value = true) (h3 : x.seen % 8 = x.at_ % 8) : tchE x = 0 := by unfold tchE; rw [if_pos h, h2, if_pos rfl, if_pos h3]
theorem tchE_inv {x : Tch} (h : tchE x = 0) : tchR x := by
  by_cases h1 : tchR x
  · exact h1
  · rw [tchE_who h1] at h; cases h
theorem tmod_diff {a b : Int} (ha : 0 ≤ a) (hb : 0 ≤ b) : (a - b).tmod 8 = 0 ↔ a % 8 = b % 8 := by
  rw [show ((a - b).tmod 8 = 0) ↔ (a - b) % 8 = 0 from by rw [← Int.dvd_iff_tmod_eq_zero, ← Int.dvd_iff_emod_eq_zero]]
  omega
/-- is a touch let be by a machine, with nothing remembered? -/
def hitM (x : Mch) (t : Tch) : Bool := (thruM x.m { x.b with cache := [] } t.dev (t.seen / 8) t.wr).2.2 == 0 && (thruM x.m { x.b with cache := [] } t.dev (t.seen / 8) t.wr).2.1 == t.at_ / 8
/-- the last one of the first k that lets it be. -/
def fairK (ms : List Mch) (t : Tch) : Nat → Int
  | 0 => -1
  | k + 1 => match ms[k]? with
    | some x => if hitM x t = true then (k : Int) else fairK ms t k
    | none => fairK ms t k
theorem fairK_hit {ms : List Mch} {t : Tch} {k : Nat} {x : Mch} (hx : ms[k]? = some x) (h : hitM x t = true) : fairK ms t (k + 1) = (k : Int) := by
  unfold fairK; rw [hx]; simp only []; rw [if_pos h]
theorem fairK_not {ms : List Mch} {t : Tch} {k : Nat} {x : Mch} (hx : ms[k]? = some x) (h : hitM x t = false) : fairK ms t (k + 1) = fairK ms t k := by
  show (match ms[k]? with | some x => _ | none => _) = _
  rw [hx]; simp only []; rw [if_neg (by rw [h]; decide)]
/-- the first thing that is wrong with the first k machines. -/
def ckK (ms : List Mch) : Nat → Int
  | 0 => 0
  | k + 1 => if ckK ms k = 0 then (match ms[k]? with | some x => ckM x | none => 0) else ckK ms k
theorem ckK_ok {ms : List Mch} {k : Nat} {x : Mch} (h : ckK ms k = 0) (hx : ms[k]? = some x) : ckK ms (k + 1) = ckM x := by
  unfold ckK; rw [if_pos h, hx]
theorem ckK_bad {ms : List Mch} {k : Nat} (h : ckK ms k ≠ 0) : ckK ms (k + 1) = ckK ms k := by
  show (if ckK ms k = 0 then _ else _) = _
  rw [if_neg h]
theorem ckK_stay {ms : List Mch} {k : Nat} (h : ckK ms k ≠ 0) : ∀ j, k ≤ j → ckK ms j = ckK ms k
  | 0, hj => by have : k = 0 := by omega
                subst this; rfl
  | j + 1, hj => by
    by_cases e : k = j + 1
    · subst e; rfl
    · have := ckK_stay h j (by omega)
      rw [ckK_bad (by rw [this]; exact h), this]
theorem ckK_all {ms : List Mch} {n : Nat} (h : ckK ms n = 0) : ∀ (k : Nat) (x : Mch), k < n → ms[k]? = some x → ckM x = 0 := by
  intro k x hk hx
  by_cases h0 : ckK ms k = 0
  · by_cases h1 : ckK ms (k + 1) = 0
    · rw [ckK_ok h0 hx] at h1; exact h1
    · exact absurd ((ckK_stay h1 n (by omega)).symm.trans h) h1
  · exact absurd ((ckK_stay h0 n (by omega)).symm.trans h) h0
def fairE (ms : List Mch) (t : Tch) : Int := if ms.length ≤ 121 then (if ckK ms ms.length = 0 then tchE t else ckK ms ms.length) else 1
def fairV (ms : List Mch) (t : Tch) : Int := if fairE ms t = 0 then fairK ms t ms.length else 0
theorem hit_in {t : Tch} (h : tchE t = 0) : inD t.dev (t.seen / 8) := by
  have := tchE_inv h
  unfold tchR at this
  unfold inD
  omega
end Go.Proofs.Ytbopdijnojaaiac
