/- Memory: what the program's and the document's functions of chapter 1 compute. No program in sight, no statement of the seat is proved here. -/
import Derived.Test.YtbopdijnojaaiabBase
namespace Go.Proofs.Ytbopdijnojaaiab
open Go.RowKit
set_option linter.unusedSimpArgs false
set_option linter.unusedVariables false

def inWord (x : Int) : Bool := decide (0 ≤ x) && decide (x ≤ 65535)
/-- memory's check. -/
def cm (xs : List Int) : Int := if xs.length = 512 then (if xs.all inWord then 0 else 2) else 3
theorem cm_len {xs : List Int} (h : xs.length ≠ 512) : cm xs = 3 := by simp [cm, h]
theorem cm_bad {xs : List Int} {k : Nat} {x : Int} (hl : xs.length = 512) (hx : xs[k]? = some x) (h : inWord x = false) : cm xs = 2 := by
  simp [cm, hl, all_false hx h]
theorem cm_ok {xs : List Int} (hl : xs.length = 512) (h : (xs.take 512).all inWord = true) : cm xs = 0 := by
  rw [List.take_of_length_le (by omega)] at h; simp [cm, hl, h]
theorem cm_inv {xs : List Int} (h : cm xs = 0) : xs.length = 512 ∧ ∀ (k : Nat) (x : Int), xs[k]? = some x → 0 ≤ x ∧ x ≤ 65535 := by
  unfold cm at h
  split at h
  · rename_i hl
    split at h
    · rename_i ha
      refine ⟨hl, fun k x hx => ?_⟩
      have := List.all_eq_true.1 ha x (List.mem_of_getElem? hx)
      simpa [inWord] using this
    · cases h
  · cases h

def mrE (xs : List Int) (k : Int) : Int := if cm xs = 0 then (if 0 ≤ k ∧ k < 512 then 0 else 4) else cm xs
def mrV (xs : List Int) (k : Int) : Int := if mrE xs k = 0 then xs[k.toNat]?.getD 0 else 0
theorem mrE_c {xs : List Int} {k : Int} (h : cm xs ≠ 0) : mrE xs k = cm xs := by simp [mrE, h]
theorem mrE_r {xs : List Int} {k : Int} (h : cm xs = 0) (h' : ¬ (0 ≤ k ∧ k < 512)) : mrE xs k = 4 := by simp only [mrE, if_pos h, if_neg h']
theorem mrE_0 {xs : List Int} {k : Int} (h : cm xs = 0) (h' : 0 ≤ k ∧ k < 512) : mrE xs k = 0 := by simp only [mrE, if_pos h, if_pos h']
theorem mrV_0 {xs : List Int} {k x : Int} (h : mrE xs k = 0) (hx : xs[k.toNat]? = some x) : mrV xs k = x := by simp [mrV, h, hx]
theorem mrV_n {xs : List Int} {k n : Int} (h : mrE xs k = n) (hn : n ≠ 0) : mrV xs k = 0 := by simp [mrV, h, hn]
def mwE (xs : List Int) (k v : Int) : Int := if mrE xs k = 0 then (if 0 ≤ v ∧ v ≤ 65535 then 0 else 2) else mrE xs k

theorem mwE_0 {xs : List Int} {k v : Int} (h : cm xs = 0) (hk : 0 ≤ k ∧ k < 512) (hv : 0 ≤ v ∧ v ≤ 65535) : mwE xs k v = 0 := by simp only [mwE, mrE_0 h hk, if_pos hv, if_true]
theorem mwE_v {xs : List Int} {k v : Int} (h : cm xs = 0) (hk : 0 ≤ k ∧ k < 512) (hv : ¬ (0 ≤ v ∧ v ≤ 65535)) : mwE xs k v = 2 := by simp only [mwE, mrE_0 h hk, if_neg hv, if_true]
theorem mwE_k {xs : List Int} {k v : Int} (h : cm xs = 0) (hk : ¬ (0 ≤ k ∧ k < 512)) : mwE xs k v = 4 := by simp [mwE, mrE_r h hk]
theorem mwE_c {xs : List Int} {k v : Int} (h : cm xs ≠ 0) : mwE xs k v = cm xs := by simp [mwE, mrE_c h, h]

theorem set_get {xs : List Int} {i : Int} {v : Int} (hl : xs.length = 512) (hi : 0 ≤ i ∧ i < 512) : (xs.set i.toNat v)[i.toNat]? = some v := by
  rw [List.getElem?_set_self (by omega)]
theorem set_ne {xs : List Int} {i j : Int} {v : Int} (hi : 0 ≤ i) (hj : 0 ≤ j) (h : i ≠ j) : (xs.set i.toNat v)[j.toNat]? = xs[j.toNat]? := by
  rw [List.getElem?_set_ne (by omega)]
theorem cm_set {xs : List Int} {i v : Int} (h : cm xs = 0) (hv : 0 ≤ v ∧ v ≤ 65535) : cm (xs.set i.toNat v) = 0 := by
  obtain ⟨hl, ha⟩ := cm_inv h
  have : (xs.set i.toNat v).all inWord = true := by
    rw [List.all_eq_true]
    intro x hx
    obtain ⟨k, hk⟩ := List.getElem?_of_mem hx
    rw [List.getElem?_set] at hk
    split at hk
    · split at hk
      · simp at hk; subst hk; simp [inWord, hv]
      · cases hk
    · have := ha _ _ hk; simp [inWord, this]
  simp [cm, hl, this]
theorem mrV_set {xs : List Int} {i v : Int} (h : cm xs = 0) (hi : 0 ≤ i ∧ i < 512) (hv : 0 ≤ v ∧ v ≤ 65535) : mrV (xs.set i.toNat v) i = v :=
  mrV_0 (mrE_0 (cm_set h hv) hi) (set_get (cm_inv h).1 hi)
theorem mrV_other {xs : List Int} {i j v : Int} (h : cm xs = 0) (hi : 0 ≤ i ∧ i < 512) (hj : 0 ≤ j ∧ j < 512) (hv : 0 ≤ v ∧ v ≤ 65535) (hn : i ≠ j) : mrV (xs.set i.toNat v) j = mrV xs j := by
  have e1 := mrE_0 (cm_set (i := i) h hv) hj
  have e2 := mrE_0 h hj
  simp only [mrV, e1, e2, if_true, set_ne hi.1 hj.1 hn]
theorem mwE_inv {xs : List Int} {k v : Int} (h : mwE xs k v = 0) : cm xs = 0 ∧ (0 ≤ k ∧ k < 512) ∧ (0 ≤ v ∧ v ≤ 65535) := by
  by_cases h0 : cm xs = 0
  · by_cases hk : 0 ≤ k ∧ k < 512
    · by_cases hv : 0 ≤ v ∧ v ≤ 65535
      · exact ⟨h0, hk, hv⟩
      · rw [mwE_v h0 hk hv] at h; cases h
    · rw [mwE_k h0 hk] at h; cases h
  · rw [mwE_c h0] at h; exact absurd h h0

end Go.Proofs.Ytbopdijnojaaiab
