/- Tables: what is told hangs on two words: the plain law. No program in sight, no statement of the seat is proved here. -/
import Derived.Test.YtbopdijnojaaiabWalkP
namespace Go.Proofs.Ytbopdijnojaaiab
open Go.RowKit
set_option linter.unusedSimpArgs false
set_option linter.unusedVariables false

theorem leaf_set {xs : List Int} {root page k v : Int} (hk : 0 ≤ k) (hin : inP root page) (h1 : k ≠ root * 8 + page / 8) (h2 : enG (rd xs (root * 8 + page / 8)) = true → bitI (rd xs (root * 8 + page / 8)) 3 = false → k ≠ enP (rd xs (root * 8 + page / 8)) * 8 + page % 8) :
    leafM (xs.set k.toNat v) root page = leafM xs root page := by
  unfold inP at hin
  have e1 : rd (xs.set k.toNat v) (root * 8 + page / 8) = rd xs (root * 8 + page / 8) := rd_set hk (by omega) h1
  unfold leafM
  rw [e1]
  dsimp only
  cases hg : enG (rd xs (root * 8 + page / 8))
  · rfl
  · cases hb : bitI (rd xs (root * 8 + page / 8)) 3
    · have hp := enP_bd (rd xs (root * 8 + page / 8))
      have e2 : leaf2 (xs.set k.toNat v) (enP (rd xs (root * 8 + page / 8))) page = leaf2 xs (enP (rd xs (root * 8 + page / 8))) page := by
        unfold leaf2
        rw [rd_set hk (by omega) (h2 hg hb)]
      rw [e2]
    · rfl
theorem walkA_set {xs : List Int} {root page k v : Int} {wr : Bool} (h0 : cm xs = 0) (hk : 0 ≤ k ∧ k < 512) (hv : 0 ≤ v ∧ v ≤ 65535) (hin : inP root page) (h1 : k ≠ root * 8 + page / 8) (h2 : enG (rd xs (root * 8 + page / 8)) = true → bitI (rd xs (root * 8 + page / 8)) 3 = false → k ≠ enP (rd xs (root * 8 + page / 8)) * 8 + page % 8) :
    walkA (xs.set k.toNat v) root page wr = walkA xs root page wr := by
  unfold walkA walkM
  rw [cm_set h0 hv, h0, leaf_set hk.1 hin h1 h2]
theorem walkA_valid {xs : List Int} {root page : Int} {wr : Bool} (h0 : cm xs = 0) (hin : inP root page) : (walkA xs root page wr).2.2 = 0 ∧ ((walkA xs root page wr).2.1 == 0) = (walkA xs root page wr).1.v := by
  have e : walkA xs root page wr = ((walkM xs root page wr).1, (walkM xs root page wr).2, 0) := by unfold walkA; rw [if_pos h0, if_pos hin]
  rw [e]
  refine ⟨rfl, ?_⟩
  dsimp only
  by_cases hf : (walkM xs root page wr).2 = 0
  · obtain ⟨e1, e2, _, _⟩ := walkM_yes hf
    rw [hf, e1]
    rcases leafM_ok xs root page with h | ⟨_, h⟩
    · rw [h.2.1]; rfl
    · rw [e2] at h; rcases h with h | h <;> cases h
  · obtain ⟨e1, _⟩ := walkM_no hf
    rw [e1]
    have : ((walkM xs root page wr).2 == 0) = false := by rw [beq_eq_false_iff_ne]; exact hf
    rw [this]; rfl
end Go.Proofs.Ytbopdijnojaaiab
