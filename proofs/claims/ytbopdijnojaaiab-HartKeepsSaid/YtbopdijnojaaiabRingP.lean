/- Rings: what chapter 5's functions compute, and the plain laws on it. No program in sight, no statement of the seat is proved here. -/
import Derived.Test.YtbopdijnojaaiabWalkP
namespace Go.Proofs.Ytbopdijnojaaiab
open Go.RowKit
set_option linter.unusedSimpArgs false
set_option linter.unusedVariables false

structure Ring where
  page : Int
  head : Int
  tail : Int
def Ring.val (r : Ring) : Value := .agg #[.int .i64 r.page, .int .i64 r.head, .int .i64 r.tail]
def Ring.no : Ring := ⟨0, 0, 0⟩
theorem Ring.ext' {x y : Ring} (h1 : x.page = y.page) (h2 : x.head = y.head) (h3 : x.tail = y.tail) : x = y := by
  cases x; cases y; simp only [] at *; subst h1; subst h2; subst h3; rfl
def ringR (r : Ring) : Prop := (0 ≤ r.page ∧ r.page < 64) ∧ (0 ≤ r.head ∧ r.head < 8) ∧ (0 ≤ r.tail ∧ r.tail < 8)
instance (r : Ring) : Decidable (ringR r) := by unfold ringR; exact inferInstance
/-- chapter 5's Check, Length. -/
def ckR (r : Ring) : Int := if ringR r then 0 else 2
theorem ckR_0 {r : Ring} (h : ringR r) : ckR r = 0 := by simp only [ckR, if_pos h]
theorem ckR_2 {r : Ring} (h : ¬ ringR r) : ckR r = 2 := by simp only [ckR, if_neg h]
theorem ckR_inv {r : Ring} (h : ckR r = 0) : ringR r := by
  unfold ckR at h; split at h
  · assumption
  · cases h
def lenR (r : Ring) : Int := (r.tail - r.head) % 8
theorem lenR_bd (r : Ring) : 0 ≤ lenR r ∧ lenR r ≤ 7 := by unfold lenR; omega
/-- both are right. -/
def bothE (xs : List Int) (r : Ring) : Int := if cm xs = 0 then ckR r else cm xs
theorem bothE_inv {xs : List Int} {r : Ring} (h : bothE xs r = 0) : cm xs = 0 ∧ ringR r := by
  unfold bothE at h; split at h
  · rename_i h0; exact ⟨h0, ckR_inv h⟩
  · rename_i h0; exact absurd h h0
theorem bothE_0 {xs : List Int} {r : Ring} (h : cm xs = 0) (hr : ringR r) : bothE xs r = 0 := by unfold bothE; rw [if_pos h, ckR_0 hr]
/-- chapter 5's Push, Pop. -/
def pushE (xs : List Int) (r : Ring) (v : Int) : Int := if bothE xs r = 0 then (if 0 ≤ v ∧ v ≤ 65535 then (if lenR r = 7 then 1 else 0) else 2) else bothE xs r
def pushX (xs : List Int) (r : Ring) (v : Int) : List Int := xs.set (r.page * 8 + r.tail).toNat v
def pushR (r : Ring) : Ring := ⟨r.page, r.head, (r.tail + 1) % 8⟩
def popE (xs : List Int) (r : Ring) : Int := if bothE xs r = 0 then (if lenR r = 0 then 6 else 0) else bothE xs r
def popV (xs : List Int) (r : Ring) : Int := rd xs (r.page * 8 + r.head)
def popR (r : Ring) : Ring := ⟨r.page, (r.head + 1) % 8, r.tail⟩
theorem pushE_b {xs : List Int} {r : Ring} {v : Int} (h : bothE xs r ≠ 0) : pushE xs r v = bothE xs r := by unfold pushE; rw [if_neg h]
theorem pushE_v {xs : List Int} {r : Ring} {v : Int} (h : bothE xs r = 0) (hv : ¬ (0 ≤ v ∧ v ≤ 65535)) : pushE xs r v = 2 := by unfold pushE; rw [if_pos h, if_neg hv]
theorem pushE_m {xs : List Int} {r : Ring} {v : Int} (h : bothE xs r = 0) (hv : 0 ≤ v ∧ v ≤ 65535) (hl : lenR r = 7) : pushE xs r v = 1 := by unfold pushE; rw [if_pos h, if_pos hv, if_pos hl]
theorem pushE_0 {xs : List Int} {r : Ring} {v : Int} (h : bothE xs r = 0) (hv : 0 ≤ v ∧ v ≤ 65535) (hl : lenR r ≠ 7) : pushE xs r v = 0 := by unfold pushE; rw [if_pos h, if_pos hv, if_neg hl]
theorem pushE_inv {xs : List Int} {r : Ring} {v : Int} (h : pushE xs r v = 0) : bothE xs r = 0 ∧ (0 ≤ v ∧ v ≤ 65535) ∧ lenR r ≠ 7 := by
  unfold pushE at h; split at h
  · rename_i h1; split at h
    · rename_i h2; split at h
      · cases h
      · rename_i h3; exact ⟨h1, h2, h3⟩
    · cases h
  · rename_i h1; exact absurd h h1
theorem popE_b {xs : List Int} {r : Ring} (h : bothE xs r ≠ 0) : popE xs r = bothE xs r := by unfold popE; rw [if_neg h]
theorem popE_6 {xs : List Int} {r : Ring} (h : bothE xs r = 0) (hl : lenR r = 0) : popE xs r = 6 := by unfold popE; rw [if_pos h, if_pos hl]
theorem popE_0 {xs : List Int} {r : Ring} (h : bothE xs r = 0) (hl : lenR r ≠ 0) : popE xs r = 0 := by unfold popE; rw [if_pos h, if_neg hl]
theorem popE_inv {xs : List Int} {r : Ring} (h : popE xs r = 0) : bothE xs r = 0 ∧ lenR r ≠ 0 := by
  unfold popE at h; split at h
  · rename_i h1; split at h
    · cases h
    · rename_i h3; exact ⟨h1, h3⟩
  · rename_i h1; exact absurd h h1
theorem ring_at {r : Ring} (h : ringR r) : (0 ≤ r.page * 8 + r.tail ∧ r.page * 8 + r.tail < 512) ∧ (0 ≤ r.page * 8 + r.head ∧ r.page * 8 + r.head < 512) := by
  unfold ringR at h; omega
theorem push_ring {r : Ring} (h : ringR r) : ringR (pushR r) := by unfold ringR at *; unfold pushR; simp only []; omega
theorem pop_ring {r : Ring} (h : ringR r) : ringR (popR r) := by unfold ringR at *; unfold popR; simp only []; omega
theorem push_len {r : Ring} (h : ringR r) (hl : lenR r ≠ 7) : lenR (pushR r) = lenR r + 1 := by unfold ringR at h; unfold lenR pushR at *; simp only []; omega
theorem pop_len {r : Ring} (h : ringR r) (hl : lenR r ≠ 0) : lenR (popR r) = lenR r - 1 := by unfold ringR at h; unfold lenR popR at *; simp only []; omega
theorem push_cm {xs : List Int} {r : Ring} {v : Int} (h : cm xs = 0) (hv : 0 ≤ v ∧ v ≤ 65535) : cm (pushX xs r v) = 0 := cm_set h hv
theorem len_zero {r : Ring} (h : ringR r) : lenR r = 0 ↔ r.head = r.tail := by unfold ringR at h; unfold lenR; omega

/-- what lies in a ring, the next one first. -/
def inRing (xs : List Int) : Nat → Ring → List Int
  | 0, _ => []
  | n + 1, r => popV xs r :: inRing xs n (popR r)
theorem inRing_len (xs : List Int) : ∀ (n : Nat) (r : Ring), (inRing xs n r).length = n
  | 0, _ => rfl
  | n + 1, r => by simp [inRing, inRing_len xs n]
theorem inRing_snoc (xs : List Int) : ∀ (n : Nat) (r : Ring), ringR r → inRing xs (n + 1) r = inRing xs n r ++ [rd xs (r.page * 8 + (r.head + n) % 8)]
  | 0, r, h => by
    unfold ringR at h
    simp only [inRing, popV, List.nil_append]
    have : (r.head + ((0 : Nat) : Int)) % 8 = r.head := by omega
    rw [this]
  | n + 1, r, h => by
    rw [inRing, inRing_snoc xs n (popR r) (pop_ring h)]
    unfold ringR at h
    have : (popR r).page * 8 + ((popR r).head + n) % 8 = r.page * 8 + (r.head + ((n + 1 : Nat) : Int)) % 8 := by unfold popR; simp only []; omega
    rw [this]; simp [inRing]
/-- a word that is put elsewhere, or behind, does not show. -/
theorem inRing_far (xs : List Int) (i v : Int) (hi : 0 ≤ i) : ∀ (n : Nat) (r : Ring), ringR r → (∀ k : Nat, k < n → i ≠ r.page * 8 + (r.head + k) % 8) → inRing (xs.set i.toNat v) n r = inRing xs n r
  | 0, _, _, _ => rfl
  | n + 1, r, h, hk => by
    have h0 := hk 0 (by omega)
    have hb := (ring_at h).2
    have hr := h
    unfold ringR at hr
    have e0 : r.page * 8 + (r.head + ((0 : Nat) : Int)) % 8 = r.page * 8 + r.head := by omega
    rw [e0] at h0
    simp only [inRing]
    rw [inRing_far xs i v hi n (popR r) (pop_ring h) (fun k hkn => by
      have := hk (k + 1) (by omega)
      have e : (popR r).page * 8 + ((popR r).head + k) % 8 = r.page * 8 + (r.head + ((k + 1 : Nat) : Int)) % 8 := by unfold popR; simp only []; omega
      rw [e]; exact this)]
    unfold popV
    rw [rd_set hi hb.1 h0]
theorem push_in {xs : List Int} {r : Ring} {v : Int} (hl : xs.length = 512) (h : ringR r) (h7 : lenR r ≠ 7) :
    inRing (pushX xs r v) (lenR r + 1).toNat (pushR r) = inRing xs (lenR r).toNat r ++ [v] := by
  have hb := lenR_bd r
  have hb2 := ring_at h
  obtain ⟨n, hn⟩ := Int.eq_ofNat_of_zero_le hb.1
  have hr := h
  unfold ringR at hr
  have e1 : (lenR r + 1).toNat = n + 1 := by omega
  have e2 : (lenR r).toNat = n := by omega
  have hp : ∀ m, inRing (pushX xs r v) m (pushR r) = inRing (pushX xs r v) m r := by
    intro m
    have : ∀ (m : Nat) (a b : Ring), a.page = b.page → a.head = b.head → inRing (pushX xs r v) m a = inRing (pushX xs r v) m b := by
      intro m
      induction m with
      | zero => intros; rfl
      | succ m ih => intro a b h1 h2; simp only [inRing, popV, h1, h2]; rw [ih (popR a) (popR b) (by simp [popR, h1]) (by simp [popR, h2])]
    exact this m _ _ rfl rfl
  have hn' : (n : Int) = (r.tail - r.head) % 8 := by rw [← hn]; rfl
  have e3 : r.page * 8 + (r.head + n) % 8 = r.page * 8 + r.tail := by omega
  rw [e1, e2, hp, inRing_snoc _ _ _ h, e3]
  unfold pushX
  rw [rd_self hl hb2.1, inRing_far _ _ _ hb2.1.1 _ _ h (fun k hk => by omega)]
end Go.Proofs.Ytbopdijnojaaiab
