/- Entries and contexts as words: the walks of the program's functions of chapter 2. No statement of the seat is proved here. -/
import Derived.Test.YtbopdijnojaaiaaProg
import Derived.Test.YtbopdijnojaaiaaEntry
import Derived.Test.YtbopdijnojaaiaaBits
namespace Go.Proofs.Ytbopdijnojaaiaa
open Go.RowKit
set_option linter.unusedSimpArgs false
set_option linter.unusedVariables false

set_option maxRecDepth 100000 in
set_option maxHeartbeats 1000000 in
theorem entry_bit (v k : Int) (hk : k = 0 ∨ k = 1 ∨ k = 2 ∨ k = 3) (hv : 0 ≤ v ∧ v ≤ 65535) (w : World) : Calls Try.prog 53 #[.int .i64 v, .int .i64 k] w fun e w' => e = .returned (.bool (bitI v k)) ∧ w = w' := by
  obtain ⟨h1, h2⟩ := hv
  have e0 := and1 v (by omega) (by omega)
  have e1 := and1 (v / 2) (by omega) (by omega)
  have e2 := and1 (v / 4) (by omega) (by omega)
  have e3 := and1 (v / 8) (by omega) (by omega)
  rcases hk with rfl | rfl | rfl | rfl
  · rw [bitI0]
    go_enter Try.func53, Try.ntmps53
    go_wp2
    go_ret
    exact ⟨rfl, rfl⟩
  · rw [bitI1]
    go_enter Try.func53, Try.ntmps53
    go_wp2
    go_ret
    exact ⟨rfl, rfl⟩
  · rw [bitI2]
    go_enter Try.func53, Try.ntmps53
    go_wp2
    go_ret
    exact ⟨rfl, rfl⟩
  · rw [bitI3]
    go_enter Try.func53, Try.ntmps53
    go_wp2
    go_ret
    exact ⟨rfl, rfl⟩
theorem or_mid (k q low : Nat) (h : low < 2 ^ k) : (2 ^ (k + 1) * q + low) ||| 2 ^ k = 2 ^ (k + 1) * q + low + 2 ^ k := by
  have h2 : 2 ^ (k + 1) = 2 * 2 ^ k := by rw [Nat.pow_succ, Nat.mul_comm]
  have e1 : low ||| 2 ^ k = 2 ^ k + low := by
    have := Nat.two_pow_add_eq_or_of_lt h 1
    rw [Nat.mul_one] at this
    rw [Nat.or_comm, ← this]
  rw [Nat.two_pow_add_eq_or_of_lt (i := k + 1) (by omega) q, Nat.or_assoc, e1, ← Nat.two_pow_add_eq_or_of_lt (i := k + 1) (by omega) q, ← Nat.two_pow_add_eq_or_of_lt (i := k + 1) (by omega) q]
  omega
theorem or_bit (k : Nat) (x m : Int) (q low : Nat) (hm : m = (2 ^ k : Nat)) (hx : x = ((2 ^ (k + 1) * q + low : Nat) : Int)) (hl : low < 2 ^ k) (hb : x < 4294967296) (hb' : m < 4294967296) : bits .or .i64 x m = x + m := by
  subst hm; subst hx
  rw [or_i64_nat _ _ (by omega) (by omega), or_mid k q low hl]
  omega

/-- the word of a page and the first k of these bits. -/
def entS (p : Int) (b0 b1 b2 b3 : Bool) (k : Int) : Int := 16 * p + (if 1 ≤ k then b2i b0 else 0) + (if 2 ≤ k then 2 * b2i b1 else 0) + (if 3 ≤ k then 4 * b2i b2 else 0) + (if 4 ≤ k then 8 * b2i b3 else 0)
theorem b2i_01 (b : Bool) : b2i b = 0 ∨ b2i b = 1 := by cases b <;> simp [b2i]
section
variable {p : Int} {b0 b1 b2 b3 : Bool}
theorem entS0 : entS p b0 b1 b2 b3 0 = 16 * p := by simp [entS]
theorem entS1 : entS p b0 b1 b2 b3 1 = 16 * p + b2i b0 := by simp [entS]
theorem entS2 : entS p b0 b1 b2 b3 2 = 16 * p + b2i b0 + 2 * b2i b1 := by simp [entS]
theorem entS3 : entS p b0 b1 b2 b3 3 = 16 * p + b2i b0 + 2 * b2i b1 + 4 * b2i b2 := by simp [entS]
theorem entS4 : entS p b0 b1 b2 b3 4 = 16 * p + b2i b0 + 2 * b2i b1 + 4 * b2i b2 + 8 * b2i b3 := by simp [entS]
theorem entS_t0 (hp : 0 ≤ p ∧ p < 64) (h : b0 = true) : bits .or .i64 (entS p b0 b1 b2 b3 0) 1 = entS p b0 b1 b2 b3 1 := by
  rw [entS0, entS1, h, b2i_t]
  exact or_bit 0 (16 * p) 1 (8 * p.toNat) 0 rfl (by omega) (by decide) (by omega) (by decide)
theorem entS_t1 (hp : 0 ≤ p ∧ p < 64) (h : b1 = true) : bits .or .i64 (entS p b0 b1 b2 b3 1) 2 = entS p b0 b1 b2 b3 2 := by
  rw [entS1, entS2, h, b2i_t]
  have := b2i_01 b0
  exact or_bit 1 (16 * p + b2i b0) 2 (4 * p.toNat) (b2i b0).toNat rfl (by omega) (by omega) (by omega) (by decide)
theorem entS_t2 (hp : 0 ≤ p ∧ p < 64) (h : b2 = true) : bits .or .i64 (entS p b0 b1 b2 b3 2) 4 = entS p b0 b1 b2 b3 3 := by
  rw [entS2, entS3, h, b2i_t]
  have := b2i_01 b0; have := b2i_01 b1
  exact or_bit 2 (16 * p + b2i b0 + 2 * b2i b1) 4 (2 * p.toNat) (b2i b0 + 2 * b2i b1).toNat rfl (by omega) (by omega) (by omega) (by decide)
theorem entS_t3 (hp : 0 ≤ p ∧ p < 64) (h : b3 = true) : bits .or .i64 (entS p b0 b1 b2 b3 3) 8 = entS p b0 b1 b2 b3 4 := by
  rw [entS3, entS4, h, b2i_t]
  have := b2i_01 b0; have := b2i_01 b1; have := b2i_01 b2
  exact or_bit 3 (16 * p + b2i b0 + 2 * b2i b1 + 4 * b2i b2) 8 p.toNat (b2i b0 + 2 * b2i b1 + 4 * b2i b2).toNat rfl (by omega) (by omega) (by omega) (by decide)
theorem entS_f0 (h : b0 = false) : entS p b0 b1 b2 b3 0 = entS p b0 b1 b2 b3 1 := by rw [entS0, entS1, h, b2i_f, Int.add_zero]
theorem entS_f1 (h : b1 = false) : entS p b0 b1 b2 b3 1 = entS p b0 b1 b2 b3 2 := by rw [entS1, entS2, h, b2i_f]; omega
theorem entS_f2 (h : b2 = false) : entS p b0 b1 b2 b3 2 = entS p b0 b1 b2 b3 3 := by rw [entS2, entS3, h, b2i_f]; omega
theorem entS_f3 (h : b3 = false) : entS p b0 b1 b2 b3 3 = entS p b0 b1 b2 b3 4 := by rw [entS3, entS4, h, b2i_f]; omega
end
theorem val_int {k : IntKind} {a b : Int} (h : a = b) : Value.int k a = Value.int k b := by rw [h]

set_option maxRecDepth 100000 in
set_option maxHeartbeats 1000000 in
theorem entry_word4 (p : Int) (b0 b1 b2 b3 : Bool) (g : Nat) (hp : 0 ≤ p ∧ p < 64) (w : World) (hc : ∀ o, w.cell? ⟨g, o, none⟩ = [Value.bool b0, .bool b1, .bool b2, .bool b3][o]?) :
    Calls Try.prog 56 #[.int .i64 p, .slice (some ⟨g, 0, none⟩) 4 4] w fun e w' => e = .returned (.int .i64 (entS p b0 b1 b2 b3 4)) ∧ w = w' := by
  have HP := Lib.hid hp
  obtain ⟨h1, h2⟩ := hp
  go_enter Try.func56, Try.ntmps56
  go_wp2
  go_loop [12, 5, 6, 7] (fun i s _ _ => ∃ k : Int, 0 ≤ k ∧ k ≤ 4 ∧ i = .int .i64 k ∧ s = .int .i64 (entS p b0 b1 b2 b3 k)) (fun i _ _ _ => 4 - (intOf i).toNat)
  case atStart => exact ⟨0, by omega, by omega, rfl, val_int (by rw [entS0]; omega)⟩
  case round =>
    obtain ⟨k, h0, hk, rfl, rfl⟩ := hrel
    by_cases hlt : k < 4
    · rcases (by omega : k = 0 ∨ k = 1 ∨ k = 2 ∨ k = 3) with rfl | rfl | rfl | rfl
      · clear h0 hk hlt
        cases b0
        · go_wp2
          go_round
          case rel => exact ⟨_, by omega, by omega, rfl, val_int (entS_f0 rfl)⟩
          case measure => simp [intOf]
        · go_wp2
          go_round
          case rel => exact ⟨_, by omega, by omega, rfl, val_int (entS_t0 HP.out rfl)⟩
          case measure => simp [intOf]
      · clear h0 hk hlt
        cases b1
        · go_wp2
          go_round
          case rel => exact ⟨_, by omega, by omega, rfl, val_int (entS_f1 rfl)⟩
          case measure => simp [intOf]
        · go_wp2
          go_round
          case rel => exact ⟨_, by omega, by omega, rfl, val_int (entS_t1 HP.out rfl)⟩
          case measure => simp [intOf]
      · clear h0 hk hlt
        cases b2
        · go_wp2
          go_round
          case rel => exact ⟨_, by omega, by omega, rfl, val_int (entS_f2 rfl)⟩
          case measure => simp [intOf]
        · go_wp2
          go_round
          case rel => exact ⟨_, by omega, by omega, rfl, val_int (entS_t2 HP.out rfl)⟩
          case measure => simp [intOf]
      · clear h0 hk hlt
        cases b3
        · go_wp2
          go_round
          case rel => exact ⟨_, by omega, by omega, rfl, val_int (entS_f3 rfl)⟩
          case measure => simp [intOf]
        · go_wp2
          go_round
          case rel => exact ⟨_, by omega, by omega, rfl, val_int (entS_t3 HP.out rfl)⟩
          case measure => simp [intOf]
    · obtain rfl : k = 4 := by omega
      go_wp2
      go_ret
      exact ⟨rfl, rfl⟩
set_option maxRecDepth 100000 in
set_option maxHeartbeats 1000000 in
theorem entry_word2 (p : Int) (b0 b1 : Bool) (g : Nat) (hp : 0 ≤ p ∧ p < 64) (w : World) (hc : ∀ o, w.cell? ⟨g, o, none⟩ = [Value.bool b0, .bool b1][o]?) :
    Calls Try.prog 56 #[.int .i64 p, .slice (some ⟨g, 0, none⟩) 2 2] w fun e w' => e = .returned (.int .i64 (entS p b0 b1 false false 2)) ∧ w = w' := by
  have HP := Lib.hid hp
  obtain ⟨h1, h2⟩ := hp
  go_enter Try.func56, Try.ntmps56
  go_wp2
  go_loop [12, 5, 6, 7] (fun i s _ _ => ∃ k : Int, 0 ≤ k ∧ k ≤ 2 ∧ i = .int .i64 k ∧ s = .int .i64 (entS p b0 b1 false false k)) (fun i _ _ _ => 2 - (intOf i).toNat)
  case atStart => exact ⟨0, by omega, by omega, rfl, val_int (by rw [entS0]; omega)⟩
  case round =>
    obtain ⟨k, h0, hk, rfl, rfl⟩ := hrel
    by_cases hlt : k < 2
    · rcases (by omega : k = 0 ∨ k = 1) with rfl | rfl
      · clear h0 hk hlt
        cases b0
        · go_wp2
          go_round
          case rel => exact ⟨_, by omega, by omega, rfl, val_int (entS_f0 rfl)⟩
          case measure => simp [intOf]
        · go_wp2
          go_round
          case rel => exact ⟨_, by omega, by omega, rfl, val_int (entS_t0 HP.out rfl)⟩
          case measure => simp [intOf]
      · clear h0 hk hlt
        cases b1
        · go_wp2
          go_round
          case rel => exact ⟨_, by omega, by omega, rfl, val_int (entS_f1 rfl)⟩
          case measure => simp [intOf]
        · go_wp2
          go_round
          case rel => exact ⟨_, by omega, by omega, rfl, val_int (entS_t1 HP.out rfl)⟩
          case measure => simp [intOf]
    · obtain rfl : k = 2 := by omega
      go_wp2
      go_ret
      exact ⟨rfl, rfl⟩
end Go.Proofs.Ytbopdijnojaaiaa
