/- Entries and contexts as words: the walk of the program's bit. No statement of the seat is proved here. -/
import Derived.Test.YtbopdijnojaaiabBase
import Derived.Test.YtbopdijnojaaiabProg
namespace Go.Proofs.Ytbopdijnojaaiab
open Go.RowKit
set_option linter.unusedSimpArgs false
set_option linter.unusedVariables false

section

theorem wrap_i64_small (n : Int) (h0 : 0 ≤ n) (h1 : n < 4294967296) : IntKind.i64.wrap n = n := IntWalk.i64_in _ (by omega)

theorem ofInt_nat (a : Nat) (ha : a < 4294967296) : (BitVec.ofInt IntKind.i64.bits (a : Int)).toNat = a := by
  simp [IntKind.bits]; omega

theorem or_i64_nat (a b : Nat) (ha : a < 4294967296) (hb : b < 4294967296) : bits .or .i64 (a : Int) (b : Int) = ((a ||| b : Nat) : Int) := by
  have h : a ||| b < 2 ^ 32 := Nat.or_lt_two_pow (by simpa using ha) (by simpa using hb)
  unfold bits
  simp only [BitVec.toNat_or, ofInt_nat a ha, ofInt_nat b hb]
  exact wrap_i64_small _ (by omega) (by omega)

theorem and_i64_nat (a b : Nat) (ha : a < 4294967296) (hb : b < 4294967296) : bits .and .i64 (a : Int) (b : Int) = ((a &&& b : Nat) : Int) := by
  have h : a &&& b ≤ a := Nat.and_le_left
  unfold bits
  simp only [BitVec.toNat_and, ofInt_nat a ha, ofInt_nat b hb]
  exact wrap_i64_small _ (by omega) (by omega)

/-- the low j bits, by a sum. -/
theorem or_add (j q : Nat) (x y : Int) (hx : x = (2 ^ j * q : Nat)) (hy0 : 0 ≤ y) (hy : y < (2 ^ j : Nat)) (hb : x < 4294967296) (hb' : y < 4294967296) : bits .or .i64 x y = x + y := by
  obtain ⟨b, rfl⟩ := Int.eq_ofNat_of_zero_le hy0
  subst hx
  rw [or_i64_nat _ _ (by omega) (by omega), ← Nat.two_pow_add_eq_or_of_lt (by omega)]
  omega

theorem and_mask (j : Nat) (x m : Int) (hm : m = (2 ^ j - 1 : Nat)) (h0 : 0 ≤ x) (hb : x < 4294967296) (hj : m < 4294967296) : bits .and .i64 x m = x % (2 ^ j : Nat) := by
  obtain ⟨a, rfl⟩ := Int.eq_ofNat_of_zero_le h0
  subst hm
  rw [and_i64_nat _ _ (by omega) (by omega), Nat.and_two_pow_sub_one_eq_mod]
  omega

theorem and7 (x : Int) (h0 : 0 ≤ x) (hb : x < 4294967296) : bits .and .i64 x 7 = x % 8 := and_mask 3 x 7 rfl h0 hb (by decide)
theorem and63 (x : Int) (h0 : 0 ≤ x) (hb : x < 4294967296) : bits .and .i64 x 63 = x % 64 := and_mask 6 x 63 rfl h0 hb (by decide)

end

section
end
end Go.Proofs.Ytbopdijnojaaiab
