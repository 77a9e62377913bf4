/- What the library's functions on slices compute at this seat's types. No statement of the seat is proved here. -/
import Derived.Test.YtbopdijnojaaiabProg
import Derived.Test.YtbopdijnojaaiabBase
namespace Go.Proofs.Ytbopdijnojaaiab
open Go.RowKit
set_option linter.unusedSimpArgs false
set_option linter.unusedVariables false

def eqI (xs ys : List Int) : Bool := xs == ys
theorem eqI_len {xs ys : List Int} (h : xs.length ≠ ys.length) : false = eqI xs ys := by
  symm; unfold eqI; rw [beq_eq_false_iff_ne]; intro e; exact h (by rw [e])
theorem eqI_at {xs ys : List Int} {k : Nat} {x y : Int} (hx : xs[k]? = some x) (hy : ys[k]? = some y) (h : (x != y) = true) : false = eqI xs ys := by
  symm; unfold eqI; rw [beq_eq_false_iff_ne]; intro e; subst e; rw [hx] at hy; simp at hy h; exact h hy
theorem eqI_all {xs ys : List Int} {k : Nat} (hx : xs.length = k) (hy : ys.length = k) (h : xs.take k = ys.take k) : true = eqI xs ys := by
  rw [List.take_of_length_le (by omega), List.take_of_length_le (by omega)] at h; simp [eqI, h]
theorem take_snoc_eq {α : Type} {xs ys : List α} {k : Nat} {x y : α} (hx : xs[k]? = some x) (hy : ys[k]? = some y) (h : xs.take k = ys.take k) (e : x = y) : xs.take (k + 1) = ys.take (k + 1) := by
  rw [List.take_add_one, List.take_add_one, hx, hy, h, e]

set_option maxRecDepth 100000 in
set_option maxHeartbeats 1000000 in
theorem sl_Equal (A B : Option Addr) (n m c d : Nat) (xs ys : List Int) (w : World) (hx : Ints w w.heap.size A n xs) (hy : Ints w w.heap.size B m ys) :
    Calls Try.prog 26 #[.slice A n c, .slice B m d] w fun e w' => e = .returned (.bool (eqI xs ys)) ∧ Below w.heap.size w w' := by
  have hn := hx.bd
  have HX := Lib.hid hx; clear hx
  have HY := Lib.hid hy; clear hy
  by_cases hnm : n = m
  · subst hnm
    go_enter Try.func26, Try.ntmps26
    go_wp2
    go_loopw [13, 5] (fun i _ wr => ∃ k : Nat, k ≤ n ∧ i = .int .i64 k ∧ Hid (xs.take k = ys.take k) ∧ ∃ q, wr = w.drewN q) (fun i _ _ => n - (intOf i).toNat)
    case atStart => exact ⟨0, by omega, rfl, by simp [Hid], 0, rfl⟩
    case round =>
      obtain ⟨k, hk, rfl, hall, q, rfl⟩ := hrel
      by_cases hlt : k < n
      · obtain ⟨x, hxk⟩ := some_of_lt xs (k := k) (by rw [HX.out.len]; exact hlt)
        obtain ⟨y, hyk⟩ := some_of_lt ys (k := k) (by rw [HY.out.len]; exact hlt)
        obtain ⟨b, off, rfl, hb, hc⟩ := HX.out.at_ (by omega)
        obtain ⟨b', off', rfl, hb', hc'⟩ := HY.out.at_ (by omega)
        have h1 := hc k x hxk
        have h2 := hc' k y hyk
        clear hc hc'
        have HXK := Lib.hid hxk; clear hxk
        have HYK := Lib.hid hyk; clear hyk
        go_wp2
        go_quiet (fail)
        go_wp2
        · go_ret
          exact ⟨ret_bool (eqI_at HXK.out HYK.out ‹_›), bdrewN (bdrewN (Below.refl _ _) _) _⟩
        · go_roundw
          case rel => exact ⟨k + 1, by omega, by go_num, take_snoc_eq HXK.out HYK.out hall.out (by simpa using ‹(x != y) = false›), _, rfl⟩
          case measure => simp [intOf]; omega
      · go_wp2
        go_ret
        obtain rfl : k = n := by omega
        exact ⟨ret_bool (eqI_all HX.out.len HY.out.len hall.out), bdrewN (Below.refl _ _) _⟩
  · have h3 : ((n : Int) != (m : Int)) = true := by simp; omega
    go_enter Try.func26, Try.ntmps26
    go_wp2
    go_ret
    exact ⟨ret_bool (eqI_len (by rw [HX.out.len, HY.out.len]; exact hnm)), Below.refl _ _⟩
end Go.Proofs.Ytbopdijnojaaiab
