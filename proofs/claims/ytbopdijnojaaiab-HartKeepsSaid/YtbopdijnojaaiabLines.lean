/- How a slice of lines lies in memory. No program in sight, no statement of the seat is proved here. -/
import Derived.Test.YtbopdijnojaaiabCacheP
namespace Go.Proofs.Ytbopdijnojaaiab
open Go.RowKit
set_option linter.unusedSimpArgs false
set_option linter.unusedVariables false

def lcells (ls : List Line) : List Value := ls.flatMap Line.vals
theorem lcells_len : ∀ ls : List Line, (lcells ls).length = ls.length * 5
  | [] => rfl
  | x :: r => by unfold lcells; rw [List.flatMap_cons, List.length_append]; have := lcells_len r; unfold lcells at this; rw [this]; simp [Line.vals]; omega
theorem lcells_at : ∀ (ls : List Line) (k : Nat) (x : Line) (j : Nat), ls[k]? = some x → j < 5 → (lcells ls)[k * 5 + j]? = x.vals[j]?
  | [], k, x, j, h, _ => by simp at h
  | y :: r, 0, x, j, h, hj => by
    simp at h; subst h
    unfold lcells
    rw [List.flatMap_cons, List.getElem?_append_left (by simp [Line.vals]; omega)]
    simp
  | y :: r, k + 1, x, j, h, hj => by
    simp at h
    unfold lcells
    rw [List.flatMap_cons, List.getElem?_append_right (by simp [Line.vals]; omega)]
    have := lcells_at r k x j h hj
    unfold lcells at this
    rw [← this]; congr 1; simp [Line.vals]; omega
theorem lcells_append (xs ys : List Line) : lcells (xs ++ ys) = lcells xs ++ lcells ys := by unfold lcells; rw [List.flatMap_append]
theorem lcells_take : ∀ (k : Nat) (ls : List Line), (lcells ls).take (k * 5) = lcells (ls.take k)
  | 0, ls => by simp [lcells]
  | k + 1, [] => by simp [lcells]
  | k + 1, x :: r => by
    have := lcells_take k r
    unfold lcells at *
    rw [List.flatMap_cons, List.take_succ_cons, List.flatMap_cons, ← this, show (k + 1) * 5 = x.vals.length + k * 5 by simp [Line.vals]; omega, List.take_append]
    rw [List.take_of_length_le (by omega), Nat.add_sub_cancel_left]
theorem lcells_drop : ∀ (k : Nat) (ls : List Line), (lcells ls).drop (k * 5) = lcells (ls.drop k)
  | 0, ls => by simp [lcells]
  | k + 1, [] => by simp [lcells]
  | k + 1, x :: r => by
    have := lcells_drop k r
    unfold lcells at *
    rw [List.flatMap_cons, List.drop_succ_cons, ← this, show (k + 1) * 5 = x.vals.length + k * 5 by simp [Line.vals]; omega, ← List.drop_drop]
    simp

/-- A slice of lines that reads as ls. -/
def Lines (w : World) (B : Nat) (A : Option Addr) (n c : Nat) (ls : List Line) : Prop :=
  ls.length = n ∧ n ≤ c ∧ c ≤ maxLen ∧ (A = none → c = 0) ∧ Row w B A (lcells ls)
/-- the five cells of a line. -/
def LineAt (w : World) (b o : Nat) (x : Line) : Prop :=
  w.cell? ⟨b, o, none⟩ = some (.int .i64 x.dev) ∧ w.cell? ⟨b, o + 1, none⟩ = some (.int .i64 x.page) ∧ w.cell? ⟨b, o + 2, none⟩ = some (.int .i64 x.at_) ∧ w.cell? ⟨b, o + 3, none⟩ = some (.bool x.rd) ∧ w.cell? ⟨b, o + 4, none⟩ = some (.bool x.wr)

section
variable {w w' : World} {B B' n c : Nat} {A : Option Addr} {ls : List Line}
theorem Lines.len (h : Lines w B A n c ls) : ls.length = n := h.1
theorem Lines.cap (h : Lines w B A n c ls) : n ≤ c ∧ c ≤ 9223372036854775807 := ⟨h.2.1, by have := h.2.2.1; unfold maxLen at this; omega⟩
theorem Lines.at_ (h : Lines w B A n c ls) (hn : 0 < n) : ∃ b off, A = some ⟨b, off, none⟩ ∧ b < B ∧ ∀ k x, ls[k]? = some x → LineAt w b (off + k * 5) x := by
  obtain ⟨b, off, e, hb, hc⟩ := h.2.2.2.2 (by rw [lcells_len, h.1]; omega)
  refine ⟨b, off, e, hb, fun k x hx => ?_⟩
  have := fun j hj => lcells_at ls k x j hx hj
  refine ⟨?_, ?_, ?_, ?_, ?_⟩
  · exact hc (k * 5) _ ((this 0 (by omega)).trans rfl)
  · rw [Nat.add_assoc]; exact hc (k * 5 + 1) _ ((this 1 (by omega)).trans rfl)
  · rw [Nat.add_assoc]; exact hc (k * 5 + 2) _ ((this 2 (by omega)).trans rfl)
  · rw [Nat.add_assoc]; exact hc (k * 5 + 3) _ ((this 3 (by omega)).trans rfl)
  · rw [Nat.add_assoc]; exact hc (k * 5 + 4) _ ((this 4 (by omega)).trans rfl)
theorem Lines.more (h : Lines w B A n c ls) (hB : B ≤ B') : Lines w B' A n c ls := ⟨h.1, h.2.1, h.2.2.1, h.2.2.2.1, h.2.2.2.2.more hB⟩
theorem Lines.below (h : Lines w B A n c ls) (hb : Below B w w') : Lines w' B A n c ls := ⟨h.1, h.2.1, h.2.2.1, h.2.2.2.1, h.2.2.2.2.below hb⟩
theorem Lines.drew (h : Lines w B A n c ls) : Lines w.drew B A n c ls := h
theorem Lines.alloc (h : Lines w B A n c ls) (hB : B ≤ w.heap.size) (o : Obj) : Lines (w.alloc o) B A n c ls := ⟨h.1, h.2.1, h.2.2.1, h.2.2.2.1, h.2.2.2.2.alloc hB o⟩
theorem Lines.setCell (h : Lines w B A n c ls) {p : Addr} (hB : B ≤ p.block) (u : Value) : Lines (w.setCell p u) B A n c ls := ⟨h.1, h.2.1, h.2.2.1, h.2.2.2.1, h.2.2.2.2.setCell hB u⟩
theorem lines_none (w : World) (B : Nat) : Lines w B none 0 0 [] := ⟨rfl, Nat.le_refl _, Nat.zero_le _, fun _ => rfl, Row.nil_⟩
/-- the first k lines. -/
theorem Lines.take (h : Lines w B A n c ls) {k : Nat} (hk : k ≤ n) : Lines w B A k c (ls.take k) :=
  ⟨by rw [List.length_take, h.1]; omega, Nat.le_trans hk h.2.1, h.2.2.1, h.2.2.2.1, fun h0 => by
    have hl : 0 < (lcells ls).length := by
      rw [lcells_len] at *; rw [List.length_take] at h0; omega
    obtain ⟨b, off, e, hb, hc⟩ := h.2.2.2.2 hl
    refine ⟨b, off, e, hb, fun j v hv => hc j v ?_⟩
    rw [← lcells_take] at hv
    have hj : j < k * 5 := by have := (List.getElem?_eq_some_iff.1 hv).1; rw [List.length_take] at this; omega
    rw [List.getElem?_take, if_pos hj] at hv
    exact hv⟩
end
end Go.Proofs.Ytbopdijnojaaiab
