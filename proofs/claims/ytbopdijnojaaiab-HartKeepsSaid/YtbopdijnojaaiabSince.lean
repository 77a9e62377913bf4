/- Worlds behind a world, for regions that draw their order. No statement of the seat is proved here. -/
import Derived.Test.YtbopdijnojaaiabBase
namespace Go.Proofs.Ytbopdijnojaaiab
open Go.RowKit
set_option linter.unusedSimpArgs false
set_option linter.unusedVariables false

/-- behind a world: what lay there lies as it was. -/
def Since (w0 W : World) : Prop := Below w0.heap.size w0 W
theorem since_refl (w0 : World) : Since w0 w0 := Below.refl _ _
theorem since_drew {w0 W : World} (h : Since w0 W) : Since w0 W.drew := h.drew
theorem since_alloc {w0 W : World} (h : Since w0 W) (o : Obj) : Since w0 (W.alloc o) := Below.alloc h h.size o
theorem since_step {w0 W W' : World} (hb : Below W.heap.size W W') (h : Since w0 W) : Since w0 W' := Below.trans h (hb.mono h.size)
theorem cell_lt' {w : World} {a : Addr} {v : Value} (h : w.cell? a = some v) : a.block < w.heap.size := by
  rcases Nat.lt_or_ge a.block w.heap.size with hlt | hge
  · exact hlt
  · simp [World.cell?, Array.getElem?_eq_none hge] at h
theorem since_cell {w0 W : World} {p : Addr} {v : Value} (h : Since w0 W) (hc : w0.cell? p = some v) : W.cell? p = some v := (Below.cell h (cell_lt' hc)).trans hc
theorem since_ints {w0 W : World} {B n : Nat} {A : Option Addr} {xs : List Int} (h : Since w0 W) (hx : Ints w0 B A n xs) (hB : B ≤ w0.heap.size) : Ints W W.heap.size A n xs := (hx.below (Below.mono h hB)).more (Nat.le_trans hB h.size)

theorem keep3 {w3 W : World} {p0 p1 p2 : Addr} {v0 v1 v2 : Value} (h : Since w3 W) (h0 : w3.cell? p0 = some v0) (h1 : w3.cell? p1 = some v1) (h2 : w3.cell? p2 = some v2) : W.cell? p0 = some v0 ∧ W.cell? p1 = some v1 ∧ W.cell? p2 = some v2 ∧ Hid (Since w3 W) := ⟨since_cell h h0, since_cell h h1, since_cell h h2, h⟩

theorem since_of {w3 W : World} {a b c : Prop} (h : a ∧ b ∧ c ∧ Hid (Since w3 W)) : Since w3 W := h.2.2.2

theorem keep1 {w3 W : World} {p0 : Addr} {v0 : Value} (h : Since w3 W) (h0 : w3.cell? p0 = some v0) : W.cell? p0 = some v0 ∧ Hid (Since w3 W) := ⟨since_cell h h0, h⟩
theorem since_of1 {w3 W : World} {a : Prop} (h : a ∧ Hid (Since w3 W)) : Since w3 W := h.2
theorem since_of2 {w3 W : World} {a b : Prop} (h : a ∧ b ∧ Hid (Since w3 W)) : Since w3 W := h.2.2
theorem since_of4 {w3 W : World} {a b c d : Prop} (h : a ∧ b ∧ c ∧ d ∧ Hid (Since w3 W)) : Since w3 W := h.2.2.2.2
theorem since_below {w w3 W : World} (h : Below w.heap.size w w3) (hs : Since w3 W) (hz : w.heap.size ≤ w3.heap.size) : Below w.heap.size w W := h.trans (Below.mono hs hz)
end Go.Proofs.Ytbopdijnojaaiab
