/- A region that draws its order, of two loads of structs, two stores and an assignment: one way. No statement of the seat is proved here. -/
import Derived.Test.YtbopdijnojaaiacProg
import Derived.Test.YtbopdijnojaaiacBase
import Derived.Laws.Tables
import Derived.Laws.Rows
import Derived.Deep.MidRow
import Derived.OrdersHeld
namespace Go.Proofs.Ytbopdijnojaaiac
open Go.RowKit
set_option linter.unusedSimpArgs false
set_option linter.unusedVariables false

section
/-- block g holds these cells, and may be written. -/
def Whl (w : World) (g : Nat) (t : TypeId) (cs : Array Value) : Prop := w.heap[g]? = some (.cells cs t (0, 0))
section
variable {w w' : World} {g H : Nat} {t : TypeId} {cs : Array Value}
theorem whl_lt (h : Whl w g t cs) : g < w.heap.size := by
  rcases Nat.lt_or_ge g w.heap.size with hlt | hge
  · exact hlt
  · unfold Whl at h; rw [Array.getElem?_eq_none hge] at h; cases h
theorem whl_new (w : World) (cs : Array Value) (t : TypeId) (hH : w.heap.size = H) : Whl (w.alloc (.cells cs t)) H t cs := by subst hH; exact heap_alloc_new _ _
theorem whl_alloc (h : Whl w g t cs) (o : Obj) : Whl (w.alloc o) g t cs := (Below.heap_alloc w o g (whl_lt h)).trans h
theorem whl_drew (h : Whl w g t cs) : Whl w.drew g t cs := h
theorem whl_since (h : Whl w g t cs) (hs : Below w.heap.size w w') : Whl w' g t cs := (hs.block g (whl_lt h)).trans h
theorem whl_same (h : Whl w g t cs) (cs' : Array Value) : Whl (w.setRow g cs') g t cs' := setRow_heap w g cs cs' t _ h
theorem whl_field (h : Whl w g t cs) (o : Nat) (u : Value) (cs' : Array Value) (hc : cs.setIfInBounds o u = cs') : Whl (w.setCell ⟨g, o, none⟩ u) g t cs' := by
  unfold Whl at *
  rw [← hc]
  simp only [World.setCell, Array.getElem?_modify]
  rw [if_pos trivial, h]
  rfl
theorem whl_cell (h : Whl w g t cs) (o : Nat) : w.cell? ⟨g, o, none⟩ = cs[o]? := cell_of_row w g o cs t _ h
theorem whl_frozen (h : Whl w g t cs) (o : Nat) : w.frozen? ⟨g, o, none⟩ = false := by
  unfold Whl at h
  simp [World.frozen?, h]
theorem row_alloc (w : World) (old cells : Array Value) (t : TypeId) (hH : w.heap.size = H) : (w.alloc (.cells old t)).setRow H cells = w.alloc (.cells cells t) := by
  subst hH
  unfold World.setRow World.alloc
  congr 1
  apply Array.ext_getElem?
  intro i
  simp only [Array.getElem?_modify, Array.getElem?_push]
  by_cases hi : i = w.heap.size
  · subst hi; simp
  · simp [hi, Ne.symm hi]
end
section
variable {P : Program} {ops : Array Oper} {rest : List Oper} {o : Oper} {a : Act} {w : World} {Q : Exit → Act → World → Prop}
theorem wpList_load_whl (hgd : o.guard = none) (ty : TypeId) (x : Operand) (ho : o.op = .load ty x) (g : Nat) (t : TypeId) (cs : Array Value) (hx : a.eval x = .pointer (some ⟨g, 0, none⟩)) (hg : Whl w g t cs)
    (d : TypeDesc) (hu : P.underlying ty = some d) (hd : (match d with | .struct _ | .array _ _ => true | _ => false) = true) (hi : (P.info? ty).map (·.size) = some cs.size)
    (h : wpList P ops Q rest (a.put o.dst (.agg cs)) w) : wpList P ops Q (o :: rest) a w :=
  wpList_load_row hgd ty x ho g hx t cs (0, 0) d hg hu hd hi h
theorem wpList_store_whl (hgd : o.guard = none) (ty : TypeId) (x y : Operand) (ho : o.op = .store ty x y) (g : Nat) (t : TypeId) (old cells : Array Value) (hx : a.eval x = .pointer (some ⟨g, 0, none⟩)) (hy : a.eval y = .agg cells) (hg : Whl w g t old)
    (hi : (P.info? ty).map (·.size) = some cells.size) (hold : old.size = cells.size) (h1 : cells.all (·.oneCell') = true)
    (h : wpList P ops Q rest (a.put o.dst undef) (w.setRow g cells)) : wpList P ops Q (o :: rest) a w :=
  wpList_store_row hgd ty x y ho g cells hx hy t old hg hi hold h1 h
theorem wpList_store_new {w0 : World} (hgd : o.guard = none) (ty : TypeId) (x y : Operand) (ho : o.op = .store ty x y) (g : Nat) (t : TypeId) (old cells : Array Value) (hw : w = w0.alloc (.cells old t)) (hz : w0.heap.size = g) (hx : a.eval x = .pointer (some ⟨g, 0, none⟩)) (hy : a.eval y = .agg cells)
    (hi : (P.info? ty).map (·.size) = some cells.size) (hold : old.size = cells.size) (h1 : cells.all (·.oneCell') = true)
    (h : wpList P ops Q rest (a.put o.dst undef) (w0.alloc (.cells cells t))) : wpList P ops Q (o :: rest) a w := by
  subst hw
  refine wpList_store_row hgd ty x y ho g cells hx hy t old (whl_new w0 old t hz) hi hold h1 ?_
  rw [row_alloc w0 old cells t hz]
  exact h
end
end

section
section
variable {P : Program} {ops : Array Oper} {Q : Exit → Act → World → Prop} {a : Act} {w : World} {K : Act → World → Prop} {i : Nat} {o : Oper}
end
end
end Go.Proofs.Ytbopdijnojaaiac
