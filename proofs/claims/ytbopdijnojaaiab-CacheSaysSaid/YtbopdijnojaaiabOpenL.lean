/- How lines by themselves, and an order, come in as arguments. No statement of the seat is proved here. -/
import Derived.Test.YtbopdijnojaaiabOpenB
namespace Go.Proofs.Ytbopdijnojaaiab
open Go.RowKit
set_option linter.unusedSimpArgs false
set_option linter.unusedVariables false
open Go.ChangeShapes Go.WideShapes Go.ChangeAt

section
variable {H : Type} {enc : TypeId × Value → H} {w : World} {base : Nat} {spare : Nat → Bool} {held : Bool} {fuel : Nat} {cs : List Value} {x : DataW H × List MemPlace}
set_option maxRecDepth 100000 in
theorem trod_orderW (h : DataW.trod enc Try.prog w base spare held fuel 44 cs = some x) : ∃ (k : Int) (d : Int) (p : Int), cs = [.int .i64 k, .int .i64 d, .int .i64 p] ∧ (Lit.int .i64 k).wf = true := by
  obtain ⟨k, d, p, e⟩ := trod_order h
  refine ⟨k, d, p, e, ?_⟩
  obtain ⟨hl, n, hf⟩ := trod_field Try.underlying44 h
  subst e
  obtain ⟨y, hy⟩ := hf 0 _ rfl
  obtain ⟨a, e, _, hw⟩ := DataW.trod_int Try.underlying3 (by simpa [Try.c3] using hy)
  have e' : k = a := by simpa using e
  subst e'
  exact hw
end
set_option maxRecDepth 100000 in
theorem open_order {H : Type} {enc : TypeId × Value → H} {W : World} {b0 : Nat} {v : Value} {d : DataW H} {p : List MemPlace} (hv : Value.okWide Try.prog W .any b0 44 v) (h : DataW.Trod enc Try.prog W 0 (fun _ => true) true 44 v d p) :
    ∃ k d p, v = .agg #[.int .i64 k, .int .i64 d, .int .i64 p] ∧ (Lit.int .i64 k).wf = true := by
  obtain ⟨cs, n, rfl, g⟩ := open_cells Try.underlying44 hv h
  obtain ⟨k, d, p, e, hi⟩ := trod_orderW g
  obtain ⟨cs⟩ := cs
  simp only [] at e
  subst e
  exact ⟨k, d, p, rfl, hi⟩
set_option maxRecDepth 100000 in
theorem open_lines {H : Type} {enc : TypeId × Value → H} {W : World} {b0 : Nat} {v : Value} {d : DataW H} {p : List MemPlace} (hv : Value.okWide Try.prog W .any b0 40 v) (h : DataW.Trod enc Try.prog W 0 (fun _ => true) true 40 v d p) :
    ∃ A n c ls, v = .slice A n c ∧ Lines W W.heap.size A n c ls := by
  obtain ⟨a, len, cap, rfl⟩ := okWide_slice Try.underlying40 hv
  obtain ⟨n, h⟩ := h
  obtain ⟨A, n, c, ls, e, hL⟩ := trod_lines h
  simp only [Value.cells, List.cons.injEq, and_true] at e
  exact ⟨A, n, c, ls, e, hL⟩

end Go.Proofs.Ytbopdijnojaaiab
