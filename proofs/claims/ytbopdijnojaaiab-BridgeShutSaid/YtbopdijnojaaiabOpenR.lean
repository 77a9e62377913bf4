/- How a ring comes in as an argument. No statement of the seat is proved here. -/
import Derived.Test.YtbopdijnojaaiabOpen
namespace Go.Proofs.Ytbopdijnojaaiab
open Go.RowKit
set_option linter.unusedSimpArgs false
set_option linter.unusedVariables false
open Go.ChangeShapes Go.WideShapes Go.ChangeAt

section
variable {H : Type} {enc : TypeId × Value → H} {w : World} {base : Nat} {spare : Nat → Bool} {held : Bool} {fuel : Nat} {cs : List Value} {x : DataW H × List MemPlace}
theorem Try.cells_ring : Try.prog.cellsOf 26 = 3 := by kernel_rfl
set_option maxRecDepth 100000 in
theorem trod_ring (h : DataW.trod enc Try.prog w base spare held fuel 26 cs = some x) : ∃ (p : Int) (g : Int) (t : Int), cs = [.int .i64 p, .int .i64 g, .int .i64 t] := by
  obtain ⟨hl, n, hf⟩ := trod_field Try.underlying26 h
  rw [Try.cells_ring] at hl
  match cs, hl with
  | [c0, c1, c2], _ =>
    obtain ⟨y0, h0⟩ := hf 0 _ rfl
    obtain ⟨p, rfl⟩ := trod_int1 Try.underlying3 (by simpa [Try.c3] using h0)
    obtain ⟨y1, h1⟩ := hf 1 _ rfl
    obtain ⟨g, rfl⟩ := trod_int1 Try.underlying3 (by simpa [Try.c3] using h1)
    obtain ⟨y2, h2⟩ := hf 2 _ rfl
    obtain ⟨t, rfl⟩ := trod_int1 Try.underlying3 (by simpa [Try.c3] using h2)
    exact ⟨p, g, t, rfl⟩
end
end Go.Proofs.Ytbopdijnojaaiab
