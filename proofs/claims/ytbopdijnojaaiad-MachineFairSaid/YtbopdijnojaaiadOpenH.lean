/- How a hart comes in as an argument. No statement of the seat is proved here. -/
import Derived.Test.YtbopdijnojaaiadOpenB
import Derived.Test.YtbopdijnojaaiadHartP
namespace Go.Proofs.Ytbopdijnojaaiad
open Go.RowKit
set_option linter.unusedSimpArgs false
set_option linter.unusedVariables false

section
open Go.ChangeShapes Go.WideShapes Go.ChangeAt
theorem Try.cHart : Try.prog.cellsOf 26 = 3 := by kernel_rfl
section
variable {H : Type} {enc : TypeId × Value → H} {w : World} {base : Nat} {spare : Nat → Bool} {held : Bool} {fuel : Nat} {cs : List Value} {x : DataW H × List MemPlace}
set_option maxRecDepth 100000 in
theorem trod_hart (h : DataW.trod enc Try.prog w base (fun _ => true) held fuel 26 cs = some x) : ∃ (g : Hrt) (A : Option Addr) (n c : Nat), cs = (#[.int .i64 g.at_, .slice A n c, .bool g.done] : Array Value).toList ∧ Ints w w.heap.size A n g.regs := by
  obtain ⟨hl, n, hf⟩ := trod_field Try.underlying26 h
  rw [Try.cHart] at hl
  match cs, hl with
  | [c0, c1, c2], _ =>
    obtain ⟨y0, h0⟩ := hf 0 _ rfl
    obtain ⟨y1, h1⟩ := hf 1 _ rfl
    obtain ⟨y2, h2⟩ := hf 2 _ rfl
    obtain ⟨at_, rfl⟩ := trod_int1 Try.underlying3 (by simpa [Try.c3] using h0)
    obtain ⟨A, m, c, xs, e1, hI⟩ := trod_ints (by simpa [Try.cInts] using h1)
    obtain ⟨dn, rfl⟩ := trod_bool1 Try.underlying4 (by simpa [Try.c4] using h2)
    obtain rfl : c1 = .slice A m c := by simpa using e1
    exact ⟨⟨at_, xs, dn⟩, A, m, c, rfl, hI⟩
end
end
end Go.Proofs.Ytbopdijnojaaiad
