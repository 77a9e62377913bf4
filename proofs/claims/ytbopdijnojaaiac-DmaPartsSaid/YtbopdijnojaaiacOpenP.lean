/- How a happening, happenings come in as arguments. No statement of the seat is proved here. -/
import Derived.Test.YtbopdijnojaaiacOpenB
import Derived.Test.YtbopdijnojaaiacDmaP
import Derived.Test.YtbopdijnojaaiacHaps
namespace Go.Proofs.Ytbopdijnojaaiac
open Go.RowKit
set_option linter.unusedSimpArgs false
set_option linter.unusedVariables false

section
section
open Go.ChangeShapes Go.WideShapes Go.ChangeAt
theorem Try.cAsk : Try.prog.cellsOf 62 = 5 := by kernel_rfl
section
variable {H : Type} {enc : TypeId × Value → H} {w : World} {base : Nat} {spare : Nat → Bool} {held : Bool} {fuel : Nat} {cs : List Value} {x : DataW H × List MemPlace}
set_option maxRecDepth 100000 in
theorem trod_ask (h : DataW.trod enc Try.prog w base (fun _ => true) held fuel 62 cs = some x) : ∃ (a : Ask) (D : Option Addr) (n c : Nat), cs = (#[.int .i64 a.dev, .int .i64 a.at_, .int .i64 a.count, .bool a.wr, .slice D n c] : Array Value).toList ∧ Ints w w.heap.size D n a.data := by
  obtain ⟨hl, n, hf⟩ := trod_field Try.underlying62 h
  rw [Try.cAsk] at hl
  match cs, hl with
  | [c0, c1, c2, c3, c4], _ =>
    obtain ⟨y0, h0⟩ := hf 0 _ rfl
    obtain ⟨y1, h1⟩ := hf 1 _ rfl
    obtain ⟨y2, h2⟩ := hf 2 _ rfl
    obtain ⟨y3, h3⟩ := hf 3 _ rfl
    obtain ⟨y4, h4⟩ := hf 4 _ rfl
    obtain ⟨dv, rfl⟩ := trod_int1 Try.underlying3 (by simpa [Try.c3] using h0)
    obtain ⟨at_, rfl⟩ := trod_int1 Try.underlying3 (by simpa [Try.c3] using h1)
    obtain ⟨ct, rfl⟩ := trod_int1 Try.underlying3 (by simpa [Try.c3] using h2)
    obtain ⟨wr, rfl⟩ := trod_bool1 Try.underlying4 (by simpa [Try.c4] using h3)
    obtain ⟨D, m, c, xs, e4, hD⟩ := trod_ints (by simpa [Try.cInts] using h4)
    obtain rfl : c4 = .slice D m c := by simpa using e4
    exact ⟨⟨dv, at_, ct, wr, xs⟩, D, m, c, rfl, hD⟩
end
end
end

section
section
open Go.ChangeShapes Go.WideShapes Go.ChangeAt
section
variable {H : Type} {enc : TypeId × Value → H} {w : World} {base : Nat} {spare : Nat → Bool} {held : Bool} {fuel : Nat} {cs : List Value} {x : DataW H × List MemPlace}
end
end
end
end Go.Proofs.Ytbopdijnojaaiac
