/- How this seat's arguments lie in memory: a value that reads as data of one of the program's types is of that type's shape. No statement of the seat is proved here. -/
import Derived.Test.YtbopdijnojaaiabLaw
import Derived.Deep.Slices
namespace Go.Proofs.Ytbopdijnojaaiab
open Go.RowKit
set_option linter.unusedSimpArgs false
set_option linter.unusedVariables false
open Go.ChangeShapes Go.WideShapes Go.ChangeAt

section
variable {H : Type} {enc : TypeId × Value → H} {P : Program} {w : World} {base : Nat} {spare : Nat → Bool} {held : Bool}

theorem trod_field {t : TypeId} {fs : Array Field} {fuel : Nat} {cs : List Value} {x : DataW H × List MemPlace} (ht : P.underlying t = some (.struct fs)) (h : DataW.trod enc P w base spare held fuel t cs = some x) :
    cs.length = P.cellsOf t ∧ ∃ n, ∀ (i : Nat) (f : Field), fs[i]? = some f → ∃ y, DataW.trod enc P w base spare held n f.type ((cs.drop f.offset).take (P.cellsOf f.type)) = some y := by
  obtain ⟨xs, n, _, _, hl, hx, hf⟩ := DataW.trod_struct ht h
  refine ⟨hl, n, fun i f hi => ?_⟩
  have hlt : i < fs.size := (Array.getElem?_eq_some_iff.1 hi).1
  exact ⟨xs[i]'(by omega), by rw [hf i f hi]; exact List.getElem?_eq_getElem (by omega)⟩

theorem trod_int1 {t : TypeId} {k : IntKind} {fuel : Nat} {c : Value} {x : DataW H × List MemPlace} (ht : P.underlying t = some (.int k)) (h : DataW.trod enc P w base spare held fuel t [c] = some x) : ∃ a, c = .int k a := by
  obtain ⟨a, e, _⟩ := DataW.trod_int ht h
  exact ⟨a, by simpa using e⟩
theorem trod_bool1 {t : TypeId} {fuel : Nat} {c : Value} {x : DataW H × List MemPlace} (ht : P.underlying t = some .bool) (h : DataW.trod enc P w base spare held fuel t [c] = some x) : ∃ b, c = .bool b := by
  obtain ⟨b, e, _⟩ := DataW.trod_bool ht h
  exact ⟨b, by simpa using e⟩
end

theorem Try.c3 : Try.prog.cellsOf 3 = 1 := by kernel_rfl
theorem Try.c4 : Try.prog.cellsOf 4 = 1 := by kernel_rfl

section
variable {H : Type} {enc : TypeId × Value → H} {w : World} {base : Nat} {spare : Nat → Bool} {held : Bool} {fuel : Nat} {cs : List Value} {x : DataW H × List MemPlace}
theorem Try.cells_ins : Try.prog.cellsOf 144 = 4 := by kernel_rfl
set_option maxRecDepth 100000 in
theorem trod_ins (h : DataW.trod enc Try.prog w base spare held fuel 144 cs = some x) : ∃ (k : Int) (a : Int) (b : Int) (m : Int), cs = [.int .i64 k, .int .i64 a, .int .i64 b, .int .i64 m] := by
  obtain ⟨hl, n, hf⟩ := trod_field Try.underlying144 h
  rw [Try.cells_ins] at hl
  match cs, hl with
  | [c0, c1, c2, c3], _ =>
    obtain ⟨y0, h0⟩ := hf 0 _ rfl
    obtain ⟨k, rfl⟩ := trod_int1 Try.underlying3 (by simpa [Try.c3] using h0)
    obtain ⟨y1, h1⟩ := hf 1 _ rfl
    obtain ⟨a, rfl⟩ := trod_int1 Try.underlying3 (by simpa [Try.c3] using h1)
    obtain ⟨y2, h2⟩ := hf 2 _ rfl
    obtain ⟨b, rfl⟩ := trod_int1 Try.underlying3 (by simpa [Try.c3] using h2)
    obtain ⟨y3, h3⟩ := hf 3 _ rfl
    obtain ⟨m, rfl⟩ := trod_int1 Try.underlying3 (by simpa [Try.c3] using h3)
    exact ⟨k, a, b, m, rfl⟩
theorem Try.cells_order : Try.prog.cellsOf 44 = 3 := by kernel_rfl
set_option maxRecDepth 100000 in
theorem trod_order (h : DataW.trod enc Try.prog w base spare held fuel 44 cs = some x) : ∃ (k : Int) (d : Int) (p : Int), cs = [.int .i64 k, .int .i64 d, .int .i64 p] := by
  obtain ⟨hl, n, hf⟩ := trod_field Try.underlying44 h
  rw [Try.cells_order] at hl
  match cs, hl with
  | [c0, c1, c2], _ =>
    obtain ⟨y0, h0⟩ := hf 0 _ rfl
    obtain ⟨k, rfl⟩ := trod_int1 Try.underlying3 (by simpa [Try.c3] using h0)
    obtain ⟨y1, h1⟩ := hf 1 _ rfl
    obtain ⟨d, rfl⟩ := trod_int1 Try.underlying3 (by simpa [Try.c3] using h1)
    obtain ⟨y2, h2⟩ := hf 2 _ rfl
    obtain ⟨p, rfl⟩ := trod_int1 Try.underlying3 (by simpa [Try.c3] using h2)
    exact ⟨k, d, p, rfl⟩
theorem Try.cells_fault : Try.prog.cellsOf 181 = 4 := by kernel_rfl
set_option maxRecDepth 100000 in
theorem trod_fault (h : DataW.trod enc Try.prog w base spare held fuel 181 cs = some x) : ∃ (c : Int) (d : Int) (p : Int) (r : Bool), cs = [.int .i64 c, .int .i64 d, .int .i64 p, .bool r] := by
  obtain ⟨hl, n, hf⟩ := trod_field Try.underlying181 h
  rw [Try.cells_fault] at hl
  match cs, hl with
  | [c0, c1, c2, c3], _ =>
    obtain ⟨y0, h0⟩ := hf 0 _ rfl
    obtain ⟨c, rfl⟩ := trod_int1 Try.underlying3 (by simpa [Try.c3] using h0)
    obtain ⟨y1, h1⟩ := hf 1 _ rfl
    obtain ⟨d, rfl⟩ := trod_int1 Try.underlying3 (by simpa [Try.c3] using h1)
    obtain ⟨y2, h2⟩ := hf 2 _ rfl
    obtain ⟨p, rfl⟩ := trod_int1 Try.underlying3 (by simpa [Try.c3] using h2)
    obtain ⟨y3, h3⟩ := hf 3 _ rfl
    obtain ⟨r, rfl⟩ := trod_bool1 Try.underlying4 (by simpa [Try.c4] using h3)
    exact ⟨c, d, p, r, rfl⟩
theorem Try.cells_entry : Try.prog.cellsOf 75 = 5 := by kernel_rfl
set_option maxRecDepth 100000 in
theorem trod_entry (h : DataW.trod enc Try.prog w base spare held fuel 75 cs = some x) : ∃ (v : Bool) (r : Bool) (u : Bool) (l : Bool) (p : Int), cs = [.bool v, .bool r, .bool u, .bool l, .int .i64 p] := by
  obtain ⟨hl, n, hf⟩ := trod_field Try.underlying75 h
  rw [Try.cells_entry] at hl
  match cs, hl with
  | [c0, c1, c2, c3, c4], _ =>
    obtain ⟨y0, h0⟩ := hf 0 _ rfl
    obtain ⟨v, rfl⟩ := trod_bool1 Try.underlying4 (by simpa [Try.c4] using h0)
    obtain ⟨y1, h1⟩ := hf 1 _ rfl
    obtain ⟨r, rfl⟩ := trod_bool1 Try.underlying4 (by simpa [Try.c4] using h1)
    obtain ⟨y2, h2⟩ := hf 2 _ rfl
    obtain ⟨u, rfl⟩ := trod_bool1 Try.underlying4 (by simpa [Try.c4] using h2)
    obtain ⟨y3, h3⟩ := hf 3 _ rfl
    obtain ⟨l, rfl⟩ := trod_bool1 Try.underlying4 (by simpa [Try.c4] using h3)
    obtain ⟨y4, h4⟩ := hf 4 _ rfl
    obtain ⟨p, rfl⟩ := trod_int1 Try.underlying3 (by simpa [Try.c3] using h4)
    exact ⟨v, r, u, l, p, rfl⟩
theorem Try.cells_context : Try.prog.cellsOf 156 = 3 := by kernel_rfl
set_option maxRecDepth 100000 in
theorem trod_context (h : DataW.trod enc Try.prog w base spare held fuel 156 cs = some x) : ∃ (v : Bool) (p : Bool) (r : Int), cs = [.bool v, .bool p, .int .i64 r] := by
  obtain ⟨hl, n, hf⟩ := trod_field Try.underlying156 h
  rw [Try.cells_context] at hl
  match cs, hl with
  | [c0, c1, c2], _ =>
    obtain ⟨y0, h0⟩ := hf 0 _ rfl
    obtain ⟨v, rfl⟩ := trod_bool1 Try.underlying4 (by simpa [Try.c4] using h0)
    obtain ⟨y1, h1⟩ := hf 1 _ rfl
    obtain ⟨p, rfl⟩ := trod_bool1 Try.underlying4 (by simpa [Try.c4] using h1)
    obtain ⟨y2, h2⟩ := hf 2 _ rfl
    obtain ⟨r, rfl⟩ := trod_int1 Try.underlying3 (by simpa [Try.c3] using h2)
    exact ⟨v, p, r, rfl⟩
end

section
variable {H : Type} {enc : TypeId × Value → H} {P : Program} {w : World} {base : Nat} {spare : Nat → Bool} {held : Bool}
theorem open_cells {r : Reach} {b0 : Nat} {t : TypeId} {fs : Array Field} {v : Value} {d : DataW H} {p : List MemPlace} (hs : P.underlying t = some (.struct fs))
    (hv : Value.okWide P w r b0 t v) (h : DataW.Trod enc P w base spare held t v d p) : ∃ cs n, v = .agg cs ∧ DataW.trod enc P w base spare held n t cs.toList = some (d, p) := by
  obtain ⟨cs, rfl, _⟩ := okWide_struct hs hv
  obtain ⟨n, hn⟩ := h
  exact ⟨cs, n, rfl, hn⟩
end
end Go.Proofs.Ytbopdijnojaaiab
