/- How a happening, happenings come in as arguments. No statement of the seat is proved here. -/
import Derived.Test.YtbopdijnojaaiadOpenB
import Derived.Test.YtbopdijnojaaiadDmaP
import Derived.Test.YtbopdijnojaaiadHaps
namespace Go.Proofs.Ytbopdijnojaaiad
open Go.RowKit
set_option linter.unusedSimpArgs false
set_option linter.unusedVariables false

section
section
open Go.ChangeShapes Go.WideShapes Go.ChangeAt
theorem Try.cAsk : Try.prog.cellsOf 35 = 5 := by kernel_rfl
section
variable {H : Type} {enc : TypeId × Value → H} {w : World} {base : Nat} {spare : Nat → Bool} {held : Bool} {fuel : Nat} {cs : List Value} {x : DataW H × List MemPlace}
set_option maxRecDepth 100000 in
theorem trod_ask (h : DataW.trod enc Try.prog w base (fun _ => true) held fuel 35 cs = some x) : ∃ (a : Ask) (D : Option Addr) (n c : Nat), cs = (#[.int .i64 a.dev, .int .i64 a.at_, .int .i64 a.count, .bool a.wr, .slice D n c] : Array Value).toList ∧ Ints w w.heap.size D n a.data := by
  obtain ⟨hl, n, hf⟩ := trod_field Try.underlying35 h
  rw [Try.cAsk] at hl
  match cs, hl with
  | [c0, c1, c2, c3, c4], _ =>
    obtain ⟨y0, h0⟩ := hf 0 _ rfl
    obtain ⟨y1, h1⟩ := hf 1 _ rfl
    obtain ⟨y2, h2⟩ := hf 2 _ rfl
    obtain ⟨y3, h3⟩ := hf 3 _ rfl
    obtain ⟨y4, h4⟩ := hf 4 _ rfl
    obtain ⟨dv, rfl⟩ := trod_int1 Try.underlying3 (by simpa [Try.c3] using h0)
    obtain ⟨at_, rfl⟩ := trod_int1 Try.underlying3 (by simpa [Try.c3] using h1)
    obtain ⟨ct, rfl⟩ := trod_int1 Try.underlying3 (by simpa [Try.c3] using h2)
    obtain ⟨wr, rfl⟩ := trod_bool1 Try.underlying4 (by simpa [Try.c4] using h3)
    obtain ⟨D, m, c, xs, e4, hD⟩ := trod_ints (by simpa [Try.cInts] using h4)
    obtain rfl : c4 = .slice D m c := by simpa using e4
    exact ⟨⟨dv, at_, ct, wr, xs⟩, D, m, c, rfl, hD⟩
end
set_option maxRecDepth 100000 in
theorem open_ask {H : Type} {enc : TypeId × Value → H} {W : World} {b0 : Nat} {v : Value} {d : DataW H} {p : List MemPlace} (hv : Value.okWide Try.prog W .any b0 35 v) (h : DataW.Trod enc Try.prog W 0 (fun _ => true) true 35 v d p) :
    ∃ (a : Ask) (D : Option Addr) (n c : Nat), v = .agg #[.int .i64 a.dev, .int .i64 a.at_, .int .i64 a.count, .bool a.wr, .slice D n c] ∧ Ints W W.heap.size D n a.data := by
  obtain ⟨cs, n, rfl, g⟩ := open_cells Try.underlying35 hv h
  obtain ⟨a, D, m, c, e, hD⟩ := trod_ask g
  obtain ⟨cs⟩ := cs
  simp only [] at e
  subst e
  exact ⟨a, D, m, c, rfl, hD⟩
end
end

section
section
open Go.ChangeShapes Go.WideShapes Go.ChangeAt
theorem Try.cHap : Try.prog.cellsOf 46 = 7 := by kernel_rfl
section
variable {H : Type} {enc : TypeId × Value → H} {w : World} {base : Nat} {spare : Nat → Bool} {held : Bool} {fuel : Nat} {cs : List Value} {x : DataW H × List MemPlace}
set_option maxRecDepth 100000 in
theorem trod_hap (h : DataW.trod enc Try.prog w base (fun _ => true) held fuel 46 cs = some x) : ∃ (y : Hap) (D : Option Addr) (nd cd : Nat), cs = (#[.int .i64 y.kind, .int .i64 y.n, .int .i64 y.a.dev, .int .i64 y.a.at_, .int .i64 y.a.count, .bool y.a.wr, .slice D nd cd] : Array Value).toList ∧ Ints w w.heap.size D nd y.a.data := by
  obtain ⟨hl, n, hf⟩ := trod_field Try.underlying46 h
  rw [Try.cHap] at hl
  match cs, hl with
  | [c0, c1, c2, c3, c4, c5, c6], _ =>
    obtain ⟨y0, h0⟩ := hf 0 _ rfl
    obtain ⟨y1, h1⟩ := hf 1 _ rfl
    obtain ⟨y2, h2⟩ := hf 2 _ rfl
    obtain ⟨k, rfl⟩ := trod_int1 Try.underlying3 (by simpa [Try.c3] using h0)
    obtain ⟨i, rfl⟩ := trod_int1 Try.underlying3 (by simpa [Try.c3] using h1)
    obtain ⟨a, D, nd, cd, e2, hD⟩ := trod_ask (by simpa [Try.cAsk] using h2)
    obtain ⟨rfl, rfl, rfl, rfl, rfl⟩ : c2 = .int .i64 a.dev ∧ c3 = .int .i64 a.at_ ∧ c4 = .int .i64 a.count ∧ c5 = .bool a.wr ∧ c6 = .slice D nd cd := by simpa using e2
    exact ⟨⟨k, i, a⟩, D, nd, cd, rfl, hD⟩
set_option maxRecDepth 100000 in
theorem Try.cHaps : Try.prog.cellsOf 53 = 1 := by kernel_rfl
set_option maxRecDepth 100000 in
theorem trod_haps (h : DataW.trod enc Try.prog w base (fun _ => true) held fuel 53 cs = some x) : ∃ A n c hs, cs = [.slice A n c] ∧ Haps w w.heap.size A n c hs := by
  rcases DataW.trod_slice Try.underlying53 h with ⟨hcs, _⟩ | ⟨a, len, cap, elems, rest, n, _, hcs, _, hb, hl, hm, he, hel, _⟩
  · exact ⟨none, 0, 0, [], hcs, haps_none _ _⟩
  · obtain ⟨hs, hlen, hhs⟩ := exists_list (α := Hap) (P := fun i y => ∃ (D : Option Addr) (nd cd : Nat), (∀ j, j < 7 → w.cell? ((a.add (i * 7)).add j) = (#[.int .i64 y.kind, .int .i64 y.n, .int .i64 y.a.dev, .int .i64 y.a.at_, .int .i64 y.a.count, .bool y.a.wr, .slice D nd cd] : Array Value).toList[j]?) ∧ Ints w w.heap.size D nd y.a.data) len (fun i hi => by
      have h1 := hel i hi
      rw [Try.cHap, List.getElem?_eq_getElem (by omega), Option.bind_eq_some_iff] at h1
      obtain ⟨cs', h2, h3⟩ := h1
      obtain ⟨y, D, nd, cd, e, hD⟩ := trod_hap h3
      obtain ⟨_, _, hc⟩ := World.cells?_some h2
      subst e
      exact ⟨y, D, nd, cd, hc, hD⟩)
    refine ⟨some a, len, cap, hs, hcs, hlen, hl, hm, fun h0 => ?_⟩
    obtain ⟨y, hy⟩ := some_of_lt hs (k := 0) (by omega)
    obtain ⟨D, nd, cd, hc0, _⟩ := hhs 0 y hy
    have hc0 := hc0 0 (by decide)
    obtain ⟨b, off, spot⟩ := a
    have hspot : spot = none := by
      have := hc0
      simp only [List.getElem?_cons_zero] at this
      simpa [Addr.add] using World.cell?_spot this
    subst hspot
    refine ⟨b, off, rfl, ?_, fun k z hz => ?_⟩
    · have := cell_lt hc0
      simpa [Addr.add] using this
    · obtain ⟨D, nd, cd, hc, hD⟩ := hhs k z hz
      have hq := fun j (hj : j < 7) => (congrArg w.cell? (show (⟨b, off + k * 7 + j, none⟩ : Addr) = ((⟨b, off, none⟩ : Addr).add (k * 7)).add j by rw [Go.WideShapes.add_plain, Go.WideShapes.add_plain])).trans (hc j hj)
      exact ⟨D, nd, cd, ⟨hq 0 (by decide), hq 1 (by decide), hq 2 (by decide), hq 3 (by decide), hq 4 (by decide), hq 5 (by decide), hq 6 (by decide)⟩, hD⟩
end
set_option maxRecDepth 100000 in
theorem open_hap {H : Type} {enc : TypeId × Value → H} {W : World} {b0 : Nat} {v : Value} {d : DataW H} {p : List MemPlace} (hv : Value.okWide Try.prog W .any b0 46 v) (h : DataW.Trod enc Try.prog W 0 (fun _ => true) true 46 v d p) :
    ∃ (y : Hap) (D : Option Addr) (nd cd : Nat), v = .agg #[.int .i64 y.kind, .int .i64 y.n, .int .i64 y.a.dev, .int .i64 y.a.at_, .int .i64 y.a.count, .bool y.a.wr, .slice D nd cd] ∧ Ints W W.heap.size D nd y.a.data := by
  obtain ⟨cs, n, rfl, g⟩ := open_cells Try.underlying46 hv h
  obtain ⟨y, D, nd, cd, e, hD⟩ := trod_hap g
  obtain ⟨cs⟩ := cs
  simp only [] at e
  subst e
  exact ⟨y, D, nd, cd, rfl, hD⟩
set_option maxRecDepth 100000 in
theorem open_haps {H : Type} {enc : TypeId × Value → H} {W : World} {b0 : Nat} {v : Value} {d : DataW H} {p : List MemPlace} (hv : Value.okWide Try.prog W .any b0 53 v) (h : DataW.Trod enc Try.prog W 0 (fun _ => true) true 53 v d p) :
    ∃ A n c hs, v = .slice A n c ∧ Haps W W.heap.size A n c hs := by
  obtain ⟨a, len, cap, rfl⟩ := okWide_slice Try.underlying53 hv
  obtain ⟨n, h⟩ := h
  obtain ⟨A, n, c, ls, e, hL⟩ := trod_haps h
  simp only [Value.cells, List.cons.injEq, and_true] at e
  exact ⟨A, n, c, ls, e, hL⟩
end
end
end Go.Proofs.Ytbopdijnojaaiad
