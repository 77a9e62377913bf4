/- How a machine, machines, and a touch come in as arguments. No statement of the seat is proved here. -/
import Derived.Test.YtbopdijnojaaiacOpenH
import Derived.Test.YtbopdijnojaaiacMachs
namespace Go.Proofs.Ytbopdijnojaaiac
open Go.RowKit
set_option linter.unusedSimpArgs false
set_option linter.unusedVariables false

section
open Go.ChangeShapes Go.WideShapes Go.ChangeAt
theorem Try.cMach : Try.prog.cellsOf 39 = 16 := by kernel_rfl
section
variable {H : Type} {enc : TypeId × Value → H} {w : World} {base : Nat} {spare : Nat → Bool} {held : Bool} {fuel : Nat} {cs : List Value} {x : DataW H × List MemPlace}
theorem Try.cells_touch : Try.prog.cellsOf 24 = 5 := by kernel_rfl
set_option maxRecDepth 100000 in
theorem trod_touch (h : DataW.trod enc Try.prog w base spare held fuel 24 cs = some x) : ∃ (d : Int) (s : Int) (a : Int) (r : Bool) (v : Int), cs = [.int .i64 d, .int .i64 s, .int .i64 a, .bool r, .int .i64 v] := by
  obtain ⟨hl, n, hf⟩ := trod_field Try.underlying24 h
  rw [Try.cells_touch] at hl
  match cs, hl with
  | [c0, c1, c2, c3, c4], _ =>
    obtain ⟨y0, h0⟩ := hf 0 _ rfl
    obtain ⟨d, rfl⟩ := trod_int1 Try.underlying3 (by simpa [Try.c3] using h0)
    obtain ⟨y1, h1⟩ := hf 1 _ rfl
    obtain ⟨s, rfl⟩ := trod_int1 Try.underlying3 (by simpa [Try.c3] using h1)
    obtain ⟨y2, h2⟩ := hf 2 _ rfl
    obtain ⟨a, rfl⟩ := trod_int1 Try.underlying3 (by simpa [Try.c3] using h2)
    obtain ⟨y3, h3⟩ := hf 3 _ rfl
    obtain ⟨r, rfl⟩ := trod_bool1 Try.underlying4 (by simpa [Try.c4] using h3)
    obtain ⟨y4, h4⟩ := hf 4 _ rfl
    obtain ⟨v, rfl⟩ := trod_int1 Try.underlying3 (by simpa [Try.c3] using h4)
    exact ⟨d, s, a, r, v, rfl⟩
set_option maxRecDepth 100000 in
theorem trod_machine (h : DataW.trod enc Try.prog w base (fun _ => true) held fuel 39 cs = some x) : ∃ (y : Mch) (M R L : Option Addr) (nm mc nr rc n c : Nat), cs = (#[.slice M nm mc, .int .i64 y.h.at_, .slice R nr rc, .bool y.h.done, .int .i64 y.b.mode, .int .i64 y.b.base, .slice L n c, .int .i64 y.b.orders.page, .int .i64 y.b.orders.head, .int .i64 y.b.orders.tail, .bool y.b.stopped, .int .i64 y.b.fences, .int .i64 y.b.faults.page, .int .i64 y.b.faults.head, .int .i64 y.b.faults.tail, .bool y.b.lost] : Array Value).toList ∧ Ints w w.heap.size M nm y.m ∧ Ints w w.heap.size R nr y.h.regs ∧ Lines w w.heap.size L n c y.b.cache := by
  obtain ⟨hl, n, hf⟩ := trod_field Try.underlying39 h
  rw [Try.cMach] at hl
  match cs, hl with
  | [c0, c1, c2, c3, c4, c5, c6, c7, c8, c9, c10, c11, c12, c13, c14, c15], _ =>
    obtain ⟨y0, h0⟩ := hf 0 _ rfl
    obtain ⟨y1, h1⟩ := hf 1 _ rfl
    obtain ⟨y2, h2⟩ := hf 2 _ rfl
    obtain ⟨M, nm, mc, xs, e0, hM⟩ := trod_mem (by simpa [Try.cMem] using h0)
    obtain ⟨g, R, nr, rc, e1, hR⟩ := trod_hart (by simpa [Try.cHart] using h1)
    obtain ⟨b, L, m, c, e2, hL⟩ := trod_bridge (by simpa [Try.cBrg] using h2)
    obtain rfl : c0 = .slice M nm mc := by simpa using e0
    obtain ⟨rfl, rfl, rfl⟩ : c1 = .int .i64 g.at_ ∧ c2 = .slice R nr rc ∧ c3 = .bool g.done := by simpa using e1
    obtain ⟨rfl, rfl, rfl, rfl, rfl, rfl, rfl, rfl, rfl, rfl, rfl, rfl⟩ : c4 = .int .i64 b.mode ∧ c5 = .int .i64 b.base ∧ c6 = .slice L m c ∧ c7 = .int .i64 b.orders.page ∧ c8 = .int .i64 b.orders.head ∧ c9 = .int .i64 b.orders.tail ∧ c10 = .bool b.stopped ∧ c11 = .int .i64 b.fences ∧ c12 = .int .i64 b.faults.page ∧ c13 = .int .i64 b.faults.head ∧ c14 = .int .i64 b.faults.tail ∧ c15 = .bool b.lost := by simpa using e2
    exact ⟨⟨xs, g, b⟩, M, R, L, nm, mc, nr, rc, m, c, rfl, hM, hR, hL⟩
set_option maxRecDepth 100000 in
theorem Try.cMachs : Try.prog.cellsOf 22 = 1 := by kernel_rfl
theorem mach_cells {P : Nat → Option Value} {a : Array Value} {b o : Nat} (h : ∀ j, j < a.size → P (o + j) = a[j]?) (hz : a.size = 16) {v0 v1 v2 v3 v4 v5 v6 v7 v8 v9 v10 v11 v12 v13 v14 v15 : Value} (e : a = #[v0, v1, v2, v3, v4, v5, v6, v7, v8, v9, v10, v11, v12, v13, v14, v15]) :
    P o = some v0 ∧ P (o + 1) = some v1 ∧ P (o + 2) = some v2 ∧ P (o + 3) = some v3 ∧ P (o + 4) = some v4 ∧ P (o + 5) = some v5 ∧ P (o + 6) = some v6 ∧ P (o + 7) = some v7 ∧ P (o + 8) = some v8 ∧ P (o + 9) = some v9 ∧ P (o + 10) = some v10 ∧ P (o + 11) = some v11 ∧ P (o + 12) = some v12 ∧ P (o + 13) = some v13 ∧ P (o + 14) = some v14 ∧ P (o + 15) = some v15 := by
  subst e
  exact ⟨h 0 (by simp), h 1 (by simp), h 2 (by simp), h 3 (by simp), h 4 (by simp), h 5 (by simp), h 6 (by simp), h 7 (by simp), h 8 (by simp), h 9 (by simp), h 10 (by simp), h 11 (by simp), h 12 (by simp), h 13 (by simp), h 14 (by simp), h 15 (by simp)⟩
set_option maxRecDepth 100000 in
theorem trod_machs (h : DataW.trod enc Try.prog w base (fun _ => true) held fuel 22 cs = some x) : ∃ A n c ms, cs = [.slice A n c] ∧ Machs w w.heap.size A n c ms := by
  rcases DataW.trod_slice Try.underlying22 h with ⟨hcs, _⟩ | ⟨a, len, cap, elems, rest, n, _, hcs, _, hb, hl, hm, he, hel, _⟩
  · exact ⟨none, 0, 0, [], hcs, machs_none _ _⟩
  · obtain ⟨ms, hlen, hms⟩ := exists_list (α := Mch) (P := fun i y => ∃ (M R L : Option Addr) (nm mc nr rc n c : Nat), (∀ j, j < 16 → w.cell? ((a.add (i * 16)).add j) = (#[.slice M nm mc, .int .i64 y.h.at_, .slice R nr rc, .bool y.h.done, .int .i64 y.b.mode, .int .i64 y.b.base, .slice L n c, .int .i64 y.b.orders.page, .int .i64 y.b.orders.head, .int .i64 y.b.orders.tail, .bool y.b.stopped, .int .i64 y.b.fences, .int .i64 y.b.faults.page, .int .i64 y.b.faults.head, .int .i64 y.b.faults.tail, .bool y.b.lost] : Array Value).toList[j]?) ∧ Ints w w.heap.size M nm y.m ∧ Ints w w.heap.size R nr y.h.regs ∧ Lines w w.heap.size L n c y.b.cache) len (fun i hi => by
      have h1 := hel i hi
      rw [Try.cMach, List.getElem?_eq_getElem (by omega), Option.bind_eq_some_iff] at h1
      obtain ⟨cs', h2, h3⟩ := h1
      obtain ⟨y, M, R, L, nm, mc, nr, rc, m, c, e, hM, hR, hL⟩ := trod_machine h3
      obtain ⟨_, _, hc⟩ := World.cells?_some h2
      subst e
      exact ⟨y, M, R, L, nm, mc, nr, rc, m, c, hc, hM, hR, hL⟩)
    refine ⟨some a, len, cap, ms, hcs, hlen, hl, hm, fun h0 => ?_⟩
    obtain ⟨y, hy⟩ := some_of_lt ms (k := 0) (by omega)
    obtain ⟨M, R, L, nm, mc, nr, rc, m, c, hc0, _⟩ := hms 0 y hy
    have hc0 := hc0 0 (by decide)
    obtain ⟨b, off, spot⟩ := a
    have hspot : spot = none := by
      have := hc0
      simp only [List.getElem?_cons_zero] at this
      simpa [Addr.add] using World.cell?_spot this
    subst hspot
    refine ⟨b, off, rfl, ?_, fun k z hz => ?_⟩
    · have := cell_lt hc0
      simpa [Addr.add] using this
    · obtain ⟨M, R, L, nm, mc, nr, rc, m, c, hc, hM, hR, hL⟩ := hms k z hz
      have hq := fun j (hj : j < 16) => (congrArg w.cell? (show (⟨b, off + k * 16 + j, none⟩ : Addr) = ((⟨b, off, none⟩ : Addr).add (k * 16)).add j by rw [Go.WideShapes.add_plain, Go.WideShapes.add_plain])).trans (hc j hj)
      exact ⟨M, nm, mc, R, nr, rc, L, m, c, ⟨hq 0 (by decide), hq 1 (by decide), hq 2 (by decide), hq 3 (by decide), hq 4 (by decide), hq 5 (by decide), hq 6 (by decide), hq 7 (by decide), hq 8 (by decide), hq 9 (by decide), hq 10 (by decide), hq 11 (by decide), hq 12 (by decide), hq 13 (by decide), hq 14 (by decide), hq 15 (by decide)⟩, hM, hR, hL⟩
end
set_option maxRecDepth 100000 in
theorem open_machine {H : Type} {enc : TypeId × Value → H} {W : World} {b0 : Nat} {v : Value} {d : DataW H} {p : List MemPlace} (hv : Value.okWide Try.prog W .any b0 39 v) (h : DataW.Trod enc Try.prog W 0 (fun _ => true) true 39 v d p) :
    ∃ (y : Mch) (M R L : Option Addr) (nm mc nr rc n c : Nat), v = .agg #[.slice M nm mc, .int .i64 y.h.at_, .slice R nr rc, .bool y.h.done, .int .i64 y.b.mode, .int .i64 y.b.base, .slice L n c, .int .i64 y.b.orders.page, .int .i64 y.b.orders.head, .int .i64 y.b.orders.tail, .bool y.b.stopped, .int .i64 y.b.fences, .int .i64 y.b.faults.page, .int .i64 y.b.faults.head, .int .i64 y.b.faults.tail, .bool y.b.lost] ∧ Ints W W.heap.size M nm y.m ∧ Ints W W.heap.size R nr y.h.regs ∧ Lines W W.heap.size L n c y.b.cache := by
  obtain ⟨cs, n, rfl, g⟩ := open_cells Try.underlying39 hv h
  obtain ⟨y, M, R, L, nm, mc, nr, rc, m, c, e, hM, hR, hL⟩ := trod_machine g
  obtain ⟨cs⟩ := cs
  simp only [] at e
  subst e
  exact ⟨y, M, R, L, nm, mc, nr, rc, m, c, rfl, hM, hR, hL⟩
set_option maxRecDepth 100000 in
theorem open_machs {H : Type} {enc : TypeId × Value → H} {W : World} {b0 : Nat} {v : Value} {d : DataW H} {p : List MemPlace} (hv : Value.okWide Try.prog W .any b0 22 v) (h : DataW.Trod enc Try.prog W 0 (fun _ => true) true 22 v d p) :
    ∃ A n c ms, v = .slice A n c ∧ Machs W W.heap.size A n c ms := by
  obtain ⟨a, len, cap, rfl⟩ := okWide_slice Try.underlying22 hv
  obtain ⟨n, h⟩ := h
  obtain ⟨A, n, c, ls, e, hL⟩ := trod_machs h
  simp only [Value.cells, List.cons.injEq, and_true] at e
  exact ⟨A, n, c, ls, e, hL⟩
end
end Go.Proofs.Ytbopdijnojaaiac
