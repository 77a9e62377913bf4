/- How a machine, machines, and a touch come in as arguments. No statement of the seat is proved here. -/
import Derived.Test.YtbopdijnojaaiadDmaP
import Derived.Test.YtbopdijnojaaiadOpenH
namespace Go.Proofs.Ytbopdijnojaaiad
open Go.RowKit
set_option linter.unusedSimpArgs false
set_option linter.unusedVariables false

section
/-- a machine in sixteen cells from o on. -/
def MachAt (w : World) (B b o : Nat) (x : Mch) : Prop :=
  ∃ M nm mc R nr rc L n c, (w.cell? ⟨b, o, none⟩ = some (.slice M nm mc) ∧ w.cell? ⟨b, o + 1, none⟩ = some (.int .i64 x.h.at_) ∧ w.cell? ⟨b, o + 2, none⟩ = some (.slice R nr rc) ∧ w.cell? ⟨b, o + 3, none⟩ = some (.bool x.h.done) ∧
    w.cell? ⟨b, o + 4, none⟩ = some (.int .i64 x.b.mode) ∧ w.cell? ⟨b, o + 5, none⟩ = some (.int .i64 x.b.base) ∧ w.cell? ⟨b, o + 6, none⟩ = some (.slice L n c) ∧
    w.cell? ⟨b, o + 7, none⟩ = some (.int .i64 x.b.orders.page) ∧ w.cell? ⟨b, o + 8, none⟩ = some (.int .i64 x.b.orders.head) ∧ w.cell? ⟨b, o + 9, none⟩ = some (.int .i64 x.b.orders.tail) ∧
    w.cell? ⟨b, o + 10, none⟩ = some (.bool x.b.stopped) ∧ w.cell? ⟨b, o + 11, none⟩ = some (.int .i64 x.b.fences) ∧
    w.cell? ⟨b, o + 12, none⟩ = some (.int .i64 x.b.faults.page) ∧ w.cell? ⟨b, o + 13, none⟩ = some (.int .i64 x.b.faults.head) ∧ w.cell? ⟨b, o + 14, none⟩ = some (.int .i64 x.b.faults.tail) ∧ w.cell? ⟨b, o + 15, none⟩ = some (.bool x.b.lost)) ∧
    Ints w B M nm x.m ∧ Ints w B R nr x.h.regs ∧ Lines w B L n c x.b.cache
/-- a slice of machines that reads as ms. -/
def Machs (w : World) (B : Nat) (A : Option Addr) (n c : Nat) (ms : List Mch) : Prop :=
  ms.length = n ∧ n ≤ c ∧ c ≤ maxLen ∧ (0 < n → ∃ b off, A = some ⟨b, off, none⟩ ∧ b < B ∧ ∀ k x, ms[k]? = some x → MachAt w B b (off + k * 16) x)
section
variable {w w' : World} {B B' b o n c : Nat} {A : Option Addr} {ms : List Mch} {x : Mch}
theorem MachAt.below (h : MachAt w B b o x) (hb : b < B) (hw : Below B w w') : MachAt w' B b o x := by
  obtain ⟨M, nm, mc, R, nr, rc, L, n, c, ⟨c0, c1, c2, c3, c4, c5, c6, c7, c8, c9, c10, c11, c12, c13, c14, c15⟩, h1, h2, h3⟩ := h
  have k := fun (q : Nat) => hw.cell (p := ⟨b, q, none⟩) hb
  exact ⟨M, nm, mc, R, nr, rc, L, n, c, ⟨(k _).trans c0, (k _).trans c1, (k _).trans c2, (k _).trans c3, (k _).trans c4, (k _).trans c5, (k _).trans c6, (k _).trans c7, (k _).trans c8, (k _).trans c9, (k _).trans c10, (k _).trans c11, (k _).trans c12, (k _).trans c13, (k _).trans c14, (k _).trans c15⟩, h1.below hw, h2.below hw, h3.below hw⟩
theorem MachAt.more (h : MachAt w B b o x) (hB : B ≤ B') : MachAt w B' b o x := by
  obtain ⟨M, nm, mc, R, nr, rc, L, n, c, hc, h1, h2, h3⟩ := h
  exact ⟨M, nm, mc, R, nr, rc, L, n, c, hc, h1.more hB, h2.more hB, h3.more hB⟩
theorem Machs.len (h : Machs w B A n c ms) : ms.length = n := h.1
theorem Machs.cap (h : Machs w B A n c ms) : n ≤ c ∧ c ≤ 9223372036854775807 := ⟨h.2.1, by have := h.2.2.1; unfold maxLen at this; omega⟩
theorem Machs.at_ (h : Machs w B A n c ms) (hn : 0 < n) : ∃ b off, A = some ⟨b, off, none⟩ ∧ b < B ∧ ∀ k x, ms[k]? = some x → MachAt w B b (off + k * 16) x := h.2.2.2 hn
theorem Machs.more (h : Machs w B A n c ms) (hB : B ≤ B') : Machs w B' A n c ms := ⟨h.1, h.2.1, h.2.2.1, fun hn => by
  obtain ⟨b, off, e, hb, hc⟩ := h.2.2.2 hn
  exact ⟨b, off, e, by omega, fun k x hx => (hc k x hx).more hB⟩⟩
theorem Machs.below (h : Machs w B A n c ms) (hw : Below B w w') : Machs w' B A n c ms := ⟨h.1, h.2.1, h.2.2.1, fun hn => by
  obtain ⟨b, off, e, hb, hc⟩ := h.2.2.2 hn
  exact ⟨b, off, e, hb, fun k x hx => (hc k x hx).below hb hw⟩⟩
theorem machs_none (w : World) (B : Nat) : Machs w B none 0 0 [] := ⟨rfl, Nat.le_refl _, Nat.zero_le _, fun h => absurd h (by decide)⟩
/-- the first k machines. -/
theorem Machs.take (h : Machs w B A n c ms) {k : Nat} (hk : k ≤ n) : Machs w B A k c (ms.take k) :=
  ⟨by rw [List.length_take, h.1]; omega, Nat.le_trans hk h.2.1, h.2.2.1, fun h0 => by
    obtain ⟨b, off, e, hb, hc⟩ := h.2.2.2 (by omega)
    refine ⟨b, off, e, hb, fun j x hx => ?_⟩
    rw [List.getElem?_take] at hx
    split at hx
    · exact hc j x hx
    · cases hx⟩
/-- the machines from j on. -/
theorem Machs.dropN (h : Machs w B A n c ms) {j : Nat} (hj : j ≤ n) : Machs w B (if c = j then A else A.map (·.add (j * 16))) (n - j) (c - j) (ms.drop j) :=
  ⟨by rw [List.length_drop, h.1], Nat.sub_le_sub_right h.2.1 j, Nat.le_trans (Nat.sub_le _ _) h.2.2.1, fun h0 => by
    obtain ⟨b, off, e, hb, hc⟩ := h.2.2.2 (by omega)
    have hne : ¬ c = j := by have := h.2.1; omega
    refine ⟨b, off + j * 16, ?_, hb, fun k x hx => ?_⟩
    · rw [if_neg hne, e]; simp [Addr.add]
    · rw [List.getElem?_drop] at hx
      have := hc (j + k) x hx
      rw [show off + (j + k) * 16 = off + j * 16 + k * 16 by omega] at this
      exact this⟩
end
theorem machs_now {w W : World} {A : Option Addr} {n c : Nat} {ms : List Mch} (hx : Machs w w.heap.size A n c ms) (h : Below w.heap.size w W) : Machs W W.heap.size A n c ms := (hx.below h).more h.size
/-- one machine in a block of its own. -/
theorem machs_box {w : World} {B g : Nat} {x : Mch} {M R L : Option Addr} {nm mc nr rc n c : Nat} (hg : g < B) (hc : ∀ o, w.cell? ⟨g, o, none⟩ = (#[.slice M nm mc, .int .i64 x.h.at_, .slice R nr rc, .bool x.h.done, .int .i64 x.b.mode, .int .i64 x.b.base, .slice L n c, .int .i64 x.b.orders.page, .int .i64 x.b.orders.head, .int .i64 x.b.orders.tail, .bool x.b.stopped, .int .i64 x.b.fences, .int .i64 x.b.faults.page, .int .i64 x.b.faults.head, .int .i64 x.b.faults.tail, .bool x.b.lost] : Array Value)[o]?)
    (h1 : Ints w B M nm x.m) (h2 : Ints w B R nr x.h.regs) (h3 : Lines w B L n c x.b.cache) : Machs w B (some ⟨g, 0, none⟩) 1 1 [x] :=
  ⟨rfl, Nat.le_refl _, by unfold maxLen; omega, fun _ => ⟨g, 0, rfl, hg, fun k y hy => by
    cases k with
    | zero =>
      simp at hy; subst hy
      exact ⟨M, nm, mc, R, nr, rc, L, n, c, ⟨hc 0, hc 1, hc 2, hc 3, hc 4, hc 5, hc 6, hc 7, hc 8, hc 9, hc 10, hc 11, hc 12, hc 13, hc 14, hc 15⟩, h1, h2, h3⟩
    | succ k => simp at hy⟩⟩
end

section
section
open Go.ChangeShapes Go.WideShapes Go.ChangeAt
theorem Try.cMach : Try.prog.cellsOf 33 = 16 := by kernel_rfl
section
variable {H : Type} {enc : TypeId × Value → H} {w : World} {base : Nat} {spare : Nat → Bool} {held : Bool} {fuel : Nat} {cs : List Value} {x : DataW H × List MemPlace}
theorem Try.cells_touch : Try.prog.cellsOf 48 = 5 := by kernel_rfl
set_option maxRecDepth 100000 in
theorem trod_touch (h : DataW.trod enc Try.prog w base spare held fuel 48 cs = some x) : ∃ (d : Int) (s : Int) (a : Int) (r : Bool) (v : Int), cs = [.int .i64 d, .int .i64 s, .int .i64 a, .bool r, .int .i64 v] := by
  obtain ⟨hl, n, hf⟩ := trod_field Try.underlying48 h
  rw [Try.cells_touch] at hl
  match cs, hl with
  | [c0, c1, c2, c3, c4], _ =>
    obtain ⟨y0, h0⟩ := hf 0 _ rfl
    obtain ⟨d, rfl⟩ := trod_int1 Try.underlying3 (by simpa [Try.c3] using h0)
    obtain ⟨y1, h1⟩ := hf 1 _ rfl
    obtain ⟨s, rfl⟩ := trod_int1 Try.underlying3 (by simpa [Try.c3] using h1)
    obtain ⟨y2, h2⟩ := hf 2 _ rfl
    obtain ⟨a, rfl⟩ := trod_int1 Try.underlying3 (by simpa [Try.c3] using h2)
    obtain ⟨y3, h3⟩ := hf 3 _ rfl
    obtain ⟨r, rfl⟩ := trod_bool1 Try.underlying4 (by simpa [Try.c4] using h3)
    obtain ⟨y4, h4⟩ := hf 4 _ rfl
    obtain ⟨v, rfl⟩ := trod_int1 Try.underlying3 (by simpa [Try.c3] using h4)
    exact ⟨d, s, a, r, v, rfl⟩
set_option maxRecDepth 100000 in
theorem trod_machine (h : DataW.trod enc Try.prog w base (fun _ => true) held fuel 33 cs = some x) : ∃ (y : Mch) (M R L : Option Addr) (nm mc nr rc n c : Nat), cs = (#[.slice M nm mc, .int .i64 y.h.at_, .slice R nr rc, .bool y.h.done, .int .i64 y.b.mode, .int .i64 y.b.base, .slice L n c, .int .i64 y.b.orders.page, .int .i64 y.b.orders.head, .int .i64 y.b.orders.tail, .bool y.b.stopped, .int .i64 y.b.fences, .int .i64 y.b.faults.page, .int .i64 y.b.faults.head, .int .i64 y.b.faults.tail, .bool y.b.lost] : Array Value).toList ∧ Ints w w.heap.size M nm y.m ∧ Ints w w.heap.size R nr y.h.regs ∧ Lines w w.heap.size L n c y.b.cache := by
  obtain ⟨hl, n, hf⟩ := trod_field Try.underlying33 h
  rw [Try.cMach] at hl
  match cs, hl with
  | [c0, c1, c2, c3, c4, c5, c6, c7, c8, c9, c10, c11, c12, c13, c14, c15], _ =>
    obtain ⟨y0, h0⟩ := hf 0 _ rfl
    obtain ⟨y1, h1⟩ := hf 1 _ rfl
    obtain ⟨y2, h2⟩ := hf 2 _ rfl
    obtain ⟨M, nm, mc, xs, e0, hM⟩ := trod_mem (by simpa [Try.cMem] using h0)
    obtain ⟨g, R, nr, rc, e1, hR⟩ := trod_hart (by simpa [Try.cHart] using h1)
    obtain ⟨b, L, m, c, e2, hL⟩ := trod_bridge (by simpa [Try.cBrg] using h2)
    obtain rfl : c0 = .slice M nm mc := by simpa using e0
    obtain ⟨rfl, rfl, rfl⟩ : c1 = .int .i64 g.at_ ∧ c2 = .slice R nr rc ∧ c3 = .bool g.done := by simpa using e1
    obtain ⟨rfl, rfl, rfl, rfl, rfl, rfl, rfl, rfl, rfl, rfl, rfl, rfl⟩ : c4 = .int .i64 b.mode ∧ c5 = .int .i64 b.base ∧ c6 = .slice L m c ∧ c7 = .int .i64 b.orders.page ∧ c8 = .int .i64 b.orders.head ∧ c9 = .int .i64 b.orders.tail ∧ c10 = .bool b.stopped ∧ c11 = .int .i64 b.fences ∧ c12 = .int .i64 b.faults.page ∧ c13 = .int .i64 b.faults.head ∧ c14 = .int .i64 b.faults.tail ∧ c15 = .bool b.lost := by simpa using e2
    exact ⟨⟨xs, g, b⟩, M, R, L, nm, mc, nr, rc, m, c, rfl, hM, hR, hL⟩
set_option maxRecDepth 100000 in
theorem Try.cMachs : Try.prog.cellsOf 51 = 1 := by kernel_rfl
theorem mach_cells {P : Nat → Option Value} {a : Array Value} {b o : Nat} (h : ∀ j, j < a.size → P (o + j) = a[j]?) (hz : a.size = 16) {v0 v1 v2 v3 v4 v5 v6 v7 v8 v9 v10 v11 v12 v13 v14 v15 : Value} (e : a = #[v0, v1, v2, v3, v4, v5, v6, v7, v8, v9, v10, v11, v12, v13, v14, v15]) :
    P o = some v0 ∧ P (o + 1) = some v1 ∧ P (o + 2) = some v2 ∧ P (o + 3) = some v3 ∧ P (o + 4) = some v4 ∧ P (o + 5) = some v5 ∧ P (o + 6) = some v6 ∧ P (o + 7) = some v7 ∧ P (o + 8) = some v8 ∧ P (o + 9) = some v9 ∧ P (o + 10) = some v10 ∧ P (o + 11) = some v11 ∧ P (o + 12) = some v12 ∧ P (o + 13) = some v13 ∧ P (o + 14) = some v14 ∧ P (o + 15) = some v15 := by
  subst e
  exact ⟨h 0 (by simp), h 1 (by simp), h 2 (by simp), h 3 (by simp), h 4 (by simp), h 5 (by simp), h 6 (by simp), h 7 (by simp), h 8 (by simp), h 9 (by simp), h 10 (by simp), h 11 (by simp), h 12 (by simp), h 13 (by simp), h 14 (by simp), h 15 (by simp)⟩
set_option maxRecDepth 100000 in
theorem trod_machs (h : DataW.trod enc Try.prog w base (fun _ => true) held fuel 51 cs = some x) : ∃ A n c ms, cs = [.slice A n c] ∧ Machs w w.heap.size A n c ms := by
  rcases DataW.trod_slice Try.underlying51 h with ⟨hcs, _⟩ | ⟨a, len, cap, elems, rest, n, _, hcs, _, hb, hl, hm, he, hel, _⟩
  · exact ⟨none, 0, 0, [], hcs, machs_none _ _⟩
  · obtain ⟨ms, hlen, hms⟩ := exists_list (α := Mch) (P := fun i y => ∃ (M R L : Option Addr) (nm mc nr rc n c : Nat), (∀ j, j < 16 → w.cell? ((a.add (i * 16)).add j) = (#[.slice M nm mc, .int .i64 y.h.at_, .slice R nr rc, .bool y.h.done, .int .i64 y.b.mode, .int .i64 y.b.base, .slice L n c, .int .i64 y.b.orders.page, .int .i64 y.b.orders.head, .int .i64 y.b.orders.tail, .bool y.b.stopped, .int .i64 y.b.fences, .int .i64 y.b.faults.page, .int .i64 y.b.faults.head, .int .i64 y.b.faults.tail, .bool y.b.lost] : Array Value).toList[j]?) ∧ Ints w w.heap.size M nm y.m ∧ Ints w w.heap.size R nr y.h.regs ∧ Lines w w.heap.size L n c y.b.cache) len (fun i hi => by
      have h1 := hel i hi
      rw [Try.cMach, List.getElem?_eq_getElem (by omega), Option.bind_eq_some_iff] at h1
      obtain ⟨cs', h2, h3⟩ := h1
      obtain ⟨y, M, R, L, nm, mc, nr, rc, m, c, e, hM, hR, hL⟩ := trod_machine h3
      obtain ⟨_, _, hc⟩ := World.cells?_some h2
      subst e
      exact ⟨y, M, R, L, nm, mc, nr, rc, m, c, hc, hM, hR, hL⟩)
    refine ⟨some a, len, cap, ms, hcs, hlen, hl, hm, fun h0 => ?_⟩
    obtain ⟨y, hy⟩ := some_of_lt ms (k := 0) (by omega)
    obtain ⟨M, R, L, nm, mc, nr, rc, m, c, hc0, _⟩ := hms 0 y hy
    have hc0 := hc0 0 (by decide)
    obtain ⟨b, off, spot⟩ := a
    have hspot : spot = none := by
      have := hc0
      simp only [List.getElem?_cons_zero] at this
      simpa [Addr.add] using World.cell?_spot this
    subst hspot
    refine ⟨b, off, rfl, ?_, fun k z hz => ?_⟩
    · have := cell_lt hc0
      simpa [Addr.add] using this
    · obtain ⟨M, R, L, nm, mc, nr, rc, m, c, hc, hM, hR, hL⟩ := hms k z hz
      have hq := fun j (hj : j < 16) => (congrArg w.cell? (show (⟨b, off + k * 16 + j, none⟩ : Addr) = ((⟨b, off, none⟩ : Addr).add (k * 16)).add j by rw [Go.WideShapes.add_plain, Go.WideShapes.add_plain])).trans (hc j hj)
      exact ⟨M, nm, mc, R, nr, rc, L, m, c, ⟨hq 0 (by decide), hq 1 (by decide), hq 2 (by decide), hq 3 (by decide), hq 4 (by decide), hq 5 (by decide), hq 6 (by decide), hq 7 (by decide), hq 8 (by decide), hq 9 (by decide), hq 10 (by decide), hq 11 (by decide), hq 12 (by decide), hq 13 (by decide), hq 14 (by decide), hq 15 (by decide)⟩, hM, hR, hL⟩
end
set_option maxRecDepth 100000 in
theorem open_machine {H : Type} {enc : TypeId × Value → H} {W : World} {b0 : Nat} {v : Value} {d : DataW H} {p : List MemPlace} (hv : Value.okWide Try.prog W .any b0 33 v) (h : DataW.Trod enc Try.prog W 0 (fun _ => true) true 33 v d p) :
    ∃ (y : Mch) (M R L : Option Addr) (nm mc nr rc n c : Nat), v = .agg #[.slice M nm mc, .int .i64 y.h.at_, .slice R nr rc, .bool y.h.done, .int .i64 y.b.mode, .int .i64 y.b.base, .slice L n c, .int .i64 y.b.orders.page, .int .i64 y.b.orders.head, .int .i64 y.b.orders.tail, .bool y.b.stopped, .int .i64 y.b.fences, .int .i64 y.b.faults.page, .int .i64 y.b.faults.head, .int .i64 y.b.faults.tail, .bool y.b.lost] ∧ Ints W W.heap.size M nm y.m ∧ Ints W W.heap.size R nr y.h.regs ∧ Lines W W.heap.size L n c y.b.cache := by
  obtain ⟨cs, n, rfl, g⟩ := open_cells Try.underlying33 hv h
  obtain ⟨y, M, R, L, nm, mc, nr, rc, m, c, e, hM, hR, hL⟩ := trod_machine g
  obtain ⟨cs⟩ := cs
  simp only [] at e
  subst e
  exact ⟨y, M, R, L, nm, mc, nr, rc, m, c, rfl, hM, hR, hL⟩
set_option maxRecDepth 100000 in
theorem open_machs {H : Type} {enc : TypeId × Value → H} {W : World} {b0 : Nat} {v : Value} {d : DataW H} {p : List MemPlace} (hv : Value.okWide Try.prog W .any b0 51 v) (h : DataW.Trod enc Try.prog W 0 (fun _ => true) true 51 v d p) :
    ∃ A n c ms, v = .slice A n c ∧ Machs W W.heap.size A n c ms := by
  obtain ⟨a, len, cap, rfl⟩ := okWide_slice Try.underlying51 hv
  obtain ⟨n, h⟩ := h
  obtain ⟨A, n, c, ls, e, hL⟩ := trod_machs h
  simp only [Value.cells, List.cons.injEq, and_true] at e
  exact ⟨A, n, c, ls, e, hL⟩
end
end
end Go.Proofs.Ytbopdijnojaaiad
