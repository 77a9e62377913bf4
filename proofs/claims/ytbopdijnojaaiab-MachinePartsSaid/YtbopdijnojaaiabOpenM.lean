/- How a machine, machines, and a touch come in as arguments. No statement of the seat is proved here. -/
import Derived.Test.YtbopdijnojaaiabDmaP
import Derived.Test.YtbopdijnojaaiabOpenH
namespace Go.Proofs.Ytbopdijnojaaiab
open Go.RowKit
set_option linter.unusedSimpArgs false
set_option linter.unusedVariables false

section
/-- a machine in sixteen cells from o on. -/
def MachAt (w : World) (B b o : Nat) (x : Mch) : Prop :=
  ∃ M nm mc R nr rc L n c, (w.cell? ⟨b, o, none⟩ = some (.slice M nm mc) ∧ w.cell? ⟨b, o + 1, none⟩ = some (.int .i64 x.h.at_) ∧ w.cell? ⟨b, o + 2, none⟩ = some (.slice R nr rc) ∧ w.cell? ⟨b, o + 3, none⟩ = some (.bool x.h.done) ∧
    w.cell? ⟨b, o + 4, none⟩ = some (.int .i64 x.b.mode) ∧ w.cell? ⟨b, o + 5, none⟩ = some (.int .i64 x.b.base) ∧ w.cell? ⟨b, o + 6, none⟩ = some (.slice L n c) ∧
    w.cell? ⟨b, o + 7, none⟩ = some (.int .i64 x.b.orders.page) ∧ w.cell? ⟨b, o + 8, none⟩ = some (.int .i64 x.b.orders.head) ∧ w.cell? ⟨b, o + 9, none⟩ = some (.int .i64 x.b.orders.tail) ∧
    w.cell? ⟨b, o + 10, none⟩ = some (.bool x.b.stopped) ∧ w.cell? ⟨b, o + 11, none⟩ = some (.int .i64 x.b.fences) ∧
    w.cell? ⟨b, o + 12, none⟩ = some (.int .i64 x.b.faults.page) ∧ w.cell? ⟨b, o + 13, none⟩ = some (.int .i64 x.b.faults.head) ∧ w.cell? ⟨b, o + 14, none⟩ = some (.int .i64 x.b.faults.tail) ∧ w.cell? ⟨b, o + 15, none⟩ = some (.bool x.b.lost)) ∧
    Ints w B M nm x.m ∧ Ints w B R nr x.h.regs ∧ Lines w B L n c x.b.cache
/-- a slice of machines that reads as ms. -/
def Machs (w : World) (B : Nat) (A : Option Addr) (n c : Nat) (ms : List Mch) : Prop :=
  ms.length = n ∧ n ≤ c ∧ c ≤ maxLen ∧ (0 < n → ∃ b off, A = some ⟨b, off, none⟩ ∧ b < B ∧ ∀ k x, ms[k]? = some x → MachAt w B b (off + k * 16) x)
section
variable {w w' : World} {B B' b o n c : Nat} {A : Option Addr} {ms : List Mch} {x : Mch}
theorem MachAt.below (h : MachAt w B b o x) (hb : b < B) (hw : Below B w w') : MachAt w' B b o x := by
  obtain ⟨M, nm, mc, R, nr, rc, L, n, c, ⟨c0, c1, c2, c3, c4, c5, c6, c7, c8, c9, c10, c11, c12, c13, c14, c15⟩, h1, h2, h3⟩ := h
  have k := fun (q : Nat) => hw.cell (p := ⟨b, q, none⟩) hb
  exact ⟨M, nm, mc, R, nr, rc, L, n, c, ⟨(k _).trans c0, (k _).trans c1, (k _).trans c2, (k _).trans c3, (k _).trans c4, (k _).trans c5, (k _).trans c6, (k _).trans c7, (k _).trans c8, (k _).trans c9, (k _).trans c10, (k _).trans c11, (k _).trans c12, (k _).trans c13, (k _).trans c14, (k _).trans c15⟩, h1.below hw, h2.below hw, h3.below hw⟩
theorem MachAt.more (h : MachAt w B b o x) (hB : B ≤ B') : MachAt w B' b o x := by
  obtain ⟨M, nm, mc, R, nr, rc, L, n, c, hc, h1, h2, h3⟩ := h
  exact ⟨M, nm, mc, R, nr, rc, L, n, c, hc, h1.more hB, h2.more hB, h3.more hB⟩
theorem Machs.len (h : Machs w B A n c ms) : ms.length = n := h.1
theorem Machs.cap (h : Machs w B A n c ms) : n ≤ c ∧ c ≤ 9223372036854775807 := ⟨h.2.1, by have := h.2.2.1; unfold maxLen at this; omega⟩
theorem Machs.at_ (h : Machs w B A n c ms) (hn : 0 < n) : ∃ b off, A = some ⟨b, off, none⟩ ∧ b < B ∧ ∀ k x, ms[k]? = some x → MachAt w B b (off + k * 16) x := h.2.2.2 hn
theorem Machs.more (h : Machs w B A n c ms) (hB : B ≤ B') : Machs w B' A n c ms := ⟨h.1, h.2.1, h.2.2.1, fun hn => by
  obtain ⟨b, off, e, hb, hc⟩ := h.2.2.2 hn
  exact ⟨b, off, e, by omega, fun k x hx => (hc k x hx).more hB⟩⟩
theorem Machs.below (h : Machs w B A n c ms) (hw : Below B w w') : Machs w' B A n c ms := ⟨h.1, h.2.1, h.2.2.1, fun hn => by
  obtain ⟨b, off, e, hb, hc⟩ := h.2.2.2 hn
  exact ⟨b, off, e, hb, fun k x hx => (hc k x hx).below hb hw⟩⟩
/-- the first k machines. -/
theorem Machs.take (h : Machs w B A n c ms) {k : Nat} (hk : k ≤ n) : Machs w B A k c (ms.take k) :=
  ⟨by rw [List.length_take, h.1]; omega, Nat.le_trans hk h.2.1, h.2.2.1, fun h0 => by
    obtain ⟨b, off, e, hb, hc⟩ := h.2.2.2 (by omega)
    refine ⟨b, off, e, hb, fun j x hx => ?_⟩
    rw [List.getElem?_take] at hx
    split at hx
    · exact hc j x hx
    · cases hx⟩
/-- the machines from j on. -/
theorem Machs.dropN (h : Machs w B A n c ms) {j : Nat} (hj : j ≤ n) : Machs w B (if c = j then A else A.map (·.add (j * 16))) (n - j) (c - j) (ms.drop j) :=
  ⟨by rw [List.length_drop, h.1], Nat.sub_le_sub_right h.2.1 j, Nat.le_trans (Nat.sub_le _ _) h.2.2.1, fun h0 => by
    obtain ⟨b, off, e, hb, hc⟩ := h.2.2.2 (by omega)
    have hne : ¬ c = j := by have := h.2.1; omega
    refine ⟨b, off + j * 16, ?_, hb, fun k x hx => ?_⟩
    · rw [if_neg hne, e]; simp [Addr.add]
    · rw [List.getElem?_drop] at hx
      have := hc (j + k) x hx
      rw [show off + (j + k) * 16 = off + j * 16 + k * 16 by omega] at this
      exact this⟩
end
end

section
section
open Go.ChangeShapes Go.WideShapes Go.ChangeAt
theorem Try.cMach : Try.prog.cellsOf 57 = 16 := by kernel_rfl
section
variable {H : Type} {enc : TypeId × Value → H} {w : World} {base : Nat} {spare : Nat → Bool} {held : Bool} {fuel : Nat} {cs : List Value} {x : DataW H × List MemPlace}
set_option maxRecDepth 100000 in
theorem trod_machine (h : DataW.trod enc Try.prog w base (fun _ => true) held fuel 57 cs = some x) : ∃ (y : Mch) (M R L : Option Addr) (nm mc nr rc n c : Nat), cs = (#[.slice M nm mc, .int .i64 y.h.at_, .slice R nr rc, .bool y.h.done, .int .i64 y.b.mode, .int .i64 y.b.base, .slice L n c, .int .i64 y.b.orders.page, .int .i64 y.b.orders.head, .int .i64 y.b.orders.tail, .bool y.b.stopped, .int .i64 y.b.fences, .int .i64 y.b.faults.page, .int .i64 y.b.faults.head, .int .i64 y.b.faults.tail, .bool y.b.lost] : Array Value).toList ∧ Ints w w.heap.size M nm y.m ∧ Ints w w.heap.size R nr y.h.regs ∧ Lines w w.heap.size L n c y.b.cache := by
  obtain ⟨hl, n, hf⟩ := trod_field Try.underlying57 h
  rw [Try.cMach] at hl
  match cs, hl with
  | [c0, c1, c2, c3, c4, c5, c6, c7, c8, c9, c10, c11, c12, c13, c14, c15], _ =>
    obtain ⟨y0, h0⟩ := hf 0 _ rfl
    obtain ⟨y1, h1⟩ := hf 1 _ rfl
    obtain ⟨y2, h2⟩ := hf 2 _ rfl
    obtain ⟨M, nm, mc, xs, e0, hM⟩ := trod_mem (by simpa [Try.cMem] using h0)
    obtain ⟨g, R, nr, rc, e1, hR⟩ := trod_hart (by simpa [Try.cHart] using h1)
    obtain ⟨b, L, m, c, e2, hL⟩ := trod_bridge (by simpa [Try.cBrg] using h2)
    obtain rfl : c0 = .slice M nm mc := by simpa using e0
    obtain ⟨rfl, rfl, rfl⟩ : c1 = .int .i64 g.at_ ∧ c2 = .slice R nr rc ∧ c3 = .bool g.done := by simpa using e1
    obtain ⟨rfl, rfl, rfl, rfl, rfl, rfl, rfl, rfl, rfl, rfl, rfl, rfl⟩ : c4 = .int .i64 b.mode ∧ c5 = .int .i64 b.base ∧ c6 = .slice L m c ∧ c7 = .int .i64 b.orders.page ∧ c8 = .int .i64 b.orders.head ∧ c9 = .int .i64 b.orders.tail ∧ c10 = .bool b.stopped ∧ c11 = .int .i64 b.fences ∧ c12 = .int .i64 b.faults.page ∧ c13 = .int .i64 b.faults.head ∧ c14 = .int .i64 b.faults.tail ∧ c15 = .bool b.lost := by simpa using e2
    exact ⟨⟨xs, g, b⟩, M, R, L, nm, mc, nr, rc, m, c, rfl, hM, hR, hL⟩
end
set_option maxRecDepth 100000 in
theorem open_machine {H : Type} {enc : TypeId × Value → H} {W : World} {b0 : Nat} {v : Value} {d : DataW H} {p : List MemPlace} (hv : Value.okWide Try.prog W .any b0 57 v) (h : DataW.Trod enc Try.prog W 0 (fun _ => true) true 57 v d p) :
    ∃ (y : Mch) (M R L : Option Addr) (nm mc nr rc n c : Nat), v = .agg #[.slice M nm mc, .int .i64 y.h.at_, .slice R nr rc, .bool y.h.done, .int .i64 y.b.mode, .int .i64 y.b.base, .slice L n c, .int .i64 y.b.orders.page, .int .i64 y.b.orders.head, .int .i64 y.b.orders.tail, .bool y.b.stopped, .int .i64 y.b.fences, .int .i64 y.b.faults.page, .int .i64 y.b.faults.head, .int .i64 y.b.faults.tail, .bool y.b.lost] ∧ Ints W W.heap.size M nm y.m ∧ Ints W W.heap.size R nr y.h.regs ∧ Lines W W.heap.size L n c y.b.cache := by
  obtain ⟨cs, n, rfl, g⟩ := open_cells Try.underlying57 hv h
  obtain ⟨y, M, R, L, nm, mc, nr, rc, m, c, e, hM, hR, hL⟩ := trod_machine g
  obtain ⟨cs⟩ := cs
  simp only [] at e
  subst e
  exact ⟨y, M, R, L, nm, mc, nr, rc, m, c, rfl, hM, hR, hL⟩
end
end
end Go.Proofs.Ytbopdijnojaaiab
