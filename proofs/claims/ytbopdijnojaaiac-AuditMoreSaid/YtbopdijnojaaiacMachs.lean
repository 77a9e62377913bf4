/- Slices of machines in memory. No statement of the seat is proved here. -/
import Derived.Test.YtbopdijnojaaiacDmaP
namespace Go.Proofs.Ytbopdijnojaaiac
open Go.RowKit
set_option linter.unusedSimpArgs false
set_option linter.unusedVariables false

/-- a machine in sixteen cells from o on. -/
def MachAt (w : World) (B b o : Nat) (x : Mch) : Prop :=
  ∃ M nm mc R nr rc L n c, (w.cell? ⟨b, o, none⟩ = some (.slice M nm mc) ∧ w.cell? ⟨b, o + 1, none⟩ = some (.int .i64 x.h.at_) ∧ w.cell? ⟨b, o + 2, none⟩ = some (.slice R nr rc) ∧ w.cell? ⟨b, o + 3, none⟩ = some (.bool x.h.done) ∧
    w.cell? ⟨b, o + 4, none⟩ = some (.int .i64 x.b.mode) ∧ w.cell? ⟨b, o + 5, none⟩ = some (.int .i64 x.b.base) ∧ w.cell? ⟨b, o + 6, none⟩ = some (.slice L n c) ∧
    w.cell? ⟨b, o + 7, none⟩ = some (.int .i64 x.b.orders.page) ∧ w.cell? ⟨b, o + 8, none⟩ = some (.int .i64 x.b.orders.head) ∧ w.cell? ⟨b, o + 9, none⟩ = some (.int .i64 x.b.orders.tail) ∧
    w.cell? ⟨b, o + 10, none⟩ = some (.bool x.b.stopped) ∧ w.cell? ⟨b, o + 11, none⟩ = some (.int .i64 x.b.fences) ∧
    w.cell? ⟨b, o + 12, none⟩ = some (.int .i64 x.b.faults.page) ∧ w.cell? ⟨b, o + 13, none⟩ = some (.int .i64 x.b.faults.head) ∧ w.cell? ⟨b, o + 14, none⟩ = some (.int .i64 x.b.faults.tail) ∧ w.cell? ⟨b, o + 15, none⟩ = some (.bool x.b.lost)) ∧
    Ints w B M nm x.m ∧ Ints w B R nr x.h.regs ∧ Lines w B L n c x.b.cache
/-- a slice of machines that reads as ms. -/
def Machs (w : World) (B : Nat) (A : Option Addr) (n c : Nat) (ms : List Mch) : Prop :=
  ms.length = n ∧ n ≤ c ∧ c ≤ maxLen ∧ (0 < n → ∃ b off, A = some ⟨b, off, none⟩ ∧ b < B ∧ ∀ k x, ms[k]? = some x → MachAt w B b (off + k * 16) x)
section
variable {w w' : World} {B B' b o n c : Nat} {A : Option Addr} {ms : List Mch} {x : Mch}
theorem MachAt.below (h : MachAt w B b o x) (hb : b < B) (hw : Below B w w') : MachAt w' B b o x := by
  obtain ⟨M, nm, mc, R, nr, rc, L, n, c, ⟨c0, c1, c2, c3, c4, c5, c6, c7, c8, c9, c10, c11, c12, c13, c14, c15⟩, h1, h2, h3⟩ := h
  have k := fun (q : Nat) => hw.cell (p := ⟨b, q, none⟩) hb
  exact ⟨M, nm, mc, R, nr, rc, L, n, c, ⟨(k _).trans c0, (k _).trans c1, (k _).trans c2, (k _).trans c3, (k _).trans c4, (k _).trans c5, (k _).trans c6, (k _).trans c7, (k _).trans c8, (k _).trans c9, (k _).trans c10, (k _).trans c11, (k _).trans c12, (k _).trans c13, (k _).trans c14, (k _).trans c15⟩, h1.below hw, h2.below hw, h3.below hw⟩
theorem MachAt.more (h : MachAt w B b o x) (hB : B ≤ B') : MachAt w B' b o x := by
  obtain ⟨M, nm, mc, R, nr, rc, L, n, c, hc, h1, h2, h3⟩ := h
  exact ⟨M, nm, mc, R, nr, rc, L, n, c, hc, h1.more hB, h2.more hB, h3.more hB⟩
theorem Machs.len (h : Machs w B A n c ms) : ms.length = n := h.1
theorem Machs.cap (h : Machs w B A n c ms) : n ≤ c ∧ c ≤ 9223372036854775807 := ⟨h.2.1, by have := h.2.2.1; unfold maxLen at this; omega⟩
theorem Machs.at_ (h : Machs w B A n c ms) (hn : 0 < n) : ∃ b off, A = some ⟨b, off, none⟩ ∧ b < B ∧ ∀ k x, ms[k]? = some x → MachAt w B b (off + k * 16) x := h.2.2.2 hn
theorem Machs.more (h : Machs w B A n c ms) (hB : B ≤ B') : Machs w B' A n c ms := ⟨h.1, h.2.1, h.2.2.1, fun hn => by
  obtain ⟨b, off, e, hb, hc⟩ := h.2.2.2 hn
  exact ⟨b, off, e, by omega, fun k x hx => (hc k x hx).more hB⟩⟩
theorem Machs.below (h : Machs w B A n c ms) (hw : Below B w w') : Machs w' B A n c ms := ⟨h.1, h.2.1, h.2.2.1, fun hn => by
  obtain ⟨b, off, e, hb, hc⟩ := h.2.2.2 hn
  exact ⟨b, off, e, hb, fun k x hx => (hc k x hx).below hb hw⟩⟩
theorem machs_none (w : World) (B : Nat) : Machs w B none 0 0 [] := ⟨rfl, Nat.le_refl _, Nat.zero_le _, fun h => absurd h (by decide)⟩
/-- the first k machines. -/
theorem Machs.take (h : Machs w B A n c ms) {k : Nat} (hk : k ≤ n) : Machs w B A k c (ms.take k) :=
  ⟨by rw [List.length_take, h.1]; omega, Nat.le_trans hk h.2.1, h.2.2.1, fun h0 => by
    obtain ⟨b, off, e, hb, hc⟩ := h.2.2.2 (by omega)
    refine ⟨b, off, e, hb, fun j x hx => ?_⟩
    rw [List.getElem?_take] at hx
    split at hx
    · exact hc j x hx
    · cases hx⟩
/-- the machines from j on. -/
theorem Machs.dropN (h : Machs w B A n c ms) {j : Nat} (hj : j ≤ n) : Machs w B (if c = j then A else A.map (·.add (j * 16))) (n - j) (c - j) (ms.drop j) :=
  ⟨by rw [List.length_drop, h.1], Nat.sub_le_sub_right h.2.1 j, Nat.le_trans (Nat.sub_le _ _) h.2.2.1, fun h0 => by
    obtain ⟨b, off, e, hb, hc⟩ := h.2.2.2 (by omega)
    have hne : ¬ c = j := by have := h.2.1; omega
    refine ⟨b, off + j * 16, ?_, hb, fun k x hx => ?_⟩
    · rw [if_neg hne, e]; simp [Addr.add]
    · rw [List.getElem?_drop] at hx
      have := hc (j + k) x hx
      rw [show off + (j + k) * 16 = off + j * 16 + k * 16 by omega] at this
      exact this⟩
end
theorem machs_now {w W : World} {A : Option Addr} {n c : Nat} {ms : List Mch} (hx : Machs w w.heap.size A n c ms) (h : Below w.heap.size w W) : Machs W W.heap.size A n c ms := (hx.below h).more h.size
/-- one machine in a block of its own. -/
theorem machs_box {w : World} {B g : Nat} {x : Mch} {M R L : Option Addr} {nm mc nr rc n c : Nat} (hg : g < B) (hc : ∀ o, w.cell? ⟨g, o, none⟩ = (#[.slice M nm mc, .int .i64 x.h.at_, .slice R nr rc, .bool x.h.done, .int .i64 x.b.mode, .int .i64 x.b.base, .slice L n c, .int .i64 x.b.orders.page, .int .i64 x.b.orders.head, .int .i64 x.b.orders.tail, .bool x.b.stopped, .int .i64 x.b.fences, .int .i64 x.b.faults.page, .int .i64 x.b.faults.head, .int .i64 x.b.faults.tail, .bool x.b.lost] : Array Value)[o]?)
    (h1 : Ints w B M nm x.m) (h2 : Ints w B R nr x.h.regs) (h3 : Lines w B L n c x.b.cache) : Machs w B (some ⟨g, 0, none⟩) 1 1 [x] :=
  ⟨rfl, Nat.le_refl _, by unfold maxLen; omega, fun _ => ⟨g, 0, rfl, hg, fun k y hy => by
    cases k with
    | zero =>
      simp at hy; subst hy
      exact ⟨M, nm, mc, R, nr, rc, L, n, c, ⟨hc 0, hc 1, hc 2, hc 3, hc 4, hc 5, hc 6, hc 7, hc 8, hc 9, hc 10, hc 11, hc 12, hc 13, hc 14, hc 15⟩, h1, h2, h3⟩
    | succ k => simp at hy⟩⟩
end Go.Proofs.Ytbopdijnojaaiac
