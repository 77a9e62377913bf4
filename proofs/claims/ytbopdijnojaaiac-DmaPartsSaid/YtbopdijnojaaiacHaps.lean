/- Slices of happenings in memory. No statement of the seat is proved here. -/
import Derived.Test.YtbopdijnojaaiacDmaP
import Derived.Deep.MidRow
namespace Go.Proofs.Ytbopdijnojaaiac
open Go.RowKit
set_option linter.unusedSimpArgs false
set_option linter.unusedVariables false

/-- a happening in seven cells from o on. -/
def HapAt (w : World) (B b o : Nat) (x : Hap) : Prop :=
  ∃ D nd cd, (w.cell? ⟨b, o, none⟩ = some (.int .i64 x.kind) ∧ w.cell? ⟨b, o + 1, none⟩ = some (.int .i64 x.n) ∧ w.cell? ⟨b, o + 2, none⟩ = some (.int .i64 x.a.dev) ∧ w.cell? ⟨b, o + 3, none⟩ = some (.int .i64 x.a.at_) ∧ w.cell? ⟨b, o + 4, none⟩ = some (.int .i64 x.a.count) ∧ w.cell? ⟨b, o + 5, none⟩ = some (.bool x.a.wr) ∧ w.cell? ⟨b, o + 6, none⟩ = some (.slice D nd cd)) ∧ Ints w B D nd x.a.data
/-- a slice of happenings that reads as hs. -/
def Haps (w : World) (B : Nat) (A : Option Addr) (n c : Nat) (hs : List Hap) : Prop :=
  hs.length = n ∧ n ≤ c ∧ c ≤ maxLen ∧ (0 < n → ∃ b off, A = some ⟨b, off, none⟩ ∧ b < B ∧ ∀ k x, hs[k]? = some x → HapAt w B b (off + k * 7) x)
section
variable {w w' : World} {B B' b o n c : Nat} {A : Option Addr} {hs : List Hap} {x : Hap}
theorem HapAt.below (h : HapAt w B b o x) (hb : b < B) (hw : Below B w w') : HapAt w' B b o x := by
  obtain ⟨D, nd, cd, ⟨c0, c1, c2, c3, c4, c5, c6⟩, h1⟩ := h
  have k := fun (q : Nat) => hw.cell (p := ⟨b, q, none⟩) hb
  exact ⟨D, nd, cd, ⟨(k _).trans c0, (k _).trans c1, (k _).trans c2, (k _).trans c3, (k _).trans c4, (k _).trans c5, (k _).trans c6⟩, h1.below hw⟩
theorem HapAt.more (h : HapAt w B b o x) (hB : B ≤ B') : HapAt w B' b o x := by
  obtain ⟨D, nd, cd, hc, h1⟩ := h
  exact ⟨D, nd, cd, hc, h1.more hB⟩
theorem Haps.len (h : Haps w B A n c hs) : hs.length = n := h.1
theorem Haps.cap (h : Haps w B A n c hs) : n ≤ c ∧ c ≤ 9223372036854775807 := ⟨h.2.1, by have := h.2.2.1; unfold maxLen at this; omega⟩
theorem Haps.at_ (h : Haps w B A n c hs) (hn : 0 < n) : ∃ b off, A = some ⟨b, off, none⟩ ∧ b < B ∧ ∀ k x, hs[k]? = some x → HapAt w B b (off + k * 7) x := h.2.2.2 hn
theorem Haps.more (h : Haps w B A n c hs) (hB : B ≤ B') : Haps w B' A n c hs := ⟨h.1, h.2.1, h.2.2.1, fun hn => by
  obtain ⟨b, off, e, hb, hc⟩ := h.2.2.2 hn
  exact ⟨b, off, e, by omega, fun k x hx => (hc k x hx).more hB⟩⟩
theorem Haps.below (h : Haps w B A n c hs) (hw : Below B w w') : Haps w' B A n c hs := ⟨h.1, h.2.1, h.2.2.1, fun hn => by
  obtain ⟨b, off, e, hb, hc⟩ := h.2.2.2 hn
  exact ⟨b, off, e, hb, fun k x hx => (hc k x hx).below hb hw⟩⟩
/-- the first k happenings. -/
theorem Haps.take (h : Haps w B A n c hs) {k : Nat} (hk : k ≤ n) : Haps w B A k c (hs.take k) :=
  ⟨by rw [List.length_take, h.1]; omega, Nat.le_trans hk h.2.1, h.2.2.1, fun h0 => by
    obtain ⟨b, off, e, hb, hc⟩ := h.2.2.2 (by omega)
    refine ⟨b, off, e, hb, fun j x hx => ?_⟩
    rw [List.getElem?_take] at hx
    split at hx
    · exact hc j x hx
    · cases hx⟩
end
end Go.Proofs.Ytbopdijnojaaiac
