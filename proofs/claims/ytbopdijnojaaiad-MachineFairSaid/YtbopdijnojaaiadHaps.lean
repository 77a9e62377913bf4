/- Slices of happenings in memory. No statement of the seat is proved here. -/
import Derived.Test.YtbopdijnojaaiadDmaP
import Derived.Deep.MidRow
namespace Go.Proofs.Ytbopdijnojaaiad
open Go.RowKit
set_option linter.unusedSimpArgs false
set_option linter.unusedVariables false

/-- a happening in seven cells from o on. -/
def HapAt (w : World) (B b o : Nat) (x : Hap) : Prop :=
  ∃ D nd cd, (w.cell? ⟨b, o, none⟩ = some (.int .i64 x.kind) ∧ w.cell? ⟨b, o + 1, none⟩ = some (.int .i64 x.n) ∧ w.cell? ⟨b, o + 2, none⟩ = some (.int .i64 x.a.dev) ∧ w.cell? ⟨b, o + 3, none⟩ = some (.int .i64 x.a.at_) ∧ w.cell? ⟨b, o + 4, none⟩ = some (.int .i64 x.a.count) ∧ w.cell? ⟨b, o + 5, none⟩ = some (.bool x.a.wr) ∧ w.cell? ⟨b, o + 6, none⟩ = some (.slice D nd cd)) ∧ Ints w B D nd x.a.data
/-- a slice of happenings that reads as hs. -/
def Haps (w : World) (B : Nat) (A : Option Addr) (n c : Nat) (hs : List Hap) : Prop :=
  hs.length = n ∧ n ≤ c ∧ c ≤ maxLen ∧ (0 < n → ∃ b off, A = some ⟨b, off, none⟩ ∧ b < B ∧ ∀ k x, hs[k]? = some x → HapAt w B b (off + k * 7) x)
section
variable {w w' : World} {B B' b o n c : Nat} {A : Option Addr} {hs : List Hap} {x : Hap}
theorem HapAt.below (h : HapAt w B b o x) (hb : b < B) (hw : Below B w w') : HapAt w' B b o x := by
  obtain ⟨D, nd, cd, ⟨c0, c1, c2, c3, c4, c5, c6⟩, h1⟩ := h
  have k := fun (q : Nat) => hw.cell (p := ⟨b, q, none⟩) hb
  exact ⟨D, nd, cd, ⟨(k _).trans c0, (k _).trans c1, (k _).trans c2, (k _).trans c3, (k _).trans c4, (k _).trans c5, (k _).trans c6⟩, h1.below hw⟩
theorem HapAt.more (h : HapAt w B b o x) (hB : B ≤ B') : HapAt w B' b o x := by
  obtain ⟨D, nd, cd, hc, h1⟩ := h
  exact ⟨D, nd, cd, hc, h1.more hB⟩
theorem Haps.len (h : Haps w B A n c hs) : hs.length = n := h.1
theorem Haps.cap (h : Haps w B A n c hs) : n ≤ c ∧ c ≤ 9223372036854775807 := ⟨h.2.1, by have := h.2.2.1; unfold maxLen at this; omega⟩
theorem Haps.at_ (h : Haps w B A n c hs) (hn : 0 < n) : ∃ b off, A = some ⟨b, off, none⟩ ∧ b < B ∧ ∀ k x, hs[k]? = some x → HapAt w B b (off + k * 7) x := h.2.2.2 hn
theorem Haps.more (h : Haps w B A n c hs) (hB : B ≤ B') : Haps w B' A n c hs := ⟨h.1, h.2.1, h.2.2.1, fun hn => by
  obtain ⟨b, off, e, hb, hc⟩ := h.2.2.2 hn
  exact ⟨b, off, e, by omega, fun k x hx => (hc k x hx).more hB⟩⟩
theorem Haps.below (h : Haps w B A n c hs) (hw : Below B w w') : Haps w' B A n c hs := ⟨h.1, h.2.1, h.2.2.1, fun hn => by
  obtain ⟨b, off, e, hb, hc⟩ := h.2.2.2 hn
  exact ⟨b, off, e, hb, fun k x hx => (hc k x hx).below hb hw⟩⟩
theorem haps_none (w : World) (B : Nat) : Haps w B none 0 0 [] := ⟨rfl, Nat.le_refl _, Nat.zero_le _, fun h => absurd h (by decide)⟩
/-- the first k happenings. -/
theorem Haps.take (h : Haps w B A n c hs) {k : Nat} (hk : k ≤ n) : Haps w B A k c (hs.take k) :=
  ⟨by rw [List.length_take, h.1]; omega, Nat.le_trans hk h.2.1, h.2.2.1, fun h0 => by
    obtain ⟨b, off, e, hb, hc⟩ := h.2.2.2 (by omega)
    refine ⟨b, off, e, hb, fun j x hx => ?_⟩
    rw [List.getElem?_take] at hx
    split at hx
    · exact hc j x hx
    · cases hx⟩
/-- the happenings from j on. -/
theorem Haps.dropN (h : Haps w B A n c hs) {j : Nat} (hj : j ≤ n) : Haps w B (if c = j then A else A.map (·.add (j * 7))) (n - j) (c - j) (hs.drop j) :=
  ⟨by rw [List.length_drop, h.1], Nat.sub_le_sub_right h.2.1 j, Nat.le_trans (Nat.sub_le _ _) h.2.2.1, fun h0 => by
    obtain ⟨b, off, e, hb, hc⟩ := h.2.2.2 (by omega)
    have hne : ¬ c = j := by have := h.2.1; omega
    refine ⟨b, off + j * 7, ?_, hb, fun k x hx => ?_⟩
    · rw [if_neg hne, e]; simp [Addr.add]
    · rw [List.getElem?_drop] at hx
      have := hc (j + k) x hx
      rw [show off + (j + k) * 7 = off + j * 7 + k * 7 by omega] at this
      exact this⟩
theorem hap_range {D : Option Addr} {nd cd : Nat} (h : w.cell? ⟨b, o, none⟩ = some (.int .i64 x.kind) ∧ w.cell? ⟨b, o + 1, none⟩ = some (.int .i64 x.n) ∧ w.cell? ⟨b, o + 2, none⟩ = some (.int .i64 x.a.dev) ∧ w.cell? ⟨b, o + 3, none⟩ = some (.int .i64 x.a.at_) ∧ w.cell? ⟨b, o + 4, none⟩ = some (.int .i64 x.a.count) ∧ w.cell? ⟨b, o + 5, none⟩ = some (.bool x.a.wr) ∧ w.cell? ⟨b, o + 6, none⟩ = some (.slice D nd cd)) : w.rangeAt b o [.int .i64 x.kind, .int .i64 x.n, .int .i64 x.a.dev, .int .i64 x.a.at_, .int .i64 x.a.count, .bool x.a.wr, .slice D nd cd] := by
  obtain ⟨h0, h1, h2, h3, h4, h5, h6⟩ := h
  intro j v hj
  match j, hj with
  | 0, hj => simp at hj; subst hj; exact h0
  | 1, hj => simp at hj; subst hj; exact h1
  | 2, hj => simp at hj; subst hj; exact h2
  | 3, hj => simp at hj; subst hj; exact h3
  | 4, hj => simp at hj; subst hj; exact h4
  | 5, hj => simp at hj; subst hj; exact h5
  | 6, hj => simp at hj; subst hj; exact h6
  | k + 7, hj => simp at hj
end
theorem haps_now {w W : World} {A : Option Addr} {n c : Nat} {hs : List Hap} (hx : Haps w w.heap.size A n c hs) (h : Below w.heap.size w W) : Haps W W.heap.size A n c hs := (hx.below h).more h.size
theorem Try.sizeHap : (Try.prog.info? 46).map (·.size) = some 7 := by kernel_rfl
end Go.Proofs.Ytbopdijnojaaiad
