/- How a slice of ints, and memory, come in as arguments. No statement of the seat is proved here. -/
import Derived.Test.YtbopdijnojaaiabOpen
import Derived.OpenShut
namespace Go.Proofs.Ytbopdijnojaaiab
open Go.RowKit
set_option linter.unusedSimpArgs false
set_option linter.unusedVariables false
open Go.ChangeShapes Go.WideShapes Go.ChangeAt

theorem Try.cMem : Try.prog.cellsOf 24 = 1 := by kernel_rfl
theorem Try.cInts : Try.prog.cellsOf 22 = 1 := by kernel_rfl
section
variable {H : Type} {enc : TypeId × Value → H} {w : World} {base : Nat} {spare : Nat → Bool} {held : Bool} {fuel : Nat} {cs : List Value} {x : DataW H × List MemPlace}

theorem cell_lt {w : World} {a : Addr} {v : Value} (h : w.cell? a = some v) : a.block < w.heap.size := by
  rcases Nat.lt_or_ge a.block w.heap.size with hlt | hge
  · exact hlt
  · simp [World.cell?, Array.getElem?_eq_none hge] at h

set_option maxRecDepth 100000 in
theorem trod_ints (h : DataW.trod enc Try.prog w base (fun _ => true) held fuel 22 cs = some x) : ∃ A n c xs, cs = [.slice A n c] ∧ Ints w w.heap.size A n xs := by
  rcases open_ints Try.underlying22 Try.underlying3 Try.c3 h with ⟨hcs, _⟩ | ⟨a, len, cap, zs, hcs, _, hl, hm, hz, _, hc, _⟩
  · exact ⟨none, 0, 0, [], hcs, rfl, by unfold maxLen; omega, Row.nil_⟩
  · rw [if_pos rfl] at hz
    refine ⟨some a, len, cap, zs.take len, hcs, by simp; omega, by omega, fun h0 => ?_⟩
    have h1 : 0 < len := by
      rcases Nat.eq_zero_or_pos len with h | h
      · subst h; simp at h0
      · exact h
    obtain ⟨b, off, rfl, hcc⟩ := ints_at hc (by omega)
    refine ⟨b, off, rfl, cell_lt (hcc 0 (by omega)), fun k v hv => ?_⟩
    rw [List.getElem?_map, Option.map_eq_some_iff] at hv
    obtain ⟨y, hy, rfl⟩ := hv
    have hk : k < len := by
      have := (List.getElem?_eq_some_iff.1 hy).1
      simp at this; omega
    rw [List.getElem?_take, if_pos hk] at hy
    rw [hcc k (by omega)]
    simp [List.getD, hy]

set_option maxRecDepth 100000 in
theorem trod_mem (h : DataW.trod enc Try.prog w base (fun _ => true) held fuel 24 cs = some x) : ∃ A n c xs, cs = [.slice A n c] ∧ Ints w w.heap.size A n xs := by
  obtain ⟨hl, n, hf⟩ := trod_field Try.underlying24 h
  rw [Try.cMem] at hl
  match cs, hl with
  | [c0], _ =>
    obtain ⟨y, hy⟩ := hf 0 _ rfl
    exact trod_ints (by simpa [Try.cInts] using hy)
end

set_option maxRecDepth 100000 in
theorem open_mem {H : Type} {enc : TypeId × Value → H} {W : World} {b0 : Nat} {v : Value} {d : DataW H} {p : List MemPlace} (hv : Value.okWide Try.prog W .any b0 24 v) (h : DataW.Trod enc Try.prog W 0 (fun _ => true) true 24 v d p) :
    ∃ A n c xs, v = .agg #[.slice A n c] ∧ Ints W W.heap.size A n xs := by
  obtain ⟨cs, n, rfl, g⟩ := open_cells Try.underlying24 hv h
  obtain ⟨A, n, c, xs, e, hi⟩ := trod_mem g
  obtain ⟨cs⟩ := cs
  simp only [] at e
  subst e
  exact ⟨A, n, c, xs, rfl, hi⟩

end Go.Proofs.Ytbopdijnojaaiab
