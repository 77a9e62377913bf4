/- Lines that are stored over lines, and cleared. No program in sight, no statement of the seat is proved here. -/
import Derived.Test.YtbopdijnojaaiabLines
import Derived.Test.YtbopdijnojaaiabDropP
import Derived.Laws.IdiomCopy
namespace Go.Proofs.Ytbopdijnojaaiab
open Go.RowKit
set_option linter.unusedSimpArgs false
set_option linter.unusedVariables false

theorem lcells_get (ls : List Line) (m : Nat) : (lcells ls)[m]? = (ls[m / 5]?).bind (fun x => x.vals[m % 5]?) := by
  have e : m = m / 5 * 5 + m % 5 := by omega
  cases h : ls[m / 5]? with
  | some x =>
    have := lcells_at ls (m / 5) x (m % 5) h (by omega)
    rw [← e] at this
    simpa using this
  | none =>
    have hl : ls.length ≤ m / 5 := by simpa using h
    simp only [Option.bind_none]
    rw [List.getElem?_eq_none]
    rw [lcells_len]; omega
theorem vals_len (x : Line) : x.vals.length = 5 := rfl
theorem lcells_set {zs : List Line} {i : Nat} {x : Line} (hi : i < zs.length) (m : Nat) : (lcells (zs.set i x))[m]? = if i * 5 ≤ m ∧ m < i * 5 + 5 then x.vals[m - i * 5]? else (lcells zs)[m]? := by
  rw [lcells_get, lcells_get]
  split
  · rename_i h
    have e1 : m / 5 = i := by omega
    have e2 : m % 5 = m - i * 5 := by omega
    rw [e1, e2, List.getElem?_set_self hi]; rfl
  · rename_i h
    rw [List.getElem?_set_ne (by omega)]
section
variable {w : World} {B n c g : Nat} {ls : List Line}
theorem Lines.cellsome (h : Lines w B (some ⟨g, 0, none⟩) n c ls) {m : Nat} (hm : m < n * 5) : (w.cell? ⟨g, m, none⟩).isSome = true := by
  have hl : m < (lcells ls).length := by rw [lcells_len, h.1]; exact hm
  obtain ⟨b, off, e, hb, hc⟩ := h.2.2.2.2 (by omega)
  simp only [Option.some.injEq, Addr.mk.injEq, and_true] at e
  obtain ⟨rfl, rfl⟩ := e
  have := hc m _ (List.getElem?_eq_getElem hl)
  rw [Nat.zero_add] at this
  rw [this]; rfl
theorem Lines.setLine (h : Lines w B (some ⟨g, 0, none⟩) n c ls) {i : Nat} (hi : i < n) (x : Line) : Lines (w.setCells g (i * 5) x.vals) B (some ⟨g, 0, none⟩) n c (ls.set i x) := by
  have hsome := fun (m : Nat) (hm : m < n * 5) => h.cellsome hm
  obtain ⟨h1, h2, h3, h4, h5⟩ := h
  refine ⟨by simp [h1], h2, h3, (fun e => by cases e), fun _ => ?_⟩
  obtain ⟨b, off, e, hb, hc⟩ := h5 (by rw [lcells_len]; omega)
  simp only [Option.some.injEq, Addr.mk.injEq, and_true] at e
  obtain ⟨rfl, rfl⟩ := e
  refine ⟨g, 0, rfl, hb, fun m v hv => ?_⟩
  rw [lcells_set (by omega)] at hv
  rw [Nat.zero_add]
  split at hv
  · rename_i hm
    have hj : m - i * 5 < x.vals.length := by rw [vals_len]; omega
    have := World.cell?_setCells_in g x.vals (i * 5) w (fun j hj => by rw [vals_len] at hj; exact hsome _ (by omega)) (m - i * 5) hj
    rw [show i * 5 + (m - i * 5) = m by omega] at this
    rw [this, ← hv, List.getElem?_eq_getElem hj]
  · rename_i hm
    rw [World.cell?_setCells_out g x.vals (i * 5) w ⟨g, m, none⟩ (fun _ _ => by rw [vals_len]; simp only []; omega)]
    have := hc m v hv
    rwa [Nat.zero_add] at this
theorem Lines.cutAt (h : Lines w B (some ⟨g, 0, none⟩) n c ls) {i : Nat} (hi : i ≤ n) (vs : List Value) : Lines (w.setCells g (i * 5) vs) B (some ⟨g, 0, none⟩) i c (ls.take i) := by
  obtain ⟨h1, h2, h3, h4, h5⟩ := h.take hi
  refine ⟨h1, h2, h3, h4, fun hl => ?_⟩
  obtain ⟨b, off, e, hb, hc⟩ := h5 hl
  simp only [Option.some.injEq, Addr.mk.injEq, and_true] at e
  obtain ⟨rfl, rfl⟩ := e
  refine ⟨g, 0, rfl, hb, fun m v hv => ?_⟩
  have hm : m < i * 5 := by
    have := (List.getElem?_eq_some_iff.1 hv).1
    rw [lcells_len, h1] at this; exact this
  rw [World.cell?_setCells_out g vs (i * 5) w _ (fun _ _ => Or.inl (by simp only []; omega))]
  exact hc m v hv
end
theorem size_cells (b : Nat) : ∀ (vs : List Value) (o : Nat) (w : World), (w.setCells b o vs).heap.size = w.heap.size
  | [], _, _ => rfl
  | v :: r, o, w => (size_cells b r (o + 1) _).trans (World.size_setCell _ _ _)
theorem below_cells {B g : Nat} {a : World} (hg : B ≤ g) : ∀ (vs : List Value) (o : Nat) (w : World), Below B a w → Below B a (w.setCells g o vs)
  | [], _, _, h => h
  | v :: r, o, w, h => below_cells hg r (o + 1) _ (h.setCell hg v)
theorem Below.setLine {B g : Nat} {a w : World} (h : Below B a w) (hg : B ≤ g) (o : Nat) (vs : List Value) : Below B a (w.setCells g o vs) := below_cells hg vs o w h
end Go.Proofs.Ytbopdijnojaaiab
