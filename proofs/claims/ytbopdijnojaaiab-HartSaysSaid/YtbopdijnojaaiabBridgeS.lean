/- Blocks that stay as they were, whatever else turns. No statement of the seat is proved here. -/
import Derived.Test.YtbopdijnojaaiabBridgeC
import Derived.Test.YtbopdijnojaaiabFillZ
import Derived.Deep.RegionHeld3
import Derived.Deep.DrawnRows
import Derived.Test.YtbopdijnojaaiabBridgeF
import Derived.Test.YtbopdijnojaaiabBase
import Derived.Deep.DeepCutAuto
import Derived.Test.YtbopdijnojaaiabSlices
namespace Go.Proofs.Ytbopdijnojaaiab
open Go.RowKit
set_option linter.unusedSimpArgs false
set_option linter.unusedVariables false

section
section
attribute [local go_sem ↓] Go.wp_at_zero Go.wp_at_succ

/-- block g holds a bridge. -/
def BrgAt (w : World) (g : Nat) (b : Brg) (A : Option Addr) (n c : Nat) : Prop :=
  w.cell? ⟨g, 0, none⟩ = some (.int .i64 b.mode) ∧ w.cell? ⟨g, 1, none⟩ = some (.int .i64 b.base) ∧ w.cell? ⟨g, 2, none⟩ = some (.slice A n c) ∧
  w.cell? ⟨g, 3, none⟩ = some (.int .i64 b.orders.page) ∧ w.cell? ⟨g, 4, none⟩ = some (.int .i64 b.orders.head) ∧ w.cell? ⟨g, 5, none⟩ = some (.int .i64 b.orders.tail) ∧
  w.cell? ⟨g, 6, none⟩ = some (.bool b.stopped) ∧ w.cell? ⟨g, 7, none⟩ = some (.int .i64 b.fences) ∧
  w.cell? ⟨g, 8, none⟩ = some (.int .i64 b.faults.page) ∧ w.cell? ⟨g, 9, none⟩ = some (.int .i64 b.faults.head) ∧ w.cell? ⟨g, 10, none⟩ = some (.int .i64 b.faults.tail) ∧ w.cell? ⟨g, 11, none⟩ = some (.bool b.lost)
theorem brg_since {w w' : World} {g : Nat} {b : Brg} {A : Option Addr} {n c : Nat} (h : BrgAt w g b A n c) (hs : Since w w') : BrgAt w' g b A n c := by
  obtain ⟨h0, h1, h2, h3, h4, h5, h6, h7, h8, h9, h10, h11⟩ := h
  exact ⟨since_cell hs h0, since_cell hs h1, since_cell hs h2, since_cell hs h3, since_cell hs h4, since_cell hs h5, since_cell hs h6, since_cell hs h7, since_cell hs h8, since_cell hs h9, since_cell hs h10, since_cell hs h11⟩
theorem brg_lt {w : World} {g : Nat} {b : Brg} {A : Option Addr} {n c : Nat} (h : BrgAt w g b A n c) : g < w.heap.size := cell_lt' h.1
/-- nothing but block g has turned. -/
def Only (g : Nat) (w w' : World) : Prop :=
  Below g w w' ∧ w.heap.size ≤ w'.heap.size ∧ (∀ q o, q ≠ g → q < w.heap.size → w'.cell? ⟨q, o, none⟩ = w.cell? ⟨q, o, none⟩) ∧ ∀ q o, q < w.heap.size → w'.frozen? ⟨q, o, none⟩ = w.frozen? ⟨q, o, none⟩
theorem only_since {g : Nat} {w w' : World} (hg : g < w.heap.size) (h : Since w w') : Only g w w' :=
  ⟨Below.mono h (Nat.le_of_lt hg), h.size, fun q o _ hq => Below.cell (p := ⟨q, o, none⟩) h hq, fun q o hq => Below.frozen (p := ⟨q, o, none⟩) h hq⟩
/-- a slice that was, or lies in memory made since. -/
def NewIn (w : World) (A A' : Option Addr) : Prop := ∀ ad, A' = some ad → A = some ad ∨ w.heap.size ≤ ad.block
theorem new_same (w : World) (A : Option Addr) : NewIn w A A := fun _ h => Or.inl h
end

section
attribute [local go_sem ↓] Go.wp_at_zero Go.wp_at_succ


theorem ints_snc {w W : World} {A : Option Addr} {n : Nat} {xs : List Int} (hx : Ints w w.heap.size A n xs) (h : Since w W) : Ints W W.heap.size A n xs := ints_now hx h
theorem lines_snc {w W : World} {A : Option Addr} {n c : Nat} {ls : List Line} (hx : Lines w w.heap.size A n c ls) (h : Since w W) : Lines W W.heap.size A n c ls := lines_now hx h
theorem since_B {w1 W : World} {c0 c1 c2 c3 c4 c5 c6 c7 c8 c9 c10 c11 c12 : Prop} (h : c0 ∧ c1 ∧ c2 ∧ c3 ∧ c4 ∧ c5 ∧ c6 ∧ c7 ∧ c8 ∧ c9 ∧ c10 ∧ c11 ∧ c12 ∧ Hid (Since w1 W)) : Since w1 W := h.2.2.2.2.2.2.2.2.2.2.2.2.2
theorem since_set {w1 W : World} {p : Addr} (h : Since w1 W) (hp : w1.heap.size ≤ p.block) (u : Value) : Since w1 (W.setCell p u) := Below.setCell h hp u
theorem only_set {w W : World} {g o : Nat} (hg : g < w.heap.size) (h : Since w W) (u : Value) : Only g w (W.setCell ⟨g, o, none⟩ u) :=
  ⟨(Below.mono h (Nat.le_of_lt hg)).setCell (Nat.le_refl _) _, by have := h.size; simpa using this, fun q j hq hl => by
    rw [World.cell?_setCell_other _ _ _ _ (by intro e; exact hq (by have := congrArg Addr.block e; simp at this; omega))]; exact Below.cell (p := ⟨q, j, none⟩) h hl, fun q j hl => by
    rw [World.frozen?_setCell]; exact Below.frozen (p := ⟨q, j, none⟩) h hl⟩

end

section
attribute [local go_sem ↓] Go.wp_at_zero Go.wp_at_succ

theorem lines_off {w : World} {B n c : Nat} {A : Option Addr} {ls : List Line} (h : Lines w B A n c ls) {p : Addr} (hp : ∀ ad, A = some ad → ad.block ≠ p.block) (u : Value) : Lines (w.setCell p u) B A n c ls := by
  obtain ⟨h1, h2, h3, h4, h5⟩ := h
  refine ⟨h1, h2, h3, h4, fun h0 => ?_⟩
  obtain ⟨b, off, e, hb, hc⟩ := h5 h0
  exact ⟨b, off, e, hb, fun j v hv => (World.cell?_setCell_other _ _ _ _ (fun e' => hp _ e (by have := congrArg Addr.block e'; simpa using this.symm))).trans (hc j v hv)⟩
end

section
def ringEq (r s : Ring) : Bool := r.page == s.page && r.head == s.head && r.tail == s.tail
set_option maxRecDepth 100000 in
theorem Try.eqlRing (x y : Ring) (w : World) : (binOp .eql 26 (.agg #[.int .i64 x.page, .int .i64 x.head, .int .i64 x.tail]) (.agg #[.int .i64 y.page, .int .i64 y.head, .int .i64 y.tail])).run Try.prog w = .ok (.bool (ringEq x y)) w := by
  unfold ringEq
  simp [go_sem]
  repeat' split
  all_goals simp_all
theorem sameB_and (a b : Brg) : sameB a b = (a.mode == b.mode && a.base == b.base && eqL a.cache b.cache && ringEq a.orders b.orders && a.stopped == b.stopped && a.fences == b.fences && ringEq a.faults b.faults && a.lost == b.lost) := by
  unfold sameB
  by_cases h : a = b
  · subst h; simp [eqL, ringEq]
  · rw [decide_eq_false h]
    symm
    rw [Bool.eq_false_iff]
    intro hh
    simp only [Bool.and_eq_true, beq_iff_eq, eqL, ringEq, decide_eq_true_eq] at hh
    obtain ⟨⟨⟨⟨⟨⟨⟨h1, h2⟩, h3⟩, ⟨h4, h5⟩, h6⟩, h7⟩, h8⟩, ⟨h9, h10⟩, h11⟩, h12⟩ := hh
    exact h (Brg.ext' h1 h2 h3 (Ring.ext' h4 h5 h6) h7 h8 (Ring.ext' h9 h10 h11) h12)
end
end

section
/-- nothing but blocks g and g' has turned. -/
def Only2 (g g' : Nat) (w w' : World) : Prop :=
  w.heap.size ≤ w'.heap.size ∧ (∀ q o, q ≠ g → q ≠ g' → q < w.heap.size → w'.cell? ⟨q, o, none⟩ = w.cell? ⟨q, o, none⟩) ∧ ∀ q o, q < w.heap.size → w'.frozen? ⟨q, o, none⟩ = w.frozen? ⟨q, o, none⟩
theorem own_blk {w : World} {B size n : Nat} {e : TypeId} {A : Option Addr} {m c : Nat} {ys : List Value} (h : w.ownsRow B e size (.slice A m c) n ys) : ∀ ad, A = some ad → B ≤ ad.block ∧ ad.block < w.heap.size := by
  intro ad e
  rcases h.2 with ⟨hv, _⟩ | ⟨g, cap, cur, hv, hb, hg, _⟩
  · injection hv with h1; rw [h1] at e; cases e
  · injection hv with h1; rw [h1] at e; injection e with e; subst e
    refine ⟨hb, ?_⟩
    rcases Nat.lt_or_ge g w.heap.size with hlt | hge
    · exact hlt
    · rw [Array.getElem?_eq_none hge] at hg; cases hg
theorem o2_refl {g g' : Nat} (w : World) : Only2 g g' w w := ⟨Nat.le_refl _, fun _ _ _ _ _ => rfl, fun _ _ _ => rfl⟩
theorem o2_drew {g g' : Nat} {w W : World} (h : Only2 g g' w W) : Only2 g g' w W.drew := h
theorem o2_step {g g' : Nat} {w W W' : World} (hb : Below W.heap.size W W') (h : Only2 g g' w W) : Only2 g g' w W' :=
  ⟨Nat.le_trans h.1 hb.size, fun q o h1 h2 hl => (hb.cell (p := ⟨q, o, none⟩) (Nat.lt_of_lt_of_le hl h.1)).trans (h.2.1 q o h1 h2 hl), fun q o hl => (hb.frozen (p := ⟨q, o, none⟩) (Nat.lt_of_lt_of_le hl h.1)).trans (h.2.2 q o hl)⟩
theorem o2_set {g g' : Nat} {w W : World} {p : Addr} (h : Only2 g g' w W) (hp : p.block = g ∨ p.block = g') (u : Value) : Only2 g g' w (W.setCell p u) :=
  ⟨by have := h.1; simpa using this, fun q o h1 h2 hl => by
    rw [World.cell?_setCell_other _ _ _ _ (by intro e; have := congrArg Addr.block e; simp at this; omega)]; exact h.2.1 q o h1 h2 hl, fun q o hl => by
    rw [World.frozen?_setCell]; exact h.2.2 q o hl⟩
/-- but for some blocks all is as it was. -/
def Same3 (P : Nat → Prop) (w w' : World) : Prop := w.heap.size ≤ w'.heap.size ∧ ∀ q o, ¬ P q → q < w.heap.size → w'.cell? ⟨q, o, none⟩ = w.cell? ⟨q, o, none⟩
theorem sm_refl {P : Nat → Prop} (w : World) : Same3 P w w := ⟨Nat.le_refl _, fun _ _ _ _ => rfl⟩
theorem sm_drew {P : Nat → Prop} {w W : World} (h : Same3 P w W) : Same3 P w W.drew := h
theorem sm_set {P : Nat → Prop} {w W : World} {p : Addr} (h : Same3 P w W) (hp : P p.block) (u : Value) : Same3 P w (W.setCell p u) :=
  ⟨by have := h.1; simpa using this, fun q o h1 hl => by
    rw [World.cell?_setCell_other _ _ _ _ (by intro e; have := congrArg Addr.block e; simp at this; rw [← this] at h1; exact h1 hp)]; exact h.2 q o h1 hl⟩
theorem sm_ints {P : Nat → Prop} {w w' : World} {A : Option Addr} {k : Nat} {ys : List Int} (hx : Ints w w.heap.size A k ys) (ho : Same3 P w w') (hf : ∀ ad, A = some ad → ¬ P ad.block) : Ints w' w'.heap.size A k ys := by
  refine ⟨hx.1, hx.2.1, fun hn => ?_⟩
  obtain ⟨b, off, e, hb, hc⟩ := hx.2.2 hn
  exact ⟨b, off, e, Nat.lt_of_lt_of_le hb ho.1, fun j v hv => (ho.2 b _ (hf _ e) hb).trans (hc j v hv)⟩
theorem sm_lines {P : Nat → Prop} {w w' : World} {A : Option Addr} {k d : Nat} {ls : List Line} (hx : Lines w w.heap.size A k d ls) (ho : Same3 P w w') (hf : ∀ ad, A = some ad → ¬ P ad.block) : Lines w' w'.heap.size A k d ls := by
  obtain ⟨h1, h2, h3, h4, h5⟩ := hx
  refine ⟨h1, h2, h3, h4, fun h0 => ?_⟩
  obtain ⟨b, off, e, hb, hc⟩ := h5 h0
  exact ⟨b, off, e, Nat.lt_of_lt_of_le hb ho.1, fun j v hv => (ho.2 b _ (hf _ e) hb).trans (hc j v hv)⟩
end
end Go.Proofs.Ytbopdijnojaaiab
