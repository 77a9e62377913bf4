/- Rings: what the law RingOrder carries through its loops. No statement of the seat is proved here. -/
import Derived.Test.YtbopdijnojaaiabRingL
import Derived.Test.YtbopdijnojaaiabCloneL
import Derived.Test.YtbopdijnojaaiabAt
import Derived.Test.YtbopdijnojaaiabDelP
import Derived.Deep.AppendLies
namespace Go.Proofs.Ytbopdijnojaaiab
open Go.RowKit
set_option linter.unusedSimpArgs false
set_option linter.unusedVariables false

/-- the ring from which k words were popped. -/
def popN (k : Nat) (r : Ring) : Ring := ⟨r.page, (r.head + k) % 8, r.tail⟩
theorem popN_0 {r : Ring} (h : ringR r) : popN 0 r = r := by
  unfold ringR at h
  exact Ring.ext' rfl (by unfold popN; simp only []; omega) rfl
theorem popN_pop {r : Ring} (k : Nat) (h : ringR r) : popR (popN k r) = popN (k + 1) r := by
  unfold ringR at h
  exact Ring.ext' rfl (by unfold popR popN; simp only []; omega) rfl
theorem popN_ring {r : Ring} (k : Nat) (h : ringR r) : ringR (popN k r) := by unfold ringR at *; unfold popN; simp only []; omega
theorem popN_len {r : Ring} {k l : Nat} (h : ringR r) (hl : lenR r = l) (hk : k ≤ l) : lenR (popN k r) = (l : Int) - k := by
  unfold ringR at h; unfold lenR popN at *; simp only []; omega
theorem inRing_succ {xs : List Int} {r : Ring} (k : Nat) (h : ringR r) : inRing xs (k + 1) r = inRing xs k r ++ [popV xs (popN k r)] := by
  rw [inRing_snoc xs k r h]; rfl
theorem inRing_get {xs : List Int} {r : Ring} (h : ringR r) : ∀ (l k : Nat), k < l → (inRing xs l r)[k]? = some (popV xs (popN k r))
  | 0, k, hk => by omega
  | l + 1, k, hk => by
    rw [inRing_succ l h]
    rcases Nat.lt_or_ge k l with h1 | h1
    · rw [List.getElem?_append_left (by rw [inRing_len]; exact h1)]; exact inRing_get h l k h1
    · have e : k = l := by omega
      subst e
      rw [List.getElem?_append_right (by rw [inRing_len]; exact Nat.le_refl _), inRing_len, Nat.sub_self]; rfl
theorem pop_good {xs : List Int} {r : Ring} {l k : Nat} (h0 : cm xs = 0) (h : ringR r) (hl : lenR r = l) (hk : k < l) : popE xs (popN k r) = 0 ∧ popW xs (popN k r) = popV xs (popN k r) ∧ popT xs (popN k r) = popN (k + 1) r := by
  have e : popE xs (popN k r) = 0 := popE_0 (bothE_0 h0 (popN_ring k h)) (by rw [popN_len h hl (by omega)]; omega)
  exact ⟨e, by unfold popW; rw [if_pos e], by unfold popT; rw [if_pos e, popN_pop k h]⟩
theorem pop_end {xs : List Int} {r : Ring} {l : Nat} (h0 : cm xs = 0) (h : ringR r) (hl : lenR r = l) : popE xs (popN l r) = 6 ∧ popW xs (popN l r) = 0 ∧ popT xs (popN l r) = Ring.no := by
  have e : popE xs (popN l r) = 6 := popE_6 (bothE_0 h0 (popN_ring l h)) (by rw [popN_len h hl (Nat.le_refl _)]; omega)
  exact ⟨e, by unfold popW; rw [if_neg (by rw [e]; decide)], by unfold popT; rw [if_neg (by rw [e]; decide)]⟩
theorem pop_ans (A : Option Addr) (n c : Nat) (xs : List Int) (r s : Ring) (v E : Int) (w : World) (hx : Ints w w.heap.size A n xs) (hE : popE xs r = E ∧ popW xs r = v ∧ popT xs r = s) :
    Calls Try.prog 19 #[.agg #[.slice A n c], .agg #[.int .i64 r.page, .int .i64 r.head, .int .i64 r.tail]] w fun e w' => e = .returned (.tuple #[.int .i64 v, .agg #[.int .i64 s.page, .int .i64 s.head, .int .i64 s.tail], .int .i64 E]) ∧ Below w.heap.size w w' := by
  have := any_Pop A n c xs r.page r.head r.tail w hx
  obtain ⟨h1, h2, h3⟩ := hE
  have er : (⟨r.page, r.head, r.tail⟩ : Ring) = r := rfl
  rw [er, h1, h2, h3] at this
  exact this

/-- what the law carries: its own memory and ring in boxes g9, g10, and what is wanted. -/
structure St (w4 : World) (B g9 g10 : Nat) (wr : World) (A9 : Option Addr) (c9 : Nat) (r : Ring) (A8 : Option Addr) (k c8 : Nat) (ws : List Int) : Prop where
  base : Below w4.heap.size w4 wr
  sz : B ≤ wr.heap.size
  m : wr.cell? ⟨g9, 0, none⟩ = some (.slice A9 512 c9)
  r0 : wr.cell? ⟨g10, 0, none⟩ = some (.int .i64 r.page)
  r1 : wr.cell? ⟨g10, 1, none⟩ = some (.int .i64 r.head)
  r2 : wr.cell? ⟨g10, 2, none⟩ = some (.int .i64 r.tail)
  f9 : ∀ o, wr.frozen? ⟨g9, o, none⟩ = false
  f10 : ∀ o, wr.frozen? ⟨g10, o, none⟩ = false
  own : OwnI B wr A8 k c8 ws
/-- where the boxes lie. -/
structure Lie (w4 : World) (B g9 g10 : Nat) : Prop where
  a : w4.heap.size ≤ g9
  b : g9 < B
  c : w4.heap.size ≤ g10
  d : g10 < B
  e : g9 ≠ g10
section
variable {w4 wr wX w7 : World} {B g9 g10 : Nat} {A9 : Option Addr} {c9 : Nat} {r : Ring} {A8 : Option Addr} {k c8 : Nat} {ws : List Int}
theorem St.since (h : St w4 B g9 g10 wr A9 c9 r A8 k c8 ws) (hl : Lie w4 B g9 g10) (hs : Since wr wX) : St w4 B g9 g10 wX A9 c9 r A8 k c8 ws where
  base := h.base.trans (Below.mono hs h.base.size)
  sz := Nat.le_trans h.sz (Below.size hs)
  m := since_cell hs h.m
  r0 := since_cell hs h.r0
  r1 := since_cell hs h.r1
  r2 := since_cell hs h.r2
  f9 := fun o => (Below.frozen (p := ⟨g9, o, none⟩) hs (Nat.lt_of_lt_of_le hl.b h.sz)).trans (h.f9 o)
  f10 := fun o => (Below.frozen (p := ⟨g10, o, none⟩) hs (Nat.lt_of_lt_of_le hl.d h.sz)).trans (h.f10 o)
  own := h.own.below hs
theorem own_rows {B : Nat} {w : World} {e : TypeId} {size n : Nat} {v : Value} {ys : List Value} (h : w.ownsRow B e size v n ys) : ∀ q, v.ownBlock = some q → B ≤ q := by
  intro q hq
  rcases own_form h with ⟨hv, _⟩ | ⟨g, cap, hv, _, _, hg, _⟩
  · subst hv; cases hq
  · subst hv; simp [Value.ownBlock] at hq; omega
theorem St.grow (h : St w4 B g9 g10 wr A9 c9 r A8 k c8 ws) (hl : Lie w4 B g9 g10) {g cap : Nat} {v : Int} (hown : w7.ownsRow B 3 1 (.slice (some ⟨g, 0, none⟩) (k + 1) cap) (k + 1) (ws.map (Value.int .i64) ++ [.int .i64 v])) (hgrow : wr.grownBy w7 (Value.slice A8 k c8).ownBlock) :
    St w4 B g9 g10 w7 A9 c9 r (some ⟨g, 0, none⟩) (k + 1) cap (ws ++ [v]) := by
  have hB := own_rows h.own.2
  have n9 : some g9 ≠ (Value.slice A8 k c8).ownBlock := fun e => by have := hB _ e.symm; have := hl.b; omega
  have n10 : some g10 ≠ (Value.slice A8 k c8).ownBlock := fun e => by have := hB _ e.symm; have := hl.d; omega
  have l9 := Nat.lt_of_lt_of_le hl.b h.sz
  have l10 := Nat.lt_of_lt_of_le hl.d h.sz
  refine ⟨Below.grown h.base hgrow h.base.size (fun q hq => ?_), Nat.le_trans h.sz hgrow.size, ?_, ?_, ?_, ?_, fun o => ?_, fun o => ?_, ?_⟩
  · have := hB q hq; have := hl.a; have := hl.b; omega
  · exact (hgrow.cell_far ⟨g9, 0, none⟩ l9 n9).trans h.m
  · exact (hgrow.cell_far ⟨g10, 0, none⟩ l10 n10).trans h.r0
  · exact (hgrow.cell_far ⟨g10, 1, none⟩ l10 n10).trans h.r1
  · exact (hgrow.cell_far ⟨g10, 2, none⟩ l10 n10).trans h.r2
  · exact (hgrow.frozen_far ⟨g9, o, none⟩ l9 n9).trans (h.f9 o)
  · exact (hgrow.frozen_far ⟨g10, o, none⟩ l10 n10).trans (h.f10 o)
  · exact ⟨by rw [List.length_append, h.own.1]; rfl, by rw [List.map_append]; exact hown⟩
theorem St.ring (h : St w4 B g9 g10 wr A9 c9 r A8 k c8 ws) (hl : Lie w4 B g9 g10) (s : Ring) :
    St w4 B g9 g10 (((wr.setCell ⟨g10, 0, none⟩ (.int .i64 s.page)).setCell ⟨g10, 1, none⟩ (.int .i64 s.head)).setCell ⟨g10, 2, none⟩ (.int .i64 s.tail)) A9 c9 s A8 k c8 ws := by
  obtain ⟨h1, h2, h3, h4, h5, h6, h7, h8, h9⟩ := h
  have e := hl.e
  have e' : ¬ g10 = g9 := fun q => e q.symm
  refine ⟨((h1.setCell hl.c _).setCell hl.c _).setCell hl.c _, by simpa using h2, ?_, ?_, ?_, ?_, fun o => ?_, fun o => ?_, ?_⟩
  · simp [go_sem, *]
  · simp [go_sem, *]
  · simp [go_sem, *]
  · simp [go_sem, *]
  · simp only [World.frozen?_setCell]; exact h7 o
  · simp only [World.frozen?_setCell]; exact h8 o
  · exact ((h9.set hl.d _).set hl.d _).set hl.d _
theorem St.mem (h : St w4 B g9 g10 wr A9 c9 r A8 k c8 ws) (hl : Lie w4 B g9 g10) (A' : Option Addr) (c' : Nat) :
    St w4 B g9 g10 (wr.setCell ⟨g9, 0, none⟩ (.slice A' 512 c')) A' c' r A8 k c8 ws := by
  obtain ⟨h1, h2, h3, h4, h5, h6, h7, h8, h9⟩ := h
  have e := hl.e
  have e' : ¬ g10 = g9 := fun q => e q.symm
  refine ⟨h1.setCell hl.a _, by simpa using h2, ?_, ?_, ?_, ?_, fun o => ?_, fun o => ?_, h9.set hl.b _⟩
  · simp [go_sem, *]
  · simp [go_sem, *]
  · simp [go_sem, *]
  · simp [go_sem, *]
  · simp only [World.frozen?_setCell]; exact h7 o
  · simp only [World.frozen?_setCell]; exact h8 o
end
end Go.Proofs.Ytbopdijnojaaiab
