/- Small words and lemmas that the walks and the plain laws of this seat share: how a slice lies in memory as a row of cells, and what keeps it so. No statement of the seat is proved here. -/
import Derived.WalkKit
import Derived.WalkSpells
import Derived.WalkLawsBesides
import Derived.Deep.QuietTactic
import Derived.BigQuiet
import Derived.Lib.Hide
import Derived.Laws.OwnMore
import Derived.Deep.AppendLies
import Derived.Deep.Draws
namespace Go.Proofs.Ytbopdijnojaaiab
open Go.RowKit

theorem ret_int {k : IntKind} {a b : Int} (h : a = b) : Ending.returned (.int k a) = .returned (.int k b) := by rw [h]
theorem ret_bool {a b : Bool} (h : a = b) : Ending.returned (.bool a) = .returned (.bool b) := by rw [h]
theorem ret_int2 {k l : IntKind} {a b c d : Int} (h : a = b) (h' : c = d) : Ending.returned (.tuple #[.int k a, .int l c]) = .returned (.tuple #[.int k b, .int l d]) := by rw [h, h']

theorem ret_bool3 {a b c d e f : Bool} (h : a = b) (h' : c = d) (h'' : e = f) : Ending.returned (.tuple #[.bool a, .bool c, .bool e]) = .returned (.tuple #[.bool b, .bool d, .bool f]) := by rw [h, h', h'']
theorem below_alloc (w : World) : ∀ o, Below w.heap.size w (w.alloc o) := fun o => (Below.refl _ _).alloc (Nat.le_refl _) o

theorem some_of_lt {α : Type} (xs : List α) {k : Nat} (h : k < xs.length) : ∃ x, xs[k]? = some x := ⟨_, List.getElem?_eq_getElem h⟩
theorem all_take_succ {α : Type} {p : α → Bool} {xs : List α} {k : Nat} {x : α} (hx : xs[k]? = some x) (h : (xs.take k).all p = true) (hp : p x = true) : (xs.take (k + 1)).all p = true := by
  rw [List.take_add_one, hx]; simp [h, hp]
theorem all_false {α : Type} {p : α → Bool} {xs : List α} {k : Nat} {x : α} (hx : xs[k]? = some x) (h : p x = false) : xs.all p = false := by
  rw [List.all_eq_false]; exact ⟨x, List.mem_of_getElem? hx, by simp [h]⟩

theorem bcell {W w1 : World} (hb : Below W.heap.size W w1) : (∀ b o, b < W.heap.size → w1.cell? ⟨b, o, none⟩ = W.cell? ⟨b, o, none⟩) ∧ (∀ b o, b < W.heap.size → w1.frozen? ⟨b, o, none⟩ = W.frozen? ⟨b, o, none⟩) :=
  ⟨fun b o h => hb.cell (p := ⟨b, o, none⟩) h, fun b o h => hb.frozen (p := ⟨b, o, none⟩) h⟩

theorem bdrewN {B : Nat} {a w : World} (h : Below B a w) (n : Nat) : Below B a (w.drewN n) := ⟨h.os, h.tape, h.output, h.size, h.block⟩

/-- A row of cells at an address below block B: nothing is asked of an empty one. -/
def Row (w : World) (B : Nat) (A : Option Addr) (vs : List Value) : Prop :=
  0 < vs.length → ∃ b off, A = some ⟨b, off, none⟩ ∧ b < B ∧ ∀ k v, vs[k]? = some v → w.cell? ⟨b, off + k, none⟩ = some v

section
variable {w w' : World} {B B' : Nat} {A : Option Addr} {vs : List Value}
theorem Row.keep (h : Row w B A vs) (hk : ∀ p : Addr, p.block < B → w'.cell? p = w.cell? p) : Row w' B A vs := fun hn => by
  obtain ⟨b, off, e, hb, hc⟩ := h hn
  exact ⟨b, off, e, hb, fun k v hv => (hk _ hb).trans (hc k v hv)⟩
theorem Row.more (h : Row w B A vs) (hB : B ≤ B') : Row w B' A vs := fun hn => by
  obtain ⟨b, off, e, hb, hc⟩ := h hn
  exact ⟨b, off, e, by omega, hc⟩
theorem Row.below (h : Row w B A vs) (hb : Below B w w') : Row w' B A vs := h.keep fun _ hp => hb.cell hp
theorem Row.drew (h : Row w B A vs) : Row w.drew B A vs := h
theorem Row.alloc (h : Row w B A vs) (hB : B ≤ w.heap.size) (o : Obj) : Row (w.alloc o) B A vs := h.keep fun p hp => World.cell?_alloc_lt w o p (by omega)
theorem Row.setCell (h : Row w B A vs) {p : Addr} (hB : B ≤ p.block) (u : Value) : Row (w.setCell p u) B A vs :=
  h.keep fun q hq => World.cell?_setCell_other w p q u (fun e => by subst e; omega)
theorem Row.nil_ : Row w B A [] := fun h => absurd h (by simp)
theorem Row.of_own {base : Nat} {e : TypeId} {size n c : Nat} (h : w.ownsRow base e size (.slice A n c) n vs) : Row w w.heap.size A vs := fun hn => by
  have hl : vs.length = n * size := h.1
  have hn' : 0 < n := by
    rcases Nat.eq_zero_or_pos n with h0 | h0
    · subst h0; rw [Nat.zero_mul] at hl; omega
    · exact h0
  obtain ⟨g, cap, hv, _, hlt⟩ := h.form hn'
  have hA : A = some ⟨g, 0, none⟩ := by injection hv
  subst hA
  have hc := h.cells (g := g) rfl
  refine ⟨g, 0, rfl, hlt, fun k v hv => ?_⟩
  rw [Nat.zero_add]
  have := hc k v hv
  by_cases hk : k = 0
  · subst hk; simpa [Addr.add] using this
  · simpa [Addr.add, hk] using this
end

/-- These blocks hold these cells. -/
def CutL (wc : World) : List (Nat × List Value) → Prop
  | [] => True
  | (g, cs) :: r => (g < wc.heap.size ∧ ∀ o, wc.cell? ⟨g, o, none⟩ = cs[o]?) ∧ CutL wc r
/-- What is known of a world at a cut: below the call's start nothing has turned, and these blocks hold these cells. -/
def CutW (w : World) (gs : List (Nat × List Value)) (wc : World) : Prop := Below w.heap.size w wc ∧ CutL wc gs

/-- A slice of ints that reads as xs. -/
def Ints (w : World) (B : Nat) (A : Option Addr) (n : Nat) (xs : List Int) : Prop :=
  xs.length = n ∧ n ≤ maxLen ∧ Row w B A (xs.map (Value.int .i64))

section
variable {w w' : World} {B B' n : Nat} {A : Option Addr} {xs : List Int}
theorem Ints.len (h : Ints w B A n xs) : xs.length = n := h.1
theorem Ints.bd (h : Ints w B A n xs) : n ≤ 9223372036854775807 := by have := h.2.1; unfold maxLen at this; omega
theorem Ints.at_ (h : Ints w B A n xs) (hn : 0 < n) : ∃ b off, A = some ⟨b, off, none⟩ ∧ b < B ∧ ∀ k x, xs[k]? = some x → w.cell? ⟨b, off + k, none⟩ = some (.int .i64 x) := by
  obtain ⟨b, off, e, hb, hc⟩ := h.2.2 (by simpa [h.1] using hn)
  exact ⟨b, off, e, hb, fun k x hx => hc k _ (by simp [hx])⟩
theorem Ints.more (h : Ints w B A n xs) (hB : B ≤ B') : Ints w B' A n xs := ⟨h.1, h.2.1, h.2.2.more hB⟩
theorem Ints.below (h : Ints w B A n xs) (hb : Below B w w') : Ints w' B A n xs := ⟨h.1, h.2.1, h.2.2.below hb⟩
theorem Ints.drew (h : Ints w B A n xs) : Ints w.drew B A n xs := h
theorem Ints.alloc (h : Ints w B A n xs) (hB : B ≤ w.heap.size) (o : Obj) : Ints (w.alloc o) B A n xs := ⟨h.1, h.2.1, h.2.2.alloc hB o⟩
theorem Ints.setCell (h : Ints w B A n xs) {p : Addr} (hB : B ≤ p.block) (u : Value) : Ints (w.setCell p u) B A n xs := ⟨h.1, h.2.1, h.2.2.setCell hB u⟩
end

theorem Ints.of_cells {w : World} {B g n : Nat} {xs : List Int} (hl : xs.length = n) (hn : n ≤ 9223372036854775807) (hg : g < B) (h : ∀ k, w.cell? ⟨g, k, none⟩ = (xs.map (Value.int .i64))[k]?) : Ints w B (some ⟨g, 0, none⟩) n xs :=
  ⟨hl, by unfold maxLen; omega, fun _ => ⟨g, 0, rfl, hg, fun k v hv => by rw [Nat.zero_add, h k, hv]⟩⟩

end Go.Proofs.Ytbopdijnojaaiab
