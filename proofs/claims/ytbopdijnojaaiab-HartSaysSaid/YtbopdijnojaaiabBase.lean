/- The bridge: plain laws on who was let through. No program in sight, no statement of the seat is proved here. -/
import Derived.WalkKit
import Derived.WalkSpells
import Derived.WalkLawsBesides
import Derived.Deep.QuietTactic
import Derived.BigQuiet
import Derived.Lib.Hide
import Derived.Laws.OwnMore
import Derived.Deep.AppendLies
import Derived.Deep.Draws
import Derived.Maps.Views
import Derived.Laws.IdiomCopy
namespace Go.Proofs.Ytbopdijnojaaiab
open Go.RowKit
set_option linter.unusedSimpArgs false
set_option linter.unusedVariables false

section

theorem ret_int {k : IntKind} {a b : Int} (h : a = b) : Ending.returned (.int k a) = .returned (.int k b) := by rw [h]
theorem ret_bool {a b : Bool} (h : a = b) : Ending.returned (.bool a) = .returned (.bool b) := by rw [h]
theorem ret_int2 {k l : IntKind} {a b c d : Int} (h : a = b) (h' : c = d) : Ending.returned (.tuple #[.int k a, .int l c]) = .returned (.tuple #[.int k b, .int l d]) := by rw [h, h']

theorem ret_bool3 {a b c d e f : Bool} (h : a = b) (h' : c = d) (h'' : e = f) : Ending.returned (.tuple #[.bool a, .bool c, .bool e]) = .returned (.tuple #[.bool b, .bool d, .bool f]) := by rw [h, h', h'']
theorem below_alloc (w : World) : ∀ o, Below w.heap.size w (w.alloc o) := fun o => (Below.refl _ _).alloc (Nat.le_refl _) o

theorem some_of_lt {α : Type} (xs : List α) {k : Nat} (h : k < xs.length) : ∃ x, xs[k]? = some x := ⟨_, List.getElem?_eq_getElem h⟩
theorem all_take_succ {α : Type} {p : α → Bool} {xs : List α} {k : Nat} {x : α} (hx : xs[k]? = some x) (h : (xs.take k).all p = true) (hp : p x = true) : (xs.take (k + 1)).all p = true := by
  rw [List.take_add_one, hx]; simp [h, hp]
theorem all_false {α : Type} {p : α → Bool} {xs : List α} {k : Nat} {x : α} (hx : xs[k]? = some x) (h : p x = false) : xs.all p = false := by
  rw [List.all_eq_false]; exact ⟨x, List.mem_of_getElem? hx, by simp [h]⟩

theorem bcell {W w1 : World} (hb : Below W.heap.size W w1) : (∀ b o, b < W.heap.size → w1.cell? ⟨b, o, none⟩ = W.cell? ⟨b, o, none⟩) ∧ (∀ b o, b < W.heap.size → w1.frozen? ⟨b, o, none⟩ = W.frozen? ⟨b, o, none⟩) :=
  ⟨fun b o h => hb.cell (p := ⟨b, o, none⟩) h, fun b o h => hb.frozen (p := ⟨b, o, none⟩) h⟩

theorem bdrewN {B : Nat} {a w : World} (h : Below B a w) (n : Nat) : Below B a (w.drewN n) := ⟨h.os, h.tape, h.output, h.size, h.block⟩

/-- A row of cells at an address below block B: nothing is asked of an empty one. -/
def Row (w : World) (B : Nat) (A : Option Addr) (vs : List Value) : Prop :=
  0 < vs.length → ∃ b off, A = some ⟨b, off, none⟩ ∧ b < B ∧ ∀ k v, vs[k]? = some v → w.cell? ⟨b, off + k, none⟩ = some v

section
variable {w w' : World} {B B' : Nat} {A : Option Addr} {vs : List Value}
theorem Row.keep (h : Row w B A vs) (hk : ∀ p : Addr, p.block < B → w'.cell? p = w.cell? p) : Row w' B A vs := fun hn => by
  obtain ⟨b, off, e, hb, hc⟩ := h hn
  exact ⟨b, off, e, hb, fun k v hv => (hk _ hb).trans (hc k v hv)⟩
theorem Row.more (h : Row w B A vs) (hB : B ≤ B') : Row w B' A vs := fun hn => by
  obtain ⟨b, off, e, hb, hc⟩ := h hn
  exact ⟨b, off, e, by omega, hc⟩
theorem Row.below (h : Row w B A vs) (hb : Below B w w') : Row w' B A vs := h.keep fun _ hp => hb.cell hp
theorem Row.drew (h : Row w B A vs) : Row w.drew B A vs := h
theorem Row.alloc (h : Row w B A vs) (hB : B ≤ w.heap.size) (o : Obj) : Row (w.alloc o) B A vs := h.keep fun p hp => World.cell?_alloc_lt w o p (by omega)
theorem Row.setCell (h : Row w B A vs) {p : Addr} (hB : B ≤ p.block) (u : Value) : Row (w.setCell p u) B A vs :=
  h.keep fun q hq => World.cell?_setCell_other w p q u (fun e => by subst e; omega)
theorem Row.nil_ : Row w B A [] := fun h => absurd h (by simp)
theorem Row.of_own {base : Nat} {e : TypeId} {size n c : Nat} (h : w.ownsRow base e size (.slice A n c) n vs) : Row w w.heap.size A vs := fun hn => by
  have hl : vs.length = n * size := h.1
  have hn' : 0 < n := by
    rcases Nat.eq_zero_or_pos n with h0 | h0
    · subst h0; rw [Nat.zero_mul] at hl; omega
    · exact h0
  obtain ⟨g, cap, hv, _, hlt⟩ := h.form hn'
  have hA : A = some ⟨g, 0, none⟩ := by injection hv
  subst hA
  have hc := h.cells (g := g) rfl
  refine ⟨g, 0, rfl, hlt, fun k v hv => ?_⟩
  rw [Nat.zero_add]
  have := hc k v hv
  by_cases hk : k = 0
  · subst hk; simpa [Addr.add] using this
  · simpa [Addr.add, hk] using this
end

/-- These blocks hold these cells. -/
def CutL (wc : World) : List (Nat × List Value) → Prop
  | [] => True
  | (g, cs) :: r => (g < wc.heap.size ∧ ∀ o, wc.cell? ⟨g, o, none⟩ = cs[o]?) ∧ CutL wc r
/-- What is known of a world at a cut: below the call's start nothing has turned, and these blocks hold these cells. -/
def CutW (w : World) (gs : List (Nat × List Value)) (wc : World) : Prop := Below w.heap.size w wc ∧ CutL wc gs

/-- A slice of ints that reads as xs. -/
def Ints (w : World) (B : Nat) (A : Option Addr) (n : Nat) (xs : List Int) : Prop :=
  xs.length = n ∧ n ≤ maxLen ∧ Row w B A (xs.map (Value.int .i64))

section
variable {w w' : World} {B B' n : Nat} {A : Option Addr} {xs : List Int}
theorem Ints.len (h : Ints w B A n xs) : xs.length = n := h.1
theorem Ints.bd (h : Ints w B A n xs) : n ≤ 9223372036854775807 := by have := h.2.1; unfold maxLen at this; omega
theorem Ints.at_ (h : Ints w B A n xs) (hn : 0 < n) : ∃ b off, A = some ⟨b, off, none⟩ ∧ b < B ∧ ∀ k x, xs[k]? = some x → w.cell? ⟨b, off + k, none⟩ = some (.int .i64 x) := by
  obtain ⟨b, off, e, hb, hc⟩ := h.2.2 (by simpa [h.1] using hn)
  exact ⟨b, off, e, hb, fun k x hx => hc k _ (by simp [hx])⟩
theorem Ints.more (h : Ints w B A n xs) (hB : B ≤ B') : Ints w B' A n xs := ⟨h.1, h.2.1, h.2.2.more hB⟩
theorem Ints.below (h : Ints w B A n xs) (hb : Below B w w') : Ints w' B A n xs := ⟨h.1, h.2.1, h.2.2.below hb⟩
theorem Ints.drew (h : Ints w B A n xs) : Ints w.drew B A n xs := h
theorem Ints.alloc (h : Ints w B A n xs) (hB : B ≤ w.heap.size) (o : Obj) : Ints (w.alloc o) B A n xs := ⟨h.1, h.2.1, h.2.2.alloc hB o⟩
theorem Ints.setCell (h : Ints w B A n xs) {p : Addr} (hB : B ≤ p.block) (u : Value) : Ints (w.setCell p u) B A n xs := ⟨h.1, h.2.1, h.2.2.setCell hB u⟩
end

theorem Ints.of_cells {w : World} {B g n : Nat} {xs : List Int} (hl : xs.length = n) (hn : n ≤ 9223372036854775807) (hg : g < B) (h : ∀ k, w.cell? ⟨g, k, none⟩ = (xs.map (Value.int .i64))[k]?) : Ints w B (some ⟨g, 0, none⟩) n xs :=
  ⟨hl, by unfold maxLen; omega, fun _ => ⟨g, 0, rfl, hg, fun k v hv => by rw [Nat.zero_add, h k, hv]⟩⟩
end

section
structure Line where
  dev : Int
  page : Int
  at_ : Int
  rd : Bool
  wr : Bool
def Line.vals (x : Line) : List Value := [.int .i64 x.dev, .int .i64 x.page, .int .i64 x.at_, .bool x.rd, .bool x.wr]
theorem Line.ext' {x y : Line} (h1 : x.dev = y.dev) (h2 : x.page = y.page) (h3 : x.at_ = y.at_) (h4 : x.rd = y.rd) (h5 : x.wr = y.wr) : x = y := by
  cases x; cases y; simp only [] at *; subst h1; subst h2; subst h3; subst h4; subst h5; rfl
instance : DecidableEq Line := fun x y =>
  if h : x.dev = y.dev ∧ x.page = y.page ∧ x.at_ = y.at_ ∧ x.rd = y.rd ∧ x.wr = y.wr then isTrue (Line.ext' h.1 h.2.1 h.2.2.1 h.2.2.2.1 h.2.2.2.2) else isFalse (fun e => h (by subst e; exact ⟨rfl, rfl, rfl, rfl, rfl⟩))
def lineEq (x y : Line) : Bool := decide (x = y)
def eqL (xs ys : List Line) : Bool := decide (xs = ys)

/-- is it the line of that page of that device? -/
def hitL (d p : Int) (x : Line) : Bool := x.dev == d && x.page == p
/-- chapter 4's Find. -/
def findL (ls : List Line) (d p : Int) : Int := match ls.findIdx? (hitL d p) with | some k => (k : Int) | none => -1
theorem findL_none {ls : List Line} {d p : Int} (h : ∀ x ∈ ls, hitL d p x = false) : findL ls d p = -1 := by
  unfold findL
  rw [List.findIdx?_eq_none_iff.2 h]
theorem findL_some {ls : List Line} {d p : Int} {k : Nat} {x : Line} (hk : ls[k]? = some x) (hx : hitL d p x = true) (h : ∀ y ∈ ls.take k, hitL d p y = false) : findL ls d p = (k : Int) := by
  unfold findL
  have hlt : k < ls.length := (List.getElem?_eq_some_iff.1 hk).1
  have hx' : ls[k] = x := (List.getElem?_eq_some_iff.1 hk).2
  have : ls.findIdx? (hitL d p) = some k := by
    rw [List.findIdx?_eq_some_iff_getElem]
    refine ⟨hlt, by rw [hx']; exact hx, fun j hj => ?_⟩
    have := h (ls[j]'(by omega)) (by rw [List.mem_take_iff_getElem]; exact ⟨j, by omega, rfl⟩)
    simp [this]
  rw [this]
theorem findL_cases (ls : List Line) (d p : Int) : (findL ls d p = -1 ∧ ∀ x ∈ ls, hitL d p x = false) ∨ ∃ (k : Nat) (x : Line), findL ls d p = (k : Int) ∧ ls[k]? = some x ∧ hitL d p x = true ∧ ∀ y ∈ ls.take k, hitL d p y = false := by
  unfold findL
  cases h : ls.findIdx? (hitL d p) with
  | none => left; exact ⟨rfl, List.findIdx?_eq_none_iff.1 h⟩
  | some k =>
    right
    obtain ⟨hk, hx, hj⟩ := List.findIdx?_eq_some_iff_getElem.1 h
    refine ⟨k, ls[k], rfl, List.getElem?_eq_getElem hk, hx, fun y hy => ?_⟩
    obtain ⟨j, hj', rfl⟩ := List.mem_take_iff_getElem.1 hy
    have := hj j (by omega)
    simpa using this
theorem hitL_iff {d p : Int} {x : Line} : hitL d p x = true ↔ x.dev = d ∧ x.page = p := by simp [hitL]
theorem hitL_f {d p : Int} {x : Line} : hitL d p x = false ↔ ¬ (x.dev = d ∧ x.page = p) := by rw [← hitL_iff]; simp

/-- what is wrong with a line by itself. -/
def lineR (x : Line) : Prop := (0 ≤ x.dev ∧ x.dev < 8) ∧ (0 ≤ x.page ∧ x.page < 64) ∧ (0 ≤ x.at_ ∧ x.at_ < 64)
instance (x : Line) : Decidable (lineR x) := by unfold lineR; exact inferInstance
def lineE (x : Line) : Int := if lineR x then (if x.rd then 0 else 3) else 2
/-- the rest of a cache behind what is there. -/
def ckL : List Line → List Line → Int
  | _, [] => 0
  | pre, x :: r => if lineE x = 0 then (if 0 ≤ findL pre x.dev x.page then 5 else ckL (pre ++ [x]) r) else lineE x
/-- chapter 4's Check. -/
def ckC (ls : List Line) : Int := if 6 < ls.length then 1 else ckL [] ls
theorem ckC_many {ls : List Line} (h : 6 < ls.length) : ckC ls = 1 := by simp only [ckC, if_pos h]
theorem ckC_few {ls : List Line} (h : ls.length ≤ 6) : ckC ls = ckL [] ls := by simp only [ckC, if_neg (show ¬ 6 < ls.length by omega)]
theorem ckL_step {ls : List Line} {k : Nat} {x : Line} (hx : ls[k]? = some x) (h0 : lineE x = 0) (hf : findL (ls.take k) x.dev x.page < 0) : ckL (ls.take k) (ls.drop k) = ckL (ls.take (k + 1)) (ls.drop (k + 1)) := by
  have hk : k < ls.length := (List.getElem?_eq_some_iff.1 hx).1
  have e : ls[k] = x := (List.getElem?_eq_some_iff.1 hx).2
  rw [List.drop_eq_getElem_cons hk, e]
  simp only [ckL, h0, if_true]
  rw [if_neg (by omega), List.take_add_one, hx]; rfl
theorem ckL_bad {ls : List Line} {k : Nat} {x : Line} (hx : ls[k]? = some x) (h0 : lineE x ≠ 0) : ckL (ls.take k) (ls.drop k) = lineE x := by
  have hk : k < ls.length := (List.getElem?_eq_some_iff.1 hx).1
  have e : ls[k] = x := (List.getElem?_eq_some_iff.1 hx).2
  rw [List.drop_eq_getElem_cons hk, e]
  simp only [ckL, h0, if_false]
theorem ckL_twice {ls : List Line} {k : Nat} {x : Line} (hx : ls[k]? = some x) (h0 : lineE x = 0) (hf : 0 ≤ findL (ls.take k) x.dev x.page) : ckL (ls.take k) (ls.drop k) = 5 := by
  have hk : k < ls.length := (List.getElem?_eq_some_iff.1 hx).1
  have e : ls[k] = x := (List.getElem?_eq_some_iff.1 hx).2
  rw [List.drop_eq_getElem_cons hk, e]
  simp only [ckL, h0, if_true, if_pos hf]
theorem ckL_end (ls : List Line) : ckL (ls.take ls.length) (ls.drop ls.length) = 0 := by simp [ckL]
theorem lineE_r {x : Line} (h : ¬ lineR x) : lineE x = 2 := by simp only [lineE, if_neg h]
theorem lineE_f {x : Line} (h : lineR x) (h' : x.rd = false) : lineE x = 3 := by simp [lineE, h, h']
theorem lineE_0 {x : Line} (h : lineR x) (h' : x.rd = true) : lineE x = 0 := by simp [lineE, h, h']
theorem lineE_inv {x : Line} (h : lineE x = 0) : lineR x ∧ x.rd = true := by
  unfold lineE at h; split at h
  · rename_i hr; split at h
    · rename_i hd; exact ⟨hr, hd⟩
    · cases h
  · cases h

/-- no two lines of one page of one device. -/
def Apart (ls : List Line) : Prop := ls.Pairwise fun x y => hitL y.dev y.page x = false
theorem ckL_ok : ∀ (ls pre : List Line), Apart pre → (∀ x ∈ pre, lineE x = 0) → (ckL pre ls = 0 ↔ Apart (pre ++ ls) ∧ ∀ x ∈ pre ++ ls, lineE x = 0)
  | [], pre, ha, hl => by rw [List.append_nil]; exact ⟨fun _ => ⟨ha, hl⟩, fun _ => by simp [ckL]⟩
  | x :: r, pre, ha, hl => by
    by_cases h0 : lineE x = 0
    · simp only [ckL, h0, if_true]
      by_cases hf : 0 ≤ findL pre x.dev x.page
      · rw [if_pos hf]
        refine ⟨(fun h => absurd h (by decide)), fun h => ?_⟩
        exfalso
        rcases findL_cases pre x.dev x.page with ⟨e, _⟩ | ⟨k, y, e, hy, hh, _⟩
        · omega
        · have := (List.pairwise_append.1 h.1).2.2 y (List.mem_of_getElem? hy) x (by simp)
          rw [hh] at this; cases this
      · rw [if_neg hf]
        have hn : ∀ y ∈ pre, hitL x.dev x.page y = false := by
          rcases findL_cases pre x.dev x.page with ⟨_, h⟩ | ⟨k, y, e, _⟩
          · exact h
          · omega
        have := ckL_ok r (pre ++ [x]) (by
          unfold Apart; rw [List.pairwise_append]; refine ⟨ha, by simp, fun a ha' b hb => ?_⟩
          simp at hb; subst hb; exact hn a ha') (fun y hy => by
          rw [List.mem_append] at hy; rcases hy with hy | hy
          · exact hl y hy
          · simp at hy; subst hy; exact h0)
        rw [this]; simp
    · have e : ckL pre (x :: r) = lineE x := by simp only [ckL, h0, if_false]
      rw [e]
      exact ⟨fun h => absurd h h0, fun h => absurd (h.2 x (by simp)) h0⟩
theorem ckC_iff (ls : List Line) : ckC ls = 0 ↔ ls.length ≤ 6 ∧ Apart ls ∧ ∀ x ∈ ls, lineE x = 0 := by
  by_cases h : 6 < ls.length
  · rw [ckC_many h]; exact ⟨(fun e => absurd e (by decide)), fun e => by omega⟩
  · rw [ckC_few (by omega), ckL_ok ls [] (by simp [Apart]) (by simp)]
    simp; omega
end

section
def lcells (ls : List Line) : List Value := ls.flatMap Line.vals
theorem lcells_len : ∀ ls : List Line, (lcells ls).length = ls.length * 5
  | [] => rfl
  | x :: r => by unfold lcells; rw [List.flatMap_cons, List.length_append]; have := lcells_len r; unfold lcells at this; rw [this]; simp [Line.vals]; omega
theorem lcells_at : ∀ (ls : List Line) (k : Nat) (x : Line) (j : Nat), ls[k]? = some x → j < 5 → (lcells ls)[k * 5 + j]? = x.vals[j]?
  | [], k, x, j, h, _ => by simp at h
  | y :: r, 0, x, j, h, hj => by
    simp at h; subst h
    unfold lcells
    rw [List.flatMap_cons, List.getElem?_append_left (by simp [Line.vals]; omega)]
    simp
  | y :: r, k + 1, x, j, h, hj => by
    simp at h
    unfold lcells
    rw [List.flatMap_cons, List.getElem?_append_right (by simp [Line.vals]; omega)]
    have := lcells_at r k x j h hj
    unfold lcells at this
    rw [← this]; congr 1; simp [Line.vals]; omega
theorem lcells_take : ∀ (k : Nat) (ls : List Line), (lcells ls).take (k * 5) = lcells (ls.take k)
  | 0, ls => by simp [lcells]
  | k + 1, [] => by simp [lcells]
  | k + 1, x :: r => by
    have := lcells_take k r
    unfold lcells at *
    rw [List.flatMap_cons, List.take_succ_cons, List.flatMap_cons, ← this, show (k + 1) * 5 = x.vals.length + k * 5 by simp [Line.vals]; omega, List.take_append]
    rw [List.take_of_length_le (by omega), Nat.add_sub_cancel_left]
/-- A slice of lines that reads as ls. -/
def Lines (w : World) (B : Nat) (A : Option Addr) (n c : Nat) (ls : List Line) : Prop :=
  ls.length = n ∧ n ≤ c ∧ c ≤ maxLen ∧ (A = none → c = 0) ∧ Row w B A (lcells ls)
/-- the five cells of a line. -/
def LineAt (w : World) (b o : Nat) (x : Line) : Prop :=
  w.cell? ⟨b, o, none⟩ = some (.int .i64 x.dev) ∧ w.cell? ⟨b, o + 1, none⟩ = some (.int .i64 x.page) ∧ w.cell? ⟨b, o + 2, none⟩ = some (.int .i64 x.at_) ∧ w.cell? ⟨b, o + 3, none⟩ = some (.bool x.rd) ∧ w.cell? ⟨b, o + 4, none⟩ = some (.bool x.wr)

section
variable {w w' : World} {B B' n c : Nat} {A : Option Addr} {ls : List Line}
theorem Lines.len (h : Lines w B A n c ls) : ls.length = n := h.1
theorem Lines.cap (h : Lines w B A n c ls) : n ≤ c ∧ c ≤ 9223372036854775807 := ⟨h.2.1, by have := h.2.2.1; unfold maxLen at this; omega⟩
theorem Lines.at_ (h : Lines w B A n c ls) (hn : 0 < n) : ∃ b off, A = some ⟨b, off, none⟩ ∧ b < B ∧ ∀ k x, ls[k]? = some x → LineAt w b (off + k * 5) x := by
  obtain ⟨b, off, e, hb, hc⟩ := h.2.2.2.2 (by rw [lcells_len, h.1]; omega)
  refine ⟨b, off, e, hb, fun k x hx => ?_⟩
  have := fun j hj => lcells_at ls k x j hx hj
  refine ⟨?_, ?_, ?_, ?_, ?_⟩
  · exact hc (k * 5) _ ((this 0 (by omega)).trans rfl)
  · rw [Nat.add_assoc]; exact hc (k * 5 + 1) _ ((this 1 (by omega)).trans rfl)
  · rw [Nat.add_assoc]; exact hc (k * 5 + 2) _ ((this 2 (by omega)).trans rfl)
  · rw [Nat.add_assoc]; exact hc (k * 5 + 3) _ ((this 3 (by omega)).trans rfl)
  · rw [Nat.add_assoc]; exact hc (k * 5 + 4) _ ((this 4 (by omega)).trans rfl)
theorem Lines.more (h : Lines w B A n c ls) (hB : B ≤ B') : Lines w B' A n c ls := ⟨h.1, h.2.1, h.2.2.1, h.2.2.2.1, h.2.2.2.2.more hB⟩
theorem Lines.below (h : Lines w B A n c ls) (hb : Below B w w') : Lines w' B A n c ls := ⟨h.1, h.2.1, h.2.2.1, h.2.2.2.1, h.2.2.2.2.below hb⟩
theorem Lines.drew (h : Lines w B A n c ls) : Lines w.drew B A n c ls := h
theorem Lines.alloc (h : Lines w B A n c ls) (hB : B ≤ w.heap.size) (o : Obj) : Lines (w.alloc o) B A n c ls := ⟨h.1, h.2.1, h.2.2.1, h.2.2.2.1, h.2.2.2.2.alloc hB o⟩
theorem Lines.setCell (h : Lines w B A n c ls) {p : Addr} (hB : B ≤ p.block) (u : Value) : Lines (w.setCell p u) B A n c ls := ⟨h.1, h.2.1, h.2.2.1, h.2.2.2.1, h.2.2.2.2.setCell hB u⟩
theorem lines_none (w : World) (B : Nat) : Lines w B none 0 0 [] := ⟨rfl, Nat.le_refl _, Nat.zero_le _, fun _ => rfl, Row.nil_⟩
/-- the first k lines. -/
theorem Lines.take (h : Lines w B A n c ls) {k : Nat} (hk : k ≤ n) : Lines w B A k c (ls.take k) :=
  ⟨by rw [List.length_take, h.1]; omega, Nat.le_trans hk h.2.1, h.2.2.1, h.2.2.2.1, fun h0 => by
    have hl : 0 < (lcells ls).length := by
      rw [lcells_len] at *; rw [List.length_take] at h0; omega
    obtain ⟨b, off, e, hb, hc⟩ := h.2.2.2.2 hl
    refine ⟨b, off, e, hb, fun j v hv => hc j v ?_⟩
    rw [← lcells_take] at hv
    have hj : j < k * 5 := by have := (List.getElem?_eq_some_iff.1 hv).1; rw [List.length_take] at this; omega
    rw [List.getElem?_take, if_pos hj] at hv
    exact hv⟩
end
end

section
section
open Go.Maps

theorem key_ne {a b : Int} (h : a ≠ b) : (Lit.int .i64 a) ≠ Lit.int .i64 b := fun e => h (by injection e)
/-- DeleteFunc's loop: of j lines i are kept, and lie ahead; from j on all is as it was. -/
structure KeptL (q : Line → Bool) (ls zs : List Line) (i j : Nat) : Prop where
  len : zs.length = ls.length
  cnt : ((ls.take j).filter q).length = i
  lt : i < j
  jle : j ≤ ls.length
  low : zs.take i = (ls.take j).filter q
  high : ∀ t, j ≤ t → zs[t]? = ls[t]?
theorem KeptL.start {q : Line → Bool} {ls : List Line} {k : Nat} {x : Line} (hx : ls[k]? = some x) (hq : q x = false) (hall : ∀ y ∈ ls.take k, q y = true) : KeptL q ls ls k (k + 1) := by
  have hk : k < ls.length := (List.getElem?_eq_some_iff.1 hx).1
  have e : (ls.take (k + 1)).filter q = ls.take k := by
    rw [List.take_add_one, hx, List.filter_append, List.filter_eq_self.2 hall]
    simp [hq]
  exact ⟨rfl, by rw [e]; simp; omega, Nat.lt_succ_self _, hk, by rw [e], fun t _ => rfl⟩
theorem KeptL.keep {q : Line → Bool} {ls zs : List Line} {i j : Nat} {x : Line} (h : KeptL q ls zs i j) (hx : ls[j]? = some x) (hq : q x = true) : KeptL q ls (zs.set i x) (i + 1) (j + 1) := by
  have hj : j < ls.length := (List.getElem?_eq_some_iff.1 hx).1
  have e : (ls.take (j + 1)).filter q = (ls.take j).filter q ++ [x] := by
    rw [List.take_add_one, hx, List.filter_append]
    simp [hq]
  have h1 := h.len
  have h2 := h.lt
  refine ⟨by simp [h.len], by rw [e]; simp [h.cnt], by omega, hj, ?_, fun t ht => ?_⟩
  · rw [e, List.take_add_one, List.getElem?_set_self (by omega), List.take_set_of_le (Nat.le_refl _), h.low]; rfl
  · rw [List.getElem?_set_ne (by omega)]; exact h.high t (by omega)
theorem KeptL.skip {q : Line → Bool} {ls zs : List Line} {i j : Nat} {x : Line} (h : KeptL q ls zs i j) (hx : ls[j]? = some x) (hq : q x = false) : KeptL q ls zs i (j + 1) := by
  have hj : j < ls.length := (List.getElem?_eq_some_iff.1 hx).1
  have e : (ls.take (j + 1)).filter q = (ls.take j).filter q := by
    rw [List.take_add_one, hx, List.filter_append]
    simp [hq]
  have h2 := h.lt
  exact ⟨h.len, by rw [e, h.cnt], by omega, hj, by rw [e]; exact h.low, fun t ht => h.high t (by omega)⟩
theorem KeptL.done {q : Line → Bool} {ls zs : List Line} {i j : Nat} (h : KeptL q ls zs i j) (hj : j = ls.length) : zs.take i = ls.filter q ∧ (ls.filter q).length = i := by
  have h1 := h.low
  have h2 := h.cnt
  rw [show ls.take j = ls from List.take_of_length_le (by omega)] at h1 h2
  exact ⟨h1, h2⟩
end

section
theorem lcells_get (ls : List Line) (m : Nat) : (lcells ls)[m]? = (ls[m / 5]?).bind (fun x => x.vals[m % 5]?) := by
  have e : m = m / 5 * 5 + m % 5 := by omega
  cases h : ls[m / 5]? with
  | some x =>
    have := lcells_at ls (m / 5) x (m % 5) h (by omega)
    rw [← e] at this
    simpa using this
  | none =>
    have hl : ls.length ≤ m / 5 := by simpa using h
    simp only [Option.bind_none]
    rw [List.getElem?_eq_none]
    rw [lcells_len]; omega
section
variable {w : World} {B n c g : Nat} {ls : List Line}
end
end

section
theorem ints_now {w W : World} {A : Option Addr} {n : Nat} {xs : List Int} (hx : Ints w w.heap.size A n xs) (h : Below w.heap.size w W) : Ints W W.heap.size A n xs := (hx.below h).more h.size
theorem lines_now {w W : World} {A : Option Addr} {n c : Nat} {ls : List Line} (hx : Lines w w.heap.size A n c ls) (h : Below w.heap.size w W) : Lines W W.heap.size A n c ls := (hx.below h).more h.size
end
end

section
end

section
def inWord (x : Int) : Bool := decide (0 ≤ x) && decide (x ≤ 65535)
/-- memory's check. -/
def cm (xs : List Int) : Int := if xs.length = 512 then (if xs.all inWord then 0 else 2) else 3
theorem cm_len {xs : List Int} (h : xs.length ≠ 512) : cm xs = 3 := by simp [cm, h]
theorem cm_bad {xs : List Int} {k : Nat} {x : Int} (hl : xs.length = 512) (hx : xs[k]? = some x) (h : inWord x = false) : cm xs = 2 := by
  simp [cm, hl, all_false hx h]
theorem cm_ok {xs : List Int} (hl : xs.length = 512) (h : (xs.take 512).all inWord = true) : cm xs = 0 := by
  rw [List.take_of_length_le (by omega)] at h; simp [cm, hl, h]
theorem cm_inv {xs : List Int} (h : cm xs = 0) : xs.length = 512 ∧ ∀ (k : Nat) (x : Int), xs[k]? = some x → 0 ≤ x ∧ x ≤ 65535 := by
  unfold cm at h
  split at h
  · rename_i hl
    split at h
    · rename_i ha
      refine ⟨hl, fun k x hx => ?_⟩
      have := List.all_eq_true.1 ha x (List.mem_of_getElem? hx)
      simpa [inWord] using this
    · cases h
  · cases h

theorem cm_set {xs : List Int} {i v : Int} (h : cm xs = 0) (hv : 0 ≤ v ∧ v ≤ 65535) : cm (xs.set i.toNat v) = 0 := by
  obtain ⟨hl, ha⟩ := cm_inv h
  have : (xs.set i.toNat v).all inWord = true := by
    rw [List.all_eq_true]
    intro x hx
    obtain ⟨k, hk⟩ := List.getElem?_of_mem hx
    rw [List.getElem?_set] at hk
    split at hk
    · split at hk
      · simp at hk; subst hk; simp [inWord, hv]
      · cases hk
    · have := ha _ _ hk; simp [inWord, this]
  simp [cm, hl, this]
end

section
/-- a word of memory. -/
def rd (xs : List Int) (i : Int) : Int := xs[i.toNat]?.getD 0
/-- an entry, told apart. -/
structure Ent where
  v : Bool
  r : Bool
  u : Bool
  l : Bool
  p : Int
def Ent.no : Ent := ⟨false, false, false, false, 0⟩
def inP (root page : Int) : Prop := (0 ≤ root ∧ root < 64) ∧ (0 ≤ page ∧ page < 64)
instance (root page : Int) : Decidable (inP root page) := by unfold inP; exact inferInstance
/-- words at places, of noughts. -/
def withL : List Int → List Int → List Int
  | xs, a :: b :: r => withL (xs.set a.toNat b) r
  | xs, _ => xs
end

section
structure Ring where
  page : Int
  head : Int
  tail : Int
def Ring.no : Ring := ⟨0, 0, 0⟩
theorem Ring.ext' {x y : Ring} (h1 : x.page = y.page) (h2 : x.head = y.head) (h3 : x.tail = y.tail) : x = y := by
  cases x; cases y; simp only [] at *; subst h1; subst h2; subst h3; rfl
def ringR (r : Ring) : Prop := (0 ≤ r.page ∧ r.page < 64) ∧ (0 ≤ r.head ∧ r.head < 8) ∧ (0 ≤ r.tail ∧ r.tail < 8)
instance (r : Ring) : Decidable (ringR r) := by unfold ringR; exact inferInstance
/-- chapter 5's Check, Length. -/
def ckR (r : Ring) : Int := if ringR r then 0 else 2
theorem ckR_0 {r : Ring} (h : ringR r) : ckR r = 0 := by simp only [ckR, if_pos h]
theorem ckR_2 {r : Ring} (h : ¬ ringR r) : ckR r = 2 := by simp only [ckR, if_neg h]
theorem ckR_inv {r : Ring} (h : ckR r = 0) : ringR r := by
  unfold ckR at h; split at h
  · assumption
  · cases h
end

section
instance : DecidableEq Ring := fun x y =>
  if h : x.page = y.page ∧ x.head = y.head ∧ x.tail = y.tail then isTrue (Ring.ext' h.1 h.2.1 h.2.2) else isFalse (fun e => h (by subst e; exact ⟨rfl, rfl, rfl⟩))
structure Brg where
  mode : Int
  base : Int
  cache : List Line
  orders : Ring
  stopped : Bool
  fences : Int
  faults : Ring
  lost : Bool
def Brg.no : Brg := ⟨0, 0, [], .no, false, 0, .no, false⟩
theorem Brg.ext' {x y : Brg} (h1 : x.mode = y.mode) (h2 : x.base = y.base) (h3 : x.cache = y.cache) (h4 : x.orders = y.orders) (h5 : x.stopped = y.stopped) (h6 : x.fences = y.fences) (h7 : x.faults = y.faults) (h8 : x.lost = y.lost) : x = y := by
  cases x; cases y; simp only [] at *; subst h1; subst h2; subst h3; subst h4; subst h5; subst h6; subst h7; subst h8; rfl
instance : DecidableEq Brg := fun x y =>
  if h : x.mode = y.mode ∧ x.base = y.base ∧ x.cache = y.cache ∧ x.orders = y.orders ∧ x.stopped = y.stopped ∧ x.fences = y.fences ∧ x.faults = y.faults ∧ x.lost = y.lost then
    isTrue (Brg.ext' h.1 h.2.1 h.2.2.1 h.2.2.2.1 h.2.2.2.2.1 h.2.2.2.2.2.1 h.2.2.2.2.2.2.1 h.2.2.2.2.2.2.2)
  else isFalse (fun e => h (by subst e; exact ⟨rfl, rfl, rfl, rfl, rfl, rfl, rfl, rfl⟩))
def sameB (a b : Brg) : Bool := decide (a = b)

/-- a line that is none. -/
def Line.no : Line := ⟨0, 0, 0, false, false⟩
def brgR (b : Brg) : Prop := (0 ≤ b.mode ∧ b.mode ≤ 2) ∧ (0 ≤ b.base ∧ b.base < 64) ∧ (0 ≤ b.fences ∧ b.fences < 1000)
instance (b : Brg) : Decidable (brgR b) := by unfold brgR; exact inferInstance
/-- chapter 7's Check. -/
def ckB (b : Brg) : Int := if brgR b then (if ckC b.cache = 0 then (if ringR b.orders then ckR b.faults else 2) else ckC b.cache) else 2
theorem ckB_iff (b : Brg) : ckB b = 0 ↔ brgR b ∧ ckC b.cache = 0 ∧ ringR b.orders ∧ ringR b.faults := by
  unfold ckB
  by_cases h1 : brgR b
  · rw [if_pos h1]
    by_cases h2 : ckC b.cache = 0
    · rw [if_pos h2]
      by_cases h3 : ringR b.orders
      · rw [if_pos h3]; exact ⟨fun h => ⟨h1, h2, h3, ckR_inv h⟩, fun h => ckR_0 h.2.2.2⟩
      · rw [if_neg h3]; exact ⟨(fun h => absurd h (by decide)), fun h => absurd h.2.2.1 h3⟩
    · rw [if_neg h2]; exact ⟨fun h => absurd h h2, fun h => absurd h.2.1 h2⟩
  · rw [if_neg h1]; exact ⟨(fun h => absurd h (by decide)), fun h => absurd h.1 h1⟩
def inD (d p : Int) : Prop := (0 ≤ d ∧ d < 8) ∧ (0 ≤ p ∧ p < 64)
instance (d p : Int) : Decidable (inD d p) := by unfold inD; exact inferInstance
end

section
/-- behind a world: what lay there lies as it was. -/
def Since (w0 W : World) : Prop := Below w0.heap.size w0 W
theorem since_refl (w0 : World) : Since w0 w0 := Below.refl _ _
theorem since_drew {w0 W : World} (h : Since w0 W) : Since w0 W.drew := h.drew
theorem since_alloc {w0 W : World} (h : Since w0 W) (o : Obj) : Since w0 (W.alloc o) := Below.alloc h h.size o
theorem since_step {w0 W W' : World} (hb : Below W.heap.size W W') (h : Since w0 W) : Since w0 W' := Below.trans h (hb.mono h.size)
theorem cell_lt' {w : World} {a : Addr} {v : Value} (h : w.cell? a = some v) : a.block < w.heap.size := by
  rcases Nat.lt_or_ge a.block w.heap.size with hlt | hge
  · exact hlt
  · simp [World.cell?, Array.getElem?_eq_none hge] at h
theorem since_cell {w0 W : World} {p : Addr} {v : Value} (h : Since w0 W) (hc : w0.cell? p = some v) : W.cell? p = some v := (Below.cell h (cell_lt' hc)).trans hc
theorem since_of2 {w3 W : World} {a b : Prop} (h : a ∧ b ∧ Hid (Since w3 W)) : Since w3 W := h.2.2
end

section
end
end Go.Proofs.Ytbopdijnojaaiab
