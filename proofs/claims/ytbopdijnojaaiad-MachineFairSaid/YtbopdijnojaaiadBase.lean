/- The bridge: plain laws on who was let through. No program in sight, no statement of the seat is proved here. -/
import Derived.WalkKit
import Derived.WalkSpells
import Derived.WalkLawsBesides
import Derived.Deep.QuietTactic
import Derived.BigQuiet
import Derived.Lib.Hide
import Derived.Laws.OwnMore
import Derived.Deep.AppendLies
import Derived.Deep.Draws
import Derived.Maps.Views
import Derived.Laws.IdiomCopy
namespace Go.Proofs.Ytbopdijnojaaiad
open Go.RowKit
set_option linter.unusedSimpArgs false
set_option linter.unusedVariables false

section

theorem ret_int {k : IntKind} {a b : Int} (h : a = b) : Ending.returned (.int k a) = .returned (.int k b) := by rw [h]
theorem ret_bool {a b : Bool} (h : a = b) : Ending.returned (.bool a) = .returned (.bool b) := by rw [h]
theorem ret_int2 {k l : IntKind} {a b c d : Int} (h : a = b) (h' : c = d) : Ending.returned (.tuple #[.int k a, .int l c]) = .returned (.tuple #[.int k b, .int l d]) := by rw [h, h']

theorem ret_bool3 {a b c d e f : Bool} (h : a = b) (h' : c = d) (h'' : e = f) : Ending.returned (.tuple #[.bool a, .bool c, .bool e]) = .returned (.tuple #[.bool b, .bool d, .bool f]) := by rw [h, h', h'']
theorem below_alloc (w : World) : ∀ o, Below w.heap.size w (w.alloc o) := fun o => (Below.refl _ _).alloc (Nat.le_refl _) o

theorem some_of_lt {α : Type} (xs : List α) {k : Nat} (h : k < xs.length) : ∃ x, xs[k]? = some x := ⟨_, List.getElem?_eq_getElem h⟩
theorem all_take_succ {α : Type} {p : α → Bool} {xs : List α} {k : Nat} {x : α} (hx : xs[k]? = some x) (h : (xs.take k).all p = true) (hp : p x = true) : (xs.take (k + 1)).all p = true := by
  rw [List.take_add_one, hx]; simp [h, hp]
theorem all_false {α : Type} {p : α → Bool} {xs : List α} {k : Nat} {x : α} (hx : xs[k]? = some x) (h : p x = false) : xs.all p = false := by
  rw [List.all_eq_false]; exact ⟨x, List.mem_of_getElem? hx, by simp [h]⟩

theorem bcell {W w1 : World} (hb : Below W.heap.size W w1) : (∀ b o, b < W.heap.size → w1.cell? ⟨b, o, none⟩ = W.cell? ⟨b, o, none⟩) ∧ (∀ b o, b < W.heap.size → w1.frozen? ⟨b, o, none⟩ = W.frozen? ⟨b, o, none⟩) :=
  ⟨fun b o h => hb.cell (p := ⟨b, o, none⟩) h, fun b o h => hb.frozen (p := ⟨b, o, none⟩) h⟩

theorem bdrewN {B : Nat} {a w : World} (h : Below B a w) (n : Nat) : Below B a (w.drewN n) := ⟨h.os, h.tape, h.output, h.size, h.block⟩

/-- A row of cells at an address below block B: nothing is asked of an empty one. -/
def Row (w : World) (B : Nat) (A : Option Addr) (vs : List Value) : Prop :=
  0 < vs.length → ∃ b off, A = some ⟨b, off, none⟩ ∧ b < B ∧ ∀ k v, vs[k]? = some v → w.cell? ⟨b, off + k, none⟩ = some v

section
variable {w w' : World} {B B' : Nat} {A : Option Addr} {vs : List Value}
theorem Row.keep (h : Row w B A vs) (hk : ∀ p : Addr, p.block < B → w'.cell? p = w.cell? p) : Row w' B A vs := fun hn => by
  obtain ⟨b, off, e, hb, hc⟩ := h hn
  exact ⟨b, off, e, hb, fun k v hv => (hk _ hb).trans (hc k v hv)⟩
theorem Row.more (h : Row w B A vs) (hB : B ≤ B') : Row w B' A vs := fun hn => by
  obtain ⟨b, off, e, hb, hc⟩ := h hn
  exact ⟨b, off, e, by omega, hc⟩
theorem Row.below (h : Row w B A vs) (hb : Below B w w') : Row w' B A vs := h.keep fun _ hp => hb.cell hp
theorem Row.drew (h : Row w B A vs) : Row w.drew B A vs := h
theorem Row.alloc (h : Row w B A vs) (hB : B ≤ w.heap.size) (o : Obj) : Row (w.alloc o) B A vs := h.keep fun p hp => World.cell?_alloc_lt w o p (by omega)
theorem Row.setCell (h : Row w B A vs) {p : Addr} (hB : B ≤ p.block) (u : Value) : Row (w.setCell p u) B A vs :=
  h.keep fun q hq => World.cell?_setCell_other w p q u (fun e => by subst e; omega)
theorem Row.nil_ : Row w B A [] := fun h => absurd h (by simp)
theorem Row.of_own {base : Nat} {e : TypeId} {size n c : Nat} (h : w.ownsRow base e size (.slice A n c) n vs) : Row w w.heap.size A vs := fun hn => by
  have hl : vs.length = n * size := h.1
  have hn' : 0 < n := by
    rcases Nat.eq_zero_or_pos n with h0 | h0
    · subst h0; rw [Nat.zero_mul] at hl; omega
    · exact h0
  obtain ⟨g, cap, hv, _, hlt⟩ := h.form hn'
  have hA : A = some ⟨g, 0, none⟩ := by injection hv
  subst hA
  have hc := h.cells (g := g) rfl
  refine ⟨g, 0, rfl, hlt, fun k v hv => ?_⟩
  rw [Nat.zero_add]
  have := hc k v hv
  by_cases hk : k = 0
  · subst hk; simpa [Addr.add] using this
  · simpa [Addr.add, hk] using this
end

/-- These blocks hold these cells. -/
def CutL (wc : World) : List (Nat × List Value) → Prop
  | [] => True
  | (g, cs) :: r => (g < wc.heap.size ∧ ∀ o, wc.cell? ⟨g, o, none⟩ = cs[o]?) ∧ CutL wc r
/-- What is known of a world at a cut: below the call's start nothing has turned, and these blocks hold these cells. -/
def CutW (w : World) (gs : List (Nat × List Value)) (wc : World) : Prop := Below w.heap.size w wc ∧ CutL wc gs

/-- A slice of ints that reads as xs. -/
def Ints (w : World) (B : Nat) (A : Option Addr) (n : Nat) (xs : List Int) : Prop :=
  xs.length = n ∧ n ≤ maxLen ∧ Row w B A (xs.map (Value.int .i64))

section
variable {w w' : World} {B B' n : Nat} {A : Option Addr} {xs : List Int}
theorem Ints.len (h : Ints w B A n xs) : xs.length = n := h.1
theorem Ints.bd (h : Ints w B A n xs) : n ≤ 9223372036854775807 := by have := h.2.1; unfold maxLen at this; omega
theorem Ints.at_ (h : Ints w B A n xs) (hn : 0 < n) : ∃ b off, A = some ⟨b, off, none⟩ ∧ b < B ∧ ∀ k x, xs[k]? = some x → w.cell? ⟨b, off + k, none⟩ = some (.int .i64 x) := by
  obtain ⟨b, off, e, hb, hc⟩ := h.2.2 (by simpa [h.1] using hn)
  exact ⟨b, off, e, hb, fun k x hx => hc k _ (by simp [hx])⟩
theorem Ints.more (h : Ints w B A n xs) (hB : B ≤ B') : Ints w B' A n xs := ⟨h.1, h.2.1, h.2.2.more hB⟩
theorem Ints.below (h : Ints w B A n xs) (hb : Below B w w') : Ints w' B A n xs := ⟨h.1, h.2.1, h.2.2.below hb⟩
theorem Ints.drew (h : Ints w B A n xs) : Ints w.drew B A n xs := h
theorem Ints.alloc (h : Ints w B A n xs) (hB : B ≤ w.heap.size) (o : Obj) : Ints (w.alloc o) B A n xs := ⟨h.1, h.2.1, h.2.2.alloc hB o⟩
theorem Ints.setCell (h : Ints w B A n xs) {p : Addr} (hB : B ≤ p.block) (u : Value) : Ints (w.setCell p u) B A n xs := ⟨h.1, h.2.1, h.2.2.setCell hB u⟩
end

theorem Ints.of_cells {w : World} {B g n : Nat} {xs : List Int} (hl : xs.length = n) (hn : n ≤ 9223372036854775807) (hg : g < B) (h : ∀ k, w.cell? ⟨g, k, none⟩ = (xs.map (Value.int .i64))[k]?) : Ints w B (some ⟨g, 0, none⟩) n xs :=
  ⟨hl, by unfold maxLen; omega, fun _ => ⟨g, 0, rfl, hg, fun k v hv => by rw [Nat.zero_add, h k, hv]⟩⟩
end

section
structure Line where
  dev : Int
  page : Int
  at_ : Int
  rd : Bool
  wr : Bool
def Line.vals (x : Line) : List Value := [.int .i64 x.dev, .int .i64 x.page, .int .i64 x.at_, .bool x.rd, .bool x.wr]
def Line.val (x : Line) : Value := .agg #[.int .i64 x.dev, .int .i64 x.page, .int .i64 x.at_, .bool x.rd, .bool x.wr]
theorem Line.ext' {x y : Line} (h1 : x.dev = y.dev) (h2 : x.page = y.page) (h3 : x.at_ = y.at_) (h4 : x.rd = y.rd) (h5 : x.wr = y.wr) : x = y := by
  cases x; cases y; simp only [] at *; subst h1; subst h2; subst h3; subst h4; subst h5; rfl
instance : DecidableEq Line := fun x y =>
  if h : x.dev = y.dev ∧ x.page = y.page ∧ x.at_ = y.at_ ∧ x.rd = y.rd ∧ x.wr = y.wr then isTrue (Line.ext' h.1 h.2.1 h.2.2.1 h.2.2.2.1 h.2.2.2.2) else isFalse (fun e => h (by subst e; exact ⟨rfl, rfl, rfl, rfl, rfl⟩))
/-- is it the line of that page of that device? -/
def hitL (d p : Int) (x : Line) : Bool := x.dev == d && x.page == p
/-- chapter 4's Find. -/
def findL (ls : List Line) (d p : Int) : Int := match ls.findIdx? (hitL d p) with | some k => (k : Int) | none => -1
theorem findL_none {ls : List Line} {d p : Int} (h : ∀ x ∈ ls, hitL d p x = false) : findL ls d p = -1 := by
  unfold findL
  rw [List.findIdx?_eq_none_iff.2 h]
theorem findL_some {ls : List Line} {d p : Int} {k : Nat} {x : Line} (hk : ls[k]? = some x) (hx : hitL d p x = true) (h : ∀ y ∈ ls.take k, hitL d p y = false) : findL ls d p = (k : Int) := by
  unfold findL
  have hlt : k < ls.length := (List.getElem?_eq_some_iff.1 hk).1
  have hx' : ls[k] = x := (List.getElem?_eq_some_iff.1 hk).2
  have : ls.findIdx? (hitL d p) = some k := by
    rw [List.findIdx?_eq_some_iff_getElem]
    refine ⟨hlt, by rw [hx']; exact hx, fun j hj => ?_⟩
    have := h (ls[j]'(by omega)) (by rw [List.mem_take_iff_getElem]; exact ⟨j, by omega, rfl⟩)
    simp [this]
  rw [this]
theorem findL_cases (ls : List Line) (d p : Int) : (findL ls d p = -1 ∧ ∀ x ∈ ls, hitL d p x = false) ∨ ∃ (k : Nat) (x : Line), findL ls d p = (k : Int) ∧ ls[k]? = some x ∧ hitL d p x = true ∧ ∀ y ∈ ls.take k, hitL d p y = false := by
  unfold findL
  cases h : ls.findIdx? (hitL d p) with
  | none => left; exact ⟨rfl, List.findIdx?_eq_none_iff.1 h⟩
  | some k =>
    right
    obtain ⟨hk, hx, hj⟩ := List.findIdx?_eq_some_iff_getElem.1 h
    refine ⟨k, ls[k], rfl, List.getElem?_eq_getElem hk, hx, fun y hy => ?_⟩
    obtain ⟨j, hj', rfl⟩ := List.mem_take_iff_getElem.1 hy
    have := hj j (by omega)
    simpa using this
theorem hitL_iff {d p : Int} {x : Line} : hitL d p x = true ↔ x.dev = d ∧ x.page = p := by simp [hitL]
/-- what is wrong with a line by itself. -/
def lineR (x : Line) : Prop := (0 ≤ x.dev ∧ x.dev < 8) ∧ (0 ≤ x.page ∧ x.page < 64) ∧ (0 ≤ x.at_ ∧ x.at_ < 64)
instance (x : Line) : Decidable (lineR x) := by unfold lineR; exact inferInstance
def lineE (x : Line) : Int := if lineR x then (if x.rd then 0 else 3) else 2
/-- the rest of a cache behind what is there. -/
def ckL : List Line → List Line → Int
  | _, [] => 0
  | pre, x :: r => if lineE x = 0 then (if 0 ≤ findL pre x.dev x.page then 5 else ckL (pre ++ [x]) r) else lineE x
/-- chapter 4's Check. -/
def ckC (ls : List Line) : Int := if 6 < ls.length then 1 else ckL [] ls
theorem ckC_many {ls : List Line} (h : 6 < ls.length) : ckC ls = 1 := by simp only [ckC, if_pos h]
theorem ckC_few {ls : List Line} (h : ls.length ≤ 6) : ckC ls = ckL [] ls := by simp only [ckC, if_neg (show ¬ 6 < ls.length by omega)]
theorem ckL_step {ls : List Line} {k : Nat} {x : Line} (hx : ls[k]? = some x) (h0 : lineE x = 0) (hf : findL (ls.take k) x.dev x.page < 0) : ckL (ls.take k) (ls.drop k) = ckL (ls.take (k + 1)) (ls.drop (k + 1)) := by
  have hk : k < ls.length := (List.getElem?_eq_some_iff.1 hx).1
  have e : ls[k] = x := (List.getElem?_eq_some_iff.1 hx).2
  rw [List.drop_eq_getElem_cons hk, e]
  simp only [ckL, h0, if_true]
  rw [if_neg (by omega), List.take_add_one, hx]; rfl
theorem ckL_bad {ls : List Line} {k : Nat} {x : Line} (hx : ls[k]? = some x) (h0 : lineE x ≠ 0) : ckL (ls.take k) (ls.drop k) = lineE x := by
  have hk : k < ls.length := (List.getElem?_eq_some_iff.1 hx).1
  have e : ls[k] = x := (List.getElem?_eq_some_iff.1 hx).2
  rw [List.drop_eq_getElem_cons hk, e]
  simp only [ckL, h0, if_false]
theorem ckL_twice {ls : List Line} {k : Nat} {x : Line} (hx : ls[k]? = some x) (h0 : lineE x = 0) (hf : 0 ≤ findL (ls.take k) x.dev x.page) : ckL (ls.take k) (ls.drop k) = 5 := by
  have hk : k < ls.length := (List.getElem?_eq_some_iff.1 hx).1
  have e : ls[k] = x := (List.getElem?_eq_some_iff.1 hx).2
  rw [List.drop_eq_getElem_cons hk, e]
  simp only [ckL, h0, if_true, if_pos hf]
theorem ckL_end (ls : List Line) : ckL (ls.take ls.length) (ls.drop ls.length) = 0 := by simp [ckL]
theorem lineE_r {x : Line} (h : ¬ lineR x) : lineE x = 2 := by simp only [lineE, if_neg h]
theorem lineE_f {x : Line} (h : lineR x) (h' : x.rd = false) : lineE x = 3 := by simp [lineE, h, h']
theorem lineE_0 {x : Line} (h : lineR x) (h' : x.rd = true) : lineE x = 0 := by simp [lineE, h, h']
theorem lineE_inv {x : Line} (h : lineE x = 0) : lineR x ∧ x.rd = true := by
  unfold lineE at h; split at h
  · rename_i hr; split at h
    · rename_i hd; exact ⟨hr, hd⟩
    · cases h
  · cases h

/-- no two lines of one page of one device. -/
def Apart (ls : List Line) : Prop := ls.Pairwise fun x y => hitL y.dev y.page x = false
theorem ckL_ok : ∀ (ls pre : List Line), Apart pre → (∀ x ∈ pre, lineE x = 0) → (ckL pre ls = 0 ↔ Apart (pre ++ ls) ∧ ∀ x ∈ pre ++ ls, lineE x = 0)
  | [], pre, ha, hl => by rw [List.append_nil]; exact ⟨fun _ => ⟨ha, hl⟩, fun _ => by simp [ckL]⟩
  | x :: r, pre, ha, hl => by
    by_cases h0 : lineE x = 0
    · simp only [ckL, h0, if_true]
      by_cases hf : 0 ≤ findL pre x.dev x.page
      · rw [if_pos hf]
        refine ⟨(fun h => absurd h (by decide)), fun h => ?_⟩
        exfalso
        rcases findL_cases pre x.dev x.page with ⟨e, _⟩ | ⟨k, y, e, hy, hh, _⟩
        · omega
        · have := (List.pairwise_append.1 h.1).2.2 y (List.mem_of_getElem? hy) x (by simp)
          rw [hh] at this; cases this
      · rw [if_neg hf]
        have hn : ∀ y ∈ pre, hitL x.dev x.page y = false := by
          rcases findL_cases pre x.dev x.page with ⟨_, h⟩ | ⟨k, y, e, _⟩
          · exact h
          · omega
        have := ckL_ok r (pre ++ [x]) (by
          unfold Apart; rw [List.pairwise_append]; refine ⟨ha, by simp, fun a ha' b hb => ?_⟩
          simp at hb; subst hb; exact hn a ha') (fun y hy => by
          rw [List.mem_append] at hy; rcases hy with hy | hy
          · exact hl y hy
          · simp at hy; subst hy; exact h0)
        rw [this]; simp
    · have e : ckL pre (x :: r) = lineE x := by simp only [ckL, h0, if_false]
      rw [e]
      exact ⟨fun h => absurd h h0, fun h => absurd (h.2 x (by simp)) h0⟩
theorem ckC_iff (ls : List Line) : ckC ls = 0 ↔ ls.length ≤ 6 ∧ Apart ls ∧ ∀ x ∈ ls, lineE x = 0 := by
  by_cases h : 6 < ls.length
  · rw [ckC_many h]; exact ⟨(fun e => absurd e (by decide)), fun e => by omega⟩
  · rw [ckC_few (by omega), ckL_ok ls [] (by simp [Apart]) (by simp)]
    simp; omega
theorem ckC_nil : ckC [] = 0 := by decide
theorem ckC_one (x : Line) : ckC [x] = lineE x := by
  rw [ckC_few (by simp)]
  by_cases h : lineE x = 0
  · simp [ckL, h, findL]
  · simp [ckL, h]

/-- chapter 4's Fill. -/
def fillE (ls : List Line) (x : Line) : Int := if ckC ls = 0 then (if lineE x = 0 then (if 0 ≤ findL ls x.dev x.page then 5 else 0) else lineE x) else ckC ls
def fillL (ls : List Line) (x : Line) : List Line := if fillE ls x = 0 then ls.drop (ls.length + 1 - 6) ++ [x] else []
theorem fillE_inv {ls : List Line} {x : Line} (h : fillE ls x = 0) : ckC ls = 0 ∧ lineE x = 0 ∧ findL ls x.dev x.page < 0 := by
  unfold fillE at h; split at h
  · rename_i h1; split at h
    · rename_i h2; split at h
      · cases h
      · exact ⟨h1, h2, by omega⟩
    · rename_i h2; exact absurd h h2
  · rename_i h1; exact absurd h h1
theorem fillE_0 {ls : List Line} {x : Line} (h1 : ckC ls = 0) (h2 : lineE x = 0) (h3 : findL ls x.dev x.page < 0) : fillE ls x = 0 := by
  unfold fillE; rw [if_pos h1, if_pos h2, if_neg (by omega)]
theorem fillL_0 {ls : List Line} {x : Line} (h : fillE ls x = 0) : fillL ls x = ls.drop (ls.length + 1 - 6) ++ [x] := by unfold fillL; rw [if_pos h]
theorem fillL_n {ls : List Line} {x : Line} {n : Int} (h : fillE ls x = n) (hn : n ≠ 0) : fillL ls x = [] := by unfold fillL; rw [if_neg (by rw [h]; exact hn)]
theorem find_neg {ls : List Line} {d p : Int} (h : findL ls d p < 0) : ∀ y ∈ ls, hitL d p y = false := by
  rcases findL_cases ls d p with ⟨_, h'⟩ | ⟨k, y, e, _⟩
  · exact h'
  · omega
theorem fill_ck {ls : List Line} {x : Line} (h : fillE ls x = 0) : ckC (fillL ls x) = 0 := by
  obtain ⟨h1, h2, h3⟩ := fillE_inv h
  obtain ⟨a1, a2, a3⟩ := (ckC_iff ls).1 h1
  rw [fillL_0 h, ckC_iff]
  refine ⟨by simp; omega, ?_, fun y hy => ?_⟩
  · unfold Apart; rw [List.pairwise_append]
    refine ⟨List.Pairwise.sublist (List.drop_sublist _ _) a2, by simp, fun a ha b hb => ?_⟩
    simp at hb; subst hb
    exact find_neg h3 a (List.mem_of_mem_drop ha)
  · rw [List.mem_append] at hy; rcases hy with hy | hy
    · exact a3 y (List.mem_of_mem_drop hy)
    · simp at hy; subst hy; exact h2
/-- chapter 4's Drop: which lines go. -/
def goes (k d p : Int) (x : Line) : Bool := k == 1 || (k == 2 && x.dev == d) || (k == 3 && (x.dev == d && x.page == p))
def dropE (ls : List Line) (k : Int) : Int := if ckC ls = 0 then (if 0 ≤ k ∧ k ≤ 3 then 0 else 3) else ckC ls
def dropL (ls : List Line) (k d p : Int) : List Line := if dropE ls k = 0 then ls.filter (fun x => !goes k d p x) else []
theorem dropE_inv {ls : List Line} {k : Int} (h : dropE ls k = 0) : ckC ls = 0 ∧ 0 ≤ k ∧ k ≤ 3 := by
  unfold dropE at h; split at h
  · rename_i h1; split at h
    · rename_i h2; exact ⟨h1, h2⟩
    · cases h
  · rename_i h1; exact absurd h h1
theorem dropE_0 {ls : List Line} {k : Int} (h : ckC ls = 0) (hk : 0 ≤ k ∧ k ≤ 3) : dropE ls k = 0 := by unfold dropE; rw [if_pos h, if_pos hk]
theorem dropE_k {ls : List Line} {k : Int} (h : ckC ls = 0) (hk : ¬ (0 ≤ k ∧ k ≤ 3)) : dropE ls k = 3 := by unfold dropE; rw [if_pos h, if_neg hk]
theorem dropE_c {ls : List Line} {k : Int} (h : ckC ls ≠ 0) : dropE ls k = ckC ls := by unfold dropE; rw [if_neg h]
theorem dropL_0 {ls : List Line} {k d p : Int} (h : dropE ls k = 0) : dropL ls k d p = ls.filter (fun x => !goes k d p x) := by unfold dropL; rw [if_pos h]
theorem dropL_n {ls : List Line} {k d p n : Int} (h : dropE ls k = n) (hn : n ≠ 0) : dropL ls k d p = [] := by unfold dropL; rw [if_neg (by rw [h]; exact hn)]
theorem ck_sub {ls ms : List Line} (hs : List.Sublist ms ls) (h : ckC ls = 0) : ckC ms = 0 := by
  obtain ⟨a1, a2, a3⟩ := (ckC_iff ls).1 h
  rw [ckC_iff]
  exact ⟨Nat.le_trans hs.length_le a1, List.Pairwise.sublist hs a2, fun x hx => a3 x (hs.subset hx)⟩
theorem drop_ck (ls : List Line) (k d p : Int) (h : dropE ls k = 0) : ckC (dropL ls k d p) = 0 := by
  rw [dropL_0 h]; exact ck_sub List.filter_sublist (dropE_inv h).1
end

section
def lcells (ls : List Line) : List Value := ls.flatMap Line.vals
theorem lcells_len : ∀ ls : List Line, (lcells ls).length = ls.length * 5
  | [] => rfl
  | x :: r => by unfold lcells; rw [List.flatMap_cons, List.length_append]; have := lcells_len r; unfold lcells at this; rw [this]; simp [Line.vals]; omega
theorem lcells_at : ∀ (ls : List Line) (k : Nat) (x : Line) (j : Nat), ls[k]? = some x → j < 5 → (lcells ls)[k * 5 + j]? = x.vals[j]?
  | [], k, x, j, h, _ => by simp at h
  | y :: r, 0, x, j, h, hj => by
    simp at h; subst h
    unfold lcells
    rw [List.flatMap_cons, List.getElem?_append_left (by simp [Line.vals]; omega)]
    simp
  | y :: r, k + 1, x, j, h, hj => by
    simp at h
    unfold lcells
    rw [List.flatMap_cons, List.getElem?_append_right (by simp [Line.vals]; omega)]
    have := lcells_at r k x j h hj
    unfold lcells at this
    rw [← this]; congr 1; simp [Line.vals]; omega
theorem lcells_append (xs ys : List Line) : lcells (xs ++ ys) = lcells xs ++ lcells ys := by unfold lcells; rw [List.flatMap_append]
theorem lcells_take : ∀ (k : Nat) (ls : List Line), (lcells ls).take (k * 5) = lcells (ls.take k)
  | 0, ls => by simp [lcells]
  | k + 1, [] => by simp [lcells]
  | k + 1, x :: r => by
    have := lcells_take k r
    unfold lcells at *
    rw [List.flatMap_cons, List.take_succ_cons, List.flatMap_cons, ← this, show (k + 1) * 5 = x.vals.length + k * 5 by simp [Line.vals]; omega, List.take_append]
    rw [List.take_of_length_le (by omega), Nat.add_sub_cancel_left]
theorem lcells_drop : ∀ (k : Nat) (ls : List Line), (lcells ls).drop (k * 5) = lcells (ls.drop k)
  | 0, ls => by simp [lcells]
  | k + 1, [] => by simp [lcells]
  | k + 1, x :: r => by
    have := lcells_drop k r
    unfold lcells at *
    rw [List.flatMap_cons, List.drop_succ_cons, ← this, show (k + 1) * 5 = x.vals.length + k * 5 by simp [Line.vals]; omega, ← List.drop_drop]
    simp

/-- A slice of lines that reads as ls. -/
def Lines (w : World) (B : Nat) (A : Option Addr) (n c : Nat) (ls : List Line) : Prop :=
  ls.length = n ∧ n ≤ c ∧ c ≤ maxLen ∧ (A = none → c = 0) ∧ Row w B A (lcells ls)
/-- the five cells of a line. -/
def LineAt (w : World) (b o : Nat) (x : Line) : Prop :=
  w.cell? ⟨b, o, none⟩ = some (.int .i64 x.dev) ∧ w.cell? ⟨b, o + 1, none⟩ = some (.int .i64 x.page) ∧ w.cell? ⟨b, o + 2, none⟩ = some (.int .i64 x.at_) ∧ w.cell? ⟨b, o + 3, none⟩ = some (.bool x.rd) ∧ w.cell? ⟨b, o + 4, none⟩ = some (.bool x.wr)

section
variable {w w' : World} {B B' n c : Nat} {A : Option Addr} {ls : List Line}
theorem Lines.len (h : Lines w B A n c ls) : ls.length = n := h.1
theorem Lines.cap (h : Lines w B A n c ls) : n ≤ c ∧ c ≤ 9223372036854775807 := ⟨h.2.1, by have := h.2.2.1; unfold maxLen at this; omega⟩
theorem Lines.at_ (h : Lines w B A n c ls) (hn : 0 < n) : ∃ b off, A = some ⟨b, off, none⟩ ∧ b < B ∧ ∀ k x, ls[k]? = some x → LineAt w b (off + k * 5) x := by
  obtain ⟨b, off, e, hb, hc⟩ := h.2.2.2.2 (by rw [lcells_len, h.1]; omega)
  refine ⟨b, off, e, hb, fun k x hx => ?_⟩
  have := fun j hj => lcells_at ls k x j hx hj
  refine ⟨?_, ?_, ?_, ?_, ?_⟩
  · exact hc (k * 5) _ ((this 0 (by omega)).trans rfl)
  · rw [Nat.add_assoc]; exact hc (k * 5 + 1) _ ((this 1 (by omega)).trans rfl)
  · rw [Nat.add_assoc]; exact hc (k * 5 + 2) _ ((this 2 (by omega)).trans rfl)
  · rw [Nat.add_assoc]; exact hc (k * 5 + 3) _ ((this 3 (by omega)).trans rfl)
  · rw [Nat.add_assoc]; exact hc (k * 5 + 4) _ ((this 4 (by omega)).trans rfl)
theorem Lines.more (h : Lines w B A n c ls) (hB : B ≤ B') : Lines w B' A n c ls := ⟨h.1, h.2.1, h.2.2.1, h.2.2.2.1, h.2.2.2.2.more hB⟩
theorem Lines.below (h : Lines w B A n c ls) (hb : Below B w w') : Lines w' B A n c ls := ⟨h.1, h.2.1, h.2.2.1, h.2.2.2.1, h.2.2.2.2.below hb⟩
theorem Lines.drew (h : Lines w B A n c ls) : Lines w.drew B A n c ls := h
theorem Lines.alloc (h : Lines w B A n c ls) (hB : B ≤ w.heap.size) (o : Obj) : Lines (w.alloc o) B A n c ls := ⟨h.1, h.2.1, h.2.2.1, h.2.2.2.1, h.2.2.2.2.alloc hB o⟩
theorem Lines.setCell (h : Lines w B A n c ls) {p : Addr} (hB : B ≤ p.block) (u : Value) : Lines (w.setCell p u) B A n c ls := ⟨h.1, h.2.1, h.2.2.1, h.2.2.2.1, h.2.2.2.2.setCell hB u⟩
theorem lines_none (w : World) (B : Nat) : Lines w B none 0 0 [] := ⟨rfl, Nat.le_refl _, Nat.zero_le _, fun _ => rfl, Row.nil_⟩
/-- the first k lines. -/
theorem Lines.take (h : Lines w B A n c ls) {k : Nat} (hk : k ≤ n) : Lines w B A k c (ls.take k) :=
  ⟨by rw [List.length_take, h.1]; omega, Nat.le_trans hk h.2.1, h.2.2.1, h.2.2.2.1, fun h0 => by
    have hl : 0 < (lcells ls).length := by
      rw [lcells_len] at *; rw [List.length_take] at h0; omega
    obtain ⟨b, off, e, hb, hc⟩ := h.2.2.2.2 hl
    refine ⟨b, off, e, hb, fun j v hv => hc j v ?_⟩
    rw [← lcells_take] at hv
    have hj : j < k * 5 := by have := (List.getElem?_eq_some_iff.1 hv).1; rw [List.length_take] at this; omega
    rw [List.getElem?_take, if_pos hj] at hv
    exact hv⟩
end
end

section
section
open Go.Maps

/-- which of four functions an order's kind names. -/
def dropD (f0 f1 f2 f3 : Value) : DataW Value := ((((DataW.map []).put (.int .i64 0) (.held f0)).put (.int .i64 1) (.held f1)).put (.int .i64 2) (.held f2)).put (.int .i64 3) (.held f3)
theorem key_ne {a b : Int} (h : a ≠ b) : (Lit.int .i64 a) ≠ Lit.int .i64 b := fun e => h (by injection e)
theorem dropD_no {f0 f1 f2 f3 : Value} {k : Int} (h : ¬ (0 ≤ k ∧ k ≤ 3)) (z : DataW Value) : has (dropD f0 f1 f2 f3) (.int .i64 k) = false ∧ (dropD f0 f1 f2 f3).atKey (.int .i64 k) z = z := by
  have h0 : k ≠ 0 := by omega
  have h1 : k ≠ 1 := by omega
  have h2 : k ≠ 2 := by omega
  have h3 : k ≠ 3 := by omega
  unfold dropD
  rw [has_put_other (key_ne h3), has_put_other (key_ne h2), has_put_other (key_ne h1), has_put_other (key_ne h0), atKey_put_other (key_ne h3), atKey_put_other (key_ne h2), atKey_put_other (key_ne h1), atKey_put_other (key_ne h0)]
  exact ⟨rfl, rfl⟩
theorem dropD_0 (f0 f1 f2 f3 : Value) (z : DataW Value) : has (dropD f0 f1 f2 f3) (.int .i64 0) = true ∧ (dropD f0 f1 f2 f3).atKey (.int .i64 0) z = .held f0 := by
  exact ⟨rfl, rfl⟩
theorem dropD_1 (f0 f1 f2 f3 : Value) (z : DataW Value) : has (dropD f0 f1 f2 f3) (.int .i64 1) = true ∧ (dropD f0 f1 f2 f3).atKey (.int .i64 1) z = .held f1 := by
  exact ⟨rfl, rfl⟩
theorem dropD_2 (f0 f1 f2 f3 : Value) (z : DataW Value) : has (dropD f0 f1 f2 f3) (.int .i64 2) = true ∧ (dropD f0 f1 f2 f3).atKey (.int .i64 2) z = .held f2 := by
  exact ⟨rfl, rfl⟩
theorem dropD_3 (f0 f1 f2 f3 : Value) (z : DataW Value) : has (dropD f0 f1 f2 f3) (.int .i64 3) = true ∧ (dropD f0 f1 f2 f3).atKey (.int .i64 3) z = .held f3 := by
  exact ⟨rfl, rfl⟩

/-- DeleteFunc's loop: of j lines i are kept, and lie ahead; from j on all is as it was. -/
structure KeptL (q : Line → Bool) (ls zs : List Line) (i j : Nat) : Prop where
  len : zs.length = ls.length
  cnt : ((ls.take j).filter q).length = i
  lt : i < j
  jle : j ≤ ls.length
  low : zs.take i = (ls.take j).filter q
  high : ∀ t, j ≤ t → zs[t]? = ls[t]?
theorem KeptL.start {q : Line → Bool} {ls : List Line} {k : Nat} {x : Line} (hx : ls[k]? = some x) (hq : q x = false) (hall : ∀ y ∈ ls.take k, q y = true) : KeptL q ls ls k (k + 1) := by
  have hk : k < ls.length := (List.getElem?_eq_some_iff.1 hx).1
  have e : (ls.take (k + 1)).filter q = ls.take k := by
    rw [List.take_add_one, hx, List.filter_append, List.filter_eq_self.2 hall]
    simp [hq]
  exact ⟨rfl, by rw [e]; simp; omega, Nat.lt_succ_self _, hk, by rw [e], fun t _ => rfl⟩
theorem KeptL.keep {q : Line → Bool} {ls zs : List Line} {i j : Nat} {x : Line} (h : KeptL q ls zs i j) (hx : ls[j]? = some x) (hq : q x = true) : KeptL q ls (zs.set i x) (i + 1) (j + 1) := by
  have hj : j < ls.length := (List.getElem?_eq_some_iff.1 hx).1
  have e : (ls.take (j + 1)).filter q = (ls.take j).filter q ++ [x] := by
    rw [List.take_add_one, hx, List.filter_append]
    simp [hq]
  have h1 := h.len
  have h2 := h.lt
  refine ⟨by simp [h.len], by rw [e]; simp [h.cnt], by omega, hj, ?_, fun t ht => ?_⟩
  · rw [e, List.take_add_one, List.getElem?_set_self (by omega), List.take_set_of_le (Nat.le_refl _), h.low]; rfl
  · rw [List.getElem?_set_ne (by omega)]; exact h.high t (by omega)
theorem KeptL.skip {q : Line → Bool} {ls zs : List Line} {i j : Nat} {x : Line} (h : KeptL q ls zs i j) (hx : ls[j]? = some x) (hq : q x = false) : KeptL q ls zs i (j + 1) := by
  have hj : j < ls.length := (List.getElem?_eq_some_iff.1 hx).1
  have e : (ls.take (j + 1)).filter q = (ls.take j).filter q := by
    rw [List.take_add_one, hx, List.filter_append]
    simp [hq]
  have h2 := h.lt
  exact ⟨h.len, by rw [e, h.cnt], by omega, hj, by rw [e]; exact h.low, fun t ht => h.high t (by omega)⟩
theorem KeptL.done {q : Line → Bool} {ls zs : List Line} {i j : Nat} (h : KeptL q ls zs i j) (hj : j = ls.length) : zs.take i = ls.filter q ∧ (ls.filter q).length = i := by
  have h1 := h.low
  have h2 := h.cnt
  rw [show ls.take j = ls from List.take_of_length_le (by omega)] at h1 h2
  exact ⟨h1, h2⟩
end

section
theorem lcells_get (ls : List Line) (m : Nat) : (lcells ls)[m]? = (ls[m / 5]?).bind (fun x => x.vals[m % 5]?) := by
  have e : m = m / 5 * 5 + m % 5 := by omega
  cases h : ls[m / 5]? with
  | some x =>
    have := lcells_at ls (m / 5) x (m % 5) h (by omega)
    rw [← e] at this
    simpa using this
  | none =>
    have hl : ls.length ≤ m / 5 := by simpa using h
    simp only [Option.bind_none]
    rw [List.getElem?_eq_none]
    rw [lcells_len]; omega
theorem vals_len (x : Line) : x.vals.length = 5 := rfl
theorem lcells_set {zs : List Line} {i : Nat} {x : Line} (hi : i < zs.length) (m : Nat) : (lcells (zs.set i x))[m]? = if i * 5 ≤ m ∧ m < i * 5 + 5 then x.vals[m - i * 5]? else (lcells zs)[m]? := by
  rw [lcells_get, lcells_get]
  split
  · rename_i h
    have e1 : m / 5 = i := by omega
    have e2 : m % 5 = m - i * 5 := by omega
    rw [e1, e2, List.getElem?_set_self hi]; rfl
  · rename_i h
    rw [List.getElem?_set_ne (by omega)]
section
variable {w : World} {B n c g : Nat} {ls : List Line}
theorem Lines.cellsome (h : Lines w B (some ⟨g, 0, none⟩) n c ls) {m : Nat} (hm : m < n * 5) : (w.cell? ⟨g, m, none⟩).isSome = true := by
  have hl : m < (lcells ls).length := by rw [lcells_len, h.1]; exact hm
  obtain ⟨b, off, e, hb, hc⟩ := h.2.2.2.2 (by omega)
  simp only [Option.some.injEq, Addr.mk.injEq, and_true] at e
  obtain ⟨rfl, rfl⟩ := e
  have := hc m _ (List.getElem?_eq_getElem hl)
  rw [Nat.zero_add] at this
  rw [this]; rfl
theorem Lines.setLine (h : Lines w B (some ⟨g, 0, none⟩) n c ls) {i : Nat} (hi : i < n) (x : Line) : Lines (w.setCells g (i * 5) x.vals) B (some ⟨g, 0, none⟩) n c (ls.set i x) := by
  have hsome := fun (m : Nat) (hm : m < n * 5) => h.cellsome hm
  obtain ⟨h1, h2, h3, h4, h5⟩ := h
  refine ⟨by simp [h1], h2, h3, (fun e => by cases e), fun _ => ?_⟩
  obtain ⟨b, off, e, hb, hc⟩ := h5 (by rw [lcells_len]; omega)
  simp only [Option.some.injEq, Addr.mk.injEq, and_true] at e
  obtain ⟨rfl, rfl⟩ := e
  refine ⟨g, 0, rfl, hb, fun m v hv => ?_⟩
  rw [lcells_set (by omega)] at hv
  rw [Nat.zero_add]
  split at hv
  · rename_i hm
    have hj : m - i * 5 < x.vals.length := by rw [vals_len]; omega
    have := World.cell?_setCells_in g x.vals (i * 5) w (fun j hj => by rw [vals_len] at hj; exact hsome _ (by omega)) (m - i * 5) hj
    rw [show i * 5 + (m - i * 5) = m by omega] at this
    rw [this, ← hv, List.getElem?_eq_getElem hj]
  · rename_i hm
    rw [World.cell?_setCells_out g x.vals (i * 5) w ⟨g, m, none⟩ (fun _ _ => by rw [vals_len]; simp only []; omega)]
    have := hc m v hv
    rwa [Nat.zero_add] at this
theorem Lines.cutAt (h : Lines w B (some ⟨g, 0, none⟩) n c ls) {i : Nat} (hi : i ≤ n) (vs : List Value) : Lines (w.setCells g (i * 5) vs) B (some ⟨g, 0, none⟩) i c (ls.take i) := by
  obtain ⟨h1, h2, h3, h4, h5⟩ := h.take hi
  refine ⟨h1, h2, h3, h4, fun hl => ?_⟩
  obtain ⟨b, off, e, hb, hc⟩ := h5 hl
  simp only [Option.some.injEq, Addr.mk.injEq, and_true] at e
  obtain ⟨rfl, rfl⟩ := e
  refine ⟨g, 0, rfl, hb, fun m v hv => ?_⟩
  have hm : m < i * 5 := by
    have := (List.getElem?_eq_some_iff.1 hv).1
    rw [lcells_len, h1] at this; exact this
  rw [World.cell?_setCells_out g vs (i * 5) w _ (fun _ _ => Or.inl (by simp only []; omega))]
  exact hc m v hv
end
theorem size_cells (b : Nat) : ∀ (vs : List Value) (o : Nat) (w : World), (w.setCells b o vs).heap.size = w.heap.size
  | [], _, _ => rfl
  | v :: r, o, w => (size_cells b r (o + 1) _).trans (World.size_setCell _ _ _)
theorem below_cells {B g : Nat} {a : World} (hg : B ≤ g) : ∀ (vs : List Value) (o : Nat) (w : World), Below B a w → Below B a (w.setCells g o vs)
  | [], _, _, h => h
  | v :: r, o, w, h => below_cells hg r (o + 1) _ (h.setCell hg v)
theorem Below.setLine {B g : Nat} {a w : World} (h : Below B a w) (hg : B ≤ g) (o : Nat) (vs : List Value) : Below B a (w.setCells g o vs) := below_cells hg vs o w h
end

section
theorem ints_now {w W : World} {A : Option Addr} {n : Nat} {xs : List Int} (hx : Ints w w.heap.size A n xs) (h : Below w.heap.size w W) : Ints W W.heap.size A n xs := (hx.below h).more h.size
theorem lines_now {w W : World} {A : Option Addr} {n c : Nat} {ls : List Line} (hx : Lines w w.heap.size A n c ls) (h : Below w.heap.size w W) : Lines W W.heap.size A n c ls := (hx.below h).more h.size
end
end

section
/-- bit k of a word. -/
def bitI (v k : Int) : Bool := v / 2 ^ k.toNat % 2 == 1
theorem bitI0 (v : Int) : bitI v 0 = (v % 2 == 1) := by simp [bitI]
theorem bitI1 (v : Int) : bitI v 1 = (v / 2 % 2 == 1) := by simp [bitI]
theorem bitI2 (v : Int) : bitI v 2 = (v / 4 % 2 == 1) := by simp [bitI]
theorem bitI3 (v : Int) : bitI v 3 = (v / 8 % 2 == 1) := by simp [bitI]
def enBad (v : Int) : Bool := v / 1024 != 0 || bitI v 2 && !bitI v 1 || !bitI v 3 && bitI v 1
def enIn (v : Int) : Bool := decide (0 ≤ v) && decide (v ≤ 65535)
def enK (v : Int) : Bool := enIn v && (!bitI v 0 || !enBad v)
def enG (v : Int) : Bool := enIn v && bitI v 0 && !enBad v
def enP (v : Int) : Int := if enG v then v / 16 % 64 else 0
def enV (v : Int) : Value := .tuple #[.agg #[.bool (enG v), .bool (enG v && bitI v 1), .bool (enG v && bitI v 2), .bool (enG v && bitI v 3), .int .i64 (enP v)], .bool (enK v)]
theorem enV_no {v : Int} (h : enG v = false) (b : Bool) (hk : enK v = b) : Ending.returned (.tuple #[.agg #[.bool false, .bool false, .bool false, .bool false, .int .i64 0], .bool b]) = .returned (enV v) := by simp [enV, enP, h, hk]
theorem enV_yes {v : Int} (h : enG v = true) (hk : enK v = true) : Ending.returned (.tuple #[.agg #[.bool true, .bool (bitI v 1), .bool (bitI v 2), .bool (bitI v 3), .int .i64 (v / 16 % 64)], .bool true]) = .returned (enV v) := by simp [enV, enP, h, hk]
theorem enG_K {v : Int} (h : enG v = true) : enK v = true := by
  unfold enG at h; unfold enK; simp only [Bool.and_eq_true] at h; simp [h]

def cxBad (v : Int) : Bool := v / 1024 != 0 || bitI v 2 || bitI v 3 || bitI v 1 && v / 16 % 64 != 0
def cxK (v : Int) : Bool := enIn v && (!bitI v 0 || !cxBad v)
def cxG (v : Int) : Bool := enIn v && bitI v 0 && !cxBad v
def cxR (v : Int) : Int := if cxG v then v / 16 % 64 else 0
def cxV (v : Int) : Value := .tuple #[.agg #[.bool (cxG v), .bool (cxG v && bitI v 1), .int .i64 (cxR v)], .bool (cxK v)]
theorem cxV_eq (v : Int) : cxV v = .tuple #[.agg #[.bool (cxG v), .bool (cxG v && bitI v 1), .int .i64 (cxR v)], .bool (cxK v)] := rfl
theorem cxV_no {v : Int} (h : cxG v = false) (b : Bool) (hk : cxK v = b) : Ending.returned (.tuple #[.agg #[.bool false, .bool false, .int .i64 0], .bool b]) = .returned (cxV v) := by simp [cxV, cxR, h, hk]
theorem cxV_yes {v : Int} (h : cxG v = true) (hk : cxK v = true) : Ending.returned (.tuple #[.agg #[.bool true, .bool (bitI v 1), .int .i64 (v / 16 % 64)], .bool true]) = .returned (cxV v) := by simp [cxV, cxR, h, hk]
theorem cxG_K {v : Int} (h : cxG v = true) : cxK v = true := by
  unfold cxG at h; unfold cxK; simp only [Bool.and_eq_true] at h; simp [h]
end

section
def inWord (x : Int) : Bool := decide (0 ≤ x) && decide (x ≤ 65535)
/-- memory's check. -/
def cm (xs : List Int) : Int := if xs.length = 512 then (if xs.all inWord then 0 else 2) else 3
theorem cm_len {xs : List Int} (h : xs.length ≠ 512) : cm xs = 3 := by simp [cm, h]
theorem cm_bad {xs : List Int} {k : Nat} {x : Int} (hl : xs.length = 512) (hx : xs[k]? = some x) (h : inWord x = false) : cm xs = 2 := by
  simp [cm, hl, all_false hx h]
theorem cm_ok {xs : List Int} (hl : xs.length = 512) (h : (xs.take 512).all inWord = true) : cm xs = 0 := by
  rw [List.take_of_length_le (by omega)] at h; simp [cm, hl, h]
theorem cm_inv {xs : List Int} (h : cm xs = 0) : xs.length = 512 ∧ ∀ (k : Nat) (x : Int), xs[k]? = some x → 0 ≤ x ∧ x ≤ 65535 := by
  unfold cm at h
  split at h
  · rename_i hl
    split at h
    · rename_i ha
      refine ⟨hl, fun k x hx => ?_⟩
      have := List.all_eq_true.1 ha x (List.mem_of_getElem? hx)
      simpa [inWord] using this
    · cases h
  · cases h

theorem set_get {xs : List Int} {i : Int} {v : Int} (hl : xs.length = 512) (hi : 0 ≤ i ∧ i < 512) : (xs.set i.toNat v)[i.toNat]? = some v := by
  rw [List.getElem?_set_self (by omega)]
theorem cm_set {xs : List Int} {i v : Int} (h : cm xs = 0) (hv : 0 ≤ v ∧ v ≤ 65535) : cm (xs.set i.toNat v) = 0 := by
  obtain ⟨hl, ha⟩ := cm_inv h
  have : (xs.set i.toNat v).all inWord = true := by
    rw [List.all_eq_true]
    intro x hx
    obtain ⟨k, hk⟩ := List.getElem?_of_mem hx
    rw [List.getElem?_set] at hk
    split at hk
    · split at hk
      · simp at hk; subst hk; simp [inWord, hv]
      · cases hk
    · have := ha _ _ hk; simp [inWord, this]
  simp [cm, hl, this]
end

section
/-- a word of memory. -/
def rd (xs : List Int) (i : Int) : Int := xs[i.toNat]?.getD 0
theorem rd_at {xs : List Int} {i : Int} (hl : xs.length = 512) (hi : 0 ≤ i ∧ i < 512) : xs[i.toNat]? = some (rd xs i) := by
  unfold rd; rw [List.getElem?_eq_getElem (by omega)]; rfl
theorem rd_bd {xs : List Int} {i : Int} (h : cm xs = 0) (hi : 0 ≤ i ∧ i < 512) : 0 ≤ rd xs i ∧ rd xs i ≤ 65535 :=
  (cm_inv h).2 _ _ (rd_at (cm_inv h).1 hi)
theorem rd_self {xs : List Int} {i v : Int} (hl : xs.length = 512) (hi : 0 ≤ i ∧ i < 512) : rd (xs.set i.toNat v) i = v := by
  unfold rd; rw [set_get hl hi]; rfl

/-- an entry, told apart. -/
structure Ent where
  v : Bool
  r : Bool
  u : Bool
  l : Bool
  p : Int
def Ent.no : Ent := ⟨false, false, false, false, 0⟩
def Ent.val (e : Ent) : Value := .agg #[.bool e.v, .bool e.r, .bool e.u, .bool e.l, .int .i64 e.p]
/-- what a good word is as an entry. -/
def entAt (x : Int) : Ent := ⟨true, bitI x 1, bitI x 2, bitI x 3, enP x⟩
theorem enP_bd (x : Int) : 0 ≤ enP x ∧ enP x ≤ 63 := by unfold enP; split <;> omega
theorem enV_bad {x : Int} (h : enK x = false) : enV x = .tuple #[.agg #[.bool false, .bool false, .bool false, .bool false, .int .i64 0], .bool false] := by
  have hg : enG x = false := by
    cases h' : enG x with
    | false => rfl
    | true => rw [enG_K h'] at h; cases h
  simp [enV, enP, hg, h]
theorem enV_off {x : Int} (h : enK x = true) (hg : enG x = false) : enV x = .tuple #[.agg #[.bool false, .bool false, .bool false, .bool false, .int .i64 0], .bool true] := by simp [enV, enP, hg, h]
theorem enV_on {x : Int} (hg : enG x = true) : enV x = .tuple #[.agg #[.bool true, .bool (bitI x 1), .bool (bitI x 2), .bool (bitI x 3), .int .i64 (enP x)], .bool true] := by simp [enV, hg, enG_K hg]

/-- the second table. -/
def leaf2 (xs : List Int) (t page : Int) : Ent × Int :=
  let y := rd xs (t * 8 + page % 8)
  if enK y then (if enG y then (if bitI y 3 then (entAt y, 0) else (.no, 4)) else (.no, 3)) else (.no, 4)
/-- the leaf of a page, by tables; a fault. -/
def leafM (xs : List Int) (root page : Int) : Ent × Int :=
  let x := rd xs (root * 8 + page / 8)
  if enK x then (if enG x then (if bitI x 3 then (if enP x % 8 = 0 then ({ entAt x with p := enP x + page % 8 }, 0) else (.no, 4)) else leaf2 xs (enP x) page) else (.no, 3)) else (.no, 4)
def inP (root page : Int) : Prop := (0 ≤ root ∧ root < 64) ∧ (0 ≤ page ∧ page < 64)
instance (root page : Int) : Decidable (inP root page) := by unfold inP; exact inferInstance
/-- what is told of right memory, and a right root and page. -/
def walkM (xs : List Int) (root page : Int) (wr : Bool) : Ent × Int :=
  let q := leafM xs root page
  if q.2 = 0 then (if q.1.r && (!wr || q.1.u) then q else (.no, 5)) else (.no, q.2)
/-- chapter 3's Walk. -/
def walkA (xs : List Int) (root page : Int) (wr : Bool) : Ent × Int × Int :=
  if cm xs = 0 then (if inP root page then ((walkM xs root page wr).1, (walkM xs root page wr).2, 0) else (.no, 0, 4)) else (.no, 0, cm xs)

/-- what a leaf is known to be. -/
def LeafOk (q : Ent × Int) : Prop := (q.2 = 0 ∧ q.1.v = true ∧ q.1.l = true ∧ 0 ≤ q.1.p ∧ q.1.p ≤ 63) ∨ (q.1 = .no ∧ (q.2 = 3 ∨ q.2 = 4))
theorem leaf2_ok (xs : List Int) (t page : Int) : LeafOk (leaf2 xs t page) := by
  unfold leaf2 LeafOk
  have hp := enP_bd (rd xs (t * 8 + page % 8))
  dsimp only
  split
  · split
    · split
      · rename_i h1 h2 h3; left; exact ⟨rfl, rfl, h3, hp⟩
      · right; exact ⟨rfl, Or.inr rfl⟩
    · right; exact ⟨rfl, Or.inl rfl⟩
  · right; exact ⟨rfl, Or.inr rfl⟩
theorem leafM_ok (xs : List Int) (root page : Int) : LeafOk (leafM xs root page) := by
  unfold leafM
  have hp := enP_bd (rd xs (root * 8 + page / 8))
  dsimp only
  split
  · split
    · split
      · split
        · rename_i h1 h2 h3 h4; left; exact ⟨rfl, rfl, h3, by simp only []; omega, by simp only []; omega⟩
        · right; exact ⟨rfl, Or.inr rfl⟩
      · exact leaf2_ok _ _ _
    · right; exact ⟨rfl, Or.inl rfl⟩
  · right; exact ⟨rfl, Or.inr rfl⟩
theorem walkM_yes {xs : List Int} {root page : Int} {wr : Bool} (h : (walkM xs root page wr).2 = 0) : walkM xs root page wr = leafM xs root page ∧ (leafM xs root page).2 = 0 ∧ (leafM xs root page).1.r = true ∧ (wr = true → (leafM xs root page).1.u = true) := by
  unfold walkM at h ⊢
  dsimp only at h ⊢
  split at h
  · rename_i h0
    split at h
    · rename_i h1
      rw [if_pos h0, if_pos h1]
      simp only [Bool.and_eq_true, Bool.or_eq_true, Bool.not_eq_true'] at h1
      refine ⟨rfl, h0, h1.1, fun hw => ?_⟩
      rcases h1.2 with h2 | h2
      · rw [hw] at h2; cases h2
      · exact h2
    · cases h
  · rename_i h0; exact absurd h h0
theorem walkM_no {xs : List Int} {root page : Int} {wr : Bool} (h : (walkM xs root page wr).2 ≠ 0) : (walkM xs root page wr).1 = .no ∧ ((walkM xs root page wr).2 = 3 ∨ (walkM xs root page wr).2 = 4 ∨ (walkM xs root page wr).2 = 5) := by
  have hk := leafM_ok xs root page
  unfold walkM at h ⊢
  dsimp only at h ⊢
  by_cases h0 : (leafM xs root page).2 = 0
  · rw [if_pos h0] at h ⊢
    by_cases h1 : ((leafM xs root page).1.r && (!wr || (leafM xs root page).1.u)) = true
    · rw [if_pos h1] at h; exact absurd h0 h
    · rw [if_neg h1]; exact ⟨rfl, Or.inr (Or.inr rfl)⟩
  · rw [if_neg h0]
    rcases hk with hk | ⟨_, hk⟩
    · exact absurd hk.1 h0
    · exact ⟨rfl, by rcases hk with hk | hk <;> simp [hk]⟩

/-- words at places, of noughts. -/
def withL : List Int → List Int → List Int
  | xs, a :: b :: r => withL (xs.set a.toNat b) r
  | xs, _ => xs
end

section
structure Ring where
  page : Int
  head : Int
  tail : Int
def Ring.val (r : Ring) : Value := .agg #[.int .i64 r.page, .int .i64 r.head, .int .i64 r.tail]
def Ring.no : Ring := ⟨0, 0, 0⟩
theorem Ring.ext' {x y : Ring} (h1 : x.page = y.page) (h2 : x.head = y.head) (h3 : x.tail = y.tail) : x = y := by
  cases x; cases y; simp only [] at *; subst h1; subst h2; subst h3; rfl
def ringR (r : Ring) : Prop := (0 ≤ r.page ∧ r.page < 64) ∧ (0 ≤ r.head ∧ r.head < 8) ∧ (0 ≤ r.tail ∧ r.tail < 8)
instance (r : Ring) : Decidable (ringR r) := by unfold ringR; exact inferInstance
/-- chapter 5's Check, Length. -/
def ckR (r : Ring) : Int := if ringR r then 0 else 2
theorem ckR_0 {r : Ring} (h : ringR r) : ckR r = 0 := by simp only [ckR, if_pos h]
theorem ckR_2 {r : Ring} (h : ¬ ringR r) : ckR r = 2 := by simp only [ckR, if_neg h]
theorem ckR_inv {r : Ring} (h : ckR r = 0) : ringR r := by
  unfold ckR at h; split at h
  · assumption
  · cases h
def lenR (r : Ring) : Int := (r.tail - r.head) % 8
/-- both are right. -/
def bothE (xs : List Int) (r : Ring) : Int := if cm xs = 0 then ckR r else cm xs
theorem bothE_inv {xs : List Int} {r : Ring} (h : bothE xs r = 0) : cm xs = 0 ∧ ringR r := by
  unfold bothE at h; split at h
  · rename_i h0; exact ⟨h0, ckR_inv h⟩
  · rename_i h0; exact absurd h h0
theorem bothE_0 {xs : List Int} {r : Ring} (h : cm xs = 0) (hr : ringR r) : bothE xs r = 0 := by unfold bothE; rw [if_pos h, ckR_0 hr]
/-- chapter 5's Push, Pop. -/
def pushE (xs : List Int) (r : Ring) (v : Int) : Int := if bothE xs r = 0 then (if 0 ≤ v ∧ v ≤ 65535 then (if lenR r = 7 then 1 else 0) else 2) else bothE xs r
def pushX (xs : List Int) (r : Ring) (v : Int) : List Int := xs.set (r.page * 8 + r.tail).toNat v
def pushR (r : Ring) : Ring := ⟨r.page, r.head, (r.tail + 1) % 8⟩
def popE (xs : List Int) (r : Ring) : Int := if bothE xs r = 0 then (if lenR r = 0 then 6 else 0) else bothE xs r
def popV (xs : List Int) (r : Ring) : Int := rd xs (r.page * 8 + r.head)
def popR (r : Ring) : Ring := ⟨r.page, (r.head + 1) % 8, r.tail⟩
theorem pushE_b {xs : List Int} {r : Ring} {v : Int} (h : bothE xs r ≠ 0) : pushE xs r v = bothE xs r := by unfold pushE; rw [if_neg h]
theorem pushE_v {xs : List Int} {r : Ring} {v : Int} (h : bothE xs r = 0) (hv : ¬ (0 ≤ v ∧ v ≤ 65535)) : pushE xs r v = 2 := by unfold pushE; rw [if_pos h, if_neg hv]
theorem pushE_m {xs : List Int} {r : Ring} {v : Int} (h : bothE xs r = 0) (hv : 0 ≤ v ∧ v ≤ 65535) (hl : lenR r = 7) : pushE xs r v = 1 := by unfold pushE; rw [if_pos h, if_pos hv, if_pos hl]
theorem pushE_0 {xs : List Int} {r : Ring} {v : Int} (h : bothE xs r = 0) (hv : 0 ≤ v ∧ v ≤ 65535) (hl : lenR r ≠ 7) : pushE xs r v = 0 := by unfold pushE; rw [if_pos h, if_pos hv, if_neg hl]
theorem pushE_inv {xs : List Int} {r : Ring} {v : Int} (h : pushE xs r v = 0) : bothE xs r = 0 ∧ (0 ≤ v ∧ v ≤ 65535) ∧ lenR r ≠ 7 := by
  unfold pushE at h; split at h
  · rename_i h1; split at h
    · rename_i h2; split at h
      · cases h
      · rename_i h3; exact ⟨h1, h2, h3⟩
    · cases h
  · rename_i h1; exact absurd h h1
theorem popE_b {xs : List Int} {r : Ring} (h : bothE xs r ≠ 0) : popE xs r = bothE xs r := by unfold popE; rw [if_neg h]
theorem popE_6 {xs : List Int} {r : Ring} (h : bothE xs r = 0) (hl : lenR r = 0) : popE xs r = 6 := by unfold popE; rw [if_pos h, if_pos hl]
theorem popE_0 {xs : List Int} {r : Ring} (h : bothE xs r = 0) (hl : lenR r ≠ 0) : popE xs r = 0 := by unfold popE; rw [if_pos h, if_neg hl]
theorem popE_inv {xs : List Int} {r : Ring} (h : popE xs r = 0) : bothE xs r = 0 ∧ lenR r ≠ 0 := by
  unfold popE at h; split at h
  · rename_i h1; split at h
    · cases h
    · rename_i h3; exact ⟨h1, h3⟩
  · rename_i h1; exact absurd h h1
theorem ring_at {r : Ring} (h : ringR r) : (0 ≤ r.page * 8 + r.tail ∧ r.page * 8 + r.tail < 512) ∧ (0 ≤ r.page * 8 + r.head ∧ r.page * 8 + r.head < 512) := by
  unfold ringR at h; omega
theorem push_ring {r : Ring} (h : ringR r) : ringR (pushR r) := by unfold ringR at *; unfold pushR; simp only []; omega
theorem pop_ring {r : Ring} (h : ringR r) : ringR (popR r) := by unfold ringR at *; unfold popR; simp only []; omega
theorem push_cm {xs : List Int} {r : Ring} {v : Int} (h : cm xs = 0) (hv : 0 ≤ v ∧ v ≤ 65535) : cm (pushX xs r v) = 0 := cm_set h hv
end

section
instance : DecidableEq Ring := fun x y =>
  if h : x.page = y.page ∧ x.head = y.head ∧ x.tail = y.tail then isTrue (Ring.ext' h.1 h.2.1 h.2.2) else isFalse (fun e => h (by subst e; exact ⟨rfl, rfl, rfl⟩))
structure Brg where
  mode : Int
  base : Int
  cache : List Line
  orders : Ring
  stopped : Bool
  fences : Int
  faults : Ring
  lost : Bool
def Brg.no : Brg := ⟨0, 0, [], .no, false, 0, .no, false⟩
theorem Brg.ext' {x y : Brg} (h1 : x.mode = y.mode) (h2 : x.base = y.base) (h3 : x.cache = y.cache) (h4 : x.orders = y.orders) (h5 : x.stopped = y.stopped) (h6 : x.fences = y.fences) (h7 : x.faults = y.faults) (h8 : x.lost = y.lost) : x = y := by
  cases x; cases y; simp only [] at *; subst h1; subst h2; subst h3; subst h4; subst h5; subst h6; subst h7; subst h8; rfl
instance : DecidableEq Brg := fun x y =>
  if h : x.mode = y.mode ∧ x.base = y.base ∧ x.cache = y.cache ∧ x.orders = y.orders ∧ x.stopped = y.stopped ∧ x.fences = y.fences ∧ x.faults = y.faults ∧ x.lost = y.lost then
    isTrue (Brg.ext' h.1 h.2.1 h.2.2.1 h.2.2.2.1 h.2.2.2.2.1 h.2.2.2.2.2.1 h.2.2.2.2.2.2.1 h.2.2.2.2.2.2.2)
  else isFalse (fun e => h (by subst e; exact ⟨rfl, rfl, rfl, rfl, rfl, rfl, rfl, rfl⟩))
/-- a line that is none. -/
def Line.no : Line := ⟨0, 0, 0, false, false⟩
def brgR (b : Brg) : Prop := (0 ≤ b.mode ∧ b.mode ≤ 2) ∧ (0 ≤ b.base ∧ b.base < 64) ∧ (0 ≤ b.fences ∧ b.fences < 1000)
instance (b : Brg) : Decidable (brgR b) := by unfold brgR; exact inferInstance
/-- chapter 7's Check. -/
def ckB (b : Brg) : Int := if brgR b then (if ckC b.cache = 0 then (if ringR b.orders then ckR b.faults else 2) else ckC b.cache) else 2
theorem ckB_iff (b : Brg) : ckB b = 0 ↔ brgR b ∧ ckC b.cache = 0 ∧ ringR b.orders ∧ ringR b.faults := by
  unfold ckB
  by_cases h1 : brgR b
  · rw [if_pos h1]
    by_cases h2 : ckC b.cache = 0
    · rw [if_pos h2]
      by_cases h3 : ringR b.orders
      · rw [if_pos h3]; exact ⟨fun h => ⟨h1, h2, h3, ckR_inv h⟩, fun h => ckR_0 h.2.2.2⟩
      · rw [if_neg h3]; exact ⟨(fun h => absurd h (by decide)), fun h => absurd h.2.2.1 h3⟩
    · rw [if_neg h2]; exact ⟨fun h => absurd h h2, fun h => absurd h.2.1 h2⟩
  · rw [if_neg h1]; exact ⟨(fun h => absurd h (by decide)), fun h => absurd h.1 h1⟩
def allE (xs : List Int) (b : Brg) : Int := if cm xs = 0 then ckB b else cm xs
theorem allE_inv {xs : List Int} {b : Brg} (h : allE xs b = 0) : cm xs = 0 ∧ ckB b = 0 := by
  unfold allE at h; split at h
  · rename_i h0; exact ⟨h0, h⟩
  · rename_i h0; exact absurd h h0

/-- where a page of a device is, by memory alone; whether that is to be remembered; a fault. -/
def freshM (xs : List Int) (b : Brg) (d p : Int) (wr : Bool) : Line × Bool × Int :=
  let c := rd xs (b.base * 8 + d)
  if cxG c then
    (if bitI c 1 then (⟨d, p, p, true, true⟩, false, 0)
     else (if (walkM xs (cxR c) p wr).2 = 0 then (⟨d, p, (walkM xs (cxR c) p wr).1.p, true, (walkM xs (cxR c) p wr).1.u⟩, true, 0) else (.no, false, (walkM xs (cxR c) p wr).2)))
  else (.no, false, 2)
/-- where a page of a device is, by the cache first; a fault. -/
def thruM (xs : List Int) (b : Brg) (d p : Int) (wr : Bool) : Brg × Int × Int :=
  if b.mode = 0 then (b, 0, 1) else if b.mode = 1 then (b, p, 0) else
  match b.cache.find? (hitL d p) with
  | some x => if wr && !x.wr then (b, 0, 5) else (b, x.at_, 0)
  | none => ((if (freshM xs b d p wr).2.1 then { b with cache := fillL b.cache (freshM xs b d p wr).1 } else b), (freshM xs b d p wr).1.at_, (freshM xs b d p wr).2.2)
def inD (d p : Int) : Prop := (0 ≤ d ∧ d < 8) ∧ (0 ≤ p ∧ p < 64)
instance (d p : Int) : Decidable (inD d p) := by unfold inD; exact inferInstance
def thruE (xs : List Int) (b : Brg) (d p : Int) : Int := if allE xs b = 0 then (if inD d p then 0 else 4) else allE xs b
/-- chapter 7's Through. -/
def thruA (xs : List Int) (b : Brg) (d p : Int) (wr : Bool) : Brg × Int × Int := if thruE xs b d p = 0 then thruM xs b d p wr else (.no, 0, 0)
theorem thruE_inv {xs : List Int} {b : Brg} {d p : Int} (h : thruE xs b d p = 0) : cm xs = 0 ∧ ckB b = 0 ∧ inD d p := by
  unfold thruE at h; split at h
  · rename_i h0; split at h
    · rename_i h1; exact ⟨(allE_inv h0).1, (allE_inv h0).2, h1⟩
    · cases h
  · rename_i h0; exact absurd h h0
theorem cxR_bd (x : Int) : 0 ≤ cxR x ∧ cxR x ≤ 63 := by unfold cxR; split <;> omega
/-- what is to be remembered may be. -/
theorem fresh_line {xs : List Int} {b : Brg} {d p : Int} {wr : Bool} (hd : inD d p) (h : (freshM xs b d p wr).2.1 = true) :
    lineE (freshM xs b d p wr).1 = 0 ∧ (freshM xs b d p wr).1.dev = d ∧ (freshM xs b d p wr).1.page = p ∧ (freshM xs b d p wr).2.2 = 0 := by
  unfold freshM at h ⊢
  dsimp only at h ⊢
  split at h
  · rename_i h1
    rw [if_pos h1]
    split at h
    · cases h
    · rename_i h2
      rw [if_neg h2]
      split at h
      · rename_i h3
        rw [if_pos h3]
        refine ⟨lineE_0 ?_ rfl, rfl, rfl, rfl⟩
        obtain ⟨e, h4, _, _⟩ := walkM_yes h3
        have := leafM_ok xs (cxR (rd xs (b.base * 8 + d))) p
        rw [e]
        unfold LeafOk at this; unfold inD at hd; unfold lineR
        simp only []
        rcases this with ⟨_, _, _, h5⟩ | ⟨_, h5⟩
        · omega
        · omega
      · cases h
  · cases h
theorem find_find {ls : List Line} {d p : Int} (h : ls.find? (hitL d p) = none) : findL ls d p = -1 :=
  findL_none (fun x hx => by simpa using List.find?_eq_none.1 h x hx)
theorem find_some {ls : List Line} {d p : Int} {x : Line} (h : ls.find? (hitL d p) = some x) : ∃ k : Nat, findL ls d p = (k : Int) ∧ ls[k]? = some x := by
  rcases findL_cases ls d p with ⟨_, h1⟩ | ⟨k, y, e, hy, hh, hn⟩
  · have := List.find?_some h
    rw [h1 x (List.mem_of_find?_eq_some h)] at this; cases this
  · refine ⟨k, e, ?_⟩
    rw [hy]
    obtain ⟨h2, k', h3, h4, h5⟩ := List.find?_eq_some_iff_getElem.1 h
    have hk : k < ls.length := (List.getElem?_eq_some_iff.1 hy).1
    have e1 : ls[k] = y := (List.getElem?_eq_some_iff.1 hy).2
    have : k = k' := by
      rcases Nat.lt_trichotomy k k' with hlt | rfl | hgt
      · have := h5 k hlt; rw [e1, hh] at this; cases this
      · rfl
      · have := hn (ls[k']'(by omega)) (by rw [List.mem_take_iff_getElem]; exact ⟨k', by omega, rfl⟩)
        rw [h4, h2] at this; cases this
    subst this
    rw [← e1, h4]
theorem thru_ck {xs : List Int} {b : Brg} {d p : Int} {wr : Bool} (h : thruE xs b d p = 0) : ckB (thruM xs b d p wr).1 = 0 := by
  obtain ⟨h1, h2, h3⟩ := thruE_inv h
  unfold thruM
  split
  · exact h2
  · split
    · exact h2
    · split
      · split <;> exact h2
      · rename_i hf
        dsimp only
        split
        · rename_i hk
          obtain ⟨a1, a2, a3, _⟩ := fresh_line h3 hk
          rw [ckB_iff] at h2 ⊢
          refine ⟨h2.1, fill_ck (fillE_0 h2.2.1 a1 ?_), h2.2.2⟩
          rw [a2, a3, find_find hf]; decide
        · exact h2
end

section
/-- behind a world: what lay there lies as it was. -/
def Since (w0 W : World) : Prop := Below w0.heap.size w0 W
theorem since_refl (w0 : World) : Since w0 w0 := Below.refl _ _
theorem since_drew {w0 W : World} (h : Since w0 W) : Since w0 W.drew := h.drew
theorem since_alloc {w0 W : World} (h : Since w0 W) (o : Obj) : Since w0 (W.alloc o) := Below.alloc h h.size o
theorem since_step {w0 W W' : World} (hb : Below W.heap.size W W') (h : Since w0 W) : Since w0 W' := Below.trans h (hb.mono h.size)
theorem cell_lt' {w : World} {a : Addr} {v : Value} (h : w.cell? a = some v) : a.block < w.heap.size := by
  rcases Nat.lt_or_ge a.block w.heap.size with hlt | hge
  · exact hlt
  · simp [World.cell?, Array.getElem?_eq_none hge] at h
theorem since_cell {w0 W : World} {p : Addr} {v : Value} (h : Since w0 W) (hc : w0.cell? p = some v) : W.cell? p = some v := (Below.cell h (cell_lt' hc)).trans hc
theorem since_of4 {w3 W : World} {a b c d : Prop} (h : a ∧ b ∧ c ∧ d ∧ Hid (Since w3 W)) : Since w3 W := h.2.2.2.2
end

section
/-- but for what is remembered the bridge is as it was. -/
theorem thru_but (xs : List Int) (b : Brg) (d p : Int) (wr : Bool) : (thruM xs b d p wr).1 = { b with cache := (thruM xs b d p wr).1.cache } := by
  unfold thruM
  split
  · rfl
  · split
    · rfl
    · split
      · split <;> rfl
      · dsimp only; split <;> rfl
theorem fresh_but {xs : List Int} {b : Brg} {ls : List Line} {d p : Int} {wr : Bool} : freshM xs { b with cache := ls } d p wr = freshM xs b d p wr := rfl
end
end Go.Proofs.Ytbopdijnojaaiad
