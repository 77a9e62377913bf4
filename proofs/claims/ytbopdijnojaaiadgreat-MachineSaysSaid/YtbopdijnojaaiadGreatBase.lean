/- The bridge: plain laws on who was let through. No program in sight, no statement of the seat is proved here. -/
import Derived.Test.YtbopdijnojaaiadGreatZz
namespace Go.Proofs.YtbopdijnojaaiadGreat
open Go.RowKit
set_option linter.unusedSimpArgs false
set_option linter.unusedVariables false
section
theorem Xbe {k : IntKind} {a b : Int} (h : a = b) : Ending.returned (.int k a) = .returned (.int k b) := by rw [h]
theorem Xbf {a b : Bool} (h : a = b) : Ending.returned (.bool a) = .returned (.bool b) := by rw [h]
theorem Xb5 {k l : IntKind} {a b c d : Int} (h : a = b) (h' : c = d) : Ending.returned (.tuple #[.int k a, .int l c]) = .returned (.tuple #[.int k b, .int l d]) := by rw [h, h']
theorem Xq6 {a b c d e f : Bool} (h : a = b) (h' : c = d) (h'' : e = f) : Ending.returned (.tuple #[.bool a, .bool c, .bool e]) = .returned (.tuple #[.bool b, .bool d, .bool f]) := by rw [h, h', h'']
theorem Xa3 (w : World) : ∀ o, Below w.heap.size w (w.alloc o) := fun o => (Below.refl _ _).alloc (Nat.le_refl _) o
theorem Xax {α : Type} (xs : List α) {k : Nat} (h : k < xs.length) : ∃ x, xs[k]? = some x := ⟨_, List.getElem?_eq_getElem h⟩
theorem Xcv {α : Type} {p : α → Bool} {xs : List α} {k : Nat} {x : α} (hx : xs[k]? = some x) (h : (xs.take k).all p = true) (hp : p x = true) : (xs.take (k + 1)).all p = true := by
 rw [List.take_add_one, hx]; simp [h, hp]
theorem Xi4 {α : Type} {p : α → Bool} {xs : List α} {k : Nat} {x : α} (hx : xs[k]? = some x) (h : p x = false) : xs.all p = false := by
 rw [List.all_eq_false]; exact ⟨x, List.mem_of_getElem? hx, by simp [h]⟩
theorem Xab {W w1 : World} (hb : Below W.heap.size W w1) : (∀ b o, b < W.heap.size → w1.cell? ⟨b, o, none⟩ = W.cell? ⟨b, o, none⟩) ∧ (∀ b o, b < W.heap.size → w1.frozen? ⟨b, o, none⟩ = W.frozen? ⟨b, o, none⟩) :=
  ⟨fun b o h => hb.cell (p := ⟨b, o, none⟩) h, fun b o h => hb.frozen (p := ⟨b, o, none⟩) h⟩
theorem Xai {B : Nat} {a w : World} (h : Below B a w) (n : Nat) : Below B a (w.drewN n) := ⟨h.os, h.tape, h.output, h.size, h.block⟩
def Row (w : World) (B : Nat) (A : Option Addr) (vs : List Value) : Prop :=
  0 < vs.length → ∃ b off, A = some ⟨b, off, none⟩ ∧ b < B ∧ ∀ k v, vs[k]? = some v → w.cell? ⟨b, off + k, none⟩ = some v
section
variable {w w' : World} {B B' : Nat} {A : Option Addr} {vs : List Value}
theorem Row.keep (h : Row w B A vs) (hk : ∀ p : Addr, p.block < B → w'.cell? p = w.cell? p) : Row w' B A vs := fun hn => by
  obtain ⟨b, off, e, hb, hc⟩ := h hn
  exact ⟨b, off, e, hb, fun k v hv => (hk _ hb).trans (hc k v hv)⟩
theorem Row.more (h : Row w B A vs) (hB : B ≤ B') : Row w B' A vs := fun hn => by
  obtain ⟨b, off, e, hb, hc⟩ := h hn
  exact ⟨b, off, e, by omega, hc⟩
theorem Row.below (h : Row w B A vs) (hb : Below B w w') : Row w' B A vs := h.keep fun _ hp => hb.cell hp
theorem Row.drew (h : Row w B A vs) : Row w.drew B A vs := h
theorem Row.alloc (h : Row w B A vs) (hB : B ≤ w.heap.size) (o : Obj) : Row (w.alloc o) B A vs := h.keep fun p hp => World.cell?_alloc_lt w o p (by omega)
theorem Row.setCell (h : Row w B A vs) {p : Addr} (hB : B ≤ p.block) (u : Value) : Row (w.setCell p u) B A vs :=
  h.keep fun q hq => World.cell?_setCell_other w p q u (fun e => by subst e; omega)
theorem Row.nil_ : Row w B A [] := fun h => absurd h (by simp)
theorem Row.of_own {base : Nat} {e : TypeId} {size n c : Nat} (h : w.ownsRow base e size (.slice A n c) n vs) : Row w w.heap.size A vs := fun hn => by
  have hl : vs.length = n * size := h.1
  have hn' : 0 < n := by
    rcases Nat.eq_zero_or_pos n with h0 | h0
    · subst h0; rw [Nat.zero_mul] at hl; omega
    · exact h0
  obtain ⟨g, cap, hv, _, hlt⟩ := h.form hn'
  have hA : A = some ⟨g, 0, none⟩ := by injection hv
  subst hA
  have hc := h.cells (g := g) rfl
  refine ⟨g, 0, rfl, hlt, fun k v hv => ?_⟩
  rw [Nat.zero_add]
  have := hc k v hv
  by_cases hk : k = 0
  · subst hk; simpa [Addr.add] using this
  · simpa [Addr.add, hk] using this
end
def CutL (wc : World) : List (Nat × List Value) → Prop
  | [] => True
  | (g, cs) :: r => (g < wc.heap.size ∧ ∀ o, wc.cell? ⟨g, o, none⟩ = cs[o]?) ∧ CutL wc r
def CutW (w : World) (gs : List (Nat × List Value)) (wc : World) : Prop := Below w.heap.size w wc ∧ CutL wc gs
def Ints (w : World) (B : Nat) (A : Option Addr) (n : Nat) (xs : List Int) : Prop :=
  xs.length = n ∧ n ≤ maxLen ∧ Row w B A (xs.map (Value.int .i64))
section
variable {w w' : World} {B B' n : Nat} {A : Option Addr} {xs : List Int}
theorem Ints.len (h : Ints w B A n xs) : xs.length = n := h.1
theorem Ints.bd (h : Ints w B A n xs) : n ≤ 9223372036854775807 := by have := h.2.1; unfold maxLen at this; omega
theorem Ints.at_ (h : Ints w B A n xs) (hn : 0 < n) : ∃ b off, A = some ⟨b, off, none⟩ ∧ b < B ∧ ∀ k x, xs[k]? = some x → w.cell? ⟨b, off + k, none⟩ = some (.int .i64 x) := by
 obtain ⟨b, off, e, hb, hc⟩ := h.2.2 (by simpa [h.1] using hn)
 exact ⟨b, off, e, hb, fun k x hx => hc k _ (by simp [hx])⟩
theorem Ints.more (h : Ints w B A n xs) (hB : B ≤ B') : Ints w B' A n xs := ⟨h.1, h.2.1, h.2.2.more hB⟩
theorem Ints.below (h : Ints w B A n xs) (hb : Below B w w') : Ints w' B A n xs := ⟨h.1, h.2.1, h.2.2.below hb⟩
theorem Ints.drew (h : Ints w B A n xs) : Ints w.drew B A n xs := h
theorem Ints.alloc (h : Ints w B A n xs) (hB : B ≤ w.heap.size) (o : Obj) : Ints (w.alloc o) B A n xs := ⟨h.1, h.2.1, h.2.2.alloc hB o⟩
theorem Ints.setCell (h : Ints w B A n xs) {p : Addr} (hB : B ≤ p.block) (u : Value) : Ints (w.setCell p u) B A n xs := ⟨h.1, h.2.1, h.2.2.setCell hB u⟩
end
theorem Ints.of_cells {w : World} {B g n : Nat} {xs : List Int} (hl : xs.length = n) (hn : n ≤ 9223372036854775807) (hg : g < B) (h : ∀ k, w.cell? ⟨g, k, none⟩ = (xs.map (Value.int .i64))[k]?) : Ints w B (some ⟨g, 0, none⟩) n xs :=
  ⟨hl, by unfold maxLen; omega, fun _ => ⟨g, 0, rfl, hg, fun k v hv => by rw [Nat.zero_add, h k, hv]⟩⟩
end
section
structure Line where
  dev : Int
  page : Int
  at_ : Int
  rd : Bool
  wr : Bool
def Line.vals (x : Line) : List Value := [.int .i64 x.dev, .int .i64 x.page, .int .i64 x.at_, .bool x.rd, .bool x.wr]
def Line.val (x : Line) : Value := .agg #[.int .i64 x.dev, .int .i64 x.page, .int .i64 x.at_, .bool x.rd, .bool x.wr]
theorem Line.ext' {x y : Line} (h1 : x.dev = y.dev) (h2 : x.page = y.page) (h3 : x.at_ = y.at_) (h4 : x.rd = y.rd) (h5 : x.wr = y.wr) : x = y := by
 cases x; cases y; simp only [] at *; subst h1; subst h2; subst h3; subst h4; subst h5; rfl
instance : DecidableEq Line := fun x y =>
  if h : x.dev = y.dev ∧ x.page = y.page ∧ x.at_ = y.at_ ∧ x.rd = y.rd ∧ x.wr = y.wr then isTrue (Line.ext' h.1 h.2.1 h.2.2.1 h.2.2.2.1 h.2.2.2.2) else isFalse (fun e => h (by subst e; exact ⟨rfl, rfl, rfl, rfl, rfl⟩))
def Xlq (x y : Line) : Bool := decide (x = y)
def eqL (xs ys : List Line) : Bool := decide (xs = ys)
def hitL (d p : Int) (x : Line) : Bool := x.dev == d && x.page == p
def Xbw (ls : List Line) (d p : Int) : Int := match ls.findIdx? (hitL d p) with | some k => (k : Int) | none => -1
theorem Xfr {ls : List Line} {d p : Int} (h : ∀ x ∈ ls, hitL d p x = false) : Xbw ls d p = -1 := by
 unfold Xbw
 rw [List.findIdx?_eq_none_iff.2 h]
theorem Xjp {ls : List Line} {d p : Int} {k : Nat} {x : Line} (hk : ls[k]? = some x) (hx : hitL d p x = true) (h : ∀ y ∈ ls.take k, hitL d p y = false) : Xbw ls d p = (k : Int) := by
 unfold Xbw
 have hlt : k < ls.length := (List.getElem?_eq_some_iff.1 hk).1
 have hx' : ls[k] = x := (List.getElem?_eq_some_iff.1 hk).2
 have : ls.findIdx? (hitL d p) = some k := by
   exact z196
 rw [this]
theorem Xec (ls : List Line) (d p : Int) : (Xbw ls d p = -1 ∧ ∀ x ∈ ls, hitL d p x = false) ∨ ∃ (k : Nat) (x : Line), Xbw ls d p = (k : Int) ∧ ls[k]? = some x ∧ hitL d p x = true ∧ ∀ y ∈ ls.take k, hitL d p y = false := by
 unfold Xbw
 cases h : ls.findIdx? (hitL d p) with
 | none => left; exact ⟨rfl, List.findIdx?_eq_none_iff.1 h⟩
 | some k =>
   right
   obtain ⟨hk, hx, hj⟩ := List.findIdx?_eq_some_iff_getElem.1 h
   refine ⟨k, ls[k], rfl, List.getElem?_eq_getElem hk, hx, fun y hy => ?_⟩
   obtain ⟨j, hj', rfl⟩ := List.mem_take_iff_getElem.1 hy
   have := hj j (by omega)
   simpa using this
theorem Xob {d p : Int} {x : Line} : hitL d p x = true ↔ x.dev = d ∧ x.page = p := by simp [hitL]
theorem hitL_f {d p : Int} {x : Line} : hitL d p x = false ↔ ¬ (x.dev = d ∧ x.page = p) := by rw [← Xob]; simp
def Xfg (x : Line) : Prop := (0 ≤ x.dev ∧ x.dev < 8) ∧ (0 ≤ x.page ∧ x.page < 64) ∧ (0 ≤ x.at_ ∧ x.at_ < 64)
instance (x : Line) : Decidable (Xfg x) := by unfold Xfg; exact inferInstance
def Xbz (x : Line) : Int := if Xfg x then (if x.rd then 0 else 3) else 2
def ckL : List Line → List Line → Int
  | _, [] => 0
  | pre, x :: r => if Xbz x = 0 then (if 0 ≤ Xbw pre x.dev x.page then 5 else ckL (pre ++ [x]) r) else Xbz x
def ckC (ls : List Line) : Int := if 6 < ls.length then 1 else ckL [] ls
theorem Xkj {ls : List Line} (h : 6 < ls.length) : ckC ls = 1 := by simp only [ckC, if_pos h]
theorem Xkk {ls : List Line} (h : ls.length ≤ 6) : ckC ls = ckL [] ls := by simp only [ckC, if_neg (show ¬ 6 < ls.length by omega)]
theorem Xoi {ls : List Line} {k : Nat} {x : Line} (hx : ls[k]? = some x) (h0 : Xbz x = 0) (hf : Xbw (ls.take k) x.dev x.page < 0) : ckL (ls.take k) (ls.drop k) = ckL (ls.take (k + 1)) (ls.drop (k + 1)) := by
 refine z173 ?_; intro _ _
 simp only [ckL, h0, if_true]
 rw [if_neg (by omega), List.take_add_one, hx]; rfl
theorem Xhb {ls : List Line} {k : Nat} {x : Line} (hx : ls[k]? = some x) (h0 : Xbz x ≠ 0) : ckL (ls.take k) (ls.drop k) = Xbz x := by
 refine z173 ?_; intro _ _
 simp only [ckL, h0, if_false]
theorem Xl3 {ls : List Line} {k : Nat} {x : Line} (hx : ls[k]? = some x) (h0 : Xbz x = 0) (hf : 0 ≤ Xbw (ls.take k) x.dev x.page) : ckL (ls.take k) (ls.drop k) = 5 := by
 refine z173 ?_; intro _ _
 simp only [ckL, h0, if_true, if_pos hf]
theorem Xs0 (ls : List Line) : ckL (ls.take ls.length) (ls.drop ls.length) = 0 := by simp [ckL]
theorem Xry {x : Line} (h : ¬ Xfg x) : Xbz x = 2 := by simp only [Xbz, if_neg h]
theorem Xj9 {x : Line} (h : Xfg x) (h' : x.rd = false) : Xbz x = 3 := by simp [Xbz, h, h']
theorem Xga {x : Line} (h : Xfg x) (h' : x.rd = true) : Xbz x = 0 := by simp [Xbz, h, h']
theorem Xik {x : Line} (h : Xbz x = 0) : Xfg x ∧ x.rd = true := by
 unfold Xbz at h; split at h
 · rename_i hr; split at h
   · rename_i hd; exact ⟨hr, hd⟩
   · cases h
 · cases h
def Xqa (ls : List Line) : Prop := ls.Pairwise fun x y => hitL y.dev y.page x = false
theorem Xv7 : ∀ (ls pre : List Line), Xqa pre → (∀ x ∈ pre, Xbz x = 0) → (ckL pre ls = 0 ↔ Xqa (pre ++ ls) ∧ ∀ x ∈ pre ++ ls, Xbz x = 0)
  | [], pre, ha, hl => by rw [List.append_nil]; exact ⟨fun _ => ⟨ha, hl⟩, fun _ => by simp [ckL]⟩
  | x :: r, pre, ha, hl => by
    by_cases h0 : Xbz x = 0
    · simp only [ckL, h0, if_true]
      by_cases hf : 0 ≤ Xbw pre x.dev x.page
      · rw [if_pos hf]
        refine ⟨(fun h => absurd h (by decide)), fun h => ?_⟩
        exfalso
        rcases Xec pre x.dev x.page with ⟨e, _⟩ | ⟨k, y, e, hy, hh, _⟩
        · omega
        · have := (List.pairwise_append.1 h.1).2.2 y (List.mem_of_getElem? hy) x (by simp)
          rw [hh] at this; cases this
      · rw [if_neg hf]
        have hn : ∀ y ∈ pre, hitL x.dev x.page y = false := by
          rcases Xec pre x.dev x.page with ⟨_, h⟩ | ⟨k, y, e, _⟩
          · exact h
          · omega
        have := Xv7 r (pre ++ [x]) (by
          unfold Xqa; rw [List.pairwise_append]; refine ⟨ha, by simp, fun a ha' b hb => ?_⟩
          simp at hb; subst hb; exact hn a ha') (fun y hy => by
          rw [List.mem_append] at hy; rcases hy with hy | hy
          · exact hl y hy
          · simp at hy; subst hy; exact h0)
        rw [this]; simp
    · have e : ckL pre (x :: r) = Xbz x := by simp only [ckL, h0, if_false]
      rw [e]
      exact ⟨fun h => absurd h h0, fun h => absurd (h.2 x (by simp)) h0⟩
theorem Xcx (ls : List Line) : ckC ls = 0 ↔ ls.length ≤ 6 ∧ Xqa ls ∧ ∀ x ∈ ls, Xbz x = 0 := by
 by_cases h : 6 < ls.length
 · rw [Xkj h]; exact ⟨(fun e => absurd e (by decide)), fun e => by omega⟩
 · rw [Xkk (by omega), Xv7 ls [] (by simp [Xqa]) (by simp)]
   simp; omega
theorem Xki (x : Line) : ckC [x] = Xbz x := by
 rw [Xkk (by simp)]
 by_cases h : Xbz x = 0
 · simp [ckL, h, Xbw]
 · simp [ckL, h]
def Xeq (ls : List Line) (x : Line) : Int := if ckC ls = 0 then (if Xbz x = 0 then (if 0 ≤ Xbw ls x.dev x.page then 5 else 0) else Xbz x) else ckC ls
def Xej (ls : List Line) (x : Line) : List Line := if Xeq ls x = 0 then ls.drop (ls.length + 1 - 6) ++ [x] else []
theorem Xir {ls : List Line} {x : Line} (h : Xeq ls x = 0) : ckC ls = 0 ∧ Xbz x = 0 ∧ Xbw ls x.dev x.page < 0 := by
 unfold Xeq at h; split at h
 · rename_i h1; split at h
   · rename_i h2; split at h
     · cases h
     · exact ⟨h1, h2, by omega⟩
   · rename_i h2; exact absurd h h2
 · rename_i h1; exact absurd h h1
theorem Xkf {ls : List Line} {x : Line} (h1 : ckC ls = 0) (h2 : Xbz x = 0) (h3 : Xbw ls x.dev x.page < 0) : Xeq ls x = 0 := by
 unfold Xeq; rw [if_pos h1, if_pos h2, if_neg (by omega)]
theorem Xxh {ls : List Line} {x : Line} (h1 : ckC ls ≠ 0) : Xeq ls x = ckC ls := by unfold Xeq; rw [if_neg h1]
theorem Xxg {ls : List Line} {x : Line} (h1 : ckC ls = 0) (h2 : Xbz x ≠ 0) : Xeq ls x = Xbz x := by unfold Xeq; rw [if_pos h1, if_neg h2]
theorem Xxf {ls : List Line} {x : Line} (h1 : ckC ls = 0) (h2 : Xbz x = 0) (h3 : 0 ≤ Xbw ls x.dev x.page) : Xeq ls x = 5 := by unfold Xeq; rw [if_pos h1, if_pos h2, if_pos h3]
theorem Xm9 {ls : List Line} {x : Line} (h : Xeq ls x = 0) : Xej ls x = ls.drop (ls.length + 1 - 6) ++ [x] := by unfold Xej; rw [if_pos h]
theorem Xxe {ls : List Line} {x : Line} {n : Int} (h : Xeq ls x = n) (hn : n ≠ 0) : Xej ls x = [] := by unfold Xej; rw [if_neg (by rw [h]; exact hn)]
theorem Xof {ls : List Line} {d p : Int} (h : Xbw ls d p < 0) : ∀ y ∈ ls, hitL d p y = false := by
 rcases Xec ls d p with ⟨_, h'⟩ | ⟨k, y, e, _⟩
 · exact h'
 · omega
theorem Xxd {ls : List Line} {x : Line} (h : Xeq ls x = 0) : ckC (Xej ls x) = 0 := by
 obtain ⟨h1, h2, h3⟩ := Xir h
 obtain ⟨a1, a2, a3⟩ := (Xcx ls).1 h1
 rw [Xm9 h, Xcx]
 refine ⟨by simp; omega, ?_, fun y hy => ?_⟩
 · unfold Xqa; rw [List.pairwise_append]
   refine ⟨List.Pairwise.sublist (List.drop_sublist _ _) a2, by simp, fun a ha b hb => ?_⟩
   simp at hb; subst hb
   exact Xof h3 a (List.mem_of_mem_drop ha)
 · rw [List.mem_append] at hy; rcases hy with hy | hy
   · exact a3 y (List.mem_of_mem_drop hy)
   · simp at hy; subst hy; exact h2
def goes (k d p : Int) (x : Line) : Bool := k == 1 || (k == 2 && x.dev == d) || (k == 3 && (x.dev == d && x.page == p))
def Xee (ls : List Line) (k : Int) : Int := if ckC ls = 0 then (if 0 ≤ k ∧ k ≤ 3 then 0 else 3) else ckC ls
def Xe3 (ls : List Line) (k d p : Int) : List Line := if Xee ls k = 0 then ls.filter (fun x => !goes k d p x) else []
theorem Xsv {ls : List Line} {k : Int} (h : Xee ls k = 0) : ckC ls = 0 ∧ 0 ≤ k ∧ k ≤ 3 := by
 unfold Xee at h; split at h
 · rename_i h1; split at h
   · rename_i h2; exact ⟨h1, h2⟩
   · cases h
 · rename_i h1; exact absurd h h1
theorem Xge {ls : List Line} {k : Int} (h : ckC ls = 0) (hk : 0 ≤ k ∧ k ≤ 3) : Xee ls k = 0 := by unfold Xee; rw [if_pos h, if_pos hk]
theorem Xnb {ls : List Line} {k : Int} (h : ckC ls = 0) (hk : ¬ (0 ≤ k ∧ k ≤ 3)) : Xee ls k = 3 := by unfold Xee; rw [if_pos h, if_neg hk]
theorem Xnc {ls : List Line} {k : Int} (h : ckC ls ≠ 0) : Xee ls k = ckC ls := by unfold Xee; rw [if_neg h]
theorem Xiu {ls : List Line} {k d p : Int} (h : Xee ls k = 0) : Xe3 ls k d p = ls.filter (fun x => !goes k d p x) := by unfold Xe3; rw [if_pos h]
theorem Xna {ls : List Line} {k d p n : Int} (h : Xee ls k = n) (hn : n ≠ 0) : Xe3 ls k d p = [] := by unfold Xe3; rw [if_neg (by rw [h]; exact hn)]
end
section
def Xaq (ls : List Line) : List Value := ls.flatMap Line.vals
theorem Xbc : ∀ ls : List Line, (Xaq ls).length = ls.length * 5
  | [] => rfl
  | x :: r => by unfold Xaq; rw [List.flatMap_cons, List.length_append]; have := Xbc r; unfold Xaq at this; rw [this]; simp [Line.vals]; omega
theorem Xil : ∀ (ls : List Line) (k : Nat) (x : Line) (j : Nat), ls[k]? = some x → j < 5 → (Xaq ls)[k * 5 + j]? = x.vals[j]?
  | [], k, x, j, h, _ => by simp at h
  | y :: r, 0, x, j, h, hj => by
    simp at h; subst h
    unfold Xaq
    rw [List.flatMap_cons, List.getElem?_append_left (by simp [Line.vals]; omega)]
    simp
  | y :: r, k + 1, x, j, h, hj => by
    simp at h
    unfold Xaq
    rw [List.flatMap_cons, List.getElem?_append_right (by simp [Line.vals]; omega)]
    have := Xil r k x j h hj
    unfold Xaq at this
    rw [← this]; congr 1; simp [Line.vals]; omega
theorem Xd0 (xs ys : List Line) : Xaq (xs ++ ys) = Xaq xs ++ Xaq ys := by unfold Xaq; rw [List.flatMap_append]
theorem Xgb : ∀ (k : Nat) (ls : List Line), (Xaq ls).take (k * 5) = Xaq (ls.take k)
  | 0, ls => by simp [Xaq]
  | k + 1, [] => by simp [Xaq]
  | k + 1, x :: r => by
    have := Xgb k r
    unfold Xaq at *
    rw [List.flatMap_cons, List.take_succ_cons, List.flatMap_cons, ← this, show (k + 1) * 5 = x.vals.length + k * 5 by simp [Line.vals]; omega, List.take_append]
    rw [List.take_of_length_le (by omega), Nat.add_sub_cancel_left]
theorem Xe2 : ∀ (k : Nat) (ls : List Line), (Xaq ls).drop (k * 5) = Xaq (ls.drop k)
  | 0, ls => by simp [Xaq]
  | k + 1, [] => by simp [Xaq]
  | k + 1, x :: r => by
    have := Xe2 k r
    unfold Xaq at *
    rw [List.flatMap_cons, List.drop_succ_cons, ← this, show (k + 1) * 5 = x.vals.length + k * 5 by simp [Line.vals]; omega, ← List.drop_drop]
    simp
def Lines (w : World) (B : Nat) (A : Option Addr) (n c : Nat) (ls : List Line) : Prop :=
  ls.length = n ∧ n ≤ c ∧ c ≤ maxLen ∧ (A = none → c = 0) ∧ Row w B A (Xaq ls)
def Xju (w : World) (b o : Nat) (x : Line) : Prop :=
  w.cell? ⟨b, o, none⟩ = some (.int .i64 x.dev) ∧ w.cell? ⟨b, o + 1, none⟩ = some (.int .i64 x.page) ∧ w.cell? ⟨b, o + 2, none⟩ = some (.int .i64 x.at_) ∧ w.cell? ⟨b, o + 3, none⟩ = some (.bool x.rd) ∧ w.cell? ⟨b, o + 4, none⟩ = some (.bool x.wr)
section
variable {w w' : World} {B B' n c : Nat} {A : Option Addr} {ls : List Line}
theorem Lines.len (h : Lines w B A n c ls) : ls.length = n := h.1
theorem Lines.cap (h : Lines w B A n c ls) : n ≤ c ∧ c ≤ 9223372036854775807 := ⟨h.2.1, by have := h.2.2.1; unfold maxLen at this; omega⟩
theorem Lines.at_ (h : Lines w B A n c ls) (hn : 0 < n) : ∃ b off, A = some ⟨b, off, none⟩ ∧ b < B ∧ ∀ k x, ls[k]? = some x → Xju w b (off + k * 5) x := by
 obtain ⟨b, off, e, hb, hc⟩ := h.2.2.2.2 (by rw [Xbc, h.1]; omega)
 refine ⟨b, off, e, hb, fun k x hx => ?_⟩
 have := fun j hj => Xil ls k x j hx hj
 exact z145
theorem Lines.more (h : Lines w B A n c ls) (hB : B ≤ B') : Lines w B' A n c ls := ⟨h.1, h.2.1, h.2.2.1, h.2.2.2.1, h.2.2.2.2.more hB⟩
theorem Lines.below (h : Lines w B A n c ls) (hb : Below B w w') : Lines w' B A n c ls := ⟨h.1, h.2.1, h.2.2.1, h.2.2.2.1, h.2.2.2.2.below hb⟩
theorem Lines.drew (h : Lines w B A n c ls) : Lines w.drew B A n c ls := h
theorem Lines.alloc (h : Lines w B A n c ls) (hB : B ≤ w.heap.size) (o : Obj) : Lines (w.alloc o) B A n c ls := ⟨h.1, h.2.1, h.2.2.1, h.2.2.2.1, h.2.2.2.2.alloc hB o⟩
theorem Lines.setCell (h : Lines w B A n c ls) {p : Addr} (hB : B ≤ p.block) (u : Value) : Lines (w.setCell p u) B A n c ls := ⟨h.1, h.2.1, h.2.2.1, h.2.2.2.1, h.2.2.2.2.setCell hB u⟩
theorem Xb2 (w : World) (B : Nat) : Lines w B none 0 0 [] := ⟨rfl, Nat.le_refl _, Nat.zero_le _, fun _ => rfl, Row.nil_⟩
theorem Lines.take (h : Lines w B A n c ls) {k : Nat} (hk : k ≤ n) : Lines w B A k c (ls.take k) :=
  ⟨by rw [List.length_take, h.1]; omega, Nat.le_trans hk h.2.1, h.2.2.1, h.2.2.2.1, fun h0 => by
    have hl : 0 < (Xaq ls).length := by
      rw [Xbc] at *; rw [List.length_take] at h0; omega
    obtain ⟨b, off, e, hb, hc⟩ := h.2.2.2.2 hl
    refine ⟨b, off, e, hb, fun j v hv => hc j v ?_⟩
    rw [← Xgb] at hv
    have hj : j < k * 5 := by have := (List.getElem?_eq_some_iff.1 hv).1; rw [List.length_take] at this; omega
    rw [List.getElem?_take, if_pos hj] at hv
    exact hv⟩
end
end
section
section
open Go.Maps
def Xiv (f0 f1 f2 f3 : Value) : DataW Value := ((((DataW.map []).put (.int .i64 0) (.held f0)).put (.int .i64 1) (.held f1)).put (.int .i64 2) (.held f2)).put (.int .i64 3) (.held f3)
theorem Xf3 {a b : Int} (h : a ≠ b) : (Lit.int .i64 a) ≠ Lit.int .i64 b := fun e => h (by injection e)
theorem Xuy {f0 f1 f2 f3 : Value} {k : Int} (h : ¬ (0 ≤ k ∧ k ≤ 3)) (z : DataW Value) : has (Xiv f0 f1 f2 f3) (.int .i64 k) = false ∧ (Xiv f0 f1 f2 f3).atKey (.int .i64 k) z = z := by
 have h0 : k ≠ 0 := by omega
 have h1 : k ≠ 1 := by omega
 have h2 : k ≠ 2 := by omega
 have h3 : k ≠ 3 := by omega
 unfold Xiv
 rw [has_put_other (Xf3 h3), has_put_other (Xf3 h2), has_put_other (Xf3 h1), has_put_other (Xf3 h0), atKey_put_other (Xf3 h3), atKey_put_other (Xf3 h2), atKey_put_other (Xf3 h1), atKey_put_other (Xf3 h0)]
 exact ⟨rfl, rfl⟩
theorem Xxu (f0 f1 f2 f3 : Value) (z : DataW Value) : has (Xiv f0 f1 f2 f3) (.int .i64 0) = true ∧ (Xiv f0 f1 f2 f3).atKey (.int .i64 0) z = .held f0 := by
 exact ⟨rfl, rfl⟩
theorem Xxt (f0 f1 f2 f3 : Value) (z : DataW Value) : has (Xiv f0 f1 f2 f3) (.int .i64 1) = true ∧ (Xiv f0 f1 f2 f3).atKey (.int .i64 1) z = .held f1 := by
 exact ⟨rfl, rfl⟩
theorem Xxs (f0 f1 f2 f3 : Value) (z : DataW Value) : has (Xiv f0 f1 f2 f3) (.int .i64 2) = true ∧ (Xiv f0 f1 f2 f3).atKey (.int .i64 2) z = .held f2 := by
 exact ⟨rfl, rfl⟩
theorem Xxr (f0 f1 f2 f3 : Value) (z : DataW Value) : has (Xiv f0 f1 f2 f3) (.int .i64 3) = true ∧ (Xiv f0 f1 f2 f3).atKey (.int .i64 3) z = .held f3 := by
 exact ⟨rfl, rfl⟩
theorem Xw4 (ls : List Line) (q : Line → Bool) (j : Nat) : ((ls.take j).filter q).length ≤ j := by
 have := List.length_filter_le q (ls.take j)
 simp at this; omega
structure KeptL (q : Line → Bool) (ls zs : List Line) (i j : Nat) : Prop where
  len : zs.length = ls.length
  cnt : ((ls.take j).filter q).length = i
  lt : i < j
  jle : j ≤ ls.length
  low : zs.take i = (ls.take j).filter q
  high : ∀ t, j ≤ t → zs[t]? = ls[t]?
theorem KeptL.start {q : Line → Bool} {ls : List Line} {k : Nat} {x : Line} (hx : ls[k]? = some x) (hq : q x = false) (hall : ∀ y ∈ ls.take k, q y = true) : KeptL q ls ls k (k + 1) := by
 have hk : k < ls.length := (List.getElem?_eq_some_iff.1 hx).1
 have e : (ls.take (k + 1)).filter q = ls.take k := by
   rw [List.take_add_one, hx, List.filter_append, List.filter_eq_self.2 hall]
   simp [hq]
 exact ⟨rfl, by rw [e]; simp; omega, Nat.lt_succ_self _, hk, by rw [e], fun t _ => rfl⟩
theorem KeptL.keep {q : Line → Bool} {ls zs : List Line} {i j : Nat} {x : Line} (h : KeptL q ls zs i j) (hx : ls[j]? = some x) (hq : q x = true) : KeptL q ls (zs.set i x) (i + 1) (j + 1) := by
 have hj : j < ls.length := (List.getElem?_eq_some_iff.1 hx).1
 have e : (ls.take (j + 1)).filter q = (ls.take j).filter q ++ [x] := by
   rw [List.take_add_one, hx, List.filter_append]
   simp [hq]
 have h1 := h.len
 have h2 := h.lt
 refine ⟨by simp [h.len], by rw [e]; simp [h.cnt], by omega, hj, ?_, fun t ht => ?_⟩
 · rw [e, List.take_add_one, List.getElem?_set_self (by omega), List.take_set_of_le (Nat.le_refl _), h.low]; rfl
 · rw [List.getElem?_set_ne (by omega)]; exact h.high t (by omega)
theorem KeptL.skip {q : Line → Bool} {ls zs : List Line} {i j : Nat} {x : Line} (h : KeptL q ls zs i j) (hx : ls[j]? = some x) (hq : q x = false) : KeptL q ls zs i (j + 1) := by
 have hj : j < ls.length := (List.getElem?_eq_some_iff.1 hx).1
 have e : (ls.take (j + 1)).filter q = (ls.take j).filter q := by
   rw [List.take_add_one, hx, List.filter_append]
   simp [hq]
 have h2 := h.lt
 exact ⟨h.len, by rw [e, h.cnt], by omega, hj, by rw [e]; exact h.low, fun t ht => h.high t (by omega)⟩
theorem KeptL.done {q : Line → Bool} {ls zs : List Line} {i j : Nat} (h : KeptL q ls zs i j) (hj : j = ls.length) : zs.take i = ls.filter q ∧ (ls.filter q).length = i := by
 have h1 := h.low
 have h2 := h.cnt
 rw [show ls.take j = ls from List.take_of_length_le (by omega)] at h1 h2
 exact ⟨h1, h2⟩
end
section
theorem Xg7 (ls : List Line) (m : Nat) : (Xaq ls)[m]? = (ls[m / 5]?).bind (fun x => x.vals[m % 5]?) := by
 have e : m = m / 5 * 5 + m % 5 := by omega
 cases h : ls[m / 5]? with
 | some x =>
   have := Xil ls (m / 5) x (m % 5) h (by omega)
   rw [← e] at this
   simpa using this
 | none =>
   have hl : ls.length ≤ m / 5 := by simpa using h
   simp only [Option.bind_none]
   rw [List.getElem?_eq_none]
   rw [Xbc]; omega
theorem Xjw (x : Line) : x.vals.length = 5 := rfl
theorem Xpl {zs : List Line} {i : Nat} {x : Line} (hi : i < zs.length) (m : Nat) : (Xaq (zs.set i x))[m]? = if i * 5 ≤ m ∧ m < i * 5 + 5 then x.vals[m - i * 5]? else (Xaq zs)[m]? := by
 rw [Xg7, Xg7]
 split
 · rename_i h
   have e1 : m / 5 = i := by omega
   have e2 : m % 5 = m - i * 5 := by omega
   rw [e1, e2, List.getElem?_set_self hi]; rfl
 · rename_i h
   rw [List.getElem?_set_ne (by omega)]
section
variable {w : World} {B n c g : Nat} {ls : List Line}
theorem Lines.cellsome (h : Lines w B (some ⟨g, 0, none⟩) n c ls) {m : Nat} (hm : m < n * 5) : (w.cell? ⟨g, m, none⟩).isSome = true := by
 have hl : m < (Xaq ls).length := by rw [Xbc, h.1]; exact hm
 obtain ⟨b, off, e, hb, hc⟩ := h.2.2.2.2 (by omega)
 simp only [Option.some.injEq, Addr.mk.injEq, and_true] at e
 obtain ⟨rfl, rfl⟩ := e
 have := hc m _ (List.getElem?_eq_getElem hl)
 rw [Nat.zero_add] at this
 rw [this]; rfl
theorem Lines.setLine (h : Lines w B (some ⟨g, 0, none⟩) n c ls) {i : Nat} (hi : i < n) (x : Line) : Lines (w.setCells g (i * 5) x.vals) B (some ⟨g, 0, none⟩) n c (ls.set i x) := by
 have hsome := fun (m : Nat) (hm : m < n * 5) => h.cellsome hm
 obtain ⟨h1, h2, h3, h4, h5⟩ := h
 refine ⟨by simp [h1], h2, h3, (fun e => by cases e), fun _ => ?_⟩
 obtain ⟨b, off, e, hb, hc⟩ := h5 (by rw [Xbc]; omega)
 simp only [Option.some.injEq, Addr.mk.injEq, and_true] at e
 obtain ⟨rfl, rfl⟩ := e
 refine ⟨g, 0, rfl, hb, fun m v hv => ?_⟩
 rw [Xpl (by omega)] at hv
 rw [Nat.zero_add]
 split at hv
 · rename_i hm
   have hj : m - i * 5 < x.vals.length := by rw [Xjw]; omega
   have := World.cell?_setCells_in g x.vals (i * 5) w (fun j hj => by rw [Xjw] at hj; exact hsome _ (by omega)) (m - i * 5) hj
   rw [show i * 5 + (m - i * 5) = m by omega] at this
   rw [this, ← hv, List.getElem?_eq_getElem hj]
 · rename_i hm
   rw [World.cell?_setCells_out g x.vals (i * 5) w ⟨g, m, none⟩ (fun _ _ => by rw [Xjw]; simp only []; omega)]
   have := hc m v hv
   rwa [Nat.zero_add] at this
theorem Lines.cutAt (h : Lines w B (some ⟨g, 0, none⟩) n c ls) {i : Nat} (hi : i ≤ n) (vs : List Value) : Lines (w.setCells g (i * 5) vs) B (some ⟨g, 0, none⟩) i c (ls.take i) := by
 obtain ⟨h1, h2, h3, h4, h5⟩ := h.take hi
 refine ⟨h1, h2, h3, h4, fun hl => ?_⟩
 obtain ⟨b, off, e, hb, hc⟩ := h5 hl
 simp only [Option.some.injEq, Addr.mk.injEq, and_true] at e
 obtain ⟨rfl, rfl⟩ := e
 refine ⟨g, 0, rfl, hb, fun m v hv => ?_⟩
 have hm : m < i * 5 := by
   have := (List.getElem?_eq_some_iff.1 hv).1
   rw [Xbc, h1] at this; exact this
 rw [World.cell?_setCells_out g vs (i * 5) w _ (fun _ _ => Or.inl y9)]
 exact hc m v hv
end
theorem Xel (b : Nat) : ∀ (vs : List Value) (o : Nat) (w : World), (w.setCells b o vs).heap.size = w.heap.size
  | [], _, _ => rfl
  | v :: r, o, w => (Xel b r (o + 1) _).trans (World.size_setCell _ _ _)
theorem Xi1 {B g : Nat} {a : World} (hg : B ≤ g) : ∀ (vs : List Value) (o : Nat) (w : World), Below B a w → Below B a (w.setCells g o vs)
  | [], _, _, h => h
  | v :: r, o, w, h => Xi1 hg r (o + 1) _ (h.setCell hg v)
theorem Below.setLine {B g : Nat} {a w : World} (h : Below B a w) (hg : B ≤ g) (o : Nat) (vs : List Value) : Below B a (w.setCells g o vs) := Xi1 hg vs o w h
end
section
theorem Xaf {w W : World} {A : Option Addr} {n : Nat} {xs : List Int} (hx : Ints w w.heap.size A n xs) (h : Below w.heap.size w W) : Ints W W.heap.size A n xs := (hx.below h).more h.size
theorem Xah {w W : World} {A : Option Addr} {n c : Nat} {ls : List Line} (hx : Lines w w.heap.size A n c ls) (h : Below w.heap.size w W) : Lines W W.heap.size A n c ls := (hx.below h).more h.size
end
end
section
def bitI (v k : Int) : Bool := v / 2 ^ k.toNat % 2 == 1
theorem Xkn (v : Int) : bitI v 0 = (v % 2 == 1) := by simp [bitI]
theorem Xnl (v : Int) : bitI v 1 = (v / 2 % 2 == 1) := by simp [bitI]
theorem Xp6 (v : Int) : bitI v 2 = (v / 4 % 2 == 1) := by simp [bitI]
theorem Xp5 (v : Int) : bitI v 3 = (v / 8 % 2 == 1) := by simp [bitI]
def Xit (v : Int) : Bool := v / 1024 != 0 || bitI v 2 && !bitI v 1 || !bitI v 3 && bitI v 1
def enIn (v : Int) : Bool := decide (0 ≤ v) && decide (v ≤ 65535)
def enK (v : Int) : Bool := enIn v && (!bitI v 0 || !Xit v)
def enG (v : Int) : Bool := enIn v && bitI v 0 && !Xit v
def enP (v : Int) : Int := if enG v then v / 16 % 64 else 0
def enV (v : Int) : Value := .tuple #[.agg #[.bool (enG v), .bool (enG v && bitI v 1), .bool (enG v && bitI v 2), .bool (enG v && bitI v 3), .int .i64 (enP v)], .bool (enK v)]
theorem Xjq {v : Int} (h : enG v = false) (b : Bool) (hk : enK v = b) : Ending.returned (.tuple #[.agg #[.bool false, .bool false, .bool false, .bool false, .int .i64 0], .bool b]) = .returned (enV v) := by simp [enV, enP, h, hk]
theorem Xsq {v : Int} (h : enG v = true) (hk : enK v = true) : Ending.returned (.tuple #[.agg #[.bool true, .bool (bitI v 1), .bool (bitI v 2), .bool (bitI v 3), .int .i64 (v / 16 % 64)], .bool true]) = .returned (enV v) := by simp [enV, enP, h, hk]
theorem Xuw {v : Int} (h : enG v = true) : enK v = true := by
 unfold enG at h; unfold enK; simp only [Bool.and_eq_true] at h; simp [h]
def Xiy (v : Int) : Bool := v / 1024 != 0 || bitI v 2 || bitI v 3 || bitI v 1 && v / 16 % 64 != 0
def cxK (v : Int) : Bool := enIn v && (!bitI v 0 || !Xiy v)
def cxG (v : Int) : Bool := enIn v && bitI v 0 && !Xiy v
def cxR (v : Int) : Int := if cxG v then v / 16 % 64 else 0
def cxV (v : Int) : Value := .tuple #[.agg #[.bool (cxG v), .bool (cxG v && bitI v 1), .int .i64 (cxR v)], .bool (cxK v)]
theorem Xjr (v : Int) : cxV v = .tuple #[.agg #[.bool (cxG v), .bool (cxG v && bitI v 1), .int .i64 (cxR v)], .bool (cxK v)] := rfl
theorem Xix {v : Int} (h : cxG v = false) (b : Bool) (hk : cxK v = b) : Ending.returned (.tuple #[.agg #[.bool false, .bool false, .int .i64 0], .bool b]) = .returned (cxV v) := by simp [cxV, cxR, h, hk]
theorem Xsy {v : Int} (h : cxG v = true) (hk : cxK v = true) : Ending.returned (.tuple #[.agg #[.bool true, .bool (bitI v 1), .int .i64 (v / 16 % 64)], .bool true]) = .returned (cxV v) := by simp [cxV, cxR, h, hk]
theorem Xne {v : Int} (h : cxG v = true) : cxK v = true := by
 unfold cxG at h; unfold cxK; simp only [Bool.and_eq_true] at h; simp [h]
end
section
def Xb1 (x : Int) : Bool := decide (0 ≤ x) && decide (x ≤ 65535)
def cm (xs : List Int) : Int := if xs.length = 512 then (if xs.all Xb1 then 0 else 2) else 3
theorem Xv5 {xs : List Int} (h : xs.length ≠ 512) : cm xs = 3 := by simp [cm, h]
theorem Xv6 {xs : List Int} {k : Nat} {x : Int} (hl : xs.length = 512) (hx : xs[k]? = some x) (h : Xb1 x = false) : cm xs = 2 := by
 simp [cm, hl, Xi4 hx h]
theorem cm_ok {xs : List Int} (hl : xs.length = 512) (h : (xs.take 512).all Xb1 = true) : cm xs = 0 := by
 rw [List.take_of_length_le (by omega)] at h; simp [cm, hl, h]
theorem Xb4 {xs : List Int} (h : cm xs = 0) : xs.length = 512 ∧ ∀ (k : Nat) (x : Int), xs[k]? = some x → 0 ≤ x ∧ x ≤ 65535 := by
 unfold cm at h
 split at h
 · rename_i hl
   split at h
   · rename_i ha
     refine ⟨hl, fun k x hx => ?_⟩
     have := List.all_eq_true.1 ha x (List.mem_of_getElem? hx)
     simpa [Xb1] using this
   · cases h
 · cases h
theorem Xwo {xs : List Int} {i : Int} {v : Int} (hl : xs.length = 512) (hi : 0 ≤ i ∧ i < 512) : (xs.set i.toNat v)[i.toNat]? = some v := by
 rw [List.getElem?_set_self (by omega)]
theorem Xv4 {xs : List Int} {i v : Int} (h : cm xs = 0) (hv : 0 ≤ v ∧ v ≤ 65535) : cm (xs.set i.toNat v) = 0 := by
 obtain ⟨hl, ha⟩ := Xb4 h
 have : (xs.set i.toNat v).all Xb1 = true := by
   rw [List.all_eq_true]
   intro x hx
   obtain ⟨k, hk⟩ := List.getElem?_of_mem hx
   rw [List.getElem?_set] at hk
   split at hk
   · split at hk
     · simp at hk; subst hk; simp [Xb1, hv]
     · cases hk
   · have := ha _ _ hk; simp [Xb1, this]
 simp [cm, hl, this]
end
section
def rd (xs : List Int) (i : Int) : Int := xs[i.toNat]?.getD 0
theorem Xhq {xs : List Int} {i : Int} (hl : xs.length = 512) (hi : 0 ≤ i ∧ i < 512) : xs[i.toNat]? = some (rd xs i) := by
 unfold rd; rw [List.getElem?_eq_getElem (by omega)]; rfl
theorem Xre {xs : List Int} {i v : Int} (hl : xs.length = 512) (hi : 0 ≤ i ∧ i < 512) : rd (xs.set i.toNat v) i = v := by
 unfold rd; rw [Xwo hl hi]; rfl
structure Ent where
  v : Bool
  r : Bool
  u : Bool
  l : Bool
  p : Int
def Ent.no : Ent := ⟨false, false, false, false, 0⟩
def Ent.val (e : Ent) : Value := .agg #[.bool e.v, .bool e.r, .bool e.u, .bool e.l, .int .i64 e.p]
def Xgd (x : Int) : Ent := ⟨true, bitI x 1, bitI x 2, bitI x 3, enP x⟩
theorem Xst (x : Int) : 0 ≤ enP x ∧ enP x ≤ 63 := by unfold enP; split <;> omega
theorem Xss {x : Int} (h : enK x = false) : enV x = .tuple #[.agg #[.bool false, .bool false, .bool false, .bool false, .int .i64 0], .bool false] := by
 have hg : enG x = false := by
   cases h' : enG x with
   | false => rfl
   | true => rw [Xuw h'] at h; cases h
 simp [enV, enP, hg, h]
theorem Xsr {x : Int} (h : enK x = true) (hg : enG x = false) : enV x = .tuple #[.agg #[.bool false, .bool false, .bool false, .bool false, .int .i64 0], .bool true] := by simp [enV, enP, hg, h]
theorem Xvz {x : Int} (hg : enG x = true) : enV x = .tuple #[.agg #[.bool true, .bool (bitI x 1), .bool (bitI x 2), .bool (bitI x 3), .int .i64 (enP x)], .bool true] := by simp [enV, hg, Xuw hg]
def Xe7 (xs : List Int) (t page : Int) : Ent × Int :=
  let y := rd xs (t * 8 + page % 8)
  if enK y then (if enG y then (if bitI y 3 then (Xgd y, 0) else (.no, 4)) else (.no, 3)) else (.no, 4)
def Xcu (xs : List Int) (root page : Int) : Ent × Int :=
  let x := rd xs (root * 8 + page / 8)
  if enK x then (if enG x then (if bitI x 3 then (if enP x % 8 = 0 then ({ Xgd x with p := enP x + page % 8 }, 0) else (.no, 4)) else Xe7 xs (enP x) page) else (.no, 3)) else (.no, 4)
def inP (root page : Int) : Prop := (0 ≤ root ∧ root < 64) ∧ (0 ≤ page ∧ page < 64)
instance (root page : Int) : Decidable (inP root page) := by unfold inP; exact inferInstance
def Xbx (xs : List Int) (root page : Int) (wr : Bool) : Ent × Int :=
  let q := Xcu xs root page
  if q.2 = 0 then (if q.1.r && (!wr || q.1.u) then q else (.no, 5)) else (.no, q.2)
def Xgk (xs : List Int) (root page : Int) (wr : Bool) : Ent × Int × Int :=
  if cm xs = 0 then (if inP root page then ((Xbx xs root page wr).1, (Xbx xs root page wr).2, 0) else (.no, 0, 4)) else (.no, 0, cm xs)
def Xmp (q : Ent × Int) : Prop := (q.2 = 0 ∧ q.1.v = true ∧ q.1.l = true ∧ 0 ≤ q.1.p ∧ q.1.p ≤ 63) ∨ (q.1 = .no ∧ (q.2 = 3 ∨ q.2 = 4))
theorem Xue (xs : List Int) (t page : Int) : Xmp (Xe7 xs t page) := by
 unfold Xe7 Xmp
 have hp := Xst (rd xs (t * 8 + page % 8))
 dsimp only
 split
 · split
   · split
     · rename_i h1 h2 h3; left; exact ⟨rfl, rfl, h3, hp⟩
     · right; exact ⟨rfl, Or.inr rfl⟩
   · right; exact ⟨rfl, Or.inl rfl⟩
 · right; exact ⟨rfl, Or.inr rfl⟩
theorem Xhv (xs : List Int) (root page : Int) : Xmp (Xcu xs root page) := by
 unfold Xcu
 have hp := Xst (rd xs (root * 8 + page / 8))
 dsimp only
 split
 · split
   · split
     · split
       · rename_i h1 h2 h3 h4; left; exact ⟨rfl, rfl, h3, by simp only []; omega, by simp only []; omega⟩
       · right; exact ⟨rfl, Or.inr rfl⟩
     · exact Xue _ _ _
   · right; exact ⟨rfl, Or.inl rfl⟩
 · right; exact ⟨rfl, Or.inr rfl⟩
theorem Xkv {xs : List Int} {root page : Int} {wr : Bool} (h : (Xbx xs root page wr).2 = 0) : Xbx xs root page wr = Xcu xs root page ∧ (Xcu xs root page).2 = 0 ∧ (Xcu xs root page).1.r = true ∧ (wr = true → (Xcu xs root page).1.u = true) := by
 unfold Xbx at h ⊢
 dsimp only at h ⊢
 split at h
 · rename_i h0
   split at h
   · rename_i h1
     rw [if_pos h0, if_pos h1]
     simp only [Bool.and_eq_true, Bool.or_eq_true, Bool.not_eq_true'] at h1
     refine ⟨rfl, h0, h1.1, fun hw => ?_⟩
     rcases h1.2 with h2 | h2
     · rw [hw] at h2; cases h2
     · exact h2
   · cases h
 · rename_i h0; exact absurd h h0
theorem Xnq {xs : List Int} {root page : Int} {wr : Bool} (h : (Xbx xs root page wr).2 ≠ 0) : (Xbx xs root page wr).1 = .no ∧ ((Xbx xs root page wr).2 = 3 ∨ (Xbx xs root page wr).2 = 4 ∨ (Xbx xs root page wr).2 = 5) := by
 have hk := Xhv xs root page
 unfold Xbx at h ⊢
 dsimp only at h ⊢
 by_cases h0 : (Xcu xs root page).2 = 0
 · rw [if_pos h0] at h ⊢
   by_cases h1 : ((Xcu xs root page).1.r && (!wr || (Xcu xs root page).1.u)) = true
   · rw [if_pos h1] at h; exact absurd h0 h
   · rw [if_neg h1]; exact ⟨rfl, Or.inr (Or.inr rfl)⟩
 · rw [if_neg h0]
   rcases hk with hk | ⟨_, hk⟩
   · exact absurd hk.1 h0
   · exact ⟨rfl, by rcases hk with hk | hk <;> simp [hk]⟩
def Xkt : List Int → List Int → List Int
  | xs, a :: b :: r => Xkt (xs.set a.toNat b) r
  | xs, _ => xs
end
section
structure Ring where
  page : Int
  head : Int
  tail : Int
def Ring.val (r : Ring) : Value := .agg #[.int .i64 r.page, .int .i64 r.head, .int .i64 r.tail]
def Ring.no : Ring := ⟨0, 0, 0⟩
theorem Ring.ext' {x y : Ring} (h1 : x.page = y.page) (h2 : x.head = y.head) (h3 : x.tail = y.tail) : x = y := by
 cases x; cases y; simp only [] at *; subst h1; subst h2; subst h3; rfl
def Xcj (r : Ring) : Prop := (0 ≤ r.page ∧ r.page < 64) ∧ (0 ≤ r.head ∧ r.head < 8) ∧ (0 ≤ r.tail ∧ r.tail < 8)
instance (r : Ring) : Decidable (Xcj r) := by unfold Xcj; exact inferInstance
def ckR (r : Ring) : Int := if Xcj r then 0 else 2
theorem Xl2 {r : Ring} (h : Xcj r) : ckR r = 0 := by simp only [ckR, if_pos h]
theorem Xng {r : Ring} (h : ¬ Xcj r) : ckR r = 2 := by simp only [ckR, if_neg h]
theorem Xsz {r : Ring} (h : ckR r = 0) : Xcj r := by
 unfold ckR at h; split at h
 · assumption
 · cases h
def lenR (r : Ring) : Int := (r.tail - r.head) % 8
def Xc8 (xs : List Int) (r : Ring) : Int := if cm xs = 0 then ckR r else cm xs
theorem Xfj {xs : List Int} {r : Ring} (h : Xc8 xs r = 0) : cm xs = 0 ∧ Xcj r := by
 unfold Xc8 at h; split at h
 · rename_i h0; exact ⟨h0, Xsz h⟩
 · rename_i h0; exact absurd h h0
theorem Xkm {xs : List Int} {r : Ring} (h : cm xs = 0) (hr : Xcj r) : Xc8 xs r = 0 := by unfold Xc8; rw [if_pos h, Xl2 hr]
def Xff (xs : List Int) (r : Ring) (v : Int) : Int := if Xc8 xs r = 0 then (if 0 ≤ v ∧ v ≤ 65535 then (if lenR r = 7 then 1 else 0) else 2) else Xc8 xs r
def Xj5 (xs : List Int) (r : Ring) (v : Int) : List Int := xs.set (r.page * 8 + r.tail).toNat v
def Xtw (r : Ring) : Ring := ⟨r.page, r.head, (r.tail + 1) % 8⟩
def popE (xs : List Int) (r : Ring) : Int := if Xc8 xs r = 0 then (if lenR r = 0 then 6 else 0) else Xc8 xs r
def popV (xs : List Int) (r : Ring) : Int := rd xs (r.page * 8 + r.head)
def popR (r : Ring) : Ring := ⟨r.page, (r.head + 1) % 8, r.tail⟩
theorem Xww {xs : List Int} {r : Ring} {v : Int} (h : Xc8 xs r ≠ 0) : Xff xs r v = Xc8 xs r := by unfold Xff; rw [if_neg h]
theorem Xwv {xs : List Int} {r : Ring} {v : Int} (h : Xc8 xs r = 0) (hv : ¬ (0 ≤ v ∧ v ≤ 65535)) : Xff xs r v = 2 := by unfold Xff; rw [if_pos h, if_neg hv]
theorem Xrh {xs : List Int} {r : Ring} {v : Int} (h : Xc8 xs r = 0) (hv : 0 ≤ v ∧ v ≤ 65535) (hl : lenR r = 7) : Xff xs r v = 1 := by unfold Xff; rw [if_pos h, if_pos hv, if_pos hl]
theorem Xm3 {xs : List Int} {r : Ring} {v : Int} (h : Xc8 xs r = 0) (hv : 0 ≤ v ∧ v ≤ 65535) (hl : lenR r ≠ 7) : Xff xs r v = 0 := by unfold Xff; rw [if_pos h, if_pos hv, if_neg hl]
theorem Xlh {xs : List Int} {r : Ring} {v : Int} (h : Xff xs r v = 0) : Xc8 xs r = 0 ∧ (0 ≤ v ∧ v ≤ 65535) ∧ lenR r ≠ 7 := by
 unfold Xff at h; split at h
 · rename_i h1; split at h
   · rename_i h2; split at h
     · cases h
     · rename_i h3; exact ⟨h1, h2, h3⟩
   · cases h
 · rename_i h1; exact absurd h h1
theorem popE_b {xs : List Int} {r : Ring} (h : Xc8 xs r ≠ 0) : popE xs r = Xc8 xs r := by unfold popE; rw [if_neg h]
theorem popE_6 {xs : List Int} {r : Ring} (h : Xc8 xs r = 0) (hl : lenR r = 0) : popE xs r = 6 := by unfold popE; rw [if_pos h, if_pos hl]
theorem popE_0 {xs : List Int} {r : Ring} (h : Xc8 xs r = 0) (hl : lenR r ≠ 0) : popE xs r = 0 := by unfold popE; rw [if_pos h, if_neg hl]
theorem Xty {xs : List Int} {r : Ring} (h : popE xs r = 0) : Xc8 xs r = 0 ∧ lenR r ≠ 0 := by
 unfold popE at h; split at h
 · rename_i h1; split at h
   · cases h
   · rename_i h3; exact ⟨h1, h3⟩
 · rename_i h1; exact absurd h h1
end
section
instance : DecidableEq Ring := fun x y =>
  if h : x.page = y.page ∧ x.head = y.head ∧ x.tail = y.tail then isTrue (Ring.ext' h.1 h.2.1 h.2.2) else isFalse (fun e => h (by subst e; exact ⟨rfl, rfl, rfl⟩))
structure Brg where
  mode : Int
  base : Int
  cache : List Line
  orders : Ring
  stopped : Bool
  fences : Int
  faults : Ring
  lost : Bool
inductive B_ | b (b : Brg) (L : Option Addr) (n c : Nat) | z | y | t
instance (b : Brg) (L : Option Addr) (n c : Nat) : CoeDep B_ (.b b L n c) (Array Value) := ⟨#[.int .i64 b.mode, .int .i64 b.base, .slice L n c, .int .i64 b.orders.page, .int .i64 b.orders.head, .int .i64 b.orders.tail, .bool b.stopped, .int .i64 b.fences, .int .i64 b.faults.page, .int .i64 b.faults.head, .int .i64 b.faults.tail, .bool b.lost]⟩
instance : CoeDep B_ .z (Array Value) := ⟨#[.int .i64 0, .int .i64 0, .slice none 0 0, .int .i64 0, .int .i64 0, .int .i64 0, .bool false, .int .i64 0, .int .i64 0, .int .i64 0, .int .i64 0, .bool false]⟩
instance : CoeDep B_ .y (Array Value) := ⟨#[.slice none 0 0, .int .i64 0, .slice none 0 0, .bool false, .int .i64 0, .int .i64 0, .slice none 0 0, .int .i64 0, .int .i64 0, .int .i64 0, .bool false, .int .i64 0, .int .i64 0, .int .i64 0, .int .i64 0, .bool false]⟩
instance : CoeDep B_ .t (Array Value) := ⟨#[.bool false, .slice none 0 0, .int .i64 0, .slice none 0 0]⟩
def Brg.no : Brg := ⟨0, 0, [], .no, false, 0, .no, false⟩
theorem Brg.ext' {x y : Brg} (h1 : x.mode = y.mode) (h2 : x.base = y.base) (h3 : x.cache = y.cache) (h4 : x.orders = y.orders) (h5 : x.stopped = y.stopped) (h6 : x.fences = y.fences) (h7 : x.faults = y.faults) (h8 : x.lost = y.lost) : x = y := by
 cases x; cases y; simp only [] at *; subst h1; subst h2; subst h3; subst h4; subst h5; subst h6; subst h7; subst h8; rfl
instance : DecidableEq Brg := fun x y =>
  if h : x.mode = y.mode ∧ x.base = y.base ∧ x.cache = y.cache ∧ x.orders = y.orders ∧ x.stopped = y.stopped ∧ x.fences = y.fences ∧ x.faults = y.faults ∧ x.lost = y.lost then
    isTrue (Brg.ext' h.1 h.2.1 h.2.2.1 h.2.2.2.1 h.2.2.2.2.1 h.2.2.2.2.2.1 h.2.2.2.2.2.2.1 h.2.2.2.2.2.2.2)
  else isFalse (fun e => h (by subst e; exact ⟨rfl, rfl, rfl, rfl, rfl, rfl, rfl, rfl⟩))
def Xk7 (a b : Brg) : Bool := decide (a = b)
def Line.no : Line := ⟨0, 0, 0, false, false⟩
def brgR (b : Brg) : Prop := (0 ≤ b.mode ∧ b.mode ≤ 2) ∧ (0 ≤ b.base ∧ b.base < 64) ∧ (0 ≤ b.fences ∧ b.fences < 1000)
instance (b : Brg) : Decidable (brgR b) := by unfold brgR; exact inferInstance
def ckB (b : Brg) : Int := if brgR b then (if ckC b.cache = 0 then (if Xcj b.orders then ckR b.faults else 2) else ckC b.cache) else 2
theorem Xbo (b : Brg) : ckB b = 0 ↔ brgR b ∧ ckC b.cache = 0 ∧ Xcj b.orders ∧ Xcj b.faults := by
 unfold ckB
 by_cases h1 : brgR b
 · rw [if_pos h1]
   by_cases h2 : ckC b.cache = 0
   · rw [if_pos h2]
     by_cases h3 : Xcj b.orders
     · rw [if_pos h3]; exact ⟨fun h => ⟨h1, h2, h3, Xsz h⟩, fun h => Xl2 h.2.2.2⟩
     · rw [if_neg h3]; exact ⟨(fun h => absurd h (by decide)), fun h => absurd h.2.2.1 h3⟩
   · rw [if_neg h2]; exact ⟨fun h => absurd h h2, fun h => absurd h.2.1 h2⟩
 · rw [if_neg h1]; exact ⟨(fun h => absurd h (by decide)), fun h => absurd h.1 h1⟩
def allE (xs : List Int) (b : Brg) : Int := if cm xs = 0 then ckB b else cm xs
theorem Xkp {xs : List Int} {b : Brg} (h : allE xs b = 0) : cm xs = 0 ∧ ckB b = 0 := by
 unfold allE at h; split at h
 · rename_i h0; exact ⟨h0, h⟩
 · rename_i h0; exact absurd h h0
def Xbp (xs : List Int) (b : Brg) (d p : Int) (wr : Bool) : Line × Bool × Int :=
  let c := rd xs (b.base * 8 + d)
  if cxG c then
    (if bitI c 1 then (⟨d, p, p, true, true⟩, false, 0)
     else (if (Xbx xs (cxR c) p wr).2 = 0 then (⟨d, p, (Xbx xs (cxR c) p wr).1.p, true, (Xbx xs (cxR c) p wr).1.u⟩, true, 0) else (.no, false, (Xbx xs (cxR c) p wr).2)))
  else (.no, false, 2)
def Xch (xs : List Int) (b : Brg) (d p : Int) (wr : Bool) : Brg × Int × Int :=
  if b.mode = 0 then (b, 0, 1) else if b.mode = 1 then (b, p, 0) else
  match b.cache.find? (hitL d p) with
  | some x => if wr && !x.wr then (b, 0, 5) else (b, x.at_, 0)
  | none => ((if (Xbp xs b d p wr).2.1 then { b with cache := Xej b.cache (Xbp xs b d p wr).1 } else b), (Xbp xs b d p wr).1.at_, (Xbp xs b d p wr).2.2)
def inD (d p : Int) : Prop := (0 ≤ d ∧ d < 8) ∧ (0 ≤ p ∧ p < 64)
instance (d p : Int) : Decidable (inD d p) := by unfold inD; exact inferInstance
def Xti (xs : List Int) (b : Brg) (d p : Int) : Int := if allE xs b = 0 then (if inD d p then 0 else 4) else allE xs b
theorem Xql {xs : List Int} {b : Brg} {d p : Int} (h : Xti xs b d p = 0) : cm xs = 0 ∧ ckB b = 0 ∧ inD d p := by
 unfold Xti at h; split at h
 · rename_i h0; split at h
   · rename_i h1; exact ⟨(Xkp h0).1, (Xkp h0).2, h1⟩
   · cases h
 · rename_i h0; exact absurd h h0
theorem Xv2 (x : Int) : 0 ≤ cxR x ∧ cxR x ≤ 63 := by unfold cxR; split <;> omega
theorem Xg9 {xs : List Int} {b : Brg} {d p : Int} {wr : Bool} (hd : inD d p) (h : (Xbp xs b d p wr).2.1 = true) :
    Xbz (Xbp xs b d p wr).1 = 0 ∧ (Xbp xs b d p wr).1.dev = d ∧ (Xbp xs b d p wr).1.page = p ∧ (Xbp xs b d p wr).2.2 = 0 := by
 unfold Xbp at h ⊢
 dsimp only at h ⊢
 split at h
 · rename_i h1
   rw [if_pos h1]
   split at h
   · cases h
   · rename_i h2
     rw [if_neg h2]
     split at h
     · rename_i h3
       rw [if_pos h3]
       refine ⟨Xga ?_ rfl, rfl, rfl, rfl⟩
       obtain ⟨e, h4, _, _⟩ := Xkv h3
       have := Xhv xs (cxR (rd xs (b.base * 8 + d))) p
       rw [e]
       unfold Xmp at this; unfold inD at hd; unfold Xfg
       simp only []
       rcases this with ⟨_, _, _, h5⟩ | ⟨_, h5⟩
       · omega
       · omega
     · cases h
 · cases h
theorem Xiq {ls : List Line} {d p : Int} (h : ls.find? (hitL d p) = none) : Xbw ls d p = -1 :=
  Xfr (fun x hx => by simpa using List.find?_eq_none.1 h x hx)
theorem Xsn {ls : List Line} {d p : Int} {x : Line} (h : ls.find? (hitL d p) = some x) : ∃ k : Nat, Xbw ls d p = (k : Int) ∧ ls[k]? = some x := by
 rcases Xec ls d p with ⟨_, h1⟩ | ⟨k, y, e, hy, hh, hn⟩
 · have := List.find?_some h
   rw [h1 x (List.mem_of_find?_eq_some h)] at this; cases this
 · refine ⟨k, e, ?_⟩
   rw [hy]
   obtain ⟨h2, k', h3, h4, h5⟩ := List.find?_eq_some_iff_getElem.1 h
   have hk : k < ls.length := (List.getElem?_eq_some_iff.1 hy).1
   have e1 : ls[k] = y := (List.getElem?_eq_some_iff.1 hy).2
   have : k = k' := by
     rcases Nat.lt_trichotomy k k' with hlt | rfl | hgt
     · have := h5 k hlt; rw [e1, hh] at this; cases this
     · rfl
     · have := hn (ls[k']'(by omega)) (by rw [List.mem_take_iff_getElem]; exact ⟨k', by omega, rfl⟩)
       rw [h4, h2] at this; cases this
   subst this
   rw [← e1, h4]
theorem Xwf {xs : List Int} {b : Brg} {d p : Int} {wr : Bool} (h : Xti xs b d p = 0) : ckB (Xch xs b d p wr).1 = 0 := by
 obtain ⟨h1, h2, h3⟩ := Xql h
 unfold Xch
 split
 · exact h2
 · split
   · exact h2
   · split
     · split <;> exact h2
     · rename_i hf
       dsimp only
       split
       · rename_i hk
         obtain ⟨a1, a2, a3, _⟩ := Xg9 h3 hk
         rw [Xbo] at h2 ⊢
         refine ⟨h2.1, Xxd (Xkf h2.2.1 a1 ?_), h2.2.2⟩
         rw [a2, a3, Xiq hf]; decide
       · exact h2
end
section
def Xam (w0 W : World) : Prop := Below w0.heap.size w0 W
theorem Xan (w0 : World) : Xam w0 w0 := Below.refl _ _
theorem Xav {w0 W : World} (h : Xam w0 W) : Xam w0 W.drew := h.drew
theorem Xag {w0 W : World} (h : Xam w0 W) (o : Obj) : Xam w0 (W.alloc o) := Below.alloc h h.size o
theorem Xaz {w0 W W' : World} (hb : Below W.heap.size W W') (h : Xam w0 W) : Xam w0 W' := Below.trans h (hb.mono h.size)
theorem Xb9 {w : World} {a : Addr} {v : Value} (h : w.cell? a = some v) : a.block < w.heap.size := by
 rcases Nat.lt_or_ge a.block w.heap.size with hlt | hge
 · exact hlt
 · simp [World.cell?, Array.getElem?_eq_none hge] at h
theorem Xae {w0 W : World} {p : Addr} {v : Value} (h : Xam w0 W) (hc : w0.cell? p = some v) : W.cell? p = some v := (Below.cell h (Xb9 hc)).trans hc
theorem Xdp {w3 W : World} {a b : Prop} (h : a ∧ b ∧ Hid (Xam w3 W)) : Xam w3 W := h.2.2
theorem Xcz {w3 W : World} {a b c d : Prop} (h : a ∧ b ∧ c ∧ d ∧ Hid (Xam w3 W)) : Xam w3 W := h.2.2.2.2
end
section
theorem Xpw {ls : List Line} {d p : Int} (h : Xbw ls d p < 0) : ls.find? (hitL d p) = none := List.find?_eq_none.2 (fun x hx => by simp [Xof h x hx])
end
end Go.Proofs.YtbopdijnojaaiadGreat
