/- The cache: what chapter 4's functions compute, and the plain laws on it. No program in sight, no statement of the seat is proved here. -/
import Derived.Test.YtbopdijnojaaiabBase
namespace Go.Proofs.Ytbopdijnojaaiab
open Go.RowKit
set_option linter.unusedSimpArgs false
set_option linter.unusedVariables false

structure Line where
  dev : Int
  page : Int
  at_ : Int
  rd : Bool
  wr : Bool
def Line.vals (x : Line) : List Value := [.int .i64 x.dev, .int .i64 x.page, .int .i64 x.at_, .bool x.rd, .bool x.wr]
def Line.val (x : Line) : Value := .agg #[.int .i64 x.dev, .int .i64 x.page, .int .i64 x.at_, .bool x.rd, .bool x.wr]
theorem Line.ext' {x y : Line} (h1 : x.dev = y.dev) (h2 : x.page = y.page) (h3 : x.at_ = y.at_) (h4 : x.rd = y.rd) (h5 : x.wr = y.wr) : x = y := by
  cases x; cases y; simp only [] at *; subst h1; subst h2; subst h3; subst h4; subst h5; rfl
instance : DecidableEq Line := fun x y =>
  if h : x.dev = y.dev ∧ x.page = y.page ∧ x.at_ = y.at_ ∧ x.rd = y.rd ∧ x.wr = y.wr then isTrue (Line.ext' h.1 h.2.1 h.2.2.1 h.2.2.2.1 h.2.2.2.2) else isFalse (fun e => h (by subst e; exact ⟨rfl, rfl, rfl, rfl, rfl⟩))
def lineEq (x y : Line) : Bool := decide (x = y)
def eqL (xs ys : List Line) : Bool := decide (xs = ys)

/-- is it the line of that page of that device? -/
def hitL (d p : Int) (x : Line) : Bool := x.dev == d && x.page == p
/-- chapter 4's Find. -/
def findL (ls : List Line) (d p : Int) : Int := match ls.findIdx? (hitL d p) with | some k => (k : Int) | none => -1
theorem findL_none {ls : List Line} {d p : Int} (h : ∀ x ∈ ls, hitL d p x = false) : findL ls d p = -1 := by
  unfold findL
  rw [List.findIdx?_eq_none_iff.2 h]
theorem findL_some {ls : List Line} {d p : Int} {k : Nat} {x : Line} (hk : ls[k]? = some x) (hx : hitL d p x = true) (h : ∀ y ∈ ls.take k, hitL d p y = false) : findL ls d p = (k : Int) := by
  unfold findL
  have hlt : k < ls.length := (List.getElem?_eq_some_iff.1 hk).1
  have hx' : ls[k] = x := (List.getElem?_eq_some_iff.1 hk).2
  have : ls.findIdx? (hitL d p) = some k := by
    rw [List.findIdx?_eq_some_iff_getElem]
    refine ⟨hlt, by rw [hx']; exact hx, fun j hj => ?_⟩
    have := h (ls[j]'(by omega)) (by rw [List.mem_take_iff_getElem]; exact ⟨j, by omega, rfl⟩)
    simp [this]
  rw [this]
theorem findL_cases (ls : List Line) (d p : Int) : (findL ls d p = -1 ∧ ∀ x ∈ ls, hitL d p x = false) ∨ ∃ (k : Nat) (x : Line), findL ls d p = (k : Int) ∧ ls[k]? = some x ∧ hitL d p x = true ∧ ∀ y ∈ ls.take k, hitL d p y = false := by
  unfold findL
  cases h : ls.findIdx? (hitL d p) with
  | none => left; exact ⟨rfl, List.findIdx?_eq_none_iff.1 h⟩
  | some k =>
    right
    obtain ⟨hk, hx, hj⟩ := List.findIdx?_eq_some_iff_getElem.1 h
    refine ⟨k, ls[k], rfl, List.getElem?_eq_getElem hk, hx, fun y hy => ?_⟩
    obtain ⟨j, hj', rfl⟩ := List.mem_take_iff_getElem.1 hy
    have := hj j (by omega)
    simpa using this
theorem hitL_iff {d p : Int} {x : Line} : hitL d p x = true ↔ x.dev = d ∧ x.page = p := by simp [hitL]
theorem hitL_f {d p : Int} {x : Line} : hitL d p x = false ↔ ¬ (x.dev = d ∧ x.page = p) := by rw [← hitL_iff]; simp

/-- what is wrong with a line by itself. -/
def lineR (x : Line) : Prop := (0 ≤ x.dev ∧ x.dev < 8) ∧ (0 ≤ x.page ∧ x.page < 64) ∧ (0 ≤ x.at_ ∧ x.at_ < 64)
instance (x : Line) : Decidable (lineR x) := by unfold lineR; exact inferInstance
def lineE (x : Line) : Int := if lineR x then (if x.rd then 0 else 3) else 2
/-- the rest of a cache behind what is there. -/
def ckL : List Line → List Line → Int
  | _, [] => 0
  | pre, x :: r => if lineE x = 0 then (if 0 ≤ findL pre x.dev x.page then 5 else ckL (pre ++ [x]) r) else lineE x
/-- chapter 4's Check. -/
def ckC (ls : List Line) : Int := if 6 < ls.length then 1 else ckL [] ls
theorem ckC_many {ls : List Line} (h : 6 < ls.length) : ckC ls = 1 := by simp only [ckC, if_pos h]
theorem ckC_few {ls : List Line} (h : ls.length ≤ 6) : ckC ls = ckL [] ls := by simp only [ckC, if_neg (show ¬ 6 < ls.length by omega)]
theorem ckL_step {ls : List Line} {k : Nat} {x : Line} (hx : ls[k]? = some x) (h0 : lineE x = 0) (hf : findL (ls.take k) x.dev x.page < 0) : ckL (ls.take k) (ls.drop k) = ckL (ls.take (k + 1)) (ls.drop (k + 1)) := by
  have hk : k < ls.length := (List.getElem?_eq_some_iff.1 hx).1
  have e : ls[k] = x := (List.getElem?_eq_some_iff.1 hx).2
  rw [List.drop_eq_getElem_cons hk, e]
  simp only [ckL, h0, if_true]
  rw [if_neg (by omega), List.take_add_one, hx]; rfl
theorem ckL_bad {ls : List Line} {k : Nat} {x : Line} (hx : ls[k]? = some x) (h0 : lineE x ≠ 0) : ckL (ls.take k) (ls.drop k) = lineE x := by
  have hk : k < ls.length := (List.getElem?_eq_some_iff.1 hx).1
  have e : ls[k] = x := (List.getElem?_eq_some_iff.1 hx).2
  rw [List.drop_eq_getElem_cons hk, e]
  simp only [ckL, h0, if_false]
theorem ckL_twice {ls : List Line} {k : Nat} {x : Line} (hx : ls[k]? = some x) (h0 : lineE x = 0) (hf : 0 ≤ findL (ls.take k) x.dev x.page) : ckL (ls.take k) (ls.drop k) = 5 := by
  have hk : k < ls.length := (List.getElem?_eq_some_iff.1 hx).1
  have e : ls[k] = x := (List.getElem?_eq_some_iff.1 hx).2
  rw [List.drop_eq_getElem_cons hk, e]
  simp only [ckL, h0, if_true, if_pos hf]
theorem ckL_end (ls : List Line) : ckL (ls.take ls.length) (ls.drop ls.length) = 0 := by simp [ckL]
theorem lineE_r {x : Line} (h : ¬ lineR x) : lineE x = 2 := by simp only [lineE, if_neg h]
theorem lineE_f {x : Line} (h : lineR x) (h' : x.rd = false) : lineE x = 3 := by simp [lineE, h, h']
theorem lineE_0 {x : Line} (h : lineR x) (h' : x.rd = true) : lineE x = 0 := by simp [lineE, h, h']
theorem lineE_inv {x : Line} (h : lineE x = 0) : lineR x ∧ x.rd = true := by
  unfold lineE at h; split at h
  · rename_i hr; split at h
    · rename_i hd; exact ⟨hr, hd⟩
    · cases h
  · cases h

/-- no two lines of one page of one device. -/
def Apart (ls : List Line) : Prop := ls.Pairwise fun x y => hitL y.dev y.page x = false
theorem ckL_ok : ∀ (ls pre : List Line), Apart pre → (∀ x ∈ pre, lineE x = 0) → (ckL pre ls = 0 ↔ Apart (pre ++ ls) ∧ ∀ x ∈ pre ++ ls, lineE x = 0)
  | [], pre, ha, hl => by rw [List.append_nil]; exact ⟨fun _ => ⟨ha, hl⟩, fun _ => by simp [ckL]⟩
  | x :: r, pre, ha, hl => by
    by_cases h0 : lineE x = 0
    · simp only [ckL, h0, if_true]
      by_cases hf : 0 ≤ findL pre x.dev x.page
      · rw [if_pos hf]
        refine ⟨(fun h => absurd h (by decide)), fun h => ?_⟩
        exfalso
        rcases findL_cases pre x.dev x.page with ⟨e, _⟩ | ⟨k, y, e, hy, hh, _⟩
        · omega
        · have := (List.pairwise_append.1 h.1).2.2 y (List.mem_of_getElem? hy) x (by simp)
          rw [hh] at this; cases this
      · rw [if_neg hf]
        have hn : ∀ y ∈ pre, hitL x.dev x.page y = false := by
          rcases findL_cases pre x.dev x.page with ⟨_, h⟩ | ⟨k, y, e, _⟩
          · exact h
          · omega
        have := ckL_ok r (pre ++ [x]) (by
          unfold Apart; rw [List.pairwise_append]; refine ⟨ha, by simp, fun a ha' b hb => ?_⟩
          simp at hb; subst hb; exact hn a ha') (fun y hy => by
          rw [List.mem_append] at hy; rcases hy with hy | hy
          · exact hl y hy
          · simp at hy; subst hy; exact h0)
        rw [this]; simp
    · have e : ckL pre (x :: r) = lineE x := by simp only [ckL, h0, if_false]
      rw [e]
      exact ⟨fun h => absurd h h0, fun h => absurd (h.2 x (by simp)) h0⟩
theorem ckC_iff (ls : List Line) : ckC ls = 0 ↔ ls.length ≤ 6 ∧ Apart ls ∧ ∀ x ∈ ls, lineE x = 0 := by
  by_cases h : 6 < ls.length
  · rw [ckC_many h]; exact ⟨(fun e => absurd e (by decide)), fun e => by omega⟩
  · rw [ckC_few (by omega), ckL_ok ls [] (by simp [Apart]) (by simp)]
    simp; omega
theorem ckC_nil : ckC [] = 0 := by decide
theorem ckC_one (x : Line) : ckC [x] = lineE x := by
  rw [ckC_few (by simp)]
  by_cases h : lineE x = 0
  · simp [ckL, h, findL]
  · simp [ckL, h]

/-- chapter 4's Fill. -/
def fillE (ls : List Line) (x : Line) : Int := if ckC ls = 0 then (if lineE x = 0 then (if 0 ≤ findL ls x.dev x.page then 5 else 0) else lineE x) else ckC ls
def fillL (ls : List Line) (x : Line) : List Line := if fillE ls x = 0 then ls.drop (ls.length + 1 - 6) ++ [x] else []
theorem fillE_inv {ls : List Line} {x : Line} (h : fillE ls x = 0) : ckC ls = 0 ∧ lineE x = 0 ∧ findL ls x.dev x.page < 0 := by
  unfold fillE at h; split at h
  · rename_i h1; split at h
    · rename_i h2; split at h
      · cases h
      · exact ⟨h1, h2, by omega⟩
    · rename_i h2; exact absurd h h2
  · rename_i h1; exact absurd h h1
theorem fillE_0 {ls : List Line} {x : Line} (h1 : ckC ls = 0) (h2 : lineE x = 0) (h3 : findL ls x.dev x.page < 0) : fillE ls x = 0 := by
  unfold fillE; rw [if_pos h1, if_pos h2, if_neg (by omega)]
theorem fillE_c {ls : List Line} {x : Line} (h1 : ckC ls ≠ 0) : fillE ls x = ckC ls := by unfold fillE; rw [if_neg h1]
theorem fillE_l {ls : List Line} {x : Line} (h1 : ckC ls = 0) (h2 : lineE x ≠ 0) : fillE ls x = lineE x := by unfold fillE; rw [if_pos h1, if_neg h2]
theorem fillE_t {ls : List Line} {x : Line} (h1 : ckC ls = 0) (h2 : lineE x = 0) (h3 : 0 ≤ findL ls x.dev x.page) : fillE ls x = 5 := by unfold fillE; rw [if_pos h1, if_pos h2, if_pos h3]
theorem fillL_0 {ls : List Line} {x : Line} (h : fillE ls x = 0) : fillL ls x = ls.drop (ls.length + 1 - 6) ++ [x] := by unfold fillL; rw [if_pos h]
theorem fillL_n {ls : List Line} {x : Line} {n : Int} (h : fillE ls x = n) (hn : n ≠ 0) : fillL ls x = [] := by unfold fillL; rw [if_neg (by rw [h]; exact hn)]
theorem find_neg {ls : List Line} {d p : Int} (h : findL ls d p < 0) : ∀ y ∈ ls, hitL d p y = false := by
  rcases findL_cases ls d p with ⟨_, h'⟩ | ⟨k, y, e, _⟩
  · exact h'
  · omega
theorem fill_ck {ls : List Line} {x : Line} (h : fillE ls x = 0) : ckC (fillL ls x) = 0 := by
  obtain ⟨h1, h2, h3⟩ := fillE_inv h
  obtain ⟨a1, a2, a3⟩ := (ckC_iff ls).1 h1
  rw [fillL_0 h, ckC_iff]
  refine ⟨by simp; omega, ?_, fun y hy => ?_⟩
  · unfold Apart; rw [List.pairwise_append]
    refine ⟨List.Pairwise.sublist (List.drop_sublist _ _) a2, by simp, fun a ha b hb => ?_⟩
    simp at hb; subst hb
    exact find_neg h3 a (List.mem_of_mem_drop ha)
  · rw [List.mem_append] at hy; rcases hy with hy | hy
    · exact a3 y (List.mem_of_mem_drop hy)
    · simp at hy; subst hy; exact h2
theorem fill_find {ls : List Line} {x : Line} (h : fillE ls x = 0) : findL (fillL ls x) x.dev x.page = ((fillL ls x).length : Int) - 1 := by
  obtain ⟨h1, h2, h3⟩ := fillE_inv h
  rw [fillL_0 h]
  have hl : (ls.drop (ls.length + 1 - 6) ++ [x])[(ls.drop (ls.length + 1 - 6)).length]? = some x := by simp
  rw [findL_some hl (by simp [hitL]) (fun y hy => ?_)]
  · simp only [List.length_append, List.length_cons, List.length_nil]; omega
  · rw [List.take_left] at hy
    exact find_neg h3 y (List.mem_of_mem_drop hy)

/-- chapter 4's Drop: which lines go. -/
def goes (k d p : Int) (x : Line) : Bool := k == 1 || (k == 2 && x.dev == d) || (k == 3 && (x.dev == d && x.page == p))
def dropE (ls : List Line) (k : Int) : Int := if ckC ls = 0 then (if 0 ≤ k ∧ k ≤ 3 then 0 else 3) else ckC ls
def dropL (ls : List Line) (k d p : Int) : List Line := if dropE ls k = 0 then ls.filter (fun x => !goes k d p x) else []
theorem dropE_inv {ls : List Line} {k : Int} (h : dropE ls k = 0) : ckC ls = 0 ∧ 0 ≤ k ∧ k ≤ 3 := by
  unfold dropE at h; split at h
  · rename_i h1; split at h
    · rename_i h2; exact ⟨h1, h2⟩
    · cases h
  · rename_i h1; exact absurd h h1
theorem dropE_0 {ls : List Line} {k : Int} (h : ckC ls = 0) (hk : 0 ≤ k ∧ k ≤ 3) : dropE ls k = 0 := by unfold dropE; rw [if_pos h, if_pos hk]
theorem dropE_k {ls : List Line} {k : Int} (h : ckC ls = 0) (hk : ¬ (0 ≤ k ∧ k ≤ 3)) : dropE ls k = 3 := by unfold dropE; rw [if_pos h, if_neg hk]
theorem dropE_c {ls : List Line} {k : Int} (h : ckC ls ≠ 0) : dropE ls k = ckC ls := by unfold dropE; rw [if_neg h]
theorem dropL_0 {ls : List Line} {k d p : Int} (h : dropE ls k = 0) : dropL ls k d p = ls.filter (fun x => !goes k d p x) := by unfold dropL; rw [if_pos h]
theorem dropL_n {ls : List Line} {k d p n : Int} (h : dropE ls k = n) (hn : n ≠ 0) : dropL ls k d p = [] := by unfold dropL; rw [if_neg (by rw [h]; exact hn)]
theorem ck_sub {ls ms : List Line} (hs : List.Sublist ms ls) (h : ckC ls = 0) : ckC ms = 0 := by
  obtain ⟨a1, a2, a3⟩ := (ckC_iff ls).1 h
  rw [ckC_iff]
  exact ⟨Nat.le_trans hs.length_le a1, List.Pairwise.sublist hs a2, fun x hx => a3 x (hs.subset hx)⟩
theorem drop_ck (ls : List Line) (k d p : Int) (h : dropE ls k = 0) : ckC (dropL ls k d p) = 0 := by
  rw [dropL_0 h]; exact ck_sub List.filter_sublist (dropE_inv h).1
end Go.Proofs.Ytbopdijnojaaiab
