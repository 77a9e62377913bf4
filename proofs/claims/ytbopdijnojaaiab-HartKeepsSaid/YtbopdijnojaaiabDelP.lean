/- What lay in memory lies in it still. No program in sight, no statement of the seat is proved here. -/
import Derived.Test.YtbopdijnojaaiabCacheP
import Derived.Maps.Views
import Derived.Test.YtbopdijnojaaiabLines
import Derived.Laws.IdiomCopy
namespace Go.Proofs.Ytbopdijnojaaiab
open Go.RowKit
set_option linter.unusedSimpArgs false
set_option linter.unusedVariables false

section
open Go.Maps

/-- which of four functions an order's kind names. -/
def dropD (f0 f1 f2 f3 : Value) : DataW Value := ((((DataW.map []).put (.int .i64 0) (.held f0)).put (.int .i64 1) (.held f1)).put (.int .i64 2) (.held f2)).put (.int .i64 3) (.held f3)
theorem key_ne {a b : Int} (h : a ≠ b) : (Lit.int .i64 a) ≠ Lit.int .i64 b := fun e => h (by injection e)
theorem dropD_no {f0 f1 f2 f3 : Value} {k : Int} (h : ¬ (0 ≤ k ∧ k ≤ 3)) (z : DataW Value) : has (dropD f0 f1 f2 f3) (.int .i64 k) = false ∧ (dropD f0 f1 f2 f3).atKey (.int .i64 k) z = z := by
  have h0 : k ≠ 0 := by omega
  have h1 : k ≠ 1 := by omega
  have h2 : k ≠ 2 := by omega
  have h3 : k ≠ 3 := by omega
  unfold dropD
  rw [has_put_other (key_ne h3), has_put_other (key_ne h2), has_put_other (key_ne h1), has_put_other (key_ne h0), atKey_put_other (key_ne h3), atKey_put_other (key_ne h2), atKey_put_other (key_ne h1), atKey_put_other (key_ne h0)]
  exact ⟨rfl, rfl⟩
theorem dropD_0 (f0 f1 f2 f3 : Value) (z : DataW Value) : has (dropD f0 f1 f2 f3) (.int .i64 0) = true ∧ (dropD f0 f1 f2 f3).atKey (.int .i64 0) z = .held f0 := by
  exact ⟨rfl, rfl⟩
theorem dropD_1 (f0 f1 f2 f3 : Value) (z : DataW Value) : has (dropD f0 f1 f2 f3) (.int .i64 1) = true ∧ (dropD f0 f1 f2 f3).atKey (.int .i64 1) z = .held f1 := by
  exact ⟨rfl, rfl⟩
theorem dropD_2 (f0 f1 f2 f3 : Value) (z : DataW Value) : has (dropD f0 f1 f2 f3) (.int .i64 2) = true ∧ (dropD f0 f1 f2 f3).atKey (.int .i64 2) z = .held f2 := by
  exact ⟨rfl, rfl⟩
theorem dropD_3 (f0 f1 f2 f3 : Value) (z : DataW Value) : has (dropD f0 f1 f2 f3) (.int .i64 3) = true ∧ (dropD f0 f1 f2 f3).atKey (.int .i64 3) z = .held f3 := by
  exact ⟨rfl, rfl⟩

/-- the place of what is kept. -/
theorem kept_at {ls : List Line} {q : Line → Bool} {j : Nat} {y : Line} (hy : ls[j]? = some y) (hq : q y = true) : (ls.filter q)[((ls.take j).filter q).length]? = some y := by
  have hj : j < ls.length := (List.getElem?_eq_some_iff.1 hy).1
  have e : ls[j] = y := (List.getElem?_eq_some_iff.1 hy).2
  conv => lhs; arg 1; rw [← List.take_append_drop j ls, List.filter_append]
  rw [List.getElem?_append_right (Nat.le_refl _), Nat.sub_self, List.drop_eq_getElem_cons hj, e, List.filter_cons, if_pos hq]
  rfl
theorem kept_succ {ls : List Line} {q : Line → Bool} {j : Nat} {y : Line} (hy : ls[j]? = some y) : ((ls.take (j + 1)).filter q).length = ((ls.take j).filter q).length + (if q y = true then 1 else 0) := by
  rw [List.take_add_one, hy, List.filter_append, List.length_append]
  congr 1
  simp only [Option.toList, List.filter_cons, List.filter_nil]
  split <;> simp
theorem kept_le (ls : List Line) (q : Line → Bool) (j : Nat) : ((ls.take j).filter q).length ≤ j := by
  have := List.length_filter_le q (ls.take j)
  simp at this; omega
/-- a line is found behind Drop just if it was not to go. -/
theorem drop_find {ls : List Line} {k d p : Int} {y : Line} (hE : dropE ls k = 0) (hy : y ∈ ls) : decide (findL (dropL ls k d p) y.dev y.page < 0) = goes k d p y := by
  rw [dropL_0 hE]
  cases hg : goes k d p y
  · have hm : y ∈ ls.filter (fun x => !goes k d p x) := by rw [List.mem_filter]; exact ⟨hy, by simp [hg]⟩
    rcases findL_cases (ls.filter (fun x => !goes k d p x)) y.dev y.page with ⟨_, h⟩ | ⟨j, x, e, _⟩
    · have := h y hm; simp [hitL] at this
    · rw [e]; simp
  · rcases findL_cases (ls.filter (fun x => !goes k d p x)) y.dev y.page with ⟨e, _⟩ | ⟨j, x, e, hx, hh, _⟩
    · rw [e]; decide
    · exfalso
      have hxm := List.mem_of_getElem? hx
      rw [List.mem_filter] at hxm
      obtain ⟨hxl, hxg⟩ := hxm
      have hap := ((ckC_iff ls).1 (dropE_inv hE).1).2.1
      have hxy : x = y := by
        obtain ⟨i, hi, ei⟩ := List.getElem_of_mem hxl
        obtain ⟨i', hi', ei'⟩ := List.getElem_of_mem hy
        unfold Apart at hap
        rw [List.pairwise_iff_getElem] at hap
        rcases Nat.lt_trichotomy i i' with h | h | h
        · have := hap i i' hi hi' h; rw [ei, ei', hh] at this; cases this
        · subst h; rw [← ei, ← ei']
        · have := hap i' i hi' hi h; rw [ei, ei'] at this
          rw [hitL_iff] at hh; rw [hitL_f] at this; exact absurd ⟨hh.1.symm, hh.2.symm⟩ this
      subst hxy
      rw [hg] at hxg; cases hxg

/-- DeleteFunc's loop: of j lines i are kept, and lie ahead; from j on all is as it was. -/
structure KeptL (q : Line → Bool) (ls zs : List Line) (i j : Nat) : Prop where
  len : zs.length = ls.length
  cnt : ((ls.take j).filter q).length = i
  lt : i < j
  jle : j ≤ ls.length
  low : zs.take i = (ls.take j).filter q
  high : ∀ t, j ≤ t → zs[t]? = ls[t]?
theorem take_of_low {zs ys : List Line} {i : Nat} (hi : ys.length = i) (hz : i ≤ zs.length) (h : ∀ t, t < i → zs[t]? = ys[t]?) : zs.take i = ys := by
  apply List.ext_getElem?
  intro t
  rw [List.getElem?_take]
  split
  · rename_i ht; exact h t ht
  · rename_i ht; rw [List.getElem?_eq_none (by omega)]
theorem KeptL.start {q : Line → Bool} {ls : List Line} {k : Nat} {x : Line} (hx : ls[k]? = some x) (hq : q x = false) (hall : ∀ y ∈ ls.take k, q y = true) : KeptL q ls ls k (k + 1) := by
  have hk : k < ls.length := (List.getElem?_eq_some_iff.1 hx).1
  have e : (ls.take (k + 1)).filter q = ls.take k := by
    rw [List.take_add_one, hx, List.filter_append, List.filter_eq_self.2 hall]
    simp [hq]
  exact ⟨rfl, by rw [e]; simp; omega, Nat.lt_succ_self _, hk, by rw [e], fun t _ => rfl⟩
theorem KeptL.keep {q : Line → Bool} {ls zs : List Line} {i j : Nat} {x : Line} (h : KeptL q ls zs i j) (hx : ls[j]? = some x) (hq : q x = true) : KeptL q ls (zs.set i x) (i + 1) (j + 1) := by
  have hj : j < ls.length := (List.getElem?_eq_some_iff.1 hx).1
  have e : (ls.take (j + 1)).filter q = (ls.take j).filter q ++ [x] := by
    rw [List.take_add_one, hx, List.filter_append]
    simp [hq]
  have h1 := h.len
  have h2 := h.lt
  refine ⟨by simp [h.len], by rw [e]; simp [h.cnt], by omega, hj, ?_, fun t ht => ?_⟩
  · rw [e, List.take_add_one, List.getElem?_set_self (by omega), List.take_set_of_le (Nat.le_refl _), h.low]; rfl
  · rw [List.getElem?_set_ne (by omega)]; exact h.high t (by omega)
theorem KeptL.skip {q : Line → Bool} {ls zs : List Line} {i j : Nat} {x : Line} (h : KeptL q ls zs i j) (hx : ls[j]? = some x) (hq : q x = false) : KeptL q ls zs i (j + 1) := by
  have hj : j < ls.length := (List.getElem?_eq_some_iff.1 hx).1
  have e : (ls.take (j + 1)).filter q = (ls.take j).filter q := by
    rw [List.take_add_one, hx, List.filter_append]
    simp [hq]
  have h2 := h.lt
  exact ⟨h.len, by rw [e, h.cnt], by omega, hj, by rw [e]; exact h.low, fun t ht => h.high t (by omega)⟩
theorem KeptL.done {q : Line → Bool} {ls zs : List Line} {i j : Nat} (h : KeptL q ls zs i j) (hj : j = ls.length) : zs.take i = ls.filter q ∧ (ls.filter q).length = i := by
  have h1 := h.low
  have h2 := h.cnt
  rw [show ls.take j = ls from List.take_of_length_le (by omega)] at h1 h2
  exact ⟨h1, h2⟩
end

section
theorem lcells_get (ls : List Line) (m : Nat) : (lcells ls)[m]? = (ls[m / 5]?).bind (fun x => x.vals[m % 5]?) := by
  have e : m = m / 5 * 5 + m % 5 := by omega
  cases h : ls[m / 5]? with
  | some x =>
    have := lcells_at ls (m / 5) x (m % 5) h (by omega)
    rw [← e] at this
    simpa using this
  | none =>
    have hl : ls.length ≤ m / 5 := by simpa using h
    simp only [Option.bind_none]
    rw [List.getElem?_eq_none]
    rw [lcells_len]; omega
theorem vals_len (x : Line) : x.vals.length = 5 := rfl
theorem lcells_set {zs : List Line} {i : Nat} {x : Line} (hi : i < zs.length) (m : Nat) : (lcells (zs.set i x))[m]? = if i * 5 ≤ m ∧ m < i * 5 + 5 then x.vals[m - i * 5]? else (lcells zs)[m]? := by
  rw [lcells_get, lcells_get]
  split
  · rename_i h
    have e1 : m / 5 = i := by omega
    have e2 : m % 5 = m - i * 5 := by omega
    rw [e1, e2, List.getElem?_set_self hi]; rfl
  · rename_i h
    rw [List.getElem?_set_ne (by omega)]
section
variable {w : World} {B n c g : Nat} {ls : List Line}
theorem Lines.cellsome (h : Lines w B (some ⟨g, 0, none⟩) n c ls) {m : Nat} (hm : m < n * 5) : (w.cell? ⟨g, m, none⟩).isSome = true := by
  have hl : m < (lcells ls).length := by rw [lcells_len, h.1]; exact hm
  obtain ⟨b, off, e, hb, hc⟩ := h.2.2.2.2 (by omega)
  simp only [Option.some.injEq, Addr.mk.injEq, and_true] at e
  obtain ⟨rfl, rfl⟩ := e
  have := hc m _ (List.getElem?_eq_getElem hl)
  rw [Nat.zero_add] at this
  rw [this]; rfl
theorem Lines.setLine (h : Lines w B (some ⟨g, 0, none⟩) n c ls) {i : Nat} (hi : i < n) (x : Line) : Lines (w.setCells g (i * 5) x.vals) B (some ⟨g, 0, none⟩) n c (ls.set i x) := by
  have hsome := fun (m : Nat) (hm : m < n * 5) => h.cellsome hm
  obtain ⟨h1, h2, h3, h4, h5⟩ := h
  refine ⟨by simp [h1], h2, h3, (fun e => by cases e), fun _ => ?_⟩
  obtain ⟨b, off, e, hb, hc⟩ := h5 (by rw [lcells_len]; omega)
  simp only [Option.some.injEq, Addr.mk.injEq, and_true] at e
  obtain ⟨rfl, rfl⟩ := e
  refine ⟨g, 0, rfl, hb, fun m v hv => ?_⟩
  rw [lcells_set (by omega)] at hv
  rw [Nat.zero_add]
  split at hv
  · rename_i hm
    have hj : m - i * 5 < x.vals.length := by rw [vals_len]; omega
    have := World.cell?_setCells_in g x.vals (i * 5) w (fun j hj => by rw [vals_len] at hj; exact hsome _ (by omega)) (m - i * 5) hj
    rw [show i * 5 + (m - i * 5) = m by omega] at this
    rw [this, ← hv, List.getElem?_eq_getElem hj]
  · rename_i hm
    rw [World.cell?_setCells_out g x.vals (i * 5) w ⟨g, m, none⟩ (fun _ _ => by rw [vals_len]; simp only []; omega)]
    have := hc m v hv
    rwa [Nat.zero_add] at this
theorem Lines.cutAt (h : Lines w B (some ⟨g, 0, none⟩) n c ls) {i : Nat} (hi : i ≤ n) (vs : List Value) : Lines (w.setCells g (i * 5) vs) B (some ⟨g, 0, none⟩) i c (ls.take i) := by
  obtain ⟨h1, h2, h3, h4, h5⟩ := h.take hi
  refine ⟨h1, h2, h3, h4, fun hl => ?_⟩
  obtain ⟨b, off, e, hb, hc⟩ := h5 hl
  simp only [Option.some.injEq, Addr.mk.injEq, and_true] at e
  obtain ⟨rfl, rfl⟩ := e
  refine ⟨g, 0, rfl, hb, fun m v hv => ?_⟩
  have hm : m < i * 5 := by
    have := (List.getElem?_eq_some_iff.1 hv).1
    rw [lcells_len, h1] at this; exact this
  rw [World.cell?_setCells_out g vs (i * 5) w _ (fun _ _ => Or.inl (by simp only []; omega))]
  exact hc m v hv
end
theorem size_cells (b : Nat) : ∀ (vs : List Value) (o : Nat) (w : World), (w.setCells b o vs).heap.size = w.heap.size
  | [], _, _ => rfl
  | v :: r, o, w => (size_cells b r (o + 1) _).trans (World.size_setCell _ _ _)
theorem below_cells {B g : Nat} {a : World} (hg : B ≤ g) : ∀ (vs : List Value) (o : Nat) (w : World), Below B a w → Below B a (w.setCells g o vs)
  | [], _, _, h => h
  | v :: r, o, w, h => below_cells hg r (o + 1) _ (h.setCell hg v)
theorem Below.setLine {B g : Nat} {a w : World} (h : Below B a w) (hg : B ≤ g) (o : Nat) (vs : List Value) : Below B a (w.setCells g o vs) := below_cells hg vs o w h
end

section
theorem ints_now {w W : World} {A : Option Addr} {n : Nat} {xs : List Int} (hx : Ints w w.heap.size A n xs) (h : Below w.heap.size w W) : Ints W W.heap.size A n xs := (hx.below h).more h.size
theorem lines_now {w W : World} {A : Option Addr} {n c : Nat} {ls : List Line} (hx : Lines w w.heap.size A n c ls) (h : Below w.heap.size w W) : Lines W W.heap.size A n c ls := (hx.below h).more h.size
end
end Go.Proofs.Ytbopdijnojaaiab
