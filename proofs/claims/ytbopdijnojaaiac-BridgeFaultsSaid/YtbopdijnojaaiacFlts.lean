/- Slices of faults in memory, and how they come in as arguments. No statement of the seat is proved here. -/
import Derived.Test.YtbopdijnojaaiacWord
import Derived.Test.YtbopdijnojaaiacOpenB
import Derived.Test.YtbopdijnojaaiacWh2
namespace Go.Proofs.Ytbopdijnojaaiac
open Go.RowKit
set_option linter.unusedSimpArgs false
set_option linter.unusedVariables false
def Flt.vals (f : Flt) : List Value := [.int .i64 f.cause, .int .i64 f.dev, .int .i64 f.page, .bool f.wr]
def fcells (ls : List Flt) : List Value := ls.flatMap Flt.vals
theorem fcells_len : ∀ ls : List Flt, (fcells ls).length = ls.length * 4
  | [] => rfl
  | x :: r => by unfold fcells; rw [List.flatMap_cons, List.length_append]; have := fcells_len r; unfold fcells at this; rw [this]; simp [Flt.vals]; omega
theorem fcells_snoc (es : List Flt) (e : Flt) : fcells (es ++ [e]) = fcells es ++ e.vals := by unfold fcells; rw [List.flatMap_append]; simp
theorem fcells_at : ∀ (ls : List Flt) (k : Nat) (x : Flt) (j : Nat), ls[k]? = some x → j < 4 → (fcells ls)[k * 4 + j]? = x.vals[j]?
  | [], k, x, j, h, _ => by simp at h
  | y :: r, 0, x, j, h, hj => by
    simp at h; subst h
    unfold fcells
    rw [List.flatMap_cons, List.getElem?_append_left (by simp [Flt.vals]; omega)]
    simp
  | y :: r, k + 1, x, j, h, hj => by
    simp at h
    unfold fcells
    rw [List.flatMap_cons, List.getElem?_append_right (by simp [Flt.vals]; omega)]
    have := fcells_at r k x j h hj
    unfold fcells at this
    rw [← this]; congr 1; simp [Flt.vals]; omega
theorem flt_one (e : Flt) : ∀ u ∈ e.vals, u.oneCell' = true := by
  intro u hu
  simp [Flt.vals] at hu
  rcases hu with rfl | rfl | rfl | rfl <;> rfl
def Flts (w : World) (B : Nat) (A : Option Addr) (n c : Nat) (ls : List Flt) : Prop :=
  ls.length = n ∧ n ≤ c ∧ c ≤ maxLen ∧ (A = none → c = 0) ∧ Row w B A (fcells ls)
def FltAt (w : World) (b o : Nat) (x : Flt) : Prop :=
  w.cell? ⟨b, o, none⟩ = some (.int .i64 x.cause) ∧ w.cell? ⟨b, o + 1, none⟩ = some (.int .i64 x.dev) ∧ w.cell? ⟨b, o + 2, none⟩ = some (.int .i64 x.page) ∧ w.cell? ⟨b, o + 3, none⟩ = some (.bool x.wr)
section
variable {w w' : World} {B B' n c : Nat} {A : Option Addr} {ls : List Flt}
theorem Flts.len (h : Flts w B A n c ls) : ls.length = n := h.1
theorem Flts.cap (h : Flts w B A n c ls) : n ≤ c ∧ c ≤ 9223372036854775807 := ⟨h.2.1, by have := h.2.2.1; unfold maxLen at this; omega⟩
theorem Flts.at_ (h : Flts w B A n c ls) (hn : 0 < n) : ∃ b off, A = some ⟨b, off, none⟩ ∧ b < B ∧ ∀ k x, ls[k]? = some x → FltAt w b (off + k * 4) x := by
  obtain ⟨b, off, e, hb, hc⟩ := h.2.2.2.2 (by rw [fcells_len, h.1]; omega)
  refine ⟨b, off, e, hb, fun k x hx => ?_⟩
  have := fun j hj => fcells_at ls k x j hx hj
  refine ⟨?_, ?_, ?_, ?_⟩
  · exact hc (k * 4) _ ((this 0 (by omega)).trans rfl)
  · rw [Nat.add_assoc]; exact hc (k * 4 + 1) _ ((this 1 (by omega)).trans rfl)
  · rw [Nat.add_assoc]; exact hc (k * 4 + 2) _ ((this 2 (by omega)).trans rfl)
  · rw [Nat.add_assoc]; exact hc (k * 4 + 3) _ ((this 3 (by omega)).trans rfl)
theorem Flts.more (h : Flts w B A n c ls) (hB : B ≤ B') : Flts w B' A n c ls := ⟨h.1, h.2.1, h.2.2.1, h.2.2.2.1, h.2.2.2.2.more hB⟩
theorem Flts.below (h : Flts w B A n c ls) (hb : Below B w w') : Flts w' B A n c ls := ⟨h.1, h.2.1, h.2.2.1, h.2.2.2.1, h.2.2.2.2.below hb⟩
theorem flts_none (w : World) (B : Nat) : Flts w B none 0 0 [] := ⟨rfl, Nat.le_refl _, Nat.zero_le _, fun _ => rfl, Row.nil_⟩
theorem flts_now {W : World} (hx : Flts w w.heap.size A n c ls) (h : Below w.heap.size w W) : Flts W W.heap.size A n c ls := (hx.below h).more h.size
def OwnF (B : Nat) (w : World) (A : Option Addr) (n c : Nat) (es : List Flt) : Prop := es.length = n ∧ n ≤ c ∧ c ≤ maxLen ∧ w.ownsRow B 52 4 (.slice A n c) n (fcells es)
theorem ownF_nil (w : World) (B : Nat) : OwnF B w none 0 0 [] := ⟨rfl, Nat.le_refl _, Nat.zero_le _, World.ownsRow_nil _ _ _ _⟩
theorem OwnF.below {es : List Flt} (h : OwnF B w A n c es) (hb : Below w.heap.size w w') : OwnF B w' A n c es := ⟨h.1, h.2.1, h.2.2.1, own_below h.2.2.2 hb⟩
theorem OwnF.chg {P : Nat → Prop} {es : List Flt} (h : OwnF B w A n c es) (hC : Chg P w w') (hn : ∀ q, P q → q < B) : OwnF B w' A n c es := ⟨h.1, h.2.1, h.2.2.1, chg_owns h.2.2.2 hC (fun ad e hp => by have h1 := (own_blk h.2.2.2 ad e).1; have h2 := hn _ hp; omega)⟩
theorem OwnF.flts {es : List Flt} (h : OwnF B w A n c es) : Flts w w.heap.size A n c es := ⟨h.1, h.2.1, h.2.2.1, (fun e => by
  subst e
  rcases own_form h.2.2.2 with ⟨hv, _⟩ | ⟨g, cap, hv, _⟩
  · injection hv
  · injection hv with e1; cases e1), Row.of_own h.2.2.2⟩
theorem own_capF {e : TypeId} {s n c : Nat} {xs : List Value} (h : w.ownsRow B e s (.slice A n c) n xs) : n ≤ c ∧ c ≤ maxLen := by
  rcases own_form h with ⟨hv, h0⟩ | ⟨g, cap, hv, h1, h2, _⟩
  · injection hv with _ _ h3; subst h3; omega
  · injection hv with _ _ h3; subst h3; exact ⟨h1, h2⟩
end
theorem Try.infoFlt : (Try.prog.info? 52).map (fun i => (i.zero, i.size, i.bytes)) = some (some (.agg #[.int .i64 0, .int .i64 0, .int .i64 0, .bool false]), 4, 32) := by kernel_rfl
theorem Try.sizeFlt : (Try.prog.info? 52).map (·.size) = some 4 := by kernel_rfl
theorem Try.cFlt : Try.prog.cellsOf 52 = 4 := by kernel_rfl
section
open Go.ChangeShapes Go.WideShapes Go.ChangeAt
section
variable {H : Type} {enc : TypeId × Value → H} {w : World} {base : Nat} {spare : Nat → Bool} {held : Bool} {fuel : Nat} {cs : List Value} {x : DataW H × List MemPlace}
set_option maxRecDepth 100000 in
theorem trod_flts (h : DataW.trod enc Try.prog w base (fun _ => true) held fuel 47 cs = some x) : ∃ A n c ls, cs = [.slice A n c] ∧ Flts w w.heap.size A n c ls := by
  rcases DataW.trod_slice Try.underlying47 h with ⟨hcs, _⟩ | ⟨a, len, cap, elems, rest, n, _, hcs, _, hb, hl, hm, he, hel, _⟩
  · exact ⟨none, 0, 0, [], hcs, flts_none _ _⟩
  · obtain ⟨ls, hlen, hls⟩ := exists_list (α := Flt) (P := fun i x => ∀ j, j < 4 → w.cell? ((a.add (i * 4)).add j) = x.vals[j]?) len (fun i hi => by
      have h1 := hel i hi
      rw [Try.cFlt, List.getElem?_eq_getElem (by omega), Option.bind_eq_some_iff] at h1
      obtain ⟨cs', h2, h3⟩ := h1
      obtain ⟨d, p, q, r, e⟩ := trod_fault h3
      obtain ⟨_, _, hc⟩ := World.cells?_some h2
      subst e
      exact ⟨⟨d, p, q, r⟩, hc⟩)
    refine ⟨some a, len, cap, ls, hcs, hlen, hl, hm, (fun e => by cases e), fun h0 => ?_⟩
    rw [fcells_len] at h0
    obtain ⟨y, hy⟩ := some_of_lt ls (k := 0) (by omega)
    have hc0 := hls 0 y hy 0 (by decide)
    obtain ⟨b, off, spot⟩ := a
    have hspot : spot = none := by
      have := hc0
      simp only [Flt.vals, List.getElem?_cons_zero] at this
      simpa [Addr.add] using World.cell?_spot this
    subst hspot
    have hcell : ∀ m v, (fcells ls)[m]? = some v → w.cell? ⟨b, off + m, none⟩ = some v := by
      intro m v hv
      have hml : m < (fcells ls).length := (List.getElem?_eq_some_iff.1 hv).1
      rw [fcells_len] at hml
      obtain ⟨z, hz⟩ := some_of_lt ls (k := m / 4) (by omega)
      have h4 := fcells_at ls (m / 4) z (m % 4) hz (by omega)
      rw [show m / 4 * 4 + m % 4 = m by omega, hv] at h4
      have := hls (m / 4) z hz (m % 4) (by omega)
      rw [← h4] at this
      rw [Go.WideShapes.add_plain, Go.WideShapes.add_plain, show off + m / 4 * 4 + m % 4 = off + m by omega] at this
      exact this
    refine ⟨b, off, rfl, ?_, hcell⟩
    obtain ⟨v, hv⟩ := some_of_lt (fcells ls) (k := 0) (by rw [fcells_len]; omega)
    exact cell_lt (hcell 0 v hv)
end
set_option maxRecDepth 100000 in
theorem open_flts {H : Type} {enc : TypeId × Value → H} {W : World} {b0 : Nat} {v : Value} {d : DataW H} {p : List MemPlace} (hv : Value.okWide Try.prog W .any b0 47 v) (h : DataW.Trod enc Try.prog W 0 (fun _ => true) true 47 v d p) :
    ∃ A n c ls, v = .slice A n c ∧ Flts W W.heap.size A n c ls := by
  obtain ⟨a, len, cap, rfl⟩ := okWide_slice Try.underlying47 hv
  obtain ⟨n, h⟩ := h
  obtain ⟨A, n, c, ls, e, hL⟩ := trod_flts h
  simp only [Value.cells, List.cons.injEq, and_true] at e
  exact ⟨A, n, c, ls, e, hL⟩
end
end Go.Proofs.Ytbopdijnojaaiac
