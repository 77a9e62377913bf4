/- How lines and a bridge come in as arguments. No statement of the seat is proved here. -/
import Derived.Test.YtbopdijnojaaiadRows
import Derived.Test.YtbopdijnojaaiadBase
import Derived.ProofKit
import Derived.Deep.Slices
import Derived.OpenShut
namespace Go.Proofs.Ytbopdijnojaaiad
open Go.RowKit
set_option linter.unusedSimpArgs false
set_option linter.unusedVariables false

section
open Go.ChangeShapes Go.WideShapes Go.ChangeAt Go.RowKit

theorem Try.own : ownKnob Try.prog.godebug = none := by kernel_rfl
section
variable {H : Type} {enc : TypeId × Value → H} {P : Program}

theorem trodAll_stays (hl : laidOutB P = true) {W W' : World} (hb : Below W.heap.size W W') :
    ∀ {ts : List TypeId} {vs : List Value} {ds : List (DataW H)} {ps : List MemPlace}, (∀ t ∈ ts, P.readableRec t = true ∧ t < P.types.size) → (∀ x ∈ ps, x.block < W.heap.size) →
      DataW.TrodAll enc P W 0 (fun _ => true) true ts vs ds ps → DataW.TrodAll enc P W' 0 (fun b => decide (b < W.heap.size)) true ts vs ds ps
  | [], [], [], _, _, _, h => h
  | [], [], _ :: _, _, _, _, h => h.elim
  | [], _ :: _, _, _, _, _, h => h.elim
  | _ :: _, [], _, _, _, _, h => h.elim
  | _ :: _, _ :: _, [], _, _, _, h => h.elim
  | t :: ts, v :: vs, d :: ds, ps, hr, hp, h => by
    obtain ⟨p, q, h1, h2, rfl⟩ := h
    have ht := hr t (by simp)
    exact ⟨p, q, Below.trod hl ht.1 ht.2 h1 hb (fun x hx => hp x (by simp [hx])), trodAll_stays hl hb (fun t' ht' => hr t' (by simp [ht'])) (fun x hx => hp x (by simp [hx])) h2, rfl⟩

theorem law_post {f : Func} {s : ChangeSpec} {W W' : World} {args : Array Value} {ds gs : List (DataW H)} {before : List MemPlace} {tb : TypeId}
    (hl : laidOutB P = true) (hread : f.params.toList.all (fun t => P.readableRec t && decide (t < P.types.size)) = true)
    (hr : f.resultTypes = #[tb]) (h4 : P.underlying tb = some .bool) (hsv : s.vars = [])
    (hW : DataW.Whole enc P f.params.toList s.vars false W args.toList ds gs before)
    (hres : (s.fn H (ds ++ gs)).results = [.lit (.bool true)]) (hargs : (s.fn H (ds ++ gs)).args = ds) (hv : (s.fn H (ds ++ gs)).vars = [])
    (hb : Below W.heap.size W W') : s.post enc P f false true false false W args (.bool true) W' := by
  have hlt : ∀ p ∈ before, p.block < W.heap.size := fun p hp => by simpa using hW.lt p hp
  have hW' := hW
  obtain ⟨p, q, hA, hV, rfl, hfz, _⟩ := hW
  refine ⟨ds, gs, p ++ q, [], p, [], hW', ?_, ?_, ?_, hb.frame _, fun h => by cases h⟩
  · rw [hres, hr]
    exact trodAll_mk1 (shut_bool h4 true)
  · rw [hargs]
    refine trodAll_stays hl hb (fun t ht => ?_) (fun x hx => hlt x (by simp [hx])) hA
    have := List.all_eq_true.1 hread t ht
    simpa using this
  · rw [hv, hsv]
    rfl
end
end

section
section
open Go.ChangeShapes Go.WideShapes Go.ChangeAt

section
variable {H : Type} {enc : TypeId × Value → H} {P : Program} {w : World} {base : Nat} {spare : Nat → Bool} {held : Bool}

theorem trod_field {t : TypeId} {fs : Array Field} {fuel : Nat} {cs : List Value} {x : DataW H × List MemPlace} (ht : P.underlying t = some (.struct fs)) (h : DataW.trod enc P w base spare held fuel t cs = some x) :
    cs.length = P.cellsOf t ∧ ∃ n, ∀ (i : Nat) (f : Field), fs[i]? = some f → ∃ y, DataW.trod enc P w base spare held n f.type ((cs.drop f.offset).take (P.cellsOf f.type)) = some y := by
  obtain ⟨xs, n, _, _, hl, hx, hf⟩ := DataW.trod_struct ht h
  refine ⟨hl, n, fun i f hi => ?_⟩
  have hlt : i < fs.size := (Array.getElem?_eq_some_iff.1 hi).1
  exact ⟨xs[i]'(by omega), by rw [hf i f hi]; exact List.getElem?_eq_getElem (by omega)⟩

theorem trod_int1 {t : TypeId} {k : IntKind} {fuel : Nat} {c : Value} {x : DataW H × List MemPlace} (ht : P.underlying t = some (.int k)) (h : DataW.trod enc P w base spare held fuel t [c] = some x) : ∃ a, c = .int k a := by
  obtain ⟨a, e, _⟩ := DataW.trod_int ht h
  exact ⟨a, by simpa using e⟩
theorem trod_bool1 {t : TypeId} {fuel : Nat} {c : Value} {x : DataW H × List MemPlace} (ht : P.underlying t = some .bool) (h : DataW.trod enc P w base spare held fuel t [c] = some x) : ∃ b, c = .bool b := by
  obtain ⟨b, e, _⟩ := DataW.trod_bool ht h
  exact ⟨b, by simpa using e⟩
end

theorem Try.c3 : Try.prog.cellsOf 3 = 1 := by kernel_rfl
theorem Try.c4 : Try.prog.cellsOf 4 = 1 := by kernel_rfl

section
variable {H : Type} {enc : TypeId × Value → H} {w : World} {base : Nat} {spare : Nat → Bool} {held : Bool} {fuel : Nat} {cs : List Value} {x : DataW H × List MemPlace}
end

section
variable {H : Type} {enc : TypeId × Value → H} {P : Program} {w : World} {base : Nat} {spare : Nat → Bool} {held : Bool}
theorem open_cells {r : Reach} {b0 : Nat} {t : TypeId} {fs : Array Field} {v : Value} {d : DataW H} {p : List MemPlace} (hs : P.underlying t = some (.struct fs))
    (hv : Value.okWide P w r b0 t v) (h : DataW.Trod enc P w base spare held t v d p) : ∃ cs n, v = .agg cs ∧ DataW.trod enc P w base spare held n t cs.toList = some (d, p) := by
  obtain ⟨cs, rfl, _⟩ := okWide_struct hs hv
  obtain ⟨n, hn⟩ := h
  exact ⟨cs, n, rfl, hn⟩
end
end

section
open Go.ChangeShapes Go.WideShapes Go.ChangeAt

theorem Try.cMem : Try.prog.cellsOf 24 = 1 := by kernel_rfl
theorem Try.cInts : Try.prog.cellsOf 22 = 1 := by kernel_rfl
section
variable {H : Type} {enc : TypeId × Value → H} {w : World} {base : Nat} {spare : Nat → Bool} {held : Bool} {fuel : Nat} {cs : List Value} {x : DataW H × List MemPlace}

theorem cell_lt {w : World} {a : Addr} {v : Value} (h : w.cell? a = some v) : a.block < w.heap.size := by
  rcases Nat.lt_or_ge a.block w.heap.size with hlt | hge
  · exact hlt
  · simp [World.cell?, Array.getElem?_eq_none hge] at h

set_option maxRecDepth 100000 in
theorem trod_ints (h : DataW.trod enc Try.prog w base (fun _ => true) held fuel 22 cs = some x) : ∃ A n c xs, cs = [.slice A n c] ∧ Ints w w.heap.size A n xs := by
  rcases open_ints Try.underlying22 Try.underlying3 Try.c3 h with ⟨hcs, _⟩ | ⟨a, len, cap, zs, hcs, _, hl, hm, hz, _, hc, _⟩
  · exact ⟨none, 0, 0, [], hcs, rfl, by unfold maxLen; omega, Row.nil_⟩
  · rw [if_pos rfl] at hz
    refine ⟨some a, len, cap, zs.take len, hcs, by simp; omega, by omega, fun h0 => ?_⟩
    have h1 : 0 < len := by
      rcases Nat.eq_zero_or_pos len with h | h
      · subst h; simp at h0
      · exact h
    obtain ⟨b, off, rfl, hcc⟩ := ints_at hc (by omega)
    refine ⟨b, off, rfl, cell_lt (hcc 0 (by omega)), fun k v hv => ?_⟩
    rw [List.getElem?_map, Option.map_eq_some_iff] at hv
    obtain ⟨y, hy, rfl⟩ := hv
    have hk : k < len := by
      have := (List.getElem?_eq_some_iff.1 hy).1
      simp at this; omega
    rw [List.getElem?_take, if_pos hk] at hy
    rw [hcc k (by omega)]
    simp [List.getD, hy]

set_option maxRecDepth 100000 in
theorem trod_mem (h : DataW.trod enc Try.prog w base (fun _ => true) held fuel 24 cs = some x) : ∃ A n c xs, cs = [.slice A n c] ∧ Ints w w.heap.size A n xs := by
  obtain ⟨hl, n, hf⟩ := trod_field Try.underlying24 h
  rw [Try.cMem] at hl
  match cs, hl with
  | [c0], _ =>
    obtain ⟨y, hy⟩ := hf 0 _ rfl
    exact trod_ints (by simpa [Try.cInts] using hy)
end

end

section
open Go.ChangeShapes Go.WideShapes Go.ChangeAt

section
variable {H : Type} {enc : TypeId × Value → H} {w : World} {base : Nat} {spare : Nat → Bool} {held : Bool} {fuel : Nat} {cs : List Value} {x : DataW H × List MemPlace}
theorem Try.cells_ring : Try.prog.cellsOf 29 = 3 := by kernel_rfl
set_option maxRecDepth 100000 in
theorem trod_ring (h : DataW.trod enc Try.prog w base spare held fuel 29 cs = some x) : ∃ (p : Int) (g : Int) (t : Int), cs = [.int .i64 p, .int .i64 g, .int .i64 t] := by
  obtain ⟨hl, n, hf⟩ := trod_field Try.underlying29 h
  rw [Try.cells_ring] at hl
  match cs, hl with
  | [c0, c1, c2], _ =>
    obtain ⟨y0, h0⟩ := hf 0 _ rfl
    obtain ⟨p, rfl⟩ := trod_int1 Try.underlying3 (by simpa [Try.c3] using h0)
    obtain ⟨y1, h1⟩ := hf 1 _ rfl
    obtain ⟨g, rfl⟩ := trod_int1 Try.underlying3 (by simpa [Try.c3] using h1)
    obtain ⟨y2, h2⟩ := hf 2 _ rfl
    obtain ⟨t, rfl⟩ := trod_int1 Try.underlying3 (by simpa [Try.c3] using h2)
    exact ⟨p, g, t, rfl⟩
end
end

section
open Go.ChangeShapes Go.WideShapes Go.ChangeAt

theorem Try.cLine : Try.prog.cellsOf 77 = 5 := by kernel_rfl
theorem Try.cLines : Try.prog.cellsOf 27 = 1 := by kernel_rfl
theorem Try.cRing : Try.prog.cellsOf 29 = 3 := by kernel_rfl
theorem Try.cBrg : Try.prog.cellsOf 31 = 12 := by kernel_rfl
theorem exists_list {α : Type} {P : Nat → α → Prop} : ∀ (n : Nat), (∀ i, i < n → ∃ x, P i x) → ∃ l : List α, l.length = n ∧ ∀ i x, l[i]? = some x → P i x
  | 0, _ => ⟨[], rfl, fun i x h => by simp at h⟩
  | n + 1, h => by
    obtain ⟨l, hl, hp⟩ := exists_list n (fun i hi => h i (by omega))
    obtain ⟨x, hx⟩ := h n (by omega)
    refine ⟨l ++ [x], by simp [hl], fun i y hy => ?_⟩
    rcases Nat.lt_or_ge i n with hi | hi
    · rw [List.getElem?_append_left (by omega)] at hy; exact hp i y hy
    · rw [List.getElem?_append_right (by omega)] at hy
      have : i - l.length = 0 := by
        have := (List.getElem?_eq_some_iff.1 hy).1
        simp at this; omega
      rw [this] at hy
      simp at hy
      have e : i = n := by omega
      rw [e, ← hy]; exact hx
section
variable {H : Type} {enc : TypeId × Value → H} {w : World} {base : Nat} {spare : Nat → Bool} {held : Bool} {fuel : Nat} {cs : List Value} {x : DataW H × List MemPlace}
theorem Try.cells_line : Try.prog.cellsOf 77 = 5 := by kernel_rfl
set_option maxRecDepth 100000 in
theorem trod_line (h : DataW.trod enc Try.prog w base spare held fuel 77 cs = some x) : ∃ (d : Int) (p : Int) (a : Int) (r : Bool) (u : Bool), cs = [.int .i64 d, .int .i64 p, .int .i64 a, .bool r, .bool u] := by
  obtain ⟨hl, n, hf⟩ := trod_field Try.underlying77 h
  rw [Try.cells_line] at hl
  match cs, hl with
  | [c0, c1, c2, c3, c4], _ =>
    obtain ⟨y0, h0⟩ := hf 0 _ rfl
    obtain ⟨d, rfl⟩ := trod_int1 Try.underlying3 (by simpa [Try.c3] using h0)
    obtain ⟨y1, h1⟩ := hf 1 _ rfl
    obtain ⟨p, rfl⟩ := trod_int1 Try.underlying3 (by simpa [Try.c3] using h1)
    obtain ⟨y2, h2⟩ := hf 2 _ rfl
    obtain ⟨a, rfl⟩ := trod_int1 Try.underlying3 (by simpa [Try.c3] using h2)
    obtain ⟨y3, h3⟩ := hf 3 _ rfl
    obtain ⟨r, rfl⟩ := trod_bool1 Try.underlying4 (by simpa [Try.c4] using h3)
    obtain ⟨y4, h4⟩ := hf 4 _ rfl
    obtain ⟨u, rfl⟩ := trod_bool1 Try.underlying4 (by simpa [Try.c4] using h4)
    exact ⟨d, p, a, r, u, rfl⟩

set_option maxRecDepth 100000 in
theorem trod_lines (h : DataW.trod enc Try.prog w base (fun _ => true) held fuel 27 cs = some x) : ∃ A n c ls, cs = [.slice A n c] ∧ Lines w w.heap.size A n c ls := by
  rcases DataW.trod_slice Try.underlying27 h with ⟨hcs, _⟩ | ⟨a, len, cap, elems, rest, n, _, hcs, _, hb, hl, hm, he, hel, _⟩
  · exact ⟨none, 0, 0, [], hcs, lines_none _ _⟩
  · obtain ⟨ls, hlen, hls⟩ := exists_list (α := Line) (P := fun i x => ∀ j, j < 5 → w.cell? ((a.add (i * 5)).add j) = x.vals[j]?) len (fun i hi => by
      have h1 := hel i hi
      rw [Try.cLine, List.getElem?_eq_getElem (by omega), Option.bind_eq_some_iff] at h1
      obtain ⟨cs', h2, h3⟩ := h1
      obtain ⟨d, p, q, r, u, e⟩ := trod_line h3
      obtain ⟨_, _, hc⟩ := World.cells?_some h2
      subst e
      exact ⟨⟨d, p, q, r, u⟩, hc⟩)
    refine ⟨some a, len, cap, ls, hcs, hlen, hl, hm, (fun e => by cases e), fun h0 => ?_⟩
    rw [lcells_len] at h0
    obtain ⟨y, hy⟩ := some_of_lt ls (k := 0) (by omega)
    have hc0 := hls 0 y hy 0 (by decide)
    obtain ⟨b, off, spot⟩ := a
    have hspot : spot = none := by
      have := hc0
      simp only [Line.vals, List.getElem?_cons_zero] at this
      simpa [Addr.add] using World.cell?_spot this
    subst hspot
    have hcell : ∀ m v, (lcells ls)[m]? = some v → w.cell? ⟨b, off + m, none⟩ = some v := by
      intro m v hv
      rw [lcells_get, Option.bind_eq_some_iff] at hv
      obtain ⟨z, hz, hv⟩ := hv
      have := hls (m / 5) z hz (m % 5) (by omega)
      rw [hv] at this
      rw [Go.WideShapes.add_plain, Go.WideShapes.add_plain, show off + m / 5 * 5 + m % 5 = off + m by omega] at this
      exact this
    refine ⟨b, off, rfl, ?_, hcell⟩
    obtain ⟨v, hv⟩ := some_of_lt (lcells ls) (k := 0) (by rw [lcells_len]; omega)
    exact cell_lt (hcell 0 v hv)

set_option maxRecDepth 100000 in
theorem trod_bridge (h : DataW.trod enc Try.prog w base (fun _ => true) held fuel 31 cs = some x) : ∃ (b : Brg) (A : Option Addr) (n c : Nat), cs = (#[.int .i64 b.mode, .int .i64 b.base, .slice A n c, .int .i64 b.orders.page, .int .i64 b.orders.head, .int .i64 b.orders.tail, .bool b.stopped, .int .i64 b.fences, .int .i64 b.faults.page, .int .i64 b.faults.head, .int .i64 b.faults.tail, .bool b.lost] : Array Value).toList ∧ Lines w w.heap.size A n c b.cache := by
  obtain ⟨hl, n, hf⟩ := trod_field Try.underlying31 h
  rw [Try.cBrg] at hl
  match cs, hl with
  | [c0, c1, c2, c3, c4, c5, c6, c7, c8, c9, c10, c11], _ =>
    obtain ⟨y0, h0⟩ := hf 0 _ rfl
    obtain ⟨y1, h1⟩ := hf 1 _ rfl
    obtain ⟨y2, h2⟩ := hf 2 _ rfl
    obtain ⟨y3, h3⟩ := hf 3 _ rfl
    obtain ⟨y4, h4⟩ := hf 4 _ rfl
    obtain ⟨y5, h5⟩ := hf 5 _ rfl
    obtain ⟨y6, h6⟩ := hf 6 _ rfl
    obtain ⟨y7, h7⟩ := hf 7 _ rfl
    obtain ⟨mode, rfl⟩ := trod_int1 Try.underlying3 (by simpa [Try.c3] using h0)
    obtain ⟨bs, rfl⟩ := trod_int1 Try.underlying3 (by simpa [Try.c3] using h1)
    obtain ⟨A, m, c, ls, e2, hL⟩ := trod_lines (by simpa [Try.cLines] using h2)
    obtain ⟨p1, g1, t1, e3⟩ := trod_ring (by simpa [Try.cRing] using h3)
    obtain ⟨st, rfl⟩ := trod_bool1 Try.underlying4 (by simpa [Try.c4] using h4)
    obtain ⟨fe, rfl⟩ := trod_int1 Try.underlying3 (by simpa [Try.c3] using h5)
    obtain ⟨p2, g2, t2, e6⟩ := trod_ring (by simpa [Try.cRing] using h6)
    obtain ⟨lo, rfl⟩ := trod_bool1 Try.underlying4 (by simpa [Try.c4] using h7)
    obtain rfl : c2 = .slice A m c := by simpa using e2
    obtain ⟨rfl, rfl, rfl⟩ : c3 = .int .i64 p1 ∧ c4 = .int .i64 g1 ∧ c5 = .int .i64 t1 := by simpa using e3
    obtain ⟨rfl, rfl, rfl⟩ : c8 = .int .i64 p2 ∧ c9 = .int .i64 g2 ∧ c10 = .int .i64 t2 := by simpa using e6
    exact ⟨⟨mode, bs, ls, ⟨p1, g1, t1⟩, st, fe, ⟨p2, g2, t2⟩, lo⟩, A, m, c, rfl, hL⟩
end

end
end
end Go.Proofs.Ytbopdijnojaaiad
