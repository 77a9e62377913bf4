/- What is known of the data of asks that are handed in: not longer than there is room. No statement of the seat is proved here. -/
import Derived.Test.YtbopdijnojaaiadOpenP
namespace Go.Proofs.Ytbopdijnojaaiad
open Go.RowKit
set_option linter.unusedSimpArgs false
set_option linter.unusedVariables false
open Go.ChangeShapes Go.WideShapes Go.ChangeAt
section
variable {H : Type} {enc : TypeId × Value → H} {w : World} {base : Nat} {spare : Nat → Bool} {held : Bool} {fuel : Nat} {cs : List Value} {x : DataW H × List MemPlace}
theorem trod_ints_cap (h : DataW.trod enc Try.prog w base (fun _ => true) held fuel 22 cs = some x) : ∀ D n c, cs = [.slice D n c] → n ≤ c ∧ c ≤ 9223372036854775807 := by
  rcases open_ints Try.underlying22 Try.underlying3 Try.c3 h with ⟨hcs, _⟩ | ⟨a, len, cap, zs, hcs, _, hl, hm, hz, _, hc, _⟩
  · intro D n c e
    rw [hcs] at e
    simp at e
    omega
  · intro D n c e
    rw [hcs] at e
    simp at e
    unfold maxLen at hm
    omega
set_option maxRecDepth 100000 in
theorem trod_ask_cap (h : DataW.trod enc Try.prog w base (fun _ => true) held fuel 35 cs = some x) : ∀ D n c, cs[4]? = some (.slice D n c) → n ≤ c ∧ c ≤ 9223372036854775807 := by
  obtain ⟨hl, n, hf⟩ := trod_field Try.underlying35 h
  rw [Try.cAsk] at hl
  match cs, hl with
  | [c0, c1, c2, c3, c4], _ =>
    obtain ⟨y4, h4⟩ := hf 4 _ rfl
    intro D n c e
    exact trod_ints_cap (by simpa [Try.cInts] using h4) D n c (by simpa using e)
set_option maxRecDepth 100000 in
theorem trod_hap_cap (h : DataW.trod enc Try.prog w base (fun _ => true) held fuel 46 cs = some x) : ∀ D n c, cs[6]? = some (.slice D n c) → n ≤ c ∧ c ≤ 9223372036854775807 := by
  obtain ⟨hl, n, hf⟩ := trod_field Try.underlying46 h
  rw [Try.cHap] at hl
  match cs, hl with
  | [c0, c1, c2, c3, c4, c5, c6], _ =>
    obtain ⟨y2, h2⟩ := hf 2 _ rfl
    intro D n c e
    exact trod_ask_cap (by simpa [Try.cAsk] using h2) D n c (by simpa using e)
end
/-- a slice of happenings, the data of each not longer than there is room. -/
def HapsC (w : World) (A : Option Addr) (n : Nat) : Prop := ∀ b off, A = some ⟨b, off, none⟩ → ∀ k, k < n → ∀ D nd cd, w.cell? ⟨b, off + k * 7 + 6, none⟩ = some (.slice D nd cd) → nd ≤ cd ∧ cd ≤ 9223372036854775807
set_option maxRecDepth 100000 in
theorem open_hapsC {H : Type} {enc : TypeId × Value → H} {W : World} {b0 : Nat} {v : Value} {d : DataW H} {p : List MemPlace} (hv : Value.okWide Try.prog W .any b0 53 v) (h : DataW.Trod enc Try.prog W 0 (fun _ => true) true 53 v d p) :
    ∃ A n c hs, v = .slice A n c ∧ Haps W W.heap.size A n c hs ∧ HapsC W A n := by
  obtain ⟨A, n, c, hs, rfl, hH⟩ := open_haps hv h
  refine ⟨A, n, c, hs, rfl, hH, ?_⟩
  obtain ⟨m, h⟩ := h
  intro b off e k hk D nd cd hc
  rcases DataW.trod_slice Try.underlying53 h with ⟨hcs, _⟩ | ⟨a, len, cap, elems, rest, n', _, hcs, _, hb, hl, hm, he, hel, _⟩
  · simp only [Value.cells, List.cons.injEq, and_true] at hcs
    injection hcs with h1 h2 h3
    omega
  · simp only [Value.cells, List.cons.injEq, and_true] at hcs
    injection hcs with h1 h2 h3
    subst h2 h3
    have hae : a = ⟨b, off, none⟩ := by rw [e] at h1; injection h1 with h1; exact h1.symm
    subst hae
    have h1 := hel k hk
    rw [Try.cHap, List.getElem?_eq_getElem (by omega), Option.bind_eq_some_iff] at h1
    obtain ⟨cs', g2, g3⟩ := h1
    obtain ⟨hl7, _, hcc⟩ := World.cells?_some g2
    have h6 := hcc 6 (by decide)
    rw [Go.WideShapes.add_plain, Go.WideShapes.add_plain, hc] at h6
    exact trod_hap_cap g3 D nd cd h6.symm
set_option maxRecDepth 100000 in
theorem open_askC {H : Type} {enc : TypeId × Value → H} {W : World} {b0 : Nat} {v : Value} {d : DataW H} {p : List MemPlace} (hv : Value.okWide Try.prog W .any b0 35 v) (h : DataW.Trod enc Try.prog W 0 (fun _ => true) true 35 v d p) :
    ∃ (a : Ask) (D : Option Addr) (n c : Nat), v = .agg #[.int .i64 a.dev, .int .i64 a.at_, .int .i64 a.count, .bool a.wr, .slice D n c] ∧ Ints W W.heap.size D n a.data ∧ n ≤ c ∧ c ≤ 9223372036854775807 := by
  obtain ⟨cs, n, rfl, g⟩ := open_cells Try.underlying35 hv h
  obtain ⟨a, D, m, c, e, hD⟩ := trod_ask g
  have hcap := trod_ask_cap g D m c (by rw [e]; rfl)
  obtain ⟨cs⟩ := cs
  simp only [] at e
  subst e
  exact ⟨a, D, m, c, rfl, hD, hcap⟩
end Go.Proofs.Ytbopdijnojaaiad
