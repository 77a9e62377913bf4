/- What is known of the data of asks that are handed in: not longer than there is room. No statement of the seat is proved here. -/
import Derived.Test.YtbopdijnojaaiacOpenP
namespace Go.Proofs.Ytbopdijnojaaiac
open Go.RowKit
set_option linter.unusedSimpArgs false
set_option linter.unusedVariables false
open Go.ChangeShapes Go.WideShapes Go.ChangeAt
section
variable {H : Type} {enc : TypeId × Value → H} {w : World} {base : Nat} {spare : Nat → Bool} {held : Bool} {fuel : Nat} {cs : List Value} {x : DataW H × List MemPlace}
theorem trod_ints_cap (h : DataW.trod enc Try.prog w base (fun _ => true) held fuel 28 cs = some x) : ∀ D n c, cs = [.slice D n c] → n ≤ c ∧ c ≤ 9223372036854775807 := by
  rcases open_ints Try.underlying28 Try.underlying3 Try.c3 h with ⟨hcs, _⟩ | ⟨a, len, cap, zs, hcs, _, hl, hm, hz, _, hc, _⟩
  · intro D n c e
    rw [hcs] at e
    simp at e
    omega
  · intro D n c e
    rw [hcs] at e
    simp at e
    unfold maxLen at hm
    omega
set_option maxRecDepth 100000 in
theorem trod_ask_cap (h : DataW.trod enc Try.prog w base (fun _ => true) held fuel 62 cs = some x) : ∀ D n c, cs[4]? = some (.slice D n c) → n ≤ c ∧ c ≤ 9223372036854775807 := by
  obtain ⟨hl, n, hf⟩ := trod_field Try.underlying62 h
  rw [Try.cAsk] at hl
  match cs, hl with
  | [c0, c1, c2, c3, c4], _ =>
    obtain ⟨y4, h4⟩ := hf 4 _ rfl
    intro D n c e
    exact trod_ints_cap (by simpa [Try.cInts] using h4) D n c (by simpa using e)
end
set_option maxRecDepth 100000 in
theorem open_askC {H : Type} {enc : TypeId × Value → H} {W : World} {b0 : Nat} {v : Value} {d : DataW H} {p : List MemPlace} (hv : Value.okWide Try.prog W .any b0 62 v) (h : DataW.Trod enc Try.prog W 0 (fun _ => true) true 62 v d p) :
    ∃ (a : Ask) (D : Option Addr) (n c : Nat), v = .agg #[.int .i64 a.dev, .int .i64 a.at_, .int .i64 a.count, .bool a.wr, .slice D n c] ∧ Ints W W.heap.size D n a.data ∧ n ≤ c ∧ c ≤ 9223372036854775807 := by
  obtain ⟨cs, n, rfl, g⟩ := open_cells Try.underlying62 hv h
  obtain ⟨a, D, m, c, e, hD⟩ := trod_ask g
  have hcap := trod_ask_cap g D m c (by rw [e]; rfl)
  obtain ⟨cs⟩ := cs
  simp only [] at e
  subst e
  exact ⟨a, D, m, c, rfl, hD, hcap⟩
end Go.Proofs.Ytbopdijnojaaiac
