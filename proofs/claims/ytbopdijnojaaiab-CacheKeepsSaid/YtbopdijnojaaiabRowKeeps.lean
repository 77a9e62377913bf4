/- CacheKeeps: a cache stays one; what is filled in is there, last; what is dropped is there no more, all else in its order. No condition. -/
import Derived.Test.YtbopdijnojaaiabOpenB
import Derived.Test.YtbopdijnojaaiabLawKeeps
namespace Go.Proofs.Ytbopdijnojaaiab
open Go.RowKit
set_option linter.unusedSimpArgs false
set_option linter.unusedVariables false
open Go.ChangeShapes Go.WideShapes Go.ChangeAt

section
variable {H : Type} {enc : TypeId × Value → H} {w : World} {base : Nat} {spare : Nat → Bool} {held : Bool} {fuel : Nat} {cs : List Value} {x : DataW H × List MemPlace}
set_option maxRecDepth 100000 in
theorem trod_orderW (h : DataW.trod enc Try.prog w base spare held fuel 44 cs = some x) : ∃ (k : Int) (d : Int) (p : Int), cs = [.int .i64 k, .int .i64 d, .int .i64 p] ∧ (Lit.int .i64 k).wf = true := by
  obtain ⟨k, d, p, e⟩ := trod_order h
  refine ⟨k, d, p, e, ?_⟩
  obtain ⟨hl, n, hf⟩ := trod_field Try.underlying44 h
  subst e
  obtain ⟨y, hy⟩ := hf 0 _ rfl
  obtain ⟨a, e, _, hw⟩ := DataW.trod_int Try.underlying3 (by simpa [Try.c3] using hy)
  have e' : k = a := by simpa using e
  subst e'
  exact hw
end
set_option maxRecDepth 100000 in
theorem open_order {H : Type} {enc : TypeId × Value → H} {W : World} {b0 : Nat} {v : Value} {d : DataW H} {p : List MemPlace} (hv : Value.okWide Try.prog W .any b0 44 v) (h : DataW.Trod enc Try.prog W 0 (fun _ => true) true 44 v d p) :
    ∃ k d p, v = .agg #[.int .i64 k, .int .i64 d, .int .i64 p] ∧ (Lit.int .i64 k).wf = true := by
  obtain ⟨cs, n, rfl, g⟩ := open_cells Try.underlying44 hv h
  obtain ⟨k, d, p, e, hi⟩ := trod_orderW g
  obtain ⟨cs⟩ := cs
  simp only [] at e
  subst e
  exact ⟨k, d, p, rfl, hi⟩
set_option maxRecDepth 100000 in
theorem open_lines {H : Type} {enc : TypeId × Value → H} {W : World} {b0 : Nat} {v : Value} {d : DataW H} {p : List MemPlace} (hv : Value.okWide Try.prog W .any b0 40 v) (h : DataW.Trod enc Try.prog W 0 (fun _ => true) true 40 v d p) :
    ∃ A n c ls, v = .slice A n c ∧ Lines W W.heap.size A n c ls := by
  obtain ⟨a, len, cap, rfl⟩ := okWide_slice Try.underlying40 hv
  obtain ⟨n, h⟩ := h
  obtain ⟨A, n, c, ls, e, hL⟩ := trod_lines h
  simp only [Value.cells, List.cons.injEq, and_true] at e
  exact ⟨A, n, c, ls, e, hL⟩

set_option maxRecDepth 100000 in
theorem cacheKeeps_lifted (os : Os) (started : os.Started) (H : Type) (enc : TypeId × Value → H) :
    ReturnsInHanded {} Try.checked os 7 .any (Rows.cacheKeepsSpec.pre6 enc Try.prog Try.f7 Rows.cacheKeepsRow.domain false) (Rows.cacheKeepsSpec.post enc Try.prog Try.f7 false true false false) := by
  refine returnsInHanded_of_change (C := Try.checked) Try.own started (by kernel_rfl) Try.func7
    (ChangeSpec.witness6 (enc := enc) (C := Try.checked) false ⟨#[], #[.slice none 0 0, .agg #[.int .i64 0, .int .i64 0, .int .i64 0, .bool false, .bool false], .agg #[.int .i64 0, .int .i64 0, .int .i64 0]], []⟩ 8 (by kernel_rfl) (by kernel_rfl) (by kernel_rfl) (by kernel_rfl)) ?_
  intro W base args ds gs before hval0 hW hcnd _
  have hval : ∀ (j : Nat) t v, Try.f7.params[j]? = some t → args[j]? = some v → Value.okWide Try.prog W .any base t v := hval0
  have hW' := hW
  obtain ⟨p, q, hA0, hV, hps, hfz, hnd⟩ := hW
  have hA : DataW.TrodAll enc Try.prog W 0 (fun _ => true) true Try.f7.params.toList args.toList ds p := hA0
  rw [Try.params7] at hA hval
  clear hA0 hval0 hcnd
  obtain ⟨v0, vs0, d0, ds0, p0, q0, hargs, rfl, hp0, h0, r0⟩ := trodAll_cons hA
  obtain ⟨v1, vs1, d1, ds1, p1, q1, rfl, rfl, hp1, h1, r1⟩ := trodAll_cons r0
  obtain ⟨v2, vs2, d2, ds2, p2, q2, rfl, rfl, hp2, h2, r2⟩ := trodAll_cons r1
  obtain ⟨rfl, rfl, _⟩ := trodAll_nil r2
  obtain rfl : args = #[v0, v1, v2] := by cases args; simp_all
  obtain ⟨rfl, rfl⟩ := trodVars_none hV
  obtain ⟨A, n, c, ls, rfl, hL⟩ := open_lines (hval 0 40 v0 rfl rfl) h0
  obtain ⟨cs1, n1, rfl, g1⟩ := open_cells Try.underlying42 (hval 1 42 v1 rfl rfl) h1
  obtain ⟨cs1⟩ := cs1
  obtain ⟨x1, x2, x3, x4, x5, e1⟩ := trod_line g1
  simp only [] at e1
  subst e1
  obtain ⟨k, d, p, rfl, hw⟩ := open_order (hval 2 44 v2 rfl rfl) h2
  refine (law_CacheKeeps_a A n c ls x1 x2 x3 x4 x5 k d p W hL hw).mono fun e W' ⟨he, hb⟩ => ?_
  subst he
  exact ⟨_, rfl, law_post Try.laidOut (by kernel_rfl) rfl Try.underlying4 rfl hW' rfl rfl rfl hb⟩

theorem cacheKeeps_holds : Rows.CacheKeepsSaid :=
  OpenClaim.holds_of_wide 7 Try.f7 rfl rfl rfl rfl rfl rfl rfl ⟨rfl, rfl, rfl, rfl, rfl⟩ rfl rfl rfl rfl rfl (by kernel_rfl) Try.func7 (by kernel_rfl)
    (of_decide_eq_true (by kernel_rfl)) (by unfold Func.isWrapper; first | (rw [if_pos (by decide +kernel)]; kernel_rfl) | (rw [if_neg (by decide +kernel)]; exact ⟨rfl, rfl⟩))
    (fun os started H enc _ => cacheKeeps_lifted os started H enc)
end Go.Proofs.Ytbopdijnojaaiab
