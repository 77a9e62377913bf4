/- DmaBack: what a device writes it reads again, where it comes to the same place still, and no two of its pages are one. No condition. -/
import Derived.Test.YtbopdijnojaaiacOpenP
import Derived.Test.YtbopdijnojaaiacLawDBack
namespace Go.Proofs.Ytbopdijnojaaiac
open Go.RowKit
set_option linter.unusedSimpArgs false
set_option linter.unusedVariables false
open Go.ChangeShapes Go.WideShapes Go.ChangeAt
theorem law_DmaBack (xs : List Int) (b : Brg) (a : Ask) (M L AD : Option Addr) (nm mc n c nd cd : Nat) (w : World) (hm : Ints w w.heap.size M nm xs) (hl : Lines w w.heap.size L n c b.cache) (hd : Ints w w.heap.size AD nd a.data) :
    Calls Try.prog 10 #[.agg #[.slice M nm mc], .agg #[.int .i64 b.mode, .int .i64 b.base, .slice L n c, .int .i64 b.orders.page, .int .i64 b.orders.head, .int .i64 b.orders.tail, .bool b.stopped, .int .i64 b.fences, .int .i64 b.faults.page, .int .i64 b.faults.head, .int .i64 b.faults.tail, .bool b.lost], .agg #[.int .i64 a.dev, .int .i64 a.at_, .int .i64 a.count, .bool a.wr, .slice AD nd cd]] w fun e w' => e = .returned (.bool true) ∧ Below w.heap.size w w' := by
  by_cases h : dmaE xs b (⟨a.dev, a.at_, a.count, true, a.data⟩ : Ask) = 0
  · have h1 := (dmaE_inv h).1
    obtain rfl : nm = 512 := by rw [← hm.1]; exact (cm_inv h1).1
    by_cases hdn : (dmaM xs b (⟨a.dev, a.at_, a.count, true, a.data⟩ : Ask)).2.2.done = true
    · exact dback_ok xs b a M L AD 512 mc n c nd cd w hm hl hd h hdn
    · have hdn' : (dmaM xs b (⟨a.dev, a.at_, a.count, true, a.data⟩ : Ask)).2.2.done = false := by simpa using hdn
      exact dback_nd xs b a M L AD 512 mc n c nd cd w hm hl hd h hdn'
  · exact dback_no xs b a M L AD nm mc n c nd cd w hm hl hd h

set_option maxRecDepth 100000 in
theorem dmaBack_lifted (os : Os) (started : os.Started) (H : Type) (enc : TypeId × Value → H) :
    ReturnsInHanded {} Try.checked os 10 .any (Rows.dmaBackSpec.pre6 enc Try.prog Try.f10 Rows.dmaBackRow.domain false) (Rows.dmaBackSpec.post enc Try.prog Try.f10 false true false false) := by
  refine returnsInHanded_of_change (C := Try.checked) Try.own started (by kernel_rfl) Try.func10
    (ChangeSpec.witness6 (enc := enc) (C := Try.checked) false ⟨#[], #[.agg #[.slice none 0 0], .agg #[.int .i64 0, .int .i64 0, .slice none 0 0, .int .i64 0, .int .i64 0, .int .i64 0, .bool false, .int .i64 0, .int .i64 0, .int .i64 0, .int .i64 0, .bool false], .agg #[.int .i64 0, .int .i64 0, .int .i64 0, .bool false, .slice none 0 0]], []⟩ 8 (by kernel_rfl) (by kernel_rfl) (by kernel_rfl) (by kernel_rfl)) ?_
  intro W base args ds gs before hval0 hW hcnd _
  have hval : ∀ (j : Nat) t v, Try.f10.params[j]? = some t → args[j]? = some v → Value.okWide Try.prog W .any base t v := hval0
  have hW' := hW
  obtain ⟨p, q, hA0, hV, hps, hfz, hnd⟩ := hW
  have hA : DataW.TrodAll enc Try.prog W 0 (fun _ => true) true Try.f10.params.toList args.toList ds p := hA0
  rw [Try.params10] at hA hval
  clear hA0 hval0 hcnd
  obtain ⟨v0, vs0, d0, ds0, p0, q0, hargs, rfl, hp0, h0, r0⟩ := trodAll_cons hA
  obtain ⟨v1, vs1, d1, ds1, p1, q1, rfl, rfl, hp1, h1, r1⟩ := trodAll_cons r0
  obtain ⟨v2, vs2, d2, ds2, p2, q2, rfl, rfl, hp2, h2, r2⟩ := trodAll_cons r1
  obtain ⟨rfl, rfl, _⟩ := trodAll_nil r2
  obtain rfl : args = #[v0, v1, v2] := by cases args; simp_all
  obtain ⟨rfl, rfl⟩ := trodVars_none hV
  obtain ⟨m, nm, cm', xs, rfl, hI⟩ := open_mem (hval 0 30 v0 rfl rfl) h0
  obtain ⟨b, A, n, c, rfl, hL⟩ := open_bridge (hval 1 37 v1 rfl rfl) h1
  obtain ⟨a, AD, nd, cd, rfl, hD⟩ := open_ask (hval 2 62 v2 rfl rfl) h2
  refine (law_DmaBack xs b a m A AD nm cm' n c nd cd W hI hL hD).mono fun e W' ⟨he, hb⟩ => ?_
  subst he
  exact ⟨_, rfl, law_post Try.laidOut (by kernel_rfl) rfl Try.underlying4 rfl hW' rfl rfl rfl hb⟩

theorem dmaBack_holds : Rows.DmaBackSaid :=
  OpenClaim.holds_of_wide 10 Try.f10 rfl rfl rfl rfl rfl rfl rfl ⟨rfl, rfl, rfl, rfl, rfl⟩ rfl rfl rfl rfl rfl (by kernel_rfl) Try.func10 (by kernel_rfl)
    (of_decide_eq_true (by kernel_rfl)) (by unfold Func.isWrapper; first | (rw [if_pos (by decide +kernel)]; kernel_rfl) | (rw [if_neg (by decide +kernel)]; exact ⟨rfl, rfl⟩))
    (fun os started H enc _ => dmaBack_lifted os started H enc)
end Go.Proofs.Ytbopdijnojaaiac
