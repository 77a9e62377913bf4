/- DmaHeld: no word of memory changes but those that are touched to write, and the one word of a fault: what is not let through changes nothing else. No condition. -/
import Derived.Test.YtbopdijnojaaiacOpenP
import Derived.Test.YtbopdijnojaaiacLawDHeld
namespace Go.Proofs.Ytbopdijnojaaiac
open Go.RowKit
set_option linter.unusedSimpArgs false
set_option linter.unusedVariables false
open Go.ChangeShapes Go.WideShapes Go.ChangeAt
theorem law_DmaHeld (xs : List Int) (b : Brg) (a : Ask) (M L AD : Option Addr) (nm mc n c nd cd : Nat) (w : World) (hm : Ints w w.heap.size M nm xs) (hl : Lines w w.heap.size L n c b.cache) (hd : Ints w w.heap.size AD nd a.data) :
    Calls Try.prog 7 #[.agg #[.slice M nm mc], .agg #[.int .i64 b.mode, .int .i64 b.base, .slice L n c, .int .i64 b.orders.page, .int .i64 b.orders.head, .int .i64 b.orders.tail, .bool b.stopped, .int .i64 b.fences, .int .i64 b.faults.page, .int .i64 b.faults.head, .int .i64 b.faults.tail, .bool b.lost], .agg #[.int .i64 a.dev, .int .i64 a.at_, .int .i64 a.count, .bool a.wr, .slice AD nd cd]] w fun e w' => e = .returned (.bool true) ∧ Below w.heap.size w w' := by
  by_cases h : dmaE xs b a = 0
  · have h1 := (dmaE_inv h).1
    obtain rfl : nm = 512 := by rw [← hm.1]; exact (cm_inv h1).1
    exact dheld_ok xs b a M L AD 512 mc n c nd cd w hm hl hd h
  · exact dheld_no xs b a M L AD nm mc n c nd cd w hm hl hd h

set_option maxRecDepth 100000 in
theorem dmaHeld_lifted (os : Os) (started : os.Started) (H : Type) (enc : TypeId × Value → H) :
    ReturnsInHanded {} Try.checked os 7 .any (Rows.dmaHeldSpec.pre6 enc Try.prog Try.f7 Rows.dmaHeldRow.domain false) (Rows.dmaHeldSpec.post enc Try.prog Try.f7 false true false false) := by
  refine returnsInHanded_of_change (C := Try.checked) Try.own started (by kernel_rfl) Try.func7
    (ChangeSpec.witness6 (enc := enc) (C := Try.checked) false ⟨#[], #[.agg #[.slice none 0 0], .agg #[.int .i64 0, .int .i64 0, .slice none 0 0, .int .i64 0, .int .i64 0, .int .i64 0, .bool false, .int .i64 0, .int .i64 0, .int .i64 0, .int .i64 0, .bool false], .agg #[.int .i64 0, .int .i64 0, .int .i64 0, .bool false, .slice none 0 0]], []⟩ 8 (by kernel_rfl) (by kernel_rfl) (by kernel_rfl) (by kernel_rfl)) ?_
  intro W base args ds gs before hval0 hW hcnd _
  have hval : ∀ (j : Nat) t v, Try.f7.params[j]? = some t → args[j]? = some v → Value.okWide Try.prog W .any base t v := hval0
  have hW' := hW
  obtain ⟨p, q, hA0, hV, hps, hfz, hnd⟩ := hW
  have hA : DataW.TrodAll enc Try.prog W 0 (fun _ => true) true Try.f7.params.toList args.toList ds p := hA0
  rw [Try.params7] at hA hval
  clear hA0 hval0 hcnd
  obtain ⟨v0, vs0, d0, ds0, p0, q0, hargs, rfl, hp0, h0, r0⟩ := trodAll_cons hA
  obtain ⟨v1, vs1, d1, ds1, p1, q1, rfl, rfl, hp1, h1, r1⟩ := trodAll_cons r0
  obtain ⟨v2, vs2, d2, ds2, p2, q2, rfl, rfl, hp2, h2, r2⟩ := trodAll_cons r1
  obtain ⟨rfl, rfl, _⟩ := trodAll_nil r2
  obtain rfl : args = #[v0, v1, v2] := by cases args; simp_all
  obtain ⟨rfl, rfl⟩ := trodVars_none hV
  obtain ⟨m, nm, cm', xs, rfl, hI⟩ := open_mem (hval 0 30 v0 rfl rfl) h0
  obtain ⟨b, A, n, c, rfl, hL⟩ := open_bridge (hval 1 37 v1 rfl rfl) h1
  obtain ⟨a, AD, nd, cd, rfl, hD⟩ := open_ask (hval 2 62 v2 rfl rfl) h2
  refine (law_DmaHeld xs b a m A AD nm cm' n c nd cd W hI hL hD).mono fun e W' ⟨he, hb⟩ => ?_
  subst he
  exact ⟨_, rfl, law_post Try.laidOut (by kernel_rfl) rfl Try.underlying4 rfl hW' rfl rfl rfl hb⟩

theorem dmaHeld_holds : Rows.DmaHeldSaid :=
  OpenClaim.holds_of_wide 7 Try.f7 rfl rfl rfl rfl rfl rfl rfl ⟨rfl, rfl, rfl, rfl, rfl⟩ rfl rfl rfl rfl rfl (by kernel_rfl) Try.func7 (by kernel_rfl)
    (of_decide_eq_true (by kernel_rfl)) (by unfold Func.isWrapper; first | (rw [if_pos (by decide +kernel)]; kernel_rfl) | (rw [if_neg (by decide +kernel)]; exact ⟨rfl, rfl⟩))
    (fun os started H enc _ => dmaHeld_lifted os started H enc)
end Go.Proofs.Ytbopdijnojaaiac
