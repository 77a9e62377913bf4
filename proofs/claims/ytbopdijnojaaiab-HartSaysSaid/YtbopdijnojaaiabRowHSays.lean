/- HartSays: any hart is made, checked, held against another one, and makes a step in any memory, beside any bridge, as the document says, errors too. No condition. -/
import Derived.Test.YtbopdijnojaaiabOpenH
import Derived.Test.YtbopdijnojaaiabLawHSK
import Derived.Test.YtbopdijnojaaiabLawHSM
import Derived.Test.YtbopdijnojaaiabLawHSH
import Derived.Test.YtbopdijnojaaiabLawHSB
import Derived.Test.YtbopdijnojaaiabLawHSD
namespace Go.Proofs.Ytbopdijnojaaiab
open Go.RowKit
set_option linter.unusedSimpArgs false
set_option linter.unusedVariables false

theorem law_HartSays (xs : List Int) (h : Hrt) (b : Brg) (k : Int) (g : Hrt) (M R L G : Option Addr) (nm mc nr rc n c ng gc : Nat) (w : World) (hm : Ints w w.heap.size M nm xs) (hr : Ints w w.heap.size R nr h.regs) (hl : Lines w w.heap.size L n c b.cache) (hg : Ints w w.heap.size G ng g.regs) :
    Calls Try.prog 12 #[.agg #[.slice M nm mc], .agg #[.int .i64 h.at_, .slice R nr rc, .bool h.done], .agg #[.int .i64 b.mode, .int .i64 b.base, .slice L n c, .int .i64 b.orders.page, .int .i64 b.orders.head, .int .i64 b.orders.tail, .bool b.stopped, .int .i64 b.fences, .int .i64 b.faults.page, .int .i64 b.faults.head, .int .i64 b.faults.tail, .bool b.lost], .int .i64 k, .agg #[.int .i64 g.at_, .slice G ng gc, .bool g.done]] w fun e w' => e = .returned (.bool true) ∧ Below w.heap.size w w' := by
  obtain ⟨at_, rs, dn⟩ := h
  by_cases c1 : cm xs = 0
  · by_cases c2 : ckH (⟨at_, rs, dn⟩ : Hrt) = 0
    · by_cases c3 : ckB b = 0
      · cases dn
        · obtain rfl : nm = 512 := by rw [← hm.len]; exact (cm_inv c1).1
          obtain rfl : nr = 8 := by rw [← hr.len]; exact (ckH_inv c2).1
          exact hsays_K xs at_ rs false b k g M R L G 512 8 mc rc n c ng gc w hm hr hl hg c1 c2 c3
        · exact hsays_D xs at_ rs true b k g M R L G nm nr mc rc n c ng gc w hm hr hl hg c1 c2 c3
      · exact hsays_B xs at_ rs dn b k g M R L G nm nr mc rc n c ng gc w hm hr hl hg c1 c2 c3
    · exact hsays_H xs at_ rs dn b k g M R L G nm nr mc rc n c ng gc w hm hr hl hg c1 c2
  · exact hsays_M xs at_ rs dn b k g M R L G nm nr mc rc n c ng gc w hm hr hl hg c1

section
open Go.ChangeShapes Go.WideShapes Go.ChangeAt

set_option maxRecDepth 100000 in
theorem hartSays_lifted (os : Os) (started : os.Started) (H : Type) (enc : TypeId × Value → H) :
    ReturnsInHanded {} Try.checked os 12 .any (Rows.hartSaysSpec.pre6 enc Try.prog Try.f12 Rows.hartSaysRow.domain false) (Rows.hartSaysSpec.post enc Try.prog Try.f12 false true false false) := by
  refine returnsInHanded_of_change (C := Try.checked) Try.own started (by kernel_rfl) Try.func12
    (ChangeSpec.witness6 (enc := enc) (C := Try.checked) false ⟨#[], #[.agg #[.slice none 0 0], .agg #[.int .i64 0, .slice none 0 0, .bool false], .agg #[.int .i64 0, .int .i64 0, .slice none 0 0, .int .i64 0, .int .i64 0, .int .i64 0, .bool false, .int .i64 0, .int .i64 0, .int .i64 0, .int .i64 0, .bool false], .int .i64 0, .agg #[.int .i64 0, .slice none 0 0, .bool false]], []⟩ 8 (by kernel_rfl) (by kernel_rfl) (by kernel_rfl) (by kernel_rfl)) ?_
  intro W base args ds gs before hval0 hW hcnd _
  have hval : ∀ (j : Nat) t v, Try.f12.params[j]? = some t → args[j]? = some v → Value.okWide Try.prog W .any base t v := hval0
  have hW' := hW
  obtain ⟨p, q, hA0, hV, hps, hfz, hnd⟩ := hW
  have hA : DataW.TrodAll enc Try.prog W 0 (fun _ => true) true Try.f12.params.toList args.toList ds p := hA0
  rw [Try.params12] at hA hval
  clear hA0 hval0 hcnd
  obtain ⟨v0, vs0, d0, ds0, p0, q0, hargs, rfl, hp0, h0, r0⟩ := trodAll_cons hA
  obtain ⟨v1, vs1, d1, ds1, p1, q1, rfl, rfl, hp1, h1, r1⟩ := trodAll_cons r0
  obtain ⟨v2, vs2, d2, ds2, p2, q2, rfl, rfl, hp2, h2, r2⟩ := trodAll_cons r1
  obtain ⟨v3, vs3, d3, ds3, p3, q3, rfl, rfl, hp3, h3, r3⟩ := trodAll_cons r2
  obtain ⟨v4, vs4, d4, ds4, p4, q4, rfl, rfl, hp4, h4, r4⟩ := trodAll_cons r3
  obtain ⟨rfl, rfl, _⟩ := trodAll_nil r4
  obtain rfl : args = #[v0, v1, v2, v3, v4] := by cases args; simp_all
  obtain ⟨rfl, rfl⟩ := trodVars_none hV
  obtain ⟨m, nm, cm', xs, rfl, hI⟩ := open_mem (hval 0 24 v0 rfl rfl) h0
  obtain ⟨h, R, nr, rc, rfl, hR⟩ := open_hart (hval 1 53 v1 rfl rfl) h1
  obtain ⟨b, A, n, c, rfl, hL⟩ := open_bridge (hval 2 55 v2 rfl rfl) h2
  obtain ⟨k, rfl, _, _, _⟩ := open_int Try.underlying3 (hval 3 3 v3 rfl rfl) h3
  obtain ⟨g, G, ng, gc, rfl, hG⟩ := open_hart (hval 4 53 v4 rfl rfl) h4
  refine (law_HartSays xs h b k g m R A G nm cm' nr rc n c ng gc W hI hR hL hG).mono fun e W' ⟨he, hb⟩ => ?_
  subst he
  exact ⟨_, rfl, law_post Try.laidOut (by kernel_rfl) rfl Try.underlying4 rfl hW' rfl rfl rfl hb⟩

theorem hartSays_holds : Rows.HartSaysSaid :=
  OpenClaim.holds_of_wide 12 Try.f12 rfl rfl rfl rfl rfl rfl rfl ⟨rfl, rfl, rfl, rfl, rfl⟩ rfl rfl rfl rfl rfl (by kernel_rfl) Try.func12 (by kernel_rfl)
    (of_decide_eq_true (by kernel_rfl)) (by unfold Func.isWrapper; first | (rw [if_pos (by decide +kernel)]; kernel_rfl) | (rw [if_neg (by decide +kernel)]; exact ⟨rfl, rfl⟩))
    (fun os started H enc _ => hartSays_lifted os started H enc)
end
end Go.Proofs.Ytbopdijnojaaiab
