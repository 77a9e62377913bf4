/- BridgeSays: any bridge is checked, held against another one, any device let through, or not, as the document says, errors and faults too. No condition. -/
import Derived.Test.YtbopdijnojaaiabLawSaysB
import Derived.Test.YtbopdijnojaaiabLawSaysC
import Derived.Test.YtbopdijnojaaiabLawSaysD
import Derived.Test.YtbopdijnojaaiabOpenB
namespace Go.Proofs.Ytbopdijnojaaiab
open Go.RowKit
set_option linter.unusedSimpArgs false
set_option linter.unusedVariables false

section
theorem thE_c {xs : List Int} {b : Brg} {d p : Int} (h : cm xs ≠ 0) : thruE xs b d p = cm xs := by
  have e : allE xs b = cm xs := by unfold allE; rw [if_neg h]
  unfold thruE; rw [e, if_neg h]
theorem thE_b {xs : List Int} {b : Brg} {d p : Int} (h : cm xs = 0) (hb : ckB b ≠ 0) : thruE xs b d p = ckB b := by
  have e : allE xs b = ckB b := by unfold allE; rw [if_pos h]
  unfold thruE; rw [e, if_neg hb]
theorem thE_w {xs : List Int} {b : Brg} {d p : Int} (h : cm xs = 0) (hb : ckB b = 0) (hin : ¬ inD d p) : thruE xs b d p = 4 := by
  have e : allE xs b = 0 := by unfold allE; rw [if_pos h]; exact hb
  unfold thruE; rw [if_pos e, if_neg hin]
theorem thE_0 {xs : List Int} {b : Brg} {d p : Int} (h : cm xs = 0) (hb : ckB b = 0) (hin : inD d p) : thruE xs b d p = 0 := by
  have e : allE xs b = 0 := by unfold allE; rw [if_pos h]; exact hb
  unfold thruE; rw [if_pos e, if_pos hin]
theorem thA_no {xs : List Int} {b : Brg} {d p : Int} {wb : Bool} {E : Int} (h : thruE xs b d p = E) (h0 : E ≠ 0) : thruA xs b d p wb = (Brg.no, 0, 0) := by
  unfold thruA; rw [if_neg (by rw [h]; exact h0)]
theorem thA_ok {xs : List Int} {b : Brg} {d p : Int} {wb : Bool} (h : thruE xs b d p = 0) : thruA xs b d p wb = thruM xs b d p wb := by
  unfold thruA; rw [if_pos h]
theorem ck_none {b : Brg} (h : ckB b = 0) : ckB { b with cache := [] } = 0 := by
  rw [ckB_iff] at h ⊢
  exact ⟨h.1, ckC_nil, h.2.2⟩

theorem law_BridgeSays (xs : List Int) (m : Option Addr) (nm cm' : Nat) (b cb : Brg) (A A5 : Option Addr) (n c n5 c5 : Nat) (d p : Int) (wb : Bool) (w : World) (hx : Ints w w.heap.size m nm xs) (hl : Lines w w.heap.size A n c b.cache) (hl5 : Lines w w.heap.size A5 n5 c5 cb.cache) :
    Calls Try.prog 10 #[.agg #[.slice m nm cm'], .agg #[.int .i64 b.mode, .int .i64 b.base, .slice A n c, .int .i64 b.orders.page, .int .i64 b.orders.head, .int .i64 b.orders.tail, .bool b.stopped, .int .i64 b.fences, .int .i64 b.faults.page, .int .i64 b.faults.head, .int .i64 b.faults.tail, .bool b.lost], .int .i64 d, .int .i64 p, .bool wb, .agg #[.int .i64 cb.mode, .int .i64 cb.base, .slice A5 n5 c5, .int .i64 cb.orders.page, .int .i64 cb.orders.head, .int .i64 cb.orders.tail, .bool cb.stopped, .int .i64 cb.fences, .int .i64 cb.faults.page, .int .i64 cb.faults.head, .int .i64 cb.faults.tail, .bool cb.lost]] w fun e w' => e = .returned (.bool true) ∧ Below w.heap.size w w' := by
  by_cases hcm : cm xs = 0
  · have hn : nm = 512 := by rw [← hx.len]; exact (cm_inv hcm).1
    subst hn
    by_cases hin : inD d p
    · by_cases hb1 : ckB b = 0
      · have hb2 := ck_none hb1
        have h1 := thE_0 hcm hb1 hin
        have h2 := thE_0 hcm hb2 hin
        have a1 := thA_ok (wb := wb) h1
        have a2 := thA_ok (wb := wb) h2
        generalize hr : thruM xs b d p wb = r at a1
        generalize hr2 : thruM xs { b with cache := [] } d p wb = r2 at a2
        obtain ⟨rb, ra, rf⟩ := r
        obtain ⟨rb2, pa, pf⟩ := r2
        exact says_ok xs m cm' b cb A A5 n c n5 c5 d p wb rb ra rf rb2 pa pf w hx hl hl5 hcm hb1 hb2 hin hr hr2 a1 h1 a2 h2
      · by_cases hb2 : ckB { b with cache := [] } = 0
        · have h1 := thE_b (d := d) (p := p) hcm hb1
          have h2 := thE_0 hcm hb2 hin
          have a1 := thA_no (wb := wb) h1 hb1
          have a2 := thA_ok (wb := wb) h2
          generalize hr2 : thruM xs { b with cache := [] } d p wb = r2 at a2
          obtain ⟨rb2, pa, pf⟩ := r2
          exact says_l xs m cm' b cb A A5 n c n5 c5 d p wb rb2 pa pf w hx hl hl5 hcm hb1 hb2 hin hr2 a1 h1 a2 h2
        · have h1 := thE_b (d := d) (p := p) hcm hb1
          have h2 := thE_b (d := d) (p := p) hcm hb2
          exact says_b xs m cm' b cb A A5 n c n5 c5 d p wb w hx hl hl5 hcm hb1 hb2 hin (thA_no (wb := wb) h1 hb1) h1 (thA_no (wb := wb) h2 hb2) h2
    · by_cases hb1 : ckB b = 0
      · have hb2 := ck_none hb1
        have h1 := thE_w hcm hb1 hin
        have h2 := thE_w hcm hb2 hin
        exact says_who xs m cm' b cb A A5 n c n5 c5 d p wb w hx hl hl5 hcm hb1 hb2 hin (thA_no (wb := wb) h1 (by decide)) h1 (thA_no (wb := wb) h2 (by decide)) h2
      · by_cases hb2 : ckB { b with cache := [] } = 0
        · have h1 := thE_b (d := d) (p := p) hcm hb1
          have h2 := thE_w hcm hb2 hin
          exact says_ln xs m cm' b cb A A5 n c n5 c5 d p wb w hx hl hl5 hcm hb1 hb2 hin (thA_no (wb := wb) h1 hb1) h1 (thA_no (wb := wb) h2 (by decide)) h2
        · have h1 := thE_b (d := d) (p := p) hcm hb1
          have h2 := thE_b (d := d) (p := p) hcm hb2
          exact says_bn xs m cm' b cb A A5 n c n5 c5 d p wb w hx hl hl5 hcm hb1 hb2 hin (thA_no (wb := wb) h1 hb1) h1 (thA_no (wb := wb) h2 hb2) h2
  · have h1 := thE_c (b := b) (d := d) (p := p) hcm
    have h2 := thE_c (b := { b with cache := [] }) (d := d) (p := p) hcm
    by_cases hin : inD d p
    · exact says_c xs m nm cm' b cb A A5 n c n5 c5 d p wb w hx hl hl5 hcm hin (thA_no (wb := wb) h1 hcm) h1 (thA_no (wb := wb) h2 hcm) h2
    · exact says_cn xs m nm cm' b cb A A5 n c n5 c5 d p wb w hx hl hl5 hcm hin (thA_no (wb := wb) h1 hcm) h1 (thA_no (wb := wb) h2 hcm) h2
end

section
open Go.ChangeShapes Go.WideShapes Go.ChangeAt

set_option maxRecDepth 100000 in
theorem bridgeSays_lifted (os : Os) (started : os.Started) (H : Type) (enc : TypeId × Value → H) :
    ReturnsInHanded {} Try.checked os 10 .any (Rows.bridgeSaysSpec.pre6 enc Try.prog Try.f10 Rows.bridgeSaysRow.domain false) (Rows.bridgeSaysSpec.post enc Try.prog Try.f10 false true false false) := by
  refine returnsInHanded_of_change (C := Try.checked) Try.own started (by kernel_rfl) Try.func10
    (ChangeSpec.witness6 (enc := enc) (C := Try.checked) false ⟨#[], #[.agg #[.slice none 0 0], .agg #[.int .i64 0, .int .i64 0, .slice none 0 0, .int .i64 0, .int .i64 0, .int .i64 0, .bool false, .int .i64 0, .int .i64 0, .int .i64 0, .int .i64 0, .bool false], .int .i64 0, .int .i64 0, .bool false, .agg #[.int .i64 0, .int .i64 0, .slice none 0 0, .int .i64 0, .int .i64 0, .int .i64 0, .bool false, .int .i64 0, .int .i64 0, .int .i64 0, .int .i64 0, .bool false]], []⟩ 8 (by kernel_rfl) (by kernel_rfl) (by kernel_rfl) (by kernel_rfl)) ?_
  intro W base args ds gs before hval0 hW hcnd _
  have hval : ∀ (j : Nat) t v, Try.f10.params[j]? = some t → args[j]? = some v → Value.okWide Try.prog W .any base t v := hval0
  have hW' := hW
  obtain ⟨p, q, hA0, hV, hps, hfz, hnd⟩ := hW
  have hA : DataW.TrodAll enc Try.prog W 0 (fun _ => true) true Try.f10.params.toList args.toList ds p := hA0
  rw [Try.params10] at hA hval
  clear hA0 hval0 hcnd
  obtain ⟨v0, vs0, d0, ds0, p0, q0, hargs, rfl, hp0, h0, r0⟩ := trodAll_cons hA
  obtain ⟨v1, vs1, d1, ds1, p1, q1, rfl, rfl, hp1, h1, r1⟩ := trodAll_cons r0
  obtain ⟨v2, vs2, d2, ds2, p2, q2, rfl, rfl, hp2, h2, r2⟩ := trodAll_cons r1
  obtain ⟨v3, vs3, d3, ds3, p3, q3, rfl, rfl, hp3, h3, r3⟩ := trodAll_cons r2
  obtain ⟨v4, vs4, d4, ds4, p4, q4, rfl, rfl, hp4, h4, r4⟩ := trodAll_cons r3
  obtain ⟨v5, vs5, d5, ds5, p5, q5, rfl, rfl, hp5, h5, r5⟩ := trodAll_cons r4
  obtain ⟨rfl, rfl, _⟩ := trodAll_nil r5
  obtain rfl : args = #[v0, v1, v2, v3, v4, v5] := by cases args; simp_all
  obtain ⟨rfl, rfl⟩ := trodVars_none hV
  obtain ⟨m, nm, cm', xs, rfl, hI⟩ := open_mem (hval 0 24 v0 rfl rfl) h0
  obtain ⟨b, A, n, c, rfl, hL⟩ := open_bridge (hval 1 55 v1 rfl rfl) h1
  obtain ⟨d, rfl, _, _, _⟩ := open_int Try.underlying3 (hval 2 3 v2 rfl rfl) h2
  obtain ⟨p, rfl, _, _, _⟩ := open_int Try.underlying3 (hval 3 3 v3 rfl rfl) h3
  obtain ⟨wb, rfl, _, _⟩ := open_bool Try.underlying4 (hval 4 4 v4 rfl rfl) h4
  obtain ⟨cb, A5, n5, c5, rfl, hL5⟩ := open_bridge (hval 5 55 v5 rfl rfl) h5
  refine (law_BridgeSays xs m nm cm' b cb A A5 n c n5 c5 d p wb W hI hL hL5).mono fun e W' ⟨he, hb⟩ => ?_
  subst he
  exact ⟨_, rfl, law_post Try.laidOut (by kernel_rfl) rfl Try.underlying4 rfl hW' rfl rfl rfl hb⟩

theorem bridgeSays_holds : Rows.BridgeSaysSaid :=
  OpenClaim.holds_of_wide 10 Try.f10 rfl rfl rfl rfl rfl rfl rfl ⟨rfl, rfl, rfl, rfl, rfl⟩ rfl rfl rfl rfl rfl (by kernel_rfl) Try.func10 (by kernel_rfl)
    (of_decide_eq_true (by kernel_rfl)) (by unfold Func.isWrapper; first | (rw [if_pos (by decide +kernel)]; kernel_rfl) | (rw [if_neg (by decide +kernel)]; exact ⟨rfl, rfl⟩))
    (fun os started H enc _ => bridgeSays_lifted os started H enc)
end
end Go.Proofs.Ytbopdijnojaaiab
