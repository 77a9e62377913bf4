/- Orders and faults as words: the walks of the document's OrderOf and FaultOf. No statement of the seat is proved here. -/
import Derived.Test.YtbopdijnojaaiadGreatZz
import Derived.Test.YtbopdijnojaaiadGreatWord
namespace Go.Proofs.YtbopdijnojaaiadGreat
set_option maxRecDepth 100000
set_option maxHeartbeats 1000000
open Go.RowKit
set_option linter.unusedSimpArgs false
set_option linter.unusedVariables false
section
theorem ordBad {k d p : Int} (h : ¬ OrdR k d p) : inB k 0 3 = false ∨ (inB k 0 3 = true ∧ inB d 0 7 = false) ∨ (inB k 0 3 = true ∧ inB d 0 7 = true ∧ inB p 0 63 = false) := by
 unfold OrdR at h; unfold inB
 exact z213
theorem fltBad {k d p : Int} (h : ¬ FltR k d p) : inB k 1 5 = false ∨ (inB k 1 5 = true ∧ inB d 0 7 = false) ∨ (inB k 1 5 = true ∧ inB d 0 7 = true ∧ inB p 0 63 = false) := by
 unfold FltR at h; unfold inB
 exact z213
theorem Xj1 (k d p : Int) (w : World) : Calls Tryz.prog 84 #[.agg #[.int .i64 k, .int .i64 d, .int .i64 p]] w fun e w' => e = .returned (.tuple #[.int .i64 (ordW k d p), .int .i64 (ordE k d p)]) ∧ Below w.heap.size w w' := by
 refine z148 ?_; intro HB
 by_cases hR : OrdR k d p
 · have HR := Zh hR
   unfold OrdR at hR
   obtain ⟨h1, h2, h3, h4, h5, h6⟩ := hR
   have i1 := Xb8 (n := k) (a := 0) (b := 3) (by omega)
   have i2 := Xb8 (n := d) (a := 0) (b := 7) (by omega)
   have i3 := Xb8 (n := p) (a := 0) (b := 63) (by omega)
   by_cases hF : OrdF k d p
   · have HF := Zh hF
     have E := (Xn1 (Xn4 HR.out hF)).symm
     clear hF
     have E' := Zh E; clear E
     go_enter Tryz.func84, Tryz.ntmps84
     go_wp2_with (go_at_call 38; refine (Xa6 _ _ _ _).mono ?_; rintro e w' ⟨rfl, rfl⟩)
     all_goals go_ret2
     all_goals go_tidy
     all_goals simp only [Array.getD_eq_getD_getElem?, List.getElem?_toArray, List.getElem?_cons_zero, List.getElem?_cons_succ, Option.getD_some]
     all_goals first
       | (with_reducible exact ⟨Xb5 ((by omega : _ = k + 4 * d + 32 * p).trans E'.out) (Xn4 HR.out HF.out).symm, HB.out _⟩)
       | (exfalso; have F := HF.out; unfold OrdF at F; omega)
   · have HF := Zh hF; clear hF
     go_enter Tryz.func84, Tryz.ntmps84
     go_wp2_with (go_at_call 38; refine (Xa6 _ _ _ _).mono ?_; rintro e w' ⟨rfl, rfl⟩)
     all_goals go_ret2
     all_goals go_tidy
     all_goals simp only [Array.getD_eq_getD_getElem?, List.getElem?_toArray, List.getElem?_cons_zero, List.getElem?_cons_succ, Option.getD_some]
     all_goals first
       | (with_reducible exact ⟨Xb5 (Xn0 (Xn3 HR.out HF.out) (by decide)).symm (Xn3 HR.out HF.out).symm, HB.out _⟩)
       | (exfalso; refine HF.out ⟨fun _ => ?_, fun _ => ?_⟩ <;> omega)
 · have HR := Zh hR
   have hb := ordBad hR
   clear hR
   rcases hb with h1 | ⟨h1, h2⟩ | ⟨h1, h2, h3⟩
   all_goals
     go_enter Tryz.func84, Tryz.ntmps84
     go_wp2_with (go_at_call 38; refine (Xa6 _ _ _ _).mono ?_; rintro e w' ⟨rfl, rfl⟩)
     go_ret2
     exact ⟨Xb5 (Xn0 (Xn2 HR.out) (by decide)).symm (Xn2 HR.out).symm, HB.out _⟩
theorem Xj3 (c d p : Int) (r : Bool) (w : World) : Calls Tryz.prog 88 #[.agg #[.int .i64 c, .int .i64 d, .int .i64 p, .bool r]] w fun e w' => e = .returned (.tuple #[.int .i64 (fltW c d p r), .int .i64 (fltE c d p)]) ∧ Below w.heap.size w w' := by
 refine z148 ?_; intro HB
 by_cases hR : FltR c d p
 · have HR := Zh hR
   unfold FltR at hR
   obtain ⟨h1, h2, h3, h4, h5, h6⟩ := hR
   have i1 := Xb8 (n := c) (a := 1) (b := 5) (by omega)
   have i2 := Xb8 (n := d) (a := 0) (b := 7) (by omega)
   have i3 := Xb8 (n := p) (a := 0) (b := 63) (by omega)
   cases r
   · have E := Zh (Xlw (r := false) (Xhl HR.out))
     exact z188
   · have E := Zh (Xlw (r := true) (Xhl HR.out))
     exact z188
 · have HR := Zh hR
   have hb := fltBad hR
   clear hR
   rcases hb with h1 | ⟨h1, h2⟩ | ⟨h1, h2, h3⟩
   all_goals
     go_enter Tryz.func88, Tryz.ntmps88
     go_wp2_with (go_at_call 38; refine (Xa6 _ _ _ _).mono ?_; rintro e w' ⟨rfl, rfl⟩)
     go_ret2
     exact ⟨Xb5 (Xvx (Xoe HR.out) (by decide)).symm (Xoe HR.out).symm, HB.out _⟩
end
section
theorem Xic (v : Int) (w : World) : Calls Tryz.prog 61 #[.int .i64 v] w fun e w' => e = .returned (rdoV v) ∧ Below w.heap.size w w' := by
 refine z148 ?_; intro HB
 by_cases hR : 0 ≤ v ∧ v ≤ 65535
 · have HR := Zh hR
   have hin := Xb8 hR
   obtain ⟨h1, h2⟩ := hR
   go_enter Tryz.func61, Tryz.ntmps61
   go_wp2_with (go_at_call 38; refine (Xa6 _ _ _ _).mono ?_; rintro e w' ⟨rfl, rfl⟩)
   refine (Xj1 _ _ _ _).mono ?_
   refine z49 ?_; intro _ _ _ _ _ _ _ _ HB1
   by_cases hE : ordE (v % 4) (v / 4 % 8) (v / 32) = 0
   · have HE := Zh hE
     have g1 : (ordE (v % 4) (v / 4 % 8) (v / 32) != 0) = false := by simp [hE]
     clear hE
     go_wp2
     refine bodyPost_ret (v := .tuple #[.agg #[.int .i64 (v % 4), .int .i64 (v / 4 % 8), .int .i64 (v / 32)], .int .i64 0]) ?_ rfl ⟨Xvk (Xvn HR.out HE.out), ?_⟩
     · simp (maxDischargeDepth := 8) [results, Tryz.results61, go_sem, *]
     exact z5
   · have HE := Zh hE
     have g2 : (ordE (v % 4) (v / 4 % 8) (v / 32) != 0) = true := by simp [hE]
     clear hE
     go_wp2
     refine bodyPost_ret (v := .tuple #[.agg #[.int .i64 0, .int .i64 0, .int .i64 0], .int .i64 3]) ?_ rfl ⟨Xny (Xvm HR.out HE.out) (by decide), ?_⟩
     · simp (maxDischargeDepth := 8) [results, Tryz.results61, go_sem, *]
     exact z5
 · have HR := Zh hR
   have hin := Xfx hR
   clear hR
   go_enter Tryz.func61, Tryz.ntmps61
   go_wp2_with (go_at_call 38; refine (Xa6 _ _ _ _).mono ?_; rintro e w' ⟨rfl, rfl⟩)
   all_goals refine bodyPost_ret (v := .tuple #[.agg #[.int .i64 0, .int .i64 0, .int .i64 0], .int .i64 2]) ?_ rfl ⟨Xny (Xvl HR.out) (by decide), HB.out _⟩
   all_goals simp [results, Tryz.results61, go_sem]
end
end Go.Proofs.YtbopdijnojaaiadGreat
