/- Each constant has its value: the closed sentence Names returns true. No condition. -/
import Derived.Test.YtbopdijnojaaiaaOpen
import Derived.Test.YtbopdijnojaaiaaSlices
namespace Go.Proofs.Ytbopdijnojaaiaa
open Go.RowKit
set_option linter.unusedSimpArgs false
set_option linter.unusedVariables false
open Go.ChangeShapes Go.WideShapes Go.ChangeAt

def namesL : List Int := [512, 8, 64, 65535, 8, 6, 8, 20, 8, 63, 120, 1000]
def namesK : List Int := [0, 1, 2, 3, 4, 5, 0, 1, 2, 0, 1, 2, 3, 0, 1, 2, 3, 4, 5, 6, 7, 8]
def namesR : List Int := [0, 1, 2, 3, 4, 5, 6, 7, 8, 9, 1, 2, 3, 4]
set_option maxRecDepth 100000 in
set_option maxHeartbeats 1000000 in
theorem law_Names (w : World) : Calls Try.prog 3 #[] w fun e w' => e = .returned (.bool true) ∧ Below w.heap.size w w' := by
  have e1 : eqI namesL namesL = true := by decide
  have e2 : eqI namesK namesK = true := by decide
  have e3 : eqI namesR namesR = true := by decide
  go_enter Try.func3, Try.ntmps3
  go_wp2_with fail
  go_loop [10, 2, 3] (fun i _ _ => ∃ k : Int, 0 ≤ k ∧ k ≤ 7 ∧ i = .int .i64 k) (fun i _ _ => 7 - (intOf i).toNat)
  case atStart => exact ⟨0, by omega, by omega, rfl⟩
  case round =>
    obtain ⟨k, h0, hk, rfl⟩ := hrel
    by_cases hlt : k < 7
    · rcases (by omega : k = 0 ∨ k = 1 ∨ k = 2 ∨ k = 3 ∨ k = 4 ∨ k = 5 ∨ k = 6) with rfl | rfl | rfl | rfl | rfl | rfl | rfl
      all_goals
        clear h0 hk hlt
        go_wp2
        go_round
        case rel => exact ⟨_, by omega, by omega, rfl⟩
        case measure => simp [intOf]
    · go_wp2_with fail
      refine (sl_Equal _ _ _ _ _ _ namesL namesL _ (Ints.of_cells rfl (by decide) (by simp) ?_) (Ints.of_cells rfl (by decide) (by simp) ?_)).mono ?_
      · intro k; simp [go_sem, namesL]
      · intro k; simp [go_sem, namesL]
      rintro e w1 ⟨rfl, hb1⟩
      have hz1 := hb1.size
      (try simp only [World.size_alloc, World.size_setCell, World.size_drew] at hz1)
      have k1_0 := fun o => (bcell hb1).1 (w.heap.size + 1 + 1) o (by first | (simp; done) | (simp; omega) | omega)
      have l1_0 : (w.heap.size + 1 + 1) < w1.heap.size := (by omega)
      have q1_0 := fun o => (bcell hb1).2 (w.heap.size + 1 + 1) o (by first | (simp; done) | (simp; omega) | omega)
      have k1_1 := fun o => (bcell hb1).1 (w.heap.size + 1 + 1 + 1) o (by first | (simp; done) | (simp; omega) | omega)
      have l1_1 : (w.heap.size + 1 + 1 + 1) < w1.heap.size := (by omega)
      have q1_1 := fun o => (bcell hb1).2 (w.heap.size + 1 + 1 + 1) o (by first | (simp; done) | (simp; omega) | omega)
      simp (maxDischargeDepth := 6) [go_sem, *] at k1_0 q1_0 k1_1 q1_1
      have HB1 := Lib.hid hb1
      clear hb1
      go_wp2_with fail
      refine (sl_Equal _ _ _ _ _ _ namesK namesK _ (Ints.of_cells rfl (by decide) (by simp; omega) ?_) (Ints.of_cells rfl (by decide) (by simp) ?_)).mono ?_
      · intro k; simp [go_sem, namesK, *]
      · intro k; simp [go_sem, namesK]
      rintro e w2 ⟨rfl, hb2⟩
      have hz2 := hb2.size
      (try simp only [World.size_alloc, World.size_setCell, World.size_drew] at hz2)
      have k2_0 := fun o => (bcell hb2).1 (w.heap.size + 1 + 1 + 1) o (by first | (simp; done) | (simp; omega) | omega)
      have l2_0 : (w.heap.size + 1 + 1 + 1) < w2.heap.size := (by omega)
      have q2_0 := fun o => (bcell hb2).2 (w.heap.size + 1 + 1 + 1) o (by first | (simp; done) | (simp; omega) | omega)
      simp (maxDischargeDepth := 6) [go_sem, *] at k2_0 q2_0
      have HB2 := Lib.hid hb2
      clear hb2
      go_wp2_with fail
      refine (sl_Equal _ _ _ _ _ _ namesR namesR _ (Ints.of_cells rfl (by decide) (by simp; omega) ?_) (Ints.of_cells rfl (by decide) (by simp) ?_)).mono ?_
      · intro k; simp [go_sem, namesR, *]
      · intro k; simp [go_sem, namesR]
      rintro e w3 ⟨rfl, hb3⟩
      have hz3 := hb3.size
      (try simp only [World.size_alloc, World.size_setCell, World.size_drew] at hz3)
      have HB3 := Lib.hid hb3
      clear hb3
      go_wp2_with fail
      go_ret
      exact ⟨rfl, by (repeat (first | (with_reducible exact Below.refl _ _) | (with_reducible refine Below.drew ?_) | ((with_reducible refine Below.setCell ?_ ?_ _); rotate_left; exact (by first | (simp; done) | (simp; omega) | omega)) | ((with_reducible refine Below.alloc ?_ ?_ _); rotate_left; exact (by first | (simp; done) | (simp; omega) | omega)) | ((with_reducible refine Below.trans ?_ (HB1.out.mono ?_)); rotate_left; exact (by first | (simp; done) | (simp; omega) | omega)) | ((with_reducible refine Below.trans ?_ (HB2.out.mono ?_)); rotate_left; exact (by first | (simp; done) | (simp; omega) | omega)) | ((with_reducible refine Below.trans ?_ (HB3.out.mono ?_)); rotate_left; exact (by first | (simp; done) | (simp; omega) | omega))))⟩

set_option maxRecDepth 100000 in
theorem names_lifted (os : Os) (started : os.Started) (H : Type) (enc : TypeId × Value → H) :
    ReturnsInHanded {} Try.checked os 3 .any (Rows.namesSpec.pre6 enc Try.prog Try.f3 Rows.namesRow.domain false) (Rows.namesSpec.post enc Try.prog Try.f3 false true false false) := by
  refine returnsInHanded_of_change (C := Try.checked) Try.own started (by kernel_rfl) Try.func3
    (ChangeSpec.witness6 (enc := enc) (C := Try.checked) false ⟨#[], #[], []⟩ 8 (by kernel_rfl) (by kernel_rfl) (by kernel_rfl) (by kernel_rfl)) ?_
  intro W base args ds gs before hval0 hW hcnd _
  have hval : ∀ (j : Nat) t v, Try.f3.params[j]? = some t → args[j]? = some v → Value.okWide Try.prog W .any base t v := hval0
  have hW' := hW
  obtain ⟨p, q, hA0, hV, hps, hfz, hnd⟩ := hW
  have hA : DataW.TrodAll enc Try.prog W 0 (fun _ => true) true Try.f3.params.toList args.toList ds p := hA0
  rw [Try.params3] at hA hval
  clear hA0 hval0 hcnd
  obtain ⟨hargs, rfl, _⟩ := trodAll_nil hA
  obtain rfl : args = #[] := by cases args; simp_all
  obtain ⟨rfl, rfl⟩ := trodVars_none hV
  refine (law_Names W).mono fun e W' ⟨he, hb⟩ => ?_
  subst he
  exact ⟨_, rfl, law_post Try.laidOut (by kernel_rfl) rfl Try.underlying4 rfl hW' rfl rfl rfl hb⟩

theorem names_holds : Rows.NamesSaid :=
  OpenClaim.holds_of_wide 3 Try.f3 rfl rfl rfl rfl rfl rfl rfl ⟨rfl, rfl, rfl, rfl, rfl⟩ rfl rfl rfl rfl rfl (by kernel_rfl) Try.func3 (by kernel_rfl)
    (of_decide_eq_true (by kernel_rfl)) (by unfold Func.isWrapper; first | (rw [if_pos (by decide +kernel)]; kernel_rfl) | (rw [if_neg (by decide +kernel)]; exact ⟨rfl, rfl⟩))
    (fun os started H enc _ => names_lifted os started H enc)
end Go.Proofs.Ytbopdijnojaaiaa
