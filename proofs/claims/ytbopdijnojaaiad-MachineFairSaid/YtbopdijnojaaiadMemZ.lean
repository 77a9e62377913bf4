/- The laws' own 'with': words at places, of noughts. No statement of the seat is proved here. -/
import Derived.Test.YtbopdijnojaaiadMem
import Derived.Deep.DeepCutAuto
import Derived.Test.YtbopdijnojaaiadBase
import Derived.Deep.RegionHeld3
import Derived.Deep.DrawnRows
namespace Go.Proofs.Ytbopdijnojaaiad
open Go.RowKit
set_option linter.unusedSimpArgs false
set_option linter.unusedVariables false

section
def zeros512 : Array Value := Array.replicate 512 (.int .i64 0)
theorem make512 : ∀ w : World, (Instr.makeSlice 22 (.int .i64 512) (.int .i64 512)).run Try.prog w = .ok (.slice (some ⟨w.heap.size, 0, none⟩) 512 512) (w.alloc (.cells zeros512 3)) := fun _ => by kernel_rfl
theorem own_zeros (w : World) : OwnI w.heap.size (w.alloc (.cells zeros512 3)) (some ⟨w.heap.size, 0, none⟩) 512 512 (List.replicate 512 0) :=
  ⟨List.length_replicate, by rw [List.length_map, List.length_replicate], Or.inr ⟨w.heap.size, 512, zeros512, rfl, Nat.le_refl _, heap_alloc_new w _, Nat.le_refl _, by unfold maxLen; omega, by unfold zeros512; rw [Array.size_replicate],
    by unfold zeros512; rw [Array.toList_replicate, List.map_replicate, List.take_of_length_le (by rw [List.length_replicate]; omega)]⟩⟩
end

section
attribute [local go_sem ↓] Go.wp_at_zero Go.wp_at_succ

/-- every pair is a place and a word. -/
def places : List Int → Prop
  | a :: _ :: r => (0 ≤ a ∧ a < 512) ∧ places r
  | _ => True
theorem drop2 {ps : List Int} {j : Nat} {a b : Int} (ha : ps[j]? = some a) (hb : ps[j + 1]? = some b) : ps.drop j = a :: b :: ps.drop (j + 2) := by
  have h1 : j < ps.length := (List.getElem?_eq_some_iff.1 ha).1
  have h2 : j + 1 < ps.length := (List.getElem?_eq_some_iff.1 hb).1
  rw [List.drop_eq_getElem_cons h1, List.drop_eq_getElem_cons h2, (List.getElem?_eq_some_iff.1 ha).2, (List.getElem?_eq_some_iff.1 hb).2]
theorem withL_short {ps xs : List Int} {j : Nat} (h : ps.length ≤ j + 1) : withL xs (ps.drop j) = xs := by
  match hd : ps.drop j with
  | [] => rfl
  | [_] => rfl
  | a :: b :: r => have := congrArg List.length hd; simp at this; omega

set_option maxRecDepth 100000 in
set_option maxHeartbeats 4000000 in
theorem law_with (A : Option Addr) (n c : Nat) (ps : List Int) (w : World) (hx : Ints w w.heap.size A n ps) (hn : n ≤ 100) (hp : places ps) :
    Calls Try.prog 31 #[.slice A n c] w fun e w' => ∃ A' c', e = .returned (.agg #[.slice A' 512 c']) ∧ OwnI w.heap.size w' A' 512 c' (withL (List.replicate 512 0) ps) ∧ Below w.heap.size w w' := by
  have hmk := make512
  have HX := Lib.hid hx; clear hx
  have HP := Lib.hid hp; clear hp
  have HO := Lib.hid (own_zeros (w.alloc (.cells #[.slice none 0 0] 24)))
  simp only [World.size_alloc] at HO
  go_enter Try.func31, Try.ntmps31
  go_wp2
  go_loopw [4] (fun i wr => ∃ k : Nat, k ≤ 102 ∧ i = .int .i64 k ∧
      Hid (∃ ys, OwnI (w.heap.size + 1) wr (some ⟨w.heap.size + 1, 0, none⟩) 512 512 ys ∧ withL ys (ps.drop k) = withL (List.replicate 512 0) ps ∧ places (ps.drop k)) ∧
      Hid (CutW w [(w.heap.size, [.slice none 0 0]), (w.heap.size + 1 + 1, [.slice (some ⟨w.heap.size + 1, 0, none⟩) 512 512])] wr ∧ (∀ o, wr.frozen? ⟨w.heap.size, o, none⟩ = false)))
    (fun i _ => 102 - (intOf i).toNat)
  case atStart =>
    refine ⟨0, by omega, rfl, ⟨_, (HO.out.alloc _), rfl, HP.out⟩, ⟨⟨by (repeat (first | (with_reducible exact Below.refl _ _) | (with_reducible refine Below.drew ?_) | (with_reducible refine bdrewN ?_ _) | ((with_reducible refine Below.setCell ?_ ?_ _); rotate_left; exact (by first | (simp; done) | (simp; omega) | omega)) | ((with_reducible refine Below.alloc ?_ ?_ _); rotate_left; exact (by first | (simp; done) | (simp; omega) | omega)))), ⟨by simp; omega, fun o => by simp [go_sem]⟩, ⟨by simp, fun o => by simp [go_sem]⟩, trivial⟩, fun o => by simp [go_sem]⟩⟩
  case round =>
    obtain ⟨k, hk, rfl, hown, hcut⟩ := hrel
    have hw1 : IntKind.i64.wrap ((k : Int) + 1) = (k : Int) + 1 := IntWalk.i64_in _ (by omega)
    obtain ⟨⟨hbl, ⟨l1, c1⟩, ⟨l2, c2⟩, _⟩, f1⟩ := hcut.out
    have HBL := Lib.hid hbl
    clear hbl hcut
    obtain ⟨ys, ho, hw, hpl⟩ := hown.out
    have HW := Lib.hid hw
    have HPL := Lib.hid hpl
    have HOO := Lib.hid ho
    clear hw hpl hown
    by_cases hlt : k + 1 < n
    · obtain ⟨a, ha⟩ := some_of_lt ps (k := k) (by rw [HX.out.len]; omega)
      obtain ⟨b, hb⟩ := some_of_lt ps (k := k + 1) (by rw [HX.out.len]; omega)
      have HD := Lib.hid (drop2 ha hb)
      obtain ⟨q, off, rfl, hq, hc⟩ := HX.out.at_ (by omega)
      have hb' := Below.cell (p := ⟨q, off + k, none⟩) HBL.out hq
      have hb2 := Below.cell (p := ⟨q, off + (k + 1), none⟩) HBL.out hq
      rw [hc _ _ ha] at hb'
      rw [hc _ _ hb] at hb2
      have hpl := HPL.out
      rw [HD.out] at hpl
      obtain ⟨⟨ha0, ha1⟩, hp2⟩ := hpl
      have HP2 := Lib.hid hp2
      obtain ⟨g, hg0, hg1, hg2, hgc, hgf, hgs⟩ := own_cells ho (by decide)
      simp only [Option.some.injEq, Addr.mk.injEq, and_true] at hg0
      subst hg0
      have HGS := Lib.hid (hgs a.toNat b (by omega))
      obtain ⟨x, hx⟩ := some_of_lt ys (k := a.toNat) (by rw [ho.1]; omega)
      have hcx := hgc _ _ hx
      have c2' := c2 0
      simp at c2'
      have hne : ¬ q = w.heap.size + 1 := by omega
      have hne2 : ¬ w.heap.size + 1 = q := by omega
      have i0 : (0 : Int) ≤ (k : Int) := by omega
      have i1 : (k : Int) < (n : Int) := by omega
      have i2 : (0 : Int) ≤ (k : Int) + 1 := by omega
      have i3 : (k : Int) + 1 < (n : Int) := by omega
      have i4 : ((k : Int) + 1).toNat = k + 1 := by omega
      clear hc ha hb hp2 hgc hgs hx ho
      go_wp2
      go_region_held3 (fun w' => w'.cell? ⟨q, off + k, none⟩ = some (.int .i64 a) ∧ w'.cell? ⟨q, off + (k + 1), none⟩ = some (.int .i64 b) ∧ w'.cell? ⟨w.heap.size + 1 + 1, 0, none⟩ = some (.slice (some ⟨w.heap.size + 1, 0, none⟩) 512 512)) (go_keep) (fail)
      clear hw1 i4
      go_wp2
      go_roundw
      case rel =>
        refine ⟨k + 2, by omega, by go_num, ⟨_, HGS.out, ?_, HP2.out⟩, ⟨⟨?_, ⟨by simp; omega, fun o => ?_⟩, ⟨by simp; omega, fun o => ?_⟩, trivial⟩, fun o => ?_⟩⟩
        · rw [← HW.out, HD.out, withL]
        · (repeat (first | (with_reducible exact Below.refl _ _) | (with_reducible refine Below.drew ?_) | (with_reducible refine bdrewN ?_ _) | ((with_reducible refine Below.setCell ?_ ?_ _); rotate_left; exact (by first | (simp; done) | (simp; omega) | omega)) | ((with_reducible refine Below.alloc ?_ ?_ _); rotate_left; exact (by first | (simp; done) | (simp; omega) | omega))))
          exact HBL.out
        · show (wr.setCell _ _).cell? _ = _
          rw [World.cell?_setCell_other _ _ _ _ (by simp)]; exact c1 o
        · show (wr.setCell _ _).cell? _ = _
          rw [World.cell?_setCell_other _ _ _ _ (by simp)]; exact c2 o
        · show (wr.setCell _ _).frozen? _ = _
          rw [World.frozen?_setCell]; exact f1 o
      case measure => simp [intOf]; omega
    · have HS := Lib.hid (withL_short (xs := ys) (show ps.length ≤ k + 1 by rw [HX.out.len]; omega))
      have c1' := c1 0
      have c2' := c2 0
      clear hw1
      go_wp2
      refine bodyPost_ret (v := .agg #[.slice (some ⟨w.heap.size + 1, 0, none⟩) 512 512]) ?_ rfl ⟨_, _, rfl, ?_, ?_⟩
      · simp (maxDischargeDepth := 8) [results, Try.results31, go_sem, *]
      · rw [← HW.out, HS.out]; exact (HOO.out.set (by simp) _).low (by omega)
      · (repeat (first | (with_reducible exact Below.refl _ _) | (with_reducible refine Below.drew ?_) | (with_reducible refine bdrewN ?_ _) | ((with_reducible refine Below.setCell ?_ ?_ _); rotate_left; exact (by first | (simp; done) | (simp; omega) | omega)) | ((with_reducible refine Below.alloc ?_ ?_ _); rotate_left; exact (by first | (simp; done) | (simp; omega) | omega))))
        exact HBL.out
end
end Go.Proofs.Ytbopdijnojaaiad
