/- Entries and contexts as words: the walks of the document's EntryOf and ContextOf. No statement of the seat is proved here. -/
import Derived.Test.YtbopdijnojaaiadGreatZz
import Derived.Test.YtbopdijnojaaiadGreatEntryD
import Derived.Test.YtbopdijnojaaiadGreatEntryX
namespace Go.Proofs.YtbopdijnojaaiadGreat
set_option maxRecDepth 100000
set_option maxHeartbeats 4000000
open Go.RowKit
set_option linter.unusedSimpArgs false
set_option linter.unusedVariables false
attribute [local go_sem ↓] Go.wp_at_zero Go.wp_at_succ
theorem num6 (v : Int) (h : 0 ≤ v ∧ v ≤ 65535) : numL [v / 1024 % 2, v / 2048 % 2, v / 4096 % 2, v / 8192 % 2, v / 16384 % 2, v / 32768 % 2] = v / 1024 := by
 simp only [numL]; omega
theorem num4 (v : Int) (h : 0 ≤ v ∧ v ≤ 65535) : numL [v / 16 % 2, v / 32 % 2, v / 64 % 2, v / 128 % 2, v / 256 % 2, v / 512 % 2] = v / 16 % 64 := by
 simp only [numL]; omega
theorem Xjc (a b c d e f : Int) : ∀ x ∈ [a % 2, b % 2, c % 2, d % 2, e % 2, f % 2], 0 ≤ x ∧ x ≤ 1 := by
 intro x hx; simp at hx; rcases hx with rfl | rfl | rfl | rfl | rfl | rfl <;> omega
theorem Xhx {w : World} {B g off n : Nat} {xs : List Int} (hl : xs.length = n) (hn : n ≤ 9223372036854775807) (hg : g < B) (h : ∀ k, k < n → w.cell? ⟨g, off + k, none⟩ = (xs.map (Value.int .i64))[k]?) : Ints w B (some ⟨g, off, none⟩) n xs :=
  ⟨hl, by unfold maxLen; omega, fun _ => ⟨g, off, rfl, hg, fun k v hv => by
    have hk : k < n := by have := (List.getElem?_eq_some_iff.1 hv).1; simp at this; omega
    rw [h k hk, hv]⟩⟩
theorem Xkl (W : World) (o : Array Value) (T : TypeId) (n k : Nat) {v : Value} (h : W.heap.size = n) (hv : o[k]? = some v) : (W.alloc (.cells o T)).drew.cell? ⟨n, k, none⟩ = some v := by
 subst h
 show (W.alloc (.cells o T)).cell? _ = _
 simp [go_sem, hv]
theorem Xr3 {w : World} {B g : Nat} {x0 x1 x2 x3 x4 x5 : Int} (hg : g < B) (h0 : w.cell? ⟨g, 4, none⟩ = some (.int .i64 x0)) (h1 : w.cell? ⟨g, 5, none⟩ = some (.int .i64 x1)) (h2 : w.cell? ⟨g, 6, none⟩ = some (.int .i64 x2)) (h3 : w.cell? ⟨g, 7, none⟩ = some (.int .i64 x3)) (h4 : w.cell? ⟨g, 8, none⟩ = some (.int .i64 x4)) (h5 : w.cell? ⟨g, 9, none⟩ = some (.int .i64 x5)) :
    Ints w B (some ⟨g, 4, none⟩) 6 [x0, x1, x2, x3, x4, x5] :=
  Xhx rfl (by omega) hg (fun k hk => by
    match k, hk with
    | 0, _ => exact h0
    | 1, _ => exact h1
    | 2, _ => exact h2
    | 3, _ => exact h3
    | 4, _ => exact h4
    | 5, _ => exact h5)
theorem Xxn {v : Int} (h : 0 ≤ v) (hb : Xit v = true) : 0 < v / 1024 ∨ v / 2 % 2 < v / 4 % 2 ∨ v / 8 % 2 < v / 2 % 2 := by
 unfold Xit at hb
 rw [Xnl, Xp6, Xp5] at hb
 simp only [Bool.or_eq_true, Bool.and_eq_true, bne_iff_ne, beq_iff_eq, Bool.not_eq_true', beq_eq_false_iff_ne] at hb
 omega
theorem Xxo {v : Int} (h : 0 ≤ v) (hb : Xit v = false) : v / 1024 ≤ 0 ∧ v / 4 % 2 ≤ v / 2 % 2 ∧ v / 2 % 2 ≤ v / 8 % 2 := by
 unfold Xit at hb
 rw [Xnl, Xp6, Xp5] at hb
 simp only [Bool.or_eq_false_iff, Bool.and_eq_false_iff, bne_eq_false_iff_eq, beq_eq_false_iff_ne, Bool.not_eq_false', beq_iff_eq] at hb
 omega
theorem Xuv {v : Int} (h : enG v = true) : Ending.returned (.tuple #[.agg #[.bool true, .bool (v / 2 % 2 == 1), .bool (v / 4 % 2 == 1), .bool (v / 8 % 2 == 1), .int .i64 (v / 16 % 64)], .bool true]) = .returned (enV v) := by
 rw [← Xnl, ← Xp6, ← Xp5]; exact Xsq h (Xuw h)
theorem Xie (v : Int) (hR : 0 ≤ v ∧ v ≤ 65535) (h0 : v % 2 = 1) (hbad : Xit v = false) (w : World) : Calls Tryz.prog 100 #[.int .i64 v] w fun e w' => e = .returned (enV v) ∧ Below w.heap.size w w' := by
 refine z135 ?_; intro HR _ _ _
 have hn4 := num4 v hR
 have hG := Zh (show enG v = true by unfold enG; rw [hbad, Xhm hR, Xkn, h0]; rfl)
 obtain ⟨h1, h2⟩ := hR
 have ht0 : (v % 2 == 0) = false := by rw [beq_eq_false_iff_ne]; omega
 obtain ⟨g1, g2, g3⟩ := Xxo h1 hbad
 clear hbad h0
 go_enter Tryz.func100, Tryz.ntmps100
 go_wp2_with (go_at_call 38; refine (Xa6 _ _ _ _).mono ?_; rintro e w' ⟨rfl, rfl⟩)
 refine (Xcs _ HR.out _).mono ?_
 refine z2 ?_; intro w1 hb1 _ k1_0 _ q1_0
 revert hb1 k1_0 q1_0; refine_lift z93 ?_; intro _ _ HB1
 go_wp2_with fail
 refine z139 ?_
 go_wp2_with fail
 go_region_held3 (fun w' => w'.cell? ⟨w1.heap.size, 1, none⟩ = some (.int .i64 (v / 2 % 2)) ∧ w'.cell? ⟨w1.heap.size, 2, none⟩ = some (.int .i64 (v / 4 % 2)) ∧ w'.cell? ⟨w1.heap.size, 3, none⟩ = some (.int .i64 (v / 8 % 2)) ∧ w'.cell? ⟨w1.heap.size, 4, none⟩ = some (.int .i64 (v / 16 % 2)) ∧ w'.cell? ⟨w1.heap.size, 5, none⟩ = some (.int .i64 (v / 32 % 2)) ∧ w'.cell? ⟨w1.heap.size, 6, none⟩ = some (.int .i64 (v / 64 % 2)) ∧ w'.cell? ⟨w1.heap.size, 7, none⟩ = some (.int .i64 (v / 128 % 2)) ∧ w'.cell? ⟨w1.heap.size, 8, none⟩ = some (.int .i64 (v / 256 % 2)) ∧ w'.cell? ⟨w1.heap.size, 9, none⟩ = some (.int .i64 (v / 512 % 2))) (first | (refine ⟨?_, ?_, ?_, ?_, ?_, ?_, ?_, ?_, ?_⟩ <;> exact Xkl _ _ _ _ _ (by simp) rfl) | go_keep)
   (first | (go_at_call 99; refine (Xcg _ _ _ [v / 16 % 2, v / 32 % 2, v / 64 % 2, v / 128 % 2, v / 256 % 2, v / 512 % 2] _ ?_ (Xjc _ _ _ _ _ _) (by omega)).mono ?_; (exact Xr3 (by simp) (by simp [*]) (by simp [*]) (by simp [*]) (by simp [*]) (by simp [*]) (by simp [*])); rintro e w' ⟨rfl, rfl⟩))
 go_wp2
 refine bodyPost_ret (v := .tuple #[.agg #[.bool true, .bool (v / 2 % 2 == 1), .bool (v / 4 % 2 == 1), .bool (v / 8 % 2 == 1), .int .i64 (v / 16 % 64)], .bool true]) ?_ rfl ⟨Xuv hG.out, ?_⟩
 · simp (maxDischargeDepth := 8) [results, Tryz.results100, go_sem, *]
 exact z5
theorem Xif (v : Int) (hR : 0 ≤ v ∧ v ≤ 65535) (h0 : v % 2 = 1) (hbad : Xit v = true) (w : World) : Calls Tryz.prog 100 #[.int .i64 v] w fun e w' => e = .returned (enV v) ∧ Below w.heap.size w w' := by
 refine z135 ?_; intro HR _ _ _
 have hG := Zh (show enG v = false by unfold enG; rw [hbad]; simp)
 have hK := Zh (show enK v = false by unfold enK; rw [hbad, Xkn, h0]; simp)
 obtain ⟨h1, h2⟩ := hR
 have ht0 : (v % 2 == 0) = false := by rw [beq_eq_false_iff_ne]; omega
 have hb : 0 < v / 1024 ∨ (v / 1024 ≤ 0 ∧ v / 2 % 2 < v / 4 % 2) ∨ (v / 1024 ≤ 0 ∧ v / 4 % 2 ≤ v / 2 % 2 ∧ v / 8 % 2 < v / 2 % 2) := by have := Xxn h1 hbad; omega
 clear hbad h0
 rcases hb with hb | ⟨hb, hb2⟩ | ⟨hb, hb2, hb3⟩
 exact z178
 exact z178
 · go_enter Tryz.func100, Tryz.ntmps100
   go_wp2_with (go_at_call 38; refine (Xa6 _ _ _ _).mono ?_; rintro e w' ⟨rfl, rfl⟩)
   refine (Xcs _ HR.out _).mono ?_
   refine z2 ?_; intro _ hb1 _ k1_0 _ q1_0
   exact z52
theorem Xf6 (v : Int) (w : World) : Calls Tryz.prog 100 #[.int .i64 v] w fun e w' => e = .returned (enV v) ∧ Below w.heap.size w w' := by
  by_cases hR : 0 ≤ v ∧ v ≤ 65535
  · by_cases h0 : v % 2 = 1
    · cases hbad : Xit v
      · exact Xie v hR h0 hbad w
      · exact Xif v hR h0 hbad w
    · have HR := Zh hR
      have hin := Xb8 hR
      have hd : digV v = .agg #[.int .i64 (v % 2), .int .i64 (v / 2 % 2), .int .i64 (v / 4 % 2), .int .i64 (v / 8 % 2), .int .i64 (v / 16 % 2), .int .i64 (v / 32 % 2), .int .i64 (v / 64 % 2), .int .i64 (v / 128 % 2), .int .i64 (v / 256 % 2), .int .i64 (v / 512 % 2), .int .i64 (v / 1024 % 2), .int .i64 (v / 2048 % 2), .int .i64 (v / 4096 % 2), .int .i64 (v / 8192 % 2), .int .i64 (v / 16384 % 2), .int .i64 (v / 32768 % 2)] := rfl
      have hG := Zh (show enG v = false by unfold enG; rw [Xkn, show (v % 2 == 1) = false from by rw [beq_eq_false_iff_ne]; exact h0]; simp)
      have hK := Zh (show enK v = true by unfold enK; rw [Xhm hR, Xkn, show (v % 2 == 1) = false from by rw [beq_eq_false_iff_ne]; exact h0]; simp)
      have ht0 : (v % 2 == 0) = true := by rw [beq_iff_eq]; omega
      obtain ⟨h1, h2⟩ := hR
      clear h0
      go_enter Tryz.func100, Tryz.ntmps100
      go_wp2_with (go_at_call 38; refine (Xa6 _ _ _ _).mono ?_; rintro e w' ⟨rfl, rfl⟩)
      refine (Xcs _ HR.out _).mono ?_
      rintro e w1 ⟨rfl, hb1⟩
      have hz1 := hb1.size
      (try simp only [World.size_alloc, World.size_setCell, World.size_drew] at hz1)
      have k1_0 := fun o => (Xab hb1).1 (w.heap.size) o y0
      have l1_0 : (w.heap.size) < w1.heap.size := (by omega)
      have q1_0 := fun o => (Xab hb1).2 (w.heap.size) o y0
      simp (maxDischargeDepth := 6) [go_sem, *] at k1_0 q1_0
      have HB1 := Zh hb1
      clear hb1
      go_wp2
      refine bodyPost_ret (v := .tuple #[.agg #[.bool false, .bool false, .bool false, .bool false, .int .i64 0], .bool true]) ?_ rfl ⟨Xjq hG.out true hK.out, ?_⟩
      · simp (maxDischargeDepth := 8) [results, Tryz.results100, go_sem, *]
      · (repeat (first | (with_reducible exact Below.refl _ _) | (with_reducible refine Below.drew ?_) | (with_reducible refine Xai ?_ _) | ((with_reducible refine Below.setCell ?_ ?_ _); rotate_left; exact y0) | ((with_reducible refine Below.alloc ?_ ?_ _); rotate_left; exact y0) | ((with_reducible refine Below.trans ?_ (HB1.out.mono ?_)); rotate_left; exact y0)))
  · have hin := Xfx hR
    have hG := Zh (show enG v = false by unfold enG; rw [Xhn hR]; simp)
    have hK := Zh (show enK v = false by unfold enK; rw [Xhn hR]; simp)
    have HB := Zh (Xa3 w)
    clear hR
    go_enter Tryz.func100, Tryz.ntmps100
    go_wp2_with (go_at_call 38; refine (Xa6 _ _ _ _).mono ?_; rintro e w' ⟨rfl, rfl⟩)
    refine bodyPost_ret (v := .tuple #[.agg #[.bool false, .bool false, .bool false, .bool false, .int .i64 0], .bool false]) ?_ rfl ⟨Xjq hG.out false hK.out, HB.out _⟩
    simp [results, Tryz.results100, go_sem]
end Go.Proofs.YtbopdijnojaaiadGreat
