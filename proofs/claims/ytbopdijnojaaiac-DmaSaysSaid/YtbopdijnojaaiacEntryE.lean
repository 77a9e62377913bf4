/- Entries and contexts as words: the walks of the document's EntryOf and ContextOf. No statement of the seat is proved here. -/
import Derived.Test.YtbopdijnojaaiacEntryD
import Derived.Test.YtbopdijnojaaiacEntryR
import Derived.Deep.RegionHeld3
import Derived.Deep.DrawnRows
namespace Go.Proofs.Ytbopdijnojaaiac
open Go.RowKit
set_option linter.unusedSimpArgs false
set_option linter.unusedVariables false
attribute [local go_sem ↓] Go.wp_at_zero Go.wp_at_succ

theorem num6 (v : Int) (h : 0 ≤ v ∧ v ≤ 65535) : numL [v / 1024 % 2, v / 2048 % 2, v / 4096 % 2, v / 8192 % 2, v / 16384 % 2, v / 32768 % 2] = v / 1024 := by
  simp only [numL]; omega
theorem num4 (v : Int) (h : 0 ≤ v ∧ v ≤ 65535) : numL [v / 16 % 2, v / 32 % 2, v / 64 % 2, v / 128 % 2, v / 256 % 2, v / 512 % 2] = v / 16 % 64 := by
  simp only [numL]; omega
theorem mod2 (x : Int) : 0 ≤ x % 2 ∧ x % 2 ≤ 1 := by omega
theorem bits6 (a b c d e f : Int) : ∀ x ∈ [a % 2, b % 2, c % 2, d % 2, e % 2, f % 2], 0 ≤ x ∧ x ≤ 1 := by
  intro x hx; simp at hx; rcases hx with rfl | rfl | rfl | rfl | rfl | rfl <;> omega

theorem ints_off {w : World} {B g off n : Nat} {xs : List Int} (hl : xs.length = n) (hn : n ≤ 9223372036854775807) (hg : g < B) (h : ∀ k, k < n → w.cell? ⟨g, off + k, none⟩ = (xs.map (Value.int .i64))[k]?) : Ints w B (some ⟨g, off, none⟩) n xs :=
  ⟨hl, by unfold maxLen; omega, fun _ => ⟨g, off, rfl, hg, fun k v hv => by
    have hk : k < n := by have := (List.getElem?_eq_some_iff.1 hv).1; simp at this; omega
    rw [h k hk, hv]⟩⟩
theorem cell_new_drew (W : World) (o : Array Value) (T : TypeId) (n k : Nat) {v : Value} (h : W.heap.size = n) (hv : o[k]? = some v) : (W.alloc (.cells o T)).drew.cell? ⟨n, k, none⟩ = some v := by
  subst h
  show (W.alloc (.cells o T)).cell? _ = _
  simp [go_sem, hv]
theorem ints_off6 {w : World} {B g : Nat} {x0 x1 x2 x3 x4 x5 : Int} (hg : g < B) (h0 : w.cell? ⟨g, 4, none⟩ = some (.int .i64 x0)) (h1 : w.cell? ⟨g, 5, none⟩ = some (.int .i64 x1)) (h2 : w.cell? ⟨g, 6, none⟩ = some (.int .i64 x2)) (h3 : w.cell? ⟨g, 7, none⟩ = some (.int .i64 x3)) (h4 : w.cell? ⟨g, 8, none⟩ = some (.int .i64 x4)) (h5 : w.cell? ⟨g, 9, none⟩ = some (.int .i64 x5)) :
    Ints w B (some ⟨g, 4, none⟩) 6 [x0, x1, x2, x3, x4, x5] :=
  ints_off rfl (by omega) hg (fun k hk => by
    match k, hk with
    | 0, _ => exact h0
    | 1, _ => exact h1
    | 2, _ => exact h2
    | 3, _ => exact h3
    | 4, _ => exact h4
    | 5, _ => exact h5)
theorem enBad_t {v : Int} (h : 0 ≤ v) (hb : enBad v = true) : 0 < v / 1024 ∨ v / 2 % 2 < v / 4 % 2 ∨ v / 8 % 2 < v / 2 % 2 := by
  unfold enBad at hb
  rw [bitI1, bitI2, bitI3] at hb
  simp only [Bool.or_eq_true, Bool.and_eq_true, bne_iff_ne, beq_iff_eq, Bool.not_eq_true', beq_eq_false_iff_ne] at hb
  omega
theorem enBad_f {v : Int} (h : 0 ≤ v) (hb : enBad v = false) : v / 1024 ≤ 0 ∧ v / 4 % 2 ≤ v / 2 % 2 ∧ v / 2 % 2 ≤ v / 8 % 2 := by
  unfold enBad at hb
  rw [bitI1, bitI2, bitI3] at hb
  simp only [Bool.or_eq_false_iff, Bool.and_eq_false_iff, bne_eq_false_iff_eq, beq_eq_false_iff_ne, Bool.not_eq_false', beq_iff_eq] at hb
  omega

theorem enV_yes' {v : Int} (h : enG v = true) : Ending.returned (.tuple #[.agg #[.bool true, .bool (v / 2 % 2 == 1), .bool (v / 4 % 2 == 1), .bool (v / 8 % 2 == 1), .int .i64 (v / 16 % 64)], .bool true]) = .returned (enV v) := by
  rw [← bitI1, ← bitI2, ← bitI3]; exact enV_yes h (enG_K h)
set_option maxRecDepth 100000 in
set_option maxHeartbeats 4000000 in
theorem ref_EntryOf_yes (v : Int) (hR : 0 ≤ v ∧ v ≤ 65535) (h0 : v % 2 = 1) (hbad : enBad v = false) (w : World) : Calls Try.prog 106 #[.int .i64 v] w fun e w' => e = .returned (enV v) ∧ Below w.heap.size w w' := by
  have HR := Lib.hid hR
  have hin := inB_t hR
  have hd : digV v = .agg #[.int .i64 (v % 2), .int .i64 (v / 2 % 2), .int .i64 (v / 4 % 2), .int .i64 (v / 8 % 2), .int .i64 (v / 16 % 2), .int .i64 (v / 32 % 2), .int .i64 (v / 64 % 2), .int .i64 (v / 128 % 2), .int .i64 (v / 256 % 2), .int .i64 (v / 512 % 2), .int .i64 (v / 1024 % 2), .int .i64 (v / 2048 % 2), .int .i64 (v / 4096 % 2), .int .i64 (v / 8192 % 2), .int .i64 (v / 16384 % 2), .int .i64 (v / 32768 % 2)] := rfl
  have hn6 := num6 v hR
  have hn4 := num4 v hR
  have hG := Lib.hid (show enG v = true by unfold enG; rw [hbad, enIn_t hR, bitI0, h0]; rfl)
  obtain ⟨h1, h2⟩ := hR
  have ht0 : (v % 2 == 0) = false := by rw [beq_eq_false_iff_ne]; omega
  obtain ⟨g1, g2, g3⟩ := enBad_f h1 hbad
  clear hbad h0
  go_enter Try.func106, Try.ntmps106
  go_wp2_with (go_at_call 56; refine (ref_in _ _ _ _).mono ?_; rintro e w' ⟨rfl, rfl⟩)
  refine (ref_digits _ HR.out _).mono ?_
  rintro e w1 ⟨rfl, hb1⟩
  have hz1 := hb1.size
  (try simp only [World.size_alloc, World.size_setCell, World.size_drew] at hz1)
  have k1_0 := fun o => (bcell hb1).1 (w.heap.size) o (by first | (simp; done) | (simp; omega) | omega)
  have l1_0 : (w.heap.size) < w1.heap.size := (by omega)
  have q1_0 := fun o => (bcell hb1).2 (w.heap.size) o (by first | (simp; done) | (simp; omega) | omega)
  simp (maxDischargeDepth := 6) [go_sem, *] at k1_0 q1_0
  have HB1 := Lib.hid hb1
  clear hb1
  go_wp2_with fail
  refine (ref_number _ _ _ [v / 1024 % 2, v / 2048 % 2, v / 4096 % 2, v / 8192 % 2, v / 16384 % 2, v / 32768 % 2] _ (ints_off (n := 6) rfl (by omega) (by simp) ?_) (bits6 _ _ _ _ _ _) (by omega)).mono ?_
  · intro k hk
    match k, hk with
    | 0, _ => simp [go_sem]
    | 1, _ => simp [go_sem]
    | 2, _ => simp [go_sem]
    | 3, _ => simp [go_sem]
    | 4, _ => simp [go_sem]
    | 5, _ => simp [go_sem]
  rintro e w' ⟨rfl, rfl⟩
  go_wp2_with fail
  go_region_held3 (fun w' => w'.cell? ⟨w1.heap.size, 1, none⟩ = some (.int .i64 (v / 2 % 2)) ∧ w'.cell? ⟨w1.heap.size, 2, none⟩ = some (.int .i64 (v / 4 % 2)) ∧ w'.cell? ⟨w1.heap.size, 3, none⟩ = some (.int .i64 (v / 8 % 2)) ∧ w'.cell? ⟨w1.heap.size, 4, none⟩ = some (.int .i64 (v / 16 % 2)) ∧ w'.cell? ⟨w1.heap.size, 5, none⟩ = some (.int .i64 (v / 32 % 2)) ∧ w'.cell? ⟨w1.heap.size, 6, none⟩ = some (.int .i64 (v / 64 % 2)) ∧ w'.cell? ⟨w1.heap.size, 7, none⟩ = some (.int .i64 (v / 128 % 2)) ∧ w'.cell? ⟨w1.heap.size, 8, none⟩ = some (.int .i64 (v / 256 % 2)) ∧ w'.cell? ⟨w1.heap.size, 9, none⟩ = some (.int .i64 (v / 512 % 2))) (first | (refine ⟨?_, ?_, ?_, ?_, ?_, ?_, ?_, ?_, ?_⟩ <;> exact cell_new_drew _ _ _ _ _ (by simp) rfl) | go_keep)
    (first | (go_at_call 105; refine (ref_number _ _ _ [v / 16 % 2, v / 32 % 2, v / 64 % 2, v / 128 % 2, v / 256 % 2, v / 512 % 2] _ ?_ (bits6 _ _ _ _ _ _) (by omega)).mono ?_; (exact ints_off6 (by simp) (by simp [*]) (by simp [*]) (by simp [*]) (by simp [*]) (by simp [*]) (by simp [*])); rintro e w' ⟨rfl, rfl⟩))
  go_wp2
  refine bodyPost_ret (v := .tuple #[.agg #[.bool true, .bool (v / 2 % 2 == 1), .bool (v / 4 % 2 == 1), .bool (v / 8 % 2 == 1), .int .i64 (v / 16 % 64)], .bool true]) ?_ rfl ⟨enV_yes' hG.out, ?_⟩
  · simp (maxDischargeDepth := 8) [results, Try.results106, go_sem, *]
  · (repeat (first | (with_reducible exact Below.refl _ _) | (with_reducible refine Below.drew ?_) | (with_reducible refine bdrewN ?_ _) | ((with_reducible refine Below.setCell ?_ ?_ _); rotate_left; exact (by first | (simp; done) | (simp; omega) | omega)) | ((with_reducible refine Below.alloc ?_ ?_ _); rotate_left; exact (by first | (simp; done) | (simp; omega) | omega)) | ((with_reducible refine Below.trans ?_ (HB1.out.mono ?_)); rotate_left; exact (by first | (simp; done) | (simp; omega) | omega))))

set_option maxRecDepth 100000 in
set_option maxHeartbeats 4000000 in
theorem ref_EntryOf_bad (v : Int) (hR : 0 ≤ v ∧ v ≤ 65535) (h0 : v % 2 = 1) (hbad : enBad v = true) (w : World) : Calls Try.prog 106 #[.int .i64 v] w fun e w' => e = .returned (enV v) ∧ Below w.heap.size w w' := by
  have HR := Lib.hid hR
  have hin := inB_t hR
  have hd : digV v = .agg #[.int .i64 (v % 2), .int .i64 (v / 2 % 2), .int .i64 (v / 4 % 2), .int .i64 (v / 8 % 2), .int .i64 (v / 16 % 2), .int .i64 (v / 32 % 2), .int .i64 (v / 64 % 2), .int .i64 (v / 128 % 2), .int .i64 (v / 256 % 2), .int .i64 (v / 512 % 2), .int .i64 (v / 1024 % 2), .int .i64 (v / 2048 % 2), .int .i64 (v / 4096 % 2), .int .i64 (v / 8192 % 2), .int .i64 (v / 16384 % 2), .int .i64 (v / 32768 % 2)] := rfl
  have hn6 := num6 v hR
  have hG := Lib.hid (show enG v = false by unfold enG; rw [hbad]; simp)
  have hK := Lib.hid (show enK v = false by unfold enK; rw [hbad, bitI0, h0]; simp)
  obtain ⟨h1, h2⟩ := hR
  have ht0 : (v % 2 == 0) = false := by rw [beq_eq_false_iff_ne]; omega
  have hb : 0 < v / 1024 ∨ (v / 1024 ≤ 0 ∧ v / 2 % 2 < v / 4 % 2) ∨ (v / 1024 ≤ 0 ∧ v / 4 % 2 ≤ v / 2 % 2 ∧ v / 8 % 2 < v / 2 % 2) := by have := enBad_t h1 hbad; omega
  clear hbad h0
  rcases hb with hb | ⟨hb, hb2⟩ | ⟨hb, hb2, hb3⟩
  · go_enter Try.func106, Try.ntmps106
    go_wp2_with (go_at_call 56; refine (ref_in _ _ _ _).mono ?_; rintro e w' ⟨rfl, rfl⟩)
    refine (ref_digits _ HR.out _).mono ?_
    rintro e w1 ⟨rfl, hb1⟩
    have hz1 := hb1.size
    (try simp only [World.size_alloc, World.size_setCell, World.size_drew] at hz1)
    have k1_0 := fun o => (bcell hb1).1 (w.heap.size) o (by first | (simp; done) | (simp; omega) | omega)
    have l1_0 : (w.heap.size) < w1.heap.size := (by omega)
    have q1_0 := fun o => (bcell hb1).2 (w.heap.size) o (by first | (simp; done) | (simp; omega) | omega)
    simp (maxDischargeDepth := 6) [go_sem, *] at k1_0 q1_0
    have HB1 := Lib.hid hb1
    clear hb1
    go_wp2_with fail
    refine (ref_number _ _ _ [v / 1024 % 2, v / 2048 % 2, v / 4096 % 2, v / 8192 % 2, v / 16384 % 2, v / 32768 % 2] _ (ints_off (n := 6) rfl (by omega) (by simp) ?_) (bits6 _ _ _ _ _ _) (by omega)).mono ?_
    · intro k hk
      match k, hk with
      | 0, _ => simp [go_sem]
      | 1, _ => simp [go_sem]
      | 2, _ => simp [go_sem]
      | 3, _ => simp [go_sem]
      | 4, _ => simp [go_sem]
      | 5, _ => simp [go_sem]
    rintro e w' ⟨rfl, rfl⟩
    go_wp2
    refine bodyPost_ret (v := .tuple #[.agg #[.bool false, .bool false, .bool false, .bool false, .int .i64 0], .bool false]) ?_ rfl ⟨enV_no hG.out false hK.out, ?_⟩
    · simp (maxDischargeDepth := 8) [results, Try.results106, go_sem, *]
    · (repeat (first | (with_reducible exact Below.refl _ _) | (with_reducible refine Below.drew ?_) | (with_reducible refine bdrewN ?_ _) | ((with_reducible refine Below.setCell ?_ ?_ _); rotate_left; exact (by first | (simp; done) | (simp; omega) | omega)) | ((with_reducible refine Below.alloc ?_ ?_ _); rotate_left; exact (by first | (simp; done) | (simp; omega) | omega)) | ((with_reducible refine Below.trans ?_ (HB1.out.mono ?_)); rotate_left; exact (by first | (simp; done) | (simp; omega) | omega))))
  · go_enter Try.func106, Try.ntmps106
    go_wp2_with (go_at_call 56; refine (ref_in _ _ _ _).mono ?_; rintro e w' ⟨rfl, rfl⟩)
    refine (ref_digits _ HR.out _).mono ?_
    rintro e w1 ⟨rfl, hb1⟩
    have hz1 := hb1.size
    (try simp only [World.size_alloc, World.size_setCell, World.size_drew] at hz1)
    have k1_0 := fun o => (bcell hb1).1 (w.heap.size) o (by first | (simp; done) | (simp; omega) | omega)
    have l1_0 : (w.heap.size) < w1.heap.size := (by omega)
    have q1_0 := fun o => (bcell hb1).2 (w.heap.size) o (by first | (simp; done) | (simp; omega) | omega)
    simp (maxDischargeDepth := 6) [go_sem, *] at k1_0 q1_0
    have HB1 := Lib.hid hb1
    clear hb1
    go_wp2_with fail
    refine (ref_number _ _ _ [v / 1024 % 2, v / 2048 % 2, v / 4096 % 2, v / 8192 % 2, v / 16384 % 2, v / 32768 % 2] _ (ints_off (n := 6) rfl (by omega) (by simp) ?_) (bits6 _ _ _ _ _ _) (by omega)).mono ?_
    · intro k hk
      match k, hk with
      | 0, _ => simp [go_sem]
      | 1, _ => simp [go_sem]
      | 2, _ => simp [go_sem]
      | 3, _ => simp [go_sem]
      | 4, _ => simp [go_sem]
      | 5, _ => simp [go_sem]
    rintro e w' ⟨rfl, rfl⟩
    go_wp2
    refine bodyPost_ret (v := .tuple #[.agg #[.bool false, .bool false, .bool false, .bool false, .int .i64 0], .bool false]) ?_ rfl ⟨enV_no hG.out false hK.out, ?_⟩
    · simp (maxDischargeDepth := 8) [results, Try.results106, go_sem, *]
    · (repeat (first | (with_reducible exact Below.refl _ _) | (with_reducible refine Below.drew ?_) | (with_reducible refine bdrewN ?_ _) | ((with_reducible refine Below.setCell ?_ ?_ _); rotate_left; exact (by first | (simp; done) | (simp; omega) | omega)) | ((with_reducible refine Below.alloc ?_ ?_ _); rotate_left; exact (by first | (simp; done) | (simp; omega) | omega)) | ((with_reducible refine Below.trans ?_ (HB1.out.mono ?_)); rotate_left; exact (by first | (simp; done) | (simp; omega) | omega))))
  · go_enter Try.func106, Try.ntmps106
    go_wp2_with (go_at_call 56; refine (ref_in _ _ _ _).mono ?_; rintro e w' ⟨rfl, rfl⟩)
    refine (ref_digits _ HR.out _).mono ?_
    rintro e w1 ⟨rfl, hb1⟩
    have hz1 := hb1.size
    (try simp only [World.size_alloc, World.size_setCell, World.size_drew] at hz1)
    have k1_0 := fun o => (bcell hb1).1 (w.heap.size) o (by first | (simp; done) | (simp; omega) | omega)
    have l1_0 : (w.heap.size) < w1.heap.size := (by omega)
    have q1_0 := fun o => (bcell hb1).2 (w.heap.size) o (by first | (simp; done) | (simp; omega) | omega)
    simp (maxDischargeDepth := 6) [go_sem, *] at k1_0 q1_0
    have HB1 := Lib.hid hb1
    clear hb1
    go_wp2_with fail
    refine (ref_number _ _ _ [v / 1024 % 2, v / 2048 % 2, v / 4096 % 2, v / 8192 % 2, v / 16384 % 2, v / 32768 % 2] _ (ints_off (n := 6) rfl (by omega) (by simp) ?_) (bits6 _ _ _ _ _ _) (by omega)).mono ?_
    · intro k hk
      match k, hk with
      | 0, _ => simp [go_sem]
      | 1, _ => simp [go_sem]
      | 2, _ => simp [go_sem]
      | 3, _ => simp [go_sem]
      | 4, _ => simp [go_sem]
      | 5, _ => simp [go_sem]
    rintro e w' ⟨rfl, rfl⟩
    go_wp2
    refine bodyPost_ret (v := .tuple #[.agg #[.bool false, .bool false, .bool false, .bool false, .int .i64 0], .bool false]) ?_ rfl ⟨enV_no hG.out false hK.out, ?_⟩
    · simp (maxDischargeDepth := 8) [results, Try.results106, go_sem, *]
    · (repeat (first | (with_reducible exact Below.refl _ _) | (with_reducible refine Below.drew ?_) | (with_reducible refine bdrewN ?_ _) | ((with_reducible refine Below.setCell ?_ ?_ _); rotate_left; exact (by first | (simp; done) | (simp; omega) | omega)) | ((with_reducible refine Below.alloc ?_ ?_ _); rotate_left; exact (by first | (simp; done) | (simp; omega) | omega)) | ((with_reducible refine Below.trans ?_ (HB1.out.mono ?_)); rotate_left; exact (by first | (simp; done) | (simp; omega) | omega))))

set_option maxRecDepth 100000 in
set_option maxHeartbeats 4000000 in
theorem ref_EntryOf (v : Int) (w : World) : Calls Try.prog 106 #[.int .i64 v] w fun e w' => e = .returned (enV v) ∧ Below w.heap.size w w' := by
  by_cases hR : 0 ≤ v ∧ v ≤ 65535
  · by_cases h0 : v % 2 = 1
    · cases hbad : enBad v
      · exact ref_EntryOf_yes v hR h0 hbad w
      · exact ref_EntryOf_bad v hR h0 hbad w
    · have HR := Lib.hid hR
      have hin := inB_t hR
      have hd : digV v = .agg #[.int .i64 (v % 2), .int .i64 (v / 2 % 2), .int .i64 (v / 4 % 2), .int .i64 (v / 8 % 2), .int .i64 (v / 16 % 2), .int .i64 (v / 32 % 2), .int .i64 (v / 64 % 2), .int .i64 (v / 128 % 2), .int .i64 (v / 256 % 2), .int .i64 (v / 512 % 2), .int .i64 (v / 1024 % 2), .int .i64 (v / 2048 % 2), .int .i64 (v / 4096 % 2), .int .i64 (v / 8192 % 2), .int .i64 (v / 16384 % 2), .int .i64 (v / 32768 % 2)] := rfl
      have hG := Lib.hid (show enG v = false by unfold enG; rw [bitI0, show (v % 2 == 1) = false from by rw [beq_eq_false_iff_ne]; exact h0]; simp)
      have hK := Lib.hid (show enK v = true by unfold enK; rw [enIn_t hR, bitI0, show (v % 2 == 1) = false from by rw [beq_eq_false_iff_ne]; exact h0]; simp)
      have ht0 : (v % 2 == 0) = true := by rw [beq_iff_eq]; omega
      obtain ⟨h1, h2⟩ := hR
      clear h0
      go_enter Try.func106, Try.ntmps106
      go_wp2_with (go_at_call 56; refine (ref_in _ _ _ _).mono ?_; rintro e w' ⟨rfl, rfl⟩)
      refine (ref_digits _ HR.out _).mono ?_
      rintro e w1 ⟨rfl, hb1⟩
      have hz1 := hb1.size
      (try simp only [World.size_alloc, World.size_setCell, World.size_drew] at hz1)
      have k1_0 := fun o => (bcell hb1).1 (w.heap.size) o (by first | (simp; done) | (simp; omega) | omega)
      have l1_0 : (w.heap.size) < w1.heap.size := (by omega)
      have q1_0 := fun o => (bcell hb1).2 (w.heap.size) o (by first | (simp; done) | (simp; omega) | omega)
      simp (maxDischargeDepth := 6) [go_sem, *] at k1_0 q1_0
      have HB1 := Lib.hid hb1
      clear hb1
      go_wp2
      refine bodyPost_ret (v := .tuple #[.agg #[.bool false, .bool false, .bool false, .bool false, .int .i64 0], .bool true]) ?_ rfl ⟨enV_no hG.out true hK.out, ?_⟩
      · simp (maxDischargeDepth := 8) [results, Try.results106, go_sem, *]
      · (repeat (first | (with_reducible exact Below.refl _ _) | (with_reducible refine Below.drew ?_) | (with_reducible refine bdrewN ?_ _) | ((with_reducible refine Below.setCell ?_ ?_ _); rotate_left; exact (by first | (simp; done) | (simp; omega) | omega)) | ((with_reducible refine Below.alloc ?_ ?_ _); rotate_left; exact (by first | (simp; done) | (simp; omega) | omega)) | ((with_reducible refine Below.trans ?_ (HB1.out.mono ?_)); rotate_left; exact (by first | (simp; done) | (simp; omega) | omega))))

  · have hin := inB_f hR
    have hG := Lib.hid (show enG v = false by unfold enG; rw [enIn_f hR]; simp)
    have hK := Lib.hid (show enK v = false by unfold enK; rw [enIn_f hR]; simp)
    have HB := Lib.hid (below_alloc w)
    clear hR
    go_enter Try.func106, Try.ntmps106
    go_wp2_with (go_at_call 56; refine (ref_in _ _ _ _).mono ?_; rintro e w' ⟨rfl, rfl⟩)
    refine bodyPost_ret (v := .tuple #[.agg #[.bool false, .bool false, .bool false, .bool false, .int .i64 0], .bool false]) ?_ rfl ⟨enV_no hG.out false hK.out, HB.out _⟩
    simp [results, Try.results106, go_sem]
end Go.Proofs.Ytbopdijnojaaiac
