/- The laws' own 'kept': a closed fact on a cache; Fill, whatever is filled in; slices of lines. No statement of the seat is proved here. -/
import Derived.Test.YtbopdijnojaaiabFillZ
import Derived.Test.YtbopdijnojaaiabDrop
namespace Go.Proofs.Ytbopdijnojaaiab
open Go.RowKit
set_option linter.unusedSimpArgs false
set_option linter.unusedVariables false

theorem fill_ans (A : Option Addr) (n c : Nat) (ls ms : List Line) (x1 x2 x3 : Int) (x4 x5 : Bool) (E : Int) (w : World) (hl : Lines w w.heap.size A n c ls) (hE : fillE ls ⟨x1, x2, x3, x4, x5⟩ = E) (hm : fillL ls ⟨x1, x2, x3, x4, x5⟩ = ms) :
    Calls Try.prog 27 #[.slice A n c, .agg #[.int .i64 x1, .int .i64 x2, .int .i64 x3, .bool x4, .bool x5]] w fun e w' => ∃ A' c', e = .returned (.tuple #[.slice A' ms.length c', .int .i64 E]) ∧ Lines w' w'.heap.size A' ms.length c' ms ∧ Below w.heap.size w w' ∧ ∀ ad, A' = some ad → w.heap.size ≤ ad.block := by
  by_cases h0 : E = 0
  · subst h0
    have := cache_Fill A n c ls ⟨x1, x2, x3, x4, x5⟩ w hl hE
    rw [hm] at this
    refine this.mono ?_
    rintro e w' ⟨A', c', rfl, ho, hb⟩
    exact ⟨A', c', rfl, ho.lines, hb, fun ad h => own_gel ho.2.2.2 ad.block (by rw [h]; rfl)⟩
  · have := cache_Fill_no A n c ls ⟨x1, x2, x3, x4, x5⟩ w hl (by rw [hE]; exact h0)
    rw [hE] at this
    refine this.mono ?_
    rintro e w' ⟨rfl, hb⟩
    have hz : ms = [] := by rw [← hm]; exact fillL_n hE h0
    subst hz
    exact ⟨none, 0, rfl, lines_none _ _, hb, fun _ h => by cases h⟩

theorem Lines.dropN {w : World} {B n c : Nat} {A : Option Addr} {ls : List Line} (h : Lines w B A n c ls) {j : Nat} (hj : j ≤ n) : Lines w B (if c = j then A else A.map (·.add (j * 5))) (n - j) (c - j) (ls.drop j) := by
  obtain ⟨h1, h2, h3, h4, h5⟩ := h
  refine ⟨by simp [h1], by omega, by omega, fun e => ?_, fun hl => ?_⟩
  · split at e
    · omega
    · have := h4 (by simpa using e); omega
  · have hp : 0 < (lcells ls).length := by
      rw [lcells_len] at *
      simp at hl ⊢
      omega
    obtain ⟨b, off, e, hb, hc⟩ := h5 hp
    have hcj : ¬ c = j := by
      rw [lcells_len] at hl; simp at hl; omega
    rw [if_neg hcj, e]
    refine ⟨b, off + j * 5, by simp [Addr.add], hb, fun m v hv => ?_⟩
    rw [← lcells_drop, List.getElem?_drop] at hv
    rw [Nat.add_assoc]
    exact hc _ _ hv
set_option maxRecDepth 100000 in
theorem slice_lo (A : Option Addr) (n c j : Nat) (hj : j ≤ n) (hc : n ≤ c) :
    ∃ A' : Option Addr, (∀ w, (Instr.slice 40 (.slice A n c) (some (.int .i64 (j : Int))) none none).run Try.prog w = .ok (.slice A' (n - j) (c - j)) w) ∧ ∀ w B ls, Lines w B A n c ls → Lines w B A' (n - j) (c - j) (ls.drop j) := by
  refine ⟨if c = j then A else A.map (·.add (j * 5)), fun w => ?_, fun w B ls h => h.dropN hj⟩
  have h1 : (0 : Int) ≤ (j : Int) := by omega
  have h2 : (j : Int) ≤ (n : Int) := by omega
  simp [go_sem, h1, h2]
set_option maxRecDepth 100000 in
theorem slice_hi (A : Option Addr) (n c k : Nat) (hk : k ≤ c) (hc : n ≤ c) :
    ∀ w, (Instr.slice 40 (.slice A n c) none (some (.int .i64 (k : Int))) none).run Try.prog w = .ok (.slice A k c) w := by
  intro w
  have h1 : (0 : Int) ≤ (k : Int) := by omega
  have h2 : (k : Int) ≤ (c : Int) := by omega
  simp [go_sem, h1, h2]

def k1 : Line := ⟨1, 2, 3, true, false⟩
def k2 : Line := ⟨4, 2, 9, true, false⟩
set_option maxRecDepth 100000 in
set_option maxHeartbeats 4000000 in
theorem law_kept (w : World) : Calls Try.prog 31 #[] w fun e w' => e = .returned (.bool true) ∧ Below w.heap.size w w' := by
  go_enter Try.func31, Try.ntmps31
  go_wp2_with fail
  refine (fill_ans none 0 0 [] [k1] 1 2 3 true false 0 _ (lines_none _ _) (by kernel_rfl) (by kernel_rfl)).mono ?_
  rintro e w1 ⟨A1, c1, rfl, hl1, hb1, _⟩
  have HL1 := Lib.hid hl1
  clear hl1
  have hz1 := hb1.size
  (try simp only [World.size_alloc, World.size_setCell, World.size_drew] at hz1)
  have HB1 := Lib.hid hb1
  clear hb1
  go_wp2_with fail
  refine (fill_ans A1 1 c1 [k1] [k1, k2] 4 2 9 true false 0 _ HL1.out (by kernel_rfl) (by kernel_rfl)).mono ?_
  rintro e w2 ⟨A2, c2, rfl, hl2, hb2, _⟩
  have HL2 := Lib.hid hl2
  clear hl2
  have hz2 := hb2.size
  (try simp only [World.size_alloc, World.size_setCell, World.size_drew] at hz2)
  have HB2 := Lib.hid hb2
  clear hb2
  go_wp2_with fail
  refine (drop_ans A2 2 c2 [k1, k2] [k2] 2 1 0 0 _ HL2.out (by decide) (by kernel_rfl) (by kernel_rfl)).mono ?_
  rintro e w3 ⟨A3, c3, rfl, hl3, hb3, _⟩
  have HL3 := Lib.hid hl3
  clear hl3
  have hz3 := hb3.size
  (try simp only [World.size_alloc, World.size_setCell, World.size_drew] at hz3)
  have HB3 := Lib.hid hb3
  clear hb3
  go_wp2_with fail
  refine (fill_ans A2 2 c2 [k1, k2] [] 1 2 5 true false 5 _ (lines_now HL2.out (by (repeat (first | (with_reducible exact Below.refl _ _) | (with_reducible refine Below.drew ?_) | (with_reducible refine bdrewN ?_ _) | ((with_reducible refine Below.setCell ?_ ?_ _); rotate_left; exact (by first | (simp; done) | (simp; omega) | omega)) | ((with_reducible refine Below.alloc ?_ ?_ _); rotate_left; exact (by first | (simp; done) | (simp; omega) | omega)) | ((with_reducible refine Below.trans ?_ (HB3.out.mono ?_)); rotate_left; exact (by first | (simp; done) | (simp; omega) | omega)))))) (by kernel_rfl) (by kernel_rfl)).mono ?_
  rintro e w4 ⟨A4, c4, rfl, hl4, hb4, _⟩
  clear hl4
  have hz4 := hb4.size
  (try simp only [World.size_alloc, World.size_setCell, World.size_drew] at hz4)
  have HB4 := Lib.hid hb4
  clear hb4
  go_wp2_with fail
  refine (cache_Find A2 2 c2 [k1, k2] 4 2 _ (lines_now HL2.out (by (repeat (first | (with_reducible exact Below.refl _ _) | (with_reducible refine Below.drew ?_) | (with_reducible refine bdrewN ?_ _) | ((with_reducible refine Below.setCell ?_ ?_ _); rotate_left; exact (by first | (simp; done) | (simp; omega) | omega)) | ((with_reducible refine Below.alloc ?_ ?_ _); rotate_left; exact (by first | (simp; done) | (simp; omega) | omega)) | ((with_reducible refine Below.trans ?_ (HB4.out.mono ?_)); rotate_left; exact (by first | (simp; done) | (simp; omega) | omega)) | ((with_reducible refine Below.trans ?_ (HB3.out.mono ?_)); rotate_left; exact (by first | (simp; done) | (simp; omega) | omega))))))).mono ?_
  rw [show findL [k1, k2] 4 2 = 1 by kernel_rfl]
  rintro e w5 ⟨rfl, hb5⟩
  have hz5 := hb5.size
  (try simp only [World.size_alloc, World.size_setCell, World.size_drew] at hz5)
  have HB5 := Lib.hid hb5
  clear hb5
  go_wp2_with fail
  refine (cache_Find A3 1 c3 [k2] 4 2 _ (lines_now HL3.out (by (repeat (first | (with_reducible exact Below.refl _ _) | (with_reducible refine Below.drew ?_) | (with_reducible refine bdrewN ?_ _) | ((with_reducible refine Below.setCell ?_ ?_ _); rotate_left; exact (by first | (simp; done) | (simp; omega) | omega)) | ((with_reducible refine Below.alloc ?_ ?_ _); rotate_left; exact (by first | (simp; done) | (simp; omega) | omega)) | ((with_reducible refine Below.trans ?_ (HB5.out.mono ?_)); rotate_left; exact (by first | (simp; done) | (simp; omega) | omega)) | ((with_reducible refine Below.trans ?_ (HB4.out.mono ?_)); rotate_left; exact (by first | (simp; done) | (simp; omega) | omega))))))).mono ?_
  rw [show findL [k2] 4 2 = 0 by kernel_rfl]
  rintro e w6 ⟨rfl, hb6⟩
  have hz6 := hb6.size
  (try simp only [World.size_alloc, World.size_setCell, World.size_drew] at hz6)
  have HB6 := Lib.hid hb6
  clear hb6
  go_wp2_with fail
  refine (cache_Check A2 2 c2 [k1, k2] _ (lines_now HL2.out (by (repeat (first | (with_reducible exact Below.refl _ _) | (with_reducible refine Below.drew ?_) | (with_reducible refine bdrewN ?_ _) | ((with_reducible refine Below.setCell ?_ ?_ _); rotate_left; exact (by first | (simp; done) | (simp; omega) | omega)) | ((with_reducible refine Below.alloc ?_ ?_ _); rotate_left; exact (by first | (simp; done) | (simp; omega) | omega)) | ((with_reducible refine Below.trans ?_ (HB6.out.mono ?_)); rotate_left; exact (by first | (simp; done) | (simp; omega) | omega)) | ((with_reducible refine Below.trans ?_ (HB5.out.mono ?_)); rotate_left; exact (by first | (simp; done) | (simp; omega) | omega)) | ((with_reducible refine Below.trans ?_ (HB4.out.mono ?_)); rotate_left; exact (by first | (simp; done) | (simp; omega) | omega)) | ((with_reducible refine Below.trans ?_ (HB3.out.mono ?_)); rotate_left; exact (by first | (simp; done) | (simp; omega) | omega))))))).mono ?_
  rw [show ckC [k1, k2] = 0 by kernel_rfl]
  rintro e w7 ⟨rfl, hb7⟩
  have hz7 := hb7.size
  (try simp only [World.size_alloc, World.size_setCell, World.size_drew] at hz7)
  have HB7 := Lib.hid hb7
  clear hb7
  go_wp2
  go_ret
  exact ⟨rfl, by (repeat (first | (with_reducible exact Below.refl _ _) | (with_reducible refine Below.drew ?_) | (with_reducible refine bdrewN ?_ _) | ((with_reducible refine Below.setCell ?_ ?_ _); rotate_left; exact (by first | (simp; done) | (simp; omega) | omega)) | ((with_reducible refine Below.alloc ?_ ?_ _); rotate_left; exact (by first | (simp; done) | (simp; omega) | omega)) | ((with_reducible refine Below.trans ?_ (HB7.out.mono ?_)); rotate_left; exact (by first | (simp; done) | (simp; omega) | omega)) | ((with_reducible refine Below.trans ?_ (HB6.out.mono ?_)); rotate_left; exact (by first | (simp; done) | (simp; omega) | omega)) | ((with_reducible refine Below.trans ?_ (HB5.out.mono ?_)); rotate_left; exact (by first | (simp; done) | (simp; omega) | omega)) | ((with_reducible refine Below.trans ?_ (HB4.out.mono ?_)); rotate_left; exact (by first | (simp; done) | (simp; omega) | omega)) | ((with_reducible refine Below.trans ?_ (HB3.out.mono ?_)); rotate_left; exact (by first | (simp; done) | (simp; omega) | omega)) | ((with_reducible refine Below.trans ?_ (HB2.out.mono ?_)); rotate_left; exact (by first | (simp; done) | (simp; omega) | omega)) | ((with_reducible refine Below.trans ?_ (HB1.out.mono ?_)); rotate_left; exact (by first | (simp; done) | (simp; omega) | omega))))⟩
end Go.Proofs.Ytbopdijnojaaiab
