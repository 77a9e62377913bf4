/- The cache: the walk of the program's Fill where nothing has to go. No statement of the seat is proved here. -/
import Derived.Test.YtbopdijnojaaiadSlices
import Derived.Deep.RegionHeld3
import Derived.Deep.DrawnRows
import Derived.Deep.AppendLies
namespace Go.Proofs.Ytbopdijnojaaiad
open Go.RowKit
set_option linter.unusedSimpArgs false
set_option linter.unusedVariables false

section
attribute [local go_sem ↓] Go.wp_at_zero Go.wp_at_succ

set_option maxRecDepth 100000 in
set_option maxHeartbeats 8000000 in
theorem cache_Check (A : Option Addr) (n c : Nat) (ls : List Line) (w : World) (hl : Lines w w.heap.size A n c ls) :
    Calls Try.prog 32 #[.slice A n c] w fun e w' => e = .returned (.int .i64 (ckC ls)) ∧ Below w.heap.size w w' := by
  have HL := Lib.hid hl
  obtain ⟨hn1, hn2⟩ := hl.cap
  have hlen := hl.len
  clear hl
  by_cases h6 : n ≤ 6
  · have H6 := Lib.hid (ckC_few (show ls.length ≤ 6 by omega))
    have HN := Lib.hid hlen
    clear hlen
    rw [H6.out]
    have h6' : (n : Int) ≤ 6 := by omega
    have n3 : (n : Int) ≤ (c : Int) := by omega
    go_enter Try.func32, Try.ntmps32
    go_wp2
    go_loopw [10] (fun i wr => ∃ k : Nat, k ≤ n ∧ i = .int .i64 k ∧ Hid (ckL [] ls = ckL (ls.take k) (ls.drop k)) ∧ Hid (Since w wr)) (fun i _ => n - (intOf i).toNat)
    case atStart => exact ⟨0, by omega, rfl, by simp [Hid], since_refl w⟩
    case round =>
      obtain ⟨k, hk, rfl, hck, hs⟩ := hrel
      by_cases hlt : k < n
      · obtain ⟨x, hx⟩ := some_of_lt ls (k := k) (by rw [HL.out.len]; exact hlt)
        have HX := Lib.hid hx
        have HT := Lib.hid ((HL.out.take (Nat.le_of_lt hlt)).below hs.out)
        obtain ⟨b, off, hA, hb, hc⟩ := (HL.out.below hs.out).at_ (by omega)
        subst hA
        obtain ⟨e0, e1, e2, e3, e4⟩ := hc k x hx
        have HS := Lib.hid hs.out
        have hzr := hs.out.size
        clear hc hx hs
        have n1 : (0 : Int) ≤ (k : Int) := by omega
        have n2 : (k : Int) ≤ (c : Int) := by omega
        by_cases hR : lineR x
        · have HR := Lib.hid hR
          unfold lineR at hR
          obtain ⟨⟨r1, r2⟩, ⟨r3, r4⟩, r5, r6⟩ := hR
          cases hrd : x.rd
          · have HRD := Lib.hid hrd
            clear hrd
            rw [HRD.out] at e3
            go_wp2
            go_ret
            exact ⟨ret_int (hck.out.trans ((ckL_bad HX.out (by rw [lineE_f HR.out HRD.out]; decide)).trans (lineE_f HR.out HRD.out))).symm, by (repeat (first | (with_reducible exact Below.refl _ _) | (with_reducible refine Below.drew ?_) | (with_reducible refine bdrewN ?_ _) | ((with_reducible refine Below.setCell ?_ ?_ _); rotate_left; exact (by first | (simp; done) | (simp; omega) | omega)) | ((with_reducible refine Below.alloc ?_ ?_ _); rotate_left; exact (by first | (simp; done) | (simp; omega) | omega)))); exact HS.out⟩
          · have HRD := Lib.hid hrd
            clear hrd
            rw [HRD.out] at e3
            by_cases hf : 0 ≤ findL (ls.take k) x.dev x.page
            · have HF := Lib.hid hf
              have hf1 : decide (0 ≤ findL (ls.take k) x.dev x.page) = true := by simpa using hf
              clear hf
              go_wp2
              go_region_held3 (fun W => W.cell? ⟨wr.heap.size, 0, none⟩ = some (.int .i64 x.dev) ∧ W.cell? ⟨wr.heap.size, 1, none⟩ = some (.int .i64 x.page))
                (first | (refine ⟨?_, ?_⟩ <;> (simp (maxDischargeDepth := 8) [go_sem]; done)) | (refine ⟨?_, ?_⟩ <;> (simp (maxDischargeDepth := 8) [go_sem, k1_0]; done)) | go_keep)
                (first
                  | (go_at_call 52; refine (cache_Find _ _ _ (ls.take k) _ _ _ ?_).mono ?_; (exact ((HT.out.more hzr).alloc (Nat.le_refl _) _).more (by simp)); (rintro e w1 ⟨rfl, hb1⟩; have hz1 := hb1.size; (try simp only [World.size_alloc, World.size_setCell, World.size_drew] at hz1); have k1_0 := fun o => (bcell hb1).1 (wr.heap.size) o (by first | (simp; done) | (simp; omega) | omega); have l1_0 : (wr.heap.size) < w1.heap.size := (by omega); have q1_0 := fun o => (bcell hb1).2 (wr.heap.size) o (by first | (simp; done) | (simp; omega) | omega); simp (maxDischargeDepth := 6) [go_sem, *] at k1_0 q1_0; have HB1 := Lib.hid hb1; clear hb1)))
              go_wp2
              go_ret
              exact ⟨ret_int (hck.out.trans (ckL_twice HX.out (lineE_0 HR.out HRD.out) HF.out)).symm, by (repeat (first | (with_reducible exact Below.refl _ _) | (with_reducible refine Below.drew ?_) | (with_reducible refine bdrewN ?_ _) | ((with_reducible refine Below.setCell ?_ ?_ _); rotate_left; exact (by first | (simp; done) | (simp; omega) | omega)) | ((with_reducible refine Below.alloc ?_ ?_ _); rotate_left; exact (by first | (simp; done) | (simp; omega) | omega)) | ((with_reducible refine Below.trans ?_ (HB1.out.mono ?_)); rotate_left; exact (by first | (simp; done) | (simp; omega) | omega)))); exact HS.out⟩
            · have HF := Lib.hid (show findL (ls.take k) x.dev x.page < 0 by omega)
              have hf1 : decide (0 ≤ findL (ls.take k) x.dev x.page) = false := by simpa using hf
              clear hf
              go_wp2
              go_region_held3 (fun W => W.cell? ⟨wr.heap.size, 0, none⟩ = some (.int .i64 x.dev) ∧ W.cell? ⟨wr.heap.size, 1, none⟩ = some (.int .i64 x.page))
                (first | (refine ⟨?_, ?_⟩ <;> (simp (maxDischargeDepth := 8) [go_sem]; done)) | (refine ⟨?_, ?_⟩ <;> (simp (maxDischargeDepth := 8) [go_sem, k1_0]; done)) | go_keep)
                (first
                  | (go_at_call 52; refine (cache_Find _ _ _ (ls.take k) _ _ _ ?_).mono ?_; (exact ((HT.out.more hzr).alloc (Nat.le_refl _) _).more (by simp)); (rintro e w1 ⟨rfl, hb1⟩; have hz1 := hb1.size; (try simp only [World.size_alloc, World.size_setCell, World.size_drew] at hz1); have k1_0 := fun o => (bcell hb1).1 (wr.heap.size) o (by first | (simp; done) | (simp; omega) | omega); have l1_0 : (wr.heap.size) < w1.heap.size := (by omega); have q1_0 := fun o => (bcell hb1).2 (wr.heap.size) o (by first | (simp; done) | (simp; omega) | omega); simp (maxDischargeDepth := 6) [go_sem, *] at k1_0 q1_0; have HB1 := Lib.hid hb1; clear hb1)))
              go_wp2
              go_roundw
              case rel => exact ⟨k + 1, by omega, by go_num, hck.out.trans (ckL_step HX.out (lineE_0 HR.out HRD.out) HF.out), by show Below _ _ _; (repeat (first | (with_reducible exact Below.refl _ _) | (with_reducible refine Below.drew ?_) | (with_reducible refine bdrewN ?_ _) | ((with_reducible refine Below.setCell ?_ ?_ _); rotate_left; exact (by first | (simp; done) | (simp; omega) | omega)) | ((with_reducible refine Below.alloc ?_ ?_ _); rotate_left; exact (by first | (simp; done) | (simp; omega) | omega)) | ((with_reducible refine Below.trans ?_ (HB1.out.mono ?_)); rotate_left; exact (by first | (simp; done) | (simp; omega) | omega)))); exact HS.out⟩
              case measure => simp [intOf]; omega
        · have HE := Lib.hid (lineE_r hR)
          have hr2 : x.dev < 0 ∨ (0 ≤ x.dev ∧ 8 ≤ x.dev) ∨ (0 ≤ x.dev ∧ x.dev < 8 ∧ x.page < 0) ∨ (0 ≤ x.dev ∧ x.dev < 8 ∧ 0 ≤ x.page ∧ 64 ≤ x.page) ∨ (0 ≤ x.dev ∧ x.dev < 8 ∧ 0 ≤ x.page ∧ x.page < 64 ∧ x.at_ < 0) ∨ (0 ≤ x.dev ∧ x.dev < 8 ∧ 0 ≤ x.page ∧ x.page < 64 ∧ 0 ≤ x.at_ ∧ 64 ≤ x.at_) := by unfold lineR at hR; omega
          clear hR
          rcases hr2 with r1 | ⟨r1, r2⟩ | ⟨r1, r2, r3⟩ | ⟨r1, r2, r3, r4⟩ | ⟨r1, r2, r3, r4, r5⟩ | ⟨r1, r2, r3, r4, r5, r6⟩
          all_goals
            go_wp2
            go_ret
            exact ⟨ret_int (hck.out.trans ((ckL_bad HX.out (by rw [HE.out]; decide)).trans HE.out)).symm, by (repeat (first | (with_reducible exact Below.refl _ _) | (with_reducible refine Below.drew ?_) | (with_reducible refine bdrewN ?_ _) | ((with_reducible refine Below.setCell ?_ ?_ _); rotate_left; exact (by first | (simp; done) | (simp; omega) | omega)) | ((with_reducible refine Below.alloc ?_ ?_ _); rotate_left; exact (by first | (simp; done) | (simp; omega) | omega)))); exact HS.out⟩
      · obtain rfl : k = n := by omega
        go_wp2
        go_ret
        exact ⟨ret_int (hck.out.trans (by rw [← HL.out.len]; exact ckL_end ls)).symm, hs.out⟩
  · have H6 := Lib.hid (ckC_many (show 6 < ls.length by omega))
    rw [H6.out]
    clear hlen
    have h6' : (6 : Int) < (n : Int) := by omega
    go_enter Try.func32, Try.ntmps32
    go_wp2
    go_ret
    exact ⟨rfl, Below.refl _ _⟩
end

section
section
attribute [local go_sem ↓] Go.wp_at_zero Go.wp_at_succ

theorem lines_new (w : World) (x : Line) : Lines (w.alloc (.cells #[.int .i64 x.dev, .int .i64 x.page, .int .i64 x.at_, .bool x.rd, .bool x.wr] 77)) (w.heap.size + 1) (some ⟨w.heap.size, 0, none⟩) 1 1 [x] :=
  ⟨rfl, Nat.le_refl _, by unfold maxLen; omega, (fun e => by cases e), fun _ => ⟨w.heap.size, 0, rfl, by omega, fun k v hv => by
    simp only [lcells, List.flatMap_cons, List.flatMap_nil, List.append_nil, Line.vals] at hv
    rw [Nat.zero_add, World.cell?_alloc_new]
    simpa using hv⟩⟩

end

section
attribute [local go_sem ↓] Go.wp_at_zero Go.wp_at_succ

theorem Lines.drop1 {w : World} {B n c b off : Nat} {ls : List Line} (h : Lines w B (some ⟨b, off, none⟩) (n + 1) c ls) : Lines w B (some ⟨b, off + 5, none⟩) n (c - 1) (ls.drop 1) :=
  ⟨by rw [List.length_drop, h.1]; omega, by have := h.2.1; omega, by have := h.2.2.1; omega, (fun e => by cases e), fun h0 => by
    have hl : 0 < (lcells ls).length := by rw [lcells_len, h.1]; omega
    obtain ⟨b', off', e, hb, hc⟩ := h.2.2.2.2 hl
    simp only [Option.some.injEq, Addr.mk.injEq, and_true] at e
    obtain ⟨rfl, rfl⟩ := e
    refine ⟨_, _, rfl, hb, fun j v hv => ?_⟩
    rw [← lcells_drop, List.getElem?_drop] at hv
    rw [Nat.add_assoc]
    exact hc _ v (by simpa using hv)⟩
theorem own_ge {B : Nat} {w : World} {e : TypeId} {size n : Nat} {v : Value} {ys : List Value} (h : w.ownsRow B e size v n ys) : ∀ k, v.ownBlock = some k → B ≤ k := by
  intro k hk
  rcases own_form h with ⟨hv, _⟩ | ⟨g, cap, hv, _, _, hg, _⟩
  · subst hv; simp [Value.ownBlock] at hk
  · subst hv; simp [Value.ownBlock] at hk; omega
theorem news_new (w : World) (x : Line) : ∀ j u, x.vals[j]? = some u → (w.alloc (.cells #[.int .i64 x.dev, .int .i64 x.page, .int .i64 x.at_, .bool x.rd, .bool x.wr] 77)).cell? ((⟨w.heap.size, 0, none⟩ : Addr).add j) = some u := by
  intro j u hu
  rw [add_at, Nat.zero_add, World.cell?_alloc_new]
  simpa [Line.vals] using hu
theorem news_old {w w' : World} (x : Line) (hb : Below (w.alloc (.cells #[.int .i64 x.dev, .int .i64 x.page, .int .i64 x.at_, .bool x.rd, .bool x.wr] 77)).heap.size (w.alloc (.cells #[.int .i64 x.dev, .int .i64 x.page, .int .i64 x.at_, .bool x.rd, .bool x.wr] 77)) w') :
    ∀ j u, x.vals[j]? = some u → w'.cell? ((⟨w.heap.size, 0, none⟩ : Addr).add j) = some u := by
  intro j u hu
  have := news_new w x j u hu
  exact (Below.cell hb (cell_lt' this)).trans this
theorem vals_one (x : Line) : ∀ u ∈ x.vals, u.oneCell' = true := by
  intro u hu; simp [Line.vals] at hu; rcases hu with rfl | rfl | rfl | rfl | rfl <;> rfl

theorem own_fill {B g cap m : Nat} {w : World} {ls : List Line} {x : Line} (hl : ls.length = m + 1) (h : w.ownsRow B 77 5 (.slice (some ⟨g, 0, none⟩) (m + 1) cap) (m + 1) (lcells (ls.drop 1) ++ x.vals)) : OwnL B w (some ⟨g, 0, none⟩) (m + 1) cap (ls.drop 1 ++ [x]) := by
  have e : lcells (ls.drop 1 ++ [x]) = lcells (ls.drop 1) ++ x.vals := by rw [lcells_append]; simp [lcells]
  rcases own_form h with ⟨hv, _⟩ | ⟨g', cap', hv, h1, h2, _⟩
  · injection hv with e1; cases e1
  · injection hv with e1 e2 e3
    subst e3
    exact ⟨by simp [hl], h1, h2, by rw [e]; exact h⟩
def FillC (w : World) (n : Nat) (ls : List Line) (e : Ending) (w' : World) : Prop := ∃ A c, e = .returned (.tuple #[.slice A n c, .int .i64 0]) ∧ OwnL w.heap.size w' A n c ls ∧ Below w.heap.size w w'

set_option maxRecDepth 100000 in
set_option maxHeartbeats 8000000 in
theorem cache_Fill_6 (b off c : Nat) (ls : List Line) (x : Line) (w : World) (hl : Lines w w.heap.size (some ⟨b, off, none⟩) 6 c ls) (h0 : ckC ls = 0) (h1 : lineE x = 0) (h2 : findL ls x.dev x.page < 0) :
    Calls Try.prog 63 #[.slice (some ⟨b, off, none⟩) 6 c, .agg #[.int .i64 x.dev, .int .i64 x.page, .int .i64 x.at_, .bool x.rd, .bool x.wr]] w (FillC w 6 (ls.drop 1 ++ [x])) := by
  obtain ⟨i0, hi, hz0, hz1, hz2⟩ := info_parts Try.infoLine
  have HI := Lib.hid hi; clear hi
  have HZ0 := Lib.hid hz0; clear hz0
  have HZ1 := Lib.hid hz1; clear hz1
  have HZ2 := Lib.hid hz2; clear hz2
  have HL := Lib.hid hl
  have HL1 := Lib.hid (Lines.drop1 hl)
  obtain ⟨hc1, hc2⟩ := hl.cap
  have c1 : (6 : Int) ≤ (c : Int) := by omega
  have c2 : ¬ c = 1 := by omega
  have t0 : (ckC ls != 0) = false := by rw [bne_eq_false_iff_eq]; exact h0
  have t1 : (lineE x != 0) = false := by rw [bne_eq_false_iff_eq]; exact h1
  have t2 : decide (0 ≤ findL ls x.dev x.page) = false := by simp; omega
  have HF := Lib.hid h2
  clear h0 h1 h2 hl
  go_enter Try.func63, Try.ntmps63
  go_wp2_with fail
  refine (cache_Check _ _ _ ls _ ((HL.out.alloc (Nat.le_refl _) _).more (by simp))).mono ?_
  rintro e w1 ⟨rfl, hb1⟩
  have hz1 := hb1.size
  (try simp only [World.size_alloc, World.size_setCell, World.size_drew] at hz1)
  have k1_0 := fun o => (bcell hb1).1 (w.heap.size) o (by first | (simp; done) | (simp; omega) | omega)
  have l1_0 : (w.heap.size) < w1.heap.size := (by omega)
  have q1_0 := fun o => (bcell hb1).2 (w.heap.size) o (by first | (simp; done) | (simp; omega) | omega)
  simp (maxDischargeDepth := 6) [go_sem, *] at k1_0 q1_0
  have HB1 := Lib.hid hb1
  clear hb1
  go_wp2_with fail
  refine (cache_Check _ _ _ [x] _ ((lines_new _ x).more (by simp))).mono ?_
  rw [ckC_one]
  rintro e w2 ⟨rfl, hb2⟩
  have hz2 := hb2.size
  (try simp only [World.size_alloc, World.size_setCell, World.size_drew] at hz2)
  have k2_0 := fun o => (bcell hb2).1 (w.heap.size) o (by first | (simp; done) | (simp; omega) | omega)
  have l2_0 : (w.heap.size) < w2.heap.size := (by omega)
  have q2_0 := fun o => (bcell hb2).2 (w.heap.size) o (by first | (simp; done) | (simp; omega) | omega)
  simp (maxDischargeDepth := 6) [go_sem, *] at k2_0 q2_0
  have HB2 := Lib.hid hb2
  clear hb2
  have L2 := Lib.hid ((((HL.out.alloc (Nat.le_refl _) (.cells #[.int .i64 x.dev, .int .i64 x.page, .int .i64 x.at_, .bool x.rd, .bool x.wr] 77)).below (HB1.out.mono (by simp))).alloc (by omega) (.cells #[.int .i64 x.dev, .int .i64 x.page, .int .i64 x.at_, .bool x.rd, .bool x.wr] 77) |>.below (HB2.out.mono (by simp; omega))).more (B' := w2.heap.size) (by omega))
  have M2 := Lib.hid ((((HL1.out.alloc (Nat.le_refl _) (.cells #[.int .i64 x.dev, .int .i64 x.page, .int .i64 x.at_, .bool x.rd, .bool x.wr] 77)).below (HB1.out.mono (by simp))).alloc (by omega) (.cells #[.int .i64 x.dev, .int .i64 x.page, .int .i64 x.at_, .bool x.rd, .bool x.wr] 77) |>.below (HB2.out.mono (by simp; omega))).more (B' := w2.heap.size) (by omega))
  go_wp2_with fail
  refine (cache_Find _ _ _ ls _ _ _ L2.out).mono ?_
  rintro e w3 ⟨rfl, hb3⟩
  have hz3 := hb3.size
  (try simp only [World.size_alloc, World.size_setCell, World.size_drew] at hz3)
  have k3_0 := fun o => (bcell hb3).1 (w.heap.size) o (by first | (simp; done) | (simp; omega) | omega)
  have l3_0 : (w.heap.size) < w3.heap.size := (by omega)
  have q3_0 := fun o => (bcell hb3).2 (w.heap.size) o (by first | (simp; done) | (simp; omega) | omega)
  simp (maxDischargeDepth := 6) [go_sem, *] at k3_0 q3_0
  have HB3 := Lib.hid hb3
  clear hb3
  have M3 := Lib.hid ((M2.out.below HB3.out).more (B' := w3.heap.size) (by omega))
  have C0 : w3.cell? ⟨w.heap.size, 0, none⟩ = some (.int .i64 x.dev) := by simp [k3_0]
  have C1 : w3.cell? ⟨w.heap.size, 1, none⟩ = some (.int .i64 x.page) := by simp [k3_0]
  have C2 : w3.cell? ⟨w.heap.size, 2, none⟩ = some (.int .i64 x.at_) := by simp [k3_0]
  have C3 : w3.cell? ⟨w.heap.size, 3, none⟩ = some (.bool x.rd) := by simp [k3_0]
  have C4 : w3.cell? ⟨w.heap.size, 4, none⟩ = some (.bool x.wr) := by simp [k3_0]
  have HC := Lib.hid (And.intro C0 (And.intro C1 (And.intro C2 (And.intro C3 C4))))
  clear C0 C1 C2 C3 C4
  go_wp2_with fail
  have e1 : IntKind.i64.wrap 7 = 7 := by decide
  have e2 : IntKind.i64.wrap (7 - 6) = 1 := by decide
  have e3 : IntKind.i64.wrap 1 = 1 := by decide
  go_region_held3 (fun W => W.cell? ⟨w.heap.size, 0, none⟩ = some (.int .i64 x.dev) ∧ W.cell? ⟨w.heap.size, 1, none⟩ = some (.int .i64 x.page) ∧ W.cell? ⟨w.heap.size, 2, none⟩ = some (.int .i64 x.at_) ∧ W.cell? ⟨w.heap.size, 3, none⟩ = some (.bool x.rd) ∧ W.cell? ⟨w.heap.size, 4, none⟩ = some (.bool x.wr))
    (first
      | exact HC.out
      | (refine ⟨?_, ?_, ?_, ?_, ?_⟩; (exact Eq.trans (hgrow.cell_far ⟨w.heap.size, 0, none⟩ (by simp; omega) (fun e => absurd (own_ge HO4.out.2.2.2 _ e.symm) (by simp; omega))) (by simp (maxDischargeDepth := 8) [go_sem, k4_0, l4_0])); (exact Eq.trans (hgrow.cell_far ⟨w.heap.size, 1, none⟩ (by simp; omega) (fun e => absurd (own_ge HO4.out.2.2.2 _ e.symm) (by simp; omega))) (by simp (maxDischargeDepth := 8) [go_sem, k4_0, l4_0])); (exact Eq.trans (hgrow.cell_far ⟨w.heap.size, 2, none⟩ (by simp; omega) (fun e => absurd (own_ge HO4.out.2.2.2 _ e.symm) (by simp; omega))) (by simp (maxDischargeDepth := 8) [go_sem, k4_0, l4_0])); (exact Eq.trans (hgrow.cell_far ⟨w.heap.size, 3, none⟩ (by simp; omega) (fun e => absurd (own_ge HO4.out.2.2.2 _ e.symm) (by simp; omega))) (by simp (maxDischargeDepth := 8) [go_sem, k4_0, l4_0])); (exact Eq.trans (hgrow.cell_far ⟨w.heap.size, 4, none⟩ (by simp; omega) (fun e => absurd (own_ge HO4.out.2.2.2 _ e.symm) (by simp; omega))) (by simp (maxDischargeDepth := 8) [go_sem, k4_0, l4_0])))
      | (refine ⟨?_, ?_, ?_, ?_, ?_⟩ <;> (simp (maxDischargeDepth := 8) [go_sem, k4_0]; done))
      | (refine ⟨?_, ?_, ?_, ?_, ?_⟩ <;> (simp (maxDischargeDepth := 8) [go_sem, HC.out.1, HC.out.2.1, HC.out.2.2.1, HC.out.2.2.2.1, HC.out.2.2.2.2]; done))
      | go_keep)
    (first
      | (go_at_call 51; refine (sl_CloneL _ _ _ (ls.drop 1) _ ?_ (by decide)).mono ?_; (first | exact M3.out.drew | exact (M3.out.drew.alloc (Nat.le_refl _) _).more (by simp)); rintro e w4 ⟨A4, c4, rfl, ho4, hb4⟩; have HO4 : Hid (OwnL w3.heap.size w4 A4 5 c4 (ls.drop 1)) := Lib.hid (ho4.low (by simp)); clear ho4; have hb4' := hb4; have hz4 := hb4.size; (try simp only [World.size_alloc, World.size_setCell, World.size_drew] at hz4); have k4_0 := fun o => (bcell hb4).1 (w.heap.size) o (by first | (simp; done) | (simp; omega) | omega); have l4_0 : (w.heap.size) < w4.heap.size := (by omega); have q4_0 := fun o => (bcell hb4).2 (w.heap.size) o (by first | (simp; done) | (simp; omega) | omega); simp (maxDischargeDepth := 6) [go_sem, *] at k4_0 q4_0; have HB4 := Lib.hid hb4; clear hb4)
      | (revert HO4; intro HO4; refine step_append_lies _ (by rfl) (.tmp 33) (.tmp 35) 27 (by rfl) w3.heap.size 77 i0 (.agg #[.int .i64 0, .int .i64 0, .int .i64 0, .bool false, .bool false]) 5 32 Try.underlying27 HI.out HZ0.out HZ1.out HZ2.out (by rfl) (by decide) (.slice A4 5 c4) 5 (lcells (ls.drop 1)) (by rfl) HO4.out.2.2.2 ⟨w3.heap.size, 0, none⟩ 1 1 x.vals (by rfl) (by rfl) (news_old (w := w3.drew) x hb4') (vals_one x) (by decide) (by unfold maxLen; omega) (by decide) (by omega) _ rfl ?_; intro g cap w5 hown5 hgrow hat hlt)
      | (revert HO4; intro HO4; refine step_append_lies _ (by rfl) (.tmp 33) (.tmp 35) 27 (by rfl) w3.heap.size 77 i0 (.agg #[.int .i64 0, .int .i64 0, .int .i64 0, .bool false, .bool false]) 5 32 Try.underlying27 HI.out HZ0.out HZ1.out HZ2.out (by rfl) (by decide) (.slice A4 5 c4) 5 (lcells (ls.drop 1)) (by rfl) (HO4.out.alloc _).2.2.2 ⟨w4.heap.size, 0, none⟩ 1 1 x.vals (by rfl) (by rfl) (news_new w4 x) (vals_one x) (by decide) (by unfold maxLen; omega) (by decide) (by simp; omega) _ rfl ?_; intro g cap w5 hown5 hgrow hat hlt))
  all_goals
    have hbw : Below w3.heap.size w3 w5 := by
      first
        | exact Below.grown (Below.alloc (B := w3.heap.size) (by (repeat (first | (with_reducible exact Below.refl _ _) | (with_reducible refine Below.drew ?_) | (with_reducible refine bdrewN ?_ _) | ((with_reducible refine Below.setCell ?_ ?_ _); rotate_left; exact (by first | (simp; done) | (simp; omega) | omega)) | ((with_reducible refine Below.alloc ?_ ?_ _); rotate_left; exact (by first | (simp; done) | (simp; omega) | omega)) | ((with_reducible refine Below.trans ?_ (HB4.out.mono ?_)); rotate_left; exact (by first | (simp; done) | (simp; omega) | omega))))) (by omega) _) hgrow (by simp; omega) (own_ge HO4.out.2.2.2)
        | exact Below.grown (by (repeat (first | (with_reducible exact Below.refl _ _) | (with_reducible refine Below.drew ?_) | (with_reducible refine bdrewN ?_ _) | ((with_reducible refine Below.setCell ?_ ?_ _); rotate_left; exact (by first | (simp; done) | (simp; omega) | omega)) | ((with_reducible refine Below.alloc ?_ ?_ _); rotate_left; exact (by first | (simp; done) | (simp; omega) | omega)) | ((with_reducible refine Below.trans ?_ (HB4.out.mono ?_)); rotate_left; exact (by first | (simp; done) | (simp; omega) | omega))))) hgrow (by omega) (own_ge HO4.out.2.2.2)
    have HBW := Lib.hid hbw
    have HO5 := Lib.hid (own_fill (HL.out.len) hown5)
    clear hgrow hat hlt hown5 hbw e1 e2 e3
    go_wp2
    go_ret2
    exact ⟨some ⟨g, 0, none⟩, cap, rfl, HO5.out.low (by omega), (by (repeat (first | (with_reducible exact Below.refl _ _) | (with_reducible refine Below.drew ?_) | (with_reducible refine bdrewN ?_ _) | ((with_reducible refine Below.setCell ?_ ?_ _); rotate_left; exact (by first | (simp; done) | (simp; omega) | omega)) | ((with_reducible refine Below.alloc ?_ ?_ _); rotate_left; exact (by first | (simp; done) | (simp; omega) | omega)) | ((with_reducible refine Below.trans ?_ (HB3.out.mono ?_)); rotate_left; exact (by first | (simp; done) | (simp; omega) | omega)) | ((with_reducible refine Below.trans ?_ (HB2.out.mono ?_)); rotate_left; exact (by first | (simp; done) | (simp; omega) | omega)) | ((with_reducible refine Below.trans ?_ (HB1.out.mono ?_)); rotate_left; exact (by first | (simp; done) | (simp; omega) | omega)))) : Below w.heap.size w w3).trans (HBW.out.mono (by omega))⟩
end

section
attribute [local go_sem ↓] Go.wp_at_zero Go.wp_at_succ

theorem own_fill0 {B g cap n : Nat} {w : World} {ls : List Line} {x : Line} (hl : ls.length = n) (h : w.ownsRow B 77 5 (.slice (some ⟨g, 0, none⟩) (n + 1) cap) (n + 1) (lcells ls ++ x.vals)) : OwnL B w (some ⟨g, 0, none⟩) (n + 1) cap (ls ++ [x]) := by
  have e : lcells (ls ++ [x]) = lcells ls ++ x.vals := by rw [lcells_append]; simp [lcells]
  rcases own_form h with ⟨hv, _⟩ | ⟨g', cap', hv, h1, h2, _⟩
  · injection hv with e1; cases e1
  · injection hv with e1 e2 e3
    subst e3
    exact ⟨by simp [hl], h1, h2, by rw [e]; exact h⟩

set_option maxRecDepth 100000 in
set_option maxHeartbeats 8000000 in
theorem cache_Fill_n  (ls : List Line) (x : Line) (w : World) (hl : Lines w w.heap.size (none) 0 0 ls) (h0 : ckC ls = 0) (h1 : lineE x = 0) (h2 : findL ls x.dev x.page < 0) :
    Calls Try.prog 63 #[.slice (none) 0 0, .agg #[.int .i64 x.dev, .int .i64 x.page, .int .i64 x.at_, .bool x.rd, .bool x.wr]] w (FillC w (0 + 1) (ls ++ [x])) := by
  obtain ⟨i0, hi, hz0, hz1, hz2⟩ := info_parts Try.infoLine
  have HI := Lib.hid hi; clear hi
  have HZ0 := Lib.hid hz0; clear hz0
  have HZ1 := Lib.hid hz1; clear hz1
  have HZ2 := Lib.hid hz2; clear hz2
  have HL := Lib.hid hl
  have HL1 := Lib.hid hl
  have HLEN := Lib.hid hl.len
  obtain ⟨hc1, hc2⟩ := hl.cap
  have HE := Lib.hid (show IntKind.i64.wrap 1 = 1 ∧ IntKind.i64.wrap (1 - 6) = -5 ∧ IntKind.i64.wrap (-5) = -5 by decide)
  have t0 : (ckC ls != 0) = false := by rw [bne_eq_false_iff_eq]; exact h0
  have t1 : (lineE x != 0) = false := by rw [bne_eq_false_iff_eq]; exact h1
  have t2 : decide (0 ≤ findL ls x.dev x.page) = false := by simp; omega
  have HF := Lib.hid h2
  clear h0 h1 h2 hl
  go_enter Try.func63, Try.ntmps63
  go_wp2_with fail
  refine (cache_Check _ _ _ ls _ ((HL.out.alloc (Nat.le_refl _) _).more (by simp))).mono ?_
  rintro e w1 ⟨rfl, hb1⟩
  have hz1 := hb1.size
  (try simp only [World.size_alloc, World.size_setCell, World.size_drew] at hz1)
  have k1_0 := fun o => (bcell hb1).1 (w.heap.size) o (by first | (simp; done) | (simp; omega) | omega)
  have l1_0 : (w.heap.size) < w1.heap.size := (by omega)
  have q1_0 := fun o => (bcell hb1).2 (w.heap.size) o (by first | (simp; done) | (simp; omega) | omega)
  simp (maxDischargeDepth := 6) [go_sem, *] at k1_0 q1_0
  have HB1 := Lib.hid hb1
  clear hb1
  go_wp2_with fail
  refine (cache_Check _ _ _ [x] _ ((lines_new _ x).more (by simp))).mono ?_
  rw [ckC_one]
  rintro e w2 ⟨rfl, hb2⟩
  have hz2 := hb2.size
  (try simp only [World.size_alloc, World.size_setCell, World.size_drew] at hz2)
  have k2_0 := fun o => (bcell hb2).1 (w.heap.size) o (by first | (simp; done) | (simp; omega) | omega)
  have l2_0 : (w.heap.size) < w2.heap.size := (by omega)
  have q2_0 := fun o => (bcell hb2).2 (w.heap.size) o (by first | (simp; done) | (simp; omega) | omega)
  simp (maxDischargeDepth := 6) [go_sem, *] at k2_0 q2_0
  have HB2 := Lib.hid hb2
  clear hb2
  have L2 := Lib.hid ((((HL.out.alloc (Nat.le_refl _) (.cells #[.int .i64 x.dev, .int .i64 x.page, .int .i64 x.at_, .bool x.rd, .bool x.wr] 77)).below (HB1.out.mono (by simp))).alloc (by omega) (.cells #[.int .i64 x.dev, .int .i64 x.page, .int .i64 x.at_, .bool x.rd, .bool x.wr] 77) |>.below (HB2.out.mono (by simp; omega))).more (B' := w2.heap.size) (by omega))
  have M2 := Lib.hid ((((HL1.out.alloc (Nat.le_refl _) (.cells #[.int .i64 x.dev, .int .i64 x.page, .int .i64 x.at_, .bool x.rd, .bool x.wr] 77)).below (HB1.out.mono (by simp))).alloc (by omega) (.cells #[.int .i64 x.dev, .int .i64 x.page, .int .i64 x.at_, .bool x.rd, .bool x.wr] 77) |>.below (HB2.out.mono (by simp; omega))).more (B' := w2.heap.size) (by omega))
  go_wp2_with fail
  refine (cache_Find _ _ _ ls _ _ _ L2.out).mono ?_
  rintro e w3 ⟨rfl, hb3⟩
  have hz3 := hb3.size
  (try simp only [World.size_alloc, World.size_setCell, World.size_drew] at hz3)
  have k3_0 := fun o => (bcell hb3).1 (w.heap.size) o (by first | (simp; done) | (simp; omega) | omega)
  have l3_0 : (w.heap.size) < w3.heap.size := (by omega)
  have q3_0 := fun o => (bcell hb3).2 (w.heap.size) o (by first | (simp; done) | (simp; omega) | omega)
  simp (maxDischargeDepth := 6) [go_sem, *] at k3_0 q3_0
  have HB3 := Lib.hid hb3
  clear hb3
  have M3 := Lib.hid ((M2.out.below HB3.out).more (B' := w3.heap.size) (by omega))
  have C0 : w3.cell? ⟨w.heap.size, 0, none⟩ = some (.int .i64 x.dev) := by simp [k3_0]
  have C1 : w3.cell? ⟨w.heap.size, 1, none⟩ = some (.int .i64 x.page) := by simp [k3_0]
  have C2 : w3.cell? ⟨w.heap.size, 2, none⟩ = some (.int .i64 x.at_) := by simp [k3_0]
  have C3 : w3.cell? ⟨w.heap.size, 3, none⟩ = some (.bool x.rd) := by simp [k3_0]
  have C4 : w3.cell? ⟨w.heap.size, 4, none⟩ = some (.bool x.wr) := by simp [k3_0]
  have HC := Lib.hid (And.intro C0 (And.intro C1 (And.intro C2 (And.intro C3 C4))))
  clear C0 C1 C2 C3 C4
  go_wp2_with fail
  obtain ⟨e1, e2, e3⟩ := HE.out
  go_region_held3 (fun W => W.cell? ⟨w.heap.size, 0, none⟩ = some (.int .i64 x.dev) ∧ W.cell? ⟨w.heap.size, 1, none⟩ = some (.int .i64 x.page) ∧ W.cell? ⟨w.heap.size, 2, none⟩ = some (.int .i64 x.at_) ∧ W.cell? ⟨w.heap.size, 3, none⟩ = some (.bool x.rd) ∧ W.cell? ⟨w.heap.size, 4, none⟩ = some (.bool x.wr))
    (first
      | exact HC.out
      | (refine ⟨?_, ?_, ?_, ?_, ?_⟩; (exact Eq.trans (hgrow.cell_far ⟨w.heap.size, 0, none⟩ (by simp; omega) (fun e => absurd (own_ge HO4.out.2.2.2 _ e.symm) (by simp; omega))) (by simp (maxDischargeDepth := 8) [go_sem, k4_0, l4_0])); (exact Eq.trans (hgrow.cell_far ⟨w.heap.size, 1, none⟩ (by simp; omega) (fun e => absurd (own_ge HO4.out.2.2.2 _ e.symm) (by simp; omega))) (by simp (maxDischargeDepth := 8) [go_sem, k4_0, l4_0])); (exact Eq.trans (hgrow.cell_far ⟨w.heap.size, 2, none⟩ (by simp; omega) (fun e => absurd (own_ge HO4.out.2.2.2 _ e.symm) (by simp; omega))) (by simp (maxDischargeDepth := 8) [go_sem, k4_0, l4_0])); (exact Eq.trans (hgrow.cell_far ⟨w.heap.size, 3, none⟩ (by simp; omega) (fun e => absurd (own_ge HO4.out.2.2.2 _ e.symm) (by simp; omega))) (by simp (maxDischargeDepth := 8) [go_sem, k4_0, l4_0])); (exact Eq.trans (hgrow.cell_far ⟨w.heap.size, 4, none⟩ (by simp; omega) (fun e => absurd (own_ge HO4.out.2.2.2 _ e.symm) (by simp; omega))) (by simp (maxDischargeDepth := 8) [go_sem, k4_0, l4_0])))
      | (refine ⟨?_, ?_, ?_, ?_, ?_⟩ <;> (simp (maxDischargeDepth := 8) [go_sem, k4_0]; done))
      | (refine ⟨?_, ?_, ?_, ?_, ?_⟩ <;> (simp (maxDischargeDepth := 8) [go_sem, HC.out.1, HC.out.2.1, HC.out.2.2.1, HC.out.2.2.2.1, HC.out.2.2.2.2]; done))
      | go_keep)
    (first
      | (go_at_call 51; refine (sl_CloneL _ _ _ ls _ ?_ (by omega)).mono ?_; (first | exact M3.out.drew | exact (M3.out.drew.alloc (Nat.le_refl _) _).more (by simp)); rintro e w4 ⟨A4, c4, rfl, ho4, hb4⟩; have HO4 : Hid (OwnL w3.heap.size w4 A4 (0) c4 ls) := Lib.hid (ho4.low (by simp)); clear ho4; have hb4' := hb4; have hz4 := hb4.size; (try simp only [World.size_alloc, World.size_setCell, World.size_drew] at hz4); have k4_0 := fun o => (bcell hb4).1 (w.heap.size) o (by first | (simp; done) | (simp; omega) | omega); have l4_0 : (w.heap.size) < w4.heap.size := (by omega); have q4_0 := fun o => (bcell hb4).2 (w.heap.size) o (by first | (simp; done) | (simp; omega) | omega); simp (maxDischargeDepth := 6) [go_sem, *] at k4_0 q4_0; have HB4 := Lib.hid hb4; clear hb4)
      | (revert HO4; intro HO4; refine step_append_lies _ (by rfl) (.tmp 33) (.tmp 35) 27 (by rfl) w3.heap.size 77 i0 (.agg #[.int .i64 0, .int .i64 0, .int .i64 0, .bool false, .bool false]) 5 32 Try.underlying27 HI.out HZ0.out HZ1.out HZ2.out (by rfl) (by decide) (.slice A4 (0) c4) (0) (lcells ls) (by rfl) HO4.out.2.2.2 ⟨w3.heap.size, 0, none⟩ 1 1 x.vals (by rfl) (by rfl) (news_old (w := w3.drew) x hb4') (vals_one x) (by decide) (by unfold maxLen; omega) (by omega) (by omega) _ rfl ?_; intro g cap w5 hown5 hgrow hat hlt)
      | (revert HO4; intro HO4; refine step_append_lies _ (by rfl) (.tmp 33) (.tmp 35) 27 (by rfl) w3.heap.size 77 i0 (.agg #[.int .i64 0, .int .i64 0, .int .i64 0, .bool false, .bool false]) 5 32 Try.underlying27 HI.out HZ0.out HZ1.out HZ2.out (by rfl) (by decide) (.slice A4 (0) c4) (0) (lcells ls) (by rfl) (HO4.out.alloc _).2.2.2 ⟨w4.heap.size, 0, none⟩ 1 1 x.vals (by rfl) (by rfl) (news_new w4 x) (vals_one x) (by decide) (by unfold maxLen; omega) (by omega) (by simp; omega) _ rfl ?_; intro g cap w5 hown5 hgrow hat hlt))
  all_goals
    have hbw : Below w3.heap.size w3 w5 := by
      first
        | exact Below.grown (Below.alloc (B := w3.heap.size) (by (repeat (first | (with_reducible exact Below.refl _ _) | (with_reducible refine Below.drew ?_) | (with_reducible refine bdrewN ?_ _) | ((with_reducible refine Below.setCell ?_ ?_ _); rotate_left; exact (by first | (simp; done) | (simp; omega) | omega)) | ((with_reducible refine Below.alloc ?_ ?_ _); rotate_left; exact (by first | (simp; done) | (simp; omega) | omega)) | ((with_reducible refine Below.trans ?_ (HB4.out.mono ?_)); rotate_left; exact (by first | (simp; done) | (simp; omega) | omega))))) (by omega) _) hgrow (by simp; omega) (own_ge HO4.out.2.2.2)
        | exact Below.grown (by (repeat (first | (with_reducible exact Below.refl _ _) | (with_reducible refine Below.drew ?_) | (with_reducible refine bdrewN ?_ _) | ((with_reducible refine Below.setCell ?_ ?_ _); rotate_left; exact (by first | (simp; done) | (simp; omega) | omega)) | ((with_reducible refine Below.alloc ?_ ?_ _); rotate_left; exact (by first | (simp; done) | (simp; omega) | omega)) | ((with_reducible refine Below.trans ?_ (HB4.out.mono ?_)); rotate_left; exact (by first | (simp; done) | (simp; omega) | omega))))) hgrow (by omega) (own_ge HO4.out.2.2.2)
    have HBW := Lib.hid hbw
    have HO5 := Lib.hid (own_fill0 HLEN.out hown5)
    clear hgrow hat hlt hown5 hbw e1 e2 e3
    go_wp2
    go_ret2
    exact ⟨some ⟨g, 0, none⟩, cap, rfl, HO5.out.low (by omega), (by (repeat (first | (with_reducible exact Below.refl _ _) | (with_reducible refine Below.drew ?_) | (with_reducible refine bdrewN ?_ _) | ((with_reducible refine Below.setCell ?_ ?_ _); rotate_left; exact (by first | (simp; done) | (simp; omega) | omega)) | ((with_reducible refine Below.alloc ?_ ?_ _); rotate_left; exact (by first | (simp; done) | (simp; omega) | omega)) | ((with_reducible refine Below.trans ?_ (HB3.out.mono ?_)); rotate_left; exact (by first | (simp; done) | (simp; omega) | omega)) | ((with_reducible refine Below.trans ?_ (HB2.out.mono ?_)); rotate_left; exact (by first | (simp; done) | (simp; omega) | omega)) | ((with_reducible refine Below.trans ?_ (HB1.out.mono ?_)); rotate_left; exact (by first | (simp; done) | (simp; omega) | omega)))) : Below w.heap.size w w3).trans (HBW.out.mono (by omega))⟩
set_option maxRecDepth 100000 in
set_option maxHeartbeats 8000000 in
theorem cache_Fill_z (ad : Addr) (ls : List Line) (x : Line) (w : World) (hl : Lines w w.heap.size (some ad) 0 0 ls) (h0 : ckC ls = 0) (h1 : lineE x = 0) (h2 : findL ls x.dev x.page < 0) :
    Calls Try.prog 63 #[.slice (some ad) 0 0, .agg #[.int .i64 x.dev, .int .i64 x.page, .int .i64 x.at_, .bool x.rd, .bool x.wr]] w (FillC w (0 + 1) (ls ++ [x])) := by
  obtain ⟨i0, hi, hz0, hz1, hz2⟩ := info_parts Try.infoLine
  have HI := Lib.hid hi; clear hi
  have HZ0 := Lib.hid hz0; clear hz0
  have HZ1 := Lib.hid hz1; clear hz1
  have HZ2 := Lib.hid hz2; clear hz2
  have HL := Lib.hid hl
  have HL1 := Lib.hid hl
  have HLEN := Lib.hid hl.len
  obtain ⟨hc1, hc2⟩ := hl.cap
  have HE := Lib.hid (show IntKind.i64.wrap 1 = 1 ∧ IntKind.i64.wrap (1 - 6) = -5 ∧ IntKind.i64.wrap (-5) = -5 by decide)
  have t0 : (ckC ls != 0) = false := by rw [bne_eq_false_iff_eq]; exact h0
  have t1 : (lineE x != 0) = false := by rw [bne_eq_false_iff_eq]; exact h1
  have t2 : decide (0 ≤ findL ls x.dev x.page) = false := by simp; omega
  have HF := Lib.hid h2
  clear h0 h1 h2 hl
  go_enter Try.func63, Try.ntmps63
  go_wp2_with fail
  refine (cache_Check _ _ _ ls _ ((HL.out.alloc (Nat.le_refl _) _).more (by simp))).mono ?_
  rintro e w1 ⟨rfl, hb1⟩
  have hz1 := hb1.size
  (try simp only [World.size_alloc, World.size_setCell, World.size_drew] at hz1)
  have k1_0 := fun o => (bcell hb1).1 (w.heap.size) o (by first | (simp; done) | (simp; omega) | omega)
  have l1_0 : (w.heap.size) < w1.heap.size := (by omega)
  have q1_0 := fun o => (bcell hb1).2 (w.heap.size) o (by first | (simp; done) | (simp; omega) | omega)
  simp (maxDischargeDepth := 6) [go_sem, *] at k1_0 q1_0
  have HB1 := Lib.hid hb1
  clear hb1
  go_wp2_with fail
  refine (cache_Check _ _ _ [x] _ ((lines_new _ x).more (by simp))).mono ?_
  rw [ckC_one]
  rintro e w2 ⟨rfl, hb2⟩
  have hz2 := hb2.size
  (try simp only [World.size_alloc, World.size_setCell, World.size_drew] at hz2)
  have k2_0 := fun o => (bcell hb2).1 (w.heap.size) o (by first | (simp; done) | (simp; omega) | omega)
  have l2_0 : (w.heap.size) < w2.heap.size := (by omega)
  have q2_0 := fun o => (bcell hb2).2 (w.heap.size) o (by first | (simp; done) | (simp; omega) | omega)
  simp (maxDischargeDepth := 6) [go_sem, *] at k2_0 q2_0
  have HB2 := Lib.hid hb2
  clear hb2
  have L2 := Lib.hid ((((HL.out.alloc (Nat.le_refl _) (.cells #[.int .i64 x.dev, .int .i64 x.page, .int .i64 x.at_, .bool x.rd, .bool x.wr] 77)).below (HB1.out.mono (by simp))).alloc (by omega) (.cells #[.int .i64 x.dev, .int .i64 x.page, .int .i64 x.at_, .bool x.rd, .bool x.wr] 77) |>.below (HB2.out.mono (by simp; omega))).more (B' := w2.heap.size) (by omega))
  have M2 := Lib.hid ((((HL1.out.alloc (Nat.le_refl _) (.cells #[.int .i64 x.dev, .int .i64 x.page, .int .i64 x.at_, .bool x.rd, .bool x.wr] 77)).below (HB1.out.mono (by simp))).alloc (by omega) (.cells #[.int .i64 x.dev, .int .i64 x.page, .int .i64 x.at_, .bool x.rd, .bool x.wr] 77) |>.below (HB2.out.mono (by simp; omega))).more (B' := w2.heap.size) (by omega))
  go_wp2_with fail
  refine (cache_Find _ _ _ ls _ _ _ L2.out).mono ?_
  rintro e w3 ⟨rfl, hb3⟩
  have hz3 := hb3.size
  (try simp only [World.size_alloc, World.size_setCell, World.size_drew] at hz3)
  have k3_0 := fun o => (bcell hb3).1 (w.heap.size) o (by first | (simp; done) | (simp; omega) | omega)
  have l3_0 : (w.heap.size) < w3.heap.size := (by omega)
  have q3_0 := fun o => (bcell hb3).2 (w.heap.size) o (by first | (simp; done) | (simp; omega) | omega)
  simp (maxDischargeDepth := 6) [go_sem, *] at k3_0 q3_0
  have HB3 := Lib.hid hb3
  clear hb3
  have M3 := Lib.hid ((M2.out.below HB3.out).more (B' := w3.heap.size) (by omega))
  have C0 : w3.cell? ⟨w.heap.size, 0, none⟩ = some (.int .i64 x.dev) := by simp [k3_0]
  have C1 : w3.cell? ⟨w.heap.size, 1, none⟩ = some (.int .i64 x.page) := by simp [k3_0]
  have C2 : w3.cell? ⟨w.heap.size, 2, none⟩ = some (.int .i64 x.at_) := by simp [k3_0]
  have C3 : w3.cell? ⟨w.heap.size, 3, none⟩ = some (.bool x.rd) := by simp [k3_0]
  have C4 : w3.cell? ⟨w.heap.size, 4, none⟩ = some (.bool x.wr) := by simp [k3_0]
  have HC := Lib.hid (And.intro C0 (And.intro C1 (And.intro C2 (And.intro C3 C4))))
  clear C0 C1 C2 C3 C4
  go_wp2_with fail
  obtain ⟨e1, e2, e3⟩ := HE.out
  go_region_held3 (fun W => W.cell? ⟨w.heap.size, 0, none⟩ = some (.int .i64 x.dev) ∧ W.cell? ⟨w.heap.size, 1, none⟩ = some (.int .i64 x.page) ∧ W.cell? ⟨w.heap.size, 2, none⟩ = some (.int .i64 x.at_) ∧ W.cell? ⟨w.heap.size, 3, none⟩ = some (.bool x.rd) ∧ W.cell? ⟨w.heap.size, 4, none⟩ = some (.bool x.wr))
    (first
      | exact HC.out
      | (refine ⟨?_, ?_, ?_, ?_, ?_⟩; (exact Eq.trans (hgrow.cell_far ⟨w.heap.size, 0, none⟩ (by simp; omega) (fun e => absurd (own_ge HO4.out.2.2.2 _ e.symm) (by simp; omega))) (by simp (maxDischargeDepth := 8) [go_sem, k4_0, l4_0])); (exact Eq.trans (hgrow.cell_far ⟨w.heap.size, 1, none⟩ (by simp; omega) (fun e => absurd (own_ge HO4.out.2.2.2 _ e.symm) (by simp; omega))) (by simp (maxDischargeDepth := 8) [go_sem, k4_0, l4_0])); (exact Eq.trans (hgrow.cell_far ⟨w.heap.size, 2, none⟩ (by simp; omega) (fun e => absurd (own_ge HO4.out.2.2.2 _ e.symm) (by simp; omega))) (by simp (maxDischargeDepth := 8) [go_sem, k4_0, l4_0])); (exact Eq.trans (hgrow.cell_far ⟨w.heap.size, 3, none⟩ (by simp; omega) (fun e => absurd (own_ge HO4.out.2.2.2 _ e.symm) (by simp; omega))) (by simp (maxDischargeDepth := 8) [go_sem, k4_0, l4_0])); (exact Eq.trans (hgrow.cell_far ⟨w.heap.size, 4, none⟩ (by simp; omega) (fun e => absurd (own_ge HO4.out.2.2.2 _ e.symm) (by simp; omega))) (by simp (maxDischargeDepth := 8) [go_sem, k4_0, l4_0])))
      | (refine ⟨?_, ?_, ?_, ?_, ?_⟩ <;> (simp (maxDischargeDepth := 8) [go_sem, k4_0]; done))
      | (refine ⟨?_, ?_, ?_, ?_, ?_⟩ <;> (simp (maxDischargeDepth := 8) [go_sem, HC.out.1, HC.out.2.1, HC.out.2.2.1, HC.out.2.2.2.1, HC.out.2.2.2.2]; done))
      | go_keep)
    (first
      | (go_at_call 51; refine (sl_CloneL _ _ _ ls _ ?_ (by omega)).mono ?_; (first | exact M3.out.drew | exact (M3.out.drew.alloc (Nat.le_refl _) _).more (by simp)); rintro e w4 ⟨A4, c4, rfl, ho4, hb4⟩; have HO4 : Hid (OwnL w3.heap.size w4 A4 (0) c4 ls) := Lib.hid (ho4.low (by simp)); clear ho4; have hb4' := hb4; have hz4 := hb4.size; (try simp only [World.size_alloc, World.size_setCell, World.size_drew] at hz4); have k4_0 := fun o => (bcell hb4).1 (w.heap.size) o (by first | (simp; done) | (simp; omega) | omega); have l4_0 : (w.heap.size) < w4.heap.size := (by omega); have q4_0 := fun o => (bcell hb4).2 (w.heap.size) o (by first | (simp; done) | (simp; omega) | omega); simp (maxDischargeDepth := 6) [go_sem, *] at k4_0 q4_0; have HB4 := Lib.hid hb4; clear hb4)
      | (revert HO4; intro HO4; refine step_append_lies _ (by rfl) (.tmp 33) (.tmp 35) 27 (by rfl) w3.heap.size 77 i0 (.agg #[.int .i64 0, .int .i64 0, .int .i64 0, .bool false, .bool false]) 5 32 Try.underlying27 HI.out HZ0.out HZ1.out HZ2.out (by rfl) (by decide) (.slice A4 (0) c4) (0) (lcells ls) (by rfl) HO4.out.2.2.2 ⟨w3.heap.size, 0, none⟩ 1 1 x.vals (by rfl) (by rfl) (news_old (w := w3.drew) x hb4') (vals_one x) (by decide) (by unfold maxLen; omega) (by omega) (by omega) _ rfl ?_; intro g cap w5 hown5 hgrow hat hlt)
      | (revert HO4; intro HO4; refine step_append_lies _ (by rfl) (.tmp 33) (.tmp 35) 27 (by rfl) w3.heap.size 77 i0 (.agg #[.int .i64 0, .int .i64 0, .int .i64 0, .bool false, .bool false]) 5 32 Try.underlying27 HI.out HZ0.out HZ1.out HZ2.out (by rfl) (by decide) (.slice A4 (0) c4) (0) (lcells ls) (by rfl) (HO4.out.alloc _).2.2.2 ⟨w4.heap.size, 0, none⟩ 1 1 x.vals (by rfl) (by rfl) (news_new w4 x) (vals_one x) (by decide) (by unfold maxLen; omega) (by omega) (by simp; omega) _ rfl ?_; intro g cap w5 hown5 hgrow hat hlt))
  all_goals
    have hbw : Below w3.heap.size w3 w5 := by
      first
        | exact Below.grown (Below.alloc (B := w3.heap.size) (by (repeat (first | (with_reducible exact Below.refl _ _) | (with_reducible refine Below.drew ?_) | (with_reducible refine bdrewN ?_ _) | ((with_reducible refine Below.setCell ?_ ?_ _); rotate_left; exact (by first | (simp; done) | (simp; omega) | omega)) | ((with_reducible refine Below.alloc ?_ ?_ _); rotate_left; exact (by first | (simp; done) | (simp; omega) | omega)) | ((with_reducible refine Below.trans ?_ (HB4.out.mono ?_)); rotate_left; exact (by first | (simp; done) | (simp; omega) | omega))))) (by omega) _) hgrow (by simp; omega) (own_ge HO4.out.2.2.2)
        | exact Below.grown (by (repeat (first | (with_reducible exact Below.refl _ _) | (with_reducible refine Below.drew ?_) | (with_reducible refine bdrewN ?_ _) | ((with_reducible refine Below.setCell ?_ ?_ _); rotate_left; exact (by first | (simp; done) | (simp; omega) | omega)) | ((with_reducible refine Below.alloc ?_ ?_ _); rotate_left; exact (by first | (simp; done) | (simp; omega) | omega)) | ((with_reducible refine Below.trans ?_ (HB4.out.mono ?_)); rotate_left; exact (by first | (simp; done) | (simp; omega) | omega))))) hgrow (by omega) (own_ge HO4.out.2.2.2)
    have HBW := Lib.hid hbw
    have HO5 := Lib.hid (own_fill0 HLEN.out hown5)
    clear hgrow hat hlt hown5 hbw e1 e2 e3
    go_wp2
    go_ret2
    exact ⟨some ⟨g, 0, none⟩, cap, rfl, HO5.out.low (by omega), (by (repeat (first | (with_reducible exact Below.refl _ _) | (with_reducible refine Below.drew ?_) | (with_reducible refine bdrewN ?_ _) | ((with_reducible refine Below.setCell ?_ ?_ _); rotate_left; exact (by first | (simp; done) | (simp; omega) | omega)) | ((with_reducible refine Below.alloc ?_ ?_ _); rotate_left; exact (by first | (simp; done) | (simp; omega) | omega)) | ((with_reducible refine Below.trans ?_ (HB3.out.mono ?_)); rotate_left; exact (by first | (simp; done) | (simp; omega) | omega)) | ((with_reducible refine Below.trans ?_ (HB2.out.mono ?_)); rotate_left; exact (by first | (simp; done) | (simp; omega) | omega)) | ((with_reducible refine Below.trans ?_ (HB1.out.mono ?_)); rotate_left; exact (by first | (simp; done) | (simp; omega) | omega)))) : Below w.heap.size w w3).trans (HBW.out.mono (by omega))⟩
set_option maxRecDepth 100000 in
set_option maxHeartbeats 8000000 in
theorem cache_Fill_e (ad : Addr) (c : Nat) (hc0 : c ≠ 0) (ls : List Line) (x : Line) (w : World) (hl : Lines w w.heap.size (some ad) 0 c ls) (h0 : ckC ls = 0) (h1 : lineE x = 0) (h2 : findL ls x.dev x.page < 0) :
    Calls Try.prog 63 #[.slice (some ad) 0 c, .agg #[.int .i64 x.dev, .int .i64 x.page, .int .i64 x.at_, .bool x.rd, .bool x.wr]] w (FillC w (0 + 1) (ls ++ [x])) := by
  obtain ⟨i0, hi, hz0, hz1, hz2⟩ := info_parts Try.infoLine
  have HI := Lib.hid hi; clear hi
  have HZ0 := Lib.hid hz0; clear hz0
  have HZ1 := Lib.hid hz1; clear hz1
  have HZ2 := Lib.hid hz2; clear hz2
  have HL := Lib.hid hl
  have HL1 := Lib.hid hl
  have HLEN := Lib.hid hl.len
  obtain ⟨hc1, hc2⟩ := hl.cap
  have HE := Lib.hid (show IntKind.i64.wrap 1 = 1 ∧ IntKind.i64.wrap (1 - 6) = -5 ∧ IntKind.i64.wrap (-5) = -5 by decide)
  have c2 : ¬ c = 0 := hc0
  clear hc0
  have t0 : (ckC ls != 0) = false := by rw [bne_eq_false_iff_eq]; exact h0
  have t1 : (lineE x != 0) = false := by rw [bne_eq_false_iff_eq]; exact h1
  have t2 : decide (0 ≤ findL ls x.dev x.page) = false := by simp; omega
  have HF := Lib.hid h2
  clear h0 h1 h2 hl
  go_enter Try.func63, Try.ntmps63
  go_wp2_with fail
  refine (cache_Check _ _ _ ls _ ((HL.out.alloc (Nat.le_refl _) _).more (by simp))).mono ?_
  rintro e w1 ⟨rfl, hb1⟩
  have hz1 := hb1.size
  (try simp only [World.size_alloc, World.size_setCell, World.size_drew] at hz1)
  have k1_0 := fun o => (bcell hb1).1 (w.heap.size) o (by first | (simp; done) | (simp; omega) | omega)
  have l1_0 : (w.heap.size) < w1.heap.size := (by omega)
  have q1_0 := fun o => (bcell hb1).2 (w.heap.size) o (by first | (simp; done) | (simp; omega) | omega)
  simp (maxDischargeDepth := 6) [go_sem, *] at k1_0 q1_0
  have HB1 := Lib.hid hb1
  clear hb1
  go_wp2_with fail
  refine (cache_Check _ _ _ [x] _ ((lines_new _ x).more (by simp))).mono ?_
  rw [ckC_one]
  rintro e w2 ⟨rfl, hb2⟩
  have hz2 := hb2.size
  (try simp only [World.size_alloc, World.size_setCell, World.size_drew] at hz2)
  have k2_0 := fun o => (bcell hb2).1 (w.heap.size) o (by first | (simp; done) | (simp; omega) | omega)
  have l2_0 : (w.heap.size) < w2.heap.size := (by omega)
  have q2_0 := fun o => (bcell hb2).2 (w.heap.size) o (by first | (simp; done) | (simp; omega) | omega)
  simp (maxDischargeDepth := 6) [go_sem, *] at k2_0 q2_0
  have HB2 := Lib.hid hb2
  clear hb2
  have L2 := Lib.hid ((((HL.out.alloc (Nat.le_refl _) (.cells #[.int .i64 x.dev, .int .i64 x.page, .int .i64 x.at_, .bool x.rd, .bool x.wr] 77)).below (HB1.out.mono (by simp))).alloc (by omega) (.cells #[.int .i64 x.dev, .int .i64 x.page, .int .i64 x.at_, .bool x.rd, .bool x.wr] 77) |>.below (HB2.out.mono (by simp; omega))).more (B' := w2.heap.size) (by omega))
  have M2 := Lib.hid ((((HL1.out.alloc (Nat.le_refl _) (.cells #[.int .i64 x.dev, .int .i64 x.page, .int .i64 x.at_, .bool x.rd, .bool x.wr] 77)).below (HB1.out.mono (by simp))).alloc (by omega) (.cells #[.int .i64 x.dev, .int .i64 x.page, .int .i64 x.at_, .bool x.rd, .bool x.wr] 77) |>.below (HB2.out.mono (by simp; omega))).more (B' := w2.heap.size) (by omega))
  go_wp2_with fail
  refine (cache_Find _ _ _ ls _ _ _ L2.out).mono ?_
  rintro e w3 ⟨rfl, hb3⟩
  have hz3 := hb3.size
  (try simp only [World.size_alloc, World.size_setCell, World.size_drew] at hz3)
  have k3_0 := fun o => (bcell hb3).1 (w.heap.size) o (by first | (simp; done) | (simp; omega) | omega)
  have l3_0 : (w.heap.size) < w3.heap.size := (by omega)
  have q3_0 := fun o => (bcell hb3).2 (w.heap.size) o (by first | (simp; done) | (simp; omega) | omega)
  simp (maxDischargeDepth := 6) [go_sem, *] at k3_0 q3_0
  have HB3 := Lib.hid hb3
  clear hb3
  have M3 := Lib.hid ((M2.out.below HB3.out).more (B' := w3.heap.size) (by omega))
  have C0 : w3.cell? ⟨w.heap.size, 0, none⟩ = some (.int .i64 x.dev) := by simp [k3_0]
  have C1 : w3.cell? ⟨w.heap.size, 1, none⟩ = some (.int .i64 x.page) := by simp [k3_0]
  have C2 : w3.cell? ⟨w.heap.size, 2, none⟩ = some (.int .i64 x.at_) := by simp [k3_0]
  have C3 : w3.cell? ⟨w.heap.size, 3, none⟩ = some (.bool x.rd) := by simp [k3_0]
  have C4 : w3.cell? ⟨w.heap.size, 4, none⟩ = some (.bool x.wr) := by simp [k3_0]
  have HC := Lib.hid (And.intro C0 (And.intro C1 (And.intro C2 (And.intro C3 C4))))
  clear C0 C1 C2 C3 C4
  go_wp2_with fail
  obtain ⟨e1, e2, e3⟩ := HE.out
  go_region_held3 (fun W => W.cell? ⟨w.heap.size, 0, none⟩ = some (.int .i64 x.dev) ∧ W.cell? ⟨w.heap.size, 1, none⟩ = some (.int .i64 x.page) ∧ W.cell? ⟨w.heap.size, 2, none⟩ = some (.int .i64 x.at_) ∧ W.cell? ⟨w.heap.size, 3, none⟩ = some (.bool x.rd) ∧ W.cell? ⟨w.heap.size, 4, none⟩ = some (.bool x.wr))
    (first
      | exact HC.out
      | (refine ⟨?_, ?_, ?_, ?_, ?_⟩; (exact Eq.trans (hgrow.cell_far ⟨w.heap.size, 0, none⟩ (by simp; omega) (fun e => absurd (own_ge HO4.out.2.2.2 _ e.symm) (by simp; omega))) (by simp (maxDischargeDepth := 8) [go_sem, k4_0, l4_0])); (exact Eq.trans (hgrow.cell_far ⟨w.heap.size, 1, none⟩ (by simp; omega) (fun e => absurd (own_ge HO4.out.2.2.2 _ e.symm) (by simp; omega))) (by simp (maxDischargeDepth := 8) [go_sem, k4_0, l4_0])); (exact Eq.trans (hgrow.cell_far ⟨w.heap.size, 2, none⟩ (by simp; omega) (fun e => absurd (own_ge HO4.out.2.2.2 _ e.symm) (by simp; omega))) (by simp (maxDischargeDepth := 8) [go_sem, k4_0, l4_0])); (exact Eq.trans (hgrow.cell_far ⟨w.heap.size, 3, none⟩ (by simp; omega) (fun e => absurd (own_ge HO4.out.2.2.2 _ e.symm) (by simp; omega))) (by simp (maxDischargeDepth := 8) [go_sem, k4_0, l4_0])); (exact Eq.trans (hgrow.cell_far ⟨w.heap.size, 4, none⟩ (by simp; omega) (fun e => absurd (own_ge HO4.out.2.2.2 _ e.symm) (by simp; omega))) (by simp (maxDischargeDepth := 8) [go_sem, k4_0, l4_0])))
      | (refine ⟨?_, ?_, ?_, ?_, ?_⟩ <;> (simp (maxDischargeDepth := 8) [go_sem, k4_0]; done))
      | (refine ⟨?_, ?_, ?_, ?_, ?_⟩ <;> (simp (maxDischargeDepth := 8) [go_sem, HC.out.1, HC.out.2.1, HC.out.2.2.1, HC.out.2.2.2.1, HC.out.2.2.2.2]; done))
      | go_keep)
    (first
      | (go_at_call 51; refine (sl_CloneL _ _ _ ls _ ?_ (by omega)).mono ?_; (first | exact M3.out.drew | exact (M3.out.drew.alloc (Nat.le_refl _) _).more (by simp)); rintro e w4 ⟨A4, c4, rfl, ho4, hb4⟩; have HO4 : Hid (OwnL w3.heap.size w4 A4 (0) c4 ls) := Lib.hid (ho4.low (by simp)); clear ho4; have hb4' := hb4; have hz4 := hb4.size; (try simp only [World.size_alloc, World.size_setCell, World.size_drew] at hz4); have k4_0 := fun o => (bcell hb4).1 (w.heap.size) o (by first | (simp; done) | (simp; omega) | omega); have l4_0 : (w.heap.size) < w4.heap.size := (by omega); have q4_0 := fun o => (bcell hb4).2 (w.heap.size) o (by first | (simp; done) | (simp; omega) | omega); simp (maxDischargeDepth := 6) [go_sem, *] at k4_0 q4_0; have HB4 := Lib.hid hb4; clear hb4)
      | (revert HO4; intro HO4; refine step_append_lies _ (by rfl) (.tmp 33) (.tmp 35) 27 (by rfl) w3.heap.size 77 i0 (.agg #[.int .i64 0, .int .i64 0, .int .i64 0, .bool false, .bool false]) 5 32 Try.underlying27 HI.out HZ0.out HZ1.out HZ2.out (by rfl) (by decide) (.slice A4 (0) c4) (0) (lcells ls) (by rfl) HO4.out.2.2.2 ⟨w3.heap.size, 0, none⟩ 1 1 x.vals (by rfl) (by rfl) (news_old (w := w3.drew) x hb4') (vals_one x) (by decide) (by unfold maxLen; omega) (by omega) (by omega) _ rfl ?_; intro g cap w5 hown5 hgrow hat hlt)
      | (revert HO4; intro HO4; refine step_append_lies _ (by rfl) (.tmp 33) (.tmp 35) 27 (by rfl) w3.heap.size 77 i0 (.agg #[.int .i64 0, .int .i64 0, .int .i64 0, .bool false, .bool false]) 5 32 Try.underlying27 HI.out HZ0.out HZ1.out HZ2.out (by rfl) (by decide) (.slice A4 (0) c4) (0) (lcells ls) (by rfl) (HO4.out.alloc _).2.2.2 ⟨w4.heap.size, 0, none⟩ 1 1 x.vals (by rfl) (by rfl) (news_new w4 x) (vals_one x) (by decide) (by unfold maxLen; omega) (by omega) (by simp; omega) _ rfl ?_; intro g cap w5 hown5 hgrow hat hlt))
  all_goals
    have hbw : Below w3.heap.size w3 w5 := by
      first
        | exact Below.grown (Below.alloc (B := w3.heap.size) (by (repeat (first | (with_reducible exact Below.refl _ _) | (with_reducible refine Below.drew ?_) | (with_reducible refine bdrewN ?_ _) | ((with_reducible refine Below.setCell ?_ ?_ _); rotate_left; exact (by first | (simp; done) | (simp; omega) | omega)) | ((with_reducible refine Below.alloc ?_ ?_ _); rotate_left; exact (by first | (simp; done) | (simp; omega) | omega)) | ((with_reducible refine Below.trans ?_ (HB4.out.mono ?_)); rotate_left; exact (by first | (simp; done) | (simp; omega) | omega))))) (by omega) _) hgrow (by simp; omega) (own_ge HO4.out.2.2.2)
        | exact Below.grown (by (repeat (first | (with_reducible exact Below.refl _ _) | (with_reducible refine Below.drew ?_) | (with_reducible refine bdrewN ?_ _) | ((with_reducible refine Below.setCell ?_ ?_ _); rotate_left; exact (by first | (simp; done) | (simp; omega) | omega)) | ((with_reducible refine Below.alloc ?_ ?_ _); rotate_left; exact (by first | (simp; done) | (simp; omega) | omega)) | ((with_reducible refine Below.trans ?_ (HB4.out.mono ?_)); rotate_left; exact (by first | (simp; done) | (simp; omega) | omega))))) hgrow (by omega) (own_ge HO4.out.2.2.2)
    have HBW := Lib.hid hbw
    have HO5 := Lib.hid (own_fill0 HLEN.out hown5)
    clear hgrow hat hlt hown5 hbw e1 e2 e3
    go_wp2
    go_ret2
    exact ⟨some ⟨g, 0, none⟩, cap, rfl, HO5.out.low (by omega), (by (repeat (first | (with_reducible exact Below.refl _ _) | (with_reducible refine Below.drew ?_) | (with_reducible refine bdrewN ?_ _) | ((with_reducible refine Below.setCell ?_ ?_ _); rotate_left; exact (by first | (simp; done) | (simp; omega) | omega)) | ((with_reducible refine Below.alloc ?_ ?_ _); rotate_left; exact (by first | (simp; done) | (simp; omega) | omega)) | ((with_reducible refine Below.trans ?_ (HB3.out.mono ?_)); rotate_left; exact (by first | (simp; done) | (simp; omega) | omega)) | ((with_reducible refine Below.trans ?_ (HB2.out.mono ?_)); rotate_left; exact (by first | (simp; done) | (simp; omega) | omega)) | ((with_reducible refine Below.trans ?_ (HB1.out.mono ?_)); rotate_left; exact (by first | (simp; done) | (simp; omega) | omega)))) : Below w.heap.size w w3).trans (HBW.out.mono (by omega))⟩
set_option maxRecDepth 100000 in
set_option maxHeartbeats 8000000 in
theorem cache_Fill_1 (b off c : Nat) (hc0 : c ≠ 0) (ls : List Line) (x : Line) (w : World) (hl : Lines w w.heap.size (some ⟨b, off, none⟩) 1 c ls) (h0 : ckC ls = 0) (h1 : lineE x = 0) (h2 : findL ls x.dev x.page < 0) :
    Calls Try.prog 63 #[.slice (some ⟨b, off, none⟩) 1 c, .agg #[.int .i64 x.dev, .int .i64 x.page, .int .i64 x.at_, .bool x.rd, .bool x.wr]] w (FillC w (1 + 1) (ls ++ [x])) := by
  obtain ⟨i0, hi, hz0, hz1, hz2⟩ := info_parts Try.infoLine
  have HI := Lib.hid hi; clear hi
  have HZ0 := Lib.hid hz0; clear hz0
  have HZ1 := Lib.hid hz1; clear hz1
  have HZ2 := Lib.hid hz2; clear hz2
  have HL := Lib.hid hl
  have HL1 := Lib.hid hl
  have HLEN := Lib.hid hl.len
  obtain ⟨hc1, hc2⟩ := hl.cap
  have HE := Lib.hid (show IntKind.i64.wrap 2 = 2 ∧ IntKind.i64.wrap (2 - 6) = -4 ∧ IntKind.i64.wrap (-4) = -4 by decide)
  have c2 : ¬ c = 0 := hc0
  clear hc0
  have t0 : (ckC ls != 0) = false := by rw [bne_eq_false_iff_eq]; exact h0
  have t1 : (lineE x != 0) = false := by rw [bne_eq_false_iff_eq]; exact h1
  have t2 : decide (0 ≤ findL ls x.dev x.page) = false := by simp; omega
  have HF := Lib.hid h2
  clear h0 h1 h2 hl
  go_enter Try.func63, Try.ntmps63
  go_wp2_with fail
  refine (cache_Check _ _ _ ls _ ((HL.out.alloc (Nat.le_refl _) _).more (by simp))).mono ?_
  rintro e w1 ⟨rfl, hb1⟩
  have hz1 := hb1.size
  (try simp only [World.size_alloc, World.size_setCell, World.size_drew] at hz1)
  have k1_0 := fun o => (bcell hb1).1 (w.heap.size) o (by first | (simp; done) | (simp; omega) | omega)
  have l1_0 : (w.heap.size) < w1.heap.size := (by omega)
  have q1_0 := fun o => (bcell hb1).2 (w.heap.size) o (by first | (simp; done) | (simp; omega) | omega)
  simp (maxDischargeDepth := 6) [go_sem, *] at k1_0 q1_0
  have HB1 := Lib.hid hb1
  clear hb1
  go_wp2_with fail
  refine (cache_Check _ _ _ [x] _ ((lines_new _ x).more (by simp))).mono ?_
  rw [ckC_one]
  rintro e w2 ⟨rfl, hb2⟩
  have hz2 := hb2.size
  (try simp only [World.size_alloc, World.size_setCell, World.size_drew] at hz2)
  have k2_0 := fun o => (bcell hb2).1 (w.heap.size) o (by first | (simp; done) | (simp; omega) | omega)
  have l2_0 : (w.heap.size) < w2.heap.size := (by omega)
  have q2_0 := fun o => (bcell hb2).2 (w.heap.size) o (by first | (simp; done) | (simp; omega) | omega)
  simp (maxDischargeDepth := 6) [go_sem, *] at k2_0 q2_0
  have HB2 := Lib.hid hb2
  clear hb2
  have L2 := Lib.hid ((((HL.out.alloc (Nat.le_refl _) (.cells #[.int .i64 x.dev, .int .i64 x.page, .int .i64 x.at_, .bool x.rd, .bool x.wr] 77)).below (HB1.out.mono (by simp))).alloc (by omega) (.cells #[.int .i64 x.dev, .int .i64 x.page, .int .i64 x.at_, .bool x.rd, .bool x.wr] 77) |>.below (HB2.out.mono (by simp; omega))).more (B' := w2.heap.size) (by omega))
  have M2 := Lib.hid ((((HL1.out.alloc (Nat.le_refl _) (.cells #[.int .i64 x.dev, .int .i64 x.page, .int .i64 x.at_, .bool x.rd, .bool x.wr] 77)).below (HB1.out.mono (by simp))).alloc (by omega) (.cells #[.int .i64 x.dev, .int .i64 x.page, .int .i64 x.at_, .bool x.rd, .bool x.wr] 77) |>.below (HB2.out.mono (by simp; omega))).more (B' := w2.heap.size) (by omega))
  go_wp2_with fail
  refine (cache_Find _ _ _ ls _ _ _ L2.out).mono ?_
  rintro e w3 ⟨rfl, hb3⟩
  have hz3 := hb3.size
  (try simp only [World.size_alloc, World.size_setCell, World.size_drew] at hz3)
  have k3_0 := fun o => (bcell hb3).1 (w.heap.size) o (by first | (simp; done) | (simp; omega) | omega)
  have l3_0 : (w.heap.size) < w3.heap.size := (by omega)
  have q3_0 := fun o => (bcell hb3).2 (w.heap.size) o (by first | (simp; done) | (simp; omega) | omega)
  simp (maxDischargeDepth := 6) [go_sem, *] at k3_0 q3_0
  have HB3 := Lib.hid hb3
  clear hb3
  have M3 := Lib.hid ((M2.out.below HB3.out).more (B' := w3.heap.size) (by omega))
  have C0 : w3.cell? ⟨w.heap.size, 0, none⟩ = some (.int .i64 x.dev) := by simp [k3_0]
  have C1 : w3.cell? ⟨w.heap.size, 1, none⟩ = some (.int .i64 x.page) := by simp [k3_0]
  have C2 : w3.cell? ⟨w.heap.size, 2, none⟩ = some (.int .i64 x.at_) := by simp [k3_0]
  have C3 : w3.cell? ⟨w.heap.size, 3, none⟩ = some (.bool x.rd) := by simp [k3_0]
  have C4 : w3.cell? ⟨w.heap.size, 4, none⟩ = some (.bool x.wr) := by simp [k3_0]
  have HC := Lib.hid (And.intro C0 (And.intro C1 (And.intro C2 (And.intro C3 C4))))
  clear C0 C1 C2 C3 C4
  go_wp2_with fail
  obtain ⟨e1, e2, e3⟩ := HE.out
  go_region_held3 (fun W => W.cell? ⟨w.heap.size, 0, none⟩ = some (.int .i64 x.dev) ∧ W.cell? ⟨w.heap.size, 1, none⟩ = some (.int .i64 x.page) ∧ W.cell? ⟨w.heap.size, 2, none⟩ = some (.int .i64 x.at_) ∧ W.cell? ⟨w.heap.size, 3, none⟩ = some (.bool x.rd) ∧ W.cell? ⟨w.heap.size, 4, none⟩ = some (.bool x.wr))
    (first
      | exact HC.out
      | (refine ⟨?_, ?_, ?_, ?_, ?_⟩; (exact Eq.trans (hgrow.cell_far ⟨w.heap.size, 0, none⟩ (by simp; omega) (fun e => absurd (own_ge HO4.out.2.2.2 _ e.symm) (by simp; omega))) (by simp (maxDischargeDepth := 8) [go_sem, k4_0, l4_0])); (exact Eq.trans (hgrow.cell_far ⟨w.heap.size, 1, none⟩ (by simp; omega) (fun e => absurd (own_ge HO4.out.2.2.2 _ e.symm) (by simp; omega))) (by simp (maxDischargeDepth := 8) [go_sem, k4_0, l4_0])); (exact Eq.trans (hgrow.cell_far ⟨w.heap.size, 2, none⟩ (by simp; omega) (fun e => absurd (own_ge HO4.out.2.2.2 _ e.symm) (by simp; omega))) (by simp (maxDischargeDepth := 8) [go_sem, k4_0, l4_0])); (exact Eq.trans (hgrow.cell_far ⟨w.heap.size, 3, none⟩ (by simp; omega) (fun e => absurd (own_ge HO4.out.2.2.2 _ e.symm) (by simp; omega))) (by simp (maxDischargeDepth := 8) [go_sem, k4_0, l4_0])); (exact Eq.trans (hgrow.cell_far ⟨w.heap.size, 4, none⟩ (by simp; omega) (fun e => absurd (own_ge HO4.out.2.2.2 _ e.symm) (by simp; omega))) (by simp (maxDischargeDepth := 8) [go_sem, k4_0, l4_0])))
      | (refine ⟨?_, ?_, ?_, ?_, ?_⟩ <;> (simp (maxDischargeDepth := 8) [go_sem, k4_0]; done))
      | (refine ⟨?_, ?_, ?_, ?_, ?_⟩ <;> (simp (maxDischargeDepth := 8) [go_sem, HC.out.1, HC.out.2.1, HC.out.2.2.1, HC.out.2.2.2.1, HC.out.2.2.2.2]; done))
      | go_keep)
    (first
      | (go_at_call 51; refine (sl_CloneL _ _ _ ls _ ?_ (by omega)).mono ?_; (first | exact M3.out.drew | exact (M3.out.drew.alloc (Nat.le_refl _) _).more (by simp)); rintro e w4 ⟨A4, c4, rfl, ho4, hb4⟩; have HO4 : Hid (OwnL w3.heap.size w4 A4 1 c4 ls) := Lib.hid (ho4.low (by simp)); clear ho4; have hb4' := hb4; have hz4 := hb4.size; (try simp only [World.size_alloc, World.size_setCell, World.size_drew] at hz4); have k4_0 := fun o => (bcell hb4).1 (w.heap.size) o (by first | (simp; done) | (simp; omega) | omega); have l4_0 : (w.heap.size) < w4.heap.size := (by omega); have q4_0 := fun o => (bcell hb4).2 (w.heap.size) o (by first | (simp; done) | (simp; omega) | omega); simp (maxDischargeDepth := 6) [go_sem, *] at k4_0 q4_0; have HB4 := Lib.hid hb4; clear hb4)
      | (revert HO4; intro HO4; refine step_append_lies _ (by rfl) (.tmp 33) (.tmp 35) 27 (by rfl) w3.heap.size 77 i0 (.agg #[.int .i64 0, .int .i64 0, .int .i64 0, .bool false, .bool false]) 5 32 Try.underlying27 HI.out HZ0.out HZ1.out HZ2.out (by rfl) (by decide) (.slice A4 1 c4) 1 (lcells ls) (by rfl) HO4.out.2.2.2 ⟨w3.heap.size, 0, none⟩ 1 1 x.vals (by rfl) (by rfl) (news_old (w := w3.drew) x hb4') (vals_one x) (by decide) (by unfold maxLen; omega) (by omega) (by omega) _ rfl ?_; intro g cap w5 hown5 hgrow hat hlt)
      | (revert HO4; intro HO4; refine step_append_lies _ (by rfl) (.tmp 33) (.tmp 35) 27 (by rfl) w3.heap.size 77 i0 (.agg #[.int .i64 0, .int .i64 0, .int .i64 0, .bool false, .bool false]) 5 32 Try.underlying27 HI.out HZ0.out HZ1.out HZ2.out (by rfl) (by decide) (.slice A4 1 c4) 1 (lcells ls) (by rfl) (HO4.out.alloc _).2.2.2 ⟨w4.heap.size, 0, none⟩ 1 1 x.vals (by rfl) (by rfl) (news_new w4 x) (vals_one x) (by decide) (by unfold maxLen; omega) (by omega) (by simp; omega) _ rfl ?_; intro g cap w5 hown5 hgrow hat hlt))
  all_goals
    have hbw : Below w3.heap.size w3 w5 := by
      first
        | exact Below.grown (Below.alloc (B := w3.heap.size) (by (repeat (first | (with_reducible exact Below.refl _ _) | (with_reducible refine Below.drew ?_) | (with_reducible refine bdrewN ?_ _) | ((with_reducible refine Below.setCell ?_ ?_ _); rotate_left; exact (by first | (simp; done) | (simp; omega) | omega)) | ((with_reducible refine Below.alloc ?_ ?_ _); rotate_left; exact (by first | (simp; done) | (simp; omega) | omega)) | ((with_reducible refine Below.trans ?_ (HB4.out.mono ?_)); rotate_left; exact (by first | (simp; done) | (simp; omega) | omega))))) (by omega) _) hgrow (by simp; omega) (own_ge HO4.out.2.2.2)
        | exact Below.grown (by (repeat (first | (with_reducible exact Below.refl _ _) | (with_reducible refine Below.drew ?_) | (with_reducible refine bdrewN ?_ _) | ((with_reducible refine Below.setCell ?_ ?_ _); rotate_left; exact (by first | (simp; done) | (simp; omega) | omega)) | ((with_reducible refine Below.alloc ?_ ?_ _); rotate_left; exact (by first | (simp; done) | (simp; omega) | omega)) | ((with_reducible refine Below.trans ?_ (HB4.out.mono ?_)); rotate_left; exact (by first | (simp; done) | (simp; omega) | omega))))) hgrow (by omega) (own_ge HO4.out.2.2.2)
    have HBW := Lib.hid hbw
    have HO5 := Lib.hid (own_fill0 HLEN.out hown5)
    clear hgrow hat hlt hown5 hbw e1 e2 e3
    go_wp2
    go_ret2
    exact ⟨some ⟨g, 0, none⟩, cap, rfl, HO5.out.low (by omega), (by (repeat (first | (with_reducible exact Below.refl _ _) | (with_reducible refine Below.drew ?_) | (with_reducible refine bdrewN ?_ _) | ((with_reducible refine Below.setCell ?_ ?_ _); rotate_left; exact (by first | (simp; done) | (simp; omega) | omega)) | ((with_reducible refine Below.alloc ?_ ?_ _); rotate_left; exact (by first | (simp; done) | (simp; omega) | omega)) | ((with_reducible refine Below.trans ?_ (HB3.out.mono ?_)); rotate_left; exact (by first | (simp; done) | (simp; omega) | omega)) | ((with_reducible refine Below.trans ?_ (HB2.out.mono ?_)); rotate_left; exact (by first | (simp; done) | (simp; omega) | omega)) | ((with_reducible refine Below.trans ?_ (HB1.out.mono ?_)); rotate_left; exact (by first | (simp; done) | (simp; omega) | omega)))) : Below w.heap.size w w3).trans (HBW.out.mono (by omega))⟩
set_option maxRecDepth 100000 in
set_option maxHeartbeats 8000000 in
theorem cache_Fill_2 (b off c : Nat) (hc0 : c ≠ 0) (ls : List Line) (x : Line) (w : World) (hl : Lines w w.heap.size (some ⟨b, off, none⟩) 2 c ls) (h0 : ckC ls = 0) (h1 : lineE x = 0) (h2 : findL ls x.dev x.page < 0) :
    Calls Try.prog 63 #[.slice (some ⟨b, off, none⟩) 2 c, .agg #[.int .i64 x.dev, .int .i64 x.page, .int .i64 x.at_, .bool x.rd, .bool x.wr]] w (FillC w (2 + 1) (ls ++ [x])) := by
  obtain ⟨i0, hi, hz0, hz1, hz2⟩ := info_parts Try.infoLine
  have HI := Lib.hid hi; clear hi
  have HZ0 := Lib.hid hz0; clear hz0
  have HZ1 := Lib.hid hz1; clear hz1
  have HZ2 := Lib.hid hz2; clear hz2
  have HL := Lib.hid hl
  have HL1 := Lib.hid hl
  have HLEN := Lib.hid hl.len
  obtain ⟨hc1, hc2⟩ := hl.cap
  have HE := Lib.hid (show IntKind.i64.wrap 3 = 3 ∧ IntKind.i64.wrap (3 - 6) = -3 ∧ IntKind.i64.wrap (-3) = -3 by decide)
  have c2 : ¬ c = 0 := hc0
  clear hc0
  have t0 : (ckC ls != 0) = false := by rw [bne_eq_false_iff_eq]; exact h0
  have t1 : (lineE x != 0) = false := by rw [bne_eq_false_iff_eq]; exact h1
  have t2 : decide (0 ≤ findL ls x.dev x.page) = false := by simp; omega
  have HF := Lib.hid h2
  clear h0 h1 h2 hl
  go_enter Try.func63, Try.ntmps63
  go_wp2_with fail
  refine (cache_Check _ _ _ ls _ ((HL.out.alloc (Nat.le_refl _) _).more (by simp))).mono ?_
  rintro e w1 ⟨rfl, hb1⟩
  have hz1 := hb1.size
  (try simp only [World.size_alloc, World.size_setCell, World.size_drew] at hz1)
  have k1_0 := fun o => (bcell hb1).1 (w.heap.size) o (by first | (simp; done) | (simp; omega) | omega)
  have l1_0 : (w.heap.size) < w1.heap.size := (by omega)
  have q1_0 := fun o => (bcell hb1).2 (w.heap.size) o (by first | (simp; done) | (simp; omega) | omega)
  simp (maxDischargeDepth := 6) [go_sem, *] at k1_0 q1_0
  have HB1 := Lib.hid hb1
  clear hb1
  go_wp2_with fail
  refine (cache_Check _ _ _ [x] _ ((lines_new _ x).more (by simp))).mono ?_
  rw [ckC_one]
  rintro e w2 ⟨rfl, hb2⟩
  have hz2 := hb2.size
  (try simp only [World.size_alloc, World.size_setCell, World.size_drew] at hz2)
  have k2_0 := fun o => (bcell hb2).1 (w.heap.size) o (by first | (simp; done) | (simp; omega) | omega)
  have l2_0 : (w.heap.size) < w2.heap.size := (by omega)
  have q2_0 := fun o => (bcell hb2).2 (w.heap.size) o (by first | (simp; done) | (simp; omega) | omega)
  simp (maxDischargeDepth := 6) [go_sem, *] at k2_0 q2_0
  have HB2 := Lib.hid hb2
  clear hb2
  have L2 := Lib.hid ((((HL.out.alloc (Nat.le_refl _) (.cells #[.int .i64 x.dev, .int .i64 x.page, .int .i64 x.at_, .bool x.rd, .bool x.wr] 77)).below (HB1.out.mono (by simp))).alloc (by omega) (.cells #[.int .i64 x.dev, .int .i64 x.page, .int .i64 x.at_, .bool x.rd, .bool x.wr] 77) |>.below (HB2.out.mono (by simp; omega))).more (B' := w2.heap.size) (by omega))
  have M2 := Lib.hid ((((HL1.out.alloc (Nat.le_refl _) (.cells #[.int .i64 x.dev, .int .i64 x.page, .int .i64 x.at_, .bool x.rd, .bool x.wr] 77)).below (HB1.out.mono (by simp))).alloc (by omega) (.cells #[.int .i64 x.dev, .int .i64 x.page, .int .i64 x.at_, .bool x.rd, .bool x.wr] 77) |>.below (HB2.out.mono (by simp; omega))).more (B' := w2.heap.size) (by omega))
  go_wp2_with fail
  refine (cache_Find _ _ _ ls _ _ _ L2.out).mono ?_
  rintro e w3 ⟨rfl, hb3⟩
  have hz3 := hb3.size
  (try simp only [World.size_alloc, World.size_setCell, World.size_drew] at hz3)
  have k3_0 := fun o => (bcell hb3).1 (w.heap.size) o (by first | (simp; done) | (simp; omega) | omega)
  have l3_0 : (w.heap.size) < w3.heap.size := (by omega)
  have q3_0 := fun o => (bcell hb3).2 (w.heap.size) o (by first | (simp; done) | (simp; omega) | omega)
  simp (maxDischargeDepth := 6) [go_sem, *] at k3_0 q3_0
  have HB3 := Lib.hid hb3
  clear hb3
  have M3 := Lib.hid ((M2.out.below HB3.out).more (B' := w3.heap.size) (by omega))
  have C0 : w3.cell? ⟨w.heap.size, 0, none⟩ = some (.int .i64 x.dev) := by simp [k3_0]
  have C1 : w3.cell? ⟨w.heap.size, 1, none⟩ = some (.int .i64 x.page) := by simp [k3_0]
  have C2 : w3.cell? ⟨w.heap.size, 2, none⟩ = some (.int .i64 x.at_) := by simp [k3_0]
  have C3 : w3.cell? ⟨w.heap.size, 3, none⟩ = some (.bool x.rd) := by simp [k3_0]
  have C4 : w3.cell? ⟨w.heap.size, 4, none⟩ = some (.bool x.wr) := by simp [k3_0]
  have HC := Lib.hid (And.intro C0 (And.intro C1 (And.intro C2 (And.intro C3 C4))))
  clear C0 C1 C2 C3 C4
  go_wp2_with fail
  obtain ⟨e1, e2, e3⟩ := HE.out
  go_region_held3 (fun W => W.cell? ⟨w.heap.size, 0, none⟩ = some (.int .i64 x.dev) ∧ W.cell? ⟨w.heap.size, 1, none⟩ = some (.int .i64 x.page) ∧ W.cell? ⟨w.heap.size, 2, none⟩ = some (.int .i64 x.at_) ∧ W.cell? ⟨w.heap.size, 3, none⟩ = some (.bool x.rd) ∧ W.cell? ⟨w.heap.size, 4, none⟩ = some (.bool x.wr))
    (first
      | exact HC.out
      | (refine ⟨?_, ?_, ?_, ?_, ?_⟩; (exact Eq.trans (hgrow.cell_far ⟨w.heap.size, 0, none⟩ (by simp; omega) (fun e => absurd (own_ge HO4.out.2.2.2 _ e.symm) (by simp; omega))) (by simp (maxDischargeDepth := 8) [go_sem, k4_0, l4_0])); (exact Eq.trans (hgrow.cell_far ⟨w.heap.size, 1, none⟩ (by simp; omega) (fun e => absurd (own_ge HO4.out.2.2.2 _ e.symm) (by simp; omega))) (by simp (maxDischargeDepth := 8) [go_sem, k4_0, l4_0])); (exact Eq.trans (hgrow.cell_far ⟨w.heap.size, 2, none⟩ (by simp; omega) (fun e => absurd (own_ge HO4.out.2.2.2 _ e.symm) (by simp; omega))) (by simp (maxDischargeDepth := 8) [go_sem, k4_0, l4_0])); (exact Eq.trans (hgrow.cell_far ⟨w.heap.size, 3, none⟩ (by simp; omega) (fun e => absurd (own_ge HO4.out.2.2.2 _ e.symm) (by simp; omega))) (by simp (maxDischargeDepth := 8) [go_sem, k4_0, l4_0])); (exact Eq.trans (hgrow.cell_far ⟨w.heap.size, 4, none⟩ (by simp; omega) (fun e => absurd (own_ge HO4.out.2.2.2 _ e.symm) (by simp; omega))) (by simp (maxDischargeDepth := 8) [go_sem, k4_0, l4_0])))
      | (refine ⟨?_, ?_, ?_, ?_, ?_⟩ <;> (simp (maxDischargeDepth := 8) [go_sem, k4_0]; done))
      | (refine ⟨?_, ?_, ?_, ?_, ?_⟩ <;> (simp (maxDischargeDepth := 8) [go_sem, HC.out.1, HC.out.2.1, HC.out.2.2.1, HC.out.2.2.2.1, HC.out.2.2.2.2]; done))
      | go_keep)
    (first
      | (go_at_call 51; refine (sl_CloneL _ _ _ ls _ ?_ (by omega)).mono ?_; (first | exact M3.out.drew | exact (M3.out.drew.alloc (Nat.le_refl _) _).more (by simp)); rintro e w4 ⟨A4, c4, rfl, ho4, hb4⟩; have HO4 : Hid (OwnL w3.heap.size w4 A4 2 c4 ls) := Lib.hid (ho4.low (by simp)); clear ho4; have hb4' := hb4; have hz4 := hb4.size; (try simp only [World.size_alloc, World.size_setCell, World.size_drew] at hz4); have k4_0 := fun o => (bcell hb4).1 (w.heap.size) o (by first | (simp; done) | (simp; omega) | omega); have l4_0 : (w.heap.size) < w4.heap.size := (by omega); have q4_0 := fun o => (bcell hb4).2 (w.heap.size) o (by first | (simp; done) | (simp; omega) | omega); simp (maxDischargeDepth := 6) [go_sem, *] at k4_0 q4_0; have HB4 := Lib.hid hb4; clear hb4)
      | (revert HO4; intro HO4; refine step_append_lies _ (by rfl) (.tmp 33) (.tmp 35) 27 (by rfl) w3.heap.size 77 i0 (.agg #[.int .i64 0, .int .i64 0, .int .i64 0, .bool false, .bool false]) 5 32 Try.underlying27 HI.out HZ0.out HZ1.out HZ2.out (by rfl) (by decide) (.slice A4 2 c4) 2 (lcells ls) (by rfl) HO4.out.2.2.2 ⟨w3.heap.size, 0, none⟩ 1 1 x.vals (by rfl) (by rfl) (news_old (w := w3.drew) x hb4') (vals_one x) (by decide) (by unfold maxLen; omega) (by omega) (by omega) _ rfl ?_; intro g cap w5 hown5 hgrow hat hlt)
      | (revert HO4; intro HO4; refine step_append_lies _ (by rfl) (.tmp 33) (.tmp 35) 27 (by rfl) w3.heap.size 77 i0 (.agg #[.int .i64 0, .int .i64 0, .int .i64 0, .bool false, .bool false]) 5 32 Try.underlying27 HI.out HZ0.out HZ1.out HZ2.out (by rfl) (by decide) (.slice A4 2 c4) 2 (lcells ls) (by rfl) (HO4.out.alloc _).2.2.2 ⟨w4.heap.size, 0, none⟩ 1 1 x.vals (by rfl) (by rfl) (news_new w4 x) (vals_one x) (by decide) (by unfold maxLen; omega) (by omega) (by simp; omega) _ rfl ?_; intro g cap w5 hown5 hgrow hat hlt))
  all_goals
    have hbw : Below w3.heap.size w3 w5 := by
      first
        | exact Below.grown (Below.alloc (B := w3.heap.size) (by (repeat (first | (with_reducible exact Below.refl _ _) | (with_reducible refine Below.drew ?_) | (with_reducible refine bdrewN ?_ _) | ((with_reducible refine Below.setCell ?_ ?_ _); rotate_left; exact (by first | (simp; done) | (simp; omega) | omega)) | ((with_reducible refine Below.alloc ?_ ?_ _); rotate_left; exact (by first | (simp; done) | (simp; omega) | omega)) | ((with_reducible refine Below.trans ?_ (HB4.out.mono ?_)); rotate_left; exact (by first | (simp; done) | (simp; omega) | omega))))) (by omega) _) hgrow (by simp; omega) (own_ge HO4.out.2.2.2)
        | exact Below.grown (by (repeat (first | (with_reducible exact Below.refl _ _) | (with_reducible refine Below.drew ?_) | (with_reducible refine bdrewN ?_ _) | ((with_reducible refine Below.setCell ?_ ?_ _); rotate_left; exact (by first | (simp; done) | (simp; omega) | omega)) | ((with_reducible refine Below.alloc ?_ ?_ _); rotate_left; exact (by first | (simp; done) | (simp; omega) | omega)) | ((with_reducible refine Below.trans ?_ (HB4.out.mono ?_)); rotate_left; exact (by first | (simp; done) | (simp; omega) | omega))))) hgrow (by omega) (own_ge HO4.out.2.2.2)
    have HBW := Lib.hid hbw
    have HO5 := Lib.hid (own_fill0 HLEN.out hown5)
    clear hgrow hat hlt hown5 hbw e1 e2 e3
    go_wp2
    go_ret2
    exact ⟨some ⟨g, 0, none⟩, cap, rfl, HO5.out.low (by omega), (by (repeat (first | (with_reducible exact Below.refl _ _) | (with_reducible refine Below.drew ?_) | (with_reducible refine bdrewN ?_ _) | ((with_reducible refine Below.setCell ?_ ?_ _); rotate_left; exact (by first | (simp; done) | (simp; omega) | omega)) | ((with_reducible refine Below.alloc ?_ ?_ _); rotate_left; exact (by first | (simp; done) | (simp; omega) | omega)) | ((with_reducible refine Below.trans ?_ (HB3.out.mono ?_)); rotate_left; exact (by first | (simp; done) | (simp; omega) | omega)) | ((with_reducible refine Below.trans ?_ (HB2.out.mono ?_)); rotate_left; exact (by first | (simp; done) | (simp; omega) | omega)) | ((with_reducible refine Below.trans ?_ (HB1.out.mono ?_)); rotate_left; exact (by first | (simp; done) | (simp; omega) | omega)))) : Below w.heap.size w w3).trans (HBW.out.mono (by omega))⟩
set_option maxRecDepth 100000 in
set_option maxHeartbeats 8000000 in
theorem cache_Fill_3 (b off c : Nat) (hc0 : c ≠ 0) (ls : List Line) (x : Line) (w : World) (hl : Lines w w.heap.size (some ⟨b, off, none⟩) 3 c ls) (h0 : ckC ls = 0) (h1 : lineE x = 0) (h2 : findL ls x.dev x.page < 0) :
    Calls Try.prog 63 #[.slice (some ⟨b, off, none⟩) 3 c, .agg #[.int .i64 x.dev, .int .i64 x.page, .int .i64 x.at_, .bool x.rd, .bool x.wr]] w (FillC w (3 + 1) (ls ++ [x])) := by
  obtain ⟨i0, hi, hz0, hz1, hz2⟩ := info_parts Try.infoLine
  have HI := Lib.hid hi; clear hi
  have HZ0 := Lib.hid hz0; clear hz0
  have HZ1 := Lib.hid hz1; clear hz1
  have HZ2 := Lib.hid hz2; clear hz2
  have HL := Lib.hid hl
  have HL1 := Lib.hid hl
  have HLEN := Lib.hid hl.len
  obtain ⟨hc1, hc2⟩ := hl.cap
  have HE := Lib.hid (show IntKind.i64.wrap 4 = 4 ∧ IntKind.i64.wrap (4 - 6) = -2 ∧ IntKind.i64.wrap (-2) = -2 by decide)
  have c2 : ¬ c = 0 := hc0
  clear hc0
  have t0 : (ckC ls != 0) = false := by rw [bne_eq_false_iff_eq]; exact h0
  have t1 : (lineE x != 0) = false := by rw [bne_eq_false_iff_eq]; exact h1
  have t2 : decide (0 ≤ findL ls x.dev x.page) = false := by simp; omega
  have HF := Lib.hid h2
  clear h0 h1 h2 hl
  go_enter Try.func63, Try.ntmps63
  go_wp2_with fail
  refine (cache_Check _ _ _ ls _ ((HL.out.alloc (Nat.le_refl _) _).more (by simp))).mono ?_
  rintro e w1 ⟨rfl, hb1⟩
  have hz1 := hb1.size
  (try simp only [World.size_alloc, World.size_setCell, World.size_drew] at hz1)
  have k1_0 := fun o => (bcell hb1).1 (w.heap.size) o (by first | (simp; done) | (simp; omega) | omega)
  have l1_0 : (w.heap.size) < w1.heap.size := (by omega)
  have q1_0 := fun o => (bcell hb1).2 (w.heap.size) o (by first | (simp; done) | (simp; omega) | omega)
  simp (maxDischargeDepth := 6) [go_sem, *] at k1_0 q1_0
  have HB1 := Lib.hid hb1
  clear hb1
  go_wp2_with fail
  refine (cache_Check _ _ _ [x] _ ((lines_new _ x).more (by simp))).mono ?_
  rw [ckC_one]
  rintro e w2 ⟨rfl, hb2⟩
  have hz2 := hb2.size
  (try simp only [World.size_alloc, World.size_setCell, World.size_drew] at hz2)
  have k2_0 := fun o => (bcell hb2).1 (w.heap.size) o (by first | (simp; done) | (simp; omega) | omega)
  have l2_0 : (w.heap.size) < w2.heap.size := (by omega)
  have q2_0 := fun o => (bcell hb2).2 (w.heap.size) o (by first | (simp; done) | (simp; omega) | omega)
  simp (maxDischargeDepth := 6) [go_sem, *] at k2_0 q2_0
  have HB2 := Lib.hid hb2
  clear hb2
  have L2 := Lib.hid ((((HL.out.alloc (Nat.le_refl _) (.cells #[.int .i64 x.dev, .int .i64 x.page, .int .i64 x.at_, .bool x.rd, .bool x.wr] 77)).below (HB1.out.mono (by simp))).alloc (by omega) (.cells #[.int .i64 x.dev, .int .i64 x.page, .int .i64 x.at_, .bool x.rd, .bool x.wr] 77) |>.below (HB2.out.mono (by simp; omega))).more (B' := w2.heap.size) (by omega))
  have M2 := Lib.hid ((((HL1.out.alloc (Nat.le_refl _) (.cells #[.int .i64 x.dev, .int .i64 x.page, .int .i64 x.at_, .bool x.rd, .bool x.wr] 77)).below (HB1.out.mono (by simp))).alloc (by omega) (.cells #[.int .i64 x.dev, .int .i64 x.page, .int .i64 x.at_, .bool x.rd, .bool x.wr] 77) |>.below (HB2.out.mono (by simp; omega))).more (B' := w2.heap.size) (by omega))
  go_wp2_with fail
  refine (cache_Find _ _ _ ls _ _ _ L2.out).mono ?_
  rintro e w3 ⟨rfl, hb3⟩
  have hz3 := hb3.size
  (try simp only [World.size_alloc, World.size_setCell, World.size_drew] at hz3)
  have k3_0 := fun o => (bcell hb3).1 (w.heap.size) o (by first | (simp; done) | (simp; omega) | omega)
  have l3_0 : (w.heap.size) < w3.heap.size := (by omega)
  have q3_0 := fun o => (bcell hb3).2 (w.heap.size) o (by first | (simp; done) | (simp; omega) | omega)
  simp (maxDischargeDepth := 6) [go_sem, *] at k3_0 q3_0
  have HB3 := Lib.hid hb3
  clear hb3
  have M3 := Lib.hid ((M2.out.below HB3.out).more (B' := w3.heap.size) (by omega))
  have C0 : w3.cell? ⟨w.heap.size, 0, none⟩ = some (.int .i64 x.dev) := by simp [k3_0]
  have C1 : w3.cell? ⟨w.heap.size, 1, none⟩ = some (.int .i64 x.page) := by simp [k3_0]
  have C2 : w3.cell? ⟨w.heap.size, 2, none⟩ = some (.int .i64 x.at_) := by simp [k3_0]
  have C3 : w3.cell? ⟨w.heap.size, 3, none⟩ = some (.bool x.rd) := by simp [k3_0]
  have C4 : w3.cell? ⟨w.heap.size, 4, none⟩ = some (.bool x.wr) := by simp [k3_0]
  have HC := Lib.hid (And.intro C0 (And.intro C1 (And.intro C2 (And.intro C3 C4))))
  clear C0 C1 C2 C3 C4
  go_wp2_with fail
  obtain ⟨e1, e2, e3⟩ := HE.out
  go_region_held3 (fun W => W.cell? ⟨w.heap.size, 0, none⟩ = some (.int .i64 x.dev) ∧ W.cell? ⟨w.heap.size, 1, none⟩ = some (.int .i64 x.page) ∧ W.cell? ⟨w.heap.size, 2, none⟩ = some (.int .i64 x.at_) ∧ W.cell? ⟨w.heap.size, 3, none⟩ = some (.bool x.rd) ∧ W.cell? ⟨w.heap.size, 4, none⟩ = some (.bool x.wr))
    (first
      | exact HC.out
      | (refine ⟨?_, ?_, ?_, ?_, ?_⟩; (exact Eq.trans (hgrow.cell_far ⟨w.heap.size, 0, none⟩ (by simp; omega) (fun e => absurd (own_ge HO4.out.2.2.2 _ e.symm) (by simp; omega))) (by simp (maxDischargeDepth := 8) [go_sem, k4_0, l4_0])); (exact Eq.trans (hgrow.cell_far ⟨w.heap.size, 1, none⟩ (by simp; omega) (fun e => absurd (own_ge HO4.out.2.2.2 _ e.symm) (by simp; omega))) (by simp (maxDischargeDepth := 8) [go_sem, k4_0, l4_0])); (exact Eq.trans (hgrow.cell_far ⟨w.heap.size, 2, none⟩ (by simp; omega) (fun e => absurd (own_ge HO4.out.2.2.2 _ e.symm) (by simp; omega))) (by simp (maxDischargeDepth := 8) [go_sem, k4_0, l4_0])); (exact Eq.trans (hgrow.cell_far ⟨w.heap.size, 3, none⟩ (by simp; omega) (fun e => absurd (own_ge HO4.out.2.2.2 _ e.symm) (by simp; omega))) (by simp (maxDischargeDepth := 8) [go_sem, k4_0, l4_0])); (exact Eq.trans (hgrow.cell_far ⟨w.heap.size, 4, none⟩ (by simp; omega) (fun e => absurd (own_ge HO4.out.2.2.2 _ e.symm) (by simp; omega))) (by simp (maxDischargeDepth := 8) [go_sem, k4_0, l4_0])))
      | (refine ⟨?_, ?_, ?_, ?_, ?_⟩ <;> (simp (maxDischargeDepth := 8) [go_sem, k4_0]; done))
      | (refine ⟨?_, ?_, ?_, ?_, ?_⟩ <;> (simp (maxDischargeDepth := 8) [go_sem, HC.out.1, HC.out.2.1, HC.out.2.2.1, HC.out.2.2.2.1, HC.out.2.2.2.2]; done))
      | go_keep)
    (first
      | (go_at_call 51; refine (sl_CloneL _ _ _ ls _ ?_ (by omega)).mono ?_; (first | exact M3.out.drew | exact (M3.out.drew.alloc (Nat.le_refl _) _).more (by simp)); rintro e w4 ⟨A4, c4, rfl, ho4, hb4⟩; have HO4 : Hid (OwnL w3.heap.size w4 A4 3 c4 ls) := Lib.hid (ho4.low (by simp)); clear ho4; have hb4' := hb4; have hz4 := hb4.size; (try simp only [World.size_alloc, World.size_setCell, World.size_drew] at hz4); have k4_0 := fun o => (bcell hb4).1 (w.heap.size) o (by first | (simp; done) | (simp; omega) | omega); have l4_0 : (w.heap.size) < w4.heap.size := (by omega); have q4_0 := fun o => (bcell hb4).2 (w.heap.size) o (by first | (simp; done) | (simp; omega) | omega); simp (maxDischargeDepth := 6) [go_sem, *] at k4_0 q4_0; have HB4 := Lib.hid hb4; clear hb4)
      | (revert HO4; intro HO4; refine step_append_lies _ (by rfl) (.tmp 33) (.tmp 35) 27 (by rfl) w3.heap.size 77 i0 (.agg #[.int .i64 0, .int .i64 0, .int .i64 0, .bool false, .bool false]) 5 32 Try.underlying27 HI.out HZ0.out HZ1.out HZ2.out (by rfl) (by decide) (.slice A4 3 c4) 3 (lcells ls) (by rfl) HO4.out.2.2.2 ⟨w3.heap.size, 0, none⟩ 1 1 x.vals (by rfl) (by rfl) (news_old (w := w3.drew) x hb4') (vals_one x) (by decide) (by unfold maxLen; omega) (by omega) (by omega) _ rfl ?_; intro g cap w5 hown5 hgrow hat hlt)
      | (revert HO4; intro HO4; refine step_append_lies _ (by rfl) (.tmp 33) (.tmp 35) 27 (by rfl) w3.heap.size 77 i0 (.agg #[.int .i64 0, .int .i64 0, .int .i64 0, .bool false, .bool false]) 5 32 Try.underlying27 HI.out HZ0.out HZ1.out HZ2.out (by rfl) (by decide) (.slice A4 3 c4) 3 (lcells ls) (by rfl) (HO4.out.alloc _).2.2.2 ⟨w4.heap.size, 0, none⟩ 1 1 x.vals (by rfl) (by rfl) (news_new w4 x) (vals_one x) (by decide) (by unfold maxLen; omega) (by omega) (by simp; omega) _ rfl ?_; intro g cap w5 hown5 hgrow hat hlt))
  all_goals
    have hbw : Below w3.heap.size w3 w5 := by
      first
        | exact Below.grown (Below.alloc (B := w3.heap.size) (by (repeat (first | (with_reducible exact Below.refl _ _) | (with_reducible refine Below.drew ?_) | (with_reducible refine bdrewN ?_ _) | ((with_reducible refine Below.setCell ?_ ?_ _); rotate_left; exact (by first | (simp; done) | (simp; omega) | omega)) | ((with_reducible refine Below.alloc ?_ ?_ _); rotate_left; exact (by first | (simp; done) | (simp; omega) | omega)) | ((with_reducible refine Below.trans ?_ (HB4.out.mono ?_)); rotate_left; exact (by first | (simp; done) | (simp; omega) | omega))))) (by omega) _) hgrow (by simp; omega) (own_ge HO4.out.2.2.2)
        | exact Below.grown (by (repeat (first | (with_reducible exact Below.refl _ _) | (with_reducible refine Below.drew ?_) | (with_reducible refine bdrewN ?_ _) | ((with_reducible refine Below.setCell ?_ ?_ _); rotate_left; exact (by first | (simp; done) | (simp; omega) | omega)) | ((with_reducible refine Below.alloc ?_ ?_ _); rotate_left; exact (by first | (simp; done) | (simp; omega) | omega)) | ((with_reducible refine Below.trans ?_ (HB4.out.mono ?_)); rotate_left; exact (by first | (simp; done) | (simp; omega) | omega))))) hgrow (by omega) (own_ge HO4.out.2.2.2)
    have HBW := Lib.hid hbw
    have HO5 := Lib.hid (own_fill0 HLEN.out hown5)
    clear hgrow hat hlt hown5 hbw e1 e2 e3
    go_wp2
    go_ret2
    exact ⟨some ⟨g, 0, none⟩, cap, rfl, HO5.out.low (by omega), (by (repeat (first | (with_reducible exact Below.refl _ _) | (with_reducible refine Below.drew ?_) | (with_reducible refine bdrewN ?_ _) | ((with_reducible refine Below.setCell ?_ ?_ _); rotate_left; exact (by first | (simp; done) | (simp; omega) | omega)) | ((with_reducible refine Below.alloc ?_ ?_ _); rotate_left; exact (by first | (simp; done) | (simp; omega) | omega)) | ((with_reducible refine Below.trans ?_ (HB3.out.mono ?_)); rotate_left; exact (by first | (simp; done) | (simp; omega) | omega)) | ((with_reducible refine Below.trans ?_ (HB2.out.mono ?_)); rotate_left; exact (by first | (simp; done) | (simp; omega) | omega)) | ((with_reducible refine Below.trans ?_ (HB1.out.mono ?_)); rotate_left; exact (by first | (simp; done) | (simp; omega) | omega)))) : Below w.heap.size w w3).trans (HBW.out.mono (by omega))⟩
set_option maxRecDepth 100000 in
set_option maxHeartbeats 8000000 in
theorem cache_Fill_4 (b off c : Nat) (hc0 : c ≠ 0) (ls : List Line) (x : Line) (w : World) (hl : Lines w w.heap.size (some ⟨b, off, none⟩) 4 c ls) (h0 : ckC ls = 0) (h1 : lineE x = 0) (h2 : findL ls x.dev x.page < 0) :
    Calls Try.prog 63 #[.slice (some ⟨b, off, none⟩) 4 c, .agg #[.int .i64 x.dev, .int .i64 x.page, .int .i64 x.at_, .bool x.rd, .bool x.wr]] w (FillC w (4 + 1) (ls ++ [x])) := by
  obtain ⟨i0, hi, hz0, hz1, hz2⟩ := info_parts Try.infoLine
  have HI := Lib.hid hi; clear hi
  have HZ0 := Lib.hid hz0; clear hz0
  have HZ1 := Lib.hid hz1; clear hz1
  have HZ2 := Lib.hid hz2; clear hz2
  have HL := Lib.hid hl
  have HL1 := Lib.hid hl
  have HLEN := Lib.hid hl.len
  obtain ⟨hc1, hc2⟩ := hl.cap
  have HE := Lib.hid (show IntKind.i64.wrap 5 = 5 ∧ IntKind.i64.wrap (5 - 6) = -1 ∧ IntKind.i64.wrap (-1) = -1 by decide)
  have c2 : ¬ c = 0 := hc0
  clear hc0
  have t0 : (ckC ls != 0) = false := by rw [bne_eq_false_iff_eq]; exact h0
  have t1 : (lineE x != 0) = false := by rw [bne_eq_false_iff_eq]; exact h1
  have t2 : decide (0 ≤ findL ls x.dev x.page) = false := by simp; omega
  have HF := Lib.hid h2
  clear h0 h1 h2 hl
  go_enter Try.func63, Try.ntmps63
  go_wp2_with fail
  refine (cache_Check _ _ _ ls _ ((HL.out.alloc (Nat.le_refl _) _).more (by simp))).mono ?_
  rintro e w1 ⟨rfl, hb1⟩
  have hz1 := hb1.size
  (try simp only [World.size_alloc, World.size_setCell, World.size_drew] at hz1)
  have k1_0 := fun o => (bcell hb1).1 (w.heap.size) o (by first | (simp; done) | (simp; omega) | omega)
  have l1_0 : (w.heap.size) < w1.heap.size := (by omega)
  have q1_0 := fun o => (bcell hb1).2 (w.heap.size) o (by first | (simp; done) | (simp; omega) | omega)
  simp (maxDischargeDepth := 6) [go_sem, *] at k1_0 q1_0
  have HB1 := Lib.hid hb1
  clear hb1
  go_wp2_with fail
  refine (cache_Check _ _ _ [x] _ ((lines_new _ x).more (by simp))).mono ?_
  rw [ckC_one]
  rintro e w2 ⟨rfl, hb2⟩
  have hz2 := hb2.size
  (try simp only [World.size_alloc, World.size_setCell, World.size_drew] at hz2)
  have k2_0 := fun o => (bcell hb2).1 (w.heap.size) o (by first | (simp; done) | (simp; omega) | omega)
  have l2_0 : (w.heap.size) < w2.heap.size := (by omega)
  have q2_0 := fun o => (bcell hb2).2 (w.heap.size) o (by first | (simp; done) | (simp; omega) | omega)
  simp (maxDischargeDepth := 6) [go_sem, *] at k2_0 q2_0
  have HB2 := Lib.hid hb2
  clear hb2
  have L2 := Lib.hid ((((HL.out.alloc (Nat.le_refl _) (.cells #[.int .i64 x.dev, .int .i64 x.page, .int .i64 x.at_, .bool x.rd, .bool x.wr] 77)).below (HB1.out.mono (by simp))).alloc (by omega) (.cells #[.int .i64 x.dev, .int .i64 x.page, .int .i64 x.at_, .bool x.rd, .bool x.wr] 77) |>.below (HB2.out.mono (by simp; omega))).more (B' := w2.heap.size) (by omega))
  have M2 := Lib.hid ((((HL1.out.alloc (Nat.le_refl _) (.cells #[.int .i64 x.dev, .int .i64 x.page, .int .i64 x.at_, .bool x.rd, .bool x.wr] 77)).below (HB1.out.mono (by simp))).alloc (by omega) (.cells #[.int .i64 x.dev, .int .i64 x.page, .int .i64 x.at_, .bool x.rd, .bool x.wr] 77) |>.below (HB2.out.mono (by simp; omega))).more (B' := w2.heap.size) (by omega))
  go_wp2_with fail
  refine (cache_Find _ _ _ ls _ _ _ L2.out).mono ?_
  rintro e w3 ⟨rfl, hb3⟩
  have hz3 := hb3.size
  (try simp only [World.size_alloc, World.size_setCell, World.size_drew] at hz3)
  have k3_0 := fun o => (bcell hb3).1 (w.heap.size) o (by first | (simp; done) | (simp; omega) | omega)
  have l3_0 : (w.heap.size) < w3.heap.size := (by omega)
  have q3_0 := fun o => (bcell hb3).2 (w.heap.size) o (by first | (simp; done) | (simp; omega) | omega)
  simp (maxDischargeDepth := 6) [go_sem, *] at k3_0 q3_0
  have HB3 := Lib.hid hb3
  clear hb3
  have M3 := Lib.hid ((M2.out.below HB3.out).more (B' := w3.heap.size) (by omega))
  have C0 : w3.cell? ⟨w.heap.size, 0, none⟩ = some (.int .i64 x.dev) := by simp [k3_0]
  have C1 : w3.cell? ⟨w.heap.size, 1, none⟩ = some (.int .i64 x.page) := by simp [k3_0]
  have C2 : w3.cell? ⟨w.heap.size, 2, none⟩ = some (.int .i64 x.at_) := by simp [k3_0]
  have C3 : w3.cell? ⟨w.heap.size, 3, none⟩ = some (.bool x.rd) := by simp [k3_0]
  have C4 : w3.cell? ⟨w.heap.size, 4, none⟩ = some (.bool x.wr) := by simp [k3_0]
  have HC := Lib.hid (And.intro C0 (And.intro C1 (And.intro C2 (And.intro C3 C4))))
  clear C0 C1 C2 C3 C4
  go_wp2_with fail
  obtain ⟨e1, e2, e3⟩ := HE.out
  go_region_held3 (fun W => W.cell? ⟨w.heap.size, 0, none⟩ = some (.int .i64 x.dev) ∧ W.cell? ⟨w.heap.size, 1, none⟩ = some (.int .i64 x.page) ∧ W.cell? ⟨w.heap.size, 2, none⟩ = some (.int .i64 x.at_) ∧ W.cell? ⟨w.heap.size, 3, none⟩ = some (.bool x.rd) ∧ W.cell? ⟨w.heap.size, 4, none⟩ = some (.bool x.wr))
    (first
      | exact HC.out
      | (refine ⟨?_, ?_, ?_, ?_, ?_⟩; (exact Eq.trans (hgrow.cell_far ⟨w.heap.size, 0, none⟩ (by simp; omega) (fun e => absurd (own_ge HO4.out.2.2.2 _ e.symm) (by simp; omega))) (by simp (maxDischargeDepth := 8) [go_sem, k4_0, l4_0])); (exact Eq.trans (hgrow.cell_far ⟨w.heap.size, 1, none⟩ (by simp; omega) (fun e => absurd (own_ge HO4.out.2.2.2 _ e.symm) (by simp; omega))) (by simp (maxDischargeDepth := 8) [go_sem, k4_0, l4_0])); (exact Eq.trans (hgrow.cell_far ⟨w.heap.size, 2, none⟩ (by simp; omega) (fun e => absurd (own_ge HO4.out.2.2.2 _ e.symm) (by simp; omega))) (by simp (maxDischargeDepth := 8) [go_sem, k4_0, l4_0])); (exact Eq.trans (hgrow.cell_far ⟨w.heap.size, 3, none⟩ (by simp; omega) (fun e => absurd (own_ge HO4.out.2.2.2 _ e.symm) (by simp; omega))) (by simp (maxDischargeDepth := 8) [go_sem, k4_0, l4_0])); (exact Eq.trans (hgrow.cell_far ⟨w.heap.size, 4, none⟩ (by simp; omega) (fun e => absurd (own_ge HO4.out.2.2.2 _ e.symm) (by simp; omega))) (by simp (maxDischargeDepth := 8) [go_sem, k4_0, l4_0])))
      | (refine ⟨?_, ?_, ?_, ?_, ?_⟩ <;> (simp (maxDischargeDepth := 8) [go_sem, k4_0]; done))
      | (refine ⟨?_, ?_, ?_, ?_, ?_⟩ <;> (simp (maxDischargeDepth := 8) [go_sem, HC.out.1, HC.out.2.1, HC.out.2.2.1, HC.out.2.2.2.1, HC.out.2.2.2.2]; done))
      | go_keep)
    (first
      | (go_at_call 51; refine (sl_CloneL _ _ _ ls _ ?_ (by omega)).mono ?_; (first | exact M3.out.drew | exact (M3.out.drew.alloc (Nat.le_refl _) _).more (by simp)); rintro e w4 ⟨A4, c4, rfl, ho4, hb4⟩; have HO4 : Hid (OwnL w3.heap.size w4 A4 4 c4 ls) := Lib.hid (ho4.low (by simp)); clear ho4; have hb4' := hb4; have hz4 := hb4.size; (try simp only [World.size_alloc, World.size_setCell, World.size_drew] at hz4); have k4_0 := fun o => (bcell hb4).1 (w.heap.size) o (by first | (simp; done) | (simp; omega) | omega); have l4_0 : (w.heap.size) < w4.heap.size := (by omega); have q4_0 := fun o => (bcell hb4).2 (w.heap.size) o (by first | (simp; done) | (simp; omega) | omega); simp (maxDischargeDepth := 6) [go_sem, *] at k4_0 q4_0; have HB4 := Lib.hid hb4; clear hb4)
      | (revert HO4; intro HO4; refine step_append_lies _ (by rfl) (.tmp 33) (.tmp 35) 27 (by rfl) w3.heap.size 77 i0 (.agg #[.int .i64 0, .int .i64 0, .int .i64 0, .bool false, .bool false]) 5 32 Try.underlying27 HI.out HZ0.out HZ1.out HZ2.out (by rfl) (by decide) (.slice A4 4 c4) 4 (lcells ls) (by rfl) HO4.out.2.2.2 ⟨w3.heap.size, 0, none⟩ 1 1 x.vals (by rfl) (by rfl) (news_old (w := w3.drew) x hb4') (vals_one x) (by decide) (by unfold maxLen; omega) (by omega) (by omega) _ rfl ?_; intro g cap w5 hown5 hgrow hat hlt)
      | (revert HO4; intro HO4; refine step_append_lies _ (by rfl) (.tmp 33) (.tmp 35) 27 (by rfl) w3.heap.size 77 i0 (.agg #[.int .i64 0, .int .i64 0, .int .i64 0, .bool false, .bool false]) 5 32 Try.underlying27 HI.out HZ0.out HZ1.out HZ2.out (by rfl) (by decide) (.slice A4 4 c4) 4 (lcells ls) (by rfl) (HO4.out.alloc _).2.2.2 ⟨w4.heap.size, 0, none⟩ 1 1 x.vals (by rfl) (by rfl) (news_new w4 x) (vals_one x) (by decide) (by unfold maxLen; omega) (by omega) (by simp; omega) _ rfl ?_; intro g cap w5 hown5 hgrow hat hlt))
  all_goals
    have hbw : Below w3.heap.size w3 w5 := by
      first
        | exact Below.grown (Below.alloc (B := w3.heap.size) (by (repeat (first | (with_reducible exact Below.refl _ _) | (with_reducible refine Below.drew ?_) | (with_reducible refine bdrewN ?_ _) | ((with_reducible refine Below.setCell ?_ ?_ _); rotate_left; exact (by first | (simp; done) | (simp; omega) | omega)) | ((with_reducible refine Below.alloc ?_ ?_ _); rotate_left; exact (by first | (simp; done) | (simp; omega) | omega)) | ((with_reducible refine Below.trans ?_ (HB4.out.mono ?_)); rotate_left; exact (by first | (simp; done) | (simp; omega) | omega))))) (by omega) _) hgrow (by simp; omega) (own_ge HO4.out.2.2.2)
        | exact Below.grown (by (repeat (first | (with_reducible exact Below.refl _ _) | (with_reducible refine Below.drew ?_) | (with_reducible refine bdrewN ?_ _) | ((with_reducible refine Below.setCell ?_ ?_ _); rotate_left; exact (by first | (simp; done) | (simp; omega) | omega)) | ((with_reducible refine Below.alloc ?_ ?_ _); rotate_left; exact (by first | (simp; done) | (simp; omega) | omega)) | ((with_reducible refine Below.trans ?_ (HB4.out.mono ?_)); rotate_left; exact (by first | (simp; done) | (simp; omega) | omega))))) hgrow (by omega) (own_ge HO4.out.2.2.2)
    have HBW := Lib.hid hbw
    have HO5 := Lib.hid (own_fill0 HLEN.out hown5)
    clear hgrow hat hlt hown5 hbw e1 e2 e3
    go_wp2
    go_ret2
    exact ⟨some ⟨g, 0, none⟩, cap, rfl, HO5.out.low (by omega), (by (repeat (first | (with_reducible exact Below.refl _ _) | (with_reducible refine Below.drew ?_) | (with_reducible refine bdrewN ?_ _) | ((with_reducible refine Below.setCell ?_ ?_ _); rotate_left; exact (by first | (simp; done) | (simp; omega) | omega)) | ((with_reducible refine Below.alloc ?_ ?_ _); rotate_left; exact (by first | (simp; done) | (simp; omega) | omega)) | ((with_reducible refine Below.trans ?_ (HB3.out.mono ?_)); rotate_left; exact (by first | (simp; done) | (simp; omega) | omega)) | ((with_reducible refine Below.trans ?_ (HB2.out.mono ?_)); rotate_left; exact (by first | (simp; done) | (simp; omega) | omega)) | ((with_reducible refine Below.trans ?_ (HB1.out.mono ?_)); rotate_left; exact (by first | (simp; done) | (simp; omega) | omega)))) : Below w.heap.size w w3).trans (HBW.out.mono (by omega))⟩
set_option maxRecDepth 100000 in
set_option maxHeartbeats 8000000 in
theorem cache_Fill_5 (b off c : Nat) (hc0 : c ≠ 0) (ls : List Line) (x : Line) (w : World) (hl : Lines w w.heap.size (some ⟨b, off, none⟩) 5 c ls) (h0 : ckC ls = 0) (h1 : lineE x = 0) (h2 : findL ls x.dev x.page < 0) :
    Calls Try.prog 63 #[.slice (some ⟨b, off, none⟩) 5 c, .agg #[.int .i64 x.dev, .int .i64 x.page, .int .i64 x.at_, .bool x.rd, .bool x.wr]] w (FillC w (5 + 1) (ls ++ [x])) := by
  obtain ⟨i0, hi, hz0, hz1, hz2⟩ := info_parts Try.infoLine
  have HI := Lib.hid hi; clear hi
  have HZ0 := Lib.hid hz0; clear hz0
  have HZ1 := Lib.hid hz1; clear hz1
  have HZ2 := Lib.hid hz2; clear hz2
  have HL := Lib.hid hl
  have HL1 := Lib.hid hl
  have HLEN := Lib.hid hl.len
  obtain ⟨hc1, hc2⟩ := hl.cap
  have HE := Lib.hid (show IntKind.i64.wrap 6 = 6 ∧ IntKind.i64.wrap (6 - 6) = 0 ∧ IntKind.i64.wrap (0) = 0 by decide)
  have c2 : ¬ c = 0 := hc0
  clear hc0
  have t0 : (ckC ls != 0) = false := by rw [bne_eq_false_iff_eq]; exact h0
  have t1 : (lineE x != 0) = false := by rw [bne_eq_false_iff_eq]; exact h1
  have t2 : decide (0 ≤ findL ls x.dev x.page) = false := by simp; omega
  have HF := Lib.hid h2
  clear h0 h1 h2 hl
  go_enter Try.func63, Try.ntmps63
  go_wp2_with fail
  refine (cache_Check _ _ _ ls _ ((HL.out.alloc (Nat.le_refl _) _).more (by simp))).mono ?_
  rintro e w1 ⟨rfl, hb1⟩
  have hz1 := hb1.size
  (try simp only [World.size_alloc, World.size_setCell, World.size_drew] at hz1)
  have k1_0 := fun o => (bcell hb1).1 (w.heap.size) o (by first | (simp; done) | (simp; omega) | omega)
  have l1_0 : (w.heap.size) < w1.heap.size := (by omega)
  have q1_0 := fun o => (bcell hb1).2 (w.heap.size) o (by first | (simp; done) | (simp; omega) | omega)
  simp (maxDischargeDepth := 6) [go_sem, *] at k1_0 q1_0
  have HB1 := Lib.hid hb1
  clear hb1
  go_wp2_with fail
  refine (cache_Check _ _ _ [x] _ ((lines_new _ x).more (by simp))).mono ?_
  rw [ckC_one]
  rintro e w2 ⟨rfl, hb2⟩
  have hz2 := hb2.size
  (try simp only [World.size_alloc, World.size_setCell, World.size_drew] at hz2)
  have k2_0 := fun o => (bcell hb2).1 (w.heap.size) o (by first | (simp; done) | (simp; omega) | omega)
  have l2_0 : (w.heap.size) < w2.heap.size := (by omega)
  have q2_0 := fun o => (bcell hb2).2 (w.heap.size) o (by first | (simp; done) | (simp; omega) | omega)
  simp (maxDischargeDepth := 6) [go_sem, *] at k2_0 q2_0
  have HB2 := Lib.hid hb2
  clear hb2
  have L2 := Lib.hid ((((HL.out.alloc (Nat.le_refl _) (.cells #[.int .i64 x.dev, .int .i64 x.page, .int .i64 x.at_, .bool x.rd, .bool x.wr] 77)).below (HB1.out.mono (by simp))).alloc (by omega) (.cells #[.int .i64 x.dev, .int .i64 x.page, .int .i64 x.at_, .bool x.rd, .bool x.wr] 77) |>.below (HB2.out.mono (by simp; omega))).more (B' := w2.heap.size) (by omega))
  have M2 := Lib.hid ((((HL1.out.alloc (Nat.le_refl _) (.cells #[.int .i64 x.dev, .int .i64 x.page, .int .i64 x.at_, .bool x.rd, .bool x.wr] 77)).below (HB1.out.mono (by simp))).alloc (by omega) (.cells #[.int .i64 x.dev, .int .i64 x.page, .int .i64 x.at_, .bool x.rd, .bool x.wr] 77) |>.below (HB2.out.mono (by simp; omega))).more (B' := w2.heap.size) (by omega))
  go_wp2_with fail
  refine (cache_Find _ _ _ ls _ _ _ L2.out).mono ?_
  rintro e w3 ⟨rfl, hb3⟩
  have hz3 := hb3.size
  (try simp only [World.size_alloc, World.size_setCell, World.size_drew] at hz3)
  have k3_0 := fun o => (bcell hb3).1 (w.heap.size) o (by first | (simp; done) | (simp; omega) | omega)
  have l3_0 : (w.heap.size) < w3.heap.size := (by omega)
  have q3_0 := fun o => (bcell hb3).2 (w.heap.size) o (by first | (simp; done) | (simp; omega) | omega)
  simp (maxDischargeDepth := 6) [go_sem, *] at k3_0 q3_0
  have HB3 := Lib.hid hb3
  clear hb3
  have M3 := Lib.hid ((M2.out.below HB3.out).more (B' := w3.heap.size) (by omega))
  have C0 : w3.cell? ⟨w.heap.size, 0, none⟩ = some (.int .i64 x.dev) := by simp [k3_0]
  have C1 : w3.cell? ⟨w.heap.size, 1, none⟩ = some (.int .i64 x.page) := by simp [k3_0]
  have C2 : w3.cell? ⟨w.heap.size, 2, none⟩ = some (.int .i64 x.at_) := by simp [k3_0]
  have C3 : w3.cell? ⟨w.heap.size, 3, none⟩ = some (.bool x.rd) := by simp [k3_0]
  have C4 : w3.cell? ⟨w.heap.size, 4, none⟩ = some (.bool x.wr) := by simp [k3_0]
  have HC := Lib.hid (And.intro C0 (And.intro C1 (And.intro C2 (And.intro C3 C4))))
  clear C0 C1 C2 C3 C4
  go_wp2_with fail
  obtain ⟨e1, e2, e3⟩ := HE.out
  go_region_held3 (fun W => W.cell? ⟨w.heap.size, 0, none⟩ = some (.int .i64 x.dev) ∧ W.cell? ⟨w.heap.size, 1, none⟩ = some (.int .i64 x.page) ∧ W.cell? ⟨w.heap.size, 2, none⟩ = some (.int .i64 x.at_) ∧ W.cell? ⟨w.heap.size, 3, none⟩ = some (.bool x.rd) ∧ W.cell? ⟨w.heap.size, 4, none⟩ = some (.bool x.wr))
    (first
      | exact HC.out
      | (refine ⟨?_, ?_, ?_, ?_, ?_⟩; (exact Eq.trans (hgrow.cell_far ⟨w.heap.size, 0, none⟩ (by simp; omega) (fun e => absurd (own_ge HO4.out.2.2.2 _ e.symm) (by simp; omega))) (by simp (maxDischargeDepth := 8) [go_sem, k4_0, l4_0])); (exact Eq.trans (hgrow.cell_far ⟨w.heap.size, 1, none⟩ (by simp; omega) (fun e => absurd (own_ge HO4.out.2.2.2 _ e.symm) (by simp; omega))) (by simp (maxDischargeDepth := 8) [go_sem, k4_0, l4_0])); (exact Eq.trans (hgrow.cell_far ⟨w.heap.size, 2, none⟩ (by simp; omega) (fun e => absurd (own_ge HO4.out.2.2.2 _ e.symm) (by simp; omega))) (by simp (maxDischargeDepth := 8) [go_sem, k4_0, l4_0])); (exact Eq.trans (hgrow.cell_far ⟨w.heap.size, 3, none⟩ (by simp; omega) (fun e => absurd (own_ge HO4.out.2.2.2 _ e.symm) (by simp; omega))) (by simp (maxDischargeDepth := 8) [go_sem, k4_0, l4_0])); (exact Eq.trans (hgrow.cell_far ⟨w.heap.size, 4, none⟩ (by simp; omega) (fun e => absurd (own_ge HO4.out.2.2.2 _ e.symm) (by simp; omega))) (by simp (maxDischargeDepth := 8) [go_sem, k4_0, l4_0])))
      | (refine ⟨?_, ?_, ?_, ?_, ?_⟩ <;> (simp (maxDischargeDepth := 8) [go_sem, k4_0]; done))
      | (refine ⟨?_, ?_, ?_, ?_, ?_⟩ <;> (simp (maxDischargeDepth := 8) [go_sem, HC.out.1, HC.out.2.1, HC.out.2.2.1, HC.out.2.2.2.1, HC.out.2.2.2.2]; done))
      | go_keep)
    (first
      | (go_at_call 51; refine (sl_CloneL _ _ _ ls _ ?_ (by omega)).mono ?_; (first | exact M3.out.drew | exact (M3.out.drew.alloc (Nat.le_refl _) _).more (by simp)); rintro e w4 ⟨A4, c4, rfl, ho4, hb4⟩; have HO4 : Hid (OwnL w3.heap.size w4 A4 5 c4 ls) := Lib.hid (ho4.low (by simp)); clear ho4; have hb4' := hb4; have hz4 := hb4.size; (try simp only [World.size_alloc, World.size_setCell, World.size_drew] at hz4); have k4_0 := fun o => (bcell hb4).1 (w.heap.size) o (by first | (simp; done) | (simp; omega) | omega); have l4_0 : (w.heap.size) < w4.heap.size := (by omega); have q4_0 := fun o => (bcell hb4).2 (w.heap.size) o (by first | (simp; done) | (simp; omega) | omega); simp (maxDischargeDepth := 6) [go_sem, *] at k4_0 q4_0; have HB4 := Lib.hid hb4; clear hb4)
      | (revert HO4; intro HO4; refine step_append_lies _ (by rfl) (.tmp 33) (.tmp 35) 27 (by rfl) w3.heap.size 77 i0 (.agg #[.int .i64 0, .int .i64 0, .int .i64 0, .bool false, .bool false]) 5 32 Try.underlying27 HI.out HZ0.out HZ1.out HZ2.out (by rfl) (by decide) (.slice A4 5 c4) 5 (lcells ls) (by rfl) HO4.out.2.2.2 ⟨w3.heap.size, 0, none⟩ 1 1 x.vals (by rfl) (by rfl) (news_old (w := w3.drew) x hb4') (vals_one x) (by decide) (by unfold maxLen; omega) (by omega) (by omega) _ rfl ?_; intro g cap w5 hown5 hgrow hat hlt)
      | (revert HO4; intro HO4; refine step_append_lies _ (by rfl) (.tmp 33) (.tmp 35) 27 (by rfl) w3.heap.size 77 i0 (.agg #[.int .i64 0, .int .i64 0, .int .i64 0, .bool false, .bool false]) 5 32 Try.underlying27 HI.out HZ0.out HZ1.out HZ2.out (by rfl) (by decide) (.slice A4 5 c4) 5 (lcells ls) (by rfl) (HO4.out.alloc _).2.2.2 ⟨w4.heap.size, 0, none⟩ 1 1 x.vals (by rfl) (by rfl) (news_new w4 x) (vals_one x) (by decide) (by unfold maxLen; omega) (by omega) (by simp; omega) _ rfl ?_; intro g cap w5 hown5 hgrow hat hlt))
  all_goals
    have hbw : Below w3.heap.size w3 w5 := by
      first
        | exact Below.grown (Below.alloc (B := w3.heap.size) (by (repeat (first | (with_reducible exact Below.refl _ _) | (with_reducible refine Below.drew ?_) | (with_reducible refine bdrewN ?_ _) | ((with_reducible refine Below.setCell ?_ ?_ _); rotate_left; exact (by first | (simp; done) | (simp; omega) | omega)) | ((with_reducible refine Below.alloc ?_ ?_ _); rotate_left; exact (by first | (simp; done) | (simp; omega) | omega)) | ((with_reducible refine Below.trans ?_ (HB4.out.mono ?_)); rotate_left; exact (by first | (simp; done) | (simp; omega) | omega))))) (by omega) _) hgrow (by simp; omega) (own_ge HO4.out.2.2.2)
        | exact Below.grown (by (repeat (first | (with_reducible exact Below.refl _ _) | (with_reducible refine Below.drew ?_) | (with_reducible refine bdrewN ?_ _) | ((with_reducible refine Below.setCell ?_ ?_ _); rotate_left; exact (by first | (simp; done) | (simp; omega) | omega)) | ((with_reducible refine Below.alloc ?_ ?_ _); rotate_left; exact (by first | (simp; done) | (simp; omega) | omega)) | ((with_reducible refine Below.trans ?_ (HB4.out.mono ?_)); rotate_left; exact (by first | (simp; done) | (simp; omega) | omega))))) hgrow (by omega) (own_ge HO4.out.2.2.2)
    have HBW := Lib.hid hbw
    have HO5 := Lib.hid (own_fill0 HLEN.out hown5)
    clear hgrow hat hlt hown5 hbw e1 e2 e3
    go_wp2
    go_ret2
    exact ⟨some ⟨g, 0, none⟩, cap, rfl, HO5.out.low (by omega), (by (repeat (first | (with_reducible exact Below.refl _ _) | (with_reducible refine Below.drew ?_) | (with_reducible refine bdrewN ?_ _) | ((with_reducible refine Below.setCell ?_ ?_ _); rotate_left; exact (by first | (simp; done) | (simp; omega) | omega)) | ((with_reducible refine Below.alloc ?_ ?_ _); rotate_left; exact (by first | (simp; done) | (simp; omega) | omega)) | ((with_reducible refine Below.trans ?_ (HB3.out.mono ?_)); rotate_left; exact (by first | (simp; done) | (simp; omega) | omega)) | ((with_reducible refine Below.trans ?_ (HB2.out.mono ?_)); rotate_left; exact (by first | (simp; done) | (simp; omega) | omega)) | ((with_reducible refine Below.trans ?_ (HB1.out.mono ?_)); rotate_left; exact (by first | (simp; done) | (simp; omega) | omega)))) : Below w.heap.size w w3).trans (HBW.out.mono (by omega))⟩
theorem cache_Fill (A : Option Addr) (n c : Nat) (ls : List Line) (x : Line) (w : World) (hl : Lines w w.heap.size A n c ls) (hE : fillE ls x = 0) :
    Calls Try.prog 63 #[.slice A n c, .agg #[.int .i64 x.dev, .int .i64 x.page, .int .i64 x.at_, .bool x.rd, .bool x.wr]] w fun e w' => ∃ A' c', e = .returned (.tuple #[.slice A' (fillL ls x).length c', .int .i64 0]) ∧ OwnL w.heap.size w' A' (fillL ls x).length c' (fillL ls x) ∧ Below w.heap.size w w' := by
  obtain ⟨h0, h1, h2⟩ := fillE_inv hE
  have hlen := hl.len
  have h6 : n ≤ 6 := by have := ((ckC_iff ls).1 h0).1; omega
  rw [fillL_0 hE]
  by_cases hn : n = 6
  · subst hn
    obtain ⟨b, off, rfl, _, _⟩ := hl.at_ (by decide)
    have e : ls.length + 1 - 6 = 1 := by omega
    rw [e, show (ls.drop 1 ++ [x]).length = 6 by simp; omega]
    exact cache_Fill_6 b off c ls x w hl h0 h1 h2
  · have e : ls.length + 1 - 6 = 0 := by omega
    rw [e, List.drop_zero, show (ls ++ [x]).length = n + 1 by simp; omega]
    by_cases hc : c = 0
    · subst hc
      have hn0 : n = 0 := by have := hl.cap.1; omega
      subst hn0
      cases A with
      | none => exact cache_Fill_n ls x w hl h0 h1 h2
      | some ad => exact cache_Fill_z ad ls x w hl h0 h1 h2
    · cases A with
      | none => exact absurd (hl.2.2.2.1 rfl) hc
      | some ad =>
        rcases Nat.eq_zero_or_pos n with h | h
        · subst h
          have hz : ls = [] := List.length_eq_zero_iff.1 hlen
          subst hz
          exact cache_Fill_e ad c hc [] x w hl h0 h1 h2
        · obtain ⟨b, off, e, _, _⟩ := hl.at_ h
          simp only [Option.some.injEq] at e
          subst e
          rcases (show n = 1 ∨ n = 2 ∨ n = 3 ∨ n = 4 ∨ n = 5 by omega) with rfl | rfl | rfl | rfl | rfl
          · exact cache_Fill_1 b off c hc ls x w hl h0 h1 h2
          · exact cache_Fill_2 b off c hc ls x w hl h0 h1 h2
          · exact cache_Fill_3 b off c hc ls x w hl h0 h1 h2
          · exact cache_Fill_4 b off c hc ls x w hl h0 h1 h2
          · exact cache_Fill_5 b off c hc ls x w hl h0 h1 h2
end
end
end Go.Proofs.Ytbopdijnojaaiad
