/- The bridge: the walk of the program's through where nothing is remembered. No statement of the seat is proved here. -/
import Derived.Test.YtbopdijnojaaiabBridgeT
import Derived.Test.YtbopdijnojaaiabBridgeF
import Derived.Test.YtbopdijnojaaiabNow
import Derived.Deep.DeepCutAuto
import Derived.Deep.RegionHeld3
import Derived.Deep.DrawnRows
namespace Go.Proofs.Ytbopdijnojaaiab
open Go.RowKit
set_option linter.unusedSimpArgs false
set_option linter.unusedVariables false
attribute [local go_sem ↓] Go.wp_at_zero Go.wp_at_succ


theorem fresh_at (xs : List Int) (m : Option Addr) (cm' : Nat) (b : Brg) (A : Option Addr) (n c : Nat) (d p : Int) (wr : Bool) (x1 x2 x3 : Int) (x4 x5 kp : Bool) (f : Int) (w : World) (hm : Ints w w.heap.size m 512 xs) (h0 : cm xs = 0) (hbase : 0 ≤ b.base ∧ b.base < 64) (hin : inD d p) (hq : freshM xs b d p wr = (⟨x1, x2, x3, x4, x5⟩, kp, f)) :
    Calls Try.prog 108 #[.agg #[.slice m 512 cm'], .agg #[.int .i64 b.mode, .int .i64 b.base, .slice A n c, .int .i64 b.orders.page, .int .i64 b.orders.head, .int .i64 b.orders.tail, .bool b.stopped, .int .i64 b.fences, .int .i64 b.faults.page, .int .i64 b.faults.head, .int .i64 b.faults.tail, .bool b.lost], .int .i64 d, .int .i64 p, .bool wr] w fun e w' => e = .returned (.tuple #[.agg #[.int .i64 x1, .int .i64 x2, .int .i64 x3, .bool x4, .bool x5], .bool kp, .int .i64 f]) ∧ Below w.heap.size w w' := by
  have := bridge_fresh xs m cm' b A n c d p wr w hm h0 hbase hin
  rw [hq] at this
  exact this

theorem ints_snc {w W : World} {A : Option Addr} {n : Nat} {xs : List Int} (hx : Ints w w.heap.size A n xs) (h : Since w W) : Ints W W.heap.size A n xs := ints_now hx h
theorem lines_snc {w W : World} {A : Option Addr} {n c : Nat} {ls : List Line} (hx : Lines w w.heap.size A n c ls) (h : Since w W) : Lines W W.heap.size A n c ls := lines_now hx h
theorem keepB {w1 W : World} {g mb : Nat} {mv : Value} {b : Brg} {A : Option Addr} {n c : Nat} (h : Since w1 W) (hm : w1.cell? ⟨mb, 0, none⟩ = some mv) (hb : BrgAt w1 g b A n c) :
    W.cell? ⟨mb, 0, none⟩ = some mv ∧ W.cell? ⟨g, 0, none⟩ = some (.int .i64 b.mode) ∧ W.cell? ⟨g, 1, none⟩ = some (.int .i64 b.base) ∧ W.cell? ⟨g, 2, none⟩ = some (.slice A n c) ∧ W.cell? ⟨g, 3, none⟩ = some (.int .i64 b.orders.page) ∧ W.cell? ⟨g, 4, none⟩ = some (.int .i64 b.orders.head) ∧ W.cell? ⟨g, 5, none⟩ = some (.int .i64 b.orders.tail) ∧ W.cell? ⟨g, 6, none⟩ = some (.bool b.stopped) ∧ W.cell? ⟨g, 7, none⟩ = some (.int .i64 b.fences) ∧ W.cell? ⟨g, 8, none⟩ = some (.int .i64 b.faults.page) ∧ W.cell? ⟨g, 9, none⟩ = some (.int .i64 b.faults.head) ∧ W.cell? ⟨g, 10, none⟩ = some (.int .i64 b.faults.tail) ∧ W.cell? ⟨g, 11, none⟩ = some (.bool b.lost) ∧ Hid (Since w1 W) := by
  obtain ⟨h0, h1, h2, h3, h4, h5, h6, h7, h8, h9, h10, h11⟩ := brg_since hb h
  exact ⟨since_cell h hm, h0, h1, h2, h3, h4, h5, h6, h7, h8, h9, h10, h11, h⟩
theorem since_B {w1 W : World} {c0 c1 c2 c3 c4 c5 c6 c7 c8 c9 c10 c11 c12 : Prop} (h : c0 ∧ c1 ∧ c2 ∧ c3 ∧ c4 ∧ c5 ∧ c6 ∧ c7 ∧ c8 ∧ c9 ∧ c10 ∧ c11 ∧ c12 ∧ Hid (Since w1 W)) : Since w1 W := h.2.2.2.2.2.2.2.2.2.2.2.2.2
theorem since_set {w1 W : World} {p : Addr} (h : Since w1 W) (hp : w1.heap.size ≤ p.block) (u : Value) : Since w1 (W.setCell p u) := Below.setCell h hp u
theorem keepL {w1 W : World} {g gx : Nat} {x : Line} {v : Value} (h : Since w1 W) (hc : w1.cell? ⟨g, 2, none⟩ = some v) (hx : LineAt w1 gx 0 x) :
    W.cell? ⟨g, 2, none⟩ = some v ∧ W.cell? ⟨gx, 0, none⟩ = some (.int .i64 x.dev) ∧ W.cell? ⟨gx, 1, none⟩ = some (.int .i64 x.page) ∧ W.cell? ⟨gx, 2, none⟩ = some (.int .i64 x.at_) ∧ W.cell? ⟨gx, 3, none⟩ = some (.bool x.rd) ∧ W.cell? ⟨gx, 4, none⟩ = some (.bool x.wr) ∧ Hid (Since w1 W) := by
  obtain ⟨h0, h1, h2, h3, h4⟩ := hx
  exact ⟨since_cell h hc, since_cell h h0, since_cell h h1, since_cell h h2, since_cell h h3, since_cell h h4, h⟩
theorem since_L {w1 W : World} {c0 c1 c2 c3 c4 c5 : Prop} (h : c0 ∧ c1 ∧ c2 ∧ c3 ∧ c4 ∧ c5 ∧ Hid (Since w1 W)) : Since w1 W := h.2.2.2.2.2.2
/-- what 'through' has behind its two looks at memory. -/
def FreshC (w1 : World) (x1 x2 x3 : Int) (x4 x5 kp : Bool) (f : Int) (s13 s14 s15 : Value) (wd : World) : Prop :=
  ∃ gx, s13 = .pointer (some ⟨gx, 0, none⟩) ∧ s14 = .bool kp ∧ s15 = .int .i64 f ∧ Hid (w1.heap.size ≤ gx ∧ gx < wd.heap.size) ∧ Hid (Since w1 wd) ∧ Hid (LineAt wd gx 0 ⟨x1, x2, x3, x4, x5⟩)

set_option maxRecDepth 100000 in
set_option maxHeartbeats 4000000 in
theorem through_not (xs : List Int) (m : Option Addr) (cm' : Nat) (b : Brg) (A : Option Addr) (n c g : Nat) (d p : Int) (wr : Bool) (w : World) (hb : BrgAt w g b A n c) (hl : Lines w w.heap.size A n c b.cache) (hx : Ints w w.heap.size m 512 xs) (h0' : cm xs = 0) (hbase : 0 ≤ b.base ∧ b.base < 64) (hin : inD d p) (hm : b.mode = 2) (hf : findL b.cache d p = -1) (x1 x2 x3 : Int) (x4 x5 : Bool) (f : Int) (hq : freshM xs b d p wr = (⟨x1, x2, x3, x4, x5⟩, false, f)) :
    Calls Try.prog 97 #[.agg #[.slice m 512 cm'], .pointer (some ⟨g, 0, none⟩), .int .i64 d, .int .i64 p, .bool wr] w (ThruC g A w (b, x3, f)) := by
  have HB := Lib.hid hb
  have HL := Lib.hid hl
  have HF := Lib.hid hf
  have HX := Lib.hid hx
  have HQ := Lib.hid hq
  have H0 := Lib.hid h0'
  have HBS := Lib.hid hbase
  have HIN := Lib.hid hin
  have hg := brg_lt hb
  have m0 : (b.mode == 0) = false := by rw [hm]; rfl
  have m1 : (b.mode == 1) = false := by rw [hm]; rfl
  obtain ⟨h0, h1, h2, h3, h4, h5, h6, h7, h8, h9, h10, h11⟩ := hb
  have S0 := Lib.hid (since_alloc (since_refl w) (.cells #[.slice m 512 cm'] 24))
  clear hl hf hx hq h0' hbase hin hm
  go_enter Try.func97, Try.ntmps97
  go_wp2_with fail
  refine (cache_Find _ _ _ b.cache d p _ ((HL.out.alloc (Nat.le_refl _) _).more (by simp))).mono ?_
  rw [HF.out]
  rintro e w1 ⟨rfl, hb1⟩
  have HS1 := Lib.hid (since_step hb1 S0.out)
  have HG1 := Lib.hid (brg_since HB.out HS1.out)
  have HX1 := Lib.hid (ints_now HX.out HS1.out)
  have hz1 := hb1.size
  (try simp only [World.size_alloc, World.size_setCell, World.size_drew] at hz1)
  have k1_0 := fun o => (bcell hb1).1 (g) o (by first | (simp; done) | (simp; omega) | omega)
  have l1_0 : (g) < w1.heap.size := (by omega)
  have q1_0 := fun o => (bcell hb1).2 (g) o (by first | (simp; done) | (simp; omega) | omega)
  have k1_1 := fun o => (bcell hb1).1 (w.heap.size) o (by first | (simp; done) | (simp; omega) | omega)
  have l1_1 : (w.heap.size) < w1.heap.size := (by omega)
  have q1_1 := fun o => (bcell hb1).2 (w.heap.size) o (by first | (simp; done) | (simp; omega) | omega)
  simp (maxDischargeDepth := 6) [go_sem, *] at k1_0 q1_0 k1_1 q1_1
  have HB1 := Lib.hid hb1
  clear hb1
  have HM1 : Hid (w1.cell? ⟨w.heap.size, 0, none⟩ = some (.slice m 512 cm')) := Lib.hid (k1_1 0)
  go_upto_region 11 with (fail)
  go_cut [13, 14, 15] (fun s13 s14 s15 wd => FreshC w1 x1 x2 x3 x4 x5 false f s13 s14 s15 wd)
  case first =>
    go_region_held3 (fun W => W.cell? ⟨w.heap.size, 0, none⟩ = some (.slice m 512 cm') ∧ W.cell? ⟨g, 0, none⟩ = some (.int .i64 b.mode) ∧ W.cell? ⟨g, 1, none⟩ = some (.int .i64 b.base) ∧ W.cell? ⟨g, 2, none⟩ = some (.slice A n c) ∧ W.cell? ⟨g, 3, none⟩ = some (.int .i64 b.orders.page) ∧ W.cell? ⟨g, 4, none⟩ = some (.int .i64 b.orders.head) ∧ W.cell? ⟨g, 5, none⟩ = some (.int .i64 b.orders.tail) ∧ W.cell? ⟨g, 6, none⟩ = some (.bool b.stopped) ∧ W.cell? ⟨g, 7, none⟩ = some (.int .i64 b.fences) ∧ W.cell? ⟨g, 8, none⟩ = some (.int .i64 b.faults.page) ∧ W.cell? ⟨g, 9, none⟩ = some (.int .i64 b.faults.head) ∧ W.cell? ⟨g, 10, none⟩ = some (.int .i64 b.faults.tail) ∧ W.cell? ⟨g, 11, none⟩ = some (.bool b.lost) ∧ Hid (Since w1 W))
      (((with_reducible refine keepB ?_ HM1.out HG1.out); (repeat (first | (with_reducible assumption) | (with_reducible exact since_refl _) | (with_reducible exact since_B (by assumption)) | (with_reducible exact since_step (by assumption) (since_B (by assumption))) | (with_reducible refine since_drew ?_) | (with_reducible refine since_alloc ?_ _) | ((with_reducible refine since_set ?_ ?_ _); rotate_left; exact (by first | (simp; done) | (simp; omega) | omega)))); done))
      (first
        | (go_at_call 108; refine (fresh_at xs _ _ b _ _ _ d p wr x1 x2 x3 x4 x5 false f _ ?_ H0.out HBS.out HIN.out HQ.out).mono ?_; (with_reducible exact ints_snc HX1.out (since_B (by assumption))); rintro e w2 ⟨rfl, hb2⟩; have hs2 := since_step hb2 (since_B (by assumption)); have hz2 := hb2.size; (try simp only [World.size_alloc, World.size_setCell, World.size_drew] at hz2); (try (have l2_5 : (w1.heap.size) < w2.heap.size := (by omega); have k2_5 := fun o => (bcell hb2).1 (w1.heap.size) o (by first | (simp; done) | (simp; omega) | omega); have q2_5 := fun o => (bcell hb2).2 (w1.heap.size) o (by first | (simp; done) | (simp; omega) | omega); simp (maxDischargeDepth := 6) [go_sem, *] at k2_5 q2_5))))
    all_goals
      go_wp2
      go_meet
      rename_i hHeld
      have HS := Lib.hid (since_B hHeld)
      have hz := hs2.size
      clear hHeld
      refine ⟨_, rfl, rfl, rfl, ?_, HS.out, ?_⟩
      · show _ ∧ _
        refine ⟨?_, ?_⟩ <;> first | (simp; done) | (simp; omega) | omega
      · show LineAt _ _ _ _
        refine ⟨?_, ?_, ?_, ?_, ?_⟩ <;> simp (maxDischargeDepth := 8) [go_sem, *]
  case rest =>
    obtain ⟨gx, rfl, rfl, rfl, hgx, hs2, hx2⟩ := hcut
    obtain ⟨hx0, hx1, hxa, hx3, hx4⟩ := hx2.out
    go_wp2
    go_ret2
    have S2 : Since w wc := Below.trans HS1.out (Below.mono hs2.out HS1.out.size)
    exact ⟨A, n, c, rfl, brg_since HB.out S2, lines_now HL.out S2, only_since hg S2, new_same _ _⟩

theorem brg_set {w : World} {g : Nat} {b : Brg} {A : Option Addr} {n c : Nat} (h : BrgAt w g b A n c) (ls : List Line) (A' : Option Addr) (n' c' : Nat) : BrgAt (w.setCell ⟨g, 2, none⟩ (.slice A' n' c')) g { b with cache := ls } A' n' c' := by
  obtain ⟨h0, h1, h2, h3, h4, h5, h6, h7, h8, h9, h10, h11⟩ := h
  unfold BrgAt
  simp [go_sem, *]
theorem only_set {w W : World} {g o : Nat} (hg : g < w.heap.size) (h : Since w W) (u : Value) : Only g w (W.setCell ⟨g, o, none⟩ u) :=
  ⟨(Below.mono h (Nat.le_of_lt hg)).setCell (Nat.le_refl _) _, by have := h.size; simpa using this, fun q j hq hl => by
    rw [World.cell?_setCell_other _ _ _ _ (by intro e; exact hq (by have := congrArg Addr.block e; simp at this; omega))]; exact Below.cell (p := ⟨q, j, none⟩) h hl, fun q j hl => by
    rw [World.frozen?_setCell]; exact Below.frozen (p := ⟨q, j, none⟩) h hl⟩

set_option maxRecDepth 100000 in
set_option maxHeartbeats 4000000 in
theorem through_keep (xs : List Int) (m : Option Addr) (cm' : Nat) (b : Brg) (A : Option Addr) (n c g : Nat) (d p : Int) (wr : Bool) (w : World) (hb : BrgAt w g b A n c) (hfz : ∀ o, w.frozen? ⟨g, o, none⟩ = false) (hl : Lines w w.heap.size A n c b.cache) (hx : Ints w w.heap.size m 512 xs) (h0' : cm xs = 0) (hbase : 0 ≤ b.base ∧ b.base < 64) (hin : inD d p) (hm : b.mode = 2) (hf : findL b.cache d p = -1) (x1 x2 x3 : Int) (x4 x5 : Bool) (hq : freshM xs b d p wr = (⟨x1, x2, x3, x4, x5⟩, true, 0)) (hE : fillE b.cache ⟨x1, x2, x3, x4, x5⟩ = 0) :
    Calls Try.prog 97 #[.agg #[.slice m 512 cm'], .pointer (some ⟨g, 0, none⟩), .int .i64 d, .int .i64 p, .bool wr] w (ThruC g A w ({ b with cache := fillL b.cache ⟨x1, x2, x3, x4, x5⟩ }, x3, 0)) := by
  have HE := Lib.hid hE
  clear hE
  have HB := Lib.hid hb
  have HL := Lib.hid hl
  have HFZ := Lib.hid hfz
  clear hfz
  have HF := Lib.hid hf
  have HX := Lib.hid hx
  have HQ := Lib.hid hq
  have H0 := Lib.hid h0'
  have HBS := Lib.hid hbase
  have HIN := Lib.hid hin
  have hg := brg_lt hb
  have m0 : (b.mode == 0) = false := by rw [hm]; rfl
  have m1 : (b.mode == 1) = false := by rw [hm]; rfl
  obtain ⟨h0, h1, h2, h3, h4, h5, h6, h7, h8, h9, h10, h11⟩ := hb
  have S0 := Lib.hid (since_alloc (since_refl w) (.cells #[.slice m 512 cm'] 24))
  clear hl hf hx hq h0' hbase hin hm
  go_enter Try.func97, Try.ntmps97
  go_wp2_with fail
  refine (cache_Find _ _ _ b.cache d p _ ((HL.out.alloc (Nat.le_refl _) _).more (by simp))).mono ?_
  rw [HF.out]
  rintro e w1 ⟨rfl, hb1⟩
  have HS1 := Lib.hid (since_step hb1 S0.out)
  have HG1 := Lib.hid (brg_since HB.out HS1.out)
  have HX1 := Lib.hid (ints_now HX.out HS1.out)
  have hz1 := hb1.size
  (try simp only [World.size_alloc, World.size_setCell, World.size_drew] at hz1)
  have k1_0 := fun o => (bcell hb1).1 (g) o (by first | (simp; done) | (simp; omega) | omega)
  have l1_0 : (g) < w1.heap.size := (by omega)
  have q1_0 := fun o => (bcell hb1).2 (g) o (by first | (simp; done) | (simp; omega) | omega)
  have k1_1 := fun o => (bcell hb1).1 (w.heap.size) o (by first | (simp; done) | (simp; omega) | omega)
  have l1_1 : (w.heap.size) < w1.heap.size := (by omega)
  have q1_1 := fun o => (bcell hb1).2 (w.heap.size) o (by first | (simp; done) | (simp; omega) | omega)
  simp (maxDischargeDepth := 6) [go_sem, *] at k1_0 q1_0 k1_1 q1_1
  have HB1 := Lib.hid hb1
  clear hb1
  have HM1 : Hid (w1.cell? ⟨w.heap.size, 0, none⟩ = some (.slice m 512 cm')) := Lib.hid (k1_1 0)
  go_upto_region 11 with (fail)
  go_cut [13, 14, 15] (fun s13 s14 s15 wd => FreshC w1 x1 x2 x3 x4 x5 true 0 s13 s14 s15 wd)
  case first =>
    go_region_held3 (fun W => W.cell? ⟨w.heap.size, 0, none⟩ = some (.slice m 512 cm') ∧ W.cell? ⟨g, 0, none⟩ = some (.int .i64 b.mode) ∧ W.cell? ⟨g, 1, none⟩ = some (.int .i64 b.base) ∧ W.cell? ⟨g, 2, none⟩ = some (.slice A n c) ∧ W.cell? ⟨g, 3, none⟩ = some (.int .i64 b.orders.page) ∧ W.cell? ⟨g, 4, none⟩ = some (.int .i64 b.orders.head) ∧ W.cell? ⟨g, 5, none⟩ = some (.int .i64 b.orders.tail) ∧ W.cell? ⟨g, 6, none⟩ = some (.bool b.stopped) ∧ W.cell? ⟨g, 7, none⟩ = some (.int .i64 b.fences) ∧ W.cell? ⟨g, 8, none⟩ = some (.int .i64 b.faults.page) ∧ W.cell? ⟨g, 9, none⟩ = some (.int .i64 b.faults.head) ∧ W.cell? ⟨g, 10, none⟩ = some (.int .i64 b.faults.tail) ∧ W.cell? ⟨g, 11, none⟩ = some (.bool b.lost) ∧ Hid (Since w1 W))
      (((with_reducible refine keepB ?_ HM1.out HG1.out); (repeat (first | (with_reducible assumption) | (with_reducible exact since_refl _) | (with_reducible exact since_B (by assumption)) | (with_reducible exact since_step (by assumption) (since_B (by assumption))) | (with_reducible refine since_drew ?_) | (with_reducible refine since_alloc ?_ _) | ((with_reducible refine since_set ?_ ?_ _); rotate_left; exact (by first | (simp; done) | (simp; omega) | omega)))); done))
      (first
        | (go_at_call 108; refine (fresh_at xs _ _ b _ _ _ d p wr x1 x2 x3 x4 x5 true 0 _ ?_ H0.out HBS.out HIN.out HQ.out).mono ?_; (with_reducible exact ints_snc HX1.out (since_B (by assumption))); rintro e w2 ⟨rfl, hb2⟩; have hs2 := since_step hb2 (since_B (by assumption)); have hz2 := hb2.size; (try simp only [World.size_alloc, World.size_setCell, World.size_drew] at hz2); (try (have l2_5 : (w1.heap.size) < w2.heap.size := (by omega); have k2_5 := fun o => (bcell hb2).1 (w1.heap.size) o (by first | (simp; done) | (simp; omega) | omega); have q2_5 := fun o => (bcell hb2).2 (w1.heap.size) o (by first | (simp; done) | (simp; omega) | omega); simp (maxDischargeDepth := 6) [go_sem, *] at k2_5 q2_5))))
    all_goals
      go_wp2
      go_meet
      rename_i hHeld
      have HS := Lib.hid (since_B hHeld)
      have hz := hs2.size
      clear hHeld
      refine ⟨_, rfl, rfl, rfl, ?_, HS.out, ?_⟩
      · show _ ∧ _
        refine ⟨?_, ?_⟩ <;> first | (simp; done) | (simp; omega) | omega
      · show LineAt _ _ _ _
        refine ⟨?_, ?_, ?_, ?_, ?_⟩ <;> simp (maxDischargeDepth := 8) [go_sem, *]
  case rest =>
    obtain ⟨gx, rfl, rfl, rfl, hgx, hs2, hx2⟩ := hcut
    obtain ⟨hgx1, hgx2⟩ := hgx.out
    obtain ⟨hx0, hx1', hxa, hx3, hx4⟩ := hx2.out
    have HWC := Lib.hid (show Since w wc from Below.trans HS1.out (Below.mono hs2.out HS1.out.size))
    have HL1 := Lib.hid (lines_now HL.out HWC.out)
    have HGC := Lib.hid (brg_since HB.out HWC.out)
    have HG2 := Lib.hid HGC.out.2.2.1
    go_upto_region 13 with (fail)
    go_cut [16, 17] (fun s16 s17 wd => ∃ A' c', s16 = .slice A' (fillL b.cache ⟨x1, x2, x3, x4, x5⟩).length c' ∧ s17 = .int .i64 0 ∧ Hid (OwnL wc.heap.size wd A' (fillL b.cache ⟨x1, x2, x3, x4, x5⟩).length c' (fillL b.cache ⟨x1, x2, x3, x4, x5⟩)) ∧ Hid (Since wc wd))
    case first =>
      go_region_held3 (fun W => W.cell? ⟨g, 2, none⟩ = some (.slice A n c) ∧ W.cell? ⟨gx, 0, none⟩ = some (.int .i64 x1) ∧ W.cell? ⟨gx, 1, none⟩ = some (.int .i64 x2) ∧ W.cell? ⟨gx, 2, none⟩ = some (.int .i64 x3) ∧ W.cell? ⟨gx, 3, none⟩ = some (.bool x4) ∧ W.cell? ⟨gx, 4, none⟩ = some (.bool x5) ∧ Hid (Since wc W))
        (((with_reducible refine keepL (x := ⟨x1, x2, x3, x4, x5⟩) ?_ HG2.out hx2.out); (repeat (first | (with_reducible assumption) | (with_reducible exact since_refl _) | (with_reducible exact since_L (by assumption)) | (with_reducible exact since_step (by assumption) (since_L (by assumption))) | (with_reducible refine since_drew ?_) | (with_reducible refine since_alloc ?_ _) | ((with_reducible refine since_set ?_ ?_ _); rotate_left; exact (by first | (simp; done) | (simp; omega) | omega)))); done))
        (first
          | (go_at_call 27; refine (cache_Fill _ _ _ b.cache ⟨x1, x2, x3, x4, x5⟩ _ ?_ HE.out).mono ?_; (with_reducible exact lines_snc HL1.out (since_L (by assumption))); rintro e w3 ⟨A', c', rfl, ho, hb3⟩; have hs3 := since_step hb3 (since_L (by assumption)); have HO : Hid (OwnL wc.heap.size w3 A' (fillL b.cache ⟨x1, x2, x3, x4, x5⟩).length c' (fillL b.cache ⟨x1, x2, x3, x4, x5⟩)) := Lib.hid (ho.low (Below.size (since_L (by assumption)))); clear ho))
      all_goals
        go_wp2
        go_meet
        exact ⟨_, _, rfl, rfl, HO.out, hs3⟩
    case rest =>
      obtain ⟨A', c', rfl, rfl, ho, hs3⟩ := hcut
      have HG3 := Lib.hid (brg_since HGC.out hs3.out)
      have k3 := HG3.out.2.2.1
      have f3 := (Below.frozen (p := ⟨g, 2, none⟩) hs3.out (Nat.lt_of_lt_of_le hg (Below.size HWC.out))).trans ((Below.frozen (p := ⟨g, 2, none⟩) HWC.out hg).trans (HFZ.out 2))
      have hne : ¬ gx = g := by have := Below.size HS1.out; omega
      have hne' : ¬ g = gx := fun e => hne e.symm
      have k4 := since_cell hs3.out hxa
      simp only [Nat.zero_add] at k4
      have SS := Lib.hid (show Since w _ from Below.trans HWC.out (Below.mono hs3.out (Below.size HWC.out)))
      go_wp2
      go_ret2
      refine ⟨A', _, c', rfl, brg_set HG3.out _ _ _ _, ?_, only_set hg SS.out _, fun ad h => Or.inr (Nat.le_trans (Below.size HWC.out) (own_ge ho.out.2.2.2 _ (by rw [h]; rfl)))⟩
      exact (ho.out.set (Nat.lt_of_lt_of_le hg (Below.size HWC.out)) _).lines
end Go.Proofs.Ytbopdijnojaaiab
