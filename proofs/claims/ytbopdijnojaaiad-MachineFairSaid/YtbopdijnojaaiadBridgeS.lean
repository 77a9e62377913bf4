/- Blocks that stay as they were, whatever else turns. No statement of the seat is proved here. -/
import Derived.Test.YtbopdijnojaaiadBridgeC
import Derived.Test.YtbopdijnojaaiadFillZ
import Derived.Deep.RegionHeld3
import Derived.Deep.DrawnRows
import Derived.Test.YtbopdijnojaaiadBridgeF
import Derived.Test.YtbopdijnojaaiadBase
import Derived.Deep.DeepCutAuto
import Derived.Test.YtbopdijnojaaiadSlices
namespace Go.Proofs.Ytbopdijnojaaiad
open Go.RowKit
set_option linter.unusedSimpArgs false
set_option linter.unusedVariables false

section
section
attribute [local go_sem ↓] Go.wp_at_zero Go.wp_at_succ

/-- block g holds a bridge. -/
def BrgAt (w : World) (g : Nat) (b : Brg) (A : Option Addr) (n c : Nat) : Prop :=
  w.cell? ⟨g, 0, none⟩ = some (.int .i64 b.mode) ∧ w.cell? ⟨g, 1, none⟩ = some (.int .i64 b.base) ∧ w.cell? ⟨g, 2, none⟩ = some (.slice A n c) ∧
  w.cell? ⟨g, 3, none⟩ = some (.int .i64 b.orders.page) ∧ w.cell? ⟨g, 4, none⟩ = some (.int .i64 b.orders.head) ∧ w.cell? ⟨g, 5, none⟩ = some (.int .i64 b.orders.tail) ∧
  w.cell? ⟨g, 6, none⟩ = some (.bool b.stopped) ∧ w.cell? ⟨g, 7, none⟩ = some (.int .i64 b.fences) ∧
  w.cell? ⟨g, 8, none⟩ = some (.int .i64 b.faults.page) ∧ w.cell? ⟨g, 9, none⟩ = some (.int .i64 b.faults.head) ∧ w.cell? ⟨g, 10, none⟩ = some (.int .i64 b.faults.tail) ∧ w.cell? ⟨g, 11, none⟩ = some (.bool b.lost)
theorem brg_since {w w' : World} {g : Nat} {b : Brg} {A : Option Addr} {n c : Nat} (h : BrgAt w g b A n c) (hs : Since w w') : BrgAt w' g b A n c := by
  obtain ⟨h0, h1, h2, h3, h4, h5, h6, h7, h8, h9, h10, h11⟩ := h
  exact ⟨since_cell hs h0, since_cell hs h1, since_cell hs h2, since_cell hs h3, since_cell hs h4, since_cell hs h5, since_cell hs h6, since_cell hs h7, since_cell hs h8, since_cell hs h9, since_cell hs h10, since_cell hs h11⟩
theorem brg_lt {w : World} {g : Nat} {b : Brg} {A : Option Addr} {n c : Nat} (h : BrgAt w g b A n c) : g < w.heap.size := cell_lt' h.1
/-- nothing but block g has turned. -/
def Only (g : Nat) (w w' : World) : Prop :=
  Below g w w' ∧ w.heap.size ≤ w'.heap.size ∧ (∀ q o, q ≠ g → q < w.heap.size → w'.cell? ⟨q, o, none⟩ = w.cell? ⟨q, o, none⟩) ∧ ∀ q o, q < w.heap.size → w'.frozen? ⟨q, o, none⟩ = w.frozen? ⟨q, o, none⟩
theorem only_since {g : Nat} {w w' : World} (hg : g < w.heap.size) (h : Since w w') : Only g w w' :=
  ⟨Below.mono h (Nat.le_of_lt hg), h.size, fun q o _ hq => Below.cell (p := ⟨q, o, none⟩) h hq, fun q o hq => Below.frozen (p := ⟨q, o, none⟩) h hq⟩
/-- a slice that was, or lies in memory made since. -/
def NewIn (w : World) (A A' : Option Addr) : Prop := ∀ ad, A' = some ad → A = some ad ∨ w.heap.size ≤ ad.block
theorem new_same (w : World) (A : Option Addr) : NewIn w A A := fun _ h => Or.inl h
/-- what 'through' leaves. -/
def ThruC (g : Nat) (A0 : Option Addr) (w : World) (r : Brg × Int × Int) (e : Ending) (w' : World) : Prop :=
  ∃ A n c, e = .returned (.tuple #[.int .i64 r.2.1, .int .i64 r.2.2]) ∧ BrgAt w' g r.1 A n c ∧ Lines w' w'.heap.size A n c r.1.cache ∧ Only g w w' ∧ NewIn w A0 A

set_option maxRecDepth 100000 in
set_option maxHeartbeats 4000000 in
theorem through_shut (xs : List Int) (m : Option Addr) (cm' : Nat) (b : Brg) (A : Option Addr) (n c g : Nat) (d p : Int) (wr : Bool) (w : World) (hb : BrgAt w g b A n c) (hl : Lines w w.heap.size A n c b.cache) (hm : b.mode = 0) :
    Calls Try.prog 57 #[.agg #[.slice m 512 cm'], .pointer (some ⟨g, 0, none⟩), .int .i64 d, .int .i64 p, .bool wr] w (ThruC g A w (b, 0, 1)) := by
  have HB := Lib.hid hb
  have HL := Lib.hid hl
  have hg := brg_lt hb
  have h0 := hb.1
  rw [hm] at h0
  have S0 := Lib.hid (since_alloc (since_refl w))
  clear hb hl hm
  go_enter Try.func57, Try.ntmps57
  go_wp2
  go_ret2
  exact ⟨A, n, c, rfl, brg_since HB.out (S0.out _), (HL.out.alloc (Nat.le_refl _) _).more (by simp), only_since hg (S0.out _), new_same _ _⟩
set_option maxRecDepth 100000 in
set_option maxHeartbeats 4000000 in
theorem through_bare (xs : List Int) (m : Option Addr) (cm' : Nat) (b : Brg) (A : Option Addr) (n c g : Nat) (d p : Int) (wr : Bool) (w : World) (hb : BrgAt w g b A n c) (hl : Lines w w.heap.size A n c b.cache) (hm : b.mode = 1) :
    Calls Try.prog 57 #[.agg #[.slice m 512 cm'], .pointer (some ⟨g, 0, none⟩), .int .i64 d, .int .i64 p, .bool wr] w (ThruC g A w (b, p, 0)) := by
  have HB := Lib.hid hb
  have HL := Lib.hid hl
  have hg := brg_lt hb
  have h0 := hb.1
  rw [hm] at h0
  have S0 := Lib.hid (since_alloc (since_refl w))
  clear hb hl hm
  go_enter Try.func57, Try.ntmps57
  go_wp2
  go_ret2
  exact ⟨A, n, c, rfl, brg_since HB.out (S0.out _), (HL.out.alloc (Nat.le_refl _) _).more (by simp), only_since hg (S0.out _), new_same _ _⟩
set_option maxRecDepth 100000 in
set_option maxHeartbeats 4000000 in
theorem through_found0 (xs : List Int) (m : Option Addr) (cm' : Nat) (b : Brg) (A : Option Addr) (n c g : Nat) (d p : Int) (wr : Bool) (w : World) (hb : BrgAt w g b A n c) (hl : Lines w w.heap.size A n c b.cache) (hm : b.mode = 2) (k : Nat) (x : Line) (hf : findL b.cache d p = (k : Int)) (hk : b.cache[k]? = some x) (hw : wr = true) (hx : x.wr = false) :
    Calls Try.prog 57 #[.agg #[.slice m 512 cm'], .pointer (some ⟨g, 0, none⟩), .int .i64 d, .int .i64 p, .bool wr] w (ThruC g A w (b, 0, 5)) := by
  have HB := Lib.hid hb
  have HL := Lib.hid hl
  have HF := Lib.hid hf
  have hg := brg_lt hb
  have h0 := hb.1
  rw [hm] at h0
  have h2 := hb.2.2.1
  have hkn : k < n := by rw [← hl.len]; exact (List.getElem?_eq_some_iff.1 hk).1
  obtain ⟨q, off, rfl, hq, hc⟩ := hl.at_ (by omega)
  obtain ⟨e0, e1, e2, e3, e4⟩ := hc k x hk
  have S0 := Lib.hid (since_alloc (since_refl w))
  have i0 : (0 : Int) ≤ (k : Int) := by omega
  have i1 : (k : Int) < (n : Int) := by omega
  have t1 : decide ((0 : Int) ≤ (k : Int)) = true := by simp
  subst hw
  rw [hx] at e4
  clear hx
  clear hb hl hm hf hc hk
  go_enter Try.func57, Try.ntmps57
  go_wp2_with fail
  refine (cache_Find _ _ _ b.cache d p _ ((HL.out.alloc (Nat.le_refl _) _).more (by simp))).mono ?_
  rw [HF.out]
  rintro e w1 ⟨rfl, hb1⟩
  have hz1 := hb1.size
  (try simp only [World.size_alloc, World.size_setCell, World.size_drew] at hz1)
  have k1_0 := fun o => (bcell hb1).1 (g) o (by first | (simp; done) | (simp; omega) | omega)
  have l1_0 : (g) < w1.heap.size := (by omega)
  have q1_0 := fun o => (bcell hb1).2 (g) o (by first | (simp; done) | (simp; omega) | omega)
  have k1_1 := fun o => (bcell hb1).1 (q) o (by first | (simp; done) | (simp; omega) | omega)
  have l1_1 : (q) < w1.heap.size := (by omega)
  have q1_1 := fun o => (bcell hb1).2 (q) o (by first | (simp; done) | (simp; omega) | omega)
  simp (maxDischargeDepth := 6) [go_sem, *] at k1_0 q1_0 k1_1 q1_1
  have HB1 := Lib.hid hb1
  clear hb1
  go_wp2
  go_ret2
  have S1 := since_step HB1.out (S0.out _)
  exact ⟨_, n, c, rfl, brg_since HB.out S1, (HL.out.below S1).more S1.size, only_since hg S1, new_same _ _⟩
set_option maxRecDepth 100000 in
set_option maxHeartbeats 4000000 in
theorem through_found1 (xs : List Int) (m : Option Addr) (cm' : Nat) (b : Brg) (A : Option Addr) (n c g : Nat) (d p : Int) (wr : Bool) (w : World) (hb : BrgAt w g b A n c) (hl : Lines w w.heap.size A n c b.cache) (hm : b.mode = 2) (k : Nat) (x : Line) (hf : findL b.cache d p = (k : Int)) (hk : b.cache[k]? = some x) (hw : wr = false) :
    Calls Try.prog 57 #[.agg #[.slice m 512 cm'], .pointer (some ⟨g, 0, none⟩), .int .i64 d, .int .i64 p, .bool wr] w (ThruC g A w (b, x.at_, 0)) := by
  have HB := Lib.hid hb
  have HL := Lib.hid hl
  have HF := Lib.hid hf
  have hg := brg_lt hb
  have h0 := hb.1
  rw [hm] at h0
  have h2 := hb.2.2.1
  have hkn : k < n := by rw [← hl.len]; exact (List.getElem?_eq_some_iff.1 hk).1
  obtain ⟨q, off, rfl, hq, hc⟩ := hl.at_ (by omega)
  obtain ⟨e0, e1, e2, e3, e4⟩ := hc k x hk
  have S0 := Lib.hid (since_alloc (since_refl w))
  have i0 : (0 : Int) ≤ (k : Int) := by omega
  have i1 : (k : Int) < (n : Int) := by omega
  have t1 : decide ((0 : Int) ≤ (k : Int)) = true := by simp
  subst hw
  clear hb hl hm hf hc hk
  go_enter Try.func57, Try.ntmps57
  go_wp2_with fail
  refine (cache_Find _ _ _ b.cache d p _ ((HL.out.alloc (Nat.le_refl _) _).more (by simp))).mono ?_
  rw [HF.out]
  rintro e w1 ⟨rfl, hb1⟩
  have hz1 := hb1.size
  (try simp only [World.size_alloc, World.size_setCell, World.size_drew] at hz1)
  have k1_0 := fun o => (bcell hb1).1 (g) o (by first | (simp; done) | (simp; omega) | omega)
  have l1_0 : (g) < w1.heap.size := (by omega)
  have q1_0 := fun o => (bcell hb1).2 (g) o (by first | (simp; done) | (simp; omega) | omega)
  have k1_1 := fun o => (bcell hb1).1 (q) o (by first | (simp; done) | (simp; omega) | omega)
  have l1_1 : (q) < w1.heap.size := (by omega)
  have q1_1 := fun o => (bcell hb1).2 (q) o (by first | (simp; done) | (simp; omega) | omega)
  simp (maxDischargeDepth := 6) [go_sem, *] at k1_0 q1_0 k1_1 q1_1
  have HB1 := Lib.hid hb1
  clear hb1
  go_wp2
  go_ret2
  have S1 := since_step HB1.out (S0.out _)
  exact ⟨_, n, c, rfl, brg_since HB.out S1, (HL.out.below S1).more S1.size, only_since hg S1, new_same _ _⟩
set_option maxRecDepth 100000 in
set_option maxHeartbeats 4000000 in
theorem through_found2 (xs : List Int) (m : Option Addr) (cm' : Nat) (b : Brg) (A : Option Addr) (n c g : Nat) (d p : Int) (wr : Bool) (w : World) (hb : BrgAt w g b A n c) (hl : Lines w w.heap.size A n c b.cache) (hm : b.mode = 2) (k : Nat) (x : Line) (hf : findL b.cache d p = (k : Int)) (hk : b.cache[k]? = some x) (hw : wr = true) (hx : x.wr = true) :
    Calls Try.prog 57 #[.agg #[.slice m 512 cm'], .pointer (some ⟨g, 0, none⟩), .int .i64 d, .int .i64 p, .bool wr] w (ThruC g A w (b, x.at_, 0)) := by
  have HB := Lib.hid hb
  have HL := Lib.hid hl
  have HF := Lib.hid hf
  have hg := brg_lt hb
  have h0 := hb.1
  rw [hm] at h0
  have h2 := hb.2.2.1
  have hkn : k < n := by rw [← hl.len]; exact (List.getElem?_eq_some_iff.1 hk).1
  obtain ⟨q, off, rfl, hq, hc⟩ := hl.at_ (by omega)
  obtain ⟨e0, e1, e2, e3, e4⟩ := hc k x hk
  have S0 := Lib.hid (since_alloc (since_refl w))
  have i0 : (0 : Int) ≤ (k : Int) := by omega
  have i1 : (k : Int) < (n : Int) := by omega
  have t1 : decide ((0 : Int) ≤ (k : Int)) = true := by simp
  subst hw
  rw [hx] at e4
  clear hx
  clear hb hl hm hf hc hk
  go_enter Try.func57, Try.ntmps57
  go_wp2_with fail
  refine (cache_Find _ _ _ b.cache d p _ ((HL.out.alloc (Nat.le_refl _) _).more (by simp))).mono ?_
  rw [HF.out]
  rintro e w1 ⟨rfl, hb1⟩
  have hz1 := hb1.size
  (try simp only [World.size_alloc, World.size_setCell, World.size_drew] at hz1)
  have k1_0 := fun o => (bcell hb1).1 (g) o (by first | (simp; done) | (simp; omega) | omega)
  have l1_0 : (g) < w1.heap.size := (by omega)
  have q1_0 := fun o => (bcell hb1).2 (g) o (by first | (simp; done) | (simp; omega) | omega)
  have k1_1 := fun o => (bcell hb1).1 (q) o (by first | (simp; done) | (simp; omega) | omega)
  have l1_1 : (q) < w1.heap.size := (by omega)
  have q1_1 := fun o => (bcell hb1).2 (q) o (by first | (simp; done) | (simp; omega) | omega)
  simp (maxDischargeDepth := 6) [go_sem, *] at k1_0 q1_0 k1_1 q1_1
  have HB1 := Lib.hid hb1
  clear hb1
  go_wp2
  go_ret2
  have S1 := since_step HB1.out (S0.out _)
  exact ⟨_, n, c, rfl, brg_since HB.out S1, (HL.out.below S1).more S1.size, only_since hg S1, new_same _ _⟩
end

section
attribute [local go_sem ↓] Go.wp_at_zero Go.wp_at_succ


theorem fresh_at (xs : List Int) (m : Option Addr) (cm' : Nat) (b : Brg) (A : Option Addr) (n c : Nat) (d p : Int) (wr : Bool) (x1 x2 x3 : Int) (x4 x5 kp : Bool) (f : Int) (w : World) (hm : Ints w w.heap.size m 512 xs) (h0 : cm xs = 0) (hbase : 0 ≤ b.base ∧ b.base < 64) (hin : inD d p) (hq : freshM xs b d p wr = (⟨x1, x2, x3, x4, x5⟩, kp, f)) :
    Calls Try.prog 62 #[.agg #[.slice m 512 cm'], .agg #[.int .i64 b.mode, .int .i64 b.base, .slice A n c, .int .i64 b.orders.page, .int .i64 b.orders.head, .int .i64 b.orders.tail, .bool b.stopped, .int .i64 b.fences, .int .i64 b.faults.page, .int .i64 b.faults.head, .int .i64 b.faults.tail, .bool b.lost], .int .i64 d, .int .i64 p, .bool wr] w fun e w' => e = .returned (.tuple #[.agg #[.int .i64 x1, .int .i64 x2, .int .i64 x3, .bool x4, .bool x5], .bool kp, .int .i64 f]) ∧ Below w.heap.size w w' := by
  have := bridge_fresh xs m cm' b A n c d p wr w hm h0 hbase hin
  rw [hq] at this
  exact this

theorem ints_snc {w W : World} {A : Option Addr} {n : Nat} {xs : List Int} (hx : Ints w w.heap.size A n xs) (h : Since w W) : Ints W W.heap.size A n xs := ints_now hx h
theorem lines_snc {w W : World} {A : Option Addr} {n c : Nat} {ls : List Line} (hx : Lines w w.heap.size A n c ls) (h : Since w W) : Lines W W.heap.size A n c ls := lines_now hx h
theorem keepB {w1 W : World} {g mb : Nat} {mv : Value} {b : Brg} {A : Option Addr} {n c : Nat} (h : Since w1 W) (hm : w1.cell? ⟨mb, 0, none⟩ = some mv) (hb : BrgAt w1 g b A n c) :
    W.cell? ⟨mb, 0, none⟩ = some mv ∧ W.cell? ⟨g, 0, none⟩ = some (.int .i64 b.mode) ∧ W.cell? ⟨g, 1, none⟩ = some (.int .i64 b.base) ∧ W.cell? ⟨g, 2, none⟩ = some (.slice A n c) ∧ W.cell? ⟨g, 3, none⟩ = some (.int .i64 b.orders.page) ∧ W.cell? ⟨g, 4, none⟩ = some (.int .i64 b.orders.head) ∧ W.cell? ⟨g, 5, none⟩ = some (.int .i64 b.orders.tail) ∧ W.cell? ⟨g, 6, none⟩ = some (.bool b.stopped) ∧ W.cell? ⟨g, 7, none⟩ = some (.int .i64 b.fences) ∧ W.cell? ⟨g, 8, none⟩ = some (.int .i64 b.faults.page) ∧ W.cell? ⟨g, 9, none⟩ = some (.int .i64 b.faults.head) ∧ W.cell? ⟨g, 10, none⟩ = some (.int .i64 b.faults.tail) ∧ W.cell? ⟨g, 11, none⟩ = some (.bool b.lost) ∧ Hid (Since w1 W) := by
  obtain ⟨h0, h1, h2, h3, h4, h5, h6, h7, h8, h9, h10, h11⟩ := brg_since hb h
  exact ⟨since_cell h hm, h0, h1, h2, h3, h4, h5, h6, h7, h8, h9, h10, h11, h⟩
theorem since_B {w1 W : World} {c0 c1 c2 c3 c4 c5 c6 c7 c8 c9 c10 c11 c12 : Prop} (h : c0 ∧ c1 ∧ c2 ∧ c3 ∧ c4 ∧ c5 ∧ c6 ∧ c7 ∧ c8 ∧ c9 ∧ c10 ∧ c11 ∧ c12 ∧ Hid (Since w1 W)) : Since w1 W := h.2.2.2.2.2.2.2.2.2.2.2.2.2
theorem since_set {w1 W : World} {p : Addr} (h : Since w1 W) (hp : w1.heap.size ≤ p.block) (u : Value) : Since w1 (W.setCell p u) := Below.setCell h hp u
theorem keepL {w1 W : World} {g gx : Nat} {x : Line} {v : Value} (h : Since w1 W) (hc : w1.cell? ⟨g, 2, none⟩ = some v) (hx : LineAt w1 gx 0 x) :
    W.cell? ⟨g, 2, none⟩ = some v ∧ W.cell? ⟨gx, 0, none⟩ = some (.int .i64 x.dev) ∧ W.cell? ⟨gx, 1, none⟩ = some (.int .i64 x.page) ∧ W.cell? ⟨gx, 2, none⟩ = some (.int .i64 x.at_) ∧ W.cell? ⟨gx, 3, none⟩ = some (.bool x.rd) ∧ W.cell? ⟨gx, 4, none⟩ = some (.bool x.wr) ∧ Hid (Since w1 W) := by
  obtain ⟨h0, h1, h2, h3, h4⟩ := hx
  exact ⟨since_cell h hc, since_cell h h0, since_cell h h1, since_cell h h2, since_cell h h3, since_cell h h4, h⟩
theorem since_L {w1 W : World} {c0 c1 c2 c3 c4 c5 : Prop} (h : c0 ∧ c1 ∧ c2 ∧ c3 ∧ c4 ∧ c5 ∧ Hid (Since w1 W)) : Since w1 W := h.2.2.2.2.2.2
/-- what 'through' has behind its two looks at memory. -/
def FreshC (w1 : World) (x1 x2 x3 : Int) (x4 x5 kp : Bool) (f : Int) (s13 s14 s15 : Value) (wd : World) : Prop :=
  ∃ gx, s13 = .pointer (some ⟨gx, 0, none⟩) ∧ s14 = .bool kp ∧ s15 = .int .i64 f ∧ Hid (w1.heap.size ≤ gx ∧ gx < wd.heap.size) ∧ Hid (Since w1 wd) ∧ Hid (LineAt wd gx 0 ⟨x1, x2, x3, x4, x5⟩)

set_option maxRecDepth 100000 in
set_option maxHeartbeats 4000000 in
theorem through_not (xs : List Int) (m : Option Addr) (cm' : Nat) (b : Brg) (A : Option Addr) (n c g : Nat) (d p : Int) (wr : Bool) (w : World) (hb : BrgAt w g b A n c) (hl : Lines w w.heap.size A n c b.cache) (hx : Ints w w.heap.size m 512 xs) (h0' : cm xs = 0) (hbase : 0 ≤ b.base ∧ b.base < 64) (hin : inD d p) (hm : b.mode = 2) (hf : findL b.cache d p = -1) (x1 x2 x3 : Int) (x4 x5 : Bool) (f : Int) (hq : freshM xs b d p wr = (⟨x1, x2, x3, x4, x5⟩, false, f)) :
    Calls Try.prog 57 #[.agg #[.slice m 512 cm'], .pointer (some ⟨g, 0, none⟩), .int .i64 d, .int .i64 p, .bool wr] w (ThruC g A w (b, x3, f)) := by
  have HB := Lib.hid hb
  have HL := Lib.hid hl
  have HF := Lib.hid hf
  have HX := Lib.hid hx
  have HQ := Lib.hid hq
  have H0 := Lib.hid h0'
  have HBS := Lib.hid hbase
  have HIN := Lib.hid hin
  have hg := brg_lt hb
  have m0 : (b.mode == 0) = false := by rw [hm]; rfl
  have m1 : (b.mode == 1) = false := by rw [hm]; rfl
  obtain ⟨h0, h1, h2, h3, h4, h5, h6, h7, h8, h9, h10, h11⟩ := hb
  have S0 := Lib.hid (since_alloc (since_refl w) (.cells #[.slice m 512 cm'] 24))
  clear hl hf hx hq h0' hbase hin hm
  go_enter Try.func57, Try.ntmps57
  go_wp2_with fail
  refine (cache_Find _ _ _ b.cache d p _ ((HL.out.alloc (Nat.le_refl _) _).more (by simp))).mono ?_
  rw [HF.out]
  rintro e w1 ⟨rfl, hb1⟩
  have HS1 := Lib.hid (since_step hb1 S0.out)
  have HG1 := Lib.hid (brg_since HB.out HS1.out)
  have HX1 := Lib.hid (ints_now HX.out HS1.out)
  have hz1 := hb1.size
  (try simp only [World.size_alloc, World.size_setCell, World.size_drew] at hz1)
  have k1_0 := fun o => (bcell hb1).1 (g) o (by first | (simp; done) | (simp; omega) | omega)
  have l1_0 : (g) < w1.heap.size := (by omega)
  have q1_0 := fun o => (bcell hb1).2 (g) o (by first | (simp; done) | (simp; omega) | omega)
  have k1_1 := fun o => (bcell hb1).1 (w.heap.size) o (by first | (simp; done) | (simp; omega) | omega)
  have l1_1 : (w.heap.size) < w1.heap.size := (by omega)
  have q1_1 := fun o => (bcell hb1).2 (w.heap.size) o (by first | (simp; done) | (simp; omega) | omega)
  simp (maxDischargeDepth := 6) [go_sem, *] at k1_0 q1_0 k1_1 q1_1
  have HB1 := Lib.hid hb1
  clear hb1
  have HM1 : Hid (w1.cell? ⟨w.heap.size, 0, none⟩ = some (.slice m 512 cm')) := Lib.hid (k1_1 0)
  go_upto_region 11 with (fail)
  go_cut [13, 14, 15] (fun s13 s14 s15 wd => FreshC w1 x1 x2 x3 x4 x5 false f s13 s14 s15 wd)
  case first =>
    go_region_held3 (fun W => W.cell? ⟨w.heap.size, 0, none⟩ = some (.slice m 512 cm') ∧ W.cell? ⟨g, 0, none⟩ = some (.int .i64 b.mode) ∧ W.cell? ⟨g, 1, none⟩ = some (.int .i64 b.base) ∧ W.cell? ⟨g, 2, none⟩ = some (.slice A n c) ∧ W.cell? ⟨g, 3, none⟩ = some (.int .i64 b.orders.page) ∧ W.cell? ⟨g, 4, none⟩ = some (.int .i64 b.orders.head) ∧ W.cell? ⟨g, 5, none⟩ = some (.int .i64 b.orders.tail) ∧ W.cell? ⟨g, 6, none⟩ = some (.bool b.stopped) ∧ W.cell? ⟨g, 7, none⟩ = some (.int .i64 b.fences) ∧ W.cell? ⟨g, 8, none⟩ = some (.int .i64 b.faults.page) ∧ W.cell? ⟨g, 9, none⟩ = some (.int .i64 b.faults.head) ∧ W.cell? ⟨g, 10, none⟩ = some (.int .i64 b.faults.tail) ∧ W.cell? ⟨g, 11, none⟩ = some (.bool b.lost) ∧ Hid (Since w1 W))
      (((with_reducible refine keepB ?_ HM1.out HG1.out); (repeat (first | (with_reducible assumption) | (with_reducible exact since_refl _) | (with_reducible exact since_B (by assumption)) | (with_reducible exact since_step (by assumption) (since_B (by assumption))) | (with_reducible refine since_drew ?_) | (with_reducible refine since_alloc ?_ _) | ((with_reducible refine since_set ?_ ?_ _); rotate_left; exact (by first | (simp; done) | (simp; omega) | omega)))); done))
      (first
        | (go_at_call 62; refine (fresh_at xs _ _ b _ _ _ d p wr x1 x2 x3 x4 x5 false f _ ?_ H0.out HBS.out HIN.out HQ.out).mono ?_; (with_reducible exact ints_snc HX1.out (since_B (by assumption))); rintro e w2 ⟨rfl, hb2⟩; have hs2 := since_step hb2 (since_B (by assumption)); have hz2 := hb2.size; (try simp only [World.size_alloc, World.size_setCell, World.size_drew] at hz2); (try (have l2_5 : (w1.heap.size) < w2.heap.size := (by omega); have k2_5 := fun o => (bcell hb2).1 (w1.heap.size) o (by first | (simp; done) | (simp; omega) | omega); have q2_5 := fun o => (bcell hb2).2 (w1.heap.size) o (by first | (simp; done) | (simp; omega) | omega); simp (maxDischargeDepth := 6) [go_sem, *] at k2_5 q2_5))))
    all_goals
      go_wp2
      go_meet
      rename_i hHeld
      have HS := Lib.hid (since_B hHeld)
      have hz := hs2.size
      clear hHeld
      refine ⟨_, rfl, rfl, rfl, ?_, HS.out, ?_⟩
      · show _ ∧ _
        refine ⟨?_, ?_⟩ <;> first | (simp; done) | (simp; omega) | omega
      · show LineAt _ _ _ _
        refine ⟨?_, ?_, ?_, ?_, ?_⟩ <;> simp (maxDischargeDepth := 8) [go_sem, *]
  case rest =>
    obtain ⟨gx, rfl, rfl, rfl, hgx, hs2, hx2⟩ := hcut
    obtain ⟨hx0, hx1, hxa, hx3, hx4⟩ := hx2.out
    go_wp2
    go_ret2
    have S2 : Since w wc := Below.trans HS1.out (Below.mono hs2.out HS1.out.size)
    exact ⟨A, n, c, rfl, brg_since HB.out S2, lines_now HL.out S2, only_since hg S2, new_same _ _⟩

theorem brg_set {w : World} {g : Nat} {b : Brg} {A : Option Addr} {n c : Nat} (h : BrgAt w g b A n c) (ls : List Line) (A' : Option Addr) (n' c' : Nat) : BrgAt (w.setCell ⟨g, 2, none⟩ (.slice A' n' c')) g { b with cache := ls } A' n' c' := by
  obtain ⟨h0, h1, h2, h3, h4, h5, h6, h7, h8, h9, h10, h11⟩ := h
  unfold BrgAt
  simp [go_sem, *]
theorem only_set {w W : World} {g o : Nat} (hg : g < w.heap.size) (h : Since w W) (u : Value) : Only g w (W.setCell ⟨g, o, none⟩ u) :=
  ⟨(Below.mono h (Nat.le_of_lt hg)).setCell (Nat.le_refl _) _, by have := h.size; simpa using this, fun q j hq hl => by
    rw [World.cell?_setCell_other _ _ _ _ (by intro e; exact hq (by have := congrArg Addr.block e; simp at this; omega))]; exact Below.cell (p := ⟨q, j, none⟩) h hl, fun q j hl => by
    rw [World.frozen?_setCell]; exact Below.frozen (p := ⟨q, j, none⟩) h hl⟩

set_option maxRecDepth 100000 in
set_option maxHeartbeats 4000000 in
theorem through_keep (xs : List Int) (m : Option Addr) (cm' : Nat) (b : Brg) (A : Option Addr) (n c g : Nat) (d p : Int) (wr : Bool) (w : World) (hb : BrgAt w g b A n c) (hfz : ∀ o, w.frozen? ⟨g, o, none⟩ = false) (hl : Lines w w.heap.size A n c b.cache) (hx : Ints w w.heap.size m 512 xs) (h0' : cm xs = 0) (hbase : 0 ≤ b.base ∧ b.base < 64) (hin : inD d p) (hm : b.mode = 2) (hf : findL b.cache d p = -1) (x1 x2 x3 : Int) (x4 x5 : Bool) (hq : freshM xs b d p wr = (⟨x1, x2, x3, x4, x5⟩, true, 0)) (hE : fillE b.cache ⟨x1, x2, x3, x4, x5⟩ = 0) :
    Calls Try.prog 57 #[.agg #[.slice m 512 cm'], .pointer (some ⟨g, 0, none⟩), .int .i64 d, .int .i64 p, .bool wr] w (ThruC g A w ({ b with cache := fillL b.cache ⟨x1, x2, x3, x4, x5⟩ }, x3, 0)) := by
  have HE := Lib.hid hE
  clear hE
  have HB := Lib.hid hb
  have HL := Lib.hid hl
  have HFZ := Lib.hid hfz
  clear hfz
  have HF := Lib.hid hf
  have HX := Lib.hid hx
  have HQ := Lib.hid hq
  have H0 := Lib.hid h0'
  have HBS := Lib.hid hbase
  have HIN := Lib.hid hin
  have hg := brg_lt hb
  have m0 : (b.mode == 0) = false := by rw [hm]; rfl
  have m1 : (b.mode == 1) = false := by rw [hm]; rfl
  obtain ⟨h0, h1, h2, h3, h4, h5, h6, h7, h8, h9, h10, h11⟩ := hb
  have S0 := Lib.hid (since_alloc (since_refl w) (.cells #[.slice m 512 cm'] 24))
  clear hl hf hx hq h0' hbase hin hm
  go_enter Try.func57, Try.ntmps57
  go_wp2_with fail
  refine (cache_Find _ _ _ b.cache d p _ ((HL.out.alloc (Nat.le_refl _) _).more (by simp))).mono ?_
  rw [HF.out]
  rintro e w1 ⟨rfl, hb1⟩
  have HS1 := Lib.hid (since_step hb1 S0.out)
  have HG1 := Lib.hid (brg_since HB.out HS1.out)
  have HX1 := Lib.hid (ints_now HX.out HS1.out)
  have hz1 := hb1.size
  (try simp only [World.size_alloc, World.size_setCell, World.size_drew] at hz1)
  have k1_0 := fun o => (bcell hb1).1 (g) o (by first | (simp; done) | (simp; omega) | omega)
  have l1_0 : (g) < w1.heap.size := (by omega)
  have q1_0 := fun o => (bcell hb1).2 (g) o (by first | (simp; done) | (simp; omega) | omega)
  have k1_1 := fun o => (bcell hb1).1 (w.heap.size) o (by first | (simp; done) | (simp; omega) | omega)
  have l1_1 : (w.heap.size) < w1.heap.size := (by omega)
  have q1_1 := fun o => (bcell hb1).2 (w.heap.size) o (by first | (simp; done) | (simp; omega) | omega)
  simp (maxDischargeDepth := 6) [go_sem, *] at k1_0 q1_0 k1_1 q1_1
  have HB1 := Lib.hid hb1
  clear hb1
  have HM1 : Hid (w1.cell? ⟨w.heap.size, 0, none⟩ = some (.slice m 512 cm')) := Lib.hid (k1_1 0)
  go_upto_region 11 with (fail)
  go_cut [13, 14, 15] (fun s13 s14 s15 wd => FreshC w1 x1 x2 x3 x4 x5 true 0 s13 s14 s15 wd)
  case first =>
    go_region_held3 (fun W => W.cell? ⟨w.heap.size, 0, none⟩ = some (.slice m 512 cm') ∧ W.cell? ⟨g, 0, none⟩ = some (.int .i64 b.mode) ∧ W.cell? ⟨g, 1, none⟩ = some (.int .i64 b.base) ∧ W.cell? ⟨g, 2, none⟩ = some (.slice A n c) ∧ W.cell? ⟨g, 3, none⟩ = some (.int .i64 b.orders.page) ∧ W.cell? ⟨g, 4, none⟩ = some (.int .i64 b.orders.head) ∧ W.cell? ⟨g, 5, none⟩ = some (.int .i64 b.orders.tail) ∧ W.cell? ⟨g, 6, none⟩ = some (.bool b.stopped) ∧ W.cell? ⟨g, 7, none⟩ = some (.int .i64 b.fences) ∧ W.cell? ⟨g, 8, none⟩ = some (.int .i64 b.faults.page) ∧ W.cell? ⟨g, 9, none⟩ = some (.int .i64 b.faults.head) ∧ W.cell? ⟨g, 10, none⟩ = some (.int .i64 b.faults.tail) ∧ W.cell? ⟨g, 11, none⟩ = some (.bool b.lost) ∧ Hid (Since w1 W))
      (((with_reducible refine keepB ?_ HM1.out HG1.out); (repeat (first | (with_reducible assumption) | (with_reducible exact since_refl _) | (with_reducible exact since_B (by assumption)) | (with_reducible exact since_step (by assumption) (since_B (by assumption))) | (with_reducible refine since_drew ?_) | (with_reducible refine since_alloc ?_ _) | ((with_reducible refine since_set ?_ ?_ _); rotate_left; exact (by first | (simp; done) | (simp; omega) | omega)))); done))
      (first
        | (go_at_call 62; refine (fresh_at xs _ _ b _ _ _ d p wr x1 x2 x3 x4 x5 true 0 _ ?_ H0.out HBS.out HIN.out HQ.out).mono ?_; (with_reducible exact ints_snc HX1.out (since_B (by assumption))); rintro e w2 ⟨rfl, hb2⟩; have hs2 := since_step hb2 (since_B (by assumption)); have hz2 := hb2.size; (try simp only [World.size_alloc, World.size_setCell, World.size_drew] at hz2); (try (have l2_5 : (w1.heap.size) < w2.heap.size := (by omega); have k2_5 := fun o => (bcell hb2).1 (w1.heap.size) o (by first | (simp; done) | (simp; omega) | omega); have q2_5 := fun o => (bcell hb2).2 (w1.heap.size) o (by first | (simp; done) | (simp; omega) | omega); simp (maxDischargeDepth := 6) [go_sem, *] at k2_5 q2_5))))
    all_goals
      go_wp2
      go_meet
      rename_i hHeld
      have HS := Lib.hid (since_B hHeld)
      have hz := hs2.size
      clear hHeld
      refine ⟨_, rfl, rfl, rfl, ?_, HS.out, ?_⟩
      · show _ ∧ _
        refine ⟨?_, ?_⟩ <;> first | (simp; done) | (simp; omega) | omega
      · show LineAt _ _ _ _
        refine ⟨?_, ?_, ?_, ?_, ?_⟩ <;> simp (maxDischargeDepth := 8) [go_sem, *]
  case rest =>
    obtain ⟨gx, rfl, rfl, rfl, hgx, hs2, hx2⟩ := hcut
    obtain ⟨hgx1, hgx2⟩ := hgx.out
    obtain ⟨hx0, hx1', hxa, hx3, hx4⟩ := hx2.out
    have HWC := Lib.hid (show Since w wc from Below.trans HS1.out (Below.mono hs2.out HS1.out.size))
    have HL1 := Lib.hid (lines_now HL.out HWC.out)
    have HGC := Lib.hid (brg_since HB.out HWC.out)
    have HG2 := Lib.hid HGC.out.2.2.1
    go_upto_region 13 with (fail)
    go_cut [16, 17] (fun s16 s17 wd => ∃ A' c', s16 = .slice A' (fillL b.cache ⟨x1, x2, x3, x4, x5⟩).length c' ∧ s17 = .int .i64 0 ∧ Hid (OwnL wc.heap.size wd A' (fillL b.cache ⟨x1, x2, x3, x4, x5⟩).length c' (fillL b.cache ⟨x1, x2, x3, x4, x5⟩)) ∧ Hid (Since wc wd))
    case first =>
      go_region_held3 (fun W => W.cell? ⟨g, 2, none⟩ = some (.slice A n c) ∧ W.cell? ⟨gx, 0, none⟩ = some (.int .i64 x1) ∧ W.cell? ⟨gx, 1, none⟩ = some (.int .i64 x2) ∧ W.cell? ⟨gx, 2, none⟩ = some (.int .i64 x3) ∧ W.cell? ⟨gx, 3, none⟩ = some (.bool x4) ∧ W.cell? ⟨gx, 4, none⟩ = some (.bool x5) ∧ Hid (Since wc W))
        (((with_reducible refine keepL (x := ⟨x1, x2, x3, x4, x5⟩) ?_ HG2.out hx2.out); (repeat (first | (with_reducible assumption) | (with_reducible exact since_refl _) | (with_reducible exact since_L (by assumption)) | (with_reducible exact since_step (by assumption) (since_L (by assumption))) | (with_reducible refine since_drew ?_) | (with_reducible refine since_alloc ?_ _) | ((with_reducible refine since_set ?_ ?_ _); rotate_left; exact (by first | (simp; done) | (simp; omega) | omega)))); done))
        (first
          | (go_at_call 63; refine (cache_Fill _ _ _ b.cache ⟨x1, x2, x3, x4, x5⟩ _ ?_ HE.out).mono ?_; (with_reducible exact lines_snc HL1.out (since_L (by assumption))); rintro e w3 ⟨A', c', rfl, ho, hb3⟩; have hs3 := since_step hb3 (since_L (by assumption)); have HO : Hid (OwnL wc.heap.size w3 A' (fillL b.cache ⟨x1, x2, x3, x4, x5⟩).length c' (fillL b.cache ⟨x1, x2, x3, x4, x5⟩)) := Lib.hid (ho.low (Below.size (since_L (by assumption)))); clear ho))
      all_goals
        go_wp2
        go_meet
        exact ⟨_, _, rfl, rfl, HO.out, hs3⟩
    case rest =>
      obtain ⟨A', c', rfl, rfl, ho, hs3⟩ := hcut
      have HG3 := Lib.hid (brg_since HGC.out hs3.out)
      have k3 := HG3.out.2.2.1
      have f3 := (Below.frozen (p := ⟨g, 2, none⟩) hs3.out (Nat.lt_of_lt_of_le hg (Below.size HWC.out))).trans ((Below.frozen (p := ⟨g, 2, none⟩) HWC.out hg).trans (HFZ.out 2))
      have hne : ¬ gx = g := by have := Below.size HS1.out; omega
      have hne' : ¬ g = gx := fun e => hne e.symm
      have k4 := since_cell hs3.out hxa
      simp only [Nat.zero_add] at k4
      have SS := Lib.hid (show Since w _ from Below.trans HWC.out (Below.mono hs3.out (Below.size HWC.out)))
      go_wp2
      go_ret2
      refine ⟨A', _, c', rfl, brg_set HG3.out _ _ _ _, ?_, only_set hg SS.out _, fun ad h => Or.inr (Nat.le_trans (Below.size HWC.out) (own_ge ho.out.2.2.2 _ (by rw [h]; rfl)))⟩
      exact (ho.out.set (Nat.lt_of_lt_of_le hg (Below.size HWC.out)) _).lines
end

section
attribute [local go_sem ↓] Go.wp_at_zero Go.wp_at_succ

theorem lines_off {w : World} {B n c : Nat} {A : Option Addr} {ls : List Line} (h : Lines w B A n c ls) {p : Addr} (hp : ∀ ad, A = some ad → ad.block ≠ p.block) (u : Value) : Lines (w.setCell p u) B A n c ls := by
  obtain ⟨h1, h2, h3, h4, h5⟩ := h
  refine ⟨h1, h2, h3, h4, fun h0 => ?_⟩
  obtain ⟨b, off, e, hb, hc⟩ := h5 h0
  exact ⟨b, off, e, hb, fun j v hv => (World.cell?_setCell_other _ _ _ _ (fun e' => hp _ e (by have := congrArg Addr.block e'; simpa using this.symm))).trans (hc j v hv)⟩
/-- through, whatever is asked. -/
theorem through_any (xs : List Int) (m : Option Addr) (cm' : Nat) (b : Brg) (A : Option Addr) (n c g : Nat) (d p : Int) (wr : Bool) (w : World) (hb : BrgAt w g b A n c) (hfz : ∀ o, w.frozen? ⟨g, o, none⟩ = false) (hl : Lines w w.heap.size A n c b.cache) (hx : Ints w w.heap.size m 512 xs) (h0 : cm xs = 0) (hck : ckB b = 0) (hin : inD d p) :
    Calls Try.prog 57 #[.agg #[.slice m 512 cm'], .pointer (some ⟨g, 0, none⟩), .int .i64 d, .int .i64 p, .bool wr] w (ThruC g A w (thruM xs b d p wr)) := by
  obtain ⟨hr, hc, _, _⟩ := (ckB_iff b).1 hck
  have hbase : 0 ≤ b.base ∧ b.base < 64 := hr.2.1
  by_cases hm0 : b.mode = 0
  · rw [show thruM xs b d p wr = (b, 0, 1) by unfold thruM; rw [if_pos hm0]]
    exact through_shut xs m cm' b A n c g d p wr w hb hl hm0
  · by_cases hm1 : b.mode = 1
    · rw [show thruM xs b d p wr = (b, p, 0) by unfold thruM; rw [if_neg hm0, if_pos hm1]]
      exact through_bare xs m cm' b A n c g d p wr w hb hl hm1
    · have hm2 : b.mode = 2 := by have := hr.1; omega
      cases hf : b.cache.find? (hitL d p) with
      | some x =>
        obtain ⟨k, e, hk⟩ := find_some hf
        by_cases hx5 : wr = true ∧ x.wr = false
        · rw [show thruM xs b d p wr = (b, 0, 5) by unfold thruM; rw [if_neg hm0, if_neg hm1, hf]; simp [hx5.1, hx5.2]]
          exact through_found0 xs m cm' b A n c g d p wr w hb hl hm2 k x e hk hx5.1 hx5.2
        · have ex : thruM xs b d p wr = (b, x.at_, 0) := by
            unfold thruM; rw [if_neg hm0, if_neg hm1, hf]
            cases wr <;> cases hxw : x.wr <;> simp_all
          rw [ex]
          cases wr with
          | false => exact through_found1 xs m cm' b A n c g d p false w hb hl hm2 k x e hk rfl
          | true => exact through_found2 xs m cm' b A n c g d p true w hb hl hm2 k x e hk rfl (by cases h : x.wr <;> simp_all)
      | none =>
        have e := find_find hf
        have et : thruM xs b d p wr = ((if (freshM xs b d p wr).2.1 then { b with cache := fillL b.cache (freshM xs b d p wr).1 } else b), (freshM xs b d p wr).1.at_, (freshM xs b d p wr).2.2) := by
          unfold thruM; rw [if_neg hm0, if_neg hm1, hf]
        rw [et]
        have hline := fresh_line (xs := xs) (b := b) (wr := wr) hin
        cases hq : freshM xs b d p wr with
        | mk x r =>
          obtain ⟨kp, f⟩ := r
          obtain ⟨x1, x2, x3, x4, x5⟩ := x
          cases kp with
          | false => exact through_not xs m cm' b A n c g d p wr w hb hl hx h0 hbase hin hm2 e x1 x2 x3 x4 x5 f hq
          | true =>
            rw [hq] at hline
            obtain ⟨q1, q2, q3, q4⟩ := hline rfl
            simp only [] at q2 q3 q4
            subst q2 q3 q4
            exact through_keep xs m cm' b A n c g x1 x2 wr w hb hfz hl hx h0 hbase hin hm2 e x1 x2 x3 x4 x5 hq (fillE_0 hc q1 (by rw [e]; decide))

theorem through_at (xs : List Int) (m : Option Addr) (cm' : Nat) (b : Brg) (A : Option Addr) (n c g : Nat) (d p : Int) (wr : Bool) (rb : Brg) (ra rf : Int) (w : World) (hb : BrgAt w g b A n c) (hfz : ∀ o, w.frozen? ⟨g, o, none⟩ = false) (hl : Lines w w.heap.size A n c b.cache) (hx : Ints w w.heap.size m 512 xs) (h0 : cm xs = 0) (hck : ckB b = 0) (hin : inD d p) (hr : thruM xs b d p wr = (rb, ra, rf)) :
    Calls Try.prog 57 #[.agg #[.slice m 512 cm'], .pointer (some ⟨g, 0, none⟩), .int .i64 d, .int .i64 p, .bool wr] w fun e w' => ∃ A' n c, e = .returned (.tuple #[.int .i64 ra, .int .i64 rf]) ∧ BrgAt w' g rb A' n c ∧ Lines w' w'.heap.size A' n c rb.cache ∧ Only g w w' ∧ NewIn w A A' := by
  have := through_any xs m cm' b A n c g d p wr w hb hfz hl hx h0 hck hin
  rw [hr] at this
  exact this
/-- what Through answers. -/
def ThroughC (w : World) (r : Brg × Int × Int) (E : Int) (e : Ending) (w' : World) : Prop :=
  ∃ A n c, e = .returned (.tuple #[.agg #[.int .i64 r.1.mode, .int .i64 r.1.base, .slice A n c, .int .i64 r.1.orders.page, .int .i64 r.1.orders.head, .int .i64 r.1.orders.tail, .bool r.1.stopped, .int .i64 r.1.fences, .int .i64 r.1.faults.page, .int .i64 r.1.faults.head, .int .i64 r.1.faults.tail, .bool r.1.lost], .int .i64 r.2.1, .int .i64 r.2.2, .int .i64 E]) ∧ Lines w' w'.heap.size A n c r.1.cache ∧ Below w.heap.size w w' ∧ ∀ ad, A = some ad → w.heap.size ≤ ad.block

set_option maxRecDepth 100000 in
set_option maxHeartbeats 4000000 in
theorem Through_no1 (xs : List Int) (m : Option Addr) (nm cm' : Nat) (b : Brg) (A : Option Addr) (n c : Nat) (d p : Int) (wr : Bool) (w : World) (hx : Ints w w.heap.size m nm xs) (hl : Lines w w.heap.size A n c b.cache) (hE : allE xs b ≠ 0) :
    Calls Try.prog 41 #[.agg #[.slice m nm cm'], .agg #[.int .i64 b.mode, .int .i64 b.base, .slice A n c, .int .i64 b.orders.page, .int .i64 b.orders.head, .int .i64 b.orders.tail, .bool b.stopped, .int .i64 b.fences, .int .i64 b.faults.page, .int .i64 b.faults.head, .int .i64 b.faults.tail, .bool b.lost], .int .i64 d, .int .i64 p, .bool wr] w (ThroughC w (.no, 0, 0) (allE xs b)) := by
  have HX := Lib.hid hx
  have HL := Lib.hid hl
  have t0 : (allE xs b == 0) = false := beq_eq_false_iff_ne.2 hE
  have t1 : (allE xs b != 0) = true := by rw [bne_iff_ne]; exact hE
  clear hx hl hE
  go_enter Try.func41, Try.ntmps41
  go_wp2_with fail
  refine (bridge_all xs _ _ _ b _ _ _ _ (ints_now HX.out (by (repeat (first | (with_reducible exact Below.refl _ _) | (with_reducible refine Below.drew ?_) | (with_reducible refine bdrewN ?_ _) | ((with_reducible refine Below.setCell ?_ ?_ _); rotate_left; exact (by first | (simp; done) | (simp; omega) | omega)) | ((with_reducible refine Below.alloc ?_ ?_ _); rotate_left; exact (by first | (simp; done) | (simp; omega) | omega)))))) (lines_now HL.out (by (repeat (first | (with_reducible exact Below.refl _ _) | (with_reducible refine Below.drew ?_) | (with_reducible refine bdrewN ?_ _) | ((with_reducible refine Below.setCell ?_ ?_ _); rotate_left; exact (by first | (simp; done) | (simp; omega) | omega)) | ((with_reducible refine Below.alloc ?_ ?_ _); rotate_left; exact (by first | (simp; done) | (simp; omega) | omega))))))).mono ?_
  rintro e w1 ⟨rfl, hb1⟩
  have hz1 := hb1.size
  (try simp only [World.size_alloc, World.size_setCell, World.size_drew] at hz1)
  have k1_0 := fun o => (bcell hb1).1 (w.heap.size) o (by first | (simp; done) | (simp; omega) | omega)
  have l1_0 : (w.heap.size) < w1.heap.size := (by omega)
  have q1_0 := fun o => (bcell hb1).2 (w.heap.size) o (by first | (simp; done) | (simp; omega) | omega)
  have k1_1 := fun o => (bcell hb1).1 (w.heap.size + 1) o (by first | (simp; done) | (simp; omega) | omega)
  have l1_1 : (w.heap.size + 1) < w1.heap.size := (by omega)
  have q1_1 := fun o => (bcell hb1).2 (w.heap.size + 1) o (by first | (simp; done) | (simp; omega) | omega)
  have k1_2 := fun o => (bcell hb1).1 (w.heap.size + 1 + 1) o (by first | (simp; done) | (simp; omega) | omega)
  have l1_2 : (w.heap.size + 1 + 1) < w1.heap.size := (by omega)
  have q1_2 := fun o => (bcell hb1).2 (w.heap.size + 1 + 1) o (by first | (simp; done) | (simp; omega) | omega)
  simp (maxDischargeDepth := 6) [go_sem, *] at k1_0 q1_0 k1_1 q1_1 k1_2 q1_2
  have HB1 := Lib.hid hb1
  clear hb1
  go_wp2
  refine bodyPost_ret (v := .tuple #[.agg #[.int .i64 Brg.no.mode, .int .i64 Brg.no.base, .slice none 0 0, .int .i64 Brg.no.orders.page, .int .i64 Brg.no.orders.head, .int .i64 Brg.no.orders.tail, .bool Brg.no.stopped, .int .i64 Brg.no.fences, .int .i64 Brg.no.faults.page, .int .i64 Brg.no.faults.head, .int .i64 Brg.no.faults.tail, .bool Brg.no.lost], .int .i64 0, .int .i64 0, .int .i64 (allE xs b)]) ?_ rfl ⟨none, 0, 0, rfl, lines_none _ _, ?_, fun _ h => by cases h⟩
  · simp (maxDischargeDepth := 8) [results, Try.results41, go_sem, Brg.no, Ring.no, *]
  · (repeat (first | (with_reducible exact Below.refl _ _) | (with_reducible refine Below.drew ?_) | (with_reducible refine bdrewN ?_ _) | ((with_reducible refine Below.setCell ?_ ?_ _); rotate_left; exact (by first | (simp; done) | (simp; omega) | omega)) | ((with_reducible refine Below.alloc ?_ ?_ _); rotate_left; exact (by first | (simp; done) | (simp; omega) | omega)) | ((with_reducible refine Below.trans ?_ (HB1.out.mono ?_)); rotate_left; exact (by first | (simp; done) | (simp; omega) | omega))))

set_option maxRecDepth 100000 in
set_option maxHeartbeats 4000000 in
theorem Through_no2 (xs : List Int) (m : Option Addr) (nm cm' : Nat) (b : Brg) (A : Option Addr) (n c : Nat) (d p : Int) (wr : Bool) (w : World) (hx : Ints w w.heap.size m nm xs) (hl : Lines w w.heap.size A n c b.cache) (hE : allE xs b = 0) (hin : ¬ inD d p) :
    Calls Try.prog 41 #[.agg #[.slice m nm cm'], .agg #[.int .i64 b.mode, .int .i64 b.base, .slice A n c, .int .i64 b.orders.page, .int .i64 b.orders.head, .int .i64 b.orders.tail, .bool b.stopped, .int .i64 b.fences, .int .i64 b.faults.page, .int .i64 b.faults.head, .int .i64 b.faults.tail, .bool b.lost], .int .i64 d, .int .i64 p, .bool wr] w (ThroughC w (.no, 0, 0) 4) := by
  have HX := Lib.hid hx
  have HL := Lib.hid hl
  have HE := Lib.hid hE
  have HA := Lib.hid (show askE d p = 4 by unfold askE; rw [if_neg hin])
  clear hx hl hE hin
  go_enter Try.func41, Try.ntmps41
  go_wp2_with fail
  refine (bridge_all xs _ _ _ b _ _ _ _ (ints_now HX.out (by (repeat (first | (with_reducible exact Below.refl _ _) | (with_reducible refine Below.drew ?_) | (with_reducible refine bdrewN ?_ _) | ((with_reducible refine Below.setCell ?_ ?_ _); rotate_left; exact (by first | (simp; done) | (simp; omega) | omega)) | ((with_reducible refine Below.alloc ?_ ?_ _); rotate_left; exact (by first | (simp; done) | (simp; omega) | omega)))))) (lines_now HL.out (by (repeat (first | (with_reducible exact Below.refl _ _) | (with_reducible refine Below.drew ?_) | (with_reducible refine bdrewN ?_ _) | ((with_reducible refine Below.setCell ?_ ?_ _); rotate_left; exact (by first | (simp; done) | (simp; omega) | omega)) | ((with_reducible refine Below.alloc ?_ ?_ _); rotate_left; exact (by first | (simp; done) | (simp; omega) | omega))))))).mono ?_
  rw [HE.out]
  rintro e w1 ⟨rfl, hb1⟩
  have hz1 := hb1.size
  (try simp only [World.size_alloc, World.size_setCell, World.size_drew] at hz1)
  have k1_0 := fun o => (bcell hb1).1 (w.heap.size) o (by first | (simp; done) | (simp; omega) | omega)
  have l1_0 : (w.heap.size) < w1.heap.size := (by omega)
  have q1_0 := fun o => (bcell hb1).2 (w.heap.size) o (by first | (simp; done) | (simp; omega) | omega)
  have k1_1 := fun o => (bcell hb1).1 (w.heap.size + 1) o (by first | (simp; done) | (simp; omega) | omega)
  have l1_1 : (w.heap.size + 1) < w1.heap.size := (by omega)
  have q1_1 := fun o => (bcell hb1).2 (w.heap.size + 1) o (by first | (simp; done) | (simp; omega) | omega)
  have k1_2 := fun o => (bcell hb1).1 (w.heap.size + 1 + 1) o (by first | (simp; done) | (simp; omega) | omega)
  have l1_2 : (w.heap.size + 1 + 1) < w1.heap.size := (by omega)
  have q1_2 := fun o => (bcell hb1).2 (w.heap.size + 1 + 1) o (by first | (simp; done) | (simp; omega) | omega)
  simp (maxDischargeDepth := 6) [go_sem, *] at k1_0 q1_0 k1_1 q1_1 k1_2 q1_2
  have HB1 := Lib.hid hb1
  clear hb1
  go_wp2_with fail
  refine (bridge_asked _ _ _).mono ?_
  rw [HA.out]
  rintro e w' ⟨rfl, rfl⟩
  go_wp2
  refine bodyPost_ret (v := .tuple #[.agg #[.int .i64 Brg.no.mode, .int .i64 Brg.no.base, .slice none 0 0, .int .i64 Brg.no.orders.page, .int .i64 Brg.no.orders.head, .int .i64 Brg.no.orders.tail, .bool Brg.no.stopped, .int .i64 Brg.no.fences, .int .i64 Brg.no.faults.page, .int .i64 Brg.no.faults.head, .int .i64 Brg.no.faults.tail, .bool Brg.no.lost], .int .i64 0, .int .i64 0, .int .i64 4]) ?_ rfl ⟨none, 0, 0, rfl, lines_none _ _, ?_, fun _ h => by cases h⟩
  · simp (maxDischargeDepth := 8) [results, Try.results41, go_sem, Brg.no, Ring.no, *]
  · (repeat (first | (with_reducible exact Below.refl _ _) | (with_reducible refine Below.drew ?_) | (with_reducible refine bdrewN ?_ _) | ((with_reducible refine Below.setCell ?_ ?_ _); rotate_left; exact (by first | (simp; done) | (simp; omega) | omega)) | ((with_reducible refine Below.alloc ?_ ?_ _); rotate_left; exact (by first | (simp; done) | (simp; omega) | omega)) | ((with_reducible refine Below.trans ?_ (HB1.out.mono ?_)); rotate_left; exact (by first | (simp; done) | (simp; omega) | omega))))

set_option maxRecDepth 100000 in
set_option maxHeartbeats 4000000 in
theorem Through_ok (xs : List Int) (m : Option Addr) (cm' : Nat) (b : Brg) (A : Option Addr) (n c : Nat) (d p : Int) (wr : Bool) (w : World) (hx : Ints w w.heap.size m 512 xs) (hl : Lines w w.heap.size A n c b.cache) (h0 : cm xs = 0) (hb : ckB b = 0) (hin : inD d p) (rb : Brg) (ra rf : Int) (hr : thruM xs b d p wr = (rb, ra, rf)) :
    Calls Try.prog 41 #[.agg #[.slice m 512 cm'], .agg #[.int .i64 b.mode, .int .i64 b.base, .slice A n c, .int .i64 b.orders.page, .int .i64 b.orders.head, .int .i64 b.orders.tail, .bool b.stopped, .int .i64 b.fences, .int .i64 b.faults.page, .int .i64 b.faults.head, .int .i64 b.faults.tail, .bool b.lost], .int .i64 d, .int .i64 p, .bool wr] w (ThroughC w (rb, ra, rf) 0) := by
  have HT := Lib.hid hr
  have HX := Lib.hid hx
  have HL := Lib.hid hl
  have HE := Lib.hid (show allE xs b = 0 by unfold allE; rw [if_pos h0]; exact hb)
  have HA := Lib.hid (show askE d p = 0 by unfold askE; rw [if_pos hin])
  have H0 := Lib.hid h0
  have HCK := Lib.hid hb
  have HIN := Lib.hid hin
  have hn6 : n ≤ 1000 := by
    have := ((ckC_iff b.cache).1 ((ckB_iff b).1 hb).2.1).1
    have := hl.len
    omega
  clear hx hl h0 hb hin hr
  go_enter Try.func41, Try.ntmps41
  go_wp2_with fail
  refine (bridge_all xs _ _ _ b _ _ _ _ (ints_now HX.out (by (repeat (first | (with_reducible exact Below.refl _ _) | (with_reducible refine Below.drew ?_) | (with_reducible refine bdrewN ?_ _) | ((with_reducible refine Below.setCell ?_ ?_ _); rotate_left; exact (by first | (simp; done) | (simp; omega) | omega)) | ((with_reducible refine Below.alloc ?_ ?_ _); rotate_left; exact (by first | (simp; done) | (simp; omega) | omega)))))) (lines_now HL.out (by (repeat (first | (with_reducible exact Below.refl _ _) | (with_reducible refine Below.drew ?_) | (with_reducible refine bdrewN ?_ _) | ((with_reducible refine Below.setCell ?_ ?_ _); rotate_left; exact (by first | (simp; done) | (simp; omega) | omega)) | ((with_reducible refine Below.alloc ?_ ?_ _); rotate_left; exact (by first | (simp; done) | (simp; omega) | omega))))))).mono ?_
  rw [HE.out]
  rintro e w1 ⟨rfl, hb1⟩
  have hz1 := hb1.size
  (try simp only [World.size_alloc, World.size_setCell, World.size_drew] at hz1)
  have k1_0 := fun o => (bcell hb1).1 (w.heap.size) o (by first | (simp; done) | (simp; omega) | omega)
  have l1_0 : (w.heap.size) < w1.heap.size := (by omega)
  have q1_0 := fun o => (bcell hb1).2 (w.heap.size) o (by first | (simp; done) | (simp; omega) | omega)
  have k1_1 := fun o => (bcell hb1).1 (w.heap.size + 1) o (by first | (simp; done) | (simp; omega) | omega)
  have l1_1 : (w.heap.size + 1) < w1.heap.size := (by omega)
  have q1_1 := fun o => (bcell hb1).2 (w.heap.size + 1) o (by first | (simp; done) | (simp; omega) | omega)
  have k1_2 := fun o => (bcell hb1).1 (w.heap.size + 1 + 1) o (by first | (simp; done) | (simp; omega) | omega)
  have l1_2 : (w.heap.size + 1 + 1) < w1.heap.size := (by omega)
  have q1_2 := fun o => (bcell hb1).2 (w.heap.size + 1 + 1) o (by first | (simp; done) | (simp; omega) | omega)
  simp (maxDischargeDepth := 6) [go_sem, *] at k1_0 q1_0 k1_1 q1_1 k1_2 q1_2
  have HB1 := Lib.hid hb1
  clear hb1
  go_wp2_with fail
  refine (bridge_asked _ _ _).mono ?_
  rw [HA.out]
  rintro e w' ⟨rfl, rfl⟩
  go_wp2_with fail
  refine (bridge_Copy b _ _ _ _ (lines_now HL.out (by (repeat (first | (with_reducible exact Below.refl _ _) | (with_reducible refine Below.drew ?_) | (with_reducible refine bdrewN ?_ _) | ((with_reducible refine Below.setCell ?_ ?_ _); rotate_left; exact (by first | (simp; done) | (simp; omega) | omega)) | ((with_reducible refine Below.alloc ?_ ?_ _); rotate_left; exact (by first | (simp; done) | (simp; omega) | omega)) | ((with_reducible refine Below.trans ?_ (HB1.out.mono ?_)); rotate_left; exact (by first | (simp; done) | (simp; omega) | omega)))))) hn6).mono ?_
  rintro e w2 ⟨A2, c2, rfl, ho2, hb2⟩
  have HO2 := Lib.hid ho2
  clear ho2
  have hz2 := hb2.size
  (try simp only [World.size_alloc, World.size_setCell, World.size_drew] at hz2)
  have k2_0 := fun o => (bcell hb2).1 (w.heap.size) o (by first | (simp; done) | (simp; omega) | omega)
  have l2_0 : (w.heap.size) < w2.heap.size := (by omega)
  have q2_0 := fun o => (bcell hb2).2 (w.heap.size) o (by first | (simp; done) | (simp; omega) | omega)
  have k2_1 := fun o => (bcell hb2).1 (w.heap.size + 1) o (by first | (simp; done) | (simp; omega) | omega)
  have l2_1 : (w.heap.size + 1) < w2.heap.size := (by omega)
  have q2_1 := fun o => (bcell hb2).2 (w.heap.size + 1) o (by first | (simp; done) | (simp; omega) | omega)
  have k2_2 := fun o => (bcell hb2).1 (w.heap.size + 1 + 1) o (by first | (simp; done) | (simp; omega) | omega)
  have l2_2 : (w.heap.size + 1 + 1) < w2.heap.size := (by omega)
  have q2_2 := fun o => (bcell hb2).2 (w.heap.size + 1 + 1) o (by first | (simp; done) | (simp; omega) | omega)
  simp (maxDischargeDepth := 6) [go_sem, *] at k2_0 q2_0 k2_1 q2_1 k2_2 q2_2
  have HB2 := Lib.hid hb2
  clear hb2
  go_wp2_with fail
  refine (through_at xs _ _ b A2 n c2 (w.heap.size + 1) _ _ _ rb ra rf _ ?_ ?_ ?_ ?_ H0.out HCK.out HIN.out HT.out).mono ?_
  · unfold BrgAt
    simp (maxDischargeDepth := 8) [go_sem, *]
  · intro o
    simp (maxDischargeDepth := 8) [go_sem, *]
  · refine OwnL.lines (B := w1.heap.size) ?_
    (repeat (first | (with_reducible exact HO2.out) | (with_reducible refine OwnL.set ?_ (by first | (simp; done) | (simp; omega)) _)))
  · refine ints_now HX.out ?_
    (repeat (first | (with_reducible exact Below.refl _ _) | (with_reducible refine Below.drew ?_) | (with_reducible refine bdrewN ?_ _) | ((with_reducible refine Below.setCell ?_ ?_ _); rotate_left; exact (by first | (simp; done) | (simp; omega) | omega)) | ((with_reducible refine Below.alloc ?_ ?_ _); rotate_left; exact (by first | (simp; done) | (simp; omega) | omega)) | ((with_reducible refine Below.trans ?_ (HB2.out.mono ?_)); rotate_left; exact (by first | (simp; done) | (simp; omega) | omega)) | ((with_reducible refine Below.trans ?_ (HB1.out.mono ?_)); rotate_left; exact (by first | (simp; done) | (simp; omega) | omega))))
  rintro e w3 ⟨A3, n3, c3, rfl, hb3, hl3, ho3, hnw3⟩
  have HNW := Lib.hid (show ∀ ad, A3 = some ad → w.heap.size + 1 + 1 < ad.block from fun ad h => by
    rcases hnw3 ad h with h | h
    · have := own_ge HO2.out.2.2.2 _ (by rw [h]; rfl); omega
    · simp only [World.size_setCell] at h; omega)
  have HBW := Lib.hid ((by (repeat (first | (with_reducible exact Below.refl _ _) | (with_reducible refine Below.drew ?_) | (with_reducible refine bdrewN ?_ _) | ((with_reducible refine Below.setCell ?_ ?_ _); rotate_left; exact (by first | (simp; done) | (simp; omega) | omega)) | ((with_reducible refine Below.alloc ?_ ?_ _); rotate_left; exact (by first | (simp; done) | (simp; omega) | omega)) | ((with_reducible refine Below.trans ?_ (HB2.out.mono ?_)); rotate_left; exact (by first | (simp; done) | (simp; omega) | omega)) | ((with_reducible refine Below.trans ?_ (HB1.out.mono ?_)); rotate_left; exact (by first | (simp; done) | (simp; omega) | omega)))) : Below w.heap.size w _).trans (ho3.1.mono (by omega)))
  have hz3 := ho3.2.1
  simp only [World.size_setCell] at hz3
  have kr := fun o => ho3.2.2.1 (w.heap.size + 1 + 1) o (by omega) (by simp; omega)
  have qr := fun o => ho3.2.2.2 (w.heap.size + 1 + 1) o (by simp; omega)
  simp (maxDischargeDepth := 8) [go_sem, *] at kr qr
  have lr : w.heap.size + 1 + 1 < w3.heap.size := by omega
  obtain ⟨g0, g1, g2, g3, g4, g5, g6, g7, g8, g9, g10, g11⟩ := hb3
  have HL3 := Lib.hid hl3
  clear ho3 hl3 hnw3
  go_wp2
  refine bodyPost_ret (v := .tuple #[.agg #[.int .i64 rb.mode, .int .i64 rb.base, .slice A3 n3 c3, .int .i64 rb.orders.page, .int .i64 rb.orders.head, .int .i64 rb.orders.tail, .bool rb.stopped, .int .i64 rb.fences, .int .i64 rb.faults.page, .int .i64 rb.faults.head, .int .i64 rb.faults.tail, .bool rb.lost], .int .i64 ra, .int .i64 rf, .int .i64 0]) ?_ rfl ⟨A3, n3, c3, rfl, ?_, ?_, fun ad h => by have := HNW.out ad h; omega⟩
  · simp (maxDischargeDepth := 8) [results, Try.results41, go_sem, *]
  · have hq : ∀ ad, A3 = some ad → ad.block ≠ w.heap.size + 1 + 1 := fun ad h => Nat.ne_of_gt (HNW.out ad h)
    refine Lines.more (B := w3.heap.size) ?_ (by simp)
    repeat (first | (with_reducible exact HL3.out) | ((with_reducible refine lines_off ?_ ?_ _); rotate_left; exact hq))
  · (repeat (first | (with_reducible exact Below.refl _ _) | (with_reducible refine Below.drew ?_) | (with_reducible refine bdrewN ?_ _) | ((with_reducible refine Below.setCell ?_ ?_ _); rotate_left; exact (by first | (simp; done) | (simp; omega) | omega)) | ((with_reducible refine Below.alloc ?_ ?_ _); rotate_left; exact (by first | (simp; done) | (simp; omega) | omega))))
    exact HBW.out

theorem bridge_Through (xs : List Int) (m : Option Addr) (nm cm' : Nat) (b : Brg) (A : Option Addr) (n c : Nat) (d p : Int) (wr : Bool) (w : World) (hx : Ints w w.heap.size m nm xs) (hl : Lines w w.heap.size A n c b.cache) :
    Calls Try.prog 41 #[.agg #[.slice m nm cm'], .agg #[.int .i64 b.mode, .int .i64 b.base, .slice A n c, .int .i64 b.orders.page, .int .i64 b.orders.head, .int .i64 b.orders.tail, .bool b.stopped, .int .i64 b.fences, .int .i64 b.faults.page, .int .i64 b.faults.head, .int .i64 b.faults.tail, .bool b.lost], .int .i64 d, .int .i64 p, .bool wr] w (ThroughC w (thruA xs b d p wr) (thruE xs b d p)) := by
  by_cases hE : allE xs b = 0
  · by_cases hin : inD d p
    · obtain ⟨h0, hb⟩ := allE_inv hE
      have hn : nm = 512 := by rw [← hx.len]; exact (cm_inv h0).1
      subst hn
      have e : thruE xs b d p = 0 := by unfold thruE; rw [if_pos hE, if_pos hin]
      rw [e, show thruA xs b d p wr = thruM xs b d p wr by unfold thruA; rw [if_pos e]]
      exact Through_ok xs m cm' b A n c d p wr w hx hl h0 hb hin _ _ _ rfl
    · have e : thruE xs b d p = 4 := by unfold thruE; rw [if_pos hE, if_neg hin]
      rw [e, show thruA xs b d p wr = (.no, 0, 0) by unfold thruA; rw [if_neg (by rw [e]; decide)]]
      exact Through_no2 xs m nm cm' b A n c d p wr w hx hl hE hin
  · have e : thruE xs b d p = allE xs b := by unfold thruE; rw [if_neg hE]
    rw [e, show thruA xs b d p wr = (.no, 0, 0) by unfold thruA; rw [if_neg (by rw [e]; exact hE)]]
    exact Through_no1 xs m nm cm' b A n c d p wr w hx hl hE
end

section
theorem through_ans (xs : List Int) (m : Option Addr) (nm cm' : Nat) (b : Brg) (A : Option Addr) (n c : Nat) (d p : Int) (wr : Bool) (rb : Brg) (ra rf E : Int) (w : World) (hx : Ints w w.heap.size m nm xs) (hl : Lines w w.heap.size A n c b.cache) (hr : thruA xs b d p wr = (rb, ra, rf)) (hE : thruE xs b d p = E) :
    Calls Try.prog 41 #[.agg #[.slice m nm cm'], .agg #[.int .i64 b.mode, .int .i64 b.base, .slice A n c, .int .i64 b.orders.page, .int .i64 b.orders.head, .int .i64 b.orders.tail, .bool b.stopped, .int .i64 b.fences, .int .i64 b.faults.page, .int .i64 b.faults.head, .int .i64 b.faults.tail, .bool b.lost], .int .i64 d, .int .i64 p, .bool wr] w fun e w' => ∃ A' n' c', e = .returned (.tuple #[.agg #[.int .i64 rb.mode, .int .i64 rb.base, .slice A' n' c', .int .i64 rb.orders.page, .int .i64 rb.orders.head, .int .i64 rb.orders.tail, .bool rb.stopped, .int .i64 rb.fences, .int .i64 rb.faults.page, .int .i64 rb.faults.head, .int .i64 rb.faults.tail, .bool rb.lost], .int .i64 ra, .int .i64 rf, .int .i64 E]) ∧ Lines w' w'.heap.size A' n' c' rb.cache ∧ Below w.heap.size w w' ∧ ∀ ad, A' = some ad → w.heap.size ≤ ad.block := by
  have := bridge_Through xs m nm cm' b A n c d p wr w hx hl
  rw [hr, hE] at this
  exact this

set_option maxRecDepth 100000 in
set_option maxHeartbeats 4000000 in
theorem bridge_Plain (xs : List Int) (m : Option Addr) (nm cm' : Nat) (b : Brg) (A : Option Addr) (n c : Nat) (d p : Int) (wr : Bool) (rb : Brg) (ra rf E : Int) (w : World) (hx : Ints w w.heap.size m nm xs) (hr : thruA xs { b with cache := [] } d p wr = (rb, ra, rf)) (hE : thruE xs { b with cache := [] } d p = E) :
    Calls Try.prog 24 #[.agg #[.slice m nm cm'], .agg #[.int .i64 b.mode, .int .i64 b.base, .slice A n c, .int .i64 b.orders.page, .int .i64 b.orders.head, .int .i64 b.orders.tail, .bool b.stopped, .int .i64 b.fences, .int .i64 b.faults.page, .int .i64 b.faults.head, .int .i64 b.faults.tail, .bool b.lost], .int .i64 d, .int .i64 p, .bool wr] w fun e w' => e = .returned (.tuple #[.int .i64 ra, .int .i64 rf, .int .i64 E]) ∧ Below w.heap.size w w' := by
  have HX := Lib.hid hx
  have HR := Lib.hid hr
  have HE := Lib.hid hE
  clear hx hr hE
  go_enter Try.func24, Try.ntmps24
  go_wp2_with fail
  refine (through_ans xs _ _ _ { b with cache := [] } none 0 0 d p wr rb ra rf E _ ?_ (lines_none _ _) HR.out HE.out).mono ?_
  · refine ints_now HX.out ?_
    (repeat (first | (with_reducible exact Below.refl _ _) | (with_reducible refine Below.drew ?_) | (with_reducible refine bdrewN ?_ _) | ((with_reducible refine Below.setCell ?_ ?_ _); rotate_left; exact (by first | (simp; done) | (simp; omega) | omega)) | ((with_reducible refine Below.alloc ?_ ?_ _); rotate_left; exact (by first | (simp; done) | (simp; omega) | omega))))
  rintro e w1 ⟨A1, n1, c1, rfl, hl1, hb1, _⟩
  have hz1 := hb1.size
  (try simp only [World.size_alloc, World.size_setCell, World.size_drew] at hz1)
  have HB1 := Lib.hid hb1
  clear hb1
  clear hl1
  go_wp2
  go_ret3
  exact ⟨rfl, by (repeat (first | (with_reducible exact Below.refl _ _) | (with_reducible refine Below.drew ?_) | (with_reducible refine bdrewN ?_ _) | ((with_reducible refine Below.setCell ?_ ?_ _); rotate_left; exact (by first | (simp; done) | (simp; omega) | omega)) | ((with_reducible refine Below.alloc ?_ ?_ _); rotate_left; exact (by first | (simp; done) | (simp; omega) | omega)) | ((with_reducible refine Below.trans ?_ (HB1.out.mono ?_)); rotate_left; exact (by first | (simp; done) | (simp; omega) | omega))))⟩

def ringEq (r s : Ring) : Bool := r.page == s.page && r.head == s.head && r.tail == s.tail
end
end

section
/-- nothing but blocks g and g' has turned. -/
def Only2 (g g' : Nat) (w w' : World) : Prop :=
  w.heap.size ≤ w'.heap.size ∧ (∀ q o, q ≠ g → q ≠ g' → q < w.heap.size → w'.cell? ⟨q, o, none⟩ = w.cell? ⟨q, o, none⟩) ∧ ∀ q o, q < w.heap.size → w'.frozen? ⟨q, o, none⟩ = w.frozen? ⟨q, o, none⟩
theorem own_blk {w : World} {B size n : Nat} {e : TypeId} {A : Option Addr} {m c : Nat} {ys : List Value} (h : w.ownsRow B e size (.slice A m c) n ys) : ∀ ad, A = some ad → B ≤ ad.block ∧ ad.block < w.heap.size := by
  intro ad e
  rcases h.2 with ⟨hv, _⟩ | ⟨g, cap, cur, hv, hb, hg, _⟩
  · injection hv with h1; rw [h1] at e; cases e
  · injection hv with h1; rw [h1] at e; injection e with e; subst e
    refine ⟨hb, ?_⟩
    rcases Nat.lt_or_ge g w.heap.size with hlt | hge
    · exact hlt
    · rw [Array.getElem?_eq_none hge] at hg; cases hg
theorem o2_refl {g g' : Nat} (w : World) : Only2 g g' w w := ⟨Nat.le_refl _, fun _ _ _ _ _ => rfl, fun _ _ _ => rfl⟩
theorem o2_drew {g g' : Nat} {w W : World} (h : Only2 g g' w W) : Only2 g g' w W.drew := h
theorem o2_step {g g' : Nat} {w W W' : World} (hb : Below W.heap.size W W') (h : Only2 g g' w W) : Only2 g g' w W' :=
  ⟨Nat.le_trans h.1 hb.size, fun q o h1 h2 hl => (hb.cell (p := ⟨q, o, none⟩) (Nat.lt_of_lt_of_le hl h.1)).trans (h.2.1 q o h1 h2 hl), fun q o hl => (hb.frozen (p := ⟨q, o, none⟩) (Nat.lt_of_lt_of_le hl h.1)).trans (h.2.2 q o hl)⟩
theorem o2_set {g g' : Nat} {w W : World} {p : Addr} (h : Only2 g g' w W) (hp : p.block = g ∨ p.block = g') (u : Value) : Only2 g g' w (W.setCell p u) :=
  ⟨by have := h.1; simpa using this, fun q o h1 h2 hl => by
    rw [World.cell?_setCell_other _ _ _ _ (by intro e; have := congrArg Addr.block e; simp at this; omega)]; exact h.2.1 q o h1 h2 hl, fun q o hl => by
    rw [World.frozen?_setCell]; exact h.2.2 q o hl⟩
/-- but for some blocks all is as it was. -/
def Same3 (P : Nat → Prop) (w w' : World) : Prop := w.heap.size ≤ w'.heap.size ∧ ∀ q o, ¬ P q → q < w.heap.size → w'.cell? ⟨q, o, none⟩ = w.cell? ⟨q, o, none⟩
theorem sm_refl {P : Nat → Prop} (w : World) : Same3 P w w := ⟨Nat.le_refl _, fun _ _ _ _ => rfl⟩
theorem sm_drew {P : Nat → Prop} {w W : World} (h : Same3 P w W) : Same3 P w W.drew := h
theorem sm_set {P : Nat → Prop} {w W : World} {p : Addr} (h : Same3 P w W) (hp : P p.block) (u : Value) : Same3 P w (W.setCell p u) :=
  ⟨by have := h.1; simpa using this, fun q o h1 hl => by
    rw [World.cell?_setCell_other _ _ _ _ (by intro e; have := congrArg Addr.block e; simp at this; rw [← this] at h1; exact h1 hp)]; exact h.2 q o h1 hl⟩
theorem sm_ints {P : Nat → Prop} {w w' : World} {A : Option Addr} {k : Nat} {ys : List Int} (hx : Ints w w.heap.size A k ys) (ho : Same3 P w w') (hf : ∀ ad, A = some ad → ¬ P ad.block) : Ints w' w'.heap.size A k ys := by
  refine ⟨hx.1, hx.2.1, fun hn => ?_⟩
  obtain ⟨b, off, e, hb, hc⟩ := hx.2.2 hn
  exact ⟨b, off, e, Nat.lt_of_lt_of_le hb ho.1, fun j v hv => (ho.2 b _ (hf _ e) hb).trans (hc j v hv)⟩
theorem sm_lines {P : Nat → Prop} {w w' : World} {A : Option Addr} {k d : Nat} {ls : List Line} (hx : Lines w w.heap.size A k d ls) (ho : Same3 P w w') (hf : ∀ ad, A = some ad → ¬ P ad.block) : Lines w' w'.heap.size A k d ls := by
  obtain ⟨h1, h2, h3, h4, h5⟩ := hx
  refine ⟨h1, h2, h3, h4, fun h0 => ?_⟩
  obtain ⟨b, off, e, hb, hc⟩ := h5 h0
  exact ⟨b, off, e, Nat.lt_of_lt_of_le hb ho.1, fun j v hv => (ho.2 b _ (hf _ e) hb).trans (hc j v hv)⟩
theorem o2_same {g g' : Nat} {w w' : World} (h : Only2 g g' w w') : Same3 (fun q => q = g ∨ q = g') w w' := ⟨h.1, fun q o hq hl => h.2.1 q o (fun e => hq (Or.inl e)) (fun e => hq (Or.inr e)) hl⟩
theorem o2_lines {g g' : Nat} {w w' : World} {A : Option Addr} {k d : Nat} {ls : List Line} (hx : Lines w w.heap.size A k d ls) (ho : Only2 g g' w w') (hf : ∀ ad, A = some ad → ad.block ≠ g ∧ ad.block ≠ g') : Lines w' w'.heap.size A k d ls :=
  sm_lines hx (o2_same ho) (fun ad e h => h.elim (hf ad e).1 (hf ad e).2)
end
end Go.Proofs.Ytbopdijnojaaiad
