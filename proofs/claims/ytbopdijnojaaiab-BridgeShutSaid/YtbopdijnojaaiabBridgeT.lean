/- The bridge: the walk of the program's through, which has a pointer to a bridge. No statement of the seat is proved here. -/
import Derived.Test.YtbopdijnojaaiabBridgeC
import Derived.Test.YtbopdijnojaaiabFillZ
import Derived.Deep.RegionHeld3
import Derived.Deep.DrawnRows
namespace Go.Proofs.Ytbopdijnojaaiab
open Go.RowKit
set_option linter.unusedSimpArgs false
set_option linter.unusedVariables false
attribute [local go_sem ↓] Go.wp_at_zero Go.wp_at_succ

/-- block g holds a bridge. -/
def BrgAt (w : World) (g : Nat) (b : Brg) (A : Option Addr) (n c : Nat) : Prop :=
  w.cell? ⟨g, 0, none⟩ = some (.int .i64 b.mode) ∧ w.cell? ⟨g, 1, none⟩ = some (.int .i64 b.base) ∧ w.cell? ⟨g, 2, none⟩ = some (.slice A n c) ∧
  w.cell? ⟨g, 3, none⟩ = some (.int .i64 b.orders.page) ∧ w.cell? ⟨g, 4, none⟩ = some (.int .i64 b.orders.head) ∧ w.cell? ⟨g, 5, none⟩ = some (.int .i64 b.orders.tail) ∧
  w.cell? ⟨g, 6, none⟩ = some (.bool b.stopped) ∧ w.cell? ⟨g, 7, none⟩ = some (.int .i64 b.fences) ∧
  w.cell? ⟨g, 8, none⟩ = some (.int .i64 b.faults.page) ∧ w.cell? ⟨g, 9, none⟩ = some (.int .i64 b.faults.head) ∧ w.cell? ⟨g, 10, none⟩ = some (.int .i64 b.faults.tail) ∧ w.cell? ⟨g, 11, none⟩ = some (.bool b.lost)
theorem brg_since {w w' : World} {g : Nat} {b : Brg} {A : Option Addr} {n c : Nat} (h : BrgAt w g b A n c) (hs : Since w w') : BrgAt w' g b A n c := by
  obtain ⟨h0, h1, h2, h3, h4, h5, h6, h7, h8, h9, h10, h11⟩ := h
  exact ⟨since_cell hs h0, since_cell hs h1, since_cell hs h2, since_cell hs h3, since_cell hs h4, since_cell hs h5, since_cell hs h6, since_cell hs h7, since_cell hs h8, since_cell hs h9, since_cell hs h10, since_cell hs h11⟩
theorem brg_lt {w : World} {g : Nat} {b : Brg} {A : Option Addr} {n c : Nat} (h : BrgAt w g b A n c) : g < w.heap.size := cell_lt' h.1
/-- nothing but block g has turned. -/
def Only (g : Nat) (w w' : World) : Prop :=
  Below g w w' ∧ w.heap.size ≤ w'.heap.size ∧ (∀ q o, q ≠ g → q < w.heap.size → w'.cell? ⟨q, o, none⟩ = w.cell? ⟨q, o, none⟩) ∧ ∀ q o, q < w.heap.size → w'.frozen? ⟨q, o, none⟩ = w.frozen? ⟨q, o, none⟩
theorem only_since {g : Nat} {w w' : World} (hg : g < w.heap.size) (h : Since w w') : Only g w w' :=
  ⟨Below.mono h (Nat.le_of_lt hg), h.size, fun q o _ hq => Below.cell (p := ⟨q, o, none⟩) h hq, fun q o hq => Below.frozen (p := ⟨q, o, none⟩) h hq⟩
/-- a slice that was, or lies in memory made since. -/
def NewIn (w : World) (A A' : Option Addr) : Prop := ∀ ad, A' = some ad → A = some ad ∨ w.heap.size ≤ ad.block
theorem new_same (w : World) (A : Option Addr) : NewIn w A A := fun _ h => Or.inl h
/-- what 'through' leaves. -/
def ThruC (g : Nat) (A0 : Option Addr) (w : World) (r : Brg × Int × Int) (e : Ending) (w' : World) : Prop :=
  ∃ A n c, e = .returned (.tuple #[.int .i64 r.2.1, .int .i64 r.2.2]) ∧ BrgAt w' g r.1 A n c ∧ Lines w' w'.heap.size A n c r.1.cache ∧ Only g w w' ∧ NewIn w A0 A

set_option maxRecDepth 100000 in
set_option maxHeartbeats 4000000 in
theorem through_shut (xs : List Int) (m : Option Addr) (cm' : Nat) (b : Brg) (A : Option Addr) (n c g : Nat) (d p : Int) (wr : Bool) (w : World) (hb : BrgAt w g b A n c) (hl : Lines w w.heap.size A n c b.cache) (hm : b.mode = 0) :
    Calls Try.prog 97 #[.agg #[.slice m 512 cm'], .pointer (some ⟨g, 0, none⟩), .int .i64 d, .int .i64 p, .bool wr] w (ThruC g A w (b, 0, 1)) := by
  have HB := Lib.hid hb
  have HL := Lib.hid hl
  have hg := brg_lt hb
  have h0 := hb.1
  rw [hm] at h0
  have S0 := Lib.hid (since_alloc (since_refl w))
  clear hb hl hm
  go_enter Try.func97, Try.ntmps97
  go_wp2
  go_ret2
  exact ⟨A, n, c, rfl, brg_since HB.out (S0.out _), (HL.out.alloc (Nat.le_refl _) _).more (by simp), only_since hg (S0.out _), new_same _ _⟩
set_option maxRecDepth 100000 in
set_option maxHeartbeats 4000000 in
theorem through_bare (xs : List Int) (m : Option Addr) (cm' : Nat) (b : Brg) (A : Option Addr) (n c g : Nat) (d p : Int) (wr : Bool) (w : World) (hb : BrgAt w g b A n c) (hl : Lines w w.heap.size A n c b.cache) (hm : b.mode = 1) :
    Calls Try.prog 97 #[.agg #[.slice m 512 cm'], .pointer (some ⟨g, 0, none⟩), .int .i64 d, .int .i64 p, .bool wr] w (ThruC g A w (b, p, 0)) := by
  have HB := Lib.hid hb
  have HL := Lib.hid hl
  have hg := brg_lt hb
  have h0 := hb.1
  rw [hm] at h0
  have S0 := Lib.hid (since_alloc (since_refl w))
  clear hb hl hm
  go_enter Try.func97, Try.ntmps97
  go_wp2
  go_ret2
  exact ⟨A, n, c, rfl, brg_since HB.out (S0.out _), (HL.out.alloc (Nat.le_refl _) _).more (by simp), only_since hg (S0.out _), new_same _ _⟩
set_option maxRecDepth 100000 in
set_option maxHeartbeats 4000000 in
theorem through_found0 (xs : List Int) (m : Option Addr) (cm' : Nat) (b : Brg) (A : Option Addr) (n c g : Nat) (d p : Int) (wr : Bool) (w : World) (hb : BrgAt w g b A n c) (hl : Lines w w.heap.size A n c b.cache) (hm : b.mode = 2) (k : Nat) (x : Line) (hf : findL b.cache d p = (k : Int)) (hk : b.cache[k]? = some x) (hw : wr = true) (hx : x.wr = false) :
    Calls Try.prog 97 #[.agg #[.slice m 512 cm'], .pointer (some ⟨g, 0, none⟩), .int .i64 d, .int .i64 p, .bool wr] w (ThruC g A w (b, 0, 5)) := by
  have HB := Lib.hid hb
  have HL := Lib.hid hl
  have HF := Lib.hid hf
  have hg := brg_lt hb
  have h0 := hb.1
  rw [hm] at h0
  have h2 := hb.2.2.1
  have hkn : k < n := by rw [← hl.len]; exact (List.getElem?_eq_some_iff.1 hk).1
  obtain ⟨q, off, rfl, hq, hc⟩ := hl.at_ (by omega)
  obtain ⟨e0, e1, e2, e3, e4⟩ := hc k x hk
  have S0 := Lib.hid (since_alloc (since_refl w))
  have i0 : (0 : Int) ≤ (k : Int) := by omega
  have i1 : (k : Int) < (n : Int) := by omega
  have t1 : decide ((0 : Int) ≤ (k : Int)) = true := by simp
  subst hw
  rw [hx] at e4
  clear hx
  clear hb hl hm hf hc hk
  go_enter Try.func97, Try.ntmps97
  go_wp2_with fail
  refine (cache_Find _ _ _ b.cache d p _ ((HL.out.alloc (Nat.le_refl _) _).more (by simp))).mono ?_
  rw [HF.out]
  rintro e w1 ⟨rfl, hb1⟩
  have hz1 := hb1.size
  (try simp only [World.size_alloc, World.size_setCell, World.size_drew] at hz1)
  have k1_0 := fun o => (bcell hb1).1 (g) o (by first | (simp; done) | (simp; omega) | omega)
  have l1_0 : (g) < w1.heap.size := (by omega)
  have q1_0 := fun o => (bcell hb1).2 (g) o (by first | (simp; done) | (simp; omega) | omega)
  have k1_1 := fun o => (bcell hb1).1 (q) o (by first | (simp; done) | (simp; omega) | omega)
  have l1_1 : (q) < w1.heap.size := (by omega)
  have q1_1 := fun o => (bcell hb1).2 (q) o (by first | (simp; done) | (simp; omega) | omega)
  simp (maxDischargeDepth := 6) [go_sem, *] at k1_0 q1_0 k1_1 q1_1
  have HB1 := Lib.hid hb1
  clear hb1
  go_wp2
  go_ret2
  have S1 := since_step HB1.out (S0.out _)
  exact ⟨_, n, c, rfl, brg_since HB.out S1, (HL.out.below S1).more S1.size, only_since hg S1, new_same _ _⟩
set_option maxRecDepth 100000 in
set_option maxHeartbeats 4000000 in
theorem through_found1 (xs : List Int) (m : Option Addr) (cm' : Nat) (b : Brg) (A : Option Addr) (n c g : Nat) (d p : Int) (wr : Bool) (w : World) (hb : BrgAt w g b A n c) (hl : Lines w w.heap.size A n c b.cache) (hm : b.mode = 2) (k : Nat) (x : Line) (hf : findL b.cache d p = (k : Int)) (hk : b.cache[k]? = some x) (hw : wr = false) :
    Calls Try.prog 97 #[.agg #[.slice m 512 cm'], .pointer (some ⟨g, 0, none⟩), .int .i64 d, .int .i64 p, .bool wr] w (ThruC g A w (b, x.at_, 0)) := by
  have HB := Lib.hid hb
  have HL := Lib.hid hl
  have HF := Lib.hid hf
  have hg := brg_lt hb
  have h0 := hb.1
  rw [hm] at h0
  have h2 := hb.2.2.1
  have hkn : k < n := by rw [← hl.len]; exact (List.getElem?_eq_some_iff.1 hk).1
  obtain ⟨q, off, rfl, hq, hc⟩ := hl.at_ (by omega)
  obtain ⟨e0, e1, e2, e3, e4⟩ := hc k x hk
  have S0 := Lib.hid (since_alloc (since_refl w))
  have i0 : (0 : Int) ≤ (k : Int) := by omega
  have i1 : (k : Int) < (n : Int) := by omega
  have t1 : decide ((0 : Int) ≤ (k : Int)) = true := by simp
  subst hw
  clear hb hl hm hf hc hk
  go_enter Try.func97, Try.ntmps97
  go_wp2_with fail
  refine (cache_Find _ _ _ b.cache d p _ ((HL.out.alloc (Nat.le_refl _) _).more (by simp))).mono ?_
  rw [HF.out]
  rintro e w1 ⟨rfl, hb1⟩
  have hz1 := hb1.size
  (try simp only [World.size_alloc, World.size_setCell, World.size_drew] at hz1)
  have k1_0 := fun o => (bcell hb1).1 (g) o (by first | (simp; done) | (simp; omega) | omega)
  have l1_0 : (g) < w1.heap.size := (by omega)
  have q1_0 := fun o => (bcell hb1).2 (g) o (by first | (simp; done) | (simp; omega) | omega)
  have k1_1 := fun o => (bcell hb1).1 (q) o (by first | (simp; done) | (simp; omega) | omega)
  have l1_1 : (q) < w1.heap.size := (by omega)
  have q1_1 := fun o => (bcell hb1).2 (q) o (by first | (simp; done) | (simp; omega) | omega)
  simp (maxDischargeDepth := 6) [go_sem, *] at k1_0 q1_0 k1_1 q1_1
  have HB1 := Lib.hid hb1
  clear hb1
  go_wp2
  go_ret2
  have S1 := since_step HB1.out (S0.out _)
  exact ⟨_, n, c, rfl, brg_since HB.out S1, (HL.out.below S1).more S1.size, only_since hg S1, new_same _ _⟩
set_option maxRecDepth 100000 in
set_option maxHeartbeats 4000000 in
theorem through_found2 (xs : List Int) (m : Option Addr) (cm' : Nat) (b : Brg) (A : Option Addr) (n c g : Nat) (d p : Int) (wr : Bool) (w : World) (hb : BrgAt w g b A n c) (hl : Lines w w.heap.size A n c b.cache) (hm : b.mode = 2) (k : Nat) (x : Line) (hf : findL b.cache d p = (k : Int)) (hk : b.cache[k]? = some x) (hw : wr = true) (hx : x.wr = true) :
    Calls Try.prog 97 #[.agg #[.slice m 512 cm'], .pointer (some ⟨g, 0, none⟩), .int .i64 d, .int .i64 p, .bool wr] w (ThruC g A w (b, x.at_, 0)) := by
  have HB := Lib.hid hb
  have HL := Lib.hid hl
  have HF := Lib.hid hf
  have hg := brg_lt hb
  have h0 := hb.1
  rw [hm] at h0
  have h2 := hb.2.2.1
  have hkn : k < n := by rw [← hl.len]; exact (List.getElem?_eq_some_iff.1 hk).1
  obtain ⟨q, off, rfl, hq, hc⟩ := hl.at_ (by omega)
  obtain ⟨e0, e1, e2, e3, e4⟩ := hc k x hk
  have S0 := Lib.hid (since_alloc (since_refl w))
  have i0 : (0 : Int) ≤ (k : Int) := by omega
  have i1 : (k : Int) < (n : Int) := by omega
  have t1 : decide ((0 : Int) ≤ (k : Int)) = true := by simp
  subst hw
  rw [hx] at e4
  clear hx
  clear hb hl hm hf hc hk
  go_enter Try.func97, Try.ntmps97
  go_wp2_with fail
  refine (cache_Find _ _ _ b.cache d p _ ((HL.out.alloc (Nat.le_refl _) _).more (by simp))).mono ?_
  rw [HF.out]
  rintro e w1 ⟨rfl, hb1⟩
  have hz1 := hb1.size
  (try simp only [World.size_alloc, World.size_setCell, World.size_drew] at hz1)
  have k1_0 := fun o => (bcell hb1).1 (g) o (by first | (simp; done) | (simp; omega) | omega)
  have l1_0 : (g) < w1.heap.size := (by omega)
  have q1_0 := fun o => (bcell hb1).2 (g) o (by first | (simp; done) | (simp; omega) | omega)
  have k1_1 := fun o => (bcell hb1).1 (q) o (by first | (simp; done) | (simp; omega) | omega)
  have l1_1 : (q) < w1.heap.size := (by omega)
  have q1_1 := fun o => (bcell hb1).2 (q) o (by first | (simp; done) | (simp; omega) | omega)
  simp (maxDischargeDepth := 6) [go_sem, *] at k1_0 q1_0 k1_1 q1_1
  have HB1 := Lib.hid hb1
  clear hb1
  go_wp2
  go_ret2
  have S1 := since_step HB1.out (S0.out _)
  exact ⟨_, n, c, rfl, brg_since HB.out S1, (HL.out.below S1).more S1.size, only_since hg S1, new_same _ _⟩
end Go.Proofs.Ytbopdijnojaaiab
