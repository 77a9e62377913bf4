/- The walk of the law HartSays, what the ways have in common. No statement of the seat is proved here. -/
import Derived.Test.YtbopdijnojaaiabLawRan
import Derived.Test.YtbopdijnojaaiabRefU
import Derived.Test.YtbopdijnojaaiabRefB
import Derived.Test.YtbopdijnojaaiabWh2
import Derived.Test.YtbopdijnojaaiabHart9
import Derived.Deep.RegionHeld3
import Derived.Deep.DrawnRows
import Derived.Deep.DeepCutAuto
namespace Go.Proofs.Ytbopdijnojaaiab
open Go.RowKit
set_option linter.unusedSimpArgs false
set_option linter.unusedVariables false
attribute [local go_sem ↓] Go.wp_at_zero Go.wp_at_succ

def HrtAt (w : World) (g : Nat) (h : Hrt) (A : Option Addr) (n c : Nat) : Prop := w.cell? ⟨g, 0, none⟩ = some (.int .i64 h.at_) ∧ w.cell? ⟨g, 1, none⟩ = some (.slice A n c) ∧ w.cell? ⟨g, 2, none⟩ = some (.bool h.done)
theorem hrt_since {w w' : World} {g : Nat} {h : Hrt} {A : Option Addr} {n c : Nat} (hh : HrtAt w g h A n c) (hs : Since w w') : HrtAt w' g h A n c :=
  ⟨since_cell hs hh.1, since_cell hs hh.2.1, since_cell hs hh.2.2⟩
theorem keep12 {w1 W : World} {g1 g2 g3 g4 : Nat} {h1 h2 h3 h4 : Hrt} {A1 A2 A3 A4 : Option Addr} {n1 n2 n3 n4 c1 c2 c3 c4 : Nat} (hs : Since w1 W) (k1 : HrtAt w1 g1 h1 A1 n1 c1) (k2 : HrtAt w1 g2 h2 A2 n2 c2) (k3 : HrtAt w1 g3 h3 A3 n3 c3) (k4 : HrtAt w1 g4 h4 A4 n4 c4) :
    W.cell? ⟨g1, 0, none⟩ = some (.int .i64 h1.at_) ∧ W.cell? ⟨g1, 1, none⟩ = some (.slice A1 n1 c1) ∧ W.cell? ⟨g1, 2, none⟩ = some (.bool h1.done) ∧ W.cell? ⟨g2, 0, none⟩ = some (.int .i64 h2.at_) ∧ W.cell? ⟨g2, 1, none⟩ = some (.slice A2 n2 c2) ∧ W.cell? ⟨g2, 2, none⟩ = some (.bool h2.done) ∧ W.cell? ⟨g3, 0, none⟩ = some (.int .i64 h3.at_) ∧ W.cell? ⟨g3, 1, none⟩ = some (.slice A3 n3 c3) ∧ W.cell? ⟨g3, 2, none⟩ = some (.bool h3.done) ∧ W.cell? ⟨g4, 0, none⟩ = some (.int .i64 h4.at_) ∧ W.cell? ⟨g4, 1, none⟩ = some (.slice A4 n4 c4) ∧ W.cell? ⟨g4, 2, none⟩ = some (.bool h4.done) ∧ Hid (Since w1 W) := by
  obtain ⟨x0, x1, x2⟩ := hrt_since k1 hs
  obtain ⟨y0, y1, y2⟩ := hrt_since k2 hs
  obtain ⟨z0, z1, z2⟩ := hrt_since k3 hs
  obtain ⟨t0, t1, t2⟩ := hrt_since k4 hs
  exact ⟨x0, x1, x2, y0, y1, y2, z0, z1, z2, t0, t1, t2, hs⟩
theorem since_12 {w1 W : World} {c0 c1 c2 c3 c4 c5 c6 c7 c8 c9 c10 c11 : Prop} (h : c0 ∧ c1 ∧ c2 ∧ c3 ∧ c4 ∧ c5 ∧ c6 ∧ c7 ∧ c8 ∧ c9 ∧ c10 ∧ c11 ∧ Hid (Since w1 W)) : Since w1 W := h.2.2.2.2.2.2.2.2.2.2.2.2
theorem same_meH (h : Hrt) : sameH h h = true := by simp [sameH]
theorem same_meB (b : Brg) : sameB b b = true := by simp [sameB]
theorem same_meI (l : List Int) : eqI l l = true := by simp [eqI]
theorem stepped_ans (xs : List Int) (at_ : Int) (rs : List Int) (b : Brg) (M R L : Option Addr) (mc rc n c : Nat) (w : World) (hm : Ints w w.heap.size M 512 xs) (hr : Ints w w.heap.size R 8 rs) (hl : Lines w w.heap.size L n c b.cache) (hE : stepE xs ⟨at_, rs, false⟩ b = 0) (ys : List Int) (ga : Int) (gr : List Int) (gd : Bool) (d : Brg) (he : stepM xs ⟨at_, rs, false⟩ b = (ys, ⟨ga, gr, gd⟩, d)) :
    Calls Try.prog 66 #[.agg #[.slice M 512 mc], .agg #[.int .i64 at_, .slice R 8 rc, .bool false], .agg #[.int .i64 b.mode, .int .i64 b.base, .slice L n c, .int .i64 b.orders.page, .int .i64 b.orders.head, .int .i64 b.orders.tail, .bool b.stopped, .int .i64 b.fences, .int .i64 b.faults.page, .int .i64 b.faults.head, .int .i64 b.faults.tail, .bool b.lost]] w fun e w' => ∃ A a P p Q q k, e = .returned (.tuple #[.agg #[.slice A 512 a], .agg #[.int .i64 ga, .slice P 8 p, .bool gd], .agg #[.int .i64 d.mode, .int .i64 d.base, .slice Q q k, .int .i64 d.orders.page, .int .i64 d.orders.head, .int .i64 d.orders.tail, .bool d.stopped, .int .i64 d.fences, .int .i64 d.faults.page, .int .i64 d.faults.head, .int .i64 d.faults.tail, .bool d.lost]]) ∧
      Ints w' w'.heap.size A 512 ys ∧ Ints w' w'.heap.size P 8 gr ∧ Lines w' w'.heap.size Q q k d.cache ∧ Below w.heap.size w w' := by
  obtain ⟨c1, c2, c3, -⟩ := stepE_inv hE
  have := ref_Stepped xs at_ rs b M R L mc rc n c w hm hr hl c1 c2 c3
  rw [he] at this
  exact this.mono (fun e w' ⟨A, d, P, p, h1, h2, h3, h4, h5, _⟩ => ⟨A, d, P, p, L, n, c, h1, h2, h3, h4, h5⟩)

theorem step_anyH (xs : List Int) (h : Hrt) (b : Brg) (M R L : Option Addr) (nm mc nr rc n c : Nat) (w : World) (hm : Ints w w.heap.size M nm xs) (hr : Ints w w.heap.size R nr h.regs) (hl : Lines w w.heap.size L n c b.cache) (ys : List Int) (g : Hrt) (d : Brg) (E : Int) (hE : stepE xs h b = E) (he : stepA xs h b = (ys, g, d)) :
    Calls Try.prog 50 #[.agg #[.slice M nm mc], .agg #[.int .i64 h.at_, .slice R nr rc, .bool h.done], .agg #[.int .i64 b.mode, .int .i64 b.base, .slice L n c, .int .i64 b.orders.page, .int .i64 b.orders.head, .int .i64 b.orders.tail, .bool b.stopped, .int .i64 b.fences, .int .i64 b.faults.page, .int .i64 b.faults.head, .int .i64 b.faults.tail, .bool b.lost]] w fun e w' => ∃ A na a P np p Q q k, e = .returned (.tuple #[.agg #[.slice A na a], .agg #[.int .i64 g.at_, .slice P np p, .bool g.done], .agg #[.int .i64 d.mode, .int .i64 d.base, .slice Q q k, .int .i64 d.orders.page, .int .i64 d.orders.head, .int .i64 d.orders.tail, .bool d.stopped, .int .i64 d.fences, .int .i64 d.faults.page, .int .i64 d.faults.head, .int .i64 d.faults.tail, .bool d.lost], .int .i64 E]) ∧
      Ints w' w'.heap.size A na ys ∧ Ints w' w'.heap.size P np g.regs ∧ Lines w' w'.heap.size Q q k d.cache ∧ Below w.heap.size w w' := by
  unfold stepA at he
  by_cases h0 : stepE xs h b = 0
  · rw [if_pos h0] at he
    rw [← hE, h0]
    exact (step_ok xs h b M R L nm mc nr rc n c w hm hr hl h0 ys g d he).mono fun e w' ⟨A, a, P, p, Q, q, k, h1, h2, h3, h4, h5, _⟩ => ⟨A, 512, a, P, 8, p, Q, q, k, h1, h2, h3, h4, h5⟩
  · rw [if_neg h0] at he
    injection he with e1 e2
    injection e2 with e2 e3
    subst e1 e2 e3
    rw [← hE]
    exact (step_not xs h b M R L nm mc nr rc n c w hm hr hl h0).mono fun e w' ⟨h1, h2⟩ => ⟨none, 0, 0, none, 0, 0, none, 0, 0, h1, ⟨rfl, by unfold maxLen; omega, Row.nil_⟩, ⟨rfl, by unfold maxLen; omega, Row.nil_⟩, lines_none _ _, h2⟩
end Go.Proofs.Ytbopdijnojaaiab
