/- The hart: Step, whatever is given. No statement of the seat is proved here. -/
import Derived.Test.YtbopdijnojaaiabHart8
import Derived.Test.YtbopdijnojaaiabHartQ
namespace Go.Proofs.Ytbopdijnojaaiab
open Go.RowKit
set_option linter.unusedSimpArgs false
set_option linter.unusedVariables false

/-- a step is made. -/
theorem step_ok (xs : List Int) (h : Hrt) (b : Brg) (M R L : Option Addr) (nm mc nr rc n c : Nat) (w : World) (hm : Ints w w.heap.size M nm xs) (hr : Ints w w.heap.size R nr h.regs) (hl : Lines w w.heap.size L n c b.cache) (hE : stepE xs h b = 0) (ys : List Int) (g : Hrt) (d : Brg) (he : stepM xs h b = (ys, g, d)) :
    Calls Try.prog 50 #[.agg #[.slice M nm mc], .agg #[.int .i64 h.at_, .slice R nr rc, .bool h.done], .agg #[.int .i64 b.mode, .int .i64 b.base, .slice L n c, .int .i64 b.orders.page, .int .i64 b.orders.head, .int .i64 b.orders.tail, .bool b.stopped, .int .i64 b.fences, .int .i64 b.faults.page, .int .i64 b.faults.head, .int .i64 b.faults.tail, .bool b.lost]] w fun e w' => ∃ A a P p Q q k, e = .returned (.tuple #[.agg #[.slice A 512 a], .agg #[.int .i64 g.at_, .slice P 8 p, .bool g.done], .agg #[.int .i64 d.mode, .int .i64 d.base, .slice Q q k, .int .i64 d.orders.page, .int .i64 d.orders.head, .int .i64 d.orders.tail, .bool d.stopped, .int .i64 d.fences, .int .i64 d.faults.page, .int .i64 d.faults.head, .int .i64 d.faults.tail, .bool d.lost], .int .i64 0]) ∧
      Ints w' w'.heap.size A 512 ys ∧ Ints w' w'.heap.size P 8 g.regs ∧ Lines w' w'.heap.size Q q k d.cache ∧ Below w.heap.size w w' ∧ (∀ ad, A = some ad → w.heap.size ≤ ad.block) ∧ (∀ ad, P = some ad → w.heap.size ≤ ad.block) ∧ ∀ ad, Q = some ad → w.heap.size ≤ ad.block := by
  obtain ⟨c1, c2, c3, c4⟩ := stepE_inv hE
  have n1 : nm = 512 := by rw [← hm.len]; exact (cm_inv c1).1
  have n2 : nr = 8 := by rw [← hr.len]; exact (ckH_inv c2).1
  subst n1 n2
  obtain ⟨at_, rs, dn⟩ := h
  simp only [] at c4
  subst c4
  have := step_do xs at_ rs b M R L mc rc n c w hm hr hl c1 c2 c3
  rw [he] at this
  exact this
/-- a step is refused. -/
theorem step_not (xs : List Int) (h : Hrt) (b : Brg) (M R L : Option Addr) (nm mc nr rc n c : Nat) (w : World) (hm : Ints w w.heap.size M nm xs) (hr : Ints w w.heap.size R nr h.regs) (hl : Lines w w.heap.size L n c b.cache) (hE : stepE xs h b ≠ 0) :
    Calls Try.prog 50 #[.agg #[.slice M nm mc], .agg #[.int .i64 h.at_, .slice R nr rc, .bool h.done], .agg #[.int .i64 b.mode, .int .i64 b.base, .slice L n c, .int .i64 b.orders.page, .int .i64 b.orders.head, .int .i64 b.orders.tail, .bool b.stopped, .int .i64 b.fences, .int .i64 b.faults.page, .int .i64 b.faults.head, .int .i64 b.faults.tail, .bool b.lost]] w fun e w' => e = .returned (.tuple #[.agg #[.slice none 0 0], .agg #[.int .i64 0, .slice none 0 0, .bool false], .agg #[.int .i64 Brg.no.mode, .int .i64 Brg.no.base, .slice none 0 0, .int .i64 Brg.no.orders.page, .int .i64 Brg.no.orders.head, .int .i64 Brg.no.orders.tail, .bool Brg.no.stopped, .int .i64 Brg.no.fences, .int .i64 Brg.no.faults.page, .int .i64 Brg.no.faults.head, .int .i64 Brg.no.faults.tail, .bool Brg.no.lost], .int .i64 (stepE xs h b)]) ∧ Below w.heap.size w w' := by
  by_cases c1 : cm xs = 0
  · by_cases c2 : ckH h = 0
    · by_cases c3 : ckB b = 0
      · have e : h.done = true := by
          cases hd : h.done with
          | true => rfl
          | false => exact absurd (by unfold stepE; rw [if_pos c1, if_pos c2, if_pos c3, hd]; rfl) hE
        rw [show stepE xs h b = 6 by unfold stepE; rw [if_pos c1, if_pos c2, if_pos c3, e]; rfl, e]
        exact step_no4 xs h b M R L nm mc nr rc n c w hm hr hl c1 c2 c3
      · rw [show stepE xs h b = ckB b by unfold stepE; rw [if_pos c1, if_pos c2, if_neg c3]]
        exact step_no3 xs h b M R L nm mc nr rc n c w hm hr hl c1 c2 c3
    · rw [show stepE xs h b = ckH h by unfold stepE; rw [if_pos c1, if_neg c2]]
      exact step_no2 xs h b M R L nm mc nr rc n c w hm hr c1 c2
  · rw [show stepE xs h b = cm xs by unfold stepE; rw [if_neg c1]]
    exact step_no1 xs h b M R L nm mc nr rc n c w hm c1
end Go.Proofs.Ytbopdijnojaaiab
