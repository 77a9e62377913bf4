/- Rings: Push, Pop and the document's Pushed, Popped, each by one contract for good and bad asks alike. No statement of the seat is proved here. -/
import Derived.Test.YtbopdijnojaaiadRing
import Derived.Test.YtbopdijnojaaiadMemZ
import Derived.Test.YtbopdijnojaaiadBase
import Derived.RegionTactic
import Derived.Deep.RegionHeld3
import Derived.Deep.DrawnRows
namespace Go.Proofs.Ytbopdijnojaaiad
open Go.RowKit
set_option linter.unusedSimpArgs false
set_option linter.unusedVariables false

section
attribute [local go_sem ↓] Go.wp_at_zero Go.wp_at_succ

end

section
def popW (xs : List Int) (r : Ring) : Int := if popE xs r = 0 then popV xs r else 0
def popT (xs : List Int) (r : Ring) : Ring := if popE xs r = 0 then popR r else Ring.no
theorem any_Pop (A : Option Addr) (n c : Nat) (xs : List Int) (p h t : Int) (w : World) (hx : Ints w w.heap.size A n xs) :
    Calls Try.prog 28 #[.agg #[.slice A n c], .agg #[.int .i64 p, .int .i64 h, .int .i64 t]] w fun e w' => e = .returned (.tuple #[.int .i64 (popW xs ⟨p, h, t⟩), .agg #[.int .i64 (popT xs ⟨p, h, t⟩).page, .int .i64 (popT xs ⟨p, h, t⟩).head, .int .i64 (popT xs ⟨p, h, t⟩).tail], .int .i64 (popE xs ⟨p, h, t⟩)]) ∧ Below w.heap.size w w' := by
  by_cases hE : popE xs ⟨p, h, t⟩ = 0
  · refine (ring_Pop A n c xs p h t w hx hE).mono ?_
    rintro e w' ⟨rfl, hb⟩
    refine ⟨?_, hb⟩
    simp only [popW, popT, if_pos hE]; rw [hE]; rfl
  · refine (ring_Pop_no A n c xs p h t w hx hE).mono ?_
    rintro e w' ⟨rfl, hb⟩
    refine ⟨?_, hb⟩
    simp only [popW, popT, if_neg hE]; rfl
end
end Go.Proofs.Ytbopdijnojaaiad
