/- Rings: Push, Pop and the document's Pushed, Popped, each by one contract for good and bad asks alike. No statement of the seat is proved here. -/
import Derived.Test.YtbopdijnojaaiacRing
import Derived.Test.YtbopdijnojaaiacMemZ
import Derived.Test.YtbopdijnojaaiacBase
import Derived.RegionTactic
import Derived.Deep.RegionHeld3
import Derived.Deep.DrawnRows
namespace Go.Proofs.Ytbopdijnojaaiac
open Go.RowKit
set_option linter.unusedSimpArgs false
set_option linter.unusedVariables false

section
attribute [local go_sem ↓] Go.wp_at_zero Go.wp_at_succ

end

section
def pushL (xs : List Int) (r : Ring) (v : Int) : List Int := if pushE xs r v = 0 then pushX xs r v else []
def pushN (xs : List Int) (r : Ring) (v : Int) : Nat := if pushE xs r v = 0 then 512 else 0
def pushT (xs : List Int) (r : Ring) (v : Int) : Ring := if pushE xs r v = 0 then pushR r else Ring.no
def popW (xs : List Int) (r : Ring) : Int := if popE xs r = 0 then popV xs r else 0
def popT (xs : List Int) (r : Ring) : Ring := if popE xs r = 0 then popR r else Ring.no
theorem ints_none (w : World) (B : Nat) : Ints w B none 0 [] := ⟨rfl, by unfold maxLen; omega, Row.nil_⟩

def PushC (w : World) (xs : List Int) (r : Ring) (v : Int) (e : Ending) (w' : World) : Prop :=
  ∃ A c, e = .returned (.tuple #[.agg #[.slice A (pushN xs r v) c], .agg #[.int .i64 (pushT xs r v).page, .int .i64 (pushT xs r v).head, .int .i64 (pushT xs r v).tail], .int .i64 (pushE xs r v)]) ∧ Ints w' w'.heap.size A (pushN xs r v) (pushL xs r v) ∧ Below w.heap.size w w'
theorem any_Push (A : Option Addr) (n c : Nat) (xs : List Int) (p h t v : Int) (w : World) (hx : Ints w w.heap.size A n xs) :
    Calls Try.prog 92 #[.agg #[.slice A n c], .agg #[.int .i64 p, .int .i64 h, .int .i64 t], .int .i64 v] w (PushC w xs ⟨p, h, t⟩ v) := by
  by_cases hE : pushE xs ⟨p, h, t⟩ v = 0
  · refine (ring_Push A n c xs p h t v w hx hE).mono ?_
    rintro e w' ⟨A', c', rfl, ho, hb⟩
    refine ⟨A', c', ?_, ?_, hb⟩
    · simp only [pushN, pushT, if_pos hE]; rw [hE]; rfl
    · simp only [pushN, pushL, if_pos hE]; exact ho.ints (by decide)
  · refine (ring_Push_no A n c xs p h t v w hx hE).mono ?_
    rintro e w' ⟨rfl, hb⟩
    refine ⟨none, 0, ?_, ?_, hb⟩
    · simp only [pushN, pushT, if_neg hE]; rfl
    · simp only [pushN, pushL, if_neg hE]; exact ints_none _ _
theorem any_Pop (A : Option Addr) (n c : Nat) (xs : List Int) (p h t : Int) (w : World) (hx : Ints w w.heap.size A n xs) :
    Calls Try.prog 28 #[.agg #[.slice A n c], .agg #[.int .i64 p, .int .i64 h, .int .i64 t]] w fun e w' => e = .returned (.tuple #[.int .i64 (popW xs ⟨p, h, t⟩), .agg #[.int .i64 (popT xs ⟨p, h, t⟩).page, .int .i64 (popT xs ⟨p, h, t⟩).head, .int .i64 (popT xs ⟨p, h, t⟩).tail], .int .i64 (popE xs ⟨p, h, t⟩)]) ∧ Below w.heap.size w w' := by
  by_cases hE : popE xs ⟨p, h, t⟩ = 0
  · refine (ring_Pop A n c xs p h t w hx hE).mono ?_
    rintro e w' ⟨rfl, hb⟩
    refine ⟨?_, hb⟩
    simp only [popW, popT, if_pos hE]; rw [hE]; rfl
  · refine (ring_Pop_no A n c xs p h t w hx hE).mono ?_
    rintro e w' ⟨rfl, hb⟩
    refine ⟨?_, hb⟩
    simp only [popW, popT, if_neg hE]; rfl
end
end Go.Proofs.Ytbopdijnojaaiac
