/- The hart: plain laws between the document's words and the program's. No program in sight, no statement of the seat is proved here. -/
import Derived.Test.YtbopdijnojaaiacBase
import Derived.Test.YtbopdijnojaaiacCode
namespace Go.Proofs.Ytbopdijnojaaiac
open Go.RowKit
set_option linter.unusedSimpArgs false
set_option linter.unusedVariables false

section
structure Hrt where
  at_ : Int
  regs : List Int
  done : Bool
def Hrt.no : Hrt := ⟨0, [], false⟩
theorem Hrt.ext' {x y : Hrt} (h1 : x.at_ = y.at_) (h2 : x.regs = y.regs) (h3 : x.done = y.done) : x = y := by
  cases x; cases y; simp only [] at *; subst h1; subst h2; subst h3; rfl
instance : DecidableEq Hrt := fun x y =>
  if h : x.at_ = y.at_ ∧ x.regs = y.regs ∧ x.done = y.done then isTrue (Hrt.ext' h.1 h.2.1 h.2.2) else isFalse (fun e => h (by subst e; exact ⟨rfl, rfl, rfl⟩))
end

section
section
variable {xs : List Int} {h : Hrt} {b : Brg}
end
end

section
end
end Go.Proofs.Ytbopdijnojaaiac
