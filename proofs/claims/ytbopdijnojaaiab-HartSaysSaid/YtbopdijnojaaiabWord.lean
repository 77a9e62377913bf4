/- Orders and faults as words: the walks of ReadOrder and ReadFault. No statement of the seat is proved here. -/
import Derived.Test.YtbopdijnojaaiabProg
import Derived.Test.YtbopdijnojaaiabBits
import Derived.Test.YtbopdijnojaaiabSlices
import Derived.Test.YtbopdijnojaaiabBase
namespace Go.Proofs.Ytbopdijnojaaiab
open Go.RowKit
set_option linter.unusedSimpArgs false
set_option linter.unusedVariables false

section
section
def OrdR (k d p : Int) : Prop := 0 ≤ k ∧ k ≤ 3 ∧ 0 ≤ d ∧ d < 8 ∧ 0 ≤ p ∧ p < 64
def OrdF (k d p : Int) : Prop := (k < 2 → d = 0) ∧ (k < 3 → p = 0)
instance (k d p : Int) : Decidable (OrdR k d p) := by unfold OrdR; infer_instance
instance (k d p : Int) : Decidable (OrdF k d p) := by unfold OrdF; infer_instance
def FltR (c d p : Int) : Prop := 1 ≤ c ∧ c ≤ 5 ∧ 0 ≤ d ∧ d < 8 ∧ 0 ≤ p ∧ p < 64
instance (c d p : Int) : Decidable (FltR c d p) := by unfold FltR; infer_instance
def fltE (c d p : Int) : Int := if FltR c d p then 0 else 2
def fltW (c d p : Int) (r : Bool) : Int := if fltE c d p = 0 then c + 8 * d + 64 * p + (if r then 4096 else 0) else 0
end

section
structure Flt where
  cause : Int
  dev : Int
  page : Int
  wr : Bool
theorem Flt.ext' {x y : Flt} (h1 : x.cause = y.cause) (h2 : x.dev = y.dev) (h3 : x.page = y.page) (h4 : x.wr = y.wr) : x = y := by
  cases x; cases y; simp only [] at *; subst h1; subst h2; subst h3; subst h4; rfl
instance : DecidableEq Flt := fun x y =>
  if h : x.cause = y.cause ∧ x.dev = y.dev ∧ x.page = y.page ∧ x.wr = y.wr then isTrue (Flt.ext' h.1 h.2.1 h.2.2.1 h.2.2.2) else isFalse (fun e => h (by subst e; exact ⟨rfl, rfl, rfl, rfl⟩))
def Flt.e (f : Flt) : Int := fltE f.cause f.dev f.page
def Flt.w (f : Flt) : Int := fltW f.cause f.dev f.page f.wr
end
end

section
section
end

section
end
end
end Go.Proofs.Ytbopdijnojaaiab
