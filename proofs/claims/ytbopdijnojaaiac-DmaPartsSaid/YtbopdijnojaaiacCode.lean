/- Instructions as words: what the program's and the document's functions of chapter 9 compute, and that they compute it. No statement of the seat is proved here. -/
import Derived.Test.YtbopdijnojaaiacProg
import Derived.Test.YtbopdijnojaaiacBits
import Derived.Test.YtbopdijnojaaiacSlices
namespace Go.Proofs.Ytbopdijnojaaiac
open Go.RowKit
set_option linter.unusedSimpArgs false
set_option linter.unusedVariables false

def InsR (k a b i : Int) : Prop := 0 ≤ k ∧ k ≤ 8 ∧ 0 ≤ a ∧ a < 8 ∧ 0 ≤ b ∧ b < 8 ∧ 0 ≤ i ∧ i ≤ 63
instance (k a b i : Int) : Decidable (InsR k a b i) := by unfold InsR; infer_instance
end Go.Proofs.Ytbopdijnojaaiac
