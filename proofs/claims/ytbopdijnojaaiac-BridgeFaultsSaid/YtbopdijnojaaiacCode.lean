/- Instructions as words: what the program's and the document's functions of chapter 9 compute, and that they compute it. No statement of the seat is proved here. -/
import Derived.Test.YtbopdijnojaaiacProg
import Derived.Test.YtbopdijnojaaiacBits
import Derived.Test.YtbopdijnojaaiacSlices
namespace Go.Proofs.Ytbopdijnojaaiac
open Go.RowKit
set_option linter.unusedSimpArgs false
set_option linter.unusedVariables false

def usesA (k : Int) : Bool := k == 1 || k == 3 || k == 7 || k == 8 || k == 2 || k == 4 || k == 5 || k == 6
def usesB (k : Int) : Bool := k == 2 || k == 4 || k == 5 || k == 6
def usesI (k : Int) : Bool := k == 1 || k == 3 || k == 7 || k == 8 || k == 4 || k == 5 || k == 6
def InsR (k a b i : Int) : Prop := 0 ≤ k ∧ k ≤ 8 ∧ 0 ≤ a ∧ a < 8 ∧ 0 ≤ b ∧ b < 8 ∧ 0 ≤ i ∧ i ≤ 63
def insF (k a b i : Int) : Bool := (usesA k || a == 0) && (usesB k || b == 0) && (usesI k || i == 0)
instance (k a b i : Int) : Decidable (InsR k a b i) := by unfold InsR; infer_instance
def insE (k a b i : Int) : Int := if InsR k a b i then (if insF k a b i then 0 else 3) else 2
def rdE (v : Int) : Int := if 0 ≤ v ∧ v ≤ 65535 then (if insE (v / 4096) (v / 512 % 8) (v / 64 % 8) (v % 64) = 0 then 0 else 3) else 2
def rdF (v x : Int) : Int := if rdE v = 0 then x else 0
end Go.Proofs.Ytbopdijnojaaiac
