/- The devices: what the laws' closed fact 'carried' comes to. No program in sight, no statement of the seat is proved here. -/
import Derived.Test.YtbopdijnojaaiacDmaP
import Derived.Test.YtbopdijnojaaiacCrossed
namespace Go.Proofs.Ytbopdijnojaaiac
open Go.RowKit
set_option linter.unusedSimpArgs false
set_option linter.unusedVariables false
def carM : List Int := ((tabM.set 78 4).set 79 5).set 328 4173
def carB : Brg := ⟨2, 1, [⟨1, 0, 9, true, true⟩], ⟨40, 0, 0⟩, false, 0, ⟨41, 0, 1⟩, false⟩
def carC : Brg := ⟨2, 1, [⟨1, 0, 9, true, true⟩, ⟨1, 1, 8, true, false⟩], ⟨40, 0, 0⟩, false, 0, ⟨41, 0, 1⟩, false⟩
def carA1 : Ask := ⟨1, 6, 3, true, [4, 5, 6]⟩
def carA2 : Ask := ⟨1, 6, 3, false, []⟩
def carT1 : Tld := ⟨false, [], 5, [⟨1, 6, 78, true, 4⟩, ⟨1, 7, 79, true, 5⟩]⟩
def carT2 : Tld := ⟨true, [4, 5, 0], 0, [⟨1, 6, 78, false, 4⟩, ⟨1, 7, 79, false, 5⟩, ⟨1, 8, 64, false, 0⟩]⟩
theorem car1 : dmaA tabM tabB carA1 = (carM, carB, carT1) := by kernel_rfl
theorem car1e : dmaE tabM tabB carA1 = 0 := by kernel_rfl
theorem car2 : dmaA carM carB carA2 = (carM, carC, carT2) := by kernel_rfl
theorem car2e : dmaE carM carB carA2 = 0 := by kernel_rfl
end Go.Proofs.Ytbopdijnojaaiac
