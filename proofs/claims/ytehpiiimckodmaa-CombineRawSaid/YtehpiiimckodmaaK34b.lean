/- The example of chapter 34 is true: evaluated. -/
import Derived.Test.YtehpiiimckodmaaK34a
set_option linter.unusedVariables false
set_option linter.unusedSimpArgs false
section
namespace Go.Ev.K34
open Go
theorem ev : saysQ cprog 1000000 20 = true := by kernel_rfl
theorem mixed : Go.Proofs.Try.prog.follows .mixedOrders = true := by kernel_rfl
theorem known (w : World) : Calls Go.Proofs.Try.prog 20 #[] w fun e w' => e = .returned (.bool true) ∧ Go.RowKit.Below w.heap.size w w' := saysQ_true mixed cprog_ok ev w
end Go.Ev.K34
end
