/-
  vm.Exec of a handler that does not end: a stage.
  Conditions: none.
-/
import Derived.Test.YtdjpkhjaibdogaaGreatXA
namespace Go.Proofs.YtdjpkhjaibdogaaGreat
open Go Go.SX
set_option linter.unusedSimpArgs false
set_option linter.unusedVariables false
set_option maxRecDepth 100000
set_option maxHeartbeats 80000000
theorem to2 (p : Int) : runTo Tryz.prog eX 2250 (pis bX kX2) (sX2 p) = some (pis bX kX3, sX3 p) := by kernel_rfl
end Go.Proofs.YtdjpkhjaibdogaaGreat
