/-
  vm.Exec of a handler that does not end: a stage.
  Conditions: none.
-/
import Derived.Test.YtdjpkhjaibdogaaGreatXA
namespace Go.Proofs.YtdjpkhjaibdogaaGreat
open Go Go.SX
set_option linter.unusedSimpArgs false
set_option linter.unusedVariables false
set_option maxRecDepth 100000
set_option maxHeartbeats 80000000
theorem toW0 : runTo Tryz.prog eX 2250 (pis bX [.c []]) (startE Tryz.f157 aW157_0) = some (pis bX kX1, sX1 3) := by kernel_rfl
end Go.Proofs.YtdjpkhjaibdogaaGreat
