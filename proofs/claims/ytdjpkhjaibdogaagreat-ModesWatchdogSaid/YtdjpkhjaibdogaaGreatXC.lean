/-
  vm.Exec of a handler that does not end: a stage.
  Conditions: none.
-/
import Derived.Test.YtdjpkhjaibdogaaGreatXA
namespace Go.Proofs.YtdjpkhjaibdogaaGreat
open Go Go.SX
set_option linter.unusedSimpArgs false
set_option linter.unusedVariables false
set_option maxRecDepth 100000
set_option maxHeartbeats 80000000
theorem toV0 : runTo Tryz.prog eX 2250 (pis bX [.c []]) (startE Tryz.f157 aV157_1) = some (pis bX kX1, sX1 1) := by kernel_rfl
end Go.Proofs.YtdjpkhjaibdogaaGreat
