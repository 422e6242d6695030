/-
  vm.Exec of a handler that does not end: a stage.
  Conditions: none.
-/
import Derived.Test.YtdjpkhjaibdogaaGreatXA
namespace Go.Proofs.YtdjpkhjaibdogaaGreat
open Go Go.SX
set_option linter.unusedSimpArgs false
set_option linter.unusedVariables false
set_option maxRecDepth 100000
set_option maxHeartbeats 80000000
theorem toE (p : Int) : outFE (runK Tryz.prog eX Tryz.f157.results.toList 4000 (pis bX kX4) (sX4 p)) = some rW157_0 := by kernel_rfl
end Go.Proofs.YtdjpkhjaibdogaaGreat
