/-
  Lemmas towards ModesSteps (joined texts: QF).
  Conditions: none.
-/
import Derived.Test.YtdjpkhjaibdogaaGreatL42
set_option linter.unusedSimpArgs false
set_option linter.unusedVariables false
set_option maxRecDepth 100000
set_option maxHeartbeats 80000000
namespace Go.Proofs.YtdjpkhjaibdogaaGreat
open Go Go.SX
theorem Bkn:C0 Tryz.prog 85 Bfr Bfs:=pQ (lp:=[]) (lv:=[]) Bv Bv (by kernel_rfl)
end Go.Proofs.YtdjpkhjaibdogaaGreat
