/-
  Lemmas towards ModesBegins (joined texts: QF).
  Conditions: none.
-/
import Derived.Test.YtdjpkhjaibdogaaGreatL16
namespace Go.Proofs.YtdjpkhjaibdogaaGreat
open Go Go.SX
set_option linter.unusedSimpArgs false
set_option linter.unusedVariables false
set_option maxRecDepth 100000
set_option maxHeartbeats 80000000
theorem f85b : PSpec Tryz.prog 85 a85b r85b := pQ (lp := []) (lv := []) fact_nil fact_nil (by kernel_rfl)
end Go.Proofs.YtdjpkhjaibdogaaGreat
