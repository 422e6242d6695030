/-
  Lemmas towards ModesBegins (joined texts: QD).
  Conditions: none.
-/
import Derived.Test.YtdjpkhjaibdogaaGreatL16
namespace Go.Proofs.YtdjpkhjaibdogaaGreat
open Go Go.SX
set_option linter.unusedSimpArgs false
set_option linter.unusedVariables false
set_option maxRecDepth 100000
set_option maxHeartbeats 80000000
theorem f93b : VSpec Tryz.prog 93 a93b r93b := vQ (lp := []) (lv := []) fact_nil fact_nil (by kernel_rfl)
theorem f51b : VSpec Tryz.prog 51 a51b r51b := vQ (lp := []) (lv := [(93, a93b, r93b)]) fact_nil (fact_cons f93b fact_nil) (by kernel_rfl)
end Go.Proofs.YtdjpkhjaibdogaaGreat
